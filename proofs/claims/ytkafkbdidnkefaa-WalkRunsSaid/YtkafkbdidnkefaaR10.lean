-- laid by a program of this session (wip/xprint)
import Derived.Test.YtkafkbdidnkefaaR0
import Derived.Test.YtkafkbdidnkefaaR9
namespace Go.Proofs.Ytkafkbdidnkefaa.R
open Go.RowKit Go.Proofs.YtkafkbdidnkefaaW.PrintWords Go.Proofs.YtkafkbdidnkefaaW.PrintLast Go.Proofs.YtkafkbdidnkefaaW.PrintMore
attribute [local go_sem] max2_int min2_int max_two min_two max_three min_three max_four min_four   -- for this text's walks alone
set_option linter.unusedVariables false
set_option linter.unusedSimpArgs false

/-! ### tattingref20_Way: function 16 -/
mutual
def tattingref20_Way.l0 : Nat → List Int → List Int → List (List Int) → List (S29) → Int → Int → Option ((List (S29)))
 | 0, _, _, _, _, _, _ => none
 | k + 1, x0, x1, x5, x6, x7, x8 => if x7 > 0 then (tattingref20_Way.j1 k x0 x1 x5 x6 x7 x8 (decide (x8 > 0))) else (tattingref20_Way.j1 k x0 x1 x5 x6 x7 x8 false)
def tattingref20_Way.j1 : Nat → List Int → List Int → List (List Int) → List (S29) → Int → Int → Bool → Option ((List (S29)))
 | 0, _, _, _, _, _, _, _ => none
 | k + 1, x0, x1, x5, x6, x7, x8, x23 => if x23 = true then (if 0 ≤ x7 then (if x7 < (x5.length : Int) then (if 0 ≤ x8 then (if x8 < ((rd_L4 x5 x7).length : Int) then (if 0 ≤ (wrap64 (x8 - 1)) then (if (wrap64 (x8 - 1)) < ((rd_L4 x5 x7).length : Int) then (if (rd (rd_L4 x5 x7) x8) = (rd (rd_L4 x5 x7) (wrap64 (x8 - 1))) then (tattingref20_Way.l0 k x0 x1 x5 x6 x7 (wrap64 (x8 - 1))) else (if 0 ≤ (wrap64 (x7 - 1)) then (if (wrap64 (x7 - 1)) < (x0.length : Int) then (if (wrap64 (x8 - 1)) < (x1.length : Int) then (if (rd x0 (wrap64 (x7 - 1))) = (rd x1 (wrap64 (x8 - 1))) then (if x6.length < 8796093022208 then (tattingref20_Way.l0 k x0 x1 x5 (x6 ++ [(⟨wrap64 (x7 - 1), wrap64 (x8 - 1)⟩ : S29)]) (wrap64 (x7 - 1)) (wrap64 (x8 - 1))) else (none)) else (tattingref20_Way.l0 k x0 x1 x5 x6 (wrap64 (x7 - 1)) x8)) else (none)) else (none)) else (none))) else (none)) else (none)) else (none)) else (none)) else (none)) else (none)) else (tattingref20_Way.l1 k x6 ([] : List (S29)) (wrap64 ((x6.length : Int) - 1)))
def tattingref20_Way.l1 : Nat → List (S29) → List (S29) → Int → Option ((List (S29)))
 | 0, _, _, _ => none
 | k + 1, x6, x9, x10 => if x10 ≥ 0 then (if 0 ≤ x10 then (if x10 < (x6.length : Int) then (if x9.length < 8796093022208 then (tattingref20_Way.l1 k x6 (x9 ++ [(⟨(rd_T29 x6 x10).f0, (rd_T29 x6 x10).f1⟩ : S29)]) (wrap64 (x10 - 1))) else (none)) else (none)) else (none)) else (some x9)
end
def tattingref20_Way.f (k : Nat) (l0 : List Int) (l1 : List Int) : Option ((List (S29))) := (tattingref7_Ahead.f k l0 l1).bind fun t345 => (tattingref20_Way.l0 k l0 l1 t345 ([] : List (S29)) (l0.length : Int) (l1.length : Int))
theorem tattingref20_Way.mono_l : ∀ k, (∀ y0 y1 y2 y3 y4 y5, LeO (tattingref20_Way.l0 k y0 y1 y2 y3 y4 y5) (tattingref20_Way.l0 (k + 1) y0 y1 y2 y3 y4 y5)) ∧ (∀ y0 y1 y2 y3 y4 y5 y6, LeO (tattingref20_Way.j1 k y0 y1 y2 y3 y4 y5 y6) (tattingref20_Way.j1 (k + 1) y0 y1 y2 y3 y4 y5 y6)) ∧ (∀ y0 y1 y2, LeO (tattingref20_Way.l1 k y0 y1 y2) (tattingref20_Way.l1 (k + 1) y0 y1 y2))
 | 0 => ⟨fun _ _ _ _ _ _ r h => by simp [tattingref20_Way.l0] at h, fun _ _ _ _ _ _ _ r h => by simp [tattingref20_Way.j1] at h, fun _ _ _ r h => by simp [tattingref20_Way.l1] at h⟩
 | k + 1 => by
  obtain ⟨ih0, ih1, ih2⟩ := tattingref20_Way.mono_l k
  refine ⟨?_, ?_, ?_⟩
  ·intro y0 y1 y2 y3 y4 y5
   unfold tattingref20_Way.l0
   repeat' first
   | (with_reducible exact ih0 _ _ _ _ _ _)
   | (with_reducible exact ih1 _ _ _ _ _ _ _)
   | (with_reducible exact ih2 _ _ _)
   | (with_reducible exact tattingref7_Ahead.mono _ _ _)
   | (with_reducible exact LeO.refl _)
   | (with_reducible exact LeO.none _)
   | (with_reducible refine LeO.ite ?_ ?_)
   | (with_reducible refine LeO.bind ?_ (fun _ => ?_))
   | exact ih0 _ _ _ _ _ _
   | exact ih1 _ _ _ _ _ _ _
   | exact ih2 _ _ _
   | exact tattingref7_Ahead.mono _ _ _
   | exact LeO.none _
   | refine LeO.ite ?_ ?_
   | refine LeO.bind ?_ (fun _ => ?_)
  ·intro y0 y1 y2 y3 y4 y5 y6
   unfold tattingref20_Way.j1
   repeat' first
   | (with_reducible exact ih0 _ _ _ _ _ _)
   | (with_reducible exact ih1 _ _ _ _ _ _ _)
   | (with_reducible exact ih2 _ _ _)
   | (with_reducible exact tattingref7_Ahead.mono _ _ _)
   | (with_reducible exact LeO.refl _)
   | (with_reducible exact LeO.none _)
   | (with_reducible refine LeO.ite ?_ ?_)
   | (with_reducible refine LeO.bind ?_ (fun _ => ?_))
   | exact ih0 _ _ _ _ _ _
   | exact ih1 _ _ _ _ _ _ _
   | exact ih2 _ _ _
   | exact tattingref7_Ahead.mono _ _ _
   | exact LeO.none _
   | refine LeO.ite ?_ ?_
   | refine LeO.bind ?_ (fun _ => ?_)
  ·intro y0 y1 y2
   unfold tattingref20_Way.l1
   repeat' first
   | (with_reducible exact ih0 _ _ _ _ _ _)
   | (with_reducible exact ih1 _ _ _ _ _ _ _)
   | (with_reducible exact ih2 _ _ _)
   | (with_reducible exact tattingref7_Ahead.mono _ _ _)
   | (with_reducible exact LeO.refl _)
   | (with_reducible exact LeO.none _)
   | (with_reducible refine LeO.ite ?_ ?_)
   | (with_reducible refine LeO.bind ?_ (fun _ => ?_))
   | exact ih0 _ _ _ _ _ _
   | exact ih1 _ _ _ _ _ _ _
   | exact ih2 _ _ _
   | exact tattingref7_Ahead.mono _ _ _
   | exact LeO.none _
   | refine LeO.ite ?_ ?_
   | refine LeO.bind ?_ (fun _ => ?_)
theorem tattingref20_Way.mono : ∀ a0 a1 k, LeO (tattingref20_Way.f k a0 a1) (tattingref20_Way.f (k + 1) a0 a1) := by
 intro a0 a1 k
 obtain ⟨ih0, ih1, ih2⟩ := tattingref20_Way.mono_l k
 unfold tattingref20_Way.f
 repeat' first
   | (with_reducible exact ih0 _ _ _ _ _ _)
   | (with_reducible exact ih1 _ _ _ _ _ _ _)
   | (with_reducible exact ih2 _ _ _)
   | (with_reducible exact tattingref7_Ahead.mono _ _ _)
   | (with_reducible exact LeO.refl _)
   | (with_reducible exact LeO.none _)
   | (with_reducible refine LeO.ite ?_ ?_)
   | (with_reducible refine LeO.bind ?_ (fun _ => ?_))
   | exact ih0 _ _ _ _ _ _
   | exact ih1 _ _ _ _ _ _ _
   | exact ih2 _ _ _
   | exact tattingref7_Ahead.mono _ _ _
   | exact LeO.none _
   | refine LeO.ite ?_ ?_
   | refine LeO.bind ?_ (fun _ => ?_)
set_option maxHeartbeats 8000000 in
set_option maxRecDepth 100000 in
theorem tattingref20_Way.calls (k : Nat) (A0 : Option Addr) (c0 : Nat) (l0 : List Int) (A1 : Option Addr) (c1 : Nat) (l1 : List Int) (r : List (S29)) (w : World) (hr0 : Kd.C (Kd.int .i64) w A0 l0.length l0) (hc0 : l0.length ≤ c0) (hr1 : Kd.C (Kd.int .i64) w A1 l1.length l1) (hc1 : l1.length ≤ c1) (h : tattingref20_Way.f k l0 l1 = some r) :
  Calls Try.prog 16 #[.slice A0 l0.length c0, .slice A1 l1.length c1] w fun e w' => ∃ v0_ : Value, e = .returned (v0_) ∧ Kd.R k29 29 w' w.heap.size (fun _ => True) v0_ r ∧ Below w.heap.size w w' := by
 have hu29 := Try.underlying29
 have HR0 := Aside0.mk hr0
 have HC0 := Aside0.mk hc0
 clear hr0 hc0
 have HR1 := Aside0.mk hr1
 have HC1 := Aside0.mk hc1
 clear hr1 hc1
 have HB := Aside0.mk (Below.refl w.heap.size w)
 have H : ((tattingref7_Ahead.f k l0 l1).bind fun t345 => (tattingref20_Way.l0 k l0 l1 t345 ([] : List (S29)) (l0.length : Int) (l1.length : Int))) = some r := h
 clear h
 replace H := Option.bind_eq_some_iff.mp H
 obtain ⟨t345, A30, H⟩ := H
 replace H : (tattingref20_Way.l0 k l0 l1 t345 ([] : List (S29)) (l0.length : Int) (l1.length : Int)) = some r := H
 have A3 := Aside0.mk A30
 clear A30
 have H' := Aside0.mk H
 clear H
 go_enter Try.func16, Try.ntmps16
 go_wp2_with (first | (go_at_call 32; (with_reducible refine (tattingref7_Ahead.calls k _ _ l0 _ _ l1 t345 _ ?side1 ?side2 ?side3 ?side4 A3.out).mono ?_); (case side1 => repeat (first | exact HR0.out | (with_reducible refine Kd.C_alloc ?_ _) | (with_reducible refine Kd.C_drewN ?_ _) | (with_reducible refine Kd.C_drew ?_))); (case side2 => exact HC0.out); (case side3 => repeat (first | exact HR1.out | (with_reducible refine Kd.C_alloc ?_ _) | (with_reducible refine Kd.C_drewN ?_ _) | (with_reducible refine Kd.C_drew ?_))); (case side4 => exact HC1.out); rintro e w4 ⟨v346, rfl, ho0, hb⟩; have n0_ := Aside0.mk (Kd.S_lower ho0 (below_size (by repeat (first | (with_reducible first | exact HB.out | apply below_alloc | apply pw_below_drewN | apply below_drew1) | exact HB.out)))); have n1_ := Aside0.mk (below_step (by repeat (first | (with_reducible first | exact HB.out | apply below_alloc | apply pw_below_drewN | apply below_drew1) | exact HB.out)) hb); clear HB; have HO347 := n0_; have HB := n1_; clear n0_ n1_; (try clear hb); (try clear hb2); (try clear hk); (try clear hi); (try clear ho0)))
 repeat (go_quiet (first | (go_at_call 32; (with_reducible refine (tattingref7_Ahead.calls k _ _ l0 _ _ l1 t345 _ ?side1 ?side2 ?side3 ?side4 A3.out).mono ?_); (case side1 => repeat (first | exact HR0.out | (with_reducible refine Kd.C_alloc ?_ _) | (with_reducible refine Kd.C_drewN ?_ _) | (with_reducible refine Kd.C_drew ?_))); (case side2 => exact HC0.out); (case side3 => repeat (first | exact HR1.out | (with_reducible refine Kd.C_alloc ?_ _) | (with_reducible refine Kd.C_drewN ?_ _) | (with_reducible refine Kd.C_drew ?_))); (case side4 => exact HC1.out); rintro e w4 ⟨v346, rfl, ho0, hb⟩; have n0_ := Aside0.mk (Kd.S_lower ho0 (below_size (by repeat (first | (with_reducible first | exact HB.out | apply below_alloc | apply pw_below_drewN | apply below_drew1) | exact HB.out)))); have n1_ := Aside0.mk (below_step (by repeat (first | (with_reducible first | exact HB.out | apply below_alloc | apply pw_below_drewN | apply below_drew1) | exact HB.out)) hb); clear HB; have HO347 := n0_; have HB := n1_; clear n0_ n1_; (try clear hb); (try clear hb2); (try clear hk); (try clear hi); (try clear ho0))); try go_wp2_with (first | (go_at_call 32; (with_reducible refine (tattingref7_Ahead.calls k _ _ l0 _ _ l1 t345 _ ?side1 ?side2 ?side3 ?side4 A3.out).mono ?_); (case side1 => repeat (first | exact HR0.out | (with_reducible refine Kd.C_alloc ?_ _) | (with_reducible refine Kd.C_drewN ?_ _) | (with_reducible refine Kd.C_drew ?_))); (case side2 => exact HC0.out); (case side3 => repeat (first | exact HR1.out | (with_reducible refine Kd.C_alloc ?_ _) | (with_reducible refine Kd.C_drewN ?_ _) | (with_reducible refine Kd.C_drew ?_))); (case side4 => exact HC1.out); rintro e w4 ⟨v346, rfl, ho0, hb⟩; have n0_ := Aside0.mk (Kd.S_lower ho0 (below_size (by repeat (first | (with_reducible first | exact HB.out | apply below_alloc | apply pw_below_drewN | apply below_drew1) | exact HB.out)))); have n1_ := Aside0.mk (below_step (by repeat (first | (with_reducible first | exact HB.out | apply below_alloc | apply pw_below_drewN | apply below_drew1) | exact HB.out)) hb); clear HB; have HO347 := n0_; have HB := n1_; clear n0_ n1_; (try clear hb); (try clear hb2); (try clear hk); (try clear hi); (try clear ho0))))
 go_loopg [6, 7, 8] k (fun kq v6 v7 v8 w' => ∃ (x6_1 : List (S29)) (x7_1 : Int) (x8_1 : Int), v7 = .int .i64 x7_1 ∧ v8 = .int .i64 x8_1 ∧ Aside0 (tattingref20_Way.l0 kq l0 l1 t345 x6_1 x7_1 x8_1 = some r) ∧ Aside0 (kq ≤ k) ∧ Aside0 (Kd.S (Kd.slice 3 (Kd.int .i64)) 26 w' w.heap.size (fun _ => True) v346 t345) ∧ Aside0 (Kd.R k29 29 w' w.heap.size (fun _ => True) v6 x6_1) ∧ Aside0 (Below w.heap.size w w'))
 case atStart => exact ⟨(([] : List (S29))), ((l0.length : Int)), ((l1.length : Int)), (by first | rfl | (simp; done) | (simp [*]; done)), (by first | rfl | (simp; done) | (simp [*]; done)), H', ⟨Nat.le_refl _⟩, ⟨by (with_reducible repeat (first | apply Kd.S_alloc | apply Kd.S_drewN | apply Kd.S_drew)); exact HO347.out⟩, ⟨by first | exact Kd.R_nil _ _ _ _ _ | exact Kd.N_nil _ _ _ _ _ | exact Kd.V_nil _ _ _ _ _ | exact Kd.Q_nil _ _ _ _ _ | exact Kd.S_nil _ _ _ _ _⟩, ⟨by repeat (first | (with_reducible first | exact HB.out | apply below_alloc | apply pw_below_drewN | apply below_drew1) | exact HB.out)⟩⟩
 case round =>
  clear H'
  try clear c1
  try clear p2
  obtain ⟨x6_1, x7_1, x8_1, rfl, rfl, HA, HK1, HO_5, HO_6, HB⟩ := hrel
  cases gk with
  | zero => exact absurd HA.out (by simp [tattingref20_Way.l0])
  | succ k1 =>
   have H := HA.out
   clear HA
   simp only [tattingref20_Way.l0] at H
   have HC5 := Aside0.mk H
   clear H
   go_upto_region 4 with (fail)
   repeat (go_quiet (fail); go_upto_region 4 with (fail))
   go_cut [23] (fun v23 wc => ∃ (kq : Nat) (x23_4 : Bool), v23 = .bool x23_4 ∧ Aside0 (tattingref20_Way.j1 kq l0 l1 t345 x6_1 x7_1 x8_1 x23_4 = some r) ∧ Aside0 (kq ≤ k1) ∧ Aside0 (Kd.S (Kd.slice 3 (Kd.int .i64)) 26 wc w.heap.size (fun _ => True) v346 t345) ∧ Aside0 (Kd.R k29 29 wc w.heap.size (fun _ => True) u6 x6_1) ∧ Aside0 (Below w.heap.size w wc))
   case first =>
    have H := HC5.out
    clear HC5
    by_cases c6 : x7_1 > 0
    ·rw [if_pos c6] at H
     have c6b0 : decide (0 < x7_1) = true := decide_eq_true c6
     clear c6
     (first | rw [c6b0] | (simp only [i64_w, i32_w]; rw [c6b0]) | skip)
     have H' := Aside0.mk H
     clear H
     go_wp2
     repeat (go_quiet (fail); try go_wp2)
     go_meet
     case rel => exact ⟨_, (decide (x8_1 > 0)), (by first | rfl | (simp; done) | (simp [*]; done)), H', ⟨by have := HK1.out; first | omega | exact Nat.le_refl _⟩, ⟨by (with_reducible repeat (first | apply Kd.S_alloc | apply Kd.S_drewN | apply Kd.S_drew)); exact HO_5.out⟩, ⟨by (with_reducible repeat (first | apply Kd.R_alloc | apply Kd.R_drewN | apply Kd.R_drew)); exact HO_6.out⟩, ⟨by repeat (first | (with_reducible first | exact HB.out | apply below_alloc | apply pw_below_drewN | apply below_drew1) | exact HB.out)⟩⟩
    ·rw [if_neg c6] at H
     have c6b0 : decide (0 < x7_1) = false := decide_eq_false c6
     clear c6
     (first | rw [c6b0] | (simp only [i64_w, i32_w]; rw [c6b0]) | skip)
     have H' := Aside0.mk H
     clear H
     go_wp2
     repeat (go_quiet (fail); try go_wp2)
     go_meet
     case rel => exact ⟨_, (false), (by first | rfl | (simp; done) | (simp [*]; done)), H', ⟨by have := HK1.out; first | omega | exact Nat.le_refl _⟩, ⟨by (with_reducible repeat (first | apply Kd.S_alloc | apply Kd.S_drewN | apply Kd.S_drew)); exact HO_5.out⟩, ⟨by (with_reducible repeat (first | apply Kd.R_alloc | apply Kd.R_drewN | apply Kd.R_drew)); exact HO_6.out⟩, ⟨by repeat (first | (with_reducible first | exact HB.out | apply below_alloc | apply pw_below_drewN | apply below_drew1) | exact HB.out)⟩⟩
   case rest =>
    clear HC5
    try clear c1
    try clear p2
    try clear c6
    try clear c6b0
    try clear p2
    obtain ⟨kq, x23_4, rfl, HA, HJ4, HO_5, HO_6, HB⟩ := hcut
    cases kq with
    | zero => exact absurd HA.out (by simp [tattingref20_Way.j1])
    | succ kj4 =>
     have H := HA.out
     clear HA
     simp only [tattingref20_Way.j1] at H
     by_cases c7 : x23_4 = true
     ·subst c7
      have H1 : (if 0 ≤ x7_1 then (if x7_1 < (t345.length : Int) then (if 0 ≤ x8_1 then (if x8_1 < ((rd_L4 t345 x7_1).length : Int) then (if 0 ≤ (wrap64 (x8_1 - 1)) then (if (wrap64 (x8_1 - 1)) < ((rd_L4 t345 x7_1).length : Int) then (if (rd (rd_L4 t345 x7_1) x8_1) = (rd (rd_L4 t345 x7_1) (wrap64 (x8_1 - 1))) then (tattingref20_Way.l0 kj4 l0 l1 t345 x6_1 x7_1 (wrap64 (x8_1 - 1))) else (if 0 ≤ (wrap64 (x7_1 - 1)) then (if (wrap64 (x7_1 - 1)) < (l0.length : Int) then (if (wrap64 (x8_1 - 1)) < (l1.length : Int) then (if (rd l0 (wrap64 (x7_1 - 1))) = (rd l1 (wrap64 (x8_1 - 1))) then (if x6_1.length < 8796093022208 then (tattingref20_Way.l0 kj4 l0 l1 t345 (x6_1 ++ [(⟨wrap64 (x7_1 - 1), wrap64 (x8_1 - 1)⟩ : S29)]) (wrap64 (x7_1 - 1)) (wrap64 (x8_1 - 1))) else (none)) else (tattingref20_Way.l0 kj4 l0 l1 t345 x6_1 (wrap64 (x7_1 - 1)) x8_1)) else (none)) else (none)) else (none))) else (none)) else (none)) else (none)) else (none)) else (none)) else (none)) = some r := by rw [if_pos rfl] at H; exact H
      clear H
      have H := H1
      clear H1
      by_cases c8 : 0 ≤ x7_1
      ·rw [if_pos c8] at H
       have c8b0 : decide (0 ≤ x7_1) = true := decide_eq_true c8
       clear c8
       by_cases c9 : x7_1 < (t345.length : Int)
       ·rw [if_pos c9] at H
        have c9b0 : decide (x7_1 < (t345.length : Int)) = true := decide_eq_true c9
        clear c9
        by_cases c10 : 0 ≤ x8_1
        ·rw [if_pos c10] at H
         have c10b0 : decide (0 ≤ x8_1) = true := decide_eq_true c10
         clear c10
         by_cases c11 : x8_1 < ((rd_L4 t345 x7_1).length : Int)
         ·rw [if_pos c11] at H
          have c11b0 : decide (x8_1 < ((rd_L4 t345 x7_1).length : Int)) = true := decide_eq_true c11
          clear c11
          obtain ⟨ji12, hji12⟩ : ∃ j_ : Int, (wrap64 (x8_1 - 1)) = j_ := ⟨_, rfl⟩
          replace H : (if 0 ≤ (ji12) then (if (ji12) < ((rd_L4 t345 x7_1).length : Int) then (if (rd (rd_L4 t345 x7_1) x8_1) = (rd (rd_L4 t345 x7_1) (ji12)) then (tattingref20_Way.l0 kj4 l0 l1 t345 x6_1 x7_1 ji12) else (if 0 ≤ (wrap64 (x7_1 - 1)) then (if (wrap64 (x7_1 - 1)) < (l0.length : Int) then (if (ji12) < (l1.length : Int) then (if (rd l0 (wrap64 (x7_1 - 1))) = (rd l1 (ji12)) then (if x6_1.length < 8796093022208 then (tattingref20_Way.l0 kj4 l0 l1 t345 (x6_1 ++ [(⟨wrap64 (x7_1 - 1), ji12⟩ : S29)]) (wrap64 (x7_1 - 1)) ji12) else (none)) else (tattingref20_Way.l0 kj4 l0 l1 t345 x6_1 (wrap64 (x7_1 - 1)) x8_1)) else (none)) else (none)) else (none))) else (none)) else (none)) = some r := by first | (rw [hji12] at H; exact H) | (simp only [hji12] at H ⊢; exact H)
          have hji12w : (IntKind.i64.wrap (x8_1 - 1)) = ji12 := (i64_w _).trans hji12
          by_cases c13 : 0 ≤ (ji12)
          ·rw [if_pos c13] at H
           have c13b0 : decide (0 ≤ (ji12)) = true := decide_eq_true c13
           clear c13
           by_cases c14 : (ji12) < ((rd_L4 t345 x7_1).length : Int)
           ·rw [if_pos c14] at H
            have c14b0 : decide ((ji12) < ((rd_L4 t345 x7_1).length : Int)) = true := decide_eq_true c14
            clear c14
            by_cases c15 : (rd (rd_L4 t345 x7_1) x8_1) = (rd (rd_L4 t345 x7_1) (ji12))
            ·rw [if_pos c15] at H
             have c15b0 : ((rd (rd_L4 t345 x7_1) x8_1) == (rd (rd_L4 t345 x7_1) (ji12))) = true := beq_iff_eq.mpr c15
             have c15b1 : ((rd (rd_L4 t345 x7_1) x8_1) != (rd (rd_L4 t345 x7_1) (ji12))) = false := bne_eq_false_iff_eq.mpr c15
             clear c15
             have H' := Aside0.mk H
             clear H
             obtain ⟨Ao16, co16, eo16⟩ := Kd.S_slice HO_5.out
             subst eo16
             have p348 : 0 ≤ (x7_1 : Int) := of_decide_eq_true (by first | (with_reducible assumption) | assumption)
             have q348 : x7_1 < (t345.length : Int) := of_decide_eq_true (by first | (with_reducible assumption) | assumption)
             obtain ⟨ad348, A348_0, c348_0, e348, hx348_0, hl348_0, hi348_0⟩ := at_L4 (Kd.S_reads' HO_5.out).2.2 x7_1 p348 q348
             cases e348
             obtain ⟨ce348, hce348, hMe348, hcc348⟩ := Kd.S_get HO_5.out [] x7_1 p348 (by first | exact q348 | exact of_decide_eq_true (by first | (with_reducible assumption) | assumption) | (have e_ := (Kd.S_reads' HO_5.out).1; omega))
             obtain ⟨ve348_0, rfl, ge348_0⟩ := hMe348
             have hv348_0 := hcc348 0 _ rfl
             rw [Nat.add_zero, show ((Kd.slice 3 (Kd.int .i64))).sz = 1 from rfl, Nat.mul_one] at hv348_0
             replace hv348_0 := Option.some.inj (hv348_0.symm.trans hx348_0)
             rw [hv348_0] at ge348_0
             have HL348_0 := Aside0.mk (show Kd.R (Kd.int .i64) 3 _ _ _ _ (rd_L4 t345 x7_1) from ge348_0)
             clear hv348_0 ge348_0
             clear hcc348 hce348
             have HR348_0 := Aside0.mk hi348_0
             have HC348_0 := Aside0.mk hl348_0
             clear hi348_0 hl348_0
             replace p348 := eq_true p348
             replace q348 := eq_true q348
             have p349 : 0 ≤ (x8_1 : Int) := of_decide_eq_true (by first | (with_reducible assumption) | assumption)
             have q349 : x8_1 < ((rd_L4 t345 x7_1).length : Int) := of_decide_eq_true (by first | (with_reducible assumption) | assumption)
             obtain ⟨ad349, e349, hx349_0⟩ := Kd.at_int (by repeat (first | (with_reducible exact HR348_0.out) | (with_reducible refine Kd.C_alloc ?_ _) | (with_reducible refine Kd.C_drewN ?_ _) | (with_reducible refine Kd.C_drew ?_) | exact HR348_0.out)) x8_1 p349 q349
             cases e349
             replace p349 := eq_true p349
             replace q349 := eq_true q349
             have p350 : 0 ≤ (x7_1 : Int) := of_decide_eq_true (by first | (with_reducible assumption) | assumption)
             have q350 : x7_1 < (t345.length : Int) := of_decide_eq_true (by first | (with_reducible assumption) | assumption)
             obtain ⟨ad350, A350_0, c350_0, e350, hx350_0, hl350_0, hi350_0⟩ := at_L4 (Kd.S_reads' HO_5.out).2.2 x7_1 p350 q350
             obtain rfl : ad348 = ad350 := (by injection e350)
             obtain ⟨ce350, hce350, hMe350, hcc350⟩ := Kd.S_get HO_5.out [] x7_1 p350 (by first | exact q350 | exact of_decide_eq_true (by first | (with_reducible assumption) | assumption) | (have e_ := (Kd.S_reads' HO_5.out).1; omega))
             obtain ⟨ve350_0, rfl, ge350_0⟩ := hMe350
             have hv350_0 := hcc350 0 _ rfl
             rw [Nat.add_zero, show ((Kd.slice 3 (Kd.int .i64))).sz = 1 from rfl, Nat.mul_one] at hv350_0
             replace hv350_0 := Option.some.inj (hv350_0.symm.trans hx350_0)
             rw [hv350_0] at ge350_0
             have HL350_0 := Aside0.mk (show Kd.R (Kd.int .i64) 3 _ _ _ _ (rd_L4 t345 x7_1) from ge350_0)
             clear hv350_0 ge350_0
             clear hcc350 hce350
             have HR350_0 := Aside0.mk hi350_0
             have HC350_0 := Aside0.mk hl350_0
             clear hi350_0 hl350_0
             replace p350 := eq_true p350
             replace q350 := eq_true q350
             have ea_ := Option.some.inj (hx348_0.symm.trans hx350_0)
             injection ea_ with ea_ en_ ec_
             subst ea_
             subst ec_
             clear en_
             have p351 : 0 ≤ ((ji12) : Int) := of_decide_eq_true (by first | (with_reducible assumption) | assumption)
             have q351 : (ji12) < ((rd_L4 t345 x7_1).length : Int) := of_decide_eq_true (by first | (with_reducible assumption) | assumption)
             obtain ⟨ad351, e351, hx351_0⟩ := Kd.at_int (by repeat (first | (with_reducible exact HR350_0.out) | (with_reducible refine Kd.C_alloc ?_ _) | (with_reducible refine Kd.C_drewN ?_ _) | (with_reducible refine Kd.C_drew ?_) | exact HR350_0.out)) (ji12) p351 q351
             cases e351
             replace p351 := eq_true p351
             replace q351 := eq_true q351
             go_wp2
             repeat (go_quiet (fail); try go_wp2)
             go_roundg kj4
             case measure => have := HK1.out; have := HJ4.out; omega
             case rel => exact ⟨(x6_1), (x7_1), (ji12), (by first | rfl | (simp; done) | (simp [*]; done)), (by first | rfl | (simp; done) | (simp only [← hji12] <;> (first | rfl | simp)) | (simp [*]; done)), H', ⟨by have := HK1.out; have := HJ4.out; omega⟩, ⟨by (with_reducible repeat (first | apply Kd.S_alloc | apply Kd.S_drewN | apply Kd.S_drew)); exact HO_5.out⟩, ⟨by (with_reducible repeat (first | apply Kd.R_alloc | apply Kd.R_drewN | apply Kd.R_drew)); exact HO_6.out⟩, ⟨by repeat (first | (with_reducible first | exact HB.out | apply below_alloc | apply pw_below_drewN | apply below_drew1) | exact HB.out)⟩⟩
            ·rw [if_neg c15] at H
             have c15b0 : ((rd (rd_L4 t345 x7_1) x8_1) == (rd (rd_L4 t345 x7_1) (ji12))) = false := beq_eq_false_iff_ne.mpr c15
             have c15b1 : ((rd (rd_L4 t345 x7_1) x8_1) != (rd (rd_L4 t345 x7_1) (ji12))) = true := bne_iff_ne.mpr c15
             obtain ⟨ji17, hji17⟩ : ∃ j_ : Int, (wrap64 (x7_1 - 1)) = j_ := ⟨_, rfl⟩
             replace H : (if 0 ≤ (ji17) then (if (ji17) < (l0.length : Int) then (if (ji12) < (l1.length : Int) then (if (rd l0 (ji17)) = (rd l1 (ji12)) then (if x6_1.length < 8796093022208 then (tattingref20_Way.l0 kj4 l0 l1 t345 (x6_1 ++ [(⟨ji17, ji12⟩ : S29)]) ji17 ji12) else (none)) else (tattingref20_Way.l0 kj4 l0 l1 t345 x6_1 ji17 x8_1)) else (none)) else (none)) else (none)) = some r := by first | (rw [hji17] at H; exact H) | (simp only [hji17] at H ⊢; exact H)
             have hji17w : (IntKind.i64.wrap (x7_1 - 1)) = ji17 := (i64_w _).trans hji17
             by_cases c18 : 0 ≤ (ji17)
             ·rw [if_pos c18] at H
              have c18b0 : decide (0 ≤ (ji17)) = true := decide_eq_true c18
              clear c18
              by_cases c19 : (ji17) < (l0.length : Int)
              ·rw [if_pos c19] at H
               have c19b0 : decide ((ji17) < (l0.length : Int)) = true := decide_eq_true c19
               clear c19
               by_cases c20 : (ji12) < (l1.length : Int)
               ·rw [if_pos c20] at H
                have c20b0 : decide ((ji12) < (l1.length : Int)) = true := decide_eq_true c20
                clear c20
                by_cases c21 : (rd l0 (ji17)) = (rd l1 (ji12))
                ·rw [if_pos c21] at H
                 have c21b0 : ((rd l0 (ji17)) == (rd l1 (ji12))) = true := beq_iff_eq.mpr c21
                 have c21b1 : ((rd l0 (ji17)) != (rd l1 (ji12))) = false := bne_eq_false_iff_eq.mpr c21
                 clear c21
                 by_cases c22 : x6_1.length < 8796093022208
                 ·rw [if_pos c22] at H
                  have LMc22 := Aside0.mk c22
                  clear c22
                  obtain ⟨y354, hy354⟩ : ∃ y_ : List (S29), y_ = (x6_1 ++ [(⟨ji17, ji12⟩ : S29)]) := ⟨_, rfl⟩
                  replace H : (tattingref20_Way.l0 kj4 l0 l1 t345 y354 ji17 ji12) = some r := by first | (rw [hy354]; with_reducible exact H) | (have H2_ := (Option.bind_some _ _).symm.trans H; rw [hy354]; with_reducible exact H2_) | (have H2_ := (Option.bind_some _ _).symm.trans H; with_reducible exact H2_) | with_reducible exact H | (rw [hy354]; exact H) | exact H
                  have Ny354 := Aside0.mk hy354
                  clear hy354
                  have H' := Aside0.mk H
                  clear H
                  obtain ⟨Ao23, co23, eo23⟩ := Kd.S_slice HO_5.out
                  subst eo23
                  have p348 : 0 ≤ (x7_1 : Int) := of_decide_eq_true (by first | (with_reducible assumption) | assumption)
                  have q348 : x7_1 < (t345.length : Int) := of_decide_eq_true (by first | (with_reducible assumption) | assumption)
                  obtain ⟨ad348, A348_0, c348_0, e348, hx348_0, hl348_0, hi348_0⟩ := at_L4 (Kd.S_reads' HO_5.out).2.2 x7_1 p348 q348
                  cases e348
                  obtain ⟨ce348, hce348, hMe348, hcc348⟩ := Kd.S_get HO_5.out [] x7_1 p348 (by first | exact q348 | exact of_decide_eq_true (by first | (with_reducible assumption) | assumption) | (have e_ := (Kd.S_reads' HO_5.out).1; omega))
                  obtain ⟨ve348_0, rfl, ge348_0⟩ := hMe348
                  have hv348_0 := hcc348 0 _ rfl
                  rw [Nat.add_zero, show ((Kd.slice 3 (Kd.int .i64))).sz = 1 from rfl, Nat.mul_one] at hv348_0
                  replace hv348_0 := Option.some.inj (hv348_0.symm.trans hx348_0)
                  rw [hv348_0] at ge348_0
                  have HL348_0 := Aside0.mk (show Kd.R (Kd.int .i64) 3 _ _ _ _ (rd_L4 t345 x7_1) from ge348_0)
                  clear hv348_0 ge348_0
                  clear hcc348 hce348
                  have HR348_0 := Aside0.mk hi348_0
                  have HC348_0 := Aside0.mk hl348_0
                  clear hi348_0 hl348_0
                  replace p348 := eq_true p348
                  replace q348 := eq_true q348
                  have p349 : 0 ≤ (x8_1 : Int) := of_decide_eq_true (by first | (with_reducible assumption) | assumption)
                  have q349 : x8_1 < ((rd_L4 t345 x7_1).length : Int) := of_decide_eq_true (by first | (with_reducible assumption) | assumption)
                  obtain ⟨ad349, e349, hx349_0⟩ := Kd.at_int (by repeat (first | (with_reducible exact HR348_0.out) | (with_reducible refine Kd.C_alloc ?_ _) | (with_reducible refine Kd.C_drewN ?_ _) | (with_reducible refine Kd.C_drew ?_) | exact HR348_0.out)) x8_1 p349 q349
                  cases e349
                  replace p349 := eq_true p349
                  replace q349 := eq_true q349
                  have p350 : 0 ≤ (x7_1 : Int) := of_decide_eq_true (by first | (with_reducible assumption) | assumption)
                  have q350 : x7_1 < (t345.length : Int) := of_decide_eq_true (by first | (with_reducible assumption) | assumption)
                  obtain ⟨ad350, A350_0, c350_0, e350, hx350_0, hl350_0, hi350_0⟩ := at_L4 (Kd.S_reads' HO_5.out).2.2 x7_1 p350 q350
                  obtain rfl : ad348 = ad350 := (by injection e350)
                  obtain ⟨ce350, hce350, hMe350, hcc350⟩ := Kd.S_get HO_5.out [] x7_1 p350 (by first | exact q350 | exact of_decide_eq_true (by first | (with_reducible assumption) | assumption) | (have e_ := (Kd.S_reads' HO_5.out).1; omega))
                  obtain ⟨ve350_0, rfl, ge350_0⟩ := hMe350
                  have hv350_0 := hcc350 0 _ rfl
                  rw [Nat.add_zero, show ((Kd.slice 3 (Kd.int .i64))).sz = 1 from rfl, Nat.mul_one] at hv350_0
                  replace hv350_0 := Option.some.inj (hv350_0.symm.trans hx350_0)
                  rw [hv350_0] at ge350_0
                  have HL350_0 := Aside0.mk (show Kd.R (Kd.int .i64) 3 _ _ _ _ (rd_L4 t345 x7_1) from ge350_0)
                  clear hv350_0 ge350_0
                  clear hcc350 hce350
                  have HR350_0 := Aside0.mk hi350_0
                  have HC350_0 := Aside0.mk hl350_0
                  clear hi350_0 hl350_0
                  replace p350 := eq_true p350
                  replace q350 := eq_true q350
                  have ea_ := Option.some.inj (hx348_0.symm.trans hx350_0)
                  injection ea_ with ea_ en_ ec_
                  subst ea_
                  subst ec_
                  clear en_
                  have p351 : 0 ≤ ((ji12) : Int) := of_decide_eq_true (by first | (with_reducible assumption) | assumption)
                  have q351 : (ji12) < ((rd_L4 t345 x7_1).length : Int) := of_decide_eq_true (by first | (with_reducible assumption) | assumption)
                  obtain ⟨ad351, e351, hx351_0⟩ := Kd.at_int (by repeat (first | (with_reducible exact HR350_0.out) | (with_reducible refine Kd.C_alloc ?_ _) | (with_reducible refine Kd.C_drewN ?_ _) | (with_reducible refine Kd.C_drew ?_) | exact HR350_0.out)) (ji12) p351 q351
                  cases e351
                  replace p351 := eq_true p351
                  replace q351 := eq_true q351
                  have p352 : 0 ≤ ((ji17) : Int) := of_decide_eq_true (by first | (with_reducible assumption) | assumption)
                  have q352 : (ji17) < (l0.length : Int) := of_decide_eq_true (by first | (with_reducible assumption) | assumption)
                  obtain ⟨ad352, e352, hx352_0⟩ := Kd.at_int HR0.out (ji17) p352 q352
                  cases e352
                  replace hx352_0 := (HB.out.cell (World.block_lt_of_cell? w _ hx352_0)).trans hx352_0
                  replace p352 := eq_true p352
                  replace q352 := eq_true q352
                  have p353 : 0 ≤ ((ji12) : Int) := of_decide_eq_true (by first | (with_reducible assumption) | assumption)
                  have q353 : (ji12) < (l1.length : Int) := of_decide_eq_true (by first | (with_reducible assumption) | assumption)
                  obtain ⟨ad353, e353, hx353_0⟩ := Kd.at_int HR1.out (ji12) p353 q353
                  cases e353
                  replace hx353_0 := (HB.out.cell (World.block_lt_of_cell? w _ hx353_0)).trans hx353_0
                  replace p353 := eq_true p353
                  replace q353 := eq_true q353
                  go_wp2_with (first | ((with_reducible refine gate_builtin (b := .append) (xs := #[.tmp 61, .tmp 65]) rfl ?_); at_builtin; refine Kd.R_append k29 (w0 := w) w.heap.size rfl (.tmp 61) (.tmp 65) 22 29 (.agg #[(.int .i64 0), (.int .i64 0)]) 16 rfl Try.underlying22 info29 rfl (by decide) (by omega) u6 x6_1 (⟨ji17, ji12⟩ : S29) [.int .i64 ji17, .int .i64 ji12] (fun _ => True) (fun _ => False) rfl rfl ?aP (fun _ hk => hk.elim) ?aF ?aO ?aB ?aS ?aL ?_; (case aP => exact k29_mkM _ _ _ (⟨ji17, ji12⟩ : S29)); (case aB => exact (by repeat (first | (with_reducible first | exact HB.out | apply below_alloc | apply pw_below_drewN | apply below_drew1) | exact HB.out))); (case aF => exact (fun _ _ => trivial)); (case aO => exact (by (with_reducible repeat (first | apply Kd.R_alloc | apply Kd.R_drewN | apply Kd.R_drew)); exact HO_6.out)); (case aS => exact (below_size (by repeat (first | (with_reducible first | exact HB.out | apply below_alloc | apply pw_below_drewN | apply below_drew1) | exact HB.out)))); (case aL => have := LMc22.out; omega); intro v355 w24 ho hb hg hat; rw [← Ny354.out] at ho; have n0_ := Aside0.mk (Kd.S_over' (by (with_reducible repeat (first | apply Kd.S_alloc | apply Kd.S_drewN | apply Kd.S_drew)); exact HO_5.out) (Kd.R_typed (by (with_reducible repeat (first | apply Kd.R_alloc | apply Kd.R_drewN | apply Kd.R_drew)); exact HO_6.out)) (by decide) hg); have n1_ := Aside0.mk (Kd.R_over' (by (with_reducible repeat (first | apply Kd.R_alloc | apply Kd.R_drewN | apply Kd.R_drew)); exact HL348_0.out) (Kd.R_typed (by (with_reducible repeat (first | apply Kd.R_alloc | apply Kd.R_drewN | apply Kd.R_drew)); exact HO_6.out)) (by decide) hg); have n2_ := Aside0.mk (Kd.R_over' (by (with_reducible repeat (first | apply Kd.R_alloc | apply Kd.R_drewN | apply Kd.R_drew)); exact HL350_0.out) (Kd.R_typed (by (with_reducible repeat (first | apply Kd.R_alloc | apply Kd.R_drewN | apply Kd.R_drew)); exact HO_6.out)) (by decide) hg); have n3_ := Aside0.mk (hb); have n4_ := Aside0.mk (ho); clear HO_5; clear HL348_0; clear HL350_0; clear HB; clear HO_6; have HO_5 := n0_; have HL348_0 := n1_; have HL350_0 := n2_; have HB := n3_; have HO356 := n4_; clear n0_ n1_ n2_ n3_ n4_; clear ho hb hg hat))
                  repeat (go_quiet (first | ((with_reducible refine gate_builtin (b := .append) (xs := #[.tmp 61, .tmp 65]) rfl ?_); at_builtin; refine Kd.R_append k29 (w0 := w) w.heap.size rfl (.tmp 61) (.tmp 65) 22 29 (.agg #[(.int .i64 0), (.int .i64 0)]) 16 rfl Try.underlying22 info29 rfl (by decide) (by omega) u6 x6_1 (⟨ji17, ji12⟩ : S29) [.int .i64 ji17, .int .i64 ji12] (fun _ => True) (fun _ => False) rfl rfl ?aP (fun _ hk => hk.elim) ?aF ?aO ?aB ?aS ?aL ?_; (case aP => exact k29_mkM _ _ _ (⟨ji17, ji12⟩ : S29)); (case aB => exact (by repeat (first | (with_reducible first | exact HB.out | apply below_alloc | apply pw_below_drewN | apply below_drew1) | exact HB.out))); (case aF => exact (fun _ _ => trivial)); (case aO => exact (by (with_reducible repeat (first | apply Kd.R_alloc | apply Kd.R_drewN | apply Kd.R_drew)); exact HO_6.out)); (case aS => exact (below_size (by repeat (first | (with_reducible first | exact HB.out | apply below_alloc | apply pw_below_drewN | apply below_drew1) | exact HB.out)))); (case aL => have := LMc22.out; omega); intro v355 w24 ho hb hg hat; rw [← Ny354.out] at ho; have n0_ := Aside0.mk (Kd.S_over' (by (with_reducible repeat (first | apply Kd.S_alloc | apply Kd.S_drewN | apply Kd.S_drew)); exact HO_5.out) (Kd.R_typed (by (with_reducible repeat (first | apply Kd.R_alloc | apply Kd.R_drewN | apply Kd.R_drew)); exact HO_6.out)) (by decide) hg); have n1_ := Aside0.mk (Kd.R_over' (by (with_reducible repeat (first | apply Kd.R_alloc | apply Kd.R_drewN | apply Kd.R_drew)); exact HL348_0.out) (Kd.R_typed (by (with_reducible repeat (first | apply Kd.R_alloc | apply Kd.R_drewN | apply Kd.R_drew)); exact HO_6.out)) (by decide) hg); have n2_ := Aside0.mk (Kd.R_over' (by (with_reducible repeat (first | apply Kd.R_alloc | apply Kd.R_drewN | apply Kd.R_drew)); exact HL350_0.out) (Kd.R_typed (by (with_reducible repeat (first | apply Kd.R_alloc | apply Kd.R_drewN | apply Kd.R_drew)); exact HO_6.out)) (by decide) hg); have n3_ := Aside0.mk (hb); have n4_ := Aside0.mk (ho); clear HO_5; clear HL348_0; clear HL350_0; clear HB; clear HO_6; have HO_5 := n0_; have HL348_0 := n1_; have HL350_0 := n2_; have HB := n3_; have HO356 := n4_; clear n0_ n1_ n2_ n3_ n4_; clear ho hb hg hat)); try go_wp2_with (first | ((with_reducible refine gate_builtin (b := .append) (xs := #[.tmp 61, .tmp 65]) rfl ?_); at_builtin; refine Kd.R_append k29 (w0 := w) w.heap.size rfl (.tmp 61) (.tmp 65) 22 29 (.agg #[(.int .i64 0), (.int .i64 0)]) 16 rfl Try.underlying22 info29 rfl (by decide) (by omega) u6 x6_1 (⟨ji17, ji12⟩ : S29) [.int .i64 ji17, .int .i64 ji12] (fun _ => True) (fun _ => False) rfl rfl ?aP (fun _ hk => hk.elim) ?aF ?aO ?aB ?aS ?aL ?_; (case aP => exact k29_mkM _ _ _ (⟨ji17, ji12⟩ : S29)); (case aB => exact (by repeat (first | (with_reducible first | exact HB.out | apply below_alloc | apply pw_below_drewN | apply below_drew1) | exact HB.out))); (case aF => exact (fun _ _ => trivial)); (case aO => exact (by (with_reducible repeat (first | apply Kd.R_alloc | apply Kd.R_drewN | apply Kd.R_drew)); exact HO_6.out)); (case aS => exact (below_size (by repeat (first | (with_reducible first | exact HB.out | apply below_alloc | apply pw_below_drewN | apply below_drew1) | exact HB.out)))); (case aL => have := LMc22.out; omega); intro v355 w24 ho hb hg hat; rw [← Ny354.out] at ho; have n0_ := Aside0.mk (Kd.S_over' (by (with_reducible repeat (first | apply Kd.S_alloc | apply Kd.S_drewN | apply Kd.S_drew)); exact HO_5.out) (Kd.R_typed (by (with_reducible repeat (first | apply Kd.R_alloc | apply Kd.R_drewN | apply Kd.R_drew)); exact HO_6.out)) (by decide) hg); have n1_ := Aside0.mk (Kd.R_over' (by (with_reducible repeat (first | apply Kd.R_alloc | apply Kd.R_drewN | apply Kd.R_drew)); exact HL348_0.out) (Kd.R_typed (by (with_reducible repeat (first | apply Kd.R_alloc | apply Kd.R_drewN | apply Kd.R_drew)); exact HO_6.out)) (by decide) hg); have n2_ := Aside0.mk (Kd.R_over' (by (with_reducible repeat (first | apply Kd.R_alloc | apply Kd.R_drewN | apply Kd.R_drew)); exact HL350_0.out) (Kd.R_typed (by (with_reducible repeat (first | apply Kd.R_alloc | apply Kd.R_drewN | apply Kd.R_drew)); exact HO_6.out)) (by decide) hg); have n3_ := Aside0.mk (hb); have n4_ := Aside0.mk (ho); clear HO_5; clear HL348_0; clear HL350_0; clear HB; clear HO_6; have HO_5 := n0_; have HL348_0 := n1_; have HL350_0 := n2_; have HB := n3_; have HO356 := n4_; clear n0_ n1_ n2_ n3_ n4_; clear ho hb hg hat)))
                  go_roundg kj4
                  case measure => have := HK1.out; have := HJ4.out; omega
                  case rel => exact ⟨(y354), (ji17), (ji12), (by first | rfl | (simp; done) | (simp only [← hji17] <;> (first | rfl | simp)) | (simp [*]; done)), (by first | rfl | (simp; done) | (simp only [← hji12] <;> (first | rfl | simp)) | (simp [*]; done)), H', ⟨by have := HK1.out; have := HJ4.out; omega⟩, ⟨by (with_reducible repeat (first | apply Kd.S_alloc | apply Kd.S_drewN | apply Kd.S_drew)); exact HO_5.out⟩, ⟨by (with_reducible repeat (first | apply Kd.R_alloc | apply Kd.R_drewN | apply Kd.R_drew)); exact HO356.out⟩, ⟨by repeat (first | (with_reducible first | exact HB.out | apply below_alloc | apply pw_below_drewN | apply below_drew1) | exact HB.out)⟩⟩
                 ·rw [if_neg c22] at H
                  exact absurd H (by simp)
                ·rw [if_neg c21] at H
                 have c21b0 : ((rd l0 (ji17)) == (rd l1 (ji12))) = false := beq_eq_false_iff_ne.mpr c21
                 have c21b1 : ((rd l0 (ji17)) != (rd l1 (ji12))) = true := bne_iff_ne.mpr c21
                 have H' := Aside0.mk H
                 clear H
                 obtain ⟨Ao25, co25, eo25⟩ := Kd.S_slice HO_5.out
                 subst eo25
                 have p348 : 0 ≤ (x7_1 : Int) := of_decide_eq_true (by first | (with_reducible assumption) | assumption)
                 have q348 : x7_1 < (t345.length : Int) := of_decide_eq_true (by first | (with_reducible assumption) | assumption)
                 obtain ⟨ad348, A348_0, c348_0, e348, hx348_0, hl348_0, hi348_0⟩ := at_L4 (Kd.S_reads' HO_5.out).2.2 x7_1 p348 q348
                 cases e348
                 obtain ⟨ce348, hce348, hMe348, hcc348⟩ := Kd.S_get HO_5.out [] x7_1 p348 (by first | exact q348 | exact of_decide_eq_true (by first | (with_reducible assumption) | assumption) | (have e_ := (Kd.S_reads' HO_5.out).1; omega))
                 obtain ⟨ve348_0, rfl, ge348_0⟩ := hMe348
                 have hv348_0 := hcc348 0 _ rfl
                 rw [Nat.add_zero, show ((Kd.slice 3 (Kd.int .i64))).sz = 1 from rfl, Nat.mul_one] at hv348_0
                 replace hv348_0 := Option.some.inj (hv348_0.symm.trans hx348_0)
                 rw [hv348_0] at ge348_0
                 have HL348_0 := Aside0.mk (show Kd.R (Kd.int .i64) 3 _ _ _ _ (rd_L4 t345 x7_1) from ge348_0)
                 clear hv348_0 ge348_0
                 clear hcc348 hce348
                 have HR348_0 := Aside0.mk hi348_0
                 have HC348_0 := Aside0.mk hl348_0
                 clear hi348_0 hl348_0
                 replace p348 := eq_true p348
                 replace q348 := eq_true q348
                 have p349 : 0 ≤ (x8_1 : Int) := of_decide_eq_true (by first | (with_reducible assumption) | assumption)
                 have q349 : x8_1 < ((rd_L4 t345 x7_1).length : Int) := of_decide_eq_true (by first | (with_reducible assumption) | assumption)
                 obtain ⟨ad349, e349, hx349_0⟩ := Kd.at_int (by repeat (first | (with_reducible exact HR348_0.out) | (with_reducible refine Kd.C_alloc ?_ _) | (with_reducible refine Kd.C_drewN ?_ _) | (with_reducible refine Kd.C_drew ?_) | exact HR348_0.out)) x8_1 p349 q349
                 cases e349
                 replace p349 := eq_true p349
                 replace q349 := eq_true q349
                 have p350 : 0 ≤ (x7_1 : Int) := of_decide_eq_true (by first | (with_reducible assumption) | assumption)
                 have q350 : x7_1 < (t345.length : Int) := of_decide_eq_true (by first | (with_reducible assumption) | assumption)
                 obtain ⟨ad350, A350_0, c350_0, e350, hx350_0, hl350_0, hi350_0⟩ := at_L4 (Kd.S_reads' HO_5.out).2.2 x7_1 p350 q350
                 obtain rfl : ad348 = ad350 := (by injection e350)
                 obtain ⟨ce350, hce350, hMe350, hcc350⟩ := Kd.S_get HO_5.out [] x7_1 p350 (by first | exact q350 | exact of_decide_eq_true (by first | (with_reducible assumption) | assumption) | (have e_ := (Kd.S_reads' HO_5.out).1; omega))
                 obtain ⟨ve350_0, rfl, ge350_0⟩ := hMe350
                 have hv350_0 := hcc350 0 _ rfl
                 rw [Nat.add_zero, show ((Kd.slice 3 (Kd.int .i64))).sz = 1 from rfl, Nat.mul_one] at hv350_0
                 replace hv350_0 := Option.some.inj (hv350_0.symm.trans hx350_0)
                 rw [hv350_0] at ge350_0
                 have HL350_0 := Aside0.mk (show Kd.R (Kd.int .i64) 3 _ _ _ _ (rd_L4 t345 x7_1) from ge350_0)
                 clear hv350_0 ge350_0
                 clear hcc350 hce350
                 have HR350_0 := Aside0.mk hi350_0
                 have HC350_0 := Aside0.mk hl350_0
                 clear hi350_0 hl350_0
                 replace p350 := eq_true p350
                 replace q350 := eq_true q350
                 have ea_ := Option.some.inj (hx348_0.symm.trans hx350_0)
                 injection ea_ with ea_ en_ ec_
                 subst ea_
                 subst ec_
                 clear en_
                 have p351 : 0 ≤ ((ji12) : Int) := of_decide_eq_true (by first | (with_reducible assumption) | assumption)
                 have q351 : (ji12) < ((rd_L4 t345 x7_1).length : Int) := of_decide_eq_true (by first | (with_reducible assumption) | assumption)
                 obtain ⟨ad351, e351, hx351_0⟩ := Kd.at_int (by repeat (first | (with_reducible exact HR350_0.out) | (with_reducible refine Kd.C_alloc ?_ _) | (with_reducible refine Kd.C_drewN ?_ _) | (with_reducible refine Kd.C_drew ?_) | exact HR350_0.out)) (ji12) p351 q351
                 cases e351
                 replace p351 := eq_true p351
                 replace q351 := eq_true q351
                 have p352 : 0 ≤ ((ji17) : Int) := of_decide_eq_true (by first | (with_reducible assumption) | assumption)
                 have q352 : (ji17) < (l0.length : Int) := of_decide_eq_true (by first | (with_reducible assumption) | assumption)
                 obtain ⟨ad352, e352, hx352_0⟩ := Kd.at_int HR0.out (ji17) p352 q352
                 cases e352
                 replace hx352_0 := (HB.out.cell (World.block_lt_of_cell? w _ hx352_0)).trans hx352_0
                 replace p352 := eq_true p352
                 replace q352 := eq_true q352
                 have p353 : 0 ≤ ((ji12) : Int) := of_decide_eq_true (by first | (with_reducible assumption) | assumption)
                 have q353 : (ji12) < (l1.length : Int) := of_decide_eq_true (by first | (with_reducible assumption) | assumption)
                 obtain ⟨ad353, e353, hx353_0⟩ := Kd.at_int HR1.out (ji12) p353 q353
                 cases e353
                 replace hx353_0 := (HB.out.cell (World.block_lt_of_cell? w _ hx353_0)).trans hx353_0
                 replace p353 := eq_true p353
                 replace q353 := eq_true q353
                 go_wp2
                 repeat (go_quiet (fail); try go_wp2)
                 go_roundg kj4
                 case measure => have := HK1.out; have := HJ4.out; omega
                 case rel => exact ⟨(x6_1), (ji17), (x8_1), (by first | rfl | (simp; done) | (simp only [← hji17] <;> (first | rfl | simp)) | (simp [*]; done)), (by first | rfl | (simp; done) | (simp [*]; done)), H', ⟨by have := HK1.out; have := HJ4.out; omega⟩, ⟨by (with_reducible repeat (first | apply Kd.S_alloc | apply Kd.S_drewN | apply Kd.S_drew)); exact HO_5.out⟩, ⟨by (with_reducible repeat (first | apply Kd.R_alloc | apply Kd.R_drewN | apply Kd.R_drew)); exact HO_6.out⟩, ⟨by repeat (first | (with_reducible first | exact HB.out | apply below_alloc | apply pw_below_drewN | apply below_drew1) | exact HB.out)⟩⟩
               ·rw [if_neg c20] at H
                exact absurd H (by simp)
              ·rw [if_neg c19] at H
               exact absurd H (by simp)
             ·rw [if_neg c18] at H
              exact absurd H (by simp)
           ·rw [if_neg c14] at H
            exact absurd H (by simp)
          ·rw [if_neg c13] at H
           exact absurd H (by simp)
         ·rw [if_neg c11] at H
          exact absurd H (by simp)
        ·rw [if_neg c10] at H
         exact absurd H (by simp)
       ·rw [if_neg c9] at H
        exact absurd H (by simp)
      ·rw [if_neg c8] at H
       exact absurd H (by simp)
     ·replace c7 := Bool.eq_false_iff.mpr c7
      subst c7
      have H1 : (tattingref20_Way.l1 kj4 x6_1 ([] : List (S29)) (wrap64 ((x6_1.length : Int) - 1))) = some r := by rw [if_neg (show ¬ (false = true) by decide)] at H; exact H
      clear H
      have H := H1
      clear H1
      have H' := Aside0.mk H
      clear H
      obtain ⟨Ao26, co26, eo26⟩ := Kd.R_slice HO_6.out
      subst eo26
      go_wp2
      repeat (go_quiet (fail); try go_wp2)
      go_loopg [9, 10] kj4 (fun kq v9 v10 w' => ∃ (x9_3 : List (S29)) (x10_3 : Int), v10 = .int .i64 x10_3 ∧ Aside0 (tattingref20_Way.l1 kq x6_1 x9_3 x10_3 = some r) ∧ Aside0 (kq ≤ kj4) ∧ Aside0 (Kd.R k29 29 w' w.heap.size (fun k_ => some k_ ≠ (v9 : Value).ownBlock) (.slice Ao26 x6_1.length co26) x6_1) ∧ Aside0 (Kd.R k29 29 w' w.heap.size (fun k_ => some k_ ≠ ((.slice Ao26 x6_1.length co26) : Value).ownBlock) v9 x9_3) ∧ Aside0 (Below w.heap.size w w'))
      case atStart => exact ⟨(([] : List (S29))), (wrap64 ((x6_1.length : Int) - 1)), (by first | rfl | (simp; done) | (simp [*]; done)), H', ⟨Nat.le_refl _⟩, ⟨by (with_reducible repeat (first | apply Kd.R_alloc | apply Kd.R_drewN | apply Kd.R_drew)); exact Kd.R_mono HO_6.out (fun _ hk => (by simp [Value.ownBlock]))⟩, ⟨by first | exact Kd.R_nil _ _ _ _ _ | exact Kd.N_nil _ _ _ _ _ | exact Kd.V_nil _ _ _ _ _ | exact Kd.Q_nil _ _ _ _ _ | exact Kd.S_nil _ _ _ _ _⟩, ⟨by repeat (first | (with_reducible first | exact HB.out | apply below_alloc | apply pw_below_drewN | apply below_drew1) | exact HB.out)⟩⟩
      case round =>
       clear H'
       try clear c1
       try clear c2
       try clear p2
       try clear c3
       try clear p3
       try clear q3
       try clear hx3
       try clear c6
       try clear c6b0
       try clear p6
       try clear c7
       try clear c8
       try clear c8b0
       try clear c9
       try clear c9b0
       try clear c10
       try clear c10b0
       try clear c11
       try clear c11b0
       try clear c13
       try clear c13b0
       try clear c14
       try clear c14b0
       try clear c15
       try clear c15b0
       try clear c15b1
       try clear c16
       try clear c18
       try clear c18b0
       try clear c19
       try clear c19b0
       try clear c20
       try clear c20b0
       try clear c21
       try clear c21b0
       try clear c21b1
       try clear c22
       try clear hx348_0
       try clear hx349_0
       try clear hx350_0
       try clear hx351_0
       try clear hx352_0
       try clear hx353_0
       try clear p2
       try clear p348
       try clear p349
       try clear p350
       try clear p351
       try clear p352
       try clear p353
       try clear q348
       try clear q349
       try clear q350
       try clear q351
       try clear q352
       try clear q353
       obtain ⟨x9_3, x10_3, rfl, HA, HK3, HO_6, HO_9, HB⟩ := hrel
       cases gk with
       | zero => exact absurd HA.out (by simp [tattingref20_Way.l1])
       | succ k3 =>
        have H := HA.out
        clear HA
        simp only [tattingref20_Way.l1] at H
        by_cases c27 : x10_3 ≥ 0
        ·rw [if_pos c27] at H
         have c27b0 : decide (0 ≤ x10_3) = true := decide_eq_true c27
         clear c27
         by_cases c28 : 0 ≤ x10_3
         ·rw [if_pos c28] at H
          have c28b0 : decide (0 ≤ x10_3) = true := decide_eq_true c28
          clear c28
          by_cases c29 : x10_3 < (x6_1.length : Int)
          ·rw [if_pos c29] at H
           have c29b0 : decide (x10_3 < (x6_1.length : Int)) = true := decide_eq_true c29
           clear c29
           by_cases c30 : x9_3.length < 8796093022208
           ·rw [if_pos c30] at H
            have LMc30 := Aside0.mk c30
            clear c30
            obtain ⟨y358, hy358⟩ : ∃ y_ : List (S29), y_ = (x9_3 ++ [(⟨(rd_T29 x6_1 x10_3).f0, (rd_T29 x6_1 x10_3).f1⟩ : S29)]) := ⟨_, rfl⟩
            replace H : (tattingref20_Way.l1 k3 x6_1 y358 (wrap64 (x10_3 - 1))) = some r := by first | (rw [hy358]; with_reducible exact H) | (have H2_ := (Option.bind_some _ _).symm.trans H; rw [hy358]; with_reducible exact H2_) | (have H2_ := (Option.bind_some _ _).symm.trans H; with_reducible exact H2_) | with_reducible exact H | (rw [hy358]; exact H) | exact H
            have Ny358 := Aside0.mk hy358
            clear hy358
            have H' := Aside0.mk H
            clear H
            have p357 : 0 ≤ (x10_3 : Int) := of_decide_eq_true (by first | (with_reducible assumption) | assumption)
            have q357 : x10_3 < (x6_1.length : Int) := of_decide_eq_true (by first | (with_reducible assumption) | assumption)
            obtain ⟨ad357, e357, hx357_0, hx357_1⟩ := at_T29 (Kd.R_reads' HO_6.out).2.2 x10_3 p357 q357
            cases e357
            replace p357 := eq_true p357
            replace q357 := eq_true q357
            go_wp2_with (first | ((with_reducible refine gate_builtin (b := .append) (xs := #[.tmp 74, .tmp 79]) rfl ?_); at_builtin; refine Kd.R_append k29 (w0 := w) w.heap.size rfl (.tmp 74) (.tmp 79) 22 29 (.agg #[(.int .i64 0), (.int .i64 0)]) 16 rfl Try.underlying22 info29 rfl (by decide) (by omega) u9 x9_3 (⟨(rd_T29 x6_1 x10_3).f0, (rd_T29 x6_1 x10_3).f1⟩ : S29) [.int .i64 ((rd_T29 x6_1 x10_3).f0), .int .i64 ((rd_T29 x6_1 x10_3).f1)] (fun k_ => some k_ ≠ (.slice (some ad357) x6_1.length co26 : Value).ownBlock) (fun _ => False) rfl rfl ?aP (fun _ hk => hk.elim) ?aF ?aO ?aB ?aS ?aL ?_; (case aP => exact k29_mkM _ _ _ (⟨(rd_T29 x6_1 x10_3).f0, (rd_T29 x6_1 x10_3).f1⟩ : S29)); (case aB => exact (by repeat (first | (with_reducible first | exact HB.out | apply below_alloc | apply pw_below_drewN | apply below_drew1) | exact HB.out))); (case aF => exact (fun k_ hk => Kd.fresh' (Kd.R_lt (by (with_reducible repeat (first | apply Kd.R_alloc | apply Kd.R_drewN | apply Kd.R_drew)); exact HO_6.out)) k_ hk)); (case aO => exact (by (with_reducible repeat (first | apply Kd.R_alloc | apply Kd.R_drewN | apply Kd.R_drew)); exact HO_9.out)); (case aS => exact (below_size (by repeat (first | (with_reducible first | exact HB.out | apply below_alloc | apply pw_below_drewN | apply below_drew1) | exact HB.out)))); (case aL => have := LMc30.out; omega); intro v359 w31 ho hb hg hat; rw [← Ny358.out] at ho; have n0_ := Aside0.mk (Kd.R_after (ok := (fun _ => True)) (by (with_reducible repeat (first | apply Kd.R_alloc | apply Kd.R_drewN | apply Kd.R_drew)); exact Kd.R_mono HO_6.out (fun _ hk => ⟨trivial, hk⟩)) hg hat); have n1_ := Aside0.mk (hb); have n2_ := Aside0.mk (ho); clear HO_6; clear HB; clear HO_9; have HO_6 := n0_; have HB := n1_; have HO360 := n2_; clear n0_ n1_ n2_; clear ho hb hg hat))
            repeat (go_quiet (first | ((with_reducible refine gate_builtin (b := .append) (xs := #[.tmp 74, .tmp 79]) rfl ?_); at_builtin; refine Kd.R_append k29 (w0 := w) w.heap.size rfl (.tmp 74) (.tmp 79) 22 29 (.agg #[(.int .i64 0), (.int .i64 0)]) 16 rfl Try.underlying22 info29 rfl (by decide) (by omega) u9 x9_3 (⟨(rd_T29 x6_1 x10_3).f0, (rd_T29 x6_1 x10_3).f1⟩ : S29) [.int .i64 ((rd_T29 x6_1 x10_3).f0), .int .i64 ((rd_T29 x6_1 x10_3).f1)] (fun k_ => some k_ ≠ (.slice (some ad357) x6_1.length co26 : Value).ownBlock) (fun _ => False) rfl rfl ?aP (fun _ hk => hk.elim) ?aF ?aO ?aB ?aS ?aL ?_; (case aP => exact k29_mkM _ _ _ (⟨(rd_T29 x6_1 x10_3).f0, (rd_T29 x6_1 x10_3).f1⟩ : S29)); (case aB => exact (by repeat (first | (with_reducible first | exact HB.out | apply below_alloc | apply pw_below_drewN | apply below_drew1) | exact HB.out))); (case aF => exact (fun k_ hk => Kd.fresh' (Kd.R_lt (by (with_reducible repeat (first | apply Kd.R_alloc | apply Kd.R_drewN | apply Kd.R_drew)); exact HO_6.out)) k_ hk)); (case aO => exact (by (with_reducible repeat (first | apply Kd.R_alloc | apply Kd.R_drewN | apply Kd.R_drew)); exact HO_9.out)); (case aS => exact (below_size (by repeat (first | (with_reducible first | exact HB.out | apply below_alloc | apply pw_below_drewN | apply below_drew1) | exact HB.out)))); (case aL => have := LMc30.out; omega); intro v359 w31 ho hb hg hat; rw [← Ny358.out] at ho; have n0_ := Aside0.mk (Kd.R_after (ok := (fun _ => True)) (by (with_reducible repeat (first | apply Kd.R_alloc | apply Kd.R_drewN | apply Kd.R_drew)); exact Kd.R_mono HO_6.out (fun _ hk => ⟨trivial, hk⟩)) hg hat); have n1_ := Aside0.mk (hb); have n2_ := Aside0.mk (ho); clear HO_6; clear HB; clear HO_9; have HO_6 := n0_; have HB := n1_; have HO360 := n2_; clear n0_ n1_ n2_; clear ho hb hg hat)); try go_wp2_with (first | ((with_reducible refine gate_builtin (b := .append) (xs := #[.tmp 74, .tmp 79]) rfl ?_); at_builtin; refine Kd.R_append k29 (w0 := w) w.heap.size rfl (.tmp 74) (.tmp 79) 22 29 (.agg #[(.int .i64 0), (.int .i64 0)]) 16 rfl Try.underlying22 info29 rfl (by decide) (by omega) u9 x9_3 (⟨(rd_T29 x6_1 x10_3).f0, (rd_T29 x6_1 x10_3).f1⟩ : S29) [.int .i64 ((rd_T29 x6_1 x10_3).f0), .int .i64 ((rd_T29 x6_1 x10_3).f1)] (fun k_ => some k_ ≠ (.slice (some ad357) x6_1.length co26 : Value).ownBlock) (fun _ => False) rfl rfl ?aP (fun _ hk => hk.elim) ?aF ?aO ?aB ?aS ?aL ?_; (case aP => exact k29_mkM _ _ _ (⟨(rd_T29 x6_1 x10_3).f0, (rd_T29 x6_1 x10_3).f1⟩ : S29)); (case aB => exact (by repeat (first | (with_reducible first | exact HB.out | apply below_alloc | apply pw_below_drewN | apply below_drew1) | exact HB.out))); (case aF => exact (fun k_ hk => Kd.fresh' (Kd.R_lt (by (with_reducible repeat (first | apply Kd.R_alloc | apply Kd.R_drewN | apply Kd.R_drew)); exact HO_6.out)) k_ hk)); (case aO => exact (by (with_reducible repeat (first | apply Kd.R_alloc | apply Kd.R_drewN | apply Kd.R_drew)); exact HO_9.out)); (case aS => exact (below_size (by repeat (first | (with_reducible first | exact HB.out | apply below_alloc | apply pw_below_drewN | apply below_drew1) | exact HB.out)))); (case aL => have := LMc30.out; omega); intro v359 w31 ho hb hg hat; rw [← Ny358.out] at ho; have n0_ := Aside0.mk (Kd.R_after (ok := (fun _ => True)) (by (with_reducible repeat (first | apply Kd.R_alloc | apply Kd.R_drewN | apply Kd.R_drew)); exact Kd.R_mono HO_6.out (fun _ hk => ⟨trivial, hk⟩)) hg hat); have n1_ := Aside0.mk (hb); have n2_ := Aside0.mk (ho); clear HO_6; clear HB; clear HO_9; have HO_6 := n0_; have HB := n1_; have HO360 := n2_; clear n0_ n1_ n2_; clear ho hb hg hat)))
            go_roundg k3
            case measure => have := HK1.out; have := HJ4.out; have := HK3.out; omega
            case rel => exact ⟨(y358), (wrap64 (x10_3 - 1)), (by first | rfl | (simp; done) | (simp [*]; done)), H', ⟨by have := HK1.out; have := HJ4.out; have := HK3.out; omega⟩, ⟨by (with_reducible repeat (first | apply Kd.R_alloc | apply Kd.R_drewN | apply Kd.R_drew)); exact Kd.R_mono HO_6.out (fun _ hk => hk.2)⟩, ⟨by (with_reducible repeat (first | apply Kd.R_alloc | apply Kd.R_drewN | apply Kd.R_drew)); exact HO360.out⟩, ⟨by repeat (first | (with_reducible first | exact HB.out | apply below_alloc | apply pw_below_drewN | apply below_drew1) | exact HB.out)⟩⟩
           ·rw [if_neg c30] at H
            exact absurd H (by simp)
          ·rw [if_neg c29] at H
           exact absurd H (by simp)
         ·rw [if_neg c28] at H
          exact absurd H (by simp)
        ·rw [if_neg c27] at H
         have c27b0 : decide (0 ≤ x10_3) = false := decide_eq_false c27
         clear c27
         obtain rfl := Option.some.inj H
         go_wp2
         repeat (go_quiet (fail); try go_wp2)
         go_ret
         exact ⟨_, by first | rfl | (simp [errW_none, errW_some] <;> rfl) | (simp [*, errW_none, errW_some] <;> rfl), by (with_reducible repeat (first | apply Kd.R_alloc | apply Kd.R_drewN | apply Kd.R_drew)); exact Kd.R_mono HO_9.out (fun _ hk => trivial), by repeat (first | (with_reducible first | exact HB.out | apply below_alloc | apply pw_below_drewN | apply below_drew1) | exact HB.out)⟩

/-! ### tattingref5_Width: function 46 -/
def tattingref5_Width.f (a0 : Int) : Option (Int) := if a0 < 0 then (some 0) else (if a0 > 1048576 then (some 1048576) else (some a0))
set_option maxHeartbeats 8000000 in
set_option maxRecDepth 100000 in
theorem tattingref5_Width.calls (a0 : Int) (r : Int) (w : World) (h : tattingref5_Width.f a0 = some r) :
  Calls Try.prog 46 #[.int .i64 a0] w fun e w' => e = .returned (.int .i64 r) ∧ Drawn0 w w' := by
 have H : (if a0 < 0 then (some 0) else (if a0 > 1048576 then (some 1048576) else (some a0))) = some r := h
 clear h
 by_cases c2 : a0 < 0
 ·rw [if_pos c2] at H
  have c2b0 : decide (a0 < 0) = true := decide_eq_true c2
  clear c2
  obtain rfl := Option.some.inj H
  go_enter Try.func46, Try.ntmps46
  go_wp2
  go_ret
  exact ⟨by first | rfl | (simp; done) | (simp [*]; done), by repeat (first | exact Drawn0.refl _ | apply Drawn0.step)⟩
 ·rw [if_neg c2] at H
  have c2b0 : decide (a0 < 0) = false := decide_eq_false c2
  clear c2
  by_cases c3 : a0 > 1048576
  ·rw [if_pos c3] at H
   have c3b0 : decide (1048576 < a0) = true := decide_eq_true c3
   clear c3
   obtain rfl := Option.some.inj H
   go_enter Try.func46, Try.ntmps46
   go_wp2
   go_ret
   exact ⟨by first | rfl | (simp; done) | (simp [*]; done), by repeat (first | exact Drawn0.refl _ | apply Drawn0.step)⟩
  ·rw [if_neg c3] at H
   have c3b0 : decide (1048576 < a0) = false := decide_eq_false c3
   clear c3
   obtain rfl := Option.some.inj H
   go_enter Try.func46, Try.ntmps46
   go_wp2
   go_ret
   exact ⟨by first | rfl | (simp; done) | (simp [*]; done), by repeat (first | exact Drawn0.refl _ | apply Drawn0.step)⟩

/-! ### tattingref5_Words: function 33 -/
def tattingref5_Words.f (a0 : Int) : Option (Int) := (tattingref5_Width.f a0).bind fun t361 => (some (wrap64 (Int.tdiv (wrap64 (t361 + 63)) 64)))
set_option maxHeartbeats 8000000 in
set_option maxRecDepth 100000 in
theorem tattingref5_Words.calls (a0 : Int) (r : Int) (w : World) (h : tattingref5_Words.f a0 = some r) :
  Calls Try.prog 33 #[.int .i64 a0] w fun e w' => e = .returned (.int .i64 r) ∧ Drawn0 w w' := by
 have H : ((tattingref5_Width.f a0).bind fun t361 => (some (wrap64 (Int.tdiv (wrap64 (t361 + 63)) 64)))) = some r := h
 clear h
 replace H := Option.bind_eq_some_iff.mp H
 obtain ⟨t361, A20, H⟩ := H
 replace H : (some (wrap64 (Int.tdiv (wrap64 (t361 + 63)) 64))) = some r := H
 have A2 := Aside0.mk A20
 clear A20
 obtain rfl := Option.some.inj H
 go_enter Try.func33, Try.ntmps33
 go_wp2_with (first | ((with_reducible refine gate_callee (f := 46) rfl ?_); refine goesL_ (some 4) rfl rfl Try.func46 (by kernel_rfl) rfl #[.int .i64 a0] rfl (by (try simp only [List.map_toArray, List.map_cons, List.map_nil]); first | done | rfl | (simp only [List.length_drop, List.length_take]; rfl)) ?_; (with_reducible refine (tattingref5_Width.calls a0 t361 _ A2.out).mono ?_); rintro e w' ⟨rfl, ⟨nd, rfl⟩⟩; refine ⟨_, rfl, ?_⟩))
 go_ret
 exact ⟨by first | rfl | (simp; done) | (simp [*]; done), by repeat (first | exact Drawn0.refl _ | apply Drawn0.step)⟩

/-! ### tattingref20_Steps: function 17 -/
def tattingref20_Steps.f (a0 : Int) (a1 : Int) : Option (Int) := if a0 < 0 then (some 0) else (if a1 < 0 then (some 0) else (if a0 > 1048576 then (some 0) else (if a1 > 1048576 then (some 0) else ((tattingref5_Words.f a1).bind fun t362 => (some (wrap64 (a0 * t362)))))))
set_option maxHeartbeats 8000000 in
set_option maxRecDepth 100000 in
theorem tattingref20_Steps.calls (a0 : Int) (a1 : Int) (r : Int) (w : World) (h : tattingref20_Steps.f a0 a1 = some r) :
  Calls Try.prog 17 #[.int .i64 a0, .int .i64 a1] w fun e w' => e = .returned (.int .i64 r) ∧ Drawn0 w w' := by
 have H : (if a0 < 0 then (some 0) else (if a1 < 0 then (some 0) else (if a0 > 1048576 then (some 0) else (if a1 > 1048576 then (some 0) else ((tattingref5_Words.f a1).bind fun t362 => (some (wrap64 (a0 * t362)))))))) = some r := h
 clear h
 by_cases c3 : a0 < 0
 ·rw [if_pos c3] at H
  have c3b0 : decide (a0 < 0) = true := decide_eq_true c3
  clear c3
  obtain rfl := Option.some.inj H
  go_enter Try.func17, Try.ntmps17
  go_wp2
  go_ret
  exact ⟨by first | rfl | (simp; done) | (simp [*]; done), by repeat (first | exact Drawn0.refl _ | apply Drawn0.step)⟩
 ·rw [if_neg c3] at H
  have c3b0 : decide (a0 < 0) = false := decide_eq_false c3
  clear c3
  by_cases c4 : a1 < 0
  ·rw [if_pos c4] at H
   have c4b0 : decide (a1 < 0) = true := decide_eq_true c4
   clear c4
   obtain rfl := Option.some.inj H
   go_enter Try.func17, Try.ntmps17
   go_wp2
   go_ret
   exact ⟨by first | rfl | (simp; done) | (simp [*]; done), by repeat (first | exact Drawn0.refl _ | apply Drawn0.step)⟩
  ·rw [if_neg c4] at H
   have c4b0 : decide (a1 < 0) = false := decide_eq_false c4
   clear c4
   by_cases c5 : a0 > 1048576
   ·rw [if_pos c5] at H
    have c5b0 : decide (1048576 < a0) = true := decide_eq_true c5
    clear c5
    obtain rfl := Option.some.inj H
    go_enter Try.func17, Try.ntmps17
    go_wp2
    go_ret
    exact ⟨by first | rfl | (simp; done) | (simp [*]; done), by repeat (first | exact Drawn0.refl _ | apply Drawn0.step)⟩
   ·rw [if_neg c5] at H
    have c5b0 : decide (1048576 < a0) = false := decide_eq_false c5
    clear c5
    by_cases c6 : a1 > 1048576
    ·rw [if_pos c6] at H
     have c6b0 : decide (1048576 < a1) = true := decide_eq_true c6
     clear c6
     obtain rfl := Option.some.inj H
     go_enter Try.func17, Try.ntmps17
     go_wp2
     go_ret
     exact ⟨by first | rfl | (simp; done) | (simp [*]; done), by repeat (first | exact Drawn0.refl _ | apply Drawn0.step)⟩
    ·rw [if_neg c6] at H
     have c6b0 : decide (1048576 < a1) = false := decide_eq_false c6
     clear c6
     replace H := Option.bind_eq_some_iff.mp H
     obtain ⟨t362, A70, H⟩ := H
     replace H : (some (wrap64 (a0 * t362))) = some r := H
     have A7 := Aside0.mk A70
     clear A70
     obtain rfl := Option.some.inj H
     go_enter Try.func17, Try.ntmps17
     go_wp2_with (first | ((with_reducible refine gate_callee (f := 33) rfl ?_); refine goesL_ (some 21) rfl rfl Try.func33 (by kernel_rfl) rfl #[.int .i64 a1] rfl (by (try simp only [List.map_toArray, List.map_cons, List.map_nil]); first | done | rfl | (simp only [List.length_drop, List.length_take]; rfl)) ?_; (with_reducible refine (tattingref5_Words.calls a1 t362 _ A7.out).mono ?_); rintro e w' ⟨rfl, ⟨nd, rfl⟩⟩; refine ⟨_, rfl, ?_⟩))
     go_ret
     exact ⟨by first | rfl | (simp; done) | (simp [*]; done), by repeat (first | exact Drawn0.refl _ | apply Drawn0.step)⟩

end Go.Proofs.Ytkafkbdidnkefaa.R
