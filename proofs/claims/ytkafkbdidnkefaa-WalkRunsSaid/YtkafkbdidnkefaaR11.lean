-- laid by a program of this session (wip/xprint)
import Derived.Test.YtkafkbdidnkefaaR0
import Derived.Test.YtkafkbdidnkefaaR5
import Derived.Test.YtkafkbdidnkefaaR6
import Derived.Test.YtkafkbdidnkefaaR7
import Derived.Test.YtkafkbdidnkefaaR10
namespace Go.Proofs.Ytkafkbdidnkefaa.R
open Go.RowKit Go.Proofs.YtkafkbdidnkefaaW.PrintWords Go.Proofs.YtkafkbdidnkefaaW.PrintLast Go.Proofs.YtkafkbdidnkefaaW.PrintMore
attribute [local go_sem] max2_int min2_int max_two min_two max_three min_three max_four min_four   -- for this text's walks alone
set_option linter.unusedVariables false
set_option linter.unusedSimpArgs false

/-! ### tattinglaw22_WalkRuns: function 4 -/
mutual
def tattinglaw22_WalkRuns.j0 : Nat → Int → List Int → List Int → Int → Bool → Option (Bool)
 | 0, _, _, _, _, _ => none
 | k + 1, x0, x1, x2, x3, x23 => if x23 = true then (some true) else ((tattingref1_Few.f k x1 4).bind fun t364 => ((tattingref1_Few.f k x2 4).bind fun t367 => ((walk_Run.f k x0 t364 t367 x3).bind fun bt370 => (if x0 = 0 then (tattinglaw22_WalkRuns.j1 k t364 t367 bt370.1 bt370.2.1 bt370.2.2 (decide (x3 < 1))) else (if x0 = 1 then (tattinglaw22_WalkRuns.j1 k t364 t367 bt370.1 bt370.2.1 bt370.2.2 (decide (x3 < 1))) else (tattinglaw22_WalkRuns.j1 k t364 t367 bt370.1 bt370.2.1 bt370.2.2 true))))))
def tattinglaw22_WalkRuns.j1 : Nat → List Int → List Int → List (S29) → Int → Int → Bool → Option (Bool)
 | 0, _, _, _, _, _, _ => none
 | k + 1, x9, x10, x11, x12, x13, x46 => if x46 = true then (if x13 = 1 then (if (x11.length : Int) = 0 then (some (x12 == 0)) else (some false)) else (some false)) else (if x13 = 0 then ((tattingref20_Way.f k x9 x10).bind fun t375 => ((tattingref1_SamePairs.f k x11 t375).bind fun t378 => (if t378 = true then ((tattingref20_Steps.f (x9.length : Int) (x10.length : Int)).bind fun t379 => (some (x12 == (wrap64 (2 * t379))))) else (some false)))) else (some false))
end
def tattinglaw22_WalkRuns.f (k : Nat) (a0 : Int) (l1 : List Int) (l2 : List Int) (a3 : Int) : Option (Bool) := (tattinglaw22_awake.f k).bind fun t363 => (if t363 = true then (if (l1.length : Int) > 40 then (tattinglaw22_WalkRuns.j0 k a0 l1 l2 a3 true) else (tattinglaw22_WalkRuns.j0 k a0 l1 l2 a3 (decide ((l2.length : Int) > 130)))) else (some false))
theorem tattinglaw22_WalkRuns.mono_l : ∀ k, (∀ y0 y1 y2 y3 y4, LeO (tattinglaw22_WalkRuns.j0 k y0 y1 y2 y3 y4) (tattinglaw22_WalkRuns.j0 (k + 1) y0 y1 y2 y3 y4)) ∧ (∀ y0 y1 y2 y3 y4 y5, LeO (tattinglaw22_WalkRuns.j1 k y0 y1 y2 y3 y4 y5) (tattinglaw22_WalkRuns.j1 (k + 1) y0 y1 y2 y3 y4 y5))
 | 0 => ⟨fun _ _ _ _ _ r h => by simp [tattinglaw22_WalkRuns.j0] at h, fun _ _ _ _ _ _ r h => by simp [tattinglaw22_WalkRuns.j1] at h⟩
 | k + 1 => by
  obtain ⟨ih0, ih1⟩ := tattinglaw22_WalkRuns.mono_l k
  refine ⟨?_, ?_⟩
  ·intro y0 y1 y2 y3 y4
   unfold tattinglaw22_WalkRuns.j0
   repeat' first
   | (with_reducible exact ih0 _ _ _ _ _)
   | (with_reducible exact ih1 _ _ _ _ _ _)
   | (with_reducible exact tattinglaw22_awake.mono _)
   | (with_reducible exact tattingref1_Few.mono _ _ _)
   | (with_reducible exact tattingref1_SamePairs.mono _ _ _)
   | (with_reducible exact tattingref20_Way.mono _ _ _)
   | (with_reducible exact walk_Run.mono _ _ _ _ _)
   | (with_reducible exact LeO.refl _)
   | (with_reducible exact LeO.none _)
   | (with_reducible refine LeO.ite ?_ ?_)
   | (with_reducible refine LeO.bind ?_ (fun _ => ?_))
   | exact ih0 _ _ _ _ _
   | exact ih1 _ _ _ _ _ _
   | exact tattinglaw22_awake.mono _
   | exact tattingref1_Few.mono _ _ _
   | exact tattingref1_SamePairs.mono _ _ _
   | exact tattingref20_Way.mono _ _ _
   | exact walk_Run.mono _ _ _ _ _
   | exact LeO.none _
   | refine LeO.ite ?_ ?_
   | refine LeO.bind ?_ (fun _ => ?_)
  ·intro y0 y1 y2 y3 y4 y5
   unfold tattinglaw22_WalkRuns.j1
   repeat' first
   | (with_reducible exact ih0 _ _ _ _ _)
   | (with_reducible exact ih1 _ _ _ _ _ _)
   | (with_reducible exact tattinglaw22_awake.mono _)
   | (with_reducible exact tattingref1_Few.mono _ _ _)
   | (with_reducible exact tattingref1_SamePairs.mono _ _ _)
   | (with_reducible exact tattingref20_Way.mono _ _ _)
   | (with_reducible exact walk_Run.mono _ _ _ _ _)
   | (with_reducible exact LeO.refl _)
   | (with_reducible exact LeO.none _)
   | (with_reducible refine LeO.ite ?_ ?_)
   | (with_reducible refine LeO.bind ?_ (fun _ => ?_))
   | exact ih0 _ _ _ _ _
   | exact ih1 _ _ _ _ _ _
   | exact tattinglaw22_awake.mono _
   | exact tattingref1_Few.mono _ _ _
   | exact tattingref1_SamePairs.mono _ _ _
   | exact tattingref20_Way.mono _ _ _
   | exact walk_Run.mono _ _ _ _ _
   | exact LeO.none _
   | refine LeO.ite ?_ ?_
   | refine LeO.bind ?_ (fun _ => ?_)
theorem tattinglaw22_WalkRuns.mono : ∀ a0 a1 a2 a3 k, LeO (tattinglaw22_WalkRuns.f k a0 a1 a2 a3) (tattinglaw22_WalkRuns.f (k + 1) a0 a1 a2 a3) := by
 intro a0 a1 a2 a3 k
 obtain ⟨ih0, ih1⟩ := tattinglaw22_WalkRuns.mono_l k
 unfold tattinglaw22_WalkRuns.f
 repeat' first
   | (with_reducible exact ih0 _ _ _ _ _)
   | (with_reducible exact ih1 _ _ _ _ _ _)
   | (with_reducible exact tattinglaw22_awake.mono _)
   | (with_reducible exact tattingref1_Few.mono _ _ _)
   | (with_reducible exact tattingref1_SamePairs.mono _ _ _)
   | (with_reducible exact tattingref20_Way.mono _ _ _)
   | (with_reducible exact walk_Run.mono _ _ _ _ _)
   | (with_reducible exact LeO.refl _)
   | (with_reducible exact LeO.none _)
   | (with_reducible refine LeO.ite ?_ ?_)
   | (with_reducible refine LeO.bind ?_ (fun _ => ?_))
   | exact ih0 _ _ _ _ _
   | exact ih1 _ _ _ _ _ _
   | exact tattinglaw22_awake.mono _
   | exact tattingref1_Few.mono _ _ _
   | exact tattingref1_SamePairs.mono _ _ _
   | exact tattingref20_Way.mono _ _ _
   | exact walk_Run.mono _ _ _ _ _
   | exact LeO.none _
   | refine LeO.ite ?_ ?_
   | refine LeO.bind ?_ (fun _ => ?_)
set_option maxHeartbeats 8000000 in
set_option maxRecDepth 100000 in
theorem tattinglaw22_WalkRuns.calls (k : Nat) (a0 : Int) (A1 : Option Addr) (c1 : Nat) (l1 : List Int) (A2 : Option Addr) (c2 : Nat) (l2 : List Int) (a3 : Int) (r : Bool) (w : World) (hr1 : Kd.C (Kd.int .i64) w A1 l1.length l1) (hc1 : l1.length ≤ c1) (hr2 : Kd.C (Kd.int .i64) w A2 l2.length l2) (hc2 : l2.length ≤ c2) (h : tattinglaw22_WalkRuns.f k a0 l1 l2 a3 = some r) :
  Calls Try.prog 4 #[.int .i64 a0, .slice A1 l1.length c1, .slice A2 l2.length c2, .int .i64 a3] w fun e w' => e = .returned (.bool r) ∧ Below w.heap.size w w' := by
 have HR1 := Aside0.mk hr1
 have HC1 := Aside0.mk hc1
 clear hr1 hc1
 have HR2 := Aside0.mk hr2
 have HC2 := Aside0.mk hc2
 clear hr2 hc2
 have HB := Aside0.mk (Below.refl w.heap.size w)
 have H : ((tattinglaw22_awake.f k).bind fun t363 => (if t363 = true then (if (l1.length : Int) > 40 then (tattinglaw22_WalkRuns.j0 k a0 l1 l2 a3 true) else (tattinglaw22_WalkRuns.j0 k a0 l1 l2 a3 (decide ((l2.length : Int) > 130)))) else (some false))) = some r := h
 clear h
 replace H := Option.bind_eq_some_iff.mp H
 obtain ⟨t363, A50, H⟩ := H
 replace H : (if t363 = true then (if (l1.length : Int) > 40 then (tattinglaw22_WalkRuns.j0 k a0 l1 l2 a3 true) else (tattinglaw22_WalkRuns.j0 k a0 l1 l2 a3 (decide ((l2.length : Int) > 130)))) else (some false)) = some r := H
 have A5 := Aside0.mk A50
 clear A50
 by_cases c6 : t363 = true
 ·subst c6
  have H1 : (if (l1.length : Int) > 40 then (tattinglaw22_WalkRuns.j0 k a0 l1 l2 a3 true) else (tattinglaw22_WalkRuns.j0 k a0 l1 l2 a3 (decide ((l2.length : Int) > 130)))) = some r := by rw [if_pos rfl] at H; exact H
  clear H
  have H := H1
  clear H1
  have HC7 := Aside0.mk H
  clear H
  go_enter Try.func4, Try.ntmps4
  go_upto_region 3 with (first | ((with_reducible refine gate_callee (f := 9) rfl ?_); refine goesL_ (some 14) rfl rfl Try.func9 (by kernel_rfl) rfl #[] rfl (by (try simp only [List.map_toArray, List.map_cons, List.map_nil]); first | done | rfl | (simp only [List.length_drop, List.length_take]; rfl)) ?_; (with_reducible refine (tattinglaw22_awake.calls k  true _ A5.out).mono ?_); rintro e w8 ⟨rfl, hb⟩; refine ⟨_, rfl, ?_⟩; have n0_ := Aside0.mk (below_step (by repeat (first | (with_reducible first | exact HB.out | apply below_alloc | apply pw_below_drewN | apply below_drew1) | exact HB.out)) hb); clear HB; have HB := n0_; clear n0_; (try clear hb); (try clear hb2); (try clear hk); (try clear hi)))
  (try simp only [Act.put, List.setIfInBounds_toArray, List.set_cons_zero, List.set_cons_succ])
  go_cut [23] (fun v23 wc => ∃ (kq : Nat) (x23_6 : Bool), v23 = .bool x23_6 ∧ Aside0 (tattinglaw22_WalkRuns.j0 kq a0 l1 l2 a3 x23_6 = some r) ∧ Aside0 (kq ≤ k) ∧ Aside0 (Below w.heap.size w wc))
  case first =>
   have H := HC7.out
   clear HC7
   by_cases c9 : (l1.length : Int) > 40
   ·rw [if_pos c9] at H
    have c9b0 : decide (40 < (l1.length : Int)) = true := decide_eq_true c9
    have c9b1 : decide (40 < l1.length) = true := decide_eq_true (by omega)
    clear c9
    (first | rw [c9b0] | (simp only [i64_w, i32_w]; rw [c9b0]) | skip)
    have H' := Aside0.mk H
    clear H
    go_wp2
    go_meet
    case rel => exact ⟨_, (true), (by first | rfl | (simp; done) | (simp [*]; done)), H', ⟨by first | omega | exact Nat.le_refl _⟩, ⟨by repeat (first | (with_reducible first | exact HB.out | apply below_alloc | apply pw_below_drewN | apply below_drew1) | exact HB.out)⟩⟩
   ·rw [if_neg c9] at H
    have c9b0 : decide (40 < (l1.length : Int)) = false := decide_eq_false c9
    have c9b1 : decide (40 < l1.length) = false := decide_eq_false (by omega)
    clear c9
    (first | rw [c9b0] | (simp only [i64_w, i32_w]; rw [c9b0]) | skip)
    have H' := Aside0.mk H
    clear H
    go_wp2
    go_meet
    case rel => exact ⟨_, (decide ((l2.length : Int) > 130)), (by first | rfl | (simp; done) | (simp [*]; done)), H', ⟨by first | omega | exact Nat.le_refl _⟩, ⟨by repeat (first | (with_reducible first | exact HB.out | apply below_alloc | apply pw_below_drewN | apply below_drew1) | exact HB.out)⟩⟩
  case rest =>
   clear HC7
   try clear c1
   try clear c2
   try clear p2
   try clear c4
   try clear c6
   try clear c9
   try clear c9b0
   try clear c9b1
   obtain ⟨kq, x23_6, rfl, HA, HJ6, HB⟩ := hcut
   cases kq with
   | zero => exact absurd HA.out (by simp [tattinglaw22_WalkRuns.j0])
   | succ kj6 =>
    have H := HA.out
    clear HA
    simp only [tattinglaw22_WalkRuns.j0] at H
    by_cases c10 : x23_6 = true
    ·subst c10
     have H1 : (some true) = some r := by rw [if_pos rfl] at H; exact H
     clear H
     have H := H1
     clear H1
     obtain rfl := Option.some.inj H
     go_wp2
     go_ret
     exact ⟨by first | rfl | (simp [errW_none, errW_some] <;> rfl) | (simp [*, errW_none, errW_some] <;> rfl), by repeat (first | (with_reducible first | exact HB.out | apply below_alloc | apply pw_below_drewN | apply below_drew1) | exact HB.out)⟩
    ·replace c10 := Bool.eq_false_iff.mpr c10
     subst c10
     have H1 : ((tattingref1_Few.f kj6 l1 4).bind fun t364 => ((tattingref1_Few.f kj6 l2 4).bind fun t367 => ((walk_Run.f kj6 a0 t364 t367 a3).bind fun bt370 => (if a0 = 0 then (tattinglaw22_WalkRuns.j1 kj6 t364 t367 bt370.1 bt370.2.1 bt370.2.2 (decide (a3 < 1))) else (if a0 = 1 then (tattinglaw22_WalkRuns.j1 kj6 t364 t367 bt370.1 bt370.2.1 bt370.2.2 (decide (a3 < 1))) else (tattinglaw22_WalkRuns.j1 kj6 t364 t367 bt370.1 bt370.2.1 bt370.2.2 true)))))) = some r := by rw [if_neg (show ¬ (false = true) by decide)] at H; exact H
     clear H
     have H := H1
     clear H1
     replace H := Option.bind_eq_some_iff.mp H
     obtain ⟨t364, A110, H⟩ := H
     replace H : ((tattingref1_Few.f kj6 l2 4).bind fun t367 => ((walk_Run.f kj6 a0 t364 t367 a3).bind fun bt370 => (if a0 = 0 then (tattinglaw22_WalkRuns.j1 kj6 t364 t367 bt370.1 bt370.2.1 bt370.2.2 (decide (a3 < 1))) else (if a0 = 1 then (tattinglaw22_WalkRuns.j1 kj6 t364 t367 bt370.1 bt370.2.1 bt370.2.2 (decide (a3 < 1))) else (tattinglaw22_WalkRuns.j1 kj6 t364 t367 bt370.1 bt370.2.1 bt370.2.2 true))))) = some r := H
     have A11 := Aside0.mk A110
     clear A110
     replace H := Option.bind_eq_some_iff.mp H
     obtain ⟨t367, A120, H⟩ := H
     replace H : ((walk_Run.f kj6 a0 t364 t367 a3).bind fun bt370 => (if a0 = 0 then (tattinglaw22_WalkRuns.j1 kj6 t364 t367 bt370.1 bt370.2.1 bt370.2.2 (decide (a3 < 1))) else (if a0 = 1 then (tattinglaw22_WalkRuns.j1 kj6 t364 t367 bt370.1 bt370.2.1 bt370.2.2 (decide (a3 < 1))) else (tattinglaw22_WalkRuns.j1 kj6 t364 t367 bt370.1 bt370.2.1 bt370.2.2 true)))) = some r := H
     have A12 := Aside0.mk A120
     clear A120
     replace H := Option.bind_eq_some_iff.mp H
     obtain ⟨⟨t370, t371, t372⟩, A130, H⟩ := H
     replace H : (if a0 = 0 then (tattinglaw22_WalkRuns.j1 kj6 t364 t367 t370 t371 t372 (decide (a3 < 1))) else (if a0 = 1 then (tattinglaw22_WalkRuns.j1 kj6 t364 t367 t370 t371 t372 (decide (a3 < 1))) else (tattinglaw22_WalkRuns.j1 kj6 t364 t367 t370 t371 t372 true))) = some r := H
     have A13 := Aside0.mk A130
     clear A130
     have HC14 := Aside0.mk H
     clear H
     go_upto_region 7 with (first | ((with_reducible refine gate_callee (f := 14) rfl ?_); refine goesL_ (some 25) rfl rfl Try.func14 (by kernel_rfl) rfl #[.slice A1 l1.length c1, .int .i64 4] rfl (by (try simp only [List.map_toArray, List.map_cons, List.map_nil]); first | done | rfl | (simp only [List.length_drop, List.length_take]; rfl)) ?_; (with_reducible refine (tattingref1_Few.calls kj6 _ _ l1 4 t364 _ ?side1 ?side2 A11.out).mono ?_); (case side1 => repeat (first | exact (Kd.C_below HR1.out HB.out) | (with_reducible refine Kd.C_alloc ?_ _) | (with_reducible refine Kd.C_drewN ?_ _) | (with_reducible refine Kd.C_drew ?_))); (case side2 => exact HC1.out); rintro e w15 ⟨v365, rfl, ho0, hb⟩; refine ⟨_, rfl, ?_⟩; have n0_ := Aside0.mk (Kd.R_lower ho0 (below_size (by repeat (first | (with_reducible first | exact HB.out | apply below_alloc | apply pw_below_drewN | apply below_drew1) | exact HB.out)))); have n1_ := Aside0.mk (below_step (by repeat (first | (with_reducible first | exact HB.out | apply below_alloc | apply pw_below_drewN | apply below_drew1) | exact HB.out)) hb); clear HB; have HO366 := n0_; have HB := n1_; clear n0_ n1_; (try clear hb); (try clear hb2); (try clear hk); (try clear hi); (try clear ho0)) | ((with_reducible refine gate_callee (f := 14) rfl ?_); refine goesL_ (some 27) rfl rfl Try.func14 (by kernel_rfl) rfl #[.slice A2 l2.length c2, .int .i64 4] rfl (by (try simp only [List.map_toArray, List.map_cons, List.map_nil]); first | done | rfl | (simp only [List.length_drop, List.length_take]; rfl)) ?_; (with_reducible refine (tattingref1_Few.calls kj6 _ _ l2 4 t367 _ ?side1 ?side2 A12.out).mono ?_); (case side1 => repeat (first | exact (Kd.C_below HR2.out HB.out) | (with_reducible refine Kd.C_alloc ?_ _) | (with_reducible refine Kd.C_drewN ?_ _) | (with_reducible refine Kd.C_drew ?_))); (case side2 => exact HC2.out); rintro e w16 ⟨v368, rfl, ho0, hb⟩; refine ⟨_, rfl, ?_⟩; have n0_ := Aside0.mk (Kd.R_elder' (by (with_reducible repeat (first | apply Kd.R_alloc | apply Kd.R_drewN | apply Kd.R_drew)); exact HO366.out) (Kd.R_base ho0) hb); have n1_ := Aside0.mk (Kd.R_lower (Kd.R_new' ho0 (Kd.R_lt (by (with_reducible repeat (first | apply Kd.R_alloc | apply Kd.R_drewN | apply Kd.R_drew)); exact HO366.out))) (below_size (by repeat (first | (with_reducible first | exact HB.out | apply below_alloc | apply pw_below_drewN | apply below_drew1) | exact HB.out)))); have n2_ := Aside0.mk (below_step (by repeat (first | (with_reducible first | exact HB.out | apply below_alloc | apply pw_below_drewN | apply below_drew1) | exact HB.out)) hb); clear HO366; clear HB; have HO366 := n0_; have HO369 := n1_; have HB := n2_; clear n0_ n1_ n2_; (try clear hb); (try clear hb2); (try clear hk); (try clear hi); (try clear ho0); obtain ⟨Ao17, co17, eo17⟩ := Kd.R_slice HO366.out; subst eo17; obtain ⟨Ao18, co18, eo18⟩ := Kd.R_slice HO369.out; subst eo18) | ((with_reducible refine gate_callee (f := 8) rfl ?_); refine goesL_ (some 33) rfl rfl Try.func8 (by kernel_rfl) rfl #[.int .i64 a0, .slice Ao17 t364.length co17, .slice Ao18 t367.length co18, .int .i64 a3] rfl (by (try simp only [List.map_toArray, List.map_cons, List.map_nil]); first | done | rfl | (simp only [List.length_drop, List.length_take]; rfl)) ?_; (with_reducible refine (walk_Run.calls kj6 a0 _ _ t364 _ _ t367 a3 t370 t371 t372 _ ?side1 ?side2 ?side3 ?side4 A13.out).mono ?_); (case side1 => repeat (first | exact (Kd.R_reads' HO366.out).2.2 | (with_reducible refine Kd.C_alloc ?_ _) | (with_reducible refine Kd.C_drewN ?_ _) | (with_reducible refine Kd.C_drew ?_))); (case side2 => exact (Kd.R_reads' HO366.out).2.1); (case side3 => repeat (first | exact (Kd.R_reads' HO369.out).2.2 | (with_reducible refine Kd.C_alloc ?_ _) | (with_reducible refine Kd.C_drewN ?_ _) | (with_reducible refine Kd.C_drew ?_))); (case side4 => exact (Kd.R_reads' HO369.out).2.1); rintro e w19 ⟨v373, rfl, ho0, hb⟩; refine ⟨_, rfl, ?_⟩; have n0_ := Aside0.mk (Kd.R_below (by (with_reducible repeat (first | apply Kd.R_alloc | apply Kd.R_drewN | apply Kd.R_drew)); exact HO366.out) hb); have n1_ := Aside0.mk (Kd.R_below (by (with_reducible repeat (first | apply Kd.R_alloc | apply Kd.R_drewN | apply Kd.R_drew)); exact HO369.out) hb); have n2_ := Aside0.mk (Kd.R_lower ho0 (below_size (by repeat (first | (with_reducible first | exact HB.out | apply below_alloc | apply pw_below_drewN | apply below_drew1) | exact HB.out)))); have n3_ := Aside0.mk (below_step (by repeat (first | (with_reducible first | exact HB.out | apply below_alloc | apply pw_below_drewN | apply below_drew1) | exact HB.out)) hb); clear HO366; clear HO369; clear HB; have HO366 := n0_; have HO369 := n1_; have HO374 := n2_; have HB := n3_; clear n0_ n1_ n2_ n3_; (try clear hb); (try clear hb2); (try clear hk); (try clear hi); (try clear ho0)))
     (try simp only [Act.put, List.setIfInBounds_toArray, List.set_cons_zero, List.set_cons_succ])
     go_cut [46] (fun v46 wc => ∃ (kq : Nat) (x46_13 : Bool), v46 = .bool x46_13 ∧ Aside0 (tattinglaw22_WalkRuns.j1 kq t364 t367 t370 t371 t372 x46_13 = some r) ∧ Aside0 (kq ≤ kj6) ∧ Aside0 (Kd.R (Kd.int .i64) 3 wc w.heap.size (fun k_ => some k_ ≠ ((.slice Ao18 t367.length co18) : Value).ownBlock) (.slice Ao17 t364.length co17) t364) ∧ Aside0 (Kd.R (Kd.int .i64) 3 wc w.heap.size (fun k_ => some k_ ≠ ((.slice Ao17 t364.length co17) : Value).ownBlock) (.slice Ao18 t367.length co18) t367) ∧ Aside0 (Kd.R k29 29 wc w.heap.size (fun _ => True) v373 t370) ∧ Aside0 (Below w.heap.size w wc))
     case first =>
      have H := HC14.out
      clear HC14
      by_cases c20 : a0 = 0
      ·rw [if_pos c20] at H
       have c20b0 : (a0 == 0) = true := beq_iff_eq.mpr c20
       have c20b1 : (a0 != 0) = false := bne_eq_false_iff_eq.mpr c20
       clear c20
       (first | rw [c20b0] | (simp only [i64_w, i32_w]; rw [c20b0]) | skip)
       have H' := Aside0.mk H
       clear H
       go_wp2
       go_meet
       case rel => exact ⟨_, (decide (a3 < 1)), (by first | rfl | (simp; done) | (simp [*]; done)), H', ⟨by have := HJ6.out; first | omega | exact Nat.le_refl _⟩, ⟨by (with_reducible repeat (first | apply Kd.R_alloc | apply Kd.R_drewN | apply Kd.R_drew)); exact Kd.R_mono HO366.out (fun _ hk => hk.2)⟩, ⟨by (with_reducible repeat (first | apply Kd.R_alloc | apply Kd.R_drewN | apply Kd.R_drew)); exact Kd.R_mono HO369.out (fun _ hk => hk.2)⟩, ⟨by (with_reducible repeat (first | apply Kd.R_alloc | apply Kd.R_drewN | apply Kd.R_drew)); exact HO374.out⟩, ⟨by repeat (first | (with_reducible first | exact HB.out | apply below_alloc | apply pw_below_drewN | apply below_drew1) | exact HB.out)⟩⟩
      ·rw [if_neg c20] at H
       have c20b0 : (a0 == 0) = false := beq_eq_false_iff_ne.mpr c20
       have c20b1 : (a0 != 0) = true := bne_iff_ne.mpr c20
       (first | rw [c20b0] | (simp only [i64_w, i32_w]; rw [c20b0]) | skip)
       by_cases c21 : a0 = 1
       ·rw [if_pos c21] at H
        have c21b0 : (a0 == 1) = true := beq_iff_eq.mpr c21
        have c21b1 : (a0 != 1) = false := bne_eq_false_iff_eq.mpr c21
        clear c21
        have H' := Aside0.mk H
        clear H
        go_wp2
        go_meet
        case rel => exact ⟨_, (decide (a3 < 1)), (by first | rfl | (simp; done) | (simp [*]; done)), H', ⟨by have := HJ6.out; first | omega | exact Nat.le_refl _⟩, ⟨by (with_reducible repeat (first | apply Kd.R_alloc | apply Kd.R_drewN | apply Kd.R_drew)); exact Kd.R_mono HO366.out (fun _ hk => hk.2)⟩, ⟨by (with_reducible repeat (first | apply Kd.R_alloc | apply Kd.R_drewN | apply Kd.R_drew)); exact Kd.R_mono HO369.out (fun _ hk => hk.2)⟩, ⟨by (with_reducible repeat (first | apply Kd.R_alloc | apply Kd.R_drewN | apply Kd.R_drew)); exact HO374.out⟩, ⟨by repeat (first | (with_reducible first | exact HB.out | apply below_alloc | apply pw_below_drewN | apply below_drew1) | exact HB.out)⟩⟩
       ·rw [if_neg c21] at H
        have c21b0 : (a0 == 1) = false := beq_eq_false_iff_ne.mpr c21
        have c21b1 : (a0 != 1) = true := bne_iff_ne.mpr c21
        have H' := Aside0.mk H
        clear H
        go_wp2
        go_meet
        case rel => exact ⟨_, (true), (by first | rfl | (simp; done) | (simp [*]; done)), H', ⟨by have := HJ6.out; first | omega | exact Nat.le_refl _⟩, ⟨by (with_reducible repeat (first | apply Kd.R_alloc | apply Kd.R_drewN | apply Kd.R_drew)); exact Kd.R_mono HO366.out (fun _ hk => hk.2)⟩, ⟨by (with_reducible repeat (first | apply Kd.R_alloc | apply Kd.R_drewN | apply Kd.R_drew)); exact Kd.R_mono HO369.out (fun _ hk => hk.2)⟩, ⟨by (with_reducible repeat (first | apply Kd.R_alloc | apply Kd.R_drewN | apply Kd.R_drew)); exact HO374.out⟩, ⟨by repeat (first | (with_reducible first | exact HB.out | apply below_alloc | apply pw_below_drewN | apply below_drew1) | exact HB.out)⟩⟩
     case rest =>
      clear HC14
      try clear c1
      try clear c2
      try clear p2
      try clear c4
      try clear c6
      try clear c8
      try clear c9
      try clear c9b0
      try clear c9b1
      try clear c10
      try clear c14
      try clear c20
      try clear c20b0
      try clear c20b1
      try clear c21
      try clear c21b0
      try clear c21b1
      try clear p2
      obtain ⟨kq, x46_13, rfl, HA, HJ13, HO_9, HO_10, HO_11, HB⟩ := hcut
      cases kq with
      | zero => exact absurd HA.out (by simp [tattinglaw22_WalkRuns.j1])
      | succ kj13 =>
       have H := HA.out
       clear HA
       simp only [tattinglaw22_WalkRuns.j1] at H
       by_cases c22 : x46_13 = true
       ·subst c22
        have H1 : (if t372 = 1 then (if (t370.length : Int) = 0 then (some (t371 == 0)) else (some false)) else (some false)) = some r := by rw [if_pos rfl] at H; exact H
        clear H
        have H := H1
        clear H1
        by_cases c23 : t372 = 1
        ·rw [if_pos c23] at H
         have c23b0 : (t372 == 1) = true := beq_iff_eq.mpr c23
         have c23b1 : (t372 != 1) = false := bne_eq_false_iff_eq.mpr c23
         clear c23
         by_cases c24 : (t370.length : Int) = 0
         ·rw [if_pos c24] at H
          have c24b0 : ((t370.length : Int) == 0) = true := beq_iff_eq.mpr c24
          have c24b1 : ((t370.length : Int) != 0) = false := bne_eq_false_iff_eq.mpr c24
          clear c24
          obtain rfl := Option.some.inj H
          obtain ⟨Ao25, co25, eo25⟩ := Kd.R_slice HO_11.out
          subst eo25
          go_wp2
          go_ret
          exact ⟨by first | rfl | (simp [errW_none, errW_some] <;> rfl) | (simp [*, errW_none, errW_some] <;> rfl), by repeat (first | (with_reducible first | exact HB.out | apply below_alloc | apply pw_below_drewN | apply below_drew1) | exact HB.out)⟩
         ·rw [if_neg c24] at H
          have c24b0 : ((t370.length : Int) == 0) = false := beq_eq_false_iff_ne.mpr c24
          have c24b1 : ((t370.length : Int) != 0) = true := bne_iff_ne.mpr c24
          have c24b2 : ¬ (t370 = []) := fun h_ => c24 (by rw [h_]; rfl)
          obtain rfl := Option.some.inj H
          obtain ⟨Ao26, co26, eo26⟩ := Kd.R_slice HO_11.out
          subst eo26
          go_wp2
          go_ret
          exact ⟨by first | rfl | (simp [errW_none, errW_some] <;> rfl) | (simp [*, errW_none, errW_some] <;> rfl), by repeat (first | (with_reducible first | exact HB.out | apply below_alloc | apply pw_below_drewN | apply below_drew1) | exact HB.out)⟩
        ·rw [if_neg c23] at H
         have c23b0 : (t372 == 1) = false := beq_eq_false_iff_ne.mpr c23
         have c23b1 : (t372 != 1) = true := bne_iff_ne.mpr c23
         obtain rfl := Option.some.inj H
         go_wp2
         go_ret
         exact ⟨by first | rfl | (simp [errW_none, errW_some] <;> rfl) | (simp [*, errW_none, errW_some] <;> rfl), by repeat (first | (with_reducible first | exact HB.out | apply below_alloc | apply pw_below_drewN | apply below_drew1) | exact HB.out)⟩
       ·replace c22 := Bool.eq_false_iff.mpr c22
        subst c22
        have H1 : (if t372 = 0 then ((tattingref20_Way.f kj13 t364 t367).bind fun t375 => ((tattingref1_SamePairs.f kj13 t370 t375).bind fun t378 => (if t378 = true then ((tattingref20_Steps.f (t364.length : Int) (t367.length : Int)).bind fun t379 => (some (t371 == (wrap64 (2 * t379))))) else (some false)))) else (some false)) = some r := by rw [if_neg (show ¬ (false = true) by decide)] at H; exact H
        clear H
        have H := H1
        clear H1
        by_cases c27 : t372 = 0
        ·rw [if_pos c27] at H
         have c27b0 : (t372 == 0) = true := beq_iff_eq.mpr c27
         have c27b1 : (t372 != 0) = false := bne_eq_false_iff_eq.mpr c27
         clear c27
         replace H := Option.bind_eq_some_iff.mp H
         obtain ⟨t375, A280, H⟩ := H
         replace H : ((tattingref1_SamePairs.f kj13 t370 t375).bind fun t378 => (if t378 = true then ((tattingref20_Steps.f (t364.length : Int) (t367.length : Int)).bind fun t379 => (some (t371 == (wrap64 (2 * t379))))) else (some false))) = some r := H
         have A28 := Aside0.mk A280
         clear A280
         replace H := Option.bind_eq_some_iff.mp H
         obtain ⟨t378, A290, H⟩ := H
         replace H : (if t378 = true then ((tattingref20_Steps.f (t364.length : Int) (t367.length : Int)).bind fun t379 => (some (t371 == (wrap64 (2 * t379))))) else (some false)) = some r := H
         have A29 := Aside0.mk A290
         clear A290
         by_cases c30 : t378 = true
         ·subst c30
          have H1 : ((tattingref20_Steps.f (t364.length : Int) (t367.length : Int)).bind fun t379 => (some (t371 == (wrap64 (2 * t379))))) = some r := by rw [if_pos rfl] at H; exact H
          clear H
          have H := H1
          clear H1
          replace H := Option.bind_eq_some_iff.mp H
          obtain ⟨t379, A310, H⟩ := H
          replace H : (some (t371 == (wrap64 (2 * t379)))) = some r := H
          have A31 := Aside0.mk A310
          clear A310
          obtain rfl := Option.some.inj H
          go_wp2_with (first | (go_at_call 16; (with_reducible refine (tattingref20_Way.calls kj13 _ _ t364 _ _ t367 t375 _ ?side1 ?side2 ?side3 ?side4 A28.out).mono ?_); (case side1 => repeat (first | exact (Kd.R_reads' HO_9.out).2.2 | (with_reducible refine Kd.C_alloc ?_ _) | (with_reducible refine Kd.C_drewN ?_ _) | (with_reducible refine Kd.C_drew ?_))); (case side2 => exact (Kd.R_reads' HO_9.out).2.1); (case side3 => repeat (first | exact (Kd.R_reads' HO_10.out).2.2 | (with_reducible refine Kd.C_alloc ?_ _) | (with_reducible refine Kd.C_drewN ?_ _) | (with_reducible refine Kd.C_drew ?_))); (case side4 => exact (Kd.R_reads' HO_10.out).2.1); rintro e w32 ⟨v376, rfl, ho0, hb⟩; have n0_ := Aside0.mk (Kd.R_below (by (with_reducible repeat (first | apply Kd.R_alloc | apply Kd.R_drewN | apply Kd.R_drew)); exact HO_9.out) hb); have n1_ := Aside0.mk (Kd.R_below (by (with_reducible repeat (first | apply Kd.R_alloc | apply Kd.R_drewN | apply Kd.R_drew)); exact HO_10.out) hb); have n2_ := Aside0.mk (Kd.R_elder' (by (with_reducible repeat (first | apply Kd.R_alloc | apply Kd.R_drewN | apply Kd.R_drew)); exact HO_11.out) (Kd.R_base ho0) hb); have n3_ := Aside0.mk (Kd.R_lower (Kd.R_new' ho0 (Kd.R_lt (by (with_reducible repeat (first | apply Kd.R_alloc | apply Kd.R_drewN | apply Kd.R_drew)); exact HO_11.out))) (below_size (by repeat (first | (with_reducible first | exact HB.out | apply below_alloc | apply pw_below_drewN | apply below_drew1) | exact HB.out)))); have n4_ := Aside0.mk (below_step (by repeat (first | (with_reducible first | exact HB.out | apply below_alloc | apply pw_below_drewN | apply below_drew1) | exact HB.out)) hb); clear HO_9; clear HO_10; clear HO_11; clear HB; have HO_9 := n0_; have HO_10 := n1_; have HO_11 := n2_; have HO377 := n3_; have HB := n4_; clear n0_ n1_ n2_ n3_ n4_; (try clear hb); (try clear hb2); (try clear hk); (try clear hi); (try clear ho0); obtain ⟨Ao33, co33, eo33⟩ := Kd.R_slice HO_11.out; subst eo33; obtain ⟨Ao34, co34, eo34⟩ := Kd.R_slice HO377.out; subst eo34) | (go_at_call 15; (with_reducible refine (tattingref1_SamePairs.calls kj13 _ _ t370 _ _ t375 true _ ?side1 ?side2 ?side3 ?side4 A29.out).mono ?_); (case side1 => repeat (first | exact (Kd.R_reads' HO_11.out).2.2 | (with_reducible refine Kd.C_alloc ?_ _) | (with_reducible refine Kd.C_drewN ?_ _) | (with_reducible refine Kd.C_drew ?_))); (case side2 => exact (Kd.R_reads' HO_11.out).2.1); (case side3 => repeat (first | exact (Kd.R_reads' HO377.out).2.2 | (with_reducible refine Kd.C_alloc ?_ _) | (with_reducible refine Kd.C_drewN ?_ _) | (with_reducible refine Kd.C_drew ?_))); (case side4 => exact (Kd.R_reads' HO377.out).2.1); rintro e w' ⟨rfl, ⟨nd, rfl⟩⟩) | (go_at_call 17; (with_reducible refine (tattingref20_Steps.calls (t364.length : Int) (t367.length : Int) t379 _ A31.out).mono ?_); rintro e w' ⟨rfl, ⟨nd, rfl⟩⟩))
          go_ret
          exact ⟨by first | rfl | (simp [errW_none, errW_some] <;> rfl) | (simp [*, errW_none, errW_some] <;> rfl), by repeat (first | (with_reducible first | exact HB.out | apply below_alloc | apply pw_below_drewN | apply below_drew1) | exact HB.out)⟩
         ·replace c30 := Bool.eq_false_iff.mpr c30
          subst c30
          have H1 : (some false) = some r := by rw [if_neg (show ¬ (false = true) by decide)] at H; exact H
          clear H
          have H := H1
          clear H1
          obtain rfl := Option.some.inj H
          go_wp2_with (first | (go_at_call 16; (with_reducible refine (tattingref20_Way.calls kj13 _ _ t364 _ _ t367 t375 _ ?side1 ?side2 ?side3 ?side4 A28.out).mono ?_); (case side1 => repeat (first | exact (Kd.R_reads' HO_9.out).2.2 | (with_reducible refine Kd.C_alloc ?_ _) | (with_reducible refine Kd.C_drewN ?_ _) | (with_reducible refine Kd.C_drew ?_))); (case side2 => exact (Kd.R_reads' HO_9.out).2.1); (case side3 => repeat (first | exact (Kd.R_reads' HO_10.out).2.2 | (with_reducible refine Kd.C_alloc ?_ _) | (with_reducible refine Kd.C_drewN ?_ _) | (with_reducible refine Kd.C_drew ?_))); (case side4 => exact (Kd.R_reads' HO_10.out).2.1); rintro e w35 ⟨v376, rfl, ho0, hb⟩; have n0_ := Aside0.mk (Kd.R_below (by (with_reducible repeat (first | apply Kd.R_alloc | apply Kd.R_drewN | apply Kd.R_drew)); exact HO_9.out) hb); have n1_ := Aside0.mk (Kd.R_below (by (with_reducible repeat (first | apply Kd.R_alloc | apply Kd.R_drewN | apply Kd.R_drew)); exact HO_10.out) hb); have n2_ := Aside0.mk (Kd.R_elder' (by (with_reducible repeat (first | apply Kd.R_alloc | apply Kd.R_drewN | apply Kd.R_drew)); exact HO_11.out) (Kd.R_base ho0) hb); have n3_ := Aside0.mk (Kd.R_lower (Kd.R_new' ho0 (Kd.R_lt (by (with_reducible repeat (first | apply Kd.R_alloc | apply Kd.R_drewN | apply Kd.R_drew)); exact HO_11.out))) (below_size (by repeat (first | (with_reducible first | exact HB.out | apply below_alloc | apply pw_below_drewN | apply below_drew1) | exact HB.out)))); have n4_ := Aside0.mk (below_step (by repeat (first | (with_reducible first | exact HB.out | apply below_alloc | apply pw_below_drewN | apply below_drew1) | exact HB.out)) hb); clear HO_9; clear HO_10; clear HO_11; clear HB; have HO_9 := n0_; have HO_10 := n1_; have HO_11 := n2_; have HO377 := n3_; have HB := n4_; clear n0_ n1_ n2_ n3_ n4_; (try clear hb); (try clear hb2); (try clear hk); (try clear hi); (try clear ho0); obtain ⟨Ao36, co36, eo36⟩ := Kd.R_slice HO_11.out; subst eo36; obtain ⟨Ao37, co37, eo37⟩ := Kd.R_slice HO377.out; subst eo37) | (go_at_call 15; (with_reducible refine (tattingref1_SamePairs.calls kj13 _ _ t370 _ _ t375 false _ ?side1 ?side2 ?side3 ?side4 A29.out).mono ?_); (case side1 => repeat (first | exact (Kd.R_reads' HO_11.out).2.2 | (with_reducible refine Kd.C_alloc ?_ _) | (with_reducible refine Kd.C_drewN ?_ _) | (with_reducible refine Kd.C_drew ?_))); (case side2 => exact (Kd.R_reads' HO_11.out).2.1); (case side3 => repeat (first | exact (Kd.R_reads' HO377.out).2.2 | (with_reducible refine Kd.C_alloc ?_ _) | (with_reducible refine Kd.C_drewN ?_ _) | (with_reducible refine Kd.C_drew ?_))); (case side4 => exact (Kd.R_reads' HO377.out).2.1); rintro e w' ⟨rfl, ⟨nd, rfl⟩⟩))
          go_ret
          exact ⟨by first | rfl | (simp [errW_none, errW_some] <;> rfl) | (simp [*, errW_none, errW_some] <;> rfl), by repeat (first | (with_reducible first | exact HB.out | apply below_alloc | apply pw_below_drewN | apply below_drew1) | exact HB.out)⟩
        ·rw [if_neg c27] at H
         have c27b0 : (t372 == 0) = false := beq_eq_false_iff_ne.mpr c27
         have c27b1 : (t372 != 0) = true := bne_iff_ne.mpr c27
         obtain rfl := Option.some.inj H
         go_wp2
         go_ret
         exact ⟨by first | rfl | (simp [errW_none, errW_some] <;> rfl) | (simp [*, errW_none, errW_some] <;> rfl), by repeat (first | (with_reducible first | exact HB.out | apply below_alloc | apply pw_below_drewN | apply below_drew1) | exact HB.out)⟩
 ·replace c6 := Bool.eq_false_iff.mpr c6
  subst c6
  have H1 : (some false) = some r := by rw [if_neg (show ¬ (false = true) by decide)] at H; exact H
  clear H
  have H := H1
  clear H1
  obtain rfl := Option.some.inj H
  go_enter Try.func4, Try.ntmps4
  go_wp2_with (first | ((with_reducible refine gate_callee (f := 9) rfl ?_); refine goesL_ (some 14) rfl rfl Try.func9 (by kernel_rfl) rfl #[] rfl (by (try simp only [List.map_toArray, List.map_cons, List.map_nil]); first | done | rfl | (simp only [List.length_drop, List.length_take]; rfl)) ?_; (with_reducible refine (tattinglaw22_awake.calls k  false _ A5.out).mono ?_); rintro e w38 ⟨rfl, hb⟩; refine ⟨_, rfl, ?_⟩; have n0_ := Aside0.mk (below_step (by repeat (first | (with_reducible first | exact HB.out | apply below_alloc | apply pw_below_drewN | apply below_drew1) | exact HB.out)) hb); clear HB; have HB := n0_; clear n0_; (try clear hb); (try clear hb2); (try clear hk); (try clear hi)))
  go_ret
  exact ⟨by first | rfl | (simp [errW_none, errW_some] <;> rfl) | (simp [*, errW_none, errW_some] <;> rfl), by repeat (first | (with_reducible first | exact HB.out | apply below_alloc | apply pw_below_drewN | apply below_drew1) | exact HB.out)⟩

/-- THE ONE PURE STATEMENT of tattinglaw22_WalkRuns: yours. -/
def tattinglaw22_WalkRuns.Pure : Prop := ∀ (a0 : Int) (l1 : List Int) (l2 : List Int) (a3 : Int), (Lit.int .i64 a0).wf = true → l1.length ≤ maxLen → l1.length * 8 ≤ 140737488351232 → (∀ x ∈ l1, (Lit.int .i64 x).wf = true) → l2.length ≤ maxLen → l2.length * 8 ≤ 140737488351232 → (∀ x ∈ l2, (Lit.int .i64 x).wf = true) → (Lit.int .i64 a3).wf = true → ∃ k, tattinglaw22_WalkRuns.f k a0 l1 l2 a3 = some true
theorem tattinglaw22_WalkRuns.walk (P : tattinglaw22_WalkRuns.Pure) (a0 : Int) (a1 : Option Addr) (len1 cap1 : Nat) (z1 : List Int) (a2 : Option Addr) (len2 cap2 : Nat) (z2 : List Int) (a3 : Int) (w : World) (w0 : (Lit.int .i64 a0).wf = true) (w1 : (a1 = none ∧ len1 = 0 ∧ cap1 = 0 ∧ z1 = []) ∨ ∃ x, a1 = some x ∧ len1 ≤ cap1 ∧ cap1 ≤ maxLen ∧ z1.length = cap1 ∧ (∀ i, i < z1.length → w.cell? (x.add i) = some (.int .i64 (z1.getD i 0))) ∧ ∀ n ∈ z1, (Lit.int .i64 n).wf = true) (y1 : len1 * 8 ≤ 140737488351232) (w2 : (a2 = none ∧ len2 = 0 ∧ cap2 = 0 ∧ z2 = []) ∨ ∃ x, a2 = some x ∧ len2 ≤ cap2 ∧ cap2 ≤ maxLen ∧ z2.length = cap2 ∧ (∀ i, i < z2.length → w.cell? (x.add i) = some (.int .i64 (z2.getD i 0))) ∧ ∀ n ∈ z2, (Lit.int .i64 n).wf = true) (y2 : len2 * 8 ≤ 140737488351232) (w3 : (Lit.int .i64 a3).wf = true) :
  Calls Try.prog 4 #[.int .i64 a0, .slice a1 len1 cap1, .slice a2 len2 cap2, .int .i64 a3] w fun e w' => e = .returned (.bool true) ∧ Below w.heap.size w w' := by
 obtain ⟨l1, rfl, hr1, hm1, hw1, hc1⟩ := ReadsInt.ofRowC w1
 obtain ⟨l2, rfl, hr2, hm2, hw2, hc2⟩ := ReadsInt.ofRowC w2
 obtain ⟨k, h⟩ := P a0 l1 l2 a3 w0 hm1 y1 hw1 hm2 y2 hw2 w3
 refine (tattinglaw22_WalkRuns.calls k a0 _ _ l1 _ _ l2 a3 true w (Kd.C_of_reads (d := (0 : Int)) (h1 := fun _ => rfl) hr1) hc1 (Kd.C_of_reads (d := (0 : Int)) (h1 := fun _ => rfl) hr2) hc2 h).mono ?_
 rintro e w' ⟨rfl, hd⟩
 exact ⟨rfl, hd⟩

end Go.Proofs.Ytkafkbdidnkefaa.R
