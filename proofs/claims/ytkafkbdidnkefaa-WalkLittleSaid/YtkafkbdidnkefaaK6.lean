-- laid by a program of this session (wip/xprint)
import Derived.Test.YtkafkbdidnkefaaK0
import Derived.Test.YtkafkbdidnkefaaK5
namespace Go.Proofs.Ytkafkbdidnkefaa.K
open Go.RowKit Go.Proofs.YtkafkbdidnkefaaW.PrintWords Go.Proofs.YtkafkbdidnkefaaW.PrintLast Go.Proofs.YtkafkbdidnkefaaW.PrintMore
attribute [local go_sem] max2_int min2_int max_two min_two max_three min_three max_four min_four   -- for this text's walks alone
set_option linter.unusedVariables false
set_option linter.unusedSimpArgs false

/-! ### tattingref5_Width: function 46 -/
def tattingref5_Width.f (a0 : Int) : Option (Int) := if a0 < 0 then (some 0) else (if a0 > 1048576 then (some 1048576) else (some a0))
set_option maxHeartbeats 8000000 in
set_option maxRecDepth 100000 in
theorem tattingref5_Width.calls (a0 : Int) (r : Int) (w : World) (h : tattingref5_Width.f a0 = some r) :
    Calls Try.prog 46 #[.int .i64 a0] w fun e w' => e = .returned (.int .i64 r) ∧ Drawn0 w w' := by
  have H : (if a0 < 0 then (some 0) else (if a0 > 1048576 then (some 1048576) else (some a0))) = some r := h
  clear h
  by_cases c2 : a0 < 0
  · rw [if_pos c2] at H
    have c2b0 : decide (a0 < 0) = true := decide_eq_true c2
    clear c2
    obtain rfl := Option.some.inj H
    go_enter Try.func46, Try.ntmps46
    go_wp2
    go_ret
    exact ⟨by first | rfl | (simp; done) | (simp [*]; done), by repeat (first | exact Drawn0.refl _ | apply Drawn0.step)⟩
  · rw [if_neg c2] at H
    have c2b0 : decide (a0 < 0) = false := decide_eq_false c2
    clear c2
    by_cases c3 : a0 > 1048576
    · rw [if_pos c3] at H
      have c3b0 : decide (1048576 < a0) = true := decide_eq_true c3
      clear c3
      obtain rfl := Option.some.inj H
      go_enter Try.func46, Try.ntmps46
      go_wp2
      go_ret
      exact ⟨by first | rfl | (simp; done) | (simp [*]; done), by repeat (first | exact Drawn0.refl _ | apply Drawn0.step)⟩
    · rw [if_neg c3] at H
      have c3b0 : decide (1048576 < a0) = false := decide_eq_false c3
      clear c3
      obtain rfl := Option.some.inj H
      go_enter Try.func46, Try.ntmps46
      go_wp2
      go_ret
      exact ⟨by first | rfl | (simp; done) | (simp [*]; done), by repeat (first | exact Drawn0.refl _ | apply Drawn0.step)⟩

/-! ### tattingref5_Words: function 33 -/
def tattingref5_Words.f (a0 : Int) : Option (Int) := (tattingref5_Width.f a0).bind fun t302 => (some (wrap64 (Int.tdiv (wrap64 (t302 + 63)) 64)))
set_option maxHeartbeats 8000000 in
set_option maxRecDepth 100000 in
theorem tattingref5_Words.calls (a0 : Int) (r : Int) (w : World) (h : tattingref5_Words.f a0 = some r) :
    Calls Try.prog 33 #[.int .i64 a0] w fun e w' => e = .returned (.int .i64 r) ∧ Drawn0 w w' := by
  have H : ((tattingref5_Width.f a0).bind fun t302 => (some (wrap64 (Int.tdiv (wrap64 (t302 + 63)) 64)))) = some r := h
  clear h
  replace H := Option.bind_eq_some_iff.mp H
  obtain ⟨t302, A20, H⟩ := H
  replace H : (some (wrap64 (Int.tdiv (wrap64 (t302 + 63)) 64))) = some r := H
  have A2 := Aside0.mk A20
  clear A20
  obtain rfl := Option.some.inj H
  go_enter Try.func33, Try.ntmps33
  go_wp2_with (first | ((with_reducible refine gate_callee (f := 46) rfl ?_); refine goesL_ (some 4) rfl rfl Try.func46 (by kernel_rfl) rfl #[.int .i64 a0] rfl (by (try simp only [List.map_toArray, List.map_cons, List.map_nil]); first | done | rfl | (simp only [List.length_drop, List.length_take]; rfl)) ?_; (with_reducible refine (tattingref5_Width.calls a0 t302 _ A2.out).mono ?_); rintro e w' ⟨rfl, ⟨nd, rfl⟩⟩; refine ⟨_, rfl, ?_⟩))
  go_ret
  exact ⟨by first | rfl | (simp; done) | (simp [*]; done), by repeat (first | exact Drawn0.refl _ | apply Drawn0.step)⟩

/-! ### tattingref20_Room: function 21 -/
def tattingref20_Room.f (k : Nat) (a0 : Int) (a1 : Int) (a2 : Int) : Option (Int) := (tattingref20_Kept.f k a0 a2).bind fun t303 => (if (t303.length : Int) = 0 then (some 0) else (if a1 < 0 then (some 0) else (if a1 > 1048576 then (some 0) else ((tattingref5_Words.f a1).bind fun t306 => (some (wrap64 ((wrap64 ((t303.length : Int) + (mn a2 a0))) * t306)))))))
theorem tattingref20_Room.mono : ∀ a0 a1 a2 k, LeO (tattingref20_Room.f k a0 a1 a2) (tattingref20_Room.f (k + 1) a0 a1 a2) := by
  intro a0 a1 a2 k
  unfold tattingref20_Room.f
  repeat' first
      | (with_reducible exact tattingref20_Kept.mono _ _ _)
      | (with_reducible exact LeO.refl _)
      | (with_reducible exact LeO.none _)
      | (with_reducible refine LeO.ite ?_ ?_)
      | (with_reducible refine LeO.bind ?_ (fun _ => ?_))
      | exact tattingref20_Kept.mono _ _ _
      | exact LeO.none _
      | refine LeO.ite ?_ ?_
      | refine LeO.bind ?_ (fun _ => ?_)
set_option maxHeartbeats 8000000 in
set_option maxRecDepth 100000 in
theorem tattingref20_Room.calls (k : Nat) (a0 : Int) (a1 : Int) (a2 : Int) (r : Int) (w : World) (h : tattingref20_Room.f k a0 a1 a2 = some r) :
    Calls Try.prog 21 #[.int .i64 a0, .int .i64 a1, .int .i64 a2] w fun e w' => e = .returned (.int .i64 r) ∧ Below w.heap.size w w' := by
  have HB := Aside0.mk (Below.refl w.heap.size w)
  have H : ((tattingref20_Kept.f k a0 a2).bind fun t303 => (if (t303.length : Int) = 0 then (some 0) else (if a1 < 0 then (some 0) else (if a1 > 1048576 then (some 0) else ((tattingref5_Words.f a1).bind fun t306 => (some (wrap64 ((wrap64 ((t303.length : Int) + (mn a2 a0))) * t306)))))))) = some r := h
  clear h
  replace H := Option.bind_eq_some_iff.mp H
  obtain ⟨t303, A40, H⟩ := H
  replace H : (if (t303.length : Int) = 0 then (some 0) else (if a1 < 0 then (some 0) else (if a1 > 1048576 then (some 0) else ((tattingref5_Words.f a1).bind fun t306 => (some (wrap64 ((wrap64 ((t303.length : Int) + (mn a2 a0))) * t306))))))) = some r := H
  have A4 := Aside0.mk A40
  clear A40
  by_cases c5 : (t303.length : Int) = 0
  · rw [if_pos c5] at H
    have c5b0 : ((t303.length : Int) == 0) = true := beq_iff_eq.mpr c5
    have c5b1 : ((t303.length : Int) != 0) = false := bne_eq_false_iff_eq.mpr c5
    clear c5
    obtain rfl := Option.some.inj H
    go_enter Try.func21, Try.ntmps21
    go_wp2_with (first | ((with_reducible refine gate_callee (f := 20) rfl ?_); refine goesL_ (some 10) rfl rfl Try.func20 (by kernel_rfl) rfl #[.int .i64 a0, .int .i64 a2] rfl (by (try simp only [List.map_toArray, List.map_cons, List.map_nil]); first | done | rfl | (simp only [List.length_drop, List.length_take]; rfl)) ?_; (with_reducible refine (tattingref20_Kept.calls k a0 a2 t303 _ A4.out).mono ?_); rintro e w6 ⟨v304, rfl, ho0, hb⟩; refine ⟨_, rfl, ?_⟩; have n0_ := Aside0.mk (Kd.R_lower ho0 (below_size (by repeat (first | (with_reducible first | exact HB.out | apply below_alloc | apply pw_below_drewN | apply below_drew1) | exact HB.out)))); have n1_ := Aside0.mk (below_step (by repeat (first | (with_reducible first | exact HB.out | apply below_alloc | apply pw_below_drewN | apply below_drew1) | exact HB.out)) hb); clear HB; have HO305 := n0_; have HB := n1_; clear n0_ n1_; (try clear hb); (try clear hb2); (try clear hk); (try clear hi); (try clear ho0); obtain ⟨Ao7, co7, eo7⟩ := Kd.R_slice HO305.out; subst eo7))
    go_ret
    exact ⟨by first | rfl | (simp [errW_none, errW_some] <;> rfl) | (simp [*, errW_none, errW_some] <;> rfl), by repeat (first | (with_reducible first | exact HB.out | apply below_alloc | apply pw_below_drewN | apply below_drew1) | exact HB.out)⟩
  · rw [if_neg c5] at H
    have c5b0 : ((t303.length : Int) == 0) = false := beq_eq_false_iff_ne.mpr c5
    have c5b1 : ((t303.length : Int) != 0) = true := bne_iff_ne.mpr c5
    have c5b2 : ¬ (t303 = []) := fun h_ => c5 (by rw [h_]; rfl)
    by_cases c8 : a1 < 0
    · rw [if_pos c8] at H
      have c8b0 : decide (a1 < 0) = true := decide_eq_true c8
      clear c8
      obtain rfl := Option.some.inj H
      go_enter Try.func21, Try.ntmps21
      go_wp2_with (first | ((with_reducible refine gate_callee (f := 20) rfl ?_); refine goesL_ (some 10) rfl rfl Try.func20 (by kernel_rfl) rfl #[.int .i64 a0, .int .i64 a2] rfl (by (try simp only [List.map_toArray, List.map_cons, List.map_nil]); first | done | rfl | (simp only [List.length_drop, List.length_take]; rfl)) ?_; (with_reducible refine (tattingref20_Kept.calls k a0 a2 t303 _ A4.out).mono ?_); rintro e w9 ⟨v304, rfl, ho0, hb⟩; refine ⟨_, rfl, ?_⟩; have n0_ := Aside0.mk (Kd.R_lower ho0 (below_size (by repeat (first | (with_reducible first | exact HB.out | apply below_alloc | apply pw_below_drewN | apply below_drew1) | exact HB.out)))); have n1_ := Aside0.mk (below_step (by repeat (first | (with_reducible first | exact HB.out | apply below_alloc | apply pw_below_drewN | apply below_drew1) | exact HB.out)) hb); clear HB; have HO305 := n0_; have HB := n1_; clear n0_ n1_; (try clear hb); (try clear hb2); (try clear hk); (try clear hi); (try clear ho0); obtain ⟨Ao10, co10, eo10⟩ := Kd.R_slice HO305.out; subst eo10))
      go_ret
      exact ⟨by first | rfl | (simp [errW_none, errW_some] <;> rfl) | (simp [*, errW_none, errW_some] <;> rfl), by repeat (first | (with_reducible first | exact HB.out | apply below_alloc | apply pw_below_drewN | apply below_drew1) | exact HB.out)⟩
    · rw [if_neg c8] at H
      have c8b0 : decide (a1 < 0) = false := decide_eq_false c8
      clear c8
      by_cases c11 : a1 > 1048576
      · rw [if_pos c11] at H
        have c11b0 : decide (1048576 < a1) = true := decide_eq_true c11
        clear c11
        obtain rfl := Option.some.inj H
        go_enter Try.func21, Try.ntmps21
        go_wp2_with (first | ((with_reducible refine gate_callee (f := 20) rfl ?_); refine goesL_ (some 10) rfl rfl Try.func20 (by kernel_rfl) rfl #[.int .i64 a0, .int .i64 a2] rfl (by (try simp only [List.map_toArray, List.map_cons, List.map_nil]); first | done | rfl | (simp only [List.length_drop, List.length_take]; rfl)) ?_; (with_reducible refine (tattingref20_Kept.calls k a0 a2 t303 _ A4.out).mono ?_); rintro e w12 ⟨v304, rfl, ho0, hb⟩; refine ⟨_, rfl, ?_⟩; have n0_ := Aside0.mk (Kd.R_lower ho0 (below_size (by repeat (first | (with_reducible first | exact HB.out | apply below_alloc | apply pw_below_drewN | apply below_drew1) | exact HB.out)))); have n1_ := Aside0.mk (below_step (by repeat (first | (with_reducible first | exact HB.out | apply below_alloc | apply pw_below_drewN | apply below_drew1) | exact HB.out)) hb); clear HB; have HO305 := n0_; have HB := n1_; clear n0_ n1_; (try clear hb); (try clear hb2); (try clear hk); (try clear hi); (try clear ho0); obtain ⟨Ao13, co13, eo13⟩ := Kd.R_slice HO305.out; subst eo13))
        go_ret
        exact ⟨by first | rfl | (simp [errW_none, errW_some] <;> rfl) | (simp [*, errW_none, errW_some] <;> rfl), by repeat (first | (with_reducible first | exact HB.out | apply below_alloc | apply pw_below_drewN | apply below_drew1) | exact HB.out)⟩
      · rw [if_neg c11] at H
        have c11b0 : decide (1048576 < a1) = false := decide_eq_false c11
        clear c11
        obtain ⟨ji14, hji14⟩ : ∃ j_ : Int, (mn a2 a0) = j_ := ⟨_, rfl⟩
        replace H : ((tattingref5_Words.f a1).bind fun t306 => (some (wrap64 ((wrap64 ((t303.length : Int) + (ji14))) * t306)))) = some r := by first | (rw [hji14] at H; exact H) | (simp only [hji14] at H ⊢; exact H)
        (try rw [hji14] at A4)
        have hji14_ : (if a0 < a2 then a0 else a2) = ji14 := hji14
        (try (have hji14n := hji14_; simp only [Int.ofNat_lt, Int.ofNat_le] at hji14n))
        replace H := Option.bind_eq_some_iff.mp H
        obtain ⟨t306, A150, H⟩ := H
        replace H : (some (wrap64 ((wrap64 ((t303.length : Int) + (ji14))) * t306))) = some r := H
        have A15 := Aside0.mk A150
        clear A150
        obtain rfl := Option.some.inj H
        go_enter Try.func21, Try.ntmps21
        go_wp2_with (first | ((with_reducible refine gate_callee (f := 20) rfl ?_); refine goesL_ (some 10) rfl rfl Try.func20 (by kernel_rfl) rfl #[.int .i64 a0, .int .i64 a2] rfl (by (try simp only [List.map_toArray, List.map_cons, List.map_nil]); first | done | rfl | (simp only [List.length_drop, List.length_take]; rfl)) ?_; (with_reducible refine (tattingref20_Kept.calls k a0 a2 t303 _ A4.out).mono ?_); rintro e w16 ⟨v304, rfl, ho0, hb⟩; refine ⟨_, rfl, ?_⟩; have n0_ := Aside0.mk (Kd.R_lower ho0 (below_size (by repeat (first | (with_reducible first | exact HB.out | apply below_alloc | apply pw_below_drewN | apply below_drew1) | exact HB.out)))); have n1_ := Aside0.mk (below_step (by repeat (first | (with_reducible first | exact HB.out | apply below_alloc | apply pw_below_drewN | apply below_drew1) | exact HB.out)) hb); clear HB; have HO305 := n0_; have HB := n1_; clear n0_ n1_; (try clear hb); (try clear hb2); (try clear hk); (try clear hi); (try clear ho0); obtain ⟨Ao17, co17, eo17⟩ := Kd.R_slice HO305.out; subst eo17) | ((with_reducible refine gate_callee (f := 33) rfl ?_); refine goesL_ (some 29) rfl rfl Try.func33 (by kernel_rfl) rfl #[.int .i64 a1] rfl (by (try simp only [List.map_toArray, List.map_cons, List.map_nil]); first | done | rfl | (simp only [List.length_drop, List.length_take]; rfl)) ?_; (with_reducible refine (tattingref5_Words.calls a1 t306 _ A15.out).mono ?_); rintro e w' ⟨rfl, ⟨nd, rfl⟩⟩; refine ⟨_, rfl, ?_⟩))
        go_ret
        exact ⟨by first | rfl | (simp [errW_none, errW_some] <;> rfl) | (simp only [← hji14]; first | rfl | (simp [errW_none, errW_some] <;> rfl)) | (simp [*, errW_none, errW_some] <;> rfl), by repeat (first | (with_reducible first | exact HB.out | apply below_alloc | apply pw_below_drewN | apply below_drew1) | exact HB.out)⟩

/-! ### tattingref20_Root: function 22 -/
def tattingref20_Root.l0 : Nat → Int → Int → Option (Int)
  | 0, _, _ => none
  | k + 1, x3, x4 => if (wrap64 (x4 * x4)) < x3 then (tattingref20_Root.l0 k x3 (wrap64 (x4 + 1))) else (some x4)
def tattingref20_Root.f (k : Nat) (a0 : Int) : Option (Int) := tattingref20_Root.l0 k (mn a0 1048576) 1
theorem tattingref20_Root.mono_l : ∀ k, (∀ y0 y1, LeO (tattingref20_Root.l0 k y0 y1) (tattingref20_Root.l0 (k + 1) y0 y1))
  | 0 => fun _ _ r h => by simp [tattingref20_Root.l0] at h
  | k + 1 => by
    have ih0 := tattingref20_Root.mono_l k
    · intro y0 y1
      unfold tattingref20_Root.l0
      repeat' first
      | (with_reducible exact ih0 _ _)
      | (with_reducible exact LeO.refl _)
      | (with_reducible exact LeO.none _)
      | (with_reducible refine LeO.ite ?_ ?_)
      | (with_reducible refine LeO.bind ?_ (fun _ => ?_))
      | exact ih0 _ _
      | exact LeO.none _
      | refine LeO.ite ?_ ?_
      | refine LeO.bind ?_ (fun _ => ?_)
theorem tattingref20_Root.mono : ∀ a0 k, LeO (tattingref20_Root.f k a0) (tattingref20_Root.f (k + 1) a0) := by
  intro a0 k
  have ih0 := tattingref20_Root.mono_l k
  unfold tattingref20_Root.f
  repeat' first
      | (with_reducible exact ih0 _ _)
      | (with_reducible exact LeO.refl _)
      | (with_reducible exact LeO.none _)
      | (with_reducible refine LeO.ite ?_ ?_)
      | (with_reducible refine LeO.bind ?_ (fun _ => ?_))
      | exact ih0 _ _
      | exact LeO.none _
      | refine LeO.ite ?_ ?_
      | refine LeO.bind ?_ (fun _ => ?_)
set_option maxHeartbeats 8000000 in
set_option maxRecDepth 100000 in
theorem tattingref20_Root.calls (k : Nat) (a0 : Int) (r : Int) (w : World) (h : tattingref20_Root.f k a0 = some r) :
    Calls Try.prog 22 #[.int .i64 a0] w fun e w' => e = .returned (.int .i64 r) ∧ Below w.heap.size w w' := by
  have HB := Aside0.mk (Below.refl w.heap.size w)
  have H : (tattingref20_Root.l0 k (mn a0 1048576) 1) = some r := h
  clear h
  obtain ⟨ji2, hji2⟩ : ∃ j_ : Int, (mn a0 1048576) = j_ := ⟨_, rfl⟩
  replace H : (tattingref20_Root.l0 k ji2 1) = some r := by first | (rw [hji2] at H; exact H) | (simp only [hji2] at H ⊢; exact H)
  (try (have hji2h : ji2 ≤ 1048576 := by (rw [← hji2]; unfold mn; (repeat' split) <;> omega)))
  (try (have hji2g : ji2 ≤ 64 := by omega))
  have hji2_ : (if 1048576 < a0 then 1048576 else a0) = ji2 := hji2
  (try (have hji2n := hji2_; simp only [Int.ofNat_lt, Int.ofNat_le] at hji2n))
  have H' := Aside0.mk H
  clear H
  go_enter Try.func22, Try.ntmps22
  go_wp2
  go_loopg [4] k (fun kq v4 w' => ∃ (x4_1 : Int), v4 = .int .i64 x4_1 ∧ Aside0 (tattingref20_Root.l0 kq ji2 x4_1 = some r) ∧ Aside0 (kq ≤ k) ∧ Aside0 (Below w.heap.size w w'))
  case atStart => exact ⟨(1), (by first | rfl | (simp; done) | (simp [*]; done)), H', ⟨Nat.le_refl _⟩, ⟨by repeat (first | (with_reducible first | exact HB.out | apply below_alloc | apply pw_below_drewN | apply below_drew1) | exact HB.out)⟩⟩
  case round =>
    clear H'
    try clear c2
    try clear p2
    obtain ⟨x4_1, rfl, HA, HK1, HB⟩ := hrel
    cases gk with
    | zero => exact absurd HA.out (by simp [tattingref20_Root.l0])
    | succ k1 =>
      have H := HA.out
      clear HA
      simp only [tattingref20_Root.l0] at H
      by_cases c3 : (wrap64 (x4_1 * x4_1)) < ji2
      · rw [if_pos c3] at H
        have c3b0 : decide ((wrap64 (x4_1 * x4_1)) < ji2) = true := decide_eq_true c3
        clear c3
        have H' := Aside0.mk H
        clear H
        go_wp2
        go_roundg k1
        case measure => have := HK1.out; omega
        case rel => exact ⟨(wrap64 (x4_1 + 1)), (by first | rfl | (simp; done) | (simp [*]; done)), H', ⟨by have := HK1.out; omega⟩, ⟨by repeat (first | (with_reducible first | exact HB.out | apply below_alloc | apply pw_below_drewN | apply below_drew1) | exact HB.out)⟩⟩
      · rw [if_neg c3] at H
        have c3b0 : decide ((wrap64 (x4_1 * x4_1)) < ji2) = false := decide_eq_false c3
        clear c3
        obtain rfl := Option.some.inj H
        go_wp2
        go_ret
        exact ⟨by first | rfl | (simp [errW_none, errW_some] <;> rfl) | (simp only [← hji2]; first | rfl | (simp [errW_none, errW_some] <;> rfl)) | (simp [*, errW_none, errW_some] <;> rfl), by repeat (first | (with_reducible first | exact HB.out | apply below_alloc | apply pw_below_drewN | apply below_drew1) | exact HB.out)⟩

/-! ### tattinglaw22_WalkKeeps: function 6 -/
def tattinglaw22_WalkKeeps.j0 : Nat → Int → Int → Int → Bool → Option (Bool)
  | 0, _, _, _, _ => none
  | k + 1, x0, x1, x2, x14 => if x14 = true then (some true) else ((walk_Kept.f k x0 x2).bind fun t308 => ((tattingref20_Kept.f k x0 x2).bind fun t311 => ((tattingref1_SameInts.f k t308 t311).bind fun t314 => (if t314 = true then ((walk_Room.f k x0 x1 x2).bind fun t315 => ((tattingref20_Room.f k x0 x1 x2).bind fun t316 => (if t315 = t316 then ((walk_Root.f k x0).bind fun t317 => ((tattingref20_Root.f k x0).bind fun t318 => (some (t317 == t318)))) else (some false)))) else (some false)))))
def tattinglaw22_WalkKeeps.f (k : Nat) (a0 : Int) (a1 : Int) (a2 : Int) : Option (Bool) := (tattinglaw22_awake.f k).bind fun t307 => (if t307 = true then (if a0 > 500 then (tattinglaw22_WalkKeeps.j0 k a0 a1 a2 (decide (a0 ≤ 1048576))) else (tattinglaw22_WalkKeeps.j0 k a0 a1 a2 false)) else (some false))
theorem tattinglaw22_WalkKeeps.mono_l : ∀ k, (∀ y0 y1 y2 y3, LeO (tattinglaw22_WalkKeeps.j0 k y0 y1 y2 y3) (tattinglaw22_WalkKeeps.j0 (k + 1) y0 y1 y2 y3))
  | 0 => fun _ _ _ _ r h => by simp [tattinglaw22_WalkKeeps.j0] at h
  | k + 1 => by
    have ih0 := tattinglaw22_WalkKeeps.mono_l k
    · intro y0 y1 y2 y3
      unfold tattinglaw22_WalkKeeps.j0
      repeat' first
      | (with_reducible exact ih0 _ _ _ _)
      | (with_reducible exact tattinglaw22_awake.mono _)
      | (with_reducible exact tattingref1_SameInts.mono _ _ _)
      | (with_reducible exact tattingref20_Kept.mono _ _ _)
      | (with_reducible exact tattingref20_Room.mono _ _ _ _)
      | (with_reducible exact tattingref20_Root.mono _ _)
      | (with_reducible exact walk_Kept.mono _ _ _)
      | (with_reducible exact walk_Room.mono _ _ _ _)
      | (with_reducible exact walk_Root.mono _ _)
      | (with_reducible exact LeO.refl _)
      | (with_reducible exact LeO.none _)
      | (with_reducible refine LeO.ite ?_ ?_)
      | (with_reducible refine LeO.bind ?_ (fun _ => ?_))
      | exact ih0 _ _ _ _
      | exact tattinglaw22_awake.mono _
      | exact tattingref1_SameInts.mono _ _ _
      | exact tattingref20_Kept.mono _ _ _
      | exact tattingref20_Room.mono _ _ _ _
      | exact tattingref20_Root.mono _ _
      | exact walk_Kept.mono _ _ _
      | exact walk_Room.mono _ _ _ _
      | exact walk_Root.mono _ _
      | exact LeO.none _
      | refine LeO.ite ?_ ?_
      | refine LeO.bind ?_ (fun _ => ?_)
theorem tattinglaw22_WalkKeeps.mono : ∀ a0 a1 a2 k, LeO (tattinglaw22_WalkKeeps.f k a0 a1 a2) (tattinglaw22_WalkKeeps.f (k + 1) a0 a1 a2) := by
  intro a0 a1 a2 k
  have ih0 := tattinglaw22_WalkKeeps.mono_l k
  unfold tattinglaw22_WalkKeeps.f
  repeat' first
      | (with_reducible exact ih0 _ _ _ _)
      | (with_reducible exact tattinglaw22_awake.mono _)
      | (with_reducible exact tattingref1_SameInts.mono _ _ _)
      | (with_reducible exact tattingref20_Kept.mono _ _ _)
      | (with_reducible exact tattingref20_Room.mono _ _ _ _)
      | (with_reducible exact tattingref20_Root.mono _ _)
      | (with_reducible exact walk_Kept.mono _ _ _)
      | (with_reducible exact walk_Room.mono _ _ _ _)
      | (with_reducible exact walk_Root.mono _ _)
      | (with_reducible exact LeO.refl _)
      | (with_reducible exact LeO.none _)
      | (with_reducible refine LeO.ite ?_ ?_)
      | (with_reducible refine LeO.bind ?_ (fun _ => ?_))
      | exact ih0 _ _ _ _
      | exact tattinglaw22_awake.mono _
      | exact tattingref1_SameInts.mono _ _ _
      | exact tattingref20_Kept.mono _ _ _
      | exact tattingref20_Room.mono _ _ _ _
      | exact tattingref20_Root.mono _ _
      | exact walk_Kept.mono _ _ _
      | exact walk_Room.mono _ _ _ _
      | exact walk_Root.mono _ _
      | exact LeO.none _
      | refine LeO.ite ?_ ?_
      | refine LeO.bind ?_ (fun _ => ?_)
set_option maxHeartbeats 8000000 in
set_option maxRecDepth 100000 in
theorem tattinglaw22_WalkKeeps.calls (k : Nat) (a0 : Int) (a1 : Int) (a2 : Int) (r : Bool) (w : World) (h : tattinglaw22_WalkKeeps.f k a0 a1 a2 = some r) :
    Calls Try.prog 6 #[.int .i64 a0, .int .i64 a1, .int .i64 a2] w fun e w' => e = .returned (.bool r) ∧ Below w.heap.size w w' := by
  have HB := Aside0.mk (Below.refl w.heap.size w)
  have H : ((tattinglaw22_awake.f k).bind fun t307 => (if t307 = true then (if a0 > 500 then (tattinglaw22_WalkKeeps.j0 k a0 a1 a2 (decide (a0 ≤ 1048576))) else (tattinglaw22_WalkKeeps.j0 k a0 a1 a2 false)) else (some false))) = some r := h
  clear h
  replace H := Option.bind_eq_some_iff.mp H
  obtain ⟨t307, A40, H⟩ := H
  replace H : (if t307 = true then (if a0 > 500 then (tattinglaw22_WalkKeeps.j0 k a0 a1 a2 (decide (a0 ≤ 1048576))) else (tattinglaw22_WalkKeeps.j0 k a0 a1 a2 false)) else (some false)) = some r := H
  have A4 := Aside0.mk A40
  clear A40
  by_cases c5 : t307 = true
  · subst c5
    have H1 : (if a0 > 500 then (tattinglaw22_WalkKeeps.j0 k a0 a1 a2 (decide (a0 ≤ 1048576))) else (tattinglaw22_WalkKeeps.j0 k a0 a1 a2 false)) = some r := by rw [if_pos rfl] at H; exact H
    clear H
    have H := H1
    clear H1
    have HC6 := Aside0.mk H
    clear H
    go_enter Try.func6, Try.ntmps6
    go_upto_region 3 with (first | ((with_reducible refine gate_callee (f := 9) rfl ?_); refine goesL_ (some 7) rfl rfl Try.func9 (by kernel_rfl) rfl #[] rfl (by (try simp only [List.map_toArray, List.map_cons, List.map_nil]); first | done | rfl | (simp only [List.length_drop, List.length_take]; rfl)) ?_; (with_reducible refine (tattinglaw22_awake.calls k  true _ A4.out).mono ?_); rintro e w7 ⟨rfl, hb⟩; refine ⟨_, rfl, ?_⟩; have n0_ := Aside0.mk (below_step (by repeat (first | (with_reducible first | exact HB.out | apply below_alloc | apply pw_below_drewN | apply below_drew1) | exact HB.out)) hb); clear HB; have HB := n0_; clear n0_; (try clear hb); (try clear hb2); (try clear hk); (try clear hi)))
    (try simp only [Act.put, List.setIfInBounds_toArray, List.set_cons_zero, List.set_cons_succ])
    go_cut [14] (fun v14 wc => ∃ (kq : Nat) (x14_5 : Bool), v14 = .bool x14_5 ∧ Aside0 (tattinglaw22_WalkKeeps.j0 kq a0 a1 a2 x14_5 = some r) ∧ Aside0 (kq ≤ k) ∧ Aside0 (Below w.heap.size w wc))
    case first =>
      have H := HC6.out
      clear HC6
      by_cases c8 : a0 > 500
      · rw [if_pos c8] at H
        have c8b0 : decide (500 < a0) = true := decide_eq_true c8
        clear c8
        (first | rw [c8b0] | (simp only [i64_w, i32_w]; rw [c8b0]) | skip)
        have H' := Aside0.mk H
        clear H
        go_wp2
        go_meet
        case rel => exact ⟨_, (decide (a0 ≤ 1048576)), (by first | rfl | (simp; done) | (simp [*]; done)), H', ⟨by first | omega | exact Nat.le_refl _⟩, ⟨by repeat (first | (with_reducible first | exact HB.out | apply below_alloc | apply pw_below_drewN | apply below_drew1) | exact HB.out)⟩⟩
      · rw [if_neg c8] at H
        have c8b0 : decide (500 < a0) = false := decide_eq_false c8
        clear c8
        (first | rw [c8b0] | (simp only [i64_w, i32_w]; rw [c8b0]) | skip)
        have H' := Aside0.mk H
        clear H
        go_wp2
        go_meet
        case rel => exact ⟨_, (false), (by first | rfl | (simp; done) | (simp [*]; done)), H', ⟨by first | omega | exact Nat.le_refl _⟩, ⟨by repeat (first | (with_reducible first | exact HB.out | apply below_alloc | apply pw_below_drewN | apply below_drew1) | exact HB.out)⟩⟩
    case rest =>
      clear HC6
      try clear p2
      try clear c5
      try clear c6
      try clear c8
      try clear c8b0
      obtain ⟨kq, x14_5, rfl, HA, HJ5, HB⟩ := hcut
      cases kq with
      | zero => exact absurd HA.out (by simp [tattinglaw22_WalkKeeps.j0])
      | succ kj5 =>
        have H := HA.out
        clear HA
        simp only [tattinglaw22_WalkKeeps.j0] at H
        by_cases c9 : x14_5 = true
        · subst c9
          have H1 : (some true) = some r := by rw [if_pos rfl] at H; exact H
          clear H
          have H := H1
          clear H1
          obtain rfl := Option.some.inj H
          go_wp2
          go_ret
          exact ⟨by first | rfl | (simp [errW_none, errW_some] <;> rfl) | (simp [*, errW_none, errW_some] <;> rfl), by repeat (first | (with_reducible first | exact HB.out | apply below_alloc | apply pw_below_drewN | apply below_drew1) | exact HB.out)⟩
        · replace c9 := Bool.eq_false_iff.mpr c9
          subst c9
          have H1 : ((walk_Kept.f kj5 a0 a2).bind fun t308 => ((tattingref20_Kept.f kj5 a0 a2).bind fun t311 => ((tattingref1_SameInts.f kj5 t308 t311).bind fun t314 => (if t314 = true then ((walk_Room.f kj5 a0 a1 a2).bind fun t315 => ((tattingref20_Room.f kj5 a0 a1 a2).bind fun t316 => (if t315 = t316 then ((walk_Root.f kj5 a0).bind fun t317 => ((tattingref20_Root.f kj5 a0).bind fun t318 => (some (t317 == t318)))) else (some false)))) else (some false))))) = some r := by rw [if_neg (show ¬ (false = true) by decide)] at H; exact H
          clear H
          have H := H1
          clear H1
          replace H := Option.bind_eq_some_iff.mp H
          obtain ⟨t308, A100, H⟩ := H
          replace H : ((tattingref20_Kept.f kj5 a0 a2).bind fun t311 => ((tattingref1_SameInts.f kj5 t308 t311).bind fun t314 => (if t314 = true then ((walk_Room.f kj5 a0 a1 a2).bind fun t315 => ((tattingref20_Room.f kj5 a0 a1 a2).bind fun t316 => (if t315 = t316 then ((walk_Root.f kj5 a0).bind fun t317 => ((tattingref20_Root.f kj5 a0).bind fun t318 => (some (t317 == t318)))) else (some false)))) else (some false)))) = some r := H
          have A10 := Aside0.mk A100
          clear A100
          replace H := Option.bind_eq_some_iff.mp H
          obtain ⟨t311, A110, H⟩ := H
          replace H : ((tattingref1_SameInts.f kj5 t308 t311).bind fun t314 => (if t314 = true then ((walk_Room.f kj5 a0 a1 a2).bind fun t315 => ((tattingref20_Room.f kj5 a0 a1 a2).bind fun t316 => (if t315 = t316 then ((walk_Root.f kj5 a0).bind fun t317 => ((tattingref20_Root.f kj5 a0).bind fun t318 => (some (t317 == t318)))) else (some false)))) else (some false))) = some r := H
          have A11 := Aside0.mk A110
          clear A110
          replace H := Option.bind_eq_some_iff.mp H
          obtain ⟨t314, A120, H⟩ := H
          replace H : (if t314 = true then ((walk_Room.f kj5 a0 a1 a2).bind fun t315 => ((tattingref20_Room.f kj5 a0 a1 a2).bind fun t316 => (if t315 = t316 then ((walk_Root.f kj5 a0).bind fun t317 => ((tattingref20_Root.f kj5 a0).bind fun t318 => (some (t317 == t318)))) else (some false)))) else (some false)) = some r := H
          have A12 := Aside0.mk A120
          clear A120
          by_cases c13 : t314 = true
          · subst c13
            have H1 : ((walk_Room.f kj5 a0 a1 a2).bind fun t315 => ((tattingref20_Room.f kj5 a0 a1 a2).bind fun t316 => (if t315 = t316 then ((walk_Root.f kj5 a0).bind fun t317 => ((tattingref20_Root.f kj5 a0).bind fun t318 => (some (t317 == t318)))) else (some false)))) = some r := by rw [if_pos rfl] at H; exact H
            clear H
            have H := H1
            clear H1
            replace H := Option.bind_eq_some_iff.mp H
            obtain ⟨t315, A140, H⟩ := H
            replace H : ((tattingref20_Room.f kj5 a0 a1 a2).bind fun t316 => (if t315 = t316 then ((walk_Root.f kj5 a0).bind fun t317 => ((tattingref20_Root.f kj5 a0).bind fun t318 => (some (t317 == t318)))) else (some false))) = some r := H
            have A14 := Aside0.mk A140
            clear A140
            replace H := Option.bind_eq_some_iff.mp H
            obtain ⟨t316, A150, H⟩ := H
            replace H : (if t315 = t316 then ((walk_Root.f kj5 a0).bind fun t317 => ((tattingref20_Root.f kj5 a0).bind fun t318 => (some (t317 == t318)))) else (some false)) = some r := H
            have A15 := Aside0.mk A150
            clear A150
            by_cases c16 : t315 = t316
            · rw [if_pos c16] at H
              have c16b0 : (t315 == t316) = true := beq_iff_eq.mpr c16
              have c16b1 : (t315 != t316) = false := bne_eq_false_iff_eq.mpr c16
              clear c16
              replace H := Option.bind_eq_some_iff.mp H
              obtain ⟨t317, A170, H⟩ := H
              replace H : ((tattingref20_Root.f kj5 a0).bind fun t318 => (some (t317 == t318))) = some r := H
              have A17 := Aside0.mk A170
              clear A170
              replace H := Option.bind_eq_some_iff.mp H
              obtain ⟨t318, A180, H⟩ := H
              replace H : (some (t317 == t318)) = some r := H
              have A18 := Aside0.mk A180
              clear A180
              obtain rfl := Option.some.inj H
              go_wp2_with (first | ((with_reducible refine gate_callee (f := 10) rfl ?_); refine goesL_ (some 17) rfl rfl Try.func10 (by kernel_rfl) rfl #[.int .i64 a0, .int .i64 a2] rfl (by (try simp only [List.map_toArray, List.map_cons, List.map_nil]); first | done | rfl | (simp only [List.length_drop, List.length_take]; rfl)) ?_; (with_reducible refine (walk_Kept.calls kj5 a0 a2 t308 _ A10.out).mono ?_); rintro e w19 ⟨v309, rfl, ho0, hb⟩; refine ⟨_, rfl, ?_⟩; have n0_ := Aside0.mk (Kd.R_lower ho0 (below_size (by repeat (first | (with_reducible first | exact HB.out | apply below_alloc | apply pw_below_drewN | apply below_drew1) | exact HB.out)))); have n1_ := Aside0.mk (below_step (by repeat (first | (with_reducible first | exact HB.out | apply below_alloc | apply pw_below_drewN | apply below_drew1) | exact HB.out)) hb); clear HB; have HO310 := n0_; have HB := n1_; clear n0_ n1_; (try clear hb); (try clear hb2); (try clear hk); (try clear hi); (try clear ho0)) | ((with_reducible refine gate_callee (f := 20) rfl ?_); refine goesL_ (some 20) rfl rfl Try.func20 (by kernel_rfl) rfl #[.int .i64 a0, .int .i64 a2] rfl (by (try simp only [List.map_toArray, List.map_cons, List.map_nil]); first | done | rfl | (simp only [List.length_drop, List.length_take]; rfl)) ?_; (with_reducible refine (tattingref20_Kept.calls kj5 a0 a2 t311 _ A11.out).mono ?_); rintro e w20 ⟨v312, rfl, ho0, hb⟩; refine ⟨_, rfl, ?_⟩; have n0_ := Aside0.mk (Kd.R_elder' (by (with_reducible repeat (first | apply Kd.R_alloc | apply Kd.R_drewN | apply Kd.R_drew)); exact HO310.out) (Kd.R_base ho0) hb); have n1_ := Aside0.mk (Kd.R_lower (Kd.R_new' ho0 (Kd.R_lt (by (with_reducible repeat (first | apply Kd.R_alloc | apply Kd.R_drewN | apply Kd.R_drew)); exact HO310.out))) (below_size (by repeat (first | (with_reducible first | exact HB.out | apply below_alloc | apply pw_below_drewN | apply below_drew1) | exact HB.out)))); have n2_ := Aside0.mk (below_step (by repeat (first | (with_reducible first | exact HB.out | apply below_alloc | apply pw_below_drewN | apply below_drew1) | exact HB.out)) hb); clear HO310; clear HB; have HO310 := n0_; have HO313 := n1_; have HB := n2_; clear n0_ n1_ n2_; (try clear hb); (try clear hb2); (try clear hk); (try clear hi); (try clear ho0); obtain ⟨Ao21, co21, eo21⟩ := Kd.R_slice HO310.out; subst eo21; obtain ⟨Ao22, co22, eo22⟩ := Kd.R_slice HO313.out; subst eo22) | ((with_reducible refine gate_callee (f := 11) rfl ?_); refine goesL_ (some 21) rfl rfl Try.func11 (by kernel_rfl) rfl #[.slice Ao21 t308.length co21, .slice Ao22 t311.length co22] rfl (by (try simp only [List.map_toArray, List.map_cons, List.map_nil]); first | done | rfl | (simp only [List.length_drop, List.length_take]; rfl)) ?_; (with_reducible refine (tattingref1_SameInts.calls kj5 _ _ t308 _ _ t311 true _ ?side1 ?side2 ?side3 ?side4 A12.out).mono ?_); (case side1 => repeat (first | exact (Kd.R_reads' HO310.out).2.2 | (with_reducible refine Kd.C_alloc ?_ _) | (with_reducible refine Kd.C_drewN ?_ _) | (with_reducible refine Kd.C_drew ?_))); (case side2 => exact (Kd.R_reads' HO310.out).2.1); (case side3 => repeat (first | exact (Kd.R_reads' HO313.out).2.2 | (with_reducible refine Kd.C_alloc ?_ _) | (with_reducible refine Kd.C_drewN ?_ _) | (with_reducible refine Kd.C_drew ?_))); (case side4 => exact (Kd.R_reads' HO313.out).2.1); rintro e w' ⟨rfl, ⟨nd, rfl⟩⟩; refine ⟨_, rfl, ?_⟩) | (go_at_call 12; (with_reducible refine (walk_Room.calls kj5 a0 a1 a2 t315 _ A14.out).mono ?_); rintro e w23 ⟨rfl, hb⟩; have n0_ := Aside0.mk (Kd.R_below (by (with_reducible repeat (first | apply Kd.R_alloc | apply Kd.R_drewN | apply Kd.R_drew)); exact HO310.out) hb); have n1_ := Aside0.mk (Kd.R_below (by (with_reducible repeat (first | apply Kd.R_alloc | apply Kd.R_drewN | apply Kd.R_drew)); exact HO313.out) hb); have n2_ := Aside0.mk (below_step (by repeat (first | (with_reducible first | exact HB.out | apply below_alloc | apply pw_below_drewN | apply below_drew1) | exact HB.out)) hb); clear HO310; clear HO313; clear HB; have HO310 := n0_; have HO313 := n1_; have HB := n2_; clear n0_ n1_ n2_; (try clear hb); (try clear hb2); (try clear hk); (try clear hi)) | (go_at_call 21; (with_reducible refine (tattingref20_Room.calls kj5 a0 a1 a2 t316 _ A15.out).mono ?_); rintro e w24 ⟨rfl, hb⟩; have n0_ := Aside0.mk (Kd.R_below (by (with_reducible repeat (first | apply Kd.R_alloc | apply Kd.R_drewN | apply Kd.R_drew)); exact HO310.out) hb); have n1_ := Aside0.mk (Kd.R_below (by (with_reducible repeat (first | apply Kd.R_alloc | apply Kd.R_drewN | apply Kd.R_drew)); exact HO313.out) hb); have n2_ := Aside0.mk (below_step (by repeat (first | (with_reducible first | exact HB.out | apply below_alloc | apply pw_below_drewN | apply below_drew1) | exact HB.out)) hb); clear HO310; clear HO313; clear HB; have HO310 := n0_; have HO313 := n1_; have HB := n2_; clear n0_ n1_ n2_; (try clear hb); (try clear hb2); (try clear hk); (try clear hi)) | (go_at_call 13; (with_reducible refine (walk_Root.calls kj5 a0 t317 _ A17.out).mono ?_); rintro e w25 ⟨rfl, hb⟩; have n0_ := Aside0.mk (Kd.R_below (by (with_reducible repeat (first | apply Kd.R_alloc | apply Kd.R_drewN | apply Kd.R_drew)); exact HO310.out) hb); have n1_ := Aside0.mk (Kd.R_below (by (with_reducible repeat (first | apply Kd.R_alloc | apply Kd.R_drewN | apply Kd.R_drew)); exact HO313.out) hb); have n2_ := Aside0.mk (below_step (by repeat (first | (with_reducible first | exact HB.out | apply below_alloc | apply pw_below_drewN | apply below_drew1) | exact HB.out)) hb); clear HO310; clear HO313; clear HB; have HO310 := n0_; have HO313 := n1_; have HB := n2_; clear n0_ n1_ n2_; (try clear hb); (try clear hb2); (try clear hk); (try clear hi)) | (go_at_call 22; (with_reducible refine (tattingref20_Root.calls kj5 a0 t318 _ A18.out).mono ?_); rintro e w26 ⟨rfl, hb⟩; have n0_ := Aside0.mk (Kd.R_below (by (with_reducible repeat (first | apply Kd.R_alloc | apply Kd.R_drewN | apply Kd.R_drew)); exact HO310.out) hb); have n1_ := Aside0.mk (Kd.R_below (by (with_reducible repeat (first | apply Kd.R_alloc | apply Kd.R_drewN | apply Kd.R_drew)); exact HO313.out) hb); have n2_ := Aside0.mk (below_step (by repeat (first | (with_reducible first | exact HB.out | apply below_alloc | apply pw_below_drewN | apply below_drew1) | exact HB.out)) hb); clear HO310; clear HO313; clear HB; have HO310 := n0_; have HO313 := n1_; have HB := n2_; clear n0_ n1_ n2_; (try clear hb); (try clear hb2); (try clear hk); (try clear hi)))
              go_ret
              exact ⟨by first | rfl | (simp [errW_none, errW_some] <;> rfl) | (simp [*, errW_none, errW_some] <;> rfl), by repeat (first | (with_reducible first | exact HB.out | apply below_alloc | apply pw_below_drewN | apply below_drew1) | exact HB.out)⟩
            · rw [if_neg c16] at H
              have c16b0 : (t315 == t316) = false := beq_eq_false_iff_ne.mpr c16
              have c16b1 : (t315 != t316) = true := bne_iff_ne.mpr c16
              obtain rfl := Option.some.inj H
              go_wp2_with (first | ((with_reducible refine gate_callee (f := 10) rfl ?_); refine goesL_ (some 17) rfl rfl Try.func10 (by kernel_rfl) rfl #[.int .i64 a0, .int .i64 a2] rfl (by (try simp only [List.map_toArray, List.map_cons, List.map_nil]); first | done | rfl | (simp only [List.length_drop, List.length_take]; rfl)) ?_; (with_reducible refine (walk_Kept.calls kj5 a0 a2 t308 _ A10.out).mono ?_); rintro e w27 ⟨v309, rfl, ho0, hb⟩; refine ⟨_, rfl, ?_⟩; have n0_ := Aside0.mk (Kd.R_lower ho0 (below_size (by repeat (first | (with_reducible first | exact HB.out | apply below_alloc | apply pw_below_drewN | apply below_drew1) | exact HB.out)))); have n1_ := Aside0.mk (below_step (by repeat (first | (with_reducible first | exact HB.out | apply below_alloc | apply pw_below_drewN | apply below_drew1) | exact HB.out)) hb); clear HB; have HO310 := n0_; have HB := n1_; clear n0_ n1_; (try clear hb); (try clear hb2); (try clear hk); (try clear hi); (try clear ho0)) | ((with_reducible refine gate_callee (f := 20) rfl ?_); refine goesL_ (some 20) rfl rfl Try.func20 (by kernel_rfl) rfl #[.int .i64 a0, .int .i64 a2] rfl (by (try simp only [List.map_toArray, List.map_cons, List.map_nil]); first | done | rfl | (simp only [List.length_drop, List.length_take]; rfl)) ?_; (with_reducible refine (tattingref20_Kept.calls kj5 a0 a2 t311 _ A11.out).mono ?_); rintro e w28 ⟨v312, rfl, ho0, hb⟩; refine ⟨_, rfl, ?_⟩; have n0_ := Aside0.mk (Kd.R_elder' (by (with_reducible repeat (first | apply Kd.R_alloc | apply Kd.R_drewN | apply Kd.R_drew)); exact HO310.out) (Kd.R_base ho0) hb); have n1_ := Aside0.mk (Kd.R_lower (Kd.R_new' ho0 (Kd.R_lt (by (with_reducible repeat (first | apply Kd.R_alloc | apply Kd.R_drewN | apply Kd.R_drew)); exact HO310.out))) (below_size (by repeat (first | (with_reducible first | exact HB.out | apply below_alloc | apply pw_below_drewN | apply below_drew1) | exact HB.out)))); have n2_ := Aside0.mk (below_step (by repeat (first | (with_reducible first | exact HB.out | apply below_alloc | apply pw_below_drewN | apply below_drew1) | exact HB.out)) hb); clear HO310; clear HB; have HO310 := n0_; have HO313 := n1_; have HB := n2_; clear n0_ n1_ n2_; (try clear hb); (try clear hb2); (try clear hk); (try clear hi); (try clear ho0); obtain ⟨Ao29, co29, eo29⟩ := Kd.R_slice HO310.out; subst eo29; obtain ⟨Ao30, co30, eo30⟩ := Kd.R_slice HO313.out; subst eo30) | ((with_reducible refine gate_callee (f := 11) rfl ?_); refine goesL_ (some 21) rfl rfl Try.func11 (by kernel_rfl) rfl #[.slice Ao29 t308.length co29, .slice Ao30 t311.length co30] rfl (by (try simp only [List.map_toArray, List.map_cons, List.map_nil]); first | done | rfl | (simp only [List.length_drop, List.length_take]; rfl)) ?_; (with_reducible refine (tattingref1_SameInts.calls kj5 _ _ t308 _ _ t311 true _ ?side1 ?side2 ?side3 ?side4 A12.out).mono ?_); (case side1 => repeat (first | exact (Kd.R_reads' HO310.out).2.2 | (with_reducible refine Kd.C_alloc ?_ _) | (with_reducible refine Kd.C_drewN ?_ _) | (with_reducible refine Kd.C_drew ?_))); (case side2 => exact (Kd.R_reads' HO310.out).2.1); (case side3 => repeat (first | exact (Kd.R_reads' HO313.out).2.2 | (with_reducible refine Kd.C_alloc ?_ _) | (with_reducible refine Kd.C_drewN ?_ _) | (with_reducible refine Kd.C_drew ?_))); (case side4 => exact (Kd.R_reads' HO313.out).2.1); rintro e w' ⟨rfl, ⟨nd, rfl⟩⟩; refine ⟨_, rfl, ?_⟩) | (go_at_call 12; (with_reducible refine (walk_Room.calls kj5 a0 a1 a2 t315 _ A14.out).mono ?_); rintro e w31 ⟨rfl, hb⟩; have n0_ := Aside0.mk (Kd.R_below (by (with_reducible repeat (first | apply Kd.R_alloc | apply Kd.R_drewN | apply Kd.R_drew)); exact HO310.out) hb); have n1_ := Aside0.mk (Kd.R_below (by (with_reducible repeat (first | apply Kd.R_alloc | apply Kd.R_drewN | apply Kd.R_drew)); exact HO313.out) hb); have n2_ := Aside0.mk (below_step (by repeat (first | (with_reducible first | exact HB.out | apply below_alloc | apply pw_below_drewN | apply below_drew1) | exact HB.out)) hb); clear HO310; clear HO313; clear HB; have HO310 := n0_; have HO313 := n1_; have HB := n2_; clear n0_ n1_ n2_; (try clear hb); (try clear hb2); (try clear hk); (try clear hi)) | (go_at_call 21; (with_reducible refine (tattingref20_Room.calls kj5 a0 a1 a2 t316 _ A15.out).mono ?_); rintro e w32 ⟨rfl, hb⟩; have n0_ := Aside0.mk (Kd.R_below (by (with_reducible repeat (first | apply Kd.R_alloc | apply Kd.R_drewN | apply Kd.R_drew)); exact HO310.out) hb); have n1_ := Aside0.mk (Kd.R_below (by (with_reducible repeat (first | apply Kd.R_alloc | apply Kd.R_drewN | apply Kd.R_drew)); exact HO313.out) hb); have n2_ := Aside0.mk (below_step (by repeat (first | (with_reducible first | exact HB.out | apply below_alloc | apply pw_below_drewN | apply below_drew1) | exact HB.out)) hb); clear HO310; clear HO313; clear HB; have HO310 := n0_; have HO313 := n1_; have HB := n2_; clear n0_ n1_ n2_; (try clear hb); (try clear hb2); (try clear hk); (try clear hi)))
              go_ret
              exact ⟨by first | rfl | (simp [errW_none, errW_some] <;> rfl) | (simp [*, errW_none, errW_some] <;> rfl), by repeat (first | (with_reducible first | exact HB.out | apply below_alloc | apply pw_below_drewN | apply below_drew1) | exact HB.out)⟩
          · replace c13 := Bool.eq_false_iff.mpr c13
            subst c13
            have H1 : (some false) = some r := by rw [if_neg (show ¬ (false = true) by decide)] at H; exact H
            clear H
            have H := H1
            clear H1
            obtain rfl := Option.some.inj H
            go_wp2_with (first | ((with_reducible refine gate_callee (f := 10) rfl ?_); refine goesL_ (some 17) rfl rfl Try.func10 (by kernel_rfl) rfl #[.int .i64 a0, .int .i64 a2] rfl (by (try simp only [List.map_toArray, List.map_cons, List.map_nil]); first | done | rfl | (simp only [List.length_drop, List.length_take]; rfl)) ?_; (with_reducible refine (walk_Kept.calls kj5 a0 a2 t308 _ A10.out).mono ?_); rintro e w33 ⟨v309, rfl, ho0, hb⟩; refine ⟨_, rfl, ?_⟩; have n0_ := Aside0.mk (Kd.R_lower ho0 (below_size (by repeat (first | (with_reducible first | exact HB.out | apply below_alloc | apply pw_below_drewN | apply below_drew1) | exact HB.out)))); have n1_ := Aside0.mk (below_step (by repeat (first | (with_reducible first | exact HB.out | apply below_alloc | apply pw_below_drewN | apply below_drew1) | exact HB.out)) hb); clear HB; have HO310 := n0_; have HB := n1_; clear n0_ n1_; (try clear hb); (try clear hb2); (try clear hk); (try clear hi); (try clear ho0)) | ((with_reducible refine gate_callee (f := 20) rfl ?_); refine goesL_ (some 20) rfl rfl Try.func20 (by kernel_rfl) rfl #[.int .i64 a0, .int .i64 a2] rfl (by (try simp only [List.map_toArray, List.map_cons, List.map_nil]); first | done | rfl | (simp only [List.length_drop, List.length_take]; rfl)) ?_; (with_reducible refine (tattingref20_Kept.calls kj5 a0 a2 t311 _ A11.out).mono ?_); rintro e w34 ⟨v312, rfl, ho0, hb⟩; refine ⟨_, rfl, ?_⟩; have n0_ := Aside0.mk (Kd.R_elder' (by (with_reducible repeat (first | apply Kd.R_alloc | apply Kd.R_drewN | apply Kd.R_drew)); exact HO310.out) (Kd.R_base ho0) hb); have n1_ := Aside0.mk (Kd.R_lower (Kd.R_new' ho0 (Kd.R_lt (by (with_reducible repeat (first | apply Kd.R_alloc | apply Kd.R_drewN | apply Kd.R_drew)); exact HO310.out))) (below_size (by repeat (first | (with_reducible first | exact HB.out | apply below_alloc | apply pw_below_drewN | apply below_drew1) | exact HB.out)))); have n2_ := Aside0.mk (below_step (by repeat (first | (with_reducible first | exact HB.out | apply below_alloc | apply pw_below_drewN | apply below_drew1) | exact HB.out)) hb); clear HO310; clear HB; have HO310 := n0_; have HO313 := n1_; have HB := n2_; clear n0_ n1_ n2_; (try clear hb); (try clear hb2); (try clear hk); (try clear hi); (try clear ho0); obtain ⟨Ao35, co35, eo35⟩ := Kd.R_slice HO310.out; subst eo35; obtain ⟨Ao36, co36, eo36⟩ := Kd.R_slice HO313.out; subst eo36) | ((with_reducible refine gate_callee (f := 11) rfl ?_); refine goesL_ (some 21) rfl rfl Try.func11 (by kernel_rfl) rfl #[.slice Ao35 t308.length co35, .slice Ao36 t311.length co36] rfl (by (try simp only [List.map_toArray, List.map_cons, List.map_nil]); first | done | rfl | (simp only [List.length_drop, List.length_take]; rfl)) ?_; (with_reducible refine (tattingref1_SameInts.calls kj5 _ _ t308 _ _ t311 false _ ?side1 ?side2 ?side3 ?side4 A12.out).mono ?_); (case side1 => repeat (first | exact (Kd.R_reads' HO310.out).2.2 | (with_reducible refine Kd.C_alloc ?_ _) | (with_reducible refine Kd.C_drewN ?_ _) | (with_reducible refine Kd.C_drew ?_))); (case side2 => exact (Kd.R_reads' HO310.out).2.1); (case side3 => repeat (first | exact (Kd.R_reads' HO313.out).2.2 | (with_reducible refine Kd.C_alloc ?_ _) | (with_reducible refine Kd.C_drewN ?_ _) | (with_reducible refine Kd.C_drew ?_))); (case side4 => exact (Kd.R_reads' HO313.out).2.1); rintro e w' ⟨rfl, ⟨nd, rfl⟩⟩; refine ⟨_, rfl, ?_⟩))
            go_ret
            exact ⟨by first | rfl | (simp [errW_none, errW_some] <;> rfl) | (simp [*, errW_none, errW_some] <;> rfl), by repeat (first | (with_reducible first | exact HB.out | apply below_alloc | apply pw_below_drewN | apply below_drew1) | exact HB.out)⟩
  · replace c5 := Bool.eq_false_iff.mpr c5
    subst c5
    have H1 : (some false) = some r := by rw [if_neg (show ¬ (false = true) by decide)] at H; exact H
    clear H
    have H := H1
    clear H1
    obtain rfl := Option.some.inj H
    go_enter Try.func6, Try.ntmps6
    go_wp2_with (first | ((with_reducible refine gate_callee (f := 9) rfl ?_); refine goesL_ (some 7) rfl rfl Try.func9 (by kernel_rfl) rfl #[] rfl (by (try simp only [List.map_toArray, List.map_cons, List.map_nil]); first | done | rfl | (simp only [List.length_drop, List.length_take]; rfl)) ?_; (with_reducible refine (tattinglaw22_awake.calls k  false _ A4.out).mono ?_); rintro e w37 ⟨rfl, hb⟩; refine ⟨_, rfl, ?_⟩; have n0_ := Aside0.mk (below_step (by repeat (first | (with_reducible first | exact HB.out | apply below_alloc | apply pw_below_drewN | apply below_drew1) | exact HB.out)) hb); clear HB; have HB := n0_; clear n0_; (try clear hb); (try clear hb2); (try clear hk); (try clear hi)))
    go_ret
    exact ⟨by first | rfl | (simp [errW_none, errW_some] <;> rfl) | (simp [*, errW_none, errW_some] <;> rfl), by repeat (first | (with_reducible first | exact HB.out | apply below_alloc | apply pw_below_drewN | apply below_drew1) | exact HB.out)⟩

/-- THE ONE PURE STATEMENT of tattinglaw22_WalkKeeps: yours. -/
def tattinglaw22_WalkKeeps.Pure : Prop := ∀ (a0 : Int) (a1 : Int) (a2 : Int), (Lit.int .i64 a0).wf = true → (Lit.int .i64 a1).wf = true → (Lit.int .i64 a2).wf = true → ∃ k, tattinglaw22_WalkKeeps.f k a0 a1 a2 = some true
theorem tattinglaw22_WalkKeeps.walk (P : tattinglaw22_WalkKeeps.Pure) (a0 : Int) (a1 : Int) (a2 : Int) (w : World) (w0 : (Lit.int .i64 a0).wf = true) (w1 : (Lit.int .i64 a1).wf = true) (w2 : (Lit.int .i64 a2).wf = true) :
    Calls Try.prog 6 #[.int .i64 a0, .int .i64 a1, .int .i64 a2] w fun e w' => e = .returned (.bool true) ∧ Below w.heap.size w w' := by
  obtain ⟨k, h⟩ := P a0 a1 a2 w0 w1 w2
  refine (tattinglaw22_WalkKeeps.calls k a0 a1 a2 true w h).mono ?_
  rintro e w' ⟨rfl, hd⟩
  exact ⟨rfl, hd⟩

/-! ### tattinglaw22_WalkLittle: function 7 -/
def tattinglaw22_WalkLittle.f (k : Nat) (a0 : Int) (a1 : Int) : Option (Bool) := (tattinglaw22_awake.f k).bind fun t319 => (if t319 = true then ((walk_Root.f k (Int.tmod (wrap64 (a0)) 2001)).bind fun t320 => (if t320 ≥ 1 then (if (wrap64 (t320 * t320)) ≥ (Int.tmod (wrap64 (a0)) 2001) then (if t320 = 1 then ((walk_Room.f k (Int.tmod (wrap64 (a0)) 2001) (Int.tmod (wrap64 (a1)) 2001) t320).bind fun t321 => (if t321 ≥ (wrap64 (Int.tdiv (wrap64 ((Int.tmod (wrap64 (a1)) 2001) + 63)) 64)) then ((walk_Room.f k (Int.tmod (wrap64 (a0)) 2001) (Int.tmod (wrap64 (a1)) 2001) t320).bind fun t322 => (some (decide (t322 ≤ (wrap64 ((wrap64 ((wrap64 (2 * t320)) + 1)) * (wrap64 (Int.tdiv (wrap64 ((Int.tmod (wrap64 (a1)) 2001) + 63)) 64)))))))) else (some false))) else (if (wrap64 ((wrap64 (t320 - 1)) * (wrap64 (t320 - 1)))) < (Int.tmod (wrap64 (a0)) 2001) then ((walk_Room.f k (Int.tmod (wrap64 (a0)) 2001) (Int.tmod (wrap64 (a1)) 2001) t320).bind fun t323 => (if t323 ≥ (wrap64 (Int.tdiv (wrap64 ((Int.tmod (wrap64 (a1)) 2001) + 63)) 64)) then ((walk_Room.f k (Int.tmod (wrap64 (a0)) 2001) (Int.tmod (wrap64 (a1)) 2001) t320).bind fun t324 => (some (decide (t324 ≤ (wrap64 ((wrap64 ((wrap64 (2 * t320)) + 1)) * (wrap64 (Int.tdiv (wrap64 ((Int.tmod (wrap64 (a1)) 2001) + 63)) 64)))))))) else (some false))) else (some false))) else (some false)) else (some false))) else (some false))
theorem tattinglaw22_WalkLittle.mono : ∀ a0 a1 k, LeO (tattinglaw22_WalkLittle.f k a0 a1) (tattinglaw22_WalkLittle.f (k + 1) a0 a1) := by
  intro a0 a1 k
  unfold tattinglaw22_WalkLittle.f
  repeat' first
      | (with_reducible exact tattinglaw22_awake.mono _)
      | (with_reducible exact walk_Room.mono _ _ _ _)
      | (with_reducible exact walk_Root.mono _ _)
      | (with_reducible exact LeO.refl _)
      | (with_reducible exact LeO.none _)
      | (with_reducible refine LeO.ite ?_ ?_)
      | (with_reducible refine LeO.bind ?_ (fun _ => ?_))
      | exact tattinglaw22_awake.mono _
      | exact walk_Room.mono _ _ _ _
      | exact walk_Root.mono _ _
      | exact LeO.none _
      | refine LeO.ite ?_ ?_
      | refine LeO.bind ?_ (fun _ => ?_)
set_option maxHeartbeats 8000000 in
set_option maxRecDepth 100000 in
theorem tattinglaw22_WalkLittle.calls (k : Nat) (a0 : Int) (a1 : Int) (r : Bool) (w : World) (h : tattinglaw22_WalkLittle.f k a0 a1 = some r) :
    Calls Try.prog 7 #[.int .u16 a0, .int .u16 a1] w fun e w' => e = .returned (.bool r) ∧ Below w.heap.size w w' := by
  have HB := Aside0.mk (Below.refl w.heap.size w)
  have H : ((tattinglaw22_awake.f k).bind fun t319 => (if t319 = true then ((walk_Root.f k (Int.tmod (wrap64 (a0)) 2001)).bind fun t320 => (if t320 ≥ 1 then (if (wrap64 (t320 * t320)) ≥ (Int.tmod (wrap64 (a0)) 2001) then (if t320 = 1 then ((walk_Room.f k (Int.tmod (wrap64 (a0)) 2001) (Int.tmod (wrap64 (a1)) 2001) t320).bind fun t321 => (if t321 ≥ (wrap64 (Int.tdiv (wrap64 ((Int.tmod (wrap64 (a1)) 2001) + 63)) 64)) then ((walk_Room.f k (Int.tmod (wrap64 (a0)) 2001) (Int.tmod (wrap64 (a1)) 2001) t320).bind fun t322 => (some (decide (t322 ≤ (wrap64 ((wrap64 ((wrap64 (2 * t320)) + 1)) * (wrap64 (Int.tdiv (wrap64 ((Int.tmod (wrap64 (a1)) 2001) + 63)) 64)))))))) else (some false))) else (if (wrap64 ((wrap64 (t320 - 1)) * (wrap64 (t320 - 1)))) < (Int.tmod (wrap64 (a0)) 2001) then ((walk_Room.f k (Int.tmod (wrap64 (a0)) 2001) (Int.tmod (wrap64 (a1)) 2001) t320).bind fun t323 => (if t323 ≥ (wrap64 (Int.tdiv (wrap64 ((Int.tmod (wrap64 (a1)) 2001) + 63)) 64)) then ((walk_Room.f k (Int.tmod (wrap64 (a0)) 2001) (Int.tmod (wrap64 (a1)) 2001) t320).bind fun t324 => (some (decide (t324 ≤ (wrap64 ((wrap64 ((wrap64 (2 * t320)) + 1)) * (wrap64 (Int.tdiv (wrap64 ((Int.tmod (wrap64 (a1)) 2001) + 63)) 64)))))))) else (some false))) else (some false))) else (some false)) else (some false))) else (some false))) = some r := h
  clear h
  replace H := Option.bind_eq_some_iff.mp H
  obtain ⟨t319, A30, H⟩ := H
  replace H : (if t319 = true then ((walk_Root.f k (Int.tmod (wrap64 (a0)) 2001)).bind fun t320 => (if t320 ≥ 1 then (if (wrap64 (t320 * t320)) ≥ (Int.tmod (wrap64 (a0)) 2001) then (if t320 = 1 then ((walk_Room.f k (Int.tmod (wrap64 (a0)) 2001) (Int.tmod (wrap64 (a1)) 2001) t320).bind fun t321 => (if t321 ≥ (wrap64 (Int.tdiv (wrap64 ((Int.tmod (wrap64 (a1)) 2001) + 63)) 64)) then ((walk_Room.f k (Int.tmod (wrap64 (a0)) 2001) (Int.tmod (wrap64 (a1)) 2001) t320).bind fun t322 => (some (decide (t322 ≤ (wrap64 ((wrap64 ((wrap64 (2 * t320)) + 1)) * (wrap64 (Int.tdiv (wrap64 ((Int.tmod (wrap64 (a1)) 2001) + 63)) 64)))))))) else (some false))) else (if (wrap64 ((wrap64 (t320 - 1)) * (wrap64 (t320 - 1)))) < (Int.tmod (wrap64 (a0)) 2001) then ((walk_Room.f k (Int.tmod (wrap64 (a0)) 2001) (Int.tmod (wrap64 (a1)) 2001) t320).bind fun t323 => (if t323 ≥ (wrap64 (Int.tdiv (wrap64 ((Int.tmod (wrap64 (a1)) 2001) + 63)) 64)) then ((walk_Room.f k (Int.tmod (wrap64 (a0)) 2001) (Int.tmod (wrap64 (a1)) 2001) t320).bind fun t324 => (some (decide (t324 ≤ (wrap64 ((wrap64 ((wrap64 (2 * t320)) + 1)) * (wrap64 (Int.tdiv (wrap64 ((Int.tmod (wrap64 (a1)) 2001) + 63)) 64)))))))) else (some false))) else (some false))) else (some false)) else (some false))) else (some false)) = some r := H
  have A3 := Aside0.mk A30
  clear A30
  by_cases c4 : t319 = true
  · subst c4
    have H1 : ((walk_Root.f k (Int.tmod (wrap64 (a0)) 2001)).bind fun t320 => (if t320 ≥ 1 then (if (wrap64 (t320 * t320)) ≥ (Int.tmod (wrap64 (a0)) 2001) then (if t320 = 1 then ((walk_Room.f k (Int.tmod (wrap64 (a0)) 2001) (Int.tmod (wrap64 (a1)) 2001) t320).bind fun t321 => (if t321 ≥ (wrap64 (Int.tdiv (wrap64 ((Int.tmod (wrap64 (a1)) 2001) + 63)) 64)) then ((walk_Room.f k (Int.tmod (wrap64 (a0)) 2001) (Int.tmod (wrap64 (a1)) 2001) t320).bind fun t322 => (some (decide (t322 ≤ (wrap64 ((wrap64 ((wrap64 (2 * t320)) + 1)) * (wrap64 (Int.tdiv (wrap64 ((Int.tmod (wrap64 (a1)) 2001) + 63)) 64)))))))) else (some false))) else (if (wrap64 ((wrap64 (t320 - 1)) * (wrap64 (t320 - 1)))) < (Int.tmod (wrap64 (a0)) 2001) then ((walk_Room.f k (Int.tmod (wrap64 (a0)) 2001) (Int.tmod (wrap64 (a1)) 2001) t320).bind fun t323 => (if t323 ≥ (wrap64 (Int.tdiv (wrap64 ((Int.tmod (wrap64 (a1)) 2001) + 63)) 64)) then ((walk_Room.f k (Int.tmod (wrap64 (a0)) 2001) (Int.tmod (wrap64 (a1)) 2001) t320).bind fun t324 => (some (decide (t324 ≤ (wrap64 ((wrap64 ((wrap64 (2 * t320)) + 1)) * (wrap64 (Int.tdiv (wrap64 ((Int.tmod (wrap64 (a1)) 2001) + 63)) 64)))))))) else (some false))) else (some false))) else (some false)) else (some false))) = some r := by rw [if_pos rfl] at H; exact H
    clear H
    have H := H1
    clear H1
    replace H := Option.bind_eq_some_iff.mp H
    obtain ⟨t320, A50, H⟩ := H
    replace H : (if t320 ≥ 1 then (if (wrap64 (t320 * t320)) ≥ (Int.tmod (wrap64 (a0)) 2001) then (if t320 = 1 then ((walk_Room.f k (Int.tmod (wrap64 (a0)) 2001) (Int.tmod (wrap64 (a1)) 2001) t320).bind fun t321 => (if t321 ≥ (wrap64 (Int.tdiv (wrap64 ((Int.tmod (wrap64 (a1)) 2001) + 63)) 64)) then ((walk_Room.f k (Int.tmod (wrap64 (a0)) 2001) (Int.tmod (wrap64 (a1)) 2001) t320).bind fun t322 => (some (decide (t322 ≤ (wrap64 ((wrap64 ((wrap64 (2 * t320)) + 1)) * (wrap64 (Int.tdiv (wrap64 ((Int.tmod (wrap64 (a1)) 2001) + 63)) 64)))))))) else (some false))) else (if (wrap64 ((wrap64 (t320 - 1)) * (wrap64 (t320 - 1)))) < (Int.tmod (wrap64 (a0)) 2001) then ((walk_Room.f k (Int.tmod (wrap64 (a0)) 2001) (Int.tmod (wrap64 (a1)) 2001) t320).bind fun t323 => (if t323 ≥ (wrap64 (Int.tdiv (wrap64 ((Int.tmod (wrap64 (a1)) 2001) + 63)) 64)) then ((walk_Room.f k (Int.tmod (wrap64 (a0)) 2001) (Int.tmod (wrap64 (a1)) 2001) t320).bind fun t324 => (some (decide (t324 ≤ (wrap64 ((wrap64 ((wrap64 (2 * t320)) + 1)) * (wrap64 (Int.tdiv (wrap64 ((Int.tmod (wrap64 (a1)) 2001) + 63)) 64)))))))) else (some false))) else (some false))) else (some false)) else (some false)) = some r := H
    have A5 := Aside0.mk A50
    clear A50
    by_cases c6 : t320 ≥ 1
    · rw [if_pos c6] at H
      have c6b0 : decide (1 ≤ t320) = true := decide_eq_true c6
      clear c6
      by_cases c7 : (wrap64 (t320 * t320)) ≥ (Int.tmod (wrap64 (a0)) 2001)
      · rw [if_pos c7] at H
        have c7b0 : decide ((Int.tmod (wrap64 (a0)) 2001) ≤ (wrap64 (t320 * t320))) = true := decide_eq_true c7
        clear c7
        by_cases c8 : t320 = 1
        · rw [if_pos c8] at H
          have c8b0 : (t320 == 1) = true := beq_iff_eq.mpr c8
          have c8b1 : (t320 != 1) = false := bne_eq_false_iff_eq.mpr c8
          clear c8
          replace H := Option.bind_eq_some_iff.mp H
          obtain ⟨t321, A90, H⟩ := H
          replace H : (if t321 ≥ (wrap64 (Int.tdiv (wrap64 ((Int.tmod (wrap64 (a1)) 2001) + 63)) 64)) then ((walk_Room.f k (Int.tmod (wrap64 (a0)) 2001) (Int.tmod (wrap64 (a1)) 2001) t320).bind fun t322 => (some (decide (t322 ≤ (wrap64 ((wrap64 ((wrap64 (2 * t320)) + 1)) * (wrap64 (Int.tdiv (wrap64 ((Int.tmod (wrap64 (a1)) 2001) + 63)) 64)))))))) else (some false)) = some r := H
          have A9 := Aside0.mk A90
          clear A90
          by_cases c10 : t321 ≥ (wrap64 (Int.tdiv (wrap64 ((Int.tmod (wrap64 (a1)) 2001) + 63)) 64))
          · rw [if_pos c10] at H
            have c10b0 : decide ((wrap64 (Int.tdiv (wrap64 ((Int.tmod (wrap64 (a1)) 2001) + 63)) 64)) ≤ t321) = true := decide_eq_true c10
            clear c10
            replace H := Option.bind_eq_some_iff.mp H
            obtain ⟨t322, A110, H⟩ := H
            replace H : (some (decide (t322 ≤ (wrap64 ((wrap64 ((wrap64 (2 * t320)) + 1)) * (wrap64 (Int.tdiv (wrap64 ((Int.tmod (wrap64 (a1)) 2001) + 63)) 64))))))) = some r := H
            have A11 := Aside0.mk A110
            (try (have esA11 := Option.some.inj (A11.out.symm.trans A9.out)))
            clear A110
            obtain rfl := Option.some.inj H
            go_enter Try.func7, Try.ntmps7
            go_wp2_with (first | ((with_reducible refine gate_callee (f := 9) rfl ?_); refine goesL_ (some 8) rfl rfl Try.func9 (by kernel_rfl) rfl #[] rfl (by (try simp only [List.map_toArray, List.map_cons, List.map_nil]); first | done | rfl | (simp only [List.length_drop, List.length_take]; rfl)) ?_; (with_reducible refine (tattinglaw22_awake.calls k  true _ A3.out).mono ?_); rintro e w12 ⟨rfl, hb⟩; refine ⟨_, rfl, ?_⟩; have n0_ := Aside0.mk (below_step (by repeat (first | (with_reducible first | exact HB.out | apply below_alloc | apply pw_below_drewN | apply below_drew1) | exact HB.out)) hb); clear HB; have HB := n0_; clear n0_; (try clear hb); (try clear hb2); (try clear hk); (try clear hi)) | ((with_reducible refine gate_callee (f := 13) rfl ?_); refine goesL_ (some 17) rfl rfl Try.func13 (by kernel_rfl) rfl #[.int .i64 (Int.tmod (wrap64 (a0)) 2001)] rfl (by (try simp only [List.map_toArray, List.map_cons, List.map_nil]); first | done | rfl | (simp only [List.length_drop, List.length_take]; rfl)) ?_; (with_reducible refine (walk_Root.calls k (Int.tmod (wrap64 (a0)) 2001) t320 _ A5.out).mono ?_); rintro e w13 ⟨rfl, hb⟩; refine ⟨_, rfl, ?_⟩; have n0_ := Aside0.mk (below_step (by repeat (first | (with_reducible first | exact HB.out | apply below_alloc | apply pw_below_drewN | apply below_drew1) | exact HB.out)) hb); clear HB; have HB := n0_; clear n0_; (try clear hb); (try clear hb2); (try clear hk); (try clear hi)) | (go_at_call 12; (with_reducible refine (walk_Room.calls k (Int.tmod (wrap64 (a0)) 2001) (Int.tmod (wrap64 (a1)) 2001) t320 t321 _ A9.out).mono ?_); rintro e w14 ⟨rfl, hb⟩; have n0_ := Aside0.mk (below_step (by repeat (first | (with_reducible first | exact HB.out | apply below_alloc | apply pw_below_drewN | apply below_drew1) | exact HB.out)) hb); clear HB; have HB := n0_; clear n0_; (try clear hb); (try clear hb2); (try clear hk); (try clear hi)) | (go_at_call 12; (with_reducible refine (walk_Room.calls k (Int.tmod (wrap64 (a0)) 2001) (Int.tmod (wrap64 (a1)) 2001) t320 t322 _ A11.out).mono ?_); rintro e w15 ⟨rfl, hb⟩; have n0_ := Aside0.mk (below_step (by repeat (first | (with_reducible first | exact HB.out | apply below_alloc | apply pw_below_drewN | apply below_drew1) | exact HB.out)) hb); clear HB; have HB := n0_; clear n0_; (try clear hb); (try clear hb2); (try clear hk); (try clear hi)))
            go_ret
            exact ⟨by first | rfl | (simp only [esA11]; done) | (simp [errW_none, errW_some] <;> rfl) | (simp [*, errW_none, errW_some] <;> rfl), by repeat (first | (with_reducible first | exact HB.out | apply below_alloc | apply pw_below_drewN | apply below_drew1) | exact HB.out)⟩
          · rw [if_neg c10] at H
            have c10b0 : decide ((wrap64 (Int.tdiv (wrap64 ((Int.tmod (wrap64 (a1)) 2001) + 63)) 64)) ≤ t321) = false := decide_eq_false c10
            clear c10
            obtain rfl := Option.some.inj H
            go_enter Try.func7, Try.ntmps7
            go_wp2_with (first | ((with_reducible refine gate_callee (f := 9) rfl ?_); refine goesL_ (some 8) rfl rfl Try.func9 (by kernel_rfl) rfl #[] rfl (by (try simp only [List.map_toArray, List.map_cons, List.map_nil]); first | done | rfl | (simp only [List.length_drop, List.length_take]; rfl)) ?_; (with_reducible refine (tattinglaw22_awake.calls k  true _ A3.out).mono ?_); rintro e w16 ⟨rfl, hb⟩; refine ⟨_, rfl, ?_⟩; have n0_ := Aside0.mk (below_step (by repeat (first | (with_reducible first | exact HB.out | apply below_alloc | apply pw_below_drewN | apply below_drew1) | exact HB.out)) hb); clear HB; have HB := n0_; clear n0_; (try clear hb); (try clear hb2); (try clear hk); (try clear hi)) | ((with_reducible refine gate_callee (f := 13) rfl ?_); refine goesL_ (some 17) rfl rfl Try.func13 (by kernel_rfl) rfl #[.int .i64 (Int.tmod (wrap64 (a0)) 2001)] rfl (by (try simp only [List.map_toArray, List.map_cons, List.map_nil]); first | done | rfl | (simp only [List.length_drop, List.length_take]; rfl)) ?_; (with_reducible refine (walk_Root.calls k (Int.tmod (wrap64 (a0)) 2001) t320 _ A5.out).mono ?_); rintro e w17 ⟨rfl, hb⟩; refine ⟨_, rfl, ?_⟩; have n0_ := Aside0.mk (below_step (by repeat (first | (with_reducible first | exact HB.out | apply below_alloc | apply pw_below_drewN | apply below_drew1) | exact HB.out)) hb); clear HB; have HB := n0_; clear n0_; (try clear hb); (try clear hb2); (try clear hk); (try clear hi)) | (go_at_call 12; (with_reducible refine (walk_Room.calls k (Int.tmod (wrap64 (a0)) 2001) (Int.tmod (wrap64 (a1)) 2001) t320 t321 _ A9.out).mono ?_); rintro e w18 ⟨rfl, hb⟩; have n0_ := Aside0.mk (below_step (by repeat (first | (with_reducible first | exact HB.out | apply below_alloc | apply pw_below_drewN | apply below_drew1) | exact HB.out)) hb); clear HB; have HB := n0_; clear n0_; (try clear hb); (try clear hb2); (try clear hk); (try clear hi)))
            go_ret
            exact ⟨by first | rfl | (simp only [esA11]; done) | (simp [errW_none, errW_some] <;> rfl) | (simp [*, errW_none, errW_some] <;> rfl), by repeat (first | (with_reducible first | exact HB.out | apply below_alloc | apply pw_below_drewN | apply below_drew1) | exact HB.out)⟩
        · rw [if_neg c8] at H
          have c8b0 : (t320 == 1) = false := beq_eq_false_iff_ne.mpr c8
          have c8b1 : (t320 != 1) = true := bne_iff_ne.mpr c8
          by_cases c19 : (wrap64 ((wrap64 (t320 - 1)) * (wrap64 (t320 - 1)))) < (Int.tmod (wrap64 (a0)) 2001)
          · rw [if_pos c19] at H
            have c19b0 : decide ((wrap64 ((wrap64 (t320 - 1)) * (wrap64 (t320 - 1)))) < (Int.tmod (wrap64 (a0)) 2001)) = true := decide_eq_true c19
            clear c19
            replace H := Option.bind_eq_some_iff.mp H
            obtain ⟨t323, A200, H⟩ := H
            replace H : (if t323 ≥ (wrap64 (Int.tdiv (wrap64 ((Int.tmod (wrap64 (a1)) 2001) + 63)) 64)) then ((walk_Room.f k (Int.tmod (wrap64 (a0)) 2001) (Int.tmod (wrap64 (a1)) 2001) t320).bind fun t324 => (some (decide (t324 ≤ (wrap64 ((wrap64 ((wrap64 (2 * t320)) + 1)) * (wrap64 (Int.tdiv (wrap64 ((Int.tmod (wrap64 (a1)) 2001) + 63)) 64)))))))) else (some false)) = some r := H
            have A20 := Aside0.mk A200
            (try (have esA20 := Option.some.inj (A20.out.symm.trans A9.out)))
            (try (have esA20 := Option.some.inj (A20.out.symm.trans A11.out)))
            clear A200
            by_cases c21 : t323 ≥ (wrap64 (Int.tdiv (wrap64 ((Int.tmod (wrap64 (a1)) 2001) + 63)) 64))
            · rw [if_pos c21] at H
              have c21b0 : decide ((wrap64 (Int.tdiv (wrap64 ((Int.tmod (wrap64 (a1)) 2001) + 63)) 64)) ≤ t323) = true := decide_eq_true c21
              clear c21
              replace H := Option.bind_eq_some_iff.mp H
              obtain ⟨t324, A220, H⟩ := H
              replace H : (some (decide (t324 ≤ (wrap64 ((wrap64 ((wrap64 (2 * t320)) + 1)) * (wrap64 (Int.tdiv (wrap64 ((Int.tmod (wrap64 (a1)) 2001) + 63)) 64))))))) = some r := H
              have A22 := Aside0.mk A220
              (try (have esA22 := Option.some.inj (A22.out.symm.trans A9.out)))
              (try (have esA22 := Option.some.inj (A22.out.symm.trans A11.out)))
              (try (have esA22 := Option.some.inj (A22.out.symm.trans A20.out)))
              clear A220
              obtain rfl := Option.some.inj H
              go_enter Try.func7, Try.ntmps7
              go_wp2_with (first | ((with_reducible refine gate_callee (f := 9) rfl ?_); refine goesL_ (some 8) rfl rfl Try.func9 (by kernel_rfl) rfl #[] rfl (by (try simp only [List.map_toArray, List.map_cons, List.map_nil]); first | done | rfl | (simp only [List.length_drop, List.length_take]; rfl)) ?_; (with_reducible refine (tattinglaw22_awake.calls k  true _ A3.out).mono ?_); rintro e w23 ⟨rfl, hb⟩; refine ⟨_, rfl, ?_⟩; have n0_ := Aside0.mk (below_step (by repeat (first | (with_reducible first | exact HB.out | apply below_alloc | apply pw_below_drewN | apply below_drew1) | exact HB.out)) hb); clear HB; have HB := n0_; clear n0_; (try clear hb); (try clear hb2); (try clear hk); (try clear hi)) | ((with_reducible refine gate_callee (f := 13) rfl ?_); refine goesL_ (some 17) rfl rfl Try.func13 (by kernel_rfl) rfl #[.int .i64 (Int.tmod (wrap64 (a0)) 2001)] rfl (by (try simp only [List.map_toArray, List.map_cons, List.map_nil]); first | done | rfl | (simp only [List.length_drop, List.length_take]; rfl)) ?_; (with_reducible refine (walk_Root.calls k (Int.tmod (wrap64 (a0)) 2001) t320 _ A5.out).mono ?_); rintro e w24 ⟨rfl, hb⟩; refine ⟨_, rfl, ?_⟩; have n0_ := Aside0.mk (below_step (by repeat (first | (with_reducible first | exact HB.out | apply below_alloc | apply pw_below_drewN | apply below_drew1) | exact HB.out)) hb); clear HB; have HB := n0_; clear n0_; (try clear hb); (try clear hb2); (try clear hk); (try clear hi)) | (go_at_call 12; (with_reducible refine (walk_Room.calls k (Int.tmod (wrap64 (a0)) 2001) (Int.tmod (wrap64 (a1)) 2001) t320 t323 _ A20.out).mono ?_); rintro e w25 ⟨rfl, hb⟩; have n0_ := Aside0.mk (below_step (by repeat (first | (with_reducible first | exact HB.out | apply below_alloc | apply pw_below_drewN | apply below_drew1) | exact HB.out)) hb); clear HB; have HB := n0_; clear n0_; (try clear hb); (try clear hb2); (try clear hk); (try clear hi)) | (go_at_call 12; (with_reducible refine (walk_Room.calls k (Int.tmod (wrap64 (a0)) 2001) (Int.tmod (wrap64 (a1)) 2001) t320 t324 _ A22.out).mono ?_); rintro e w26 ⟨rfl, hb⟩; have n0_ := Aside0.mk (below_step (by repeat (first | (with_reducible first | exact HB.out | apply below_alloc | apply pw_below_drewN | apply below_drew1) | exact HB.out)) hb); clear HB; have HB := n0_; clear n0_; (try clear hb); (try clear hb2); (try clear hk); (try clear hi)))
              go_ret
              exact ⟨by first | rfl | (simp only [esA11]; done) | (simp only [esA20]; done) | (simp only [esA22]; done) | (simp [errW_none, errW_some] <;> rfl) | (simp [*, errW_none, errW_some] <;> rfl), by repeat (first | (with_reducible first | exact HB.out | apply below_alloc | apply pw_below_drewN | apply below_drew1) | exact HB.out)⟩
            · rw [if_neg c21] at H
              have c21b0 : decide ((wrap64 (Int.tdiv (wrap64 ((Int.tmod (wrap64 (a1)) 2001) + 63)) 64)) ≤ t323) = false := decide_eq_false c21
              clear c21
              obtain rfl := Option.some.inj H
              go_enter Try.func7, Try.ntmps7
              go_wp2_with (first | ((with_reducible refine gate_callee (f := 9) rfl ?_); refine goesL_ (some 8) rfl rfl Try.func9 (by kernel_rfl) rfl #[] rfl (by (try simp only [List.map_toArray, List.map_cons, List.map_nil]); first | done | rfl | (simp only [List.length_drop, List.length_take]; rfl)) ?_; (with_reducible refine (tattinglaw22_awake.calls k  true _ A3.out).mono ?_); rintro e w27 ⟨rfl, hb⟩; refine ⟨_, rfl, ?_⟩; have n0_ := Aside0.mk (below_step (by repeat (first | (with_reducible first | exact HB.out | apply below_alloc | apply pw_below_drewN | apply below_drew1) | exact HB.out)) hb); clear HB; have HB := n0_; clear n0_; (try clear hb); (try clear hb2); (try clear hk); (try clear hi)) | ((with_reducible refine gate_callee (f := 13) rfl ?_); refine goesL_ (some 17) rfl rfl Try.func13 (by kernel_rfl) rfl #[.int .i64 (Int.tmod (wrap64 (a0)) 2001)] rfl (by (try simp only [List.map_toArray, List.map_cons, List.map_nil]); first | done | rfl | (simp only [List.length_drop, List.length_take]; rfl)) ?_; (with_reducible refine (walk_Root.calls k (Int.tmod (wrap64 (a0)) 2001) t320 _ A5.out).mono ?_); rintro e w28 ⟨rfl, hb⟩; refine ⟨_, rfl, ?_⟩; have n0_ := Aside0.mk (below_step (by repeat (first | (with_reducible first | exact HB.out | apply below_alloc | apply pw_below_drewN | apply below_drew1) | exact HB.out)) hb); clear HB; have HB := n0_; clear n0_; (try clear hb); (try clear hb2); (try clear hk); (try clear hi)) | (go_at_call 12; (with_reducible refine (walk_Room.calls k (Int.tmod (wrap64 (a0)) 2001) (Int.tmod (wrap64 (a1)) 2001) t320 t323 _ A20.out).mono ?_); rintro e w29 ⟨rfl, hb⟩; have n0_ := Aside0.mk (below_step (by repeat (first | (with_reducible first | exact HB.out | apply below_alloc | apply pw_below_drewN | apply below_drew1) | exact HB.out)) hb); clear HB; have HB := n0_; clear n0_; (try clear hb); (try clear hb2); (try clear hk); (try clear hi)))
              go_ret
              exact ⟨by first | rfl | (simp only [esA11]; done) | (simp only [esA20]; done) | (simp only [esA22]; done) | (simp [errW_none, errW_some] <;> rfl) | (simp [*, errW_none, errW_some] <;> rfl), by repeat (first | (with_reducible first | exact HB.out | apply below_alloc | apply pw_below_drewN | apply below_drew1) | exact HB.out)⟩
          · rw [if_neg c19] at H
            have c19b0 : decide ((wrap64 ((wrap64 (t320 - 1)) * (wrap64 (t320 - 1)))) < (Int.tmod (wrap64 (a0)) 2001)) = false := decide_eq_false c19
            clear c19
            obtain rfl := Option.some.inj H
            go_enter Try.func7, Try.ntmps7
            go_wp2_with (first | ((with_reducible refine gate_callee (f := 9) rfl ?_); refine goesL_ (some 8) rfl rfl Try.func9 (by kernel_rfl) rfl #[] rfl (by (try simp only [List.map_toArray, List.map_cons, List.map_nil]); first | done | rfl | (simp only [List.length_drop, List.length_take]; rfl)) ?_; (with_reducible refine (tattinglaw22_awake.calls k  true _ A3.out).mono ?_); rintro e w30 ⟨rfl, hb⟩; refine ⟨_, rfl, ?_⟩; have n0_ := Aside0.mk (below_step (by repeat (first | (with_reducible first | exact HB.out | apply below_alloc | apply pw_below_drewN | apply below_drew1) | exact HB.out)) hb); clear HB; have HB := n0_; clear n0_; (try clear hb); (try clear hb2); (try clear hk); (try clear hi)) | ((with_reducible refine gate_callee (f := 13) rfl ?_); refine goesL_ (some 17) rfl rfl Try.func13 (by kernel_rfl) rfl #[.int .i64 (Int.tmod (wrap64 (a0)) 2001)] rfl (by (try simp only [List.map_toArray, List.map_cons, List.map_nil]); first | done | rfl | (simp only [List.length_drop, List.length_take]; rfl)) ?_; (with_reducible refine (walk_Root.calls k (Int.tmod (wrap64 (a0)) 2001) t320 _ A5.out).mono ?_); rintro e w31 ⟨rfl, hb⟩; refine ⟨_, rfl, ?_⟩; have n0_ := Aside0.mk (below_step (by repeat (first | (with_reducible first | exact HB.out | apply below_alloc | apply pw_below_drewN | apply below_drew1) | exact HB.out)) hb); clear HB; have HB := n0_; clear n0_; (try clear hb); (try clear hb2); (try clear hk); (try clear hi)))
            go_ret
            exact ⟨by first | rfl | (simp only [esA11]; done) | (simp only [esA20]; done) | (simp [errW_none, errW_some] <;> rfl) | (simp [*, errW_none, errW_some] <;> rfl), by repeat (first | (with_reducible first | exact HB.out | apply below_alloc | apply pw_below_drewN | apply below_drew1) | exact HB.out)⟩
      · rw [if_neg c7] at H
        have c7b0 : decide ((Int.tmod (wrap64 (a0)) 2001) ≤ (wrap64 (t320 * t320))) = false := decide_eq_false c7
        clear c7
        obtain rfl := Option.some.inj H
        go_enter Try.func7, Try.ntmps7
        go_wp2_with (first | ((with_reducible refine gate_callee (f := 9) rfl ?_); refine goesL_ (some 8) rfl rfl Try.func9 (by kernel_rfl) rfl #[] rfl (by (try simp only [List.map_toArray, List.map_cons, List.map_nil]); first | done | rfl | (simp only [List.length_drop, List.length_take]; rfl)) ?_; (with_reducible refine (tattinglaw22_awake.calls k  true _ A3.out).mono ?_); rintro e w32 ⟨rfl, hb⟩; refine ⟨_, rfl, ?_⟩; have n0_ := Aside0.mk (below_step (by repeat (first | (with_reducible first | exact HB.out | apply below_alloc | apply pw_below_drewN | apply below_drew1) | exact HB.out)) hb); clear HB; have HB := n0_; clear n0_; (try clear hb); (try clear hb2); (try clear hk); (try clear hi)) | ((with_reducible refine gate_callee (f := 13) rfl ?_); refine goesL_ (some 17) rfl rfl Try.func13 (by kernel_rfl) rfl #[.int .i64 (Int.tmod (wrap64 (a0)) 2001)] rfl (by (try simp only [List.map_toArray, List.map_cons, List.map_nil]); first | done | rfl | (simp only [List.length_drop, List.length_take]; rfl)) ?_; (with_reducible refine (walk_Root.calls k (Int.tmod (wrap64 (a0)) 2001) t320 _ A5.out).mono ?_); rintro e w33 ⟨rfl, hb⟩; refine ⟨_, rfl, ?_⟩; have n0_ := Aside0.mk (below_step (by repeat (first | (with_reducible first | exact HB.out | apply below_alloc | apply pw_below_drewN | apply below_drew1) | exact HB.out)) hb); clear HB; have HB := n0_; clear n0_; (try clear hb); (try clear hb2); (try clear hk); (try clear hi)))
        go_ret
        exact ⟨by first | rfl | (simp [errW_none, errW_some] <;> rfl) | (simp [*, errW_none, errW_some] <;> rfl), by repeat (first | (with_reducible first | exact HB.out | apply below_alloc | apply pw_below_drewN | apply below_drew1) | exact HB.out)⟩
    · rw [if_neg c6] at H
      have c6b0 : decide (1 ≤ t320) = false := decide_eq_false c6
      clear c6
      obtain rfl := Option.some.inj H
      go_enter Try.func7, Try.ntmps7
      go_wp2_with (first | ((with_reducible refine gate_callee (f := 9) rfl ?_); refine goesL_ (some 8) rfl rfl Try.func9 (by kernel_rfl) rfl #[] rfl (by (try simp only [List.map_toArray, List.map_cons, List.map_nil]); first | done | rfl | (simp only [List.length_drop, List.length_take]; rfl)) ?_; (with_reducible refine (tattinglaw22_awake.calls k  true _ A3.out).mono ?_); rintro e w34 ⟨rfl, hb⟩; refine ⟨_, rfl, ?_⟩; have n0_ := Aside0.mk (below_step (by repeat (first | (with_reducible first | exact HB.out | apply below_alloc | apply pw_below_drewN | apply below_drew1) | exact HB.out)) hb); clear HB; have HB := n0_; clear n0_; (try clear hb); (try clear hb2); (try clear hk); (try clear hi)) | ((with_reducible refine gate_callee (f := 13) rfl ?_); refine goesL_ (some 17) rfl rfl Try.func13 (by kernel_rfl) rfl #[.int .i64 (Int.tmod (wrap64 (a0)) 2001)] rfl (by (try simp only [List.map_toArray, List.map_cons, List.map_nil]); first | done | rfl | (simp only [List.length_drop, List.length_take]; rfl)) ?_; (with_reducible refine (walk_Root.calls k (Int.tmod (wrap64 (a0)) 2001) t320 _ A5.out).mono ?_); rintro e w35 ⟨rfl, hb⟩; refine ⟨_, rfl, ?_⟩; have n0_ := Aside0.mk (below_step (by repeat (first | (with_reducible first | exact HB.out | apply below_alloc | apply pw_below_drewN | apply below_drew1) | exact HB.out)) hb); clear HB; have HB := n0_; clear n0_; (try clear hb); (try clear hb2); (try clear hk); (try clear hi)))
      go_ret
      exact ⟨by first | rfl | (simp [errW_none, errW_some] <;> rfl) | (simp [*, errW_none, errW_some] <;> rfl), by repeat (first | (with_reducible first | exact HB.out | apply below_alloc | apply pw_below_drewN | apply below_drew1) | exact HB.out)⟩
  · replace c4 := Bool.eq_false_iff.mpr c4
    subst c4
    have H1 : (some false) = some r := by rw [if_neg (show ¬ (false = true) by decide)] at H; exact H
    clear H
    have H := H1
    clear H1
    obtain rfl := Option.some.inj H
    go_enter Try.func7, Try.ntmps7
    go_wp2_with (first | ((with_reducible refine gate_callee (f := 9) rfl ?_); refine goesL_ (some 8) rfl rfl Try.func9 (by kernel_rfl) rfl #[] rfl (by (try simp only [List.map_toArray, List.map_cons, List.map_nil]); first | done | rfl | (simp only [List.length_drop, List.length_take]; rfl)) ?_; (with_reducible refine (tattinglaw22_awake.calls k  false _ A3.out).mono ?_); rintro e w36 ⟨rfl, hb⟩; refine ⟨_, rfl, ?_⟩; have n0_ := Aside0.mk (below_step (by repeat (first | (with_reducible first | exact HB.out | apply below_alloc | apply pw_below_drewN | apply below_drew1) | exact HB.out)) hb); clear HB; have HB := n0_; clear n0_; (try clear hb); (try clear hb2); (try clear hk); (try clear hi)))
    go_ret
    exact ⟨by first | rfl | (simp [errW_none, errW_some] <;> rfl) | (simp [*, errW_none, errW_some] <;> rfl), by repeat (first | (with_reducible first | exact HB.out | apply below_alloc | apply pw_below_drewN | apply below_drew1) | exact HB.out)⟩

/-- THE ONE PURE STATEMENT of tattinglaw22_WalkLittle: yours. -/
def tattinglaw22_WalkLittle.Pure : Prop := ∀ (a0 : Int) (a1 : Int), (Lit.int .u16 a0).wf = true → (Lit.int .u16 a1).wf = true → ∃ k, tattinglaw22_WalkLittle.f k a0 a1 = some true
theorem tattinglaw22_WalkLittle.walk (P : tattinglaw22_WalkLittle.Pure) (a0 : Int) (a1 : Int) (w : World) (w0 : (Lit.int .u16 a0).wf = true) (w1 : (Lit.int .u16 a1).wf = true) :
    Calls Try.prog 7 #[.int .u16 a0, .int .u16 a1] w fun e w' => e = .returned (.bool true) ∧ Below w.heap.size w w' := by
  obtain ⟨k, h⟩ := P a0 a1 w0 w1
  refine (tattinglaw22_WalkLittle.calls k a0 a1 true w h).mono ?_
  rintro e w' ⟨rfl, hd⟩
  exact ⟨rfl, hd⟩

end Go.Proofs.Ytkafkbdidnkefaa.K
