-- laid by a program of this session (wip/xprint)
import Derived.Test.YtkafkbdidnkefaaR0
import Derived.Test.YtkafkbdidnkefaaR2
import Derived.Test.YtkafkbdidnkefaaR3
import Derived.Test.YtkafkbdidnkefaaR4
namespace Go.Proofs.Ytkafkbdidnkefaa.R
open Go.RowKit Go.Proofs.YtkafkbdidnkefaaW.PrintWords Go.Proofs.YtkafkbdidnkefaaW.PrintLast Go.Proofs.YtkafkbdidnkefaaW.PrintMore
attribute [local go_sem] max2_int min2_int max_two min_two max_three min_three max_four min_four   -- for this text's walks alone
set_option linter.unusedVariables false
set_option linter.unusedSimpArgs false


/-! ### walk_Run: function 8 (by hand) -/
/-! ### walk_Run_rest: function 8 -/
mutual
def walk_Run_rest.l0 : Nat → Int → List Int → List Int → Int → List Int → List Int → List (List Int) → List Int → Int → Int → Option ((List (S29)) × Int × Int)
 | 0, _, _, _, _, _, _, _, _, _, _ => none
 | k + 1, x0, x1, x2, x3, x4, x12, x13, x44, x45, x46 => if x46 < x45 then (if 0 ≤ x46 then (if x46 < (x44.length : Int) then (if x3 = 0 then (none) else (if (Int.tmod x46 x3) = 0 then (if x13.length < 5864062014805 then ((mask_Masks_Of.f k x4 (rd x44 x46)).bind fun t226 => ((walk_row.f k x0 x12 t226 (x2.length : Int)).bind fun t229 => (walk_Run_rest.l0 k x0 x1 x2 x3 x4 t229 (x13 ++ [x12]) x44 x45 (wrap64 (x46 + 1))))) else (none)) else ((mask_Masks_Of.f k x4 (rd x44 x46)).bind fun t232 => ((walk_row.f k x0 x12 t232 (x2.length : Int)).bind fun t235 => (walk_Run_rest.l0 k x0 x1 x2 x3 x4 t235 x13 x44 x45 (wrap64 (x46 + 1))))))) else (none)) else (none)) else (walk_Run_rest.l1 k x0 x1 x2 x3 x4 x13 ([] : List (S29)) (x2.length : Int) (wrap64 ((x13.length : Int) - 1)))
def walk_Run_rest.l1 : Nat → Int → List Int → List Int → Int → List Int → List (List Int) → List (S29) → Int → Int → Option ((List (S29)) × Int × Int)
 | 0, _, _, _, _, _, _, _, _, _ => none
 | k + 1, x0, x1, x2, x3, x4, x13, x16, x17, x18 => if x18 ≥ 0 then (if 0 ≤ x18 then (if x18 < (x13.length : Int) then (walk_Run_rest.l2 k x0 x1 x2 x3 x4 x13 x16 x17 x18 (wrap64 (x18 * x3)) (mn (wrap64 ((wrap64 (x18 * x3)) + x3)) (x1.length : Int)) (([rd_L2 x13 x18] : List (List Int))) (wrap64 (x18 * x3))) else (none)) else (none)) else ((api_Pair.f k x16).bind fun t238 => ((hyyro_Steps.f (x1.length : Int) (x2.length : Int)).bind fun t239 => (some (t238, wrap64 (2 * t239), 0))))
def walk_Run_rest.l2 : Nat → Int → List Int → List Int → Int → List Int → List (List Int) → List (S29) → Int → Int → Int → Int → List (List Int) → Int → Option ((List (S29)) × Int × Int)
 | 0, _, _, _, _, _, _, _, _, _, _, _, _, _ => none
 | k + 1, x0, x1, x2, x3, x4, x13, x16, x17, x18, x19, x20, x21, x22 => if x22 < x20 then (if 0 ≤ (wrap64 (x22 - x19)) then (if (wrap64 (x22 - x19)) < (x21.length : Int) then (if 0 ≤ x22 then (if x22 < (x1.length : Int) then ((mask_Masks_Of.f k x4 (rd x1 x22)).bind fun t246 => ((walk_row.f k x0 (rd_L2 x21 (wrap64 (x22 - x19))) t246 (x2.length : Int)).bind fun t249 => (if x21.length < 5864062014805 then (walk_Run_rest.l2 k x0 x1 x2 x3 x4 x13 x16 x17 x18 x19 x20 (x21 ++ [t249]) (wrap64 (x22 + 1))) else (none)))) else (none)) else (none)) else (none)) else (none)) else (walk_Run_rest.l3 k x0 x1 x2 x3 x4 x13 x16 x17 x18 x19 x21 x20)
def walk_Run_rest.l3 : Nat → Int → List Int → List Int → Int → List Int → List (List Int) → List (S29) → Int → Int → Int → List (List Int) → Int → Option ((List (S29)) × Int × Int)
 | 0, _, _, _, _, _, _, _, _, _, _, _, _ => none
 | k + 1, x0, x1, x2, x3, x4, x13, x16, x17, x18, x19, x21, x23 => if x23 > x19 then (walk_Run_rest.j4 k x0 x1 x2 x3 x4 x13 x16 x17 x18 x19 x21 x23 (decide (x17 > 0))) else (walk_Run_rest.j4 k x0 x1 x2 x3 x4 x13 x16 x17 x18 x19 x21 x23 false)
def walk_Run_rest.j4 : Nat → Int → List Int → List Int → Int → List Int → List (List Int) → List (S29) → Int → Int → Int → List (List Int) → Int → Bool → Option ((List (S29)) × Int × Int)
 | 0, _, _, _, _, _, _, _, _, _, _, _, _, _ => none
 | k + 1, x0, x1, x2, x3, x4, x13, x16, x17, x18, x19, x21, x23, x125 => if x125 = true then (if 0 ≤ (wrap64 (x23 - x19)) then (if (wrap64 (x23 - x19)) < (x21.length : Int) then ((vec_Get.f (rd_L2 x21 (wrap64 (x23 - x19))) (wrap64 (x17 - 1))).bind fun t256 => (if t256 = true then (walk_Run_rest.l3 k x0 x1 x2 x3 x4 x13 x16 (wrap64 (x17 - 1)) x18 x19 x21 x23) else (if 0 ≤ (wrap64 (x23 - 1)) then (if (wrap64 (x23 - 1)) < (x1.length : Int) then (if 0 ≤ (wrap64 (x17 - 1)) then (if (wrap64 (x17 - 1)) < (x2.length : Int) then (if (rd x1 (wrap64 (x23 - 1))) = (rd x2 (wrap64 (x17 - 1))) then (if x16.length < 8796093022208 then (walk_Run_rest.l3 k x0 x1 x2 x3 x4 x13 (x16 ++ [(⟨wrap64 (x23 - 1), wrap64 (x17 - 1)⟩ : S29)]) (wrap64 (x17 - 1)) x18 x19 x21 (wrap64 (x23 - 1))) else (none)) else (walk_Run_rest.l3 k x0 x1 x2 x3 x4 x13 x16 x17 x18 x19 x21 (wrap64 (x23 - 1)))) else (none)) else (none)) else (none)) else (none)))) else (none)) else (none)) else (walk_Run_rest.l1 k x0 x1 x2 x3 x4 x13 x16 x17 (wrap64 (x18 - 1)))
end
def walk_Run_rest.f (k : Nat) (a0 : Int) (l1 : List Int) (l2 : List Int) (a3 : Int) (a4 : List Int) : Option ((List (S29)) × Int × Int) := (vec_Ones.f k (l2.length : Int)).bind fun t219 => (walk_Run_rest.l0 k a0 l1 l2 a3 a4 t219 ([] : List (List Int)) l1 (l1.length : Int) 0)
theorem walk_Run_rest.mono_l : ∀ k, (∀ y0 y1 y2 y3 y4 y5 y6 y7 y8 y9, LeO (walk_Run_rest.l0 k y0 y1 y2 y3 y4 y5 y6 y7 y8 y9) (walk_Run_rest.l0 (k + 1) y0 y1 y2 y3 y4 y5 y6 y7 y8 y9)) ∧ (∀ y0 y1 y2 y3 y4 y5 y6 y7 y8, LeO (walk_Run_rest.l1 k y0 y1 y2 y3 y4 y5 y6 y7 y8) (walk_Run_rest.l1 (k + 1) y0 y1 y2 y3 y4 y5 y6 y7 y8)) ∧ (∀ y0 y1 y2 y3 y4 y5 y6 y7 y8 y9 y10 y11 y12, LeO (walk_Run_rest.l2 k y0 y1 y2 y3 y4 y5 y6 y7 y8 y9 y10 y11 y12) (walk_Run_rest.l2 (k + 1) y0 y1 y2 y3 y4 y5 y6 y7 y8 y9 y10 y11 y12)) ∧ (∀ y0 y1 y2 y3 y4 y5 y6 y7 y8 y9 y10 y11, LeO (walk_Run_rest.l3 k y0 y1 y2 y3 y4 y5 y6 y7 y8 y9 y10 y11) (walk_Run_rest.l3 (k + 1) y0 y1 y2 y3 y4 y5 y6 y7 y8 y9 y10 y11)) ∧ (∀ y0 y1 y2 y3 y4 y5 y6 y7 y8 y9 y10 y11 y12, LeO (walk_Run_rest.j4 k y0 y1 y2 y3 y4 y5 y6 y7 y8 y9 y10 y11 y12) (walk_Run_rest.j4 (k + 1) y0 y1 y2 y3 y4 y5 y6 y7 y8 y9 y10 y11 y12))
 | 0 => ⟨fun _ _ _ _ _ _ _ _ _ _ r h => by simp [walk_Run_rest.l0] at h, fun _ _ _ _ _ _ _ _ _ r h => by simp [walk_Run_rest.l1] at h, fun _ _ _ _ _ _ _ _ _ _ _ _ _ r h => by simp [walk_Run_rest.l2] at h, fun _ _ _ _ _ _ _ _ _ _ _ _ r h => by simp [walk_Run_rest.l3] at h, fun _ _ _ _ _ _ _ _ _ _ _ _ _ r h => by simp [walk_Run_rest.j4] at h⟩
 | k + 1 => by
  obtain ⟨ih0, ih1, ih2, ih3, ih4⟩ := walk_Run_rest.mono_l k
  refine ⟨?_, ?_, ?_, ?_, ?_⟩
  ·intro y0 y1 y2 y3 y4 y5 y6 y7 y8 y9
   unfold walk_Run_rest.l0
   repeat' first
   | (with_reducible exact ih0 _ _ _ _ _ _ _ _ _ _)
   | (with_reducible exact ih1 _ _ _ _ _ _ _ _ _)
   | (with_reducible exact ih2 _ _ _ _ _ _ _ _ _ _ _ _ _)
   | (with_reducible exact ih3 _ _ _ _ _ _ _ _ _ _ _ _)
   | (with_reducible exact ih4 _ _ _ _ _ _ _ _ _ _ _ _ _)
   | (with_reducible exact api_Pair.mono _ _)
   | (with_reducible exact mask_Masks_Of.mono _ _ _)
   | (with_reducible exact vec_Ones.mono _ _)
   | (with_reducible exact walk_row.mono _ _ _ _ _)
   | (with_reducible exact LeO.refl _)
   | (with_reducible exact LeO.none _)
   | (with_reducible refine LeO.ite ?_ ?_)
   | (with_reducible refine LeO.bind ?_ (fun _ => ?_))
   | exact ih0 _ _ _ _ _ _ _ _ _ _
   | exact ih1 _ _ _ _ _ _ _ _ _
   | exact ih2 _ _ _ _ _ _ _ _ _ _ _ _ _
   | exact ih3 _ _ _ _ _ _ _ _ _ _ _ _
   | exact ih4 _ _ _ _ _ _ _ _ _ _ _ _ _
   | exact api_Pair.mono _ _
   | exact mask_Masks_Of.mono _ _ _
   | exact vec_Ones.mono _ _
   | exact walk_row.mono _ _ _ _ _
   | exact LeO.none _
   | refine LeO.ite ?_ ?_
   | refine LeO.bind ?_ (fun _ => ?_)
  ·intro y0 y1 y2 y3 y4 y5 y6 y7 y8
   unfold walk_Run_rest.l1
   repeat' first
   | (with_reducible exact ih0 _ _ _ _ _ _ _ _ _ _)
   | (with_reducible exact ih1 _ _ _ _ _ _ _ _ _)
   | (with_reducible exact ih2 _ _ _ _ _ _ _ _ _ _ _ _ _)
   | (with_reducible exact ih3 _ _ _ _ _ _ _ _ _ _ _ _)
   | (with_reducible exact ih4 _ _ _ _ _ _ _ _ _ _ _ _ _)
   | (with_reducible exact api_Pair.mono _ _)
   | (with_reducible exact mask_Masks_Of.mono _ _ _)
   | (with_reducible exact vec_Ones.mono _ _)
   | (with_reducible exact walk_row.mono _ _ _ _ _)
   | (with_reducible exact LeO.refl _)
   | (with_reducible exact LeO.none _)
   | (with_reducible refine LeO.ite ?_ ?_)
   | (with_reducible refine LeO.bind ?_ (fun _ => ?_))
   | exact ih0 _ _ _ _ _ _ _ _ _ _
   | exact ih1 _ _ _ _ _ _ _ _ _
   | exact ih2 _ _ _ _ _ _ _ _ _ _ _ _ _
   | exact ih3 _ _ _ _ _ _ _ _ _ _ _ _
   | exact ih4 _ _ _ _ _ _ _ _ _ _ _ _ _
   | exact api_Pair.mono _ _
   | exact mask_Masks_Of.mono _ _ _
   | exact vec_Ones.mono _ _
   | exact walk_row.mono _ _ _ _ _
   | exact LeO.none _
   | refine LeO.ite ?_ ?_
   | refine LeO.bind ?_ (fun _ => ?_)
  ·intro y0 y1 y2 y3 y4 y5 y6 y7 y8 y9 y10 y11 y12
   unfold walk_Run_rest.l2
   repeat' first
   | (with_reducible exact ih0 _ _ _ _ _ _ _ _ _ _)
   | (with_reducible exact ih1 _ _ _ _ _ _ _ _ _)
   | (with_reducible exact ih2 _ _ _ _ _ _ _ _ _ _ _ _ _)
   | (with_reducible exact ih3 _ _ _ _ _ _ _ _ _ _ _ _)
   | (with_reducible exact ih4 _ _ _ _ _ _ _ _ _ _ _ _ _)
   | (with_reducible exact api_Pair.mono _ _)
   | (with_reducible exact mask_Masks_Of.mono _ _ _)
   | (with_reducible exact vec_Ones.mono _ _)
   | (with_reducible exact walk_row.mono _ _ _ _ _)
   | (with_reducible exact LeO.refl _)
   | (with_reducible exact LeO.none _)
   | (with_reducible refine LeO.ite ?_ ?_)
   | (with_reducible refine LeO.bind ?_ (fun _ => ?_))
   | exact ih0 _ _ _ _ _ _ _ _ _ _
   | exact ih1 _ _ _ _ _ _ _ _ _
   | exact ih2 _ _ _ _ _ _ _ _ _ _ _ _ _
   | exact ih3 _ _ _ _ _ _ _ _ _ _ _ _
   | exact ih4 _ _ _ _ _ _ _ _ _ _ _ _ _
   | exact api_Pair.mono _ _
   | exact mask_Masks_Of.mono _ _ _
   | exact vec_Ones.mono _ _
   | exact walk_row.mono _ _ _ _ _
   | exact LeO.none _
   | refine LeO.ite ?_ ?_
   | refine LeO.bind ?_ (fun _ => ?_)
  ·intro y0 y1 y2 y3 y4 y5 y6 y7 y8 y9 y10 y11
   unfold walk_Run_rest.l3
   repeat' first
   | (with_reducible exact ih0 _ _ _ _ _ _ _ _ _ _)
   | (with_reducible exact ih1 _ _ _ _ _ _ _ _ _)
   | (with_reducible exact ih2 _ _ _ _ _ _ _ _ _ _ _ _ _)
   | (with_reducible exact ih3 _ _ _ _ _ _ _ _ _ _ _ _)
   | (with_reducible exact ih4 _ _ _ _ _ _ _ _ _ _ _ _ _)
   | (with_reducible exact api_Pair.mono _ _)
   | (with_reducible exact mask_Masks_Of.mono _ _ _)
   | (with_reducible exact vec_Ones.mono _ _)
   | (with_reducible exact walk_row.mono _ _ _ _ _)
   | (with_reducible exact LeO.refl _)
   | (with_reducible exact LeO.none _)
   | (with_reducible refine LeO.ite ?_ ?_)
   | (with_reducible refine LeO.bind ?_ (fun _ => ?_))
   | exact ih0 _ _ _ _ _ _ _ _ _ _
   | exact ih1 _ _ _ _ _ _ _ _ _
   | exact ih2 _ _ _ _ _ _ _ _ _ _ _ _ _
   | exact ih3 _ _ _ _ _ _ _ _ _ _ _ _
   | exact ih4 _ _ _ _ _ _ _ _ _ _ _ _ _
   | exact api_Pair.mono _ _
   | exact mask_Masks_Of.mono _ _ _
   | exact vec_Ones.mono _ _
   | exact walk_row.mono _ _ _ _ _
   | exact LeO.none _
   | refine LeO.ite ?_ ?_
   | refine LeO.bind ?_ (fun _ => ?_)
  ·intro y0 y1 y2 y3 y4 y5 y6 y7 y8 y9 y10 y11 y12
   unfold walk_Run_rest.j4
   repeat' first
   | (with_reducible exact ih0 _ _ _ _ _ _ _ _ _ _)
   | (with_reducible exact ih1 _ _ _ _ _ _ _ _ _)
   | (with_reducible exact ih2 _ _ _ _ _ _ _ _ _ _ _ _ _)
   | (with_reducible exact ih3 _ _ _ _ _ _ _ _ _ _ _ _)
   | (with_reducible exact ih4 _ _ _ _ _ _ _ _ _ _ _ _ _)
   | (with_reducible exact api_Pair.mono _ _)
   | (with_reducible exact mask_Masks_Of.mono _ _ _)
   | (with_reducible exact vec_Ones.mono _ _)
   | (with_reducible exact walk_row.mono _ _ _ _ _)
   | (with_reducible exact LeO.refl _)
   | (with_reducible exact LeO.none _)
   | (with_reducible refine LeO.ite ?_ ?_)
   | (with_reducible refine LeO.bind ?_ (fun _ => ?_))
   | exact ih0 _ _ _ _ _ _ _ _ _ _
   | exact ih1 _ _ _ _ _ _ _ _ _
   | exact ih2 _ _ _ _ _ _ _ _ _ _ _ _ _
   | exact ih3 _ _ _ _ _ _ _ _ _ _ _ _
   | exact ih4 _ _ _ _ _ _ _ _ _ _ _ _ _
   | exact api_Pair.mono _ _
   | exact mask_Masks_Of.mono _ _ _
   | exact vec_Ones.mono _ _
   | exact walk_row.mono _ _ _ _ _
   | exact LeO.none _
   | refine LeO.ite ?_ ?_
   | refine LeO.bind ?_ (fun _ => ?_)
theorem walk_Run_rest.mono : ∀ a0 a1 a2 a3 a4 k, LeO (walk_Run_rest.f k a0 a1 a2 a3 a4) (walk_Run_rest.f (k + 1) a0 a1 a2 a3 a4) := by
 intro a0 a1 a2 a3 a4 k
 obtain ⟨ih0, ih1, ih2, ih3, ih4⟩ := walk_Run_rest.mono_l k
 unfold walk_Run_rest.f
 repeat' first
   | (with_reducible exact ih0 _ _ _ _ _ _ _ _ _ _)
   | (with_reducible exact ih1 _ _ _ _ _ _ _ _ _)
   | (with_reducible exact ih2 _ _ _ _ _ _ _ _ _ _ _ _ _)
   | (with_reducible exact ih3 _ _ _ _ _ _ _ _ _ _ _ _)
   | (with_reducible exact ih4 _ _ _ _ _ _ _ _ _ _ _ _ _)
   | (with_reducible exact api_Pair.mono _ _)
   | (with_reducible exact mask_Masks_Of.mono _ _ _)
   | (with_reducible exact vec_Ones.mono _ _)
   | (with_reducible exact walk_row.mono _ _ _ _ _)
   | (with_reducible exact LeO.refl _)
   | (with_reducible exact LeO.none _)
   | (with_reducible refine LeO.ite ?_ ?_)
   | (with_reducible refine LeO.bind ?_ (fun _ => ?_))
   | exact ih0 _ _ _ _ _ _ _ _ _ _
   | exact ih1 _ _ _ _ _ _ _ _ _
   | exact ih2 _ _ _ _ _ _ _ _ _ _ _ _ _
   | exact ih3 _ _ _ _ _ _ _ _ _ _ _ _
   | exact ih4 _ _ _ _ _ _ _ _ _ _ _ _ _
   | exact api_Pair.mono _ _
   | exact mask_Masks_Of.mono _ _ _
   | exact vec_Ones.mono _ _
   | exact walk_row.mono _ _ _ _ _
   | exact LeO.none _
   | refine LeO.ite ?_ ?_
   | refine LeO.bind ?_ (fun _ => ?_)
def walk_Run_rest.T24 : Bool × List (List Nat × List Nat) := (true, [([], []), ([], []), ([], []), ([], []), ([], []), ([3, 4], [3, 4]), ([2, 5], [2, 5]), ([6], [6]), ([], []), ([], []), ([], []), ([9, 10], [9, 10]), ([11], [11]), ([8, 12], [8, 12]), ([], []), ([14], [14]), ([1, 7, 13, 15, 13], [1, 7, 13, 15]), ([16], [16]), ([0, 17, 16], [0, 17]), ([18, 18, 0, 1, 2, 3, 4, 5, 6, 7, 8, 9, 10, 11, 12, 13, 14, 15, 16, 17, 18], [0, 2, 18])])
def walk_Run_rest.B24 : List Nat := [0, 0, 0, 0, 0, 24, 60, 124, 0, 0, 0, 1536, 3584, 7936, 0, 16384, 65534, 131070, 262143, 524287]
theorem walk_Run_rest.tab24 : rtab .any (opsOf Try.f8 24) = walk_Run_rest.T24 := by kernel_rfl
theorem walk_Run_rest.bits24 : waitsOk walk_Run_rest.T24.2 walk_Run_rest.B24 = true := by kernel_rfl
def walk_Run_rest.T30 : Bool × List (List Nat × List Nat) := (true, [([], []), ([], []), ([1], [1]), ([0, 2], [0, 2]), ([3], [3]), ([], []), ([], []), ([6], [6]), ([5, 7], [5, 7]), ([8], [8]), ([4, 9], [4, 9]), ([10], [10])])
def walk_Run_rest.B30 : List Nat := [0, 0, 2, 7, 15, 0, 0, 64, 224, 480, 1023, 2047]
theorem walk_Run_rest.tab30 : rtab .any (opsOf Try.f8 30) = walk_Run_rest.T30 := by kernel_rfl
theorem walk_Run_rest.bits30 : waitsOk walk_Run_rest.T30.2 walk_Run_rest.B30 = true := by kernel_rfl

def walk_Run.f (k : Nat) (a0 : Int) (l1 : List Int) (l2 : List Int) (a3 : Int) : Option (List S29 × Int × Int) :=
 if (¬ a0 = 0 ∧ ¬ a0 = 1) ∨ a3 < 1 then some ([], 0, 1) else if l2.length ≤ 1048576 then walk_Run_rest.f k a0 l1 l2 (mn a3 (mx (l1.length : Int) 1)) l2 else none
theorem walk_Run.mono : ∀ a0 a1 a2 a3 k, LeO (walk_Run.f k a0 a1 a2 a3) (walk_Run.f (k + 1) a0 a1 a2 a3) := by
 intro a0 a1 a2 a3 k
 unfold walk_Run.f
 exact LeO.ite (LeO.refl _) (LeO.ite (walk_Run_rest.mono _ _ _ _ _ _) (LeO.refl _))
set_option maxHeartbeats 400000 in
set_option maxRecDepth 100000 in
theorem walk_Run.bad (a0 : Int) (A1 : Option Addr) (c1 n1 : Nat) (A2 : Option Addr) (c2 n2 : Nat) (b3 : Int) (w : World) (h : (¬ a0 = 0 ∧ ¬ a0 = 1) ∨ b3 < 1) :
  Calls Try.prog 8 #[.int .i64 a0, .slice A1 n1 c1, .slice A2 n2 c2, .int .i64 b3] w fun e w' => e = .returned (.tuple #[.slice none 0 0, .int .i64 0, .int .i64 1]) ∧ w = w' := by
 by_cases e0 : a0 = 0
 ·have f1 : (a0 != 0) = false := by simp [e0]
  have f3 : decide (b3 < 1) = true := by simpa [e0] using h
  clear h e0
  go_enter Try.func8, Try.ntmps8
  go_wp2
  go_ret3
  exact ⟨rfl, rfl⟩
 ·have f1 : (a0 != 0) = true := by simpa using e0
  by_cases e1 : a0 = 1
  ·have f2 : (a0 != 1) = false := by simp [e1]
   have f3 : decide (b3 < 1) = true := by simpa [e1] using h
   clear h e0 e1
   go_enter Try.func8, Try.ntmps8
   go_wp2
   go_ret3
   exact ⟨rfl, rfl⟩
  ·have f2 : (a0 != 1) = true := by simpa using e1
   clear h e0 e1
   go_enter Try.func8, Try.ntmps8
   go_wp2
   go_ret3
   exact ⟨rfl, rfl⟩
set_option maxHeartbeats 8000000 in
set_option maxRecDepth 100000 in
theorem walk_Run.calls (k : Nat) (a0 : Int) (A1 : Option Addr) (c1 : Nat) (l1 : List Int) (A2 : Option Addr) (c2 : Nat) (l2 : List Int) (b3 : Int) (r1 : List S29) (r2 : Int) (r3 : Int) (w : World) (hr1 : Kd.C (Kd.int .i64) w A1 l1.length l1) (hc1 : l1.length ≤ c1) (hr2 : Kd.C (Kd.int .i64) w A2 l2.length l2) (hc2 : l2.length ≤ c2) (h : walk_Run.f k a0 l1 l2 b3 = some (r1, r2, r3)) :
  Calls Try.prog 8 #[.int .i64 a0, .slice A1 l1.length c1, .slice A2 l2.length c2, .int .i64 b3] w fun e w' => ∃ v0_ : Value, e = .returned (.tuple #[v0_, .int .i64 r2, .int .i64 r3]) ∧ Kd.R k29 29 w' w.heap.size (fun _ => True) v0_ r1 ∧ Below w.heap.size w w' := by
 unfold walk_Run.f at h
 by_cases hbad : (¬ a0 = 0 ∧ ¬ a0 = 1) ∨ b3 < 1
 ·rw [if_pos hbad] at h
  simp only [Option.some.injEq, Prod.mk.injEq] at h
  obtain ⟨rfl, rfl, rfl⟩ := h
  refine (walk_Run.bad a0 A1 c1 l1.length A2 c2 l2.length b3 w hbad).mono ?_
  rintro e w' ⟨rfl, rfl⟩
  exact ⟨_, rfl, Kd.R_nil _ _ _ _ _, Below.refl _ _⟩
 rw [if_neg hbad] at h
 by_cases hs : l2.length ≤ 1048576
 ·rw [if_pos hs] at h
  have main : ∀ Q : Ending → World → Prop, (∀ e w', (∃ v0_ : Value, e = .returned (.tuple #[v0_, .int .i64 r2, .int .i64 r3]) ∧ Kd.R k29 29 w' w.heap.size (fun _ => True) v0_ r1 ∧ Below w.heap.size w w') → Q e w') →
    Calls Try.prog 8 #[.int .i64 a0, .slice A1 l1.length c1, .slice A2 l2.length c2, .int .i64 b3] w Q := by
   intro Q hQ
   have f3 : decide (b3 < 1) = false := decide_eq_false fun e => hbad (Or.inr e)
   have h0 : a0 = 0 ∨ a0 = 1 := by
    by_cases e : a0 = 0
    ·exact Or.inl e
    ·exact Or.inr (Classical.byContradiction fun e1 => hbad (Or.inl ⟨e, e1⟩))
   clear hbad
   have HC1 := Aside0.mk hc1
   have HC2 := Aside0.mk hc2
   have HS := Aside0.mk hs
   obtain ⟨j4, hj4⟩ : ∃ j4 : Int, mx (l1.length : Int) 1 = j4 := ⟨_, rfl⟩
   obtain ⟨a3, ha3⟩ : ∃ a3 : Int, mn b3 j4 = a3 := ⟨_, rfl⟩
   obtain ⟨a4, ha4⟩ : ∃ a4 : List Int, a4 = l2 := ⟨_, rfl⟩
   have H0 : Aside0 (walk_Run_rest.f k a0 l1 l2 a3 a4 = some (r1, r2, r3)) := ⟨by rw [← ha3, ← hj4, ha4]; exact h⟩
   have hj4_ : (if (l1.length : Int) < 1 then 1 else (l1.length : Int)) = j4 := hj4
   have ha3_ : (if j4 < b3 then j4 else b3) = a3 := ha3
   have HA4 := Aside0.mk ha4
   have HR1 := Aside0.mk hr1
   have HR2 := Aside0.mk hr2
   have HQ := Aside0.mk hQ
   clear h hj4 ha3 ha4 hr1 hr2 hQ hc1 hc2 hs
   have two : (a0 != 0) = false ∨ ((a0 != 0) = true ∧ (a0 != 1) = false) := by
    rcases h0 with e | e
    ·exact Or.inl (by simp [e])
    ·exact Or.inr ⟨by simp [e], by simp [e]⟩
   clear h0
   rcases two with f1 | ⟨f1, f2⟩
   all_goals
    go_enter Try.func8, Try.ntmps8
    go_wp2_with fail
    refine (mask_New.calls _ _ l2 _ HR2.out HC2.out HS.out).mono ?_
    rintro e w ⟨gm_, rfl, hm, hb⟩
    have hQ := fun (e : Ending) (w' : World) (hx : ∃ v0_ : Value, e = .returned (.tuple #[v0_, .int .i64 r2, .int .i64 r3]) ∧ Kd.R k29 29 w' w.heap.size (fun _ => True) v0_ r1 ∧ Below w.heap.size w w') =>
     HQ.out e w' (let ⟨v, h1, h2, h3⟩ := hx; ⟨v, h1, Kd.R_lower h2 hb.size, below_step hb h3⟩)
    have hr1 := Kd.C_below HR1.out hb
    have hr2 := Kd.C_below HR2.out hb
    have hc1 := HC1.out
    have hc2 := HC2.out
    have HM := Aside0.mk (show IsMask w gm_ a4 from HA4.out ▸ hm)
    have h := H0.out
    clear HR1 HR2 HQ HC1 HC2 HS H0 HA4 hj4_ ha3_ f1 f3 hm hb
    (try clear f2)
    have hu29 := Try.underlying29
    have HR1 := Aside0.mk hr1
    have HC1 := Aside0.mk hc1
    clear hr1 hc1
    have HR2 := Aside0.mk hr2
    have HC2 := Aside0.mk hc2
    clear hr2 hc2
    have HB := Aside0.mk (Below.refl w.heap.size w)
    have H : ((vec_Ones.f k (l2.length : Int)).bind fun t219 => (walk_Run_rest.l0 k a0 l1 l2 a3 a4 t219 ([] : List (List Int)) l1 (l1.length : Int) 0)) = some (r1, r2, r3) := h
    clear h
    replace H := Option.bind_eq_some_iff.mp H
    obtain ⟨t219, A60, H⟩ := H
    replace H : (walk_Run_rest.l0 k a0 l1 l2 a3 a4 t219 ([] : List (List Int)) l1 (l1.length : Int) 0) = some (r1, r2, r3) := H
    have A6 := Aside0.mk A60
    clear A60
    have H' := Aside0.mk H
    clear H
    go_wp2_with (first | ((with_reducible refine gate_callee (f := 24) rfl ?_); refine goesL_ (some 43) rfl rfl Try.func24 (by kernel_rfl) rfl #[.int .i64 (l2.length : Int)] rfl (by (try simp only [List.map_toArray, List.map_cons, List.map_nil]); first | done | rfl | (simp only [List.length_drop, List.length_take]; rfl)) ?_; (with_reducible refine (vec_Ones.calls k (l2.length : Int) t219 _ A6.out).mono ?_); rintro e w7 ⟨v220, rfl, ho0, hb⟩; refine ⟨_, rfl, ?_⟩; have n0_ := Aside0.mk (Kd.R_lower ho0 (below_size (by repeat (first | (with_reducible first | exact HB.out | apply below_alloc | apply pw_below_drewN | apply below_drew1) | exact HB.out)))); have n1_ := Aside0.mk (below_step (by repeat (first | (with_reducible first | exact HB.out | apply below_alloc | apply pw_below_drewN | apply below_drew1) | exact HB.out)) hb); clear HB; have HO221 := n0_; have HB := n1_; clear n0_ n1_; (try clear hb); (try clear hb2); (try clear hk); (try clear hi); (try clear ho0)))
    go_loopg [12, 13, 46] k (fun kq v12 v13 v46 w' => ∃ (x12_1 : List Int) (x13_1 : List (List Int)) (x46_1 : Int), v46 = .int .i64 x46_1 ∧ Aside0 (walk_Run_rest.l0 kq a0 l1 l2 a3 a4 x12_1 x13_1 l1 (l1.length : Int) x46_1 = some (r1, r2, r3)) ∧ Aside0 (kq ≤ k) ∧ Aside0 (Kd.R (Kd.int .u64) 61 w' w.heap.size (fun _ => True) v12 x12_1) ∧ Aside0 (Kd.N (Kd.slice 61 (Kd.int .u64)) 47 w' w.heap.size (fun k_ => some k_ ≠ (v12 : Value).ownBlock) v13 x13_1) ∧ Aside0 (Below w.heap.size w w'))
    case atStart => exact ⟨(t219), (([] : List (List Int))), (0), (by first | rfl | (simp; done) | (simp [*]; done)), H', ⟨Nat.le_refl _⟩, ⟨by (with_reducible repeat (first | apply Kd.R_alloc | apply Kd.R_drewN | apply Kd.R_drew)); exact HO221.out⟩, ⟨by first | exact Kd.S_nil _ _ _ _ _ | exact Kd.N_nil _ _ _ _ _ | exact Kd.V_nil _ _ _ _ _ | exact Kd.Q_nil _ _ _ _ _ | exact Kd.R_nil _ _ _ _ _⟩, ⟨by repeat (first | (with_reducible first | exact HB.out | apply below_alloc | apply pw_below_drewN | apply below_drew1) | exact HB.out)⟩⟩
    case round =>
     clear H'
     try clear c1
     try clear c2
     try clear p2
     obtain ⟨x12_1, x13_1, x46_1, rfl, HA, HK1, HO_12, HO_13, HB⟩ := hrel
     cases gk with
     | zero => exact absurd HA.out (by simp [walk_Run_rest.l0])
     | succ k1 =>
      have H := HA.out
      clear HA
      simp only [walk_Run_rest.l0] at H
      by_cases c8 : x46_1 < (l1.length : Int)
      ·rw [if_pos c8] at H
       have c8b0 : decide (x46_1 < (l1.length : Int)) = true := decide_eq_true c8
       clear c8
       by_cases c9 : 0 ≤ x46_1
       ·rw [if_pos c9] at H
        have c9b0 : decide (0 ≤ x46_1) = true := decide_eq_true c9
        clear c9
        by_cases c10 : x46_1 < (l1.length : Int)
        ·rw [if_pos c10] at H
         have c10b0 : decide (x46_1 < (l1.length : Int)) = true := decide_eq_true c10
         clear c10
         by_cases c11 : a3 = 0
         ·rw [if_pos c11] at H
          exact absurd H (by simp)
         ·rw [if_neg c11] at H
          have c11b0 : (a3 == 0) = false := beq_eq_false_iff_ne.mpr c11
          have c11b1 : (a3 != 0) = true := bne_iff_ne.mpr c11
          by_cases c12 : (Int.tmod x46_1 a3) = 0
          ·rw [if_pos c12] at H
           have c12b0 : ((Int.tmod x46_1 a3) == 0) = true := beq_iff_eq.mpr c12
           have c12b1 : ((Int.tmod x46_1 a3) != 0) = false := bne_eq_false_iff_eq.mpr c12
           clear c12
           by_cases c13 : x13_1.length < 5864062014805
           ·rw [if_pos c13] at H
            have LMc13 := Aside0.mk c13
            clear c13
            obtain ⟨y223, hy223⟩ : ∃ y_ : List (List Int), y_ = (x13_1 ++ [x12_1]) := ⟨_, rfl⟩
            replace H : ((mask_Masks_Of.f k1 a4 (rd l1 x46_1)).bind fun t226 => ((walk_row.f k1 a0 x12_1 t226 (l2.length : Int)).bind fun t229 => (walk_Run_rest.l0 k1 a0 l1 l2 a3 a4 t229 y223 l1 (l1.length : Int) (wrap64 (x46_1 + 1))))) = some (r1, r2, r3) := by first | (rw [hy223]; with_reducible exact H) | (have H2_ := (Option.bind_some _ _).symm.trans H; rw [hy223]; with_reducible exact H2_) | (have H2_ := (Option.bind_some _ _).symm.trans H; with_reducible exact H2_) | with_reducible exact H | (rw [hy223]; exact H) | exact H
            have Ny223 := Aside0.mk hy223
            clear hy223
            replace H := Option.bind_eq_some_iff.mp H
            obtain ⟨t226, A140, H⟩ := H
            replace H : ((walk_row.f k1 a0 x12_1 t226 (l2.length : Int)).bind fun t229 => (walk_Run_rest.l0 k1 a0 l1 l2 a3 a4 t229 y223 l1 (l1.length : Int) (wrap64 (x46_1 + 1)))) = some (r1, r2, r3) := H
            have A14 := Aside0.mk A140
            clear A140
            replace H := Option.bind_eq_some_iff.mp H
            obtain ⟨t229, A150, H⟩ := H
            replace H : (walk_Run_rest.l0 k1 a0 l1 l2 a3 a4 t229 y223 l1 (l1.length : Int) (wrap64 (x46_1 + 1))) = some (r1, r2, r3) := H
            have A15 := Aside0.mk A150
            clear A150
            have H' := Aside0.mk H
            clear H
            have p222 : 0 ≤ (x46_1 : Int) := of_decide_eq_true (by first | (with_reducible assumption) | assumption)
            have q222 : x46_1 < (l1.length : Int) := of_decide_eq_true (by first | (with_reducible assumption) | assumption)
            obtain ⟨ad222, e222, hx222_0⟩ := Kd.at_int HR1.out x46_1 p222 q222
            cases e222
            replace hx222_0 := (HB.out.cell (World.block_lt_of_cell? w _ hx222_0)).trans hx222_0
            replace p222 := eq_true p222
            replace q222 := eq_true q222
            obtain ⟨Ao17, co17, eo17⟩ := Kd.R_slice HO_12.out
            subst eo17
            go_wp2_with (first | ((with_reducible refine gate_builtin (b := .append) (xs := #[.tmp 55, .tmp 57]) rfl ?_); at_builtin; refine Kd.N_append (Kd.slice 61 (Kd.int .u64)) (w0 := w) w.heap.size rfl (.tmp 55) (.tmp 57) 49 47 (.slice none 0 0) 24 rfl Try.underlying49 info47 rfl (by decide) (by omega) u13 x13_1 x12_1 [.slice Ao17 x12_1.length co17] (fun _ => True) (fun k_ => ((fun _ => True)) k_ ∧ some k_ ≠ (u13 : Value).ownBlock) rfl rfl ?aP (fun _ hk => hk) ?aF ?aO ?aB ?aS ?aL ?_; (case aP => exact (Kd.FK_slice_mk (Kd.R_reads' (Kd.R_mono (ok' := (fun k_ => ((fun _ => True)) k_ ∧ some k_ ≠ (u13 : Value).ownBlock)) (Kd.R_apart' (HO_12.out) (Kd.N_typed HO_13.out) (by decide)) (fun k_ hk => ⟨trivial, hk.2⟩))).2.1 (Kd.R_F (Kd.R_mono (ok' := (fun k_ => ((fun _ => True)) k_ ∧ some k_ ≠ (u13 : Value).ownBlock)) (Kd.R_apart' (HO_12.out) (Kd.N_typed HO_13.out) (by decide)) (fun k_ hk => ⟨trivial, hk.2⟩))))); (case aB => exact (by repeat (first | (with_reducible first | exact HB.out | apply below_alloc | apply pw_below_drewN | apply below_drew1) | exact HB.out))); (case aF => exact (fun _ _ => trivial)); (case aO => exact (by (with_reducible repeat (first | apply Kd.N_alloc | apply Kd.N_drewN | apply Kd.N_drew)); exact Kd.N_mono HO_13.out (fun _ hk => trivial))); (case aS => exact (below_size (by repeat (first | (with_reducible first | exact HB.out | apply below_alloc | apply pw_below_drewN | apply below_drew1) | exact HB.out)))); (case aL => have := LMc13.out; omega); intro v224 w16 ho hb hg hat; rw [← Ny223.out] at ho; have n0_ := Aside0.mk (hb); have n1_ := Aside0.mk (ho); have n9_ := Aside0.mk (Kd.R_mono (ok' := fun _ => True) (Kd.R_grown (ok := fun k_ => (True ∧ some k_ ≠ (u13 : Value).ownBlock)) (by (with_reducible repeat (first | apply Kd.R_alloc | apply Kd.R_drewN | apply Kd.R_drew)); exact Kd.R_mono (Kd.R_apart' HO_12.out (Kd.N_typed HO_13.out) (by decide)) (fun _ hk_ => ⟨trivial, hk_.2⟩)) hg (fun k_ hk_ => hk_.2)) (fun _ _ => trivial)); clear HB; clear HO_13; clear HO_12; have HO_12 := n9_; clear n9_; have HB := n0_; have HO225 := n1_; clear n0_ n1_; clear ho hb hg hat) | ((with_reducible refine gate_callee (f := 26) rfl ?_); refine goesL_ (some 63) rfl rfl Try.func26 (by kernel_rfl) rfl #[.pointer (some ⟨gm_, 0, none⟩), .int .i64 (rd l1 x46_1)] rfl (by (try simp only [List.map_toArray, List.map_cons, List.map_nil]); first | done | rfl | (simp only [List.length_drop, List.length_take]; rfl)) ?_; (with_reducible refine (mask_Masks_Of.calls k1 a4 (rd l1 x46_1) t226 _ ?side1 A14.out).mono ?_); (case side1 => exact GM_below HM.out (by repeat (first | (with_reducible first | exact HB.out | apply below_alloc | apply pw_below_drewN | apply below_drew1) | exact HB.out))); rintro e w18 ⟨v227, rfl, ho0, hb⟩; refine ⟨_, rfl, ?_⟩; have n0_ := Aside0.mk (Kd.N_elder' (by (with_reducible repeat (first | apply Kd.N_alloc | apply Kd.N_drewN | apply Kd.N_drew)); exact HO225.out) (Kd.R_base ho0) hb); have n1_ := Aside0.mk (Kd.R_lower ho0 (below_size (by repeat (first | (with_reducible first | exact HB.out | apply below_alloc | apply pw_below_drewN | apply below_drew1) | exact HB.out)))); have n2_ := Aside0.mk (below_step (by repeat (first | (with_reducible first | exact HB.out | apply below_alloc | apply pw_below_drewN | apply below_drew1) | exact HB.out)) hb); clear HO225; clear HB; have HO225 := n0_; have HO228 := n1_; have HB := n2_; clear n0_ n1_ n2_; have n9_ := Aside0.mk (Kd.R_below HO_12.out hb); clear HO_12; have HO_12 := n9_; clear n9_; (try clear hb); (try clear hb2); (try clear hk); (try clear hi); (try clear ho0); obtain ⟨Ao19, co19, eo19⟩ := Kd.R_slice HO228.out; subst eo19) | ((with_reducible refine gate_callee (f := 25) rfl ?_); refine goesL_ (some 66) rfl rfl Try.func25 (by kernel_rfl) rfl #[.int .i64 a0, .slice Ao17 x12_1.length co17, .slice Ao19 t226.length co19, .int .i64 (l2.length : Int)] rfl (by (try simp only [List.map_toArray, List.map_cons, List.map_nil]); first | done | rfl | (simp only [List.length_drop, List.length_take]; rfl)) ?_; (with_reducible refine (walk_row.calls k1 a0 _ _ x12_1 _ _ t226 (l2.length : Int) t229 _ ?side1 ?side2 ?side3 ?side4 A15.out).mono ?_); (case side1 => repeat (first | exact (Kd.R_reads' HO_12.out).2.2 | (with_reducible refine Kd.C_alloc ?_ _) | (with_reducible refine Kd.C_drewN ?_ _) | (with_reducible refine Kd.C_drew ?_))); (case side2 => exact (Kd.R_reads' HO_12.out).2.1); (case side3 => repeat (first | exact (Kd.R_reads' HO228.out).2.2 | (with_reducible refine Kd.C_alloc ?_ _) | (with_reducible refine Kd.C_drewN ?_ _) | (with_reducible refine Kd.C_drew ?_))); (case side4 => exact (Kd.R_reads' HO228.out).2.1); rintro e w20 ⟨v230, rfl, ho0, hb⟩; refine ⟨_, rfl, ?_⟩; have n0_ := Aside0.mk (Kd.N_elder' (by (with_reducible repeat (first | apply Kd.N_alloc | apply Kd.N_drewN | apply Kd.N_drew)); exact HO225.out) (Kd.R_base ho0) hb); have n1_ := Aside0.mk (Kd.R_elder' (by (with_reducible repeat (first | apply Kd.R_alloc | apply Kd.R_drewN | apply Kd.R_drew)); exact HO228.out) (Kd.R_base ho0) hb); have n2_ := Aside0.mk (Kd.R_lower (Kd.R_new' ho0 (Kd.R_lt (by (with_reducible repeat (first | apply Kd.R_alloc | apply Kd.R_drewN | apply Kd.R_drew)); exact HO228.out))) (below_size (by repeat (first | (with_reducible first | exact HB.out | apply below_alloc | apply pw_below_drewN | apply below_drew1) | exact HB.out)))); have n3_ := Aside0.mk (below_step (by repeat (first | (with_reducible first | exact HB.out | apply below_alloc | apply pw_below_drewN | apply below_drew1) | exact HB.out)) hb); clear HO225; clear HO228; clear HB; have HO225 := n0_; have HO228 := n1_; have HO231 := n2_; have HB := n3_; clear n0_ n1_ n2_ n3_; (try clear hb); (try clear hb2); (try clear hk); (try clear hi); (try clear ho0)))
            go_roundg k1
            case measure => have := HK1.out; omega
            case rel => exact ⟨(t229), (y223), (wrap64 (x46_1 + 1)), (by first | rfl | (simp; done) | (simp [*]; done)), H', ⟨by have := HK1.out; omega⟩, ⟨by (with_reducible repeat (first | apply Kd.R_alloc | apply Kd.R_drewN | apply Kd.R_drew)); exact Kd.R_mono HO231.out (fun _ hk => trivial)⟩, ⟨by (with_reducible repeat (first | apply Kd.N_alloc | apply Kd.N_drewN | apply Kd.N_drew)); exact Kd.N_mono HO225.out (fun _ hk => hk.2)⟩, ⟨by repeat (first | (with_reducible first | exact HB.out | apply below_alloc | apply pw_below_drewN | apply below_drew1) | exact HB.out)⟩⟩
           ·rw [if_neg c13] at H
            exact absurd H (by simp)
          ·rw [if_neg c12] at H
           have c12b0 : ((Int.tmod x46_1 a3) == 0) = false := beq_eq_false_iff_ne.mpr c12
           have c12b1 : ((Int.tmod x46_1 a3) != 0) = true := bne_iff_ne.mpr c12
           replace H := Option.bind_eq_some_iff.mp H
           obtain ⟨t232, A210, H⟩ := H
           replace H : ((walk_row.f k1 a0 x12_1 t232 (l2.length : Int)).bind fun t235 => (walk_Run_rest.l0 k1 a0 l1 l2 a3 a4 t235 x13_1 l1 (l1.length : Int) (wrap64 (x46_1 + 1)))) = some (r1, r2, r3) := H
           have A21 := Aside0.mk A210
           clear A210
           replace H := Option.bind_eq_some_iff.mp H
           obtain ⟨t235, A220, H⟩ := H
           replace H : (walk_Run_rest.l0 k1 a0 l1 l2 a3 a4 t235 x13_1 l1 (l1.length : Int) (wrap64 (x46_1 + 1))) = some (r1, r2, r3) := H
           have A22 := Aside0.mk A220
           clear A220
           have H' := Aside0.mk H
           clear H
           have p222 : 0 ≤ (x46_1 : Int) := of_decide_eq_true (by first | (with_reducible assumption) | assumption)
           have q222 : x46_1 < (l1.length : Int) := of_decide_eq_true (by first | (with_reducible assumption) | assumption)
           obtain ⟨ad222, e222, hx222_0⟩ := Kd.at_int HR1.out x46_1 p222 q222
           cases e222
           replace hx222_0 := (HB.out.cell (World.block_lt_of_cell? w _ hx222_0)).trans hx222_0
           replace p222 := eq_true p222
           replace q222 := eq_true q222
           go_wp2_with (first | ((with_reducible refine gate_callee (f := 26) rfl ?_); refine goesL_ (some 63) rfl rfl Try.func26 (by kernel_rfl) rfl #[.pointer (some ⟨gm_, 0, none⟩), .int .i64 (rd l1 x46_1)] rfl (by (try simp only [List.map_toArray, List.map_cons, List.map_nil]); first | done | rfl | (simp only [List.length_drop, List.length_take]; rfl)) ?_; (with_reducible refine (mask_Masks_Of.calls k1 a4 (rd l1 x46_1) t232 _ ?side1 A21.out).mono ?_); (case side1 => exact GM_below HM.out (by repeat (first | (with_reducible first | exact HB.out | apply below_alloc | apply pw_below_drewN | apply below_drew1) | exact HB.out))); rintro e w23 ⟨v233, rfl, ho0, hb⟩; refine ⟨_, rfl, ?_⟩; have n0_ := Aside0.mk (Kd.R_elder' (by (with_reducible repeat (first | apply Kd.R_alloc | apply Kd.R_drewN | apply Kd.R_drew)); exact HO_12.out) (Kd.R_base ho0) hb); have n1_ := Aside0.mk (Kd.N_elder' (by (with_reducible repeat (first | apply Kd.N_alloc | apply Kd.N_drewN | apply Kd.N_drew)); exact HO_13.out) (Kd.R_base ho0) hb); have n2_ := Aside0.mk (Kd.R_lower (Kd.R_new' ho0 (Kd.R_lt (by (with_reducible repeat (first | apply Kd.R_alloc | apply Kd.R_drewN | apply Kd.R_drew)); exact HO_12.out))) (below_size (by repeat (first | (with_reducible first | exact HB.out | apply below_alloc | apply pw_below_drewN | apply below_drew1) | exact HB.out)))); have n3_ := Aside0.mk (below_step (by repeat (first | (with_reducible first | exact HB.out | apply below_alloc | apply pw_below_drewN | apply below_drew1) | exact HB.out)) hb); clear HO_12; clear HO_13; clear HB; have HO_12 := n0_; have HO_13 := n1_; have HO234 := n2_; have HB := n3_; clear n0_ n1_ n2_ n3_; (try clear hb); (try clear hb2); (try clear hk); (try clear hi); (try clear ho0); obtain ⟨Ao24, co24, eo24⟩ := Kd.R_slice HO_12.out; subst eo24; obtain ⟨Ao25, co25, eo25⟩ := Kd.R_slice HO234.out; subst eo25) | ((with_reducible refine gate_callee (f := 25) rfl ?_); refine goesL_ (some 66) rfl rfl Try.func25 (by kernel_rfl) rfl #[.int .i64 a0, .slice Ao24 x12_1.length co24, .slice Ao25 t232.length co25, .int .i64 (l2.length : Int)] rfl (by (try simp only [List.map_toArray, List.map_cons, List.map_nil]); first | done | rfl | (simp only [List.length_drop, List.length_take]; rfl)) ?_; (with_reducible refine (walk_row.calls k1 a0 _ _ x12_1 _ _ t232 (l2.length : Int) t235 _ ?side1 ?side2 ?side3 ?side4 A22.out).mono ?_); (case side1 => repeat (first | exact (Kd.R_reads' HO_12.out).2.2 | (with_reducible refine Kd.C_alloc ?_ _) | (with_reducible refine Kd.C_drewN ?_ _) | (with_reducible refine Kd.C_drew ?_))); (case side2 => exact (Kd.R_reads' HO_12.out).2.1); (case side3 => repeat (first | exact (Kd.R_reads' HO234.out).2.2 | (with_reducible refine Kd.C_alloc ?_ _) | (with_reducible refine Kd.C_drewN ?_ _) | (with_reducible refine Kd.C_drew ?_))); (case side4 => exact (Kd.R_reads' HO234.out).2.1); rintro e w26 ⟨v236, rfl, ho0, hb⟩; refine ⟨_, rfl, ?_⟩; have n0_ := Aside0.mk (Kd.R_elder' (by (with_reducible repeat (first | apply Kd.R_alloc | apply Kd.R_drewN | apply Kd.R_drew)); exact HO_12.out) (Kd.R_base ho0) hb); have n1_ := Aside0.mk (Kd.N_elder' (by (with_reducible repeat (first | apply Kd.N_alloc | apply Kd.N_drewN | apply Kd.N_drew)); exact HO_13.out) (Kd.R_base ho0) hb); have n2_ := Aside0.mk (Kd.R_elder' (by (with_reducible repeat (first | apply Kd.R_alloc | apply Kd.R_drewN | apply Kd.R_drew)); exact HO234.out) (Kd.R_base ho0) hb); have n3_ := Aside0.mk (Kd.R_lower (Kd.R_new' (Kd.R_new' ho0 (Kd.R_lt (by (with_reducible repeat (first | apply Kd.R_alloc | apply Kd.R_drewN | apply Kd.R_drew)); exact HO_12.out))) (Kd.R_lt (by (with_reducible repeat (first | apply Kd.R_alloc | apply Kd.R_drewN | apply Kd.R_drew)); exact HO234.out))) (below_size (by repeat (first | (with_reducible first | exact HB.out | apply below_alloc | apply pw_below_drewN | apply below_drew1) | exact HB.out)))); have n4_ := Aside0.mk (below_step (by repeat (first | (with_reducible first | exact HB.out | apply below_alloc | apply pw_below_drewN | apply below_drew1) | exact HB.out)) hb); clear HO_12; clear HO_13; clear HO234; clear HB; have HO_12 := n0_; have HO_13 := n1_; have HO234 := n2_; have HO237 := n3_; have HB := n4_; clear n0_ n1_ n2_ n3_ n4_; (try clear hb); (try clear hb2); (try clear hk); (try clear hi); (try clear ho0)))
           go_roundg k1
           case measure => have := HK1.out; omega
           case rel => exact ⟨(t235), (x13_1), (wrap64 (x46_1 + 1)), (by first | rfl | (simp; done) | (simp [*]; done)), H', ⟨by have := HK1.out; omega⟩, ⟨by (with_reducible repeat (first | apply Kd.R_alloc | apply Kd.R_drewN | apply Kd.R_drew)); exact Kd.R_mono HO237.out (fun _ hk => trivial)⟩, ⟨by (with_reducible repeat (first | apply Kd.N_alloc | apply Kd.N_drewN | apply Kd.N_drew)); exact Kd.N_mono HO_13.out (fun _ hk => hk.2)⟩, ⟨by repeat (first | (with_reducible first | exact HB.out | apply below_alloc | apply pw_below_drewN | apply below_drew1) | exact HB.out)⟩⟩
        ·rw [if_neg c10] at H
         exact absurd H (by simp)
       ·rw [if_neg c9] at H
        exact absurd H (by simp)
      ·rw [if_neg c8] at H
       have c8b0 : decide (x46_1 < (l1.length : Int)) = false := decide_eq_false c8
       clear c8
       have H' := Aside0.mk H
       clear H
       obtain ⟨Ao27, co27, eo27⟩ := Kd.N_slice HO_13.out
       subst eo27
       go_wp2
       go_loopg [16, 17, 18] k1 (fun kq v16 v17 v18 w' => ∃ (x16_2 : List (S29)) (x17_2 : Int) (x18_2 : Int), v17 = .int .i64 x17_2 ∧ v18 = .int .i64 x18_2 ∧ Aside0 (walk_Run_rest.l1 kq a0 l1 l2 a3 a4 x13_1 x16_2 x17_2 x18_2 = some (r1, r2, r3)) ∧ Aside0 (kq ≤ k1) ∧ Aside0 (Kd.N (Kd.slice 61 (Kd.int .u64)) 47 w' w.heap.size (fun k_ => some k_ ≠ (v16 : Value).ownBlock) (.slice Ao27 x13_1.length co27) x13_1) ∧ Aside0 (Kd.R k29 29 w' w.heap.size (fun _ => True) v16 x16_2) ∧ Aside0 (Below w.heap.size w w'))
       case atStart => exact ⟨(([] : List (S29))), ((l2.length : Int)), (wrap64 ((x13_1.length : Int) - 1)), (by first | rfl | (simp; done) | (simp [*]; done)), (by first | rfl | (simp; done) | (simp [*]; done)), H', ⟨Nat.le_refl _⟩, ⟨by (with_reducible repeat (first | apply Kd.N_alloc | apply Kd.N_drewN | apply Kd.N_drew)); exact Kd.N_mono HO_13.out (fun _ hk => (by simp [Value.ownBlock]))⟩, ⟨by first | exact Kd.R_nil _ _ _ _ _ | exact Kd.N_nil _ _ _ _ _ | exact Kd.V_nil _ _ _ _ _ | exact Kd.Q_nil _ _ _ _ _ | exact Kd.S_nil _ _ _ _ _⟩, ⟨by repeat (first | (with_reducible first | exact HB.out | apply below_alloc | apply pw_below_drewN | apply below_drew1) | exact HB.out)⟩⟩
       case round =>
        clear H'
        try clear c1
        try clear c2
        try clear p2
        try clear q2
        try clear hx2
        try clear p6
        try clear c8
        try clear c8b0
        try clear c9
        try clear c9b0
        try clear c10
        try clear c10b0
        try clear c11
        try clear c11b0
        try clear c11b1
        try clear c12
        try clear c12b0
        try clear c12b1
        try clear c13
        try clear p22
        try clear q22
        try clear hx22
        try clear c24
        try clear c25
        try clear c26
        try clear hx222_0
        try clear p2
        try clear p222
        try clear q222
        obtain ⟨x16_2, x17_2, x18_2, rfl, rfl, HA, HK2, HO_13, HO_16, HB⟩ := hrel
        cases gk with
        | zero => exact absurd HA.out (by simp [walk_Run_rest.l1])
        | succ k2 =>
         have H := HA.out
         clear HA
         simp only [walk_Run_rest.l1] at H
         by_cases c28 : x18_2 ≥ 0
         ·rw [if_pos c28] at H
          have c28b0 : decide (0 ≤ x18_2) = true := decide_eq_true c28
          clear c28
          obtain ⟨ji29, hji29⟩ : ∃ j_ : Int, (mn (wrap64 ((wrap64 (x18_2 * a3)) + a3)) (l1.length : Int)) = j_ := ⟨_, rfl⟩
          replace H : (if 0 ≤ x18_2 then (if x18_2 < (x13_1.length : Int) then (walk_Run_rest.l2 k2 a0 l1 l2 a3 a4 x13_1 x16_2 x17_2 x18_2 (wrap64 (x18_2 * a3)) ji29 (([rd_L2 x13_1 x18_2] : List (List Int))) (wrap64 (x18_2 * a3))) else (none)) else (none)) = some (r1, r2, r3) := by first | (rw [hji29] at H; exact H) | (simp only [hji29] at H ⊢; exact H)
          have hji29_ : (if (l1.length : Int) < (wrap64 ((wrap64 (x18_2 * a3)) + a3)) then (l1.length : Int) else (wrap64 ((wrap64 (x18_2 * a3)) + a3))) = ji29 := hji29
          (try (have hji29n := hji29_; simp only [Int.ofNat_lt, Int.ofNat_le] at hji29n))
          by_cases c30 : 0 ≤ x18_2
          ·rw [if_pos c30] at H
           have c30b0 : decide (0 ≤ x18_2) = true := decide_eq_true c30
           clear c30
           by_cases c31 : x18_2 < (x13_1.length : Int)
           ·rw [if_pos c31] at H
            have c31b0 : decide (x18_2 < (x13_1.length : Int)) = true := decide_eq_true c31
            clear c31
            obtain ⟨y241, hy241⟩ : ∃ y_ : List (List Int), y_ = (([rd_L2 x13_1 x18_2] : List (List Int))) := ⟨_, rfl⟩
            replace H : (walk_Run_rest.l2 k2 a0 l1 l2 a3 a4 x13_1 x16_2 x17_2 x18_2 (wrap64 (x18_2 * a3)) ji29 y241 (wrap64 (x18_2 * a3))) = some (r1, r2, r3) := by first | (rw [hy241]; with_reducible exact H) | (have H2_ := (Option.bind_some _ _).symm.trans H; rw [hy241]; with_reducible exact H2_) | (have H2_ := (Option.bind_some _ _).symm.trans H; with_reducible exact H2_) | with_reducible exact H | (rw [hy241]; exact H) | exact H
            have Ny241 := Aside0.mk hy241
            clear hy241
            have H' := Aside0.mk H
            clear H
            have p240 : 0 ≤ (x18_2 : Int) := of_decide_eq_true (by first | (with_reducible assumption) | assumption)
            have q240 : x18_2 < (x13_1.length : Int) := of_decide_eq_true (by first | (with_reducible assumption) | assumption)
            obtain ⟨ad240, A240_0, c240_0, e240, hx240_0, hl240_0, hi240_0⟩ := at_L2 (Kd.N_reads' HO_13.out).2.2 x18_2 p240 q240
            cases e240
            obtain ⟨ce240, hce240, hMe240, hcc240⟩ := Kd.N_get HO_13.out [] x18_2 p240 (by first | exact q240 | exact of_decide_eq_true (by first | (with_reducible assumption) | assumption) | (have e_ := (Kd.N_reads' HO_13.out).1; omega))
            obtain ⟨ua240_0, uc240_0, rfl, ul240_0, ge240_0⟩ := Kd.FK_slice_open hMe240
            have hv240_0 := hcc240 0 _ rfl
            rw [Nat.add_zero, show ((Kd.slice 61 (Kd.int .u64))).sz = 1 from rfl, Nat.mul_one] at hv240_0
            replace hv240_0 := Option.some.inj (hv240_0.symm.trans hx240_0)
            injection hv240_0 with hva_ hvn_ hvc_
            rw [hva_] at ge240_0
            rw [hvc_] at ul240_0
            have HL240_0 := Aside0.mk (show Kd.V (Kd.int .u64) 61 _ w.heap.size _ _ (rd_L2 x13_1 x18_2) from Kd.V_mk ul240_0 ge240_0)
            clear hva_ hvn_ hvc_ ge240_0 ul240_0
            clear hcc240 hce240
            have HR240_0 := Aside0.mk hi240_0
            have HC240_0 := Aside0.mk hl240_0
            clear hi240_0 hl240_0
            replace p240 := eq_true p240
            replace q240 := eq_true q240
            go_wp2_with (first | ((with_reducible refine gate_dst (N := 92) rfl ?_); refine Kd.N_lit (Kd.slice 61 (Kd.int .u64)) _ 47 ?hg (N' := 92) ?hd (xs := ([rd_L2 x13_1 x18_2] : List (List Int))) (inner := [.slice A240_0 (rd_L2 x13_1 x18_2).length c240_0]) (ok := (fun k_ => some k_ ≠ (.slice (some ad240) x13_1.length co27 : Value).ownBlock ∧ some k_ ≠ (u16 : Value).ownBlock)) (okp := (fun k_ => some k_ ≠ (.slice (some ad240) x13_1.length co27 : Value).ownBlock ∧ some k_ ≠ (u16 : Value).ownBlock)) ?hr ?hp (fun _ hk => hk) ((show ∀ k_, wr.heap.size ≤ k_ → (fun k_ => some k_ ≠ (.slice (some ad240) x13_1.length co27 : Value).ownBlock ∧ some k_ ≠ (u16 : Value).ownBlock) k_ from fun k_ hk => ⟨Kd.fresh' (Kd.N_lt (by (with_reducible repeat (first | apply Kd.N_alloc | apply Kd.N_drewN | apply Kd.N_drew)); exact HO_13.out)) k_ hk, Kd.fresh' (Kd.R_lt (by (with_reducible repeat (first | apply Kd.R_alloc | apply Kd.R_drewN | apply Kd.R_drew)); exact HO_16.out)) k_ hk⟩) _ (Nat.le_refl _)) (Below.refl _ _) (Nat.le_refl _) (by simp) ?_; (case hd => rfl); (case hg => rfl); (case hr => first | (go_simp; done) | (go_simp; rfl)); (case hp => exact (Reps.one (show Kd.FK (Kd.slice 61 (Kd.int .u64)) _ _ (rd_L2 x13_1 x18_2) [.slice A240_0 (rd_L2 x13_1 x18_2).length c240_0] from (Kd.FK_slice_mk (Kd.V_reads' (Kd.V_mono (ok' := (fun k_ => some k_ ≠ (.slice (some ad240) x13_1.length co27 : Value).ownBlock ∧ some k_ ≠ (u16 : Value).ownBlock)) (HL240_0.out) (fun k_ hk => ⟨hk.2, hk.1⟩))).2.1 (Kd.V_F (Kd.V_mono (ok' := (fun k_ => some k_ ≠ (.slice (some ad240) x13_1.length co27 : Value).ownBlock ∧ some k_ ≠ (u16 : Value).ownBlock)) (HL240_0.out) (fun k_ hk => ⟨hk.2, hk.1⟩))))) (Reps.none _ _))); intro v242 w32 ho33 hb hg_ hnew_; clear hg_ hnew_; (first | rw [← Ny241.out] at ho33 | (simp only [Int.reduceToNat] at ho33; rw [← Ny241.out] at ho33)); have n0_ := Aside0.mk (Kd.N_elder' (by (with_reducible repeat (first | apply Kd.N_alloc | apply Kd.N_drewN | apply Kd.N_drew)); exact HO_13.out) (Kd.N_base ho33) hb); have n1_ := Aside0.mk (Kd.R_below (by (with_reducible repeat (first | apply Kd.R_alloc | apply Kd.R_drewN | apply Kd.R_drew)); exact HO_16.out) hb); have n2_ := Aside0.mk (Kd.V_elder' (by (with_reducible repeat (first | apply Kd.V_alloc | apply Kd.V_drewN | apply Kd.V_drew)); exact HL240_0.out) (Kd.N_base ho33) hb); have n3_ := Aside0.mk (Kd.N_lower ho33 (below_size (by repeat (first | (with_reducible first | exact HB.out | apply below_alloc | apply pw_below_drewN | apply below_drew1) | exact HB.out)))); have n4_ := Aside0.mk (Kd.C_below (by repeat (first | (with_reducible exact HR240_0.out) | (with_reducible refine Kd.C_alloc ?_ _) | (with_reducible refine Kd.C_drewN ?_ _) | (with_reducible refine Kd.C_drew ?_) | exact HR240_0.out)) hb); have n5_ := Aside0.mk (below_step (by repeat (first | (with_reducible first | exact HB.out | apply below_alloc | apply pw_below_drewN | apply below_drew1) | exact HB.out)) hb); clear HO_13; clear HO_16; clear HL240_0; clear HR240_0; clear HB; have HO_13 := n0_; have HO_16 := n1_; have HL240_0 := n2_; have HO243 := n3_; have HR240_0 := n4_; have HB := n5_; clear n0_ n1_ n2_ n3_ n4_ n5_; clear hb ho33))
            go_loopg [21, 22] k2 (fun kq v21 v22 w' => ∃ (x21_3 : List (List Int)) (x22_3 : Int), v22 = .int .i64 x22_3 ∧ Aside0 (walk_Run_rest.l2 kq a0 l1 l2 a3 a4 x13_1 x16_2 x17_2 x18_2 (wrap64 (x18_2 * a3)) ji29 x21_3 x22_3 = some (r1, r2, r3)) ∧ Aside0 (kq ≤ k2) ∧ Aside0 (Kd.N (Kd.slice 61 (Kd.int .u64)) 47 w' w.heap.size (fun k_ => some k_ ≠ (u16 : Value).ownBlock ∧ some k_ ≠ (v21 : Value).ownBlock) (.slice (some ad240) x13_1.length co27) x13_1) ∧ Aside0 (Kd.R k29 29 w' w.heap.size (fun _ => True) u16 x16_2) ∧ Aside0 (Kd.N (Kd.slice 61 (Kd.int .u64)) 47 w' w.heap.size (fun k_ => some k_ ≠ ((.slice (some ad240) x13_1.length co27) : Value).ownBlock ∧ some k_ ≠ (u16 : Value).ownBlock) v21 x21_3) ∧ Aside0 (Below w.heap.size w w'))
            case atStart => exact ⟨(y241), (wrap64 (x18_2 * a3)), (by first | rfl | (simp; done) | (simp [*]; done)), H', ⟨Nat.le_refl _⟩, ⟨by (with_reducible repeat (first | apply Kd.N_alloc | apply Kd.N_drewN | apply Kd.N_drew)); exact HO_13.out⟩, ⟨by (with_reducible repeat (first | apply Kd.R_alloc | apply Kd.R_drewN | apply Kd.R_drew)); exact HO_16.out⟩, ⟨by (with_reducible repeat (first | apply Kd.N_alloc | apply Kd.N_drewN | apply Kd.N_drew)); exact HO243.out⟩, ⟨by repeat (first | (with_reducible first | exact HB.out | apply below_alloc | apply pw_below_drewN | apply below_drew1) | exact HB.out)⟩⟩
            case round =>
             clear H'
             try clear c1
             try clear c2
             try clear p2
             try clear q2
             try clear hx2
             try clear c3
             try clear p6
             try clear c8
             try clear c8b0
             try clear c9
             try clear c9b0
             try clear c10
             try clear c10b0
             try clear c11
             try clear c11b0
             try clear c11b1
             try clear c12
             try clear c12b0
             try clear c12b1
             try clear c13
             try clear p22
             try clear q22
             try clear hx22
             try clear c24
             try clear p24
             try clear q24
             try clear hx24
             try clear c25
             try clear c26
             try clear c28
             try clear c28b0
             try clear c30
             try clear c30b0
             try clear c31
             try clear c31b0
             try clear hx222_0
             try clear hx240_0
             try clear p2
             try clear p22
             try clear p222
             try clear p240
             try clear p6
             try clear q2
             try clear q22
             try clear q222
             try clear q240
             obtain ⟨x21_3, x22_3, rfl, HA, HK3, HO_13, HO_16, HO_21, HB⟩ := hrel
             cases gk with
             | zero => exact absurd HA.out (by simp [walk_Run_rest.l2])
             | succ k3 =>
              have H := HA.out
              clear HA
              simp only [walk_Run_rest.l2] at H
              by_cases c34 : x22_3 < ji29
              ·rw [if_pos c34] at H
               have c34b0 : decide (x22_3 < ji29) = true := decide_eq_true c34
               clear c34
               obtain ⟨ji35, hji35⟩ : ∃ j_ : Int, (wrap64 (x22_3 - (wrap64 (x18_2 * a3)))) = j_ := ⟨_, rfl⟩
               replace H : (if 0 ≤ (ji35) then (if (ji35) < (x21_3.length : Int) then (if 0 ≤ x22_3 then (if x22_3 < (l1.length : Int) then ((mask_Masks_Of.f k3 a4 (rd l1 x22_3)).bind fun t246 => ((walk_row.f k3 a0 (rd_L2 x21_3 (ji35)) t246 (l2.length : Int)).bind fun t249 => (if x21_3.length < 5864062014805 then (walk_Run_rest.l2 k3 a0 l1 l2 a3 a4 x13_1 x16_2 x17_2 x18_2 (wrap64 (x18_2 * a3)) ji29 (x21_3 ++ [t249]) (wrap64 (x22_3 + 1))) else (none)))) else (none)) else (none)) else (none)) else (none)) = some (r1, r2, r3) := by first | (rw [hji35] at H; exact H) | (simp only [hji35] at H ⊢; exact H)
               have hji35w : (IntKind.i64.wrap (x22_3 - (wrap64 (x18_2 * a3)))) = ji35 := (i64_w _).trans hji35
               by_cases c36 : 0 ≤ (ji35)
               ·rw [if_pos c36] at H
                have c36b0 : decide (0 ≤ (ji35)) = true := decide_eq_true c36
                clear c36
                by_cases c37 : (ji35) < (x21_3.length : Int)
                ·rw [if_pos c37] at H
                 have c37b0 : decide ((ji35) < (x21_3.length : Int)) = true := decide_eq_true c37
                 clear c37
                 by_cases c38 : 0 ≤ x22_3
                 ·rw [if_pos c38] at H
                  have c38b0 : decide (0 ≤ x22_3) = true := decide_eq_true c38
                  clear c38
                  by_cases c39 : x22_3 < (l1.length : Int)
                  ·rw [if_pos c39] at H
                   have c39b0 : decide (x22_3 < (l1.length : Int)) = true := decide_eq_true c39
                   clear c39
                   replace H := Option.bind_eq_some_iff.mp H
                   obtain ⟨t246, A400, H⟩ := H
                   replace H : ((walk_row.f k3 a0 (rd_L2 x21_3 (ji35)) t246 (l2.length : Int)).bind fun t249 => (if x21_3.length < 5864062014805 then (walk_Run_rest.l2 k3 a0 l1 l2 a3 a4 x13_1 x16_2 x17_2 x18_2 (wrap64 (x18_2 * a3)) ji29 (x21_3 ++ [t249]) (wrap64 (x22_3 + 1))) else (none))) = some (r1, r2, r3) := H
                   have A40 := Aside0.mk A400
                   clear A400
                   replace H := Option.bind_eq_some_iff.mp H
                   obtain ⟨t249, A410, H⟩ := H
                   replace H : (if x21_3.length < 5864062014805 then (walk_Run_rest.l2 k3 a0 l1 l2 a3 a4 x13_1 x16_2 x17_2 x18_2 (wrap64 (x18_2 * a3)) ji29 (x21_3 ++ [t249]) (wrap64 (x22_3 + 1))) else (none)) = some (r1, r2, r3) := H
                   have A41 := Aside0.mk A410
                   clear A410
                   by_cases c42 : x21_3.length < 5864062014805
                   ·rw [if_pos c42] at H
                    have LMc42 := Aside0.mk c42
                    clear c42
                    obtain ⟨y252, hy252⟩ : ∃ y_ : List (List Int), y_ = (x21_3 ++ [t249]) := ⟨_, rfl⟩
                    replace H : (walk_Run_rest.l2 k3 a0 l1 l2 a3 a4 x13_1 x16_2 x17_2 x18_2 (wrap64 (x18_2 * a3)) ji29 y252 (wrap64 (x22_3 + 1))) = some (r1, r2, r3) := by first | (rw [hy252]; with_reducible exact H) | (have H2_ := (Option.bind_some _ _).symm.trans H; rw [hy252]; with_reducible exact H2_) | (have H2_ := (Option.bind_some _ _).symm.trans H; with_reducible exact H2_) | with_reducible exact H | (rw [hy252]; exact H) | exact H
                    have Ny252 := Aside0.mk hy252
                    clear hy252
                    have H' := Aside0.mk H
                    clear H
                    try go_wp2
                    have n0_ := Aside0.mk (Kd.N_drew HO_13.out)
                    have n1_ := Aside0.mk (Kd.R_drew HO_16.out)
                    have n2_ := Aside0.mk (Kd.N_drew HO_21.out)
                    have n3_ := Aside0.mk (below_drew1 HB.out)
                    clear HO_13
                    clear HO_16
                    clear HO_21
                    clear HB
                    have HO_13 := n0_
                    have HO_16 := n1_
                    have HO_21 := n2_
                    have HB := n3_
                    clear n0_ n1_ n2_ n3_
                    obtain ⟨Ao44, co44, eo44⟩ := Kd.N_slice HO_21.out
                    (first | subst eo44 | (injection eo44 with f1_ f2_ f3_; have f4_ := f1_.symm; have f5_ := f3_.symm; clear f1_ f2_ f3_; subst f4_; subst f5_))
                    have p244 : 0 ≤ ((ji35) : Int) := of_decide_eq_true (by first | (with_reducible assumption) | assumption)
                    have q244 : (ji35) < (x21_3.length : Int) := of_decide_eq_true (by first | (with_reducible assumption) | assumption)
                    obtain ⟨ad244, A244_0, c244_0, e244, hx244_0, hl244_0, hi244_0⟩ := at_L2 (Kd.N_reads' HO_21.out).2.2 (ji35) p244 q244
                    cases e244
                    obtain ⟨ce244, hce244, hMe244, hcc244⟩ := Kd.N_get HO_21.out [] (ji35) p244 (by first | exact q244 | exact of_decide_eq_true (by first | (with_reducible assumption) | assumption) | (have e_ := (Kd.N_reads' HO_21.out).1; omega))
                    obtain ⟨ua244_0, uc244_0, rfl, ul244_0, ge244_0⟩ := Kd.FK_slice_open hMe244
                    have hv244_0 := hcc244 0 _ rfl
                    rw [Nat.add_zero, show ((Kd.slice 61 (Kd.int .u64))).sz = 1 from rfl, Nat.mul_one] at hv244_0
                    replace hv244_0 := Option.some.inj (hv244_0.symm.trans hx244_0)
                    injection hv244_0 with hva_ hvn_ hvc_
                    rw [hva_] at ge244_0
                    rw [hvc_] at ul244_0
                    have HL244_0 := Aside0.mk (show Kd.V (Kd.int .u64) 61 _ w.heap.size _ _ (rd_L2 x21_3 (ji35)) from Kd.V_mk ul244_0 ge244_0)
                    clear hva_ hvn_ hvc_ ge244_0 ul244_0
                    clear hcc244 hce244
                    have HR244_0 := Aside0.mk hi244_0
                    have HC244_0 := Aside0.mk hl244_0
                    clear hi244_0 hl244_0
                    replace p244 := eq_true p244
                    replace q244 := eq_true q244
                    have p245 : 0 ≤ (x22_3 : Int) := of_decide_eq_true (by first | (with_reducible assumption) | assumption)
                    have q245 : x22_3 < (l1.length : Int) := of_decide_eq_true (by first | (with_reducible assumption) | assumption)
                    obtain ⟨ad245, e245, hx245_0⟩ := Kd.at_int HR1.out x22_3 p245 q245
                    have hw245_0 := hx245_0
                    cases e245
                    replace hx245_0 := (HB.out.cell (World.block_lt_of_cell? w _ hx245_0)).trans hx245_0
                    replace p245 := eq_true p245
                    replace q245 := eq_true q245
                    refine start_ (n := 20) (S := fun w' => w'.cell? (ad244.add ((ji35)).toNat) = some (.slice A244_0 (rd_L2 x21_3 (ji35)).length c244_0) ∧ w'.cell? (ad245.add (x22_3).toNat) = some (.int .i64 (rd l1 x22_3))) (ds := [17, 18]) #[false, false, false, false, false, false, false, false, false, false, false, false, false, false, false, false, false, false, false, false] (by kernel_rfl) rfl rfl ⟨hx244_0, ((HB.out.cell (World.block_lt_of_cell? w _ hw245_0)).trans hw245_0)⟩ (fun hHeld => ?_); refine with_tabW walk_Run_rest.tab24 walk_Run_rest.bits24 (fun HT_ HW_ => ?_)
                    generalize wr.drew = w43 at HO_13 HO_16 HO_21 HB HL244_0 HR244_0 hx244_0 hx245_0 hHeld ⊢
                    refine pure_ (i := 0) (N := some 99) (v := ?_) (a' := ?_) #[true, false, false, false, false, false, false, false, false, false, false, false, false, false, false, false, false, false, false, false] rfl rfl (any_of HT_.out (by kernel_rfl)) (fun _ _ _ h => h) (Or.inl ⟨by rfl, ?_⟩) ?_ ?_
                    rotate_left
                    ·intro w'
                     go_simp
                     with_reducible rfl
                    rotate_left
                    ·simp only [Act.put, List.setIfInBounds_toArray, List.set_cons_zero, List.set_cons_succ, i64_w, i32_w]
                     rfl
                    refine pure_ (i := 1) (N := some 100) (v := ?_) (a' := ?_) #[true, true, false, false, false, false, false, false, false, false, false, false, false, false, false, false, false, false, false, false] rfl rfl (any_of HT_.out (by kernel_rfl)) (fun _ _ _ h => h) (Or.inl ⟨by rfl, ?_⟩) ?_ ?_
                    rotate_left
                    ·intro w'
                     go_simp
                     with_reducible rfl
                    rotate_left
                    ·simp only [Act.put, List.setIfInBounds_toArray, List.set_cons_zero, List.set_cons_succ, i64_w, i32_w]
                     rfl
                    refine pure_ (i := 2) (N := some 101) (v := ?_) (a' := ?_) #[true, true, true, false, false, false, false, false, false, false, false, false, false, false, false, false, false, false, false, false] rfl rfl (any_of HT_.out (by kernel_rfl)) (fun _ _ _ h => h) (Or.inl ⟨by rfl, ?_⟩) ?_ ?_
                    rotate_left
                    ·intro w'
                     go_simp
                     with_reducible rfl
                    rotate_left
                    ·simp only [Act.put, List.setIfInBounds_toArray, List.set_cons_zero, List.set_cons_succ, i64_w, i32_w]
                     rfl
                    refine pure_ (i := 3) (N := some 102) (v := ?_) (a' := ?_) #[true, true, true, true, false, false, false, false, false, false, false, false, false, false, false, false, false, false, false, false] rfl rfl (any_of HT_.out (by kernel_rfl)) (fun _ _ _ h => h) (Or.inl ⟨by rfl, ?_⟩) ?_ ?_
                    rotate_left
                    ·intro w'
                     go_simp
                     with_reducible rfl
                    rotate_left
                    ·simp only [Act.put, List.setIfInBounds_toArray, List.set_cons_zero, List.set_cons_succ, i64_w, i32_w]
                     rfl
                    refine pure_ (i := 4) (N := some 103) (v := ?_) (a' := ?_) #[true, true, true, true, true, false, false, false, false, false, false, false, false, false, false, false, false, false, false, false] rfl rfl (any_of HT_.out (by kernel_rfl)) (fun _ _ _ h => h) (Or.inl ⟨by rfl, ?_⟩) ?_ ?_
                    rotate_left
                    ·intro w'
                     go_simp
                     with_reducible rfl
                    rotate_left
                    ·simp only [Act.put, List.setIfInBounds_toArray, List.set_cons_zero, List.set_cons_succ, i64_w, i32_w]
                     rfl
                    refine pure_ (i := 5) (N := some 104) (v := ?_) (a' := ?_) #[true, true, true, true, true, true, false, false, false, false, false, false, false, false, false, false, false, false, false, false] rfl rfl (any_of HT_.out (by kernel_rfl)) (fun _ _ _ h => h) (Or.inl ⟨by rfl, ?_⟩) ?_ ?_
                    rotate_left
                    ·intro w'
                     go_simp
                     with_reducible rfl
                    rotate_left
                    ·simp only [Act.put, List.setIfInBounds_toArray, List.set_cons_zero, List.set_cons_succ, i64_w, i32_w]
                     rfl
                    refine pure_ (i := 6) (N := some 105) (v := ?_) (a' := ?_) #[true, true, true, true, true, true, true, false, false, false, false, false, false, false, false, false, false, false, false, false] rfl rfl (any_of HT_.out (by kernel_rfl)) (fun _ _ _ h => h) (Or.inl ⟨by rfl, ?_⟩) ?_ ?_
                    rotate_left
                    ·intro w'
                     go_simp
                     with_reducible rfl
                    rotate_left
                    ·simp only [Act.put, List.setIfInBounds_toArray, List.set_cons_zero, List.set_cons_succ, i64_w, i32_w]
                     rfl
                    refine pure_ (i := 8) (N := some 107) (v := ?_) (a' := ?_) #[true, true, true, true, true, true, true, false, true, false, false, false, false, false, false, false, false, false, false, false] rfl rfl (any_of HT_.out (by kernel_rfl)) (fun _ _ _ h => h) (Or.inl ⟨by rfl, ?_⟩) ?_ ?_
                    rotate_left
                    ·intro w'
                     go_simp
                     with_reducible rfl
                    rotate_left
                    ·simp only [Act.put, List.setIfInBounds_toArray, List.set_cons_zero, List.set_cons_succ, i64_w, i32_w]
                     rfl
                    refine pure_ (i := 9) (N := some 108) (v := ?_) (a' := ?_) #[true, true, true, true, true, true, true, false, true, true, false, false, false, false, false, false, false, false, false, false] rfl rfl (any_of HT_.out (by kernel_rfl)) (fun _ _ _ h => h) (Or.inl ⟨by rfl, ?_⟩) ?_ ?_
                    rotate_left
                    ·intro w'
                     go_simp
                     with_reducible rfl
                    rotate_left
                    ·simp only [Act.put, List.setIfInBounds_toArray, List.set_cons_zero, List.set_cons_succ, i64_w, i32_w]
                     rfl
                    refine pure_ (i := 10) (N := some 109) (v := ?_) (a' := ?_) #[true, true, true, true, true, true, true, false, true, true, true, false, false, false, false, false, false, false, false, false] rfl rfl (any_of HT_.out (by kernel_rfl)) (fun _ _ _ h => h) (Or.inl ⟨by rfl, ?_⟩) ?_ ?_
                    rotate_left
                    ·intro w'
                     go_simp
                     with_reducible rfl
                    rotate_left
                    ·simp only [Act.put, List.setIfInBounds_toArray, List.set_cons_zero, List.set_cons_succ, i64_w, i32_w]
                     rfl
                    refine pure_ (i := 11) (N := some 110) (v := ?_) (a' := ?_) #[true, true, true, true, true, true, true, false, true, true, true, true, false, false, false, false, false, false, false, false] rfl rfl (any_of HT_.out (by kernel_rfl)) (fun _ _ _ h => h) (Or.inl ⟨by rfl, ?_⟩) ?_ ?_
                    rotate_left
                    ·intro w'
                     go_simp
                     with_reducible rfl
                    rotate_left
                    ·simp only [Act.put, List.setIfInBounds_toArray, List.set_cons_zero, List.set_cons_succ, i64_w, i32_w]
                     rfl
                    refine pure_ (i := 14) (N := some 113) (v := ?_) (a' := ?_) #[true, true, true, true, true, true, true, false, true, true, true, true, false, false, true, false, false, false, false, false] rfl rfl (any_of HT_.out (by kernel_rfl)) (fun _ _ _ h => h) (Or.inl ⟨by rfl, ?_⟩) ?_ ?_
                    rotate_left
                    ·intro w'
                     go_simp
                     with_reducible rfl
                    rotate_left
                    ·simp only [Act.put, List.setIfInBounds_toArray, List.set_cons_zero, List.set_cons_succ, i64_w, i32_w]
                     rfl
                    refine pure_ (i := 15) (N := some 114) (v := ?_) (a' := ?_) #[true, true, true, true, true, true, true, false, true, true, true, true, false, false, true, true, false, false, false, false] rfl rfl (any_of HT_.out (by kernel_rfl)) (fun _ _ _ h => h) (Or.inl ⟨by rfl, ?_⟩) ?_ ?_
                    rotate_left
                    ·intro w'
                     go_simp
                     with_reducible rfl
                    rotate_left
                    ·simp only [Act.put, List.setIfInBounds_toArray, List.set_cons_zero, List.set_cons_succ, i64_w, i32_w]
                     rfl
                    refine take_ (i := 7) (N := some 106) (v := ?_) (a' := ?_) #[true, true, true, true, true, true, true, true, true, true, true, true, false, false, true, true, false, false, false, false] rfl rfl (take_ofW HT_.out HW_.out (by kernel_rfl)) (fun _ _ _ h => h) (Or.inl ⟨by rfl, ?_⟩) hHeld ?_ ?_
                    rotate_left
                    ·rintro w' ⟨s0, s1⟩
                     go_simp
                     with_reducible rfl
                    rotate_left
                    ·simp only [Act.put, List.setIfInBounds_toArray, List.set_cons_zero, List.set_cons_succ, i64_w, i32_w]
                     rfl
                    refine take_ (i := 12) (N := some 111) (v := ?_) (a' := ?_) #[true, true, true, true, true, true, true, true, true, true, true, true, true, false, true, true, false, false, false, false] rfl rfl (take_ofW HT_.out HW_.out (by kernel_rfl)) (fun _ _ _ h => h) (Or.inl ⟨by rfl, ?_⟩) hHeld ?_ ?_
                    rotate_left
                    ·rintro w' ⟨s0, s1⟩
                     go_simp
                     with_reducible rfl
                    rotate_left
                    ·simp only [Act.put, List.setIfInBounds_toArray, List.set_cons_zero, List.set_cons_succ, i64_w, i32_w]
                     rfl
                    refine one_ (i := 13) (N := some 112) #[true, true, true, true, true, true, true, true, true, true, true, true, true, true, true, true, false, false, false, false] rfl rfl (one_of HT_.out (by kernel_rfl)) (by decide) (fun K hK => ?_)
                    refine goes_ Try.func26 (by kernel_rfl) rfl #[.pointer (some ⟨gm_, 0, none⟩), .int .i64 (rd l1 x22_3)] (by rfl) rfl rfl (by (try simp only [List.map_toArray, List.map_cons, List.map_nil]); first | done | rfl | (simp only [List.length_drop, List.length_take]; rfl)) ?_
                    with_reducible refine (mask_Masks_Of.calls k3 a4 (rd l1 x22_3) t246 _ ?side1 A40.out).mono ?_
                    (case side1 => exact GM_below HM.out (by repeat (first | (with_reducible first | exact HB.out | apply below_alloc | apply pw_below_drewN | apply below_drew1) | exact HB.out)))
                    rintro e w45 ⟨v247, rfl, ho0, hb⟩
                    have HS0_ := (hb.cell (World.block_lt_of_cell? _ _ (hHeld.1))).trans (hHeld.1)
                    refine ⟨_, rfl, ?_⟩
                    have n0_ := Aside0.mk (Kd.N_elder' (by (with_reducible repeat (first | apply Kd.N_alloc | apply Kd.N_drewN | apply Kd.N_drew)); exact HO_13.out) (Kd.R_base ho0) hb)
                    have n1_ := Aside0.mk (Kd.R_below (by (with_reducible repeat (first | apply Kd.R_alloc | apply Kd.R_drewN | apply Kd.R_drew)); exact HO_16.out) hb)
                    have n2_ := Aside0.mk (Kd.N_elder' (by (with_reducible repeat (first | apply Kd.N_alloc | apply Kd.N_drewN | apply Kd.N_drew)); exact HO_21.out) (Kd.R_base ho0) hb)
                    have n3_ := Aside0.mk (Kd.V_elder' (by (with_reducible repeat (first | apply Kd.V_alloc | apply Kd.V_drewN | apply Kd.V_drew)); exact HL244_0.out) (Kd.R_base ho0) hb)
                    have n4_ := Aside0.mk (Kd.R_lower ho0 (below_size (by repeat (first | (with_reducible first | exact HB.out | apply below_alloc | apply pw_below_drewN | apply below_drew1) | exact HB.out))))
                    have n5_ := Aside0.mk (Kd.C_below (by repeat (first | (with_reducible exact HR244_0.out) | (with_reducible refine Kd.C_alloc ?_ _) | (with_reducible refine Kd.C_drewN ?_ _) | (with_reducible refine Kd.C_drew ?_) | exact HR244_0.out)) hb)
                    have n6_ := Aside0.mk (below_step (by repeat (first | (with_reducible first | exact HB.out | apply below_alloc | apply pw_below_drewN | apply below_drew1) | exact HB.out)) hb)
                    clear HO_13
                    clear HO_16
                    clear HO_21
                    clear HL244_0
                    clear HR244_0
                    clear HB
                    have HO_13 := n0_
                    have HO_16 := n1_
                    have HO_21 := n2_
                    have HL244_0 := n3_
                    have HO248 := n4_
                    have HR244_0 := n5_
                    have HB := n6_
                    clear n0_ n1_ n2_ n3_ n4_ n5_ n6_
                    (try clear hb)
                    (try clear hb2)
                    (try clear hk)
                    (try clear hi)
                    (try clear ho0)
                    obtain ⟨Ao46, co46, eo46⟩ := Kd.R_slice HO248.out
                    (first | subst eo46 | (injection eo46 with f1_ f2_ f3_; have f4_ := f1_.symm; have f5_ := f3_.symm; clear f1_ f2_ f3_; subst f4_; subst f5_))
                    refine hK.out _ _ ⟨HS0_, ((HB.out.cell (World.block_lt_of_cell? w _ hw245_0)).trans hw245_0)⟩ (fun hHeld => ?_)
                    clear hK K
                    refine norm_ (a' := ?_) ?_ ?_
                    rotate_left
                    ·show Act.put _ (some 112) _ = _
                     simp only [Act.put, List.setIfInBounds_toArray, List.set_cons_zero, List.set_cons_succ, i64_w, i32_w]
                     rfl
                    refine one_ (i := 16) (N := some 115) #[true, true, true, true, true, true, true, true, true, true, true, true, true, true, true, true, true, false, false, false] rfl rfl (one_of HT_.out (by kernel_rfl)) (by decide) (fun K hK => ?_)
                    refine goes_ Try.func25 (by kernel_rfl) rfl #[.int .i64 a0, .slice A244_0 (rd_L2 x21_3 (ji35)).length c244_0, .slice Ao46 t246.length co46, .int .i64 (l2.length : Int)] (by rfl) rfl rfl (by (try simp only [List.map_toArray, List.map_cons, List.map_nil]); first | done | (simp only [hji35]; rfl) | rfl | (simp only [List.length_drop, List.length_take]; rfl)) ?_
                    with_reducible refine (walk_row.calls k3 a0 _ _ (rd_L2 x21_3 (ji35)) _ _ t246 (l2.length : Int) t249 _ ?side1 ?side2 ?side3 ?side4 A41.out).mono ?_
                    (case side1 => repeat (first | exact (by repeat (first | (with_reducible exact HR244_0.out) | (with_reducible refine Kd.C_alloc ?_ _) | (with_reducible refine Kd.C_drewN ?_ _) | (with_reducible refine Kd.C_drew ?_) | exact HR244_0.out)) | (with_reducible refine Kd.C_alloc ?_ _) | (with_reducible refine Kd.C_drewN ?_ _) | (with_reducible refine Kd.C_drew ?_)))
                    (case side2 => exact HC244_0.out)
                    (case side3 => repeat (first | exact (Kd.R_reads' HO248.out).2.2 | (with_reducible refine Kd.C_alloc ?_ _) | (with_reducible refine Kd.C_drewN ?_ _) | (with_reducible refine Kd.C_drew ?_)))
                    (case side4 => exact (Kd.R_reads' HO248.out).2.1)
                    rintro e w47 ⟨v250, rfl, ho0, hb⟩
                    have HS0_ := (hb.cell (World.block_lt_of_cell? _ _ (hHeld.1))).trans (hHeld.1)
                    refine ⟨_, rfl, ?_⟩
                    have n0_ := Aside0.mk (Kd.N_elder' (by (with_reducible repeat (first | apply Kd.N_alloc | apply Kd.N_drewN | apply Kd.N_drew)); exact HO_13.out) (Kd.R_base ho0) hb)
                    have n1_ := Aside0.mk (Kd.R_below (by (with_reducible repeat (first | apply Kd.R_alloc | apply Kd.R_drewN | apply Kd.R_drew)); exact HO_16.out) hb)
                    have n2_ := Aside0.mk (Kd.N_elder' (by (with_reducible repeat (first | apply Kd.N_alloc | apply Kd.N_drewN | apply Kd.N_drew)); exact HO_21.out) (Kd.R_base ho0) hb)
                    have n3_ := Aside0.mk (Kd.V_elder' (by (with_reducible repeat (first | apply Kd.V_alloc | apply Kd.V_drewN | apply Kd.V_drew)); exact HL244_0.out) (Kd.R_base ho0) hb)
                    have n4_ := Aside0.mk (Kd.R_elder' (by (with_reducible repeat (first | apply Kd.R_alloc | apply Kd.R_drewN | apply Kd.R_drew)); exact HO248.out) (Kd.R_base ho0) hb)
                    have n5_ := Aside0.mk (Kd.R_lower (Kd.R_new' ho0 (Kd.R_lt (by (with_reducible repeat (first | apply Kd.R_alloc | apply Kd.R_drewN | apply Kd.R_drew)); exact HO248.out))) (below_size (by repeat (first | (with_reducible first | exact HB.out | apply below_alloc | apply pw_below_drewN | apply below_drew1) | exact HB.out))))
                    have n6_ := Aside0.mk (Kd.C_below (by repeat (first | (with_reducible exact HR244_0.out) | (with_reducible refine Kd.C_alloc ?_ _) | (with_reducible refine Kd.C_drewN ?_ _) | (with_reducible refine Kd.C_drew ?_) | exact HR244_0.out)) hb)
                    have n7_ := Aside0.mk (below_step (by repeat (first | (with_reducible first | exact HB.out | apply below_alloc | apply pw_below_drewN | apply below_drew1) | exact HB.out)) hb)
                    clear HO_13
                    clear HO_16
                    clear HO_21
                    clear HL244_0
                    clear HO248
                    clear HR244_0
                    clear HB
                    have HO_13 := n0_
                    have HO_16 := n1_
                    have HO_21 := n2_
                    have HL244_0 := n3_
                    have HO248 := n4_
                    have HO251 := n5_
                    have HR244_0 := n6_
                    have HB := n7_
                    clear n0_ n1_ n2_ n3_ n4_ n5_ n6_ n7_
                    (try clear hb)
                    (try clear hb2)
                    (try clear hk)
                    (try clear hi)
                    (try clear ho0)
                    obtain ⟨Ao49, co49, eo49⟩ := Kd.R_slice HO251.out
                    (first | subst eo49 | (injection eo49 with f1_ f2_ f3_; have f4_ := f1_.symm; have f5_ := f3_.symm; clear f1_ f2_ f3_; subst f4_; subst f5_))
                    refine hK.out _ _ ⟨HS0_, ((HB.out.cell (World.block_lt_of_cell? w _ hw245_0)).trans hw245_0)⟩ (fun hHeld => ?_)
                    clear hK K
                    refine norm_ (a' := ?_) ?_ ?_
                    rotate_left
                    ·show Act.put _ (some 115) _ = _
                     simp only [Act.put, List.setIfInBounds_toArray, List.set_cons_zero, List.set_cons_succ, i64_w, i32_w]
                     rfl
                    refine last_ (i := 17) (N := some 116) #[true, true, true, true, true, true, true, true, true, true, true, true, true, true, true, true, true, true, false, false] rfl rfl (one_of HT_.out (by kernel_rfl)) (by decide) (fun K hK => ?_)
                    refine value_ (w1 := ?_) (v := ?_) (by rfl) rfl ?_ ?_
                    rotate_left 2
                    ·go_simp
                     constructor
                     ·rfl
                     ·rfl
                    refine hK.out _ _ ?_
                    clear hK K
                    refine norm_ (a' := ?_) ?_ ?_
                    rotate_left
                    ·show Act.put _ (some 116) _ = _
                     simp only [Act.put, List.setIfInBounds_toArray, List.set_cons_zero, List.set_cons_succ, i64_w, i32_w]
                     rfl
                    refine last_ (i := 18) (N := some 117) #[true, true, true, true, true, true, true, true, true, true, true, true, true, true, true, true, true, true, true, false] rfl rfl (one_of HT_.out (by kernel_rfl)) (by decide) (fun K hK => ?_)
                    refine Kd.N_append_step (Kd.slice 61 (Kd.int .u64)) (w0 := w) w.heap.size (by rfl) (.tmp 99) (.tmp 116) 49 47 (.slice none 0 0) 24 rfl Try.underlying49 info47 rfl (by decide) (by omega) (.slice (some ad244) x21_3.length co44) x21_3 t249 [.slice Ao49 t249.length co49] (fun k_ => some k_ ≠ (.slice (some ad240) x13_1.length co27 : Value).ownBlock ∧ some k_ ≠ (u16 : Value).ownBlock ∧ some k_ ≠ (.slice Ao46 t246.length co46 : Value).ownBlock) (fun k_ => ((fun k_ => some k_ ≠ (.slice (some ad240) x13_1.length co27 : Value).ownBlock ∧ some k_ ≠ (u16 : Value).ownBlock ∧ some k_ ≠ (.slice Ao46 t246.length co46 : Value).ownBlock)) k_ ∧ some k_ ≠ (.slice (some ad244) x21_3.length co44 : Value).ownBlock) rfl rfl ?aP (fun _ hk => hk) ?aF ?aO ?aB ?aS ?aL ?_
                    (case aP => exact (Kd.FK_slice_mk (Kd.R_reads' (Kd.R_mono (ok' := (fun k_ => ((fun k_ => some k_ ≠ (.slice (some ad240) x13_1.length co27 : Value).ownBlock ∧ some k_ ≠ (u16 : Value).ownBlock ∧ some k_ ≠ (.slice Ao46 t246.length co46 : Value).ownBlock)) k_ ∧ some k_ ≠ (.slice (some ad244) x21_3.length co44 : Value).ownBlock)) (Kd.R_apart' (Kd.R_apart' (Kd.R_apart' (HO251.out) (Kd.N_typed HO_13.out) (by decide)) (Kd.R_typed HO_16.out) (by decide)) (Kd.N_typed HO_21.out) (by decide)) (fun k_ hk => ⟨⟨hk.1.1.2, ⟨hk.1.2, hk.1.1.1.2⟩⟩, hk.2⟩))).2.1 (Kd.R_F (Kd.R_mono (ok' := (fun k_ => ((fun k_ => some k_ ≠ (.slice (some ad240) x13_1.length co27 : Value).ownBlock ∧ some k_ ≠ (u16 : Value).ownBlock ∧ some k_ ≠ (.slice Ao46 t246.length co46 : Value).ownBlock)) k_ ∧ some k_ ≠ (.slice (some ad244) x21_3.length co44 : Value).ownBlock)) (Kd.R_apart' (Kd.R_apart' (Kd.R_apart' (HO251.out) (Kd.N_typed HO_13.out) (by decide)) (Kd.R_typed HO_16.out) (by decide)) (Kd.N_typed HO_21.out) (by decide)) (fun k_ hk => ⟨⟨hk.1.1.2, ⟨hk.1.2, hk.1.1.1.2⟩⟩, hk.2⟩)))))
                    (case aB => exact (by repeat (first | (with_reducible first | exact HB.out | apply below_alloc | apply pw_below_drewN | apply below_drew1) | exact HB.out)))
                    (case aF => exact (fun k_ hk => ⟨Kd.fresh' (Kd.N_lt (by (with_reducible repeat (first | apply Kd.N_alloc | apply Kd.N_drewN | apply Kd.N_drew)); exact HO_13.out)) k_ hk, Kd.fresh' (Kd.R_lt (by (with_reducible repeat (first | apply Kd.R_alloc | apply Kd.R_drewN | apply Kd.R_drew)); exact HO_16.out)) k_ hk, Kd.fresh' (Kd.R_lt (by (with_reducible repeat (first | apply Kd.R_alloc | apply Kd.R_drewN | apply Kd.R_drew)); exact HO248.out)) k_ hk⟩))
                    (case aO => exact (by (with_reducible repeat (first | apply Kd.N_alloc | apply Kd.N_drewN | apply Kd.N_drew)); exact Kd.N_mono HO_21.out (fun _ hk => ⟨hk.1.1.1, ⟨hk.1.1.2, hk.1.2⟩⟩)))
                    (case aS => exact (below_size (by repeat (first | (with_reducible first | exact HB.out | apply below_alloc | apply pw_below_drewN | apply below_drew1) | exact HB.out))))
                    (case aL => have := LMc42.out; omega)
                    intro v253 w48 ho hb hg hat
                    rw [← Ny252.out] at ho
                    have n0_ := Aside0.mk (Kd.N_afterv (ok := (fun k_ => some k_ ≠ (u16 : Value).ownBlock ∧ some k_ ≠ (.slice Ao46 t246.length co46 : Value).ownBlock ∧ some k_ ≠ (.slice Ao49 t249.length co49 : Value).ownBlock)) (by (with_reducible repeat (first | apply Kd.N_alloc | apply Kd.N_drewN | apply Kd.N_drew)); exact Kd.N_mono HO_13.out (fun _ hk => ⟨⟨hk.1.1.1, ⟨hk.1.2, hk.2⟩⟩, hk.1.1.2⟩)) hg hat)
                    have n1_ := Aside0.mk (Kd.R_over' (by (with_reducible repeat (first | apply Kd.R_alloc | apply Kd.R_drewN | apply Kd.R_drew)); exact HO_16.out) (Kd.N_typed (by (with_reducible repeat (first | apply Kd.N_alloc | apply Kd.N_drewN | apply Kd.N_drew)); exact HO_21.out)) (by decide) hg)
                    have n2_ := Aside0.mk (Kd.V_afterv (ok := (fun k_ => some k_ ≠ (.slice (some ad240) x13_1.length co27 : Value).ownBlock ∧ some k_ ≠ (u16 : Value).ownBlock ∧ some k_ ≠ (.slice Ao46 t246.length co46 : Value).ownBlock ∧ some k_ ≠ (.slice Ao49 t249.length co49 : Value).ownBlock)) (by (with_reducible repeat (first | apply Kd.V_alloc | apply Kd.V_drewN | apply Kd.V_drew)); exact Kd.V_mono HL244_0.out (by first | exact (fun _ hk => ⟨⟨hk.1.1.1.1, ⟨hk.1.1.1.2, ⟨hk.1.2, hk.2⟩⟩⟩, hk.1.1.2⟩) | (intro _ hk; (repeat' apply And.intro); all_goals (with_reducible first | exact hk.1 | exact hk.2 | exact hk.1.1 | exact hk.1.2 | exact hk.2.1 | exact hk.2.2 | exact hk.1.1.1 | exact hk.1.1.2 | exact hk.1.2.1 | exact hk.1.2.2 | exact hk.2.1.1 | exact hk.2.1.2 | exact hk.2.2.1 | exact hk.2.2.2)))) hg hat)
                    have n3_ := Aside0.mk (Kd.R_over' (by (with_reducible repeat (first | apply Kd.R_alloc | apply Kd.R_drewN | apply Kd.R_drew)); exact HO248.out) (Kd.N_typed (by (with_reducible repeat (first | apply Kd.N_alloc | apply Kd.N_drewN | apply Kd.N_drew)); exact HO_21.out)) (by decide) hg)
                    have n4_ := Aside0.mk (hb)
                    have n5_ := Aside0.mk (ho)
                    clear HO_13
                    clear HO_16
                    clear HL244_0
                    clear HO248
                    clear HB
                    clear HO_21
                    clear HO251
                    have HO_13 := n0_
                    have HO_16 := n1_
                    have HL244_0 := n2_
                    have HO248 := n3_
                    have HB := n4_
                    have HO254 := n5_
                    clear n0_ n1_ n2_ n3_ n4_ n5_
                    clear ho hb hg hat
                    refine hK.out _ _ ?_
                    clear hK K
                    refine norm_ (a' := ?_) ?_ ?_
                    rotate_left
                    ·show Act.put _ (some 117) _ = _
                     simp only [Act.put, List.setIfInBounds_toArray, List.set_cons_zero, List.set_cons_succ, i64_w, i32_w]
                     rfl
                    refine pure_ (i := 19) (N := some 21) (v := ?_) (a' := ?_) #[true, true, true, true, true, true, true, true, true, true, true, true, true, true, true, true, true, true, true, true] rfl rfl (any_of HT_.out (by kernel_rfl)) (fun _ _ _ h => h) (Or.inl ⟨by rfl, ?_⟩) ?_ ?_
                    rotate_left
                    ·intro w'
                     go_simp
                     with_reducible rfl
                    rotate_left
                    ·simp only [Act.put, List.setIfInBounds_toArray, List.set_cons_zero, List.set_cons_succ, i64_w, i32_w]
                     rfl
                    refine done_ (done_of HT_.out (by kernel_rfl)) ?_
                    try go_wp2
                    go_roundg k3
                    case measure => have := HK1.out; have := HK2.out; have := HK3.out; omega
                    case rel => exact ⟨(y252), (wrap64 (x22_3 + 1)), (by first | rfl | (simp; done) | (simp [*]; done)), H', ⟨by have := HK1.out; have := HK2.out; have := HK3.out; omega⟩, ⟨by (with_reducible repeat (first | apply Kd.N_alloc | apply Kd.N_drewN | apply Kd.N_drew)); exact Kd.N_mono HO_13.out (fun _ hk => ⟨hk.1.1, hk.2⟩)⟩, ⟨by (with_reducible repeat (first | apply Kd.R_alloc | apply Kd.R_drewN | apply Kd.R_drew)); exact HO_16.out⟩, ⟨by (with_reducible repeat (first | apply Kd.N_alloc | apply Kd.N_drewN | apply Kd.N_drew)); exact Kd.N_mono HO254.out (fun _ hk => ⟨hk.1, hk.2.1⟩)⟩, ⟨by repeat (first | (with_reducible first | exact HB.out | apply below_alloc | apply pw_below_drewN | apply below_drew1) | exact HB.out)⟩⟩
                   ·rw [if_neg c42] at H
                    exact absurd H (by simp)
                  ·rw [if_neg c39] at H
                   exact absurd H (by simp)
                 ·rw [if_neg c38] at H
                  exact absurd H (by simp)
                ·rw [if_neg c37] at H
                 exact absurd H (by simp)
               ·rw [if_neg c36] at H
                exact absurd H (by simp)
              ·rw [if_neg c34] at H
               have c34b0 : decide (x22_3 < ji29) = false := decide_eq_false c34
               clear c34
               have H' := Aside0.mk H
               clear H
               go_wp2
               go_loopg [16, 17, 23] k3 (fun kq v16 v17 v23 w' => ∃ (x16_4 : List (S29)) (x17_4 : Int) (x23_4 : Int), v17 = .int .i64 x17_4 ∧ v23 = .int .i64 x23_4 ∧ Aside0 (walk_Run_rest.l3 kq a0 l1 l2 a3 a4 x13_1 x16_4 x17_4 x18_2 (wrap64 (x18_2 * a3)) x21_3 x23_4 = some (r1, r2, r3)) ∧ Aside0 (kq ≤ k3) ∧ Aside0 (Kd.N (Kd.slice 61 (Kd.int .u64)) 47 w' w.heap.size (fun k_ => some k_ ≠ (v16 : Value).ownBlock ∧ some k_ ≠ (u21 : Value).ownBlock) (.slice (some ad240) x13_1.length co27) x13_1) ∧ Aside0 (Kd.R k29 29 w' w.heap.size (fun _ => True) v16 x16_4) ∧ Aside0 (Kd.N (Kd.slice 61 (Kd.int .u64)) 47 w' w.heap.size (fun k_ => some k_ ≠ ((.slice (some ad240) x13_1.length co27) : Value).ownBlock ∧ some k_ ≠ (v16 : Value).ownBlock) u21 x21_3) ∧ Aside0 (Below w.heap.size w w'))
               case atStart => exact ⟨(x16_2), (x17_2), (ji29), (by first | rfl | (simp; done) | (simp [*]; done)), (by first | rfl | (simp; done) | (simp only [← hji29] <;> (first | rfl | simp)) | (simp [*]; done)), H', ⟨Nat.le_refl _⟩, ⟨by (with_reducible repeat (first | apply Kd.N_alloc | apply Kd.N_drewN | apply Kd.N_drew)); exact HO_13.out⟩, ⟨by (with_reducible repeat (first | apply Kd.R_alloc | apply Kd.R_drewN | apply Kd.R_drew)); exact HO_16.out⟩, ⟨by (with_reducible repeat (first | apply Kd.N_alloc | apply Kd.N_drewN | apply Kd.N_drew)); exact HO_21.out⟩, ⟨by repeat (first | (with_reducible first | exact HB.out | apply below_alloc | apply pw_below_drewN | apply below_drew1) | exact HB.out)⟩⟩
               case round =>
                clear H'
                try clear c1
                try clear c2
                try clear p2
                try clear q2
                try clear hx2
                try clear c3
                try clear c4
                try clear p6
                try clear c8
                try clear c8b0
                try clear c9
                try clear c9b0
                try clear c10
                try clear c10b0
                try clear c11
                try clear c11b0
                try clear c11b1
                try clear c12
                try clear c12b0
                try clear c12b1
                try clear c13
                try clear p22
                try clear q22
                try clear hx22
                try clear c24
                try clear p24
                try clear q24
                try clear hx24
                try clear c25
                try clear c26
                try clear c28
                try clear c28b0
                try clear c30
                try clear c30b0
                try clear c31
                try clear c31b0
                try clear c34
                try clear c34b0
                try clear c36
                try clear c36b0
                try clear c37
                try clear c37b0
                try clear c38
                try clear c38b0
                try clear c39
                try clear c39b0
                try clear c42
                try clear hx222_0
                try clear hx240_0
                try clear hx244_0
                try clear hx245_0
                try clear p2
                try clear p22
                try clear p222
                try clear p24
                try clear p240
                try clear p244
                try clear p245
                try clear p6
                try clear q2
                try clear q22
                try clear q222
                try clear q24
                try clear q240
                try clear q244
                try clear q245
                obtain ⟨x16_4, x17_4, x23_4, rfl, rfl, HA, HK4, HO_13, HO_16, HO_21, HB⟩ := hrel
                cases gk with
                | zero => exact absurd HA.out (by simp [walk_Run_rest.l3])
                | succ k4 =>
                 have H := HA.out
                 clear HA
                 simp only [walk_Run_rest.l3] at H
                 have HC50 := Aside0.mk H
                 clear H
                 go_upto_region 26 with (fail)
                 go_cut [125] (fun v125 wc => ∃ (kq : Nat) (x125_49 : Bool), v125 = .bool x125_49 ∧ Aside0 (walk_Run_rest.j4 kq a0 l1 l2 a3 a4 x13_1 x16_4 x17_4 x18_2 (wrap64 (x18_2 * a3)) x21_3 x23_4 x125_49 = some (r1, r2, r3)) ∧ Aside0 (kq ≤ k4) ∧ Aside0 (Kd.N (Kd.slice 61 (Kd.int .u64)) 47 wc w.heap.size (fun k_ => some k_ ≠ (u16 : Value).ownBlock ∧ some k_ ≠ (u21 : Value).ownBlock) (.slice (some ad240) x13_1.length co27) x13_1) ∧ Aside0 (Kd.R k29 29 wc w.heap.size (fun _ => True) u16 x16_4) ∧ Aside0 (Kd.N (Kd.slice 61 (Kd.int .u64)) 47 wc w.heap.size (fun k_ => some k_ ≠ ((.slice (some ad240) x13_1.length co27) : Value).ownBlock ∧ some k_ ≠ (u16 : Value).ownBlock) u21 x21_3) ∧ Aside0 (Below w.heap.size w wc))
                 case first =>
                  have H := HC50.out
                  clear HC50
                  by_cases c51 : x23_4 > (wrap64 (x18_2 * a3))
                  ·rw [if_pos c51] at H
                   have c51b0 : decide ((wrap64 (x18_2 * a3)) < x23_4) = true := decide_eq_true c51
                   clear c51
                   (first | rw [c51b0] | (simp only [i64_w, i32_w]; rw [c51b0]) | skip)
                   have H' := Aside0.mk H
                   clear H
                   go_wp2
                   go_meet
                   case rel => exact ⟨_, (decide (x17_4 > 0)), (by first | rfl | (simp; done) | (simp [*]; done)), H', ⟨by have := HK1.out; have := HK2.out; have := HK3.out; have := HK4.out; first | omega | exact Nat.le_refl _⟩, ⟨by (with_reducible repeat (first | apply Kd.N_alloc | apply Kd.N_drewN | apply Kd.N_drew)); exact HO_13.out⟩, ⟨by (with_reducible repeat (first | apply Kd.R_alloc | apply Kd.R_drewN | apply Kd.R_drew)); exact HO_16.out⟩, ⟨by (with_reducible repeat (first | apply Kd.N_alloc | apply Kd.N_drewN | apply Kd.N_drew)); exact HO_21.out⟩, ⟨by repeat (first | (with_reducible first | exact HB.out | apply below_alloc | apply pw_below_drewN | apply below_drew1) | exact HB.out)⟩⟩
                  ·rw [if_neg c51] at H
                   have c51b0 : decide ((wrap64 (x18_2 * a3)) < x23_4) = false := decide_eq_false c51
                   clear c51
                   (first | rw [c51b0] | (simp only [i64_w, i32_w]; rw [c51b0]) | skip)
                   have H' := Aside0.mk H
                   clear H
                   go_wp2
                   go_meet
                   case rel => exact ⟨_, (false), (by first | rfl | (simp; done) | (simp [*]; done)), H', ⟨by have := HK1.out; have := HK2.out; have := HK3.out; have := HK4.out; first | omega | exact Nat.le_refl _⟩, ⟨by (with_reducible repeat (first | apply Kd.N_alloc | apply Kd.N_drewN | apply Kd.N_drew)); exact HO_13.out⟩, ⟨by (with_reducible repeat (first | apply Kd.R_alloc | apply Kd.R_drewN | apply Kd.R_drew)); exact HO_16.out⟩, ⟨by (with_reducible repeat (first | apply Kd.N_alloc | apply Kd.N_drewN | apply Kd.N_drew)); exact HO_21.out⟩, ⟨by repeat (first | (with_reducible first | exact HB.out | apply below_alloc | apply pw_below_drewN | apply below_drew1) | exact HB.out)⟩⟩
                 case rest =>
                  clear HC50
                  try clear c1
                  try clear c2
                  try clear p2
                  try clear q2
                  try clear hx2
                  try clear c3
                  try clear c4
                  try clear c5
                  try clear p6
                  try clear c8
                  try clear c8b0
                  try clear c9
                  try clear c9b0
                  try clear c10
                  try clear c10b0
                  try clear c11
                  try clear c11b0
                  try clear c11b1
                  try clear c12
                  try clear c12b0
                  try clear c12b1
                  try clear c13
                  try clear p22
                  try clear q22
                  try clear hx22
                  try clear c24
                  try clear p24
                  try clear q24
                  try clear hx24
                  try clear c25
                  try clear c26
                  try clear c28
                  try clear c28b0
                  try clear c30
                  try clear c30b0
                  try clear c31
                  try clear c31b0
                  try clear c34
                  try clear c34b0
                  try clear c36
                  try clear c36b0
                  try clear c37
                  try clear c37b0
                  try clear c38
                  try clear c38b0
                  try clear c39
                  try clear c39b0
                  try clear c42
                  try clear c51
                  try clear c51b0
                  try clear hx222_0
                  try clear hx240_0
                  try clear hx244_0
                  try clear hx245_0
                  try clear p2
                  try clear p22
                  try clear p222
                  try clear p24
                  try clear p240
                  try clear p244
                  try clear p245
                  try clear p6
                  try clear q2
                  try clear q22
                  try clear q222
                  try clear q24
                  try clear q240
                  try clear q244
                  try clear q245
                  obtain ⟨kq, x125_49, rfl, HA, HJ49, HO_13, HO_16, HO_21, HB⟩ := hcut
                  cases kq with
                  | zero => exact absurd HA.out (by simp [walk_Run_rest.j4])
                  | succ kj49 =>
                   have H := HA.out
                   clear HA
                   simp only [walk_Run_rest.j4] at H
                   by_cases c52 : x125_49 = true
                   ·subst c52
                    have H1 : (if 0 ≤ (wrap64 (x23_4 - (wrap64 (x18_2 * a3)))) then (if (wrap64 (x23_4 - (wrap64 (x18_2 * a3)))) < (x21_3.length : Int) then ((vec_Get.f (rd_L2 x21_3 (wrap64 (x23_4 - (wrap64 (x18_2 * a3))))) (wrap64 (x17_4 - 1))).bind fun t256 => (if t256 = true then (walk_Run_rest.l3 kj49 a0 l1 l2 a3 a4 x13_1 x16_4 (wrap64 (x17_4 - 1)) x18_2 (wrap64 (x18_2 * a3)) x21_3 x23_4) else (if 0 ≤ (wrap64 (x23_4 - 1)) then (if (wrap64 (x23_4 - 1)) < (l1.length : Int) then (if 0 ≤ (wrap64 (x17_4 - 1)) then (if (wrap64 (x17_4 - 1)) < (l2.length : Int) then (if (rd l1 (wrap64 (x23_4 - 1))) = (rd l2 (wrap64 (x17_4 - 1))) then (if x16_4.length < 8796093022208 then (walk_Run_rest.l3 kj49 a0 l1 l2 a3 a4 x13_1 (x16_4 ++ [(⟨wrap64 (x23_4 - 1), wrap64 (x17_4 - 1)⟩ : S29)]) (wrap64 (x17_4 - 1)) x18_2 (wrap64 (x18_2 * a3)) x21_3 (wrap64 (x23_4 - 1))) else (none)) else (walk_Run_rest.l3 kj49 a0 l1 l2 a3 a4 x13_1 x16_4 x17_4 x18_2 (wrap64 (x18_2 * a3)) x21_3 (wrap64 (x23_4 - 1)))) else (none)) else (none)) else (none)) else (none)))) else (none)) else (none)) = some (r1, r2, r3) := by rw [if_pos rfl] at H; exact H
                    clear H
                    have H := H1
                    clear H1
                    obtain ⟨ji53, hji53⟩ : ∃ j_ : Int, (wrap64 (x23_4 - (wrap64 (x18_2 * a3)))) = j_ := ⟨_, rfl⟩
                    replace H : (if 0 ≤ (ji53) then (if (ji53) < (x21_3.length : Int) then ((vec_Get.f (rd_L2 x21_3 (ji53)) (wrap64 (x17_4 - 1))).bind fun t256 => (if t256 = true then (walk_Run_rest.l3 kj49 a0 l1 l2 a3 a4 x13_1 x16_4 (wrap64 (x17_4 - 1)) x18_2 (wrap64 (x18_2 * a3)) x21_3 x23_4) else (if 0 ≤ (wrap64 (x23_4 - 1)) then (if (wrap64 (x23_4 - 1)) < (l1.length : Int) then (if 0 ≤ (wrap64 (x17_4 - 1)) then (if (wrap64 (x17_4 - 1)) < (l2.length : Int) then (if (rd l1 (wrap64 (x23_4 - 1))) = (rd l2 (wrap64 (x17_4 - 1))) then (if x16_4.length < 8796093022208 then (walk_Run_rest.l3 kj49 a0 l1 l2 a3 a4 x13_1 (x16_4 ++ [(⟨wrap64 (x23_4 - 1), wrap64 (x17_4 - 1)⟩ : S29)]) (wrap64 (x17_4 - 1)) x18_2 (wrap64 (x18_2 * a3)) x21_3 (wrap64 (x23_4 - 1))) else (none)) else (walk_Run_rest.l3 kj49 a0 l1 l2 a3 a4 x13_1 x16_4 x17_4 x18_2 (wrap64 (x18_2 * a3)) x21_3 (wrap64 (x23_4 - 1)))) else (none)) else (none)) else (none)) else (none)))) else (none)) else (none)) = some (r1, r2, r3) := by first | (rw [hji53] at H; exact H) | (simp only [hji53] at H ⊢; exact H)
                    have hji53w : (IntKind.i64.wrap (x23_4 - (wrap64 (x18_2 * a3)))) = ji53 := (i64_w _).trans hji53
                    by_cases c54 : 0 ≤ (ji53)
                    ·rw [if_pos c54] at H
                     have c54b0 : decide (0 ≤ (ji53)) = true := decide_eq_true c54
                     clear c54
                     by_cases c55 : (ji53) < (x21_3.length : Int)
                     ·rw [if_pos c55] at H
                      have c55b0 : decide ((ji53) < (x21_3.length : Int)) = true := decide_eq_true c55
                      clear c55
                      replace H := Option.bind_eq_some_iff.mp H
                      obtain ⟨t256, A560, H⟩ := H
                      replace H : (if t256 = true then (walk_Run_rest.l3 kj49 a0 l1 l2 a3 a4 x13_1 x16_4 (wrap64 (x17_4 - 1)) x18_2 (wrap64 (x18_2 * a3)) x21_3 x23_4) else (if 0 ≤ (wrap64 (x23_4 - 1)) then (if (wrap64 (x23_4 - 1)) < (l1.length : Int) then (if 0 ≤ (wrap64 (x17_4 - 1)) then (if (wrap64 (x17_4 - 1)) < (l2.length : Int) then (if (rd l1 (wrap64 (x23_4 - 1))) = (rd l2 (wrap64 (x17_4 - 1))) then (if x16_4.length < 8796093022208 then (walk_Run_rest.l3 kj49 a0 l1 l2 a3 a4 x13_1 (x16_4 ++ [(⟨wrap64 (x23_4 - 1), wrap64 (x17_4 - 1)⟩ : S29)]) (wrap64 (x17_4 - 1)) x18_2 (wrap64 (x18_2 * a3)) x21_3 (wrap64 (x23_4 - 1))) else (none)) else (walk_Run_rest.l3 kj49 a0 l1 l2 a3 a4 x13_1 x16_4 x17_4 x18_2 (wrap64 (x18_2 * a3)) x21_3 (wrap64 (x23_4 - 1)))) else (none)) else (none)) else (none)) else (none))) = some (r1, r2, r3) := H
                      have A56 := Aside0.mk A560
                      clear A560
                      by_cases c57 : t256 = true
                      ·subst c57
                       have H1 : (walk_Run_rest.l3 kj49 a0 l1 l2 a3 a4 x13_1 x16_4 (wrap64 (x17_4 - 1)) x18_2 (wrap64 (x18_2 * a3)) x21_3 x23_4) = some (r1, r2, r3) := by rw [if_pos rfl] at H; exact H
                       clear H
                       have H := H1
                       clear H1
                       have H' := Aside0.mk H
                       clear H
                       obtain ⟨Ao58, co58, eo58⟩ := Kd.N_slice HO_21.out
                       subst eo58
                       have p255 : 0 ≤ ((ji53) : Int) := of_decide_eq_true (by first | (with_reducible assumption) | assumption)
                       have q255 : (ji53) < (x21_3.length : Int) := of_decide_eq_true (by first | (with_reducible assumption) | assumption)
                       obtain ⟨ad255, A255_0, c255_0, e255, hx255_0, hl255_0, hi255_0⟩ := at_L2 (Kd.N_reads' HO_21.out).2.2 (ji53) p255 q255
                       cases e255
                       obtain ⟨ce255, hce255, hMe255, hcc255⟩ := Kd.N_get HO_21.out [] (ji53) p255 (by first | exact q255 | exact of_decide_eq_true (by first | (with_reducible assumption) | assumption) | (have e_ := (Kd.N_reads' HO_21.out).1; omega))
                       obtain ⟨ua255_0, uc255_0, rfl, ul255_0, ge255_0⟩ := Kd.FK_slice_open hMe255
                       have hv255_0 := hcc255 0 _ rfl
                       rw [Nat.add_zero, show ((Kd.slice 61 (Kd.int .u64))).sz = 1 from rfl, Nat.mul_one] at hv255_0
                       replace hv255_0 := Option.some.inj (hv255_0.symm.trans hx255_0)
                       injection hv255_0 with hva_ hvn_ hvc_
                       rw [hva_] at ge255_0
                       rw [hvc_] at ul255_0
                       have HL255_0 := Aside0.mk (show Kd.V (Kd.int .u64) 61 _ w.heap.size _ _ (rd_L2 x21_3 (ji53)) from Kd.V_mk ul255_0 ge255_0)
                       clear hva_ hvn_ hvc_ ge255_0 ul255_0
                       clear hcc255 hce255
                       have HR255_0 := Aside0.mk hi255_0
                       have HC255_0 := Aside0.mk hl255_0
                       clear hi255_0 hl255_0
                       replace p255 := eq_true p255
                       replace q255 := eq_true q255
                       go_wp2_with (first | ((with_reducible refine gate_callee (f := 27) rfl ?_); refine goesL_ (some 137) rfl rfl Try.func27 (by kernel_rfl) rfl #[.slice A255_0 (rd_L2 x21_3 (ji53)).length c255_0, .int .i64 (wrap64 (x17_4 - 1))] rfl (by (try simp only [List.map_toArray, List.map_cons, List.map_nil]); first | done | (simp only [hji53]; rfl) | rfl | (simp only [List.length_drop, List.length_take]; rfl)) ?_; (with_reducible refine (vec_Get.calls _ _ (rd_L2 x21_3 (ji53)) (wrap64 (x17_4 - 1)) true _ ?side1 ?side2 A56.out).mono ?_); (case side1 => repeat (first | exact (by repeat (first | (with_reducible exact HR255_0.out) | (with_reducible refine Kd.C_alloc ?_ _) | (with_reducible refine Kd.C_drewN ?_ _) | (with_reducible refine Kd.C_drew ?_) | exact HR255_0.out)) | (with_reducible refine Kd.C_alloc ?_ _) | (with_reducible refine Kd.C_drewN ?_ _) | (with_reducible refine Kd.C_drew ?_))); (case side2 => exact HC255_0.out); rintro e w' ⟨rfl, ⟨nd, rfl⟩⟩; refine ⟨_, rfl, ?_⟩))
                       go_roundg kj49
                       case measure => have := HK1.out; have := HK2.out; have := HK3.out; have := HK4.out; have := HJ49.out; omega
                       case rel => exact ⟨(x16_4), (wrap64 (x17_4 - 1)), (x23_4), (by first | rfl | (simp; done) | (simp [*]; done)), (by first | rfl | (simp; done) | (simp [*]; done)), H', ⟨by have := HK1.out; have := HK2.out; have := HK3.out; have := HK4.out; have := HJ49.out; omega⟩, ⟨by (with_reducible repeat (first | apply Kd.N_alloc | apply Kd.N_drewN | apply Kd.N_drew)); exact HO_13.out⟩, ⟨by (with_reducible repeat (first | apply Kd.R_alloc | apply Kd.R_drewN | apply Kd.R_drew)); exact HO_16.out⟩, ⟨by (with_reducible repeat (first | apply Kd.N_alloc | apply Kd.N_drewN | apply Kd.N_drew)); exact HO_21.out⟩, ⟨by repeat (first | (with_reducible first | exact HB.out | apply below_alloc | apply pw_below_drewN | apply below_drew1) | exact HB.out)⟩⟩
                      ·replace c57 := Bool.eq_false_iff.mpr c57
                       subst c57
                       have H1 : (if 0 ≤ (wrap64 (x23_4 - 1)) then (if (wrap64 (x23_4 - 1)) < (l1.length : Int) then (if 0 ≤ (wrap64 (x17_4 - 1)) then (if (wrap64 (x17_4 - 1)) < (l2.length : Int) then (if (rd l1 (wrap64 (x23_4 - 1))) = (rd l2 (wrap64 (x17_4 - 1))) then (if x16_4.length < 8796093022208 then (walk_Run_rest.l3 kj49 a0 l1 l2 a3 a4 x13_1 (x16_4 ++ [(⟨wrap64 (x23_4 - 1), wrap64 (x17_4 - 1)⟩ : S29)]) (wrap64 (x17_4 - 1)) x18_2 (wrap64 (x18_2 * a3)) x21_3 (wrap64 (x23_4 - 1))) else (none)) else (walk_Run_rest.l3 kj49 a0 l1 l2 a3 a4 x13_1 x16_4 x17_4 x18_2 (wrap64 (x18_2 * a3)) x21_3 (wrap64 (x23_4 - 1)))) else (none)) else (none)) else (none)) else (none)) = some (r1, r2, r3) := by rw [if_neg (show ¬ (false = true) by decide)] at H; exact H
                       clear H
                       have H := H1
                       clear H1
                       obtain ⟨ji59, hji59⟩ : ∃ j_ : Int, (wrap64 (x23_4 - 1)) = j_ := ⟨_, rfl⟩
                       replace H : (if 0 ≤ (ji59) then (if (ji59) < (l1.length : Int) then (if 0 ≤ (wrap64 (x17_4 - 1)) then (if (wrap64 (x17_4 - 1)) < (l2.length : Int) then (if (rd l1 (ji59)) = (rd l2 (wrap64 (x17_4 - 1))) then (if x16_4.length < 8796093022208 then (walk_Run_rest.l3 kj49 a0 l1 l2 a3 a4 x13_1 (x16_4 ++ [(⟨ji59, wrap64 (x17_4 - 1)⟩ : S29)]) (wrap64 (x17_4 - 1)) x18_2 (wrap64 (x18_2 * a3)) x21_3 ji59) else (none)) else (walk_Run_rest.l3 kj49 a0 l1 l2 a3 a4 x13_1 x16_4 x17_4 x18_2 (wrap64 (x18_2 * a3)) x21_3 ji59)) else (none)) else (none)) else (none)) else (none)) = some (r1, r2, r3) := by first | (rw [hji59] at H; exact H) | (simp only [hji59] at H ⊢; exact H)
                       (try rw [hji59] at A56)
                       have hji59w : (IntKind.i64.wrap (x23_4 - 1)) = ji59 := (i64_w _).trans hji59
                       by_cases c60 : 0 ≤ (ji59)
                       ·rw [if_pos c60] at H
                        have c60b0 : decide (0 ≤ (ji59)) = true := decide_eq_true c60
                        clear c60
                        by_cases c61 : (ji59) < (l1.length : Int)
                        ·rw [if_pos c61] at H
                         have c61b0 : decide ((ji59) < (l1.length : Int)) = true := decide_eq_true c61
                         clear c61
                         obtain ⟨ji62, hji62⟩ : ∃ j_ : Int, (wrap64 (x17_4 - 1)) = j_ := ⟨_, rfl⟩
                         replace H : (if 0 ≤ (ji62) then (if (ji62) < (l2.length : Int) then (if (rd l1 (ji59)) = (rd l2 (ji62)) then (if x16_4.length < 8796093022208 then (walk_Run_rest.l3 kj49 a0 l1 l2 a3 a4 x13_1 (x16_4 ++ [(⟨ji59, ji62⟩ : S29)]) ji62 x18_2 (wrap64 (x18_2 * a3)) x21_3 ji59) else (none)) else (walk_Run_rest.l3 kj49 a0 l1 l2 a3 a4 x13_1 x16_4 x17_4 x18_2 (wrap64 (x18_2 * a3)) x21_3 ji59)) else (none)) else (none)) = some (r1, r2, r3) := by first | (rw [hji62] at H; exact H) | (simp only [hji62] at H ⊢; exact H)
                         (try rw [hji62] at A56)
                         have hji62w : (IntKind.i64.wrap (x17_4 - 1)) = ji62 := (i64_w _).trans hji62
                         by_cases c63 : 0 ≤ (ji62)
                         ·rw [if_pos c63] at H
                          have c63b0 : decide (0 ≤ (ji62)) = true := decide_eq_true c63
                          clear c63
                          by_cases c64 : (ji62) < (l2.length : Int)
                          ·rw [if_pos c64] at H
                           have c64b0 : decide ((ji62) < (l2.length : Int)) = true := decide_eq_true c64
                           clear c64
                           by_cases c65 : (rd l1 (ji59)) = (rd l2 (ji62))
                           ·rw [if_pos c65] at H
                            have c65b0 : ((rd l1 (ji59)) == (rd l2 (ji62))) = true := beq_iff_eq.mpr c65
                            have c65b1 : ((rd l1 (ji59)) != (rd l2 (ji62))) = false := bne_eq_false_iff_eq.mpr c65
                            clear c65
                            by_cases c66 : x16_4.length < 8796093022208
                            ·rw [if_pos c66] at H
                             have LMc66 := Aside0.mk c66
                             clear c66
                             obtain ⟨y259, hy259⟩ : ∃ y_ : List (S29), y_ = (x16_4 ++ [(⟨ji59, ji62⟩ : S29)]) := ⟨_, rfl⟩
                             replace H : (walk_Run_rest.l3 kj49 a0 l1 l2 a3 a4 x13_1 y259 ji62 x18_2 (wrap64 (x18_2 * a3)) x21_3 ji59) = some (r1, r2, r3) := by first | (rw [hy259]; with_reducible exact H) | (have H2_ := (Option.bind_some _ _).symm.trans H; rw [hy259]; with_reducible exact H2_) | (have H2_ := (Option.bind_some _ _).symm.trans H; with_reducible exact H2_) | with_reducible exact H | (rw [hy259]; exact H) | exact H
                             have Ny259 := Aside0.mk hy259
                             clear hy259
                             have H' := Aside0.mk H
                             clear H
                             obtain ⟨Ao67, co67, eo67⟩ := Kd.N_slice HO_21.out
                             subst eo67
                             have p255 : 0 ≤ ((ji53) : Int) := of_decide_eq_true (by first | (with_reducible assumption) | assumption)
                             have q255 : (ji53) < (x21_3.length : Int) := of_decide_eq_true (by first | (with_reducible assumption) | assumption)
                             obtain ⟨ad255, A255_0, c255_0, e255, hx255_0, hl255_0, hi255_0⟩ := at_L2 (Kd.N_reads' HO_21.out).2.2 (ji53) p255 q255
                             cases e255
                             obtain ⟨ce255, hce255, hMe255, hcc255⟩ := Kd.N_get HO_21.out [] (ji53) p255 (by first | exact q255 | exact of_decide_eq_true (by first | (with_reducible assumption) | assumption) | (have e_ := (Kd.N_reads' HO_21.out).1; omega))
                             obtain ⟨ua255_0, uc255_0, rfl, ul255_0, ge255_0⟩ := Kd.FK_slice_open hMe255
                             have hv255_0 := hcc255 0 _ rfl
                             rw [Nat.add_zero, show ((Kd.slice 61 (Kd.int .u64))).sz = 1 from rfl, Nat.mul_one] at hv255_0
                             replace hv255_0 := Option.some.inj (hv255_0.symm.trans hx255_0)
                             injection hv255_0 with hva_ hvn_ hvc_
                             rw [hva_] at ge255_0
                             rw [hvc_] at ul255_0
                             have HL255_0 := Aside0.mk (show Kd.V (Kd.int .u64) 61 _ w.heap.size _ _ (rd_L2 x21_3 (ji53)) from Kd.V_mk ul255_0 ge255_0)
                             clear hva_ hvn_ hvc_ ge255_0 ul255_0
                             clear hcc255 hce255
                             have HR255_0 := Aside0.mk hi255_0
                             have HC255_0 := Aside0.mk hl255_0
                             clear hi255_0 hl255_0
                             replace p255 := eq_true p255
                             replace q255 := eq_true q255
                             try go_wp2_with (first | ((with_reducible refine gate_callee (f := 27) rfl ?_); refine goesL_ (some 137) rfl rfl Try.func27 (by kernel_rfl) rfl #[.slice A255_0 (rd_L2 x21_3 (ji53)).length c255_0, .int .i64 ji62] rfl (by (try simp only [List.map_toArray, List.map_cons, List.map_nil]); first | done | (simp only [hji53, hji62]; rfl) | rfl | (simp only [List.length_drop, List.length_take]; rfl)) ?_; (with_reducible refine (vec_Get.calls _ _ (rd_L2 x21_3 (ji53)) ji62 false _ ?side1 ?side2 A56.out).mono ?_); (case side1 => repeat (first | exact (by repeat (first | (with_reducible exact HR255_0.out) | (with_reducible refine Kd.C_alloc ?_ _) | (with_reducible refine Kd.C_drewN ?_ _) | (with_reducible refine Kd.C_drew ?_) | exact HR255_0.out)) | (with_reducible refine Kd.C_alloc ?_ _) | (with_reducible refine Kd.C_drewN ?_ _) | (with_reducible refine Kd.C_drew ?_))); (case side2 => exact HC255_0.out); rintro e w' ⟨rfl, ⟨nd, rfl⟩⟩; refine ⟨_, rfl, ?_⟩))
                             (try (rw [drewN_self wc]; generalize hq_ : World.drewN wc _ = wc; have n0_ : Aside0 (Kd.V (Kd.int .u64) 61 wc w.heap.size (fun k_ => some k_ ≠ (.slice (some ad240) x13_1.length co27 : Value).ownBlock ∧ some k_ ≠ (u16 : Value).ownBlock ∧ some k_ ≠ (.slice (some ad255) x21_3.length co67 : Value).ownBlock) (.slice A255_0 (rd_L2 x21_3 (ji53)).length c255_0) (rd_L2 x21_3 (ji53))) := ⟨by rw [← hq_]; exact (by (with_reducible repeat (first | apply Kd.V_alloc | apply Kd.V_drewN | apply Kd.V_drew)); exact Kd.V_mono HL255_0.out (by first | exact (fun _ hk => ⟨hk.1.1, ⟨hk.1.2, hk.2⟩⟩) | (intro _ hk; (repeat' apply And.intro); all_goals (with_reducible first | exact hk.1 | exact hk.2 | exact hk.1.1 | exact hk.1.2 | exact hk.2.1 | exact hk.2.2 | exact hk.1.1.1 | exact hk.1.1.2 | exact hk.1.2.1 | exact hk.1.2.2 | exact hk.2.1.1 | exact hk.2.1.2 | exact hk.2.2.1 | exact hk.2.2.2))))⟩; have n1_ : Aside0 (Kd.N (Kd.slice 61 (Kd.int .u64)) 47 wc w.heap.size (fun k_ => some k_ ≠ (u16 : Value).ownBlock ∧ some k_ ≠ (.slice (some ad255) x21_3.length co67 : Value).ownBlock) (.slice (some ad240) x13_1.length co27) x13_1) := ⟨by rw [← hq_]; exact (by (with_reducible repeat (first | apply Kd.N_alloc | apply Kd.N_drewN | apply Kd.N_drew)); exact HO_13.out)⟩; have n2_ : Aside0 (Kd.R k29 29 wc w.heap.size (fun _ => True) u16 x16_4) := ⟨by rw [← hq_]; exact (by (with_reducible repeat (first | apply Kd.R_alloc | apply Kd.R_drewN | apply Kd.R_drew)); exact HO_16.out)⟩; have n3_ : Aside0 (Kd.N (Kd.slice 61 (Kd.int .u64)) 47 wc w.heap.size (fun k_ => some k_ ≠ (.slice (some ad240) x13_1.length co27 : Value).ownBlock ∧ some k_ ≠ (u16 : Value).ownBlock) (.slice (some ad255) x21_3.length co67) x21_3) := ⟨by rw [← hq_]; exact (by (with_reducible repeat (first | apply Kd.N_alloc | apply Kd.N_drewN | apply Kd.N_drew)); exact HO_21.out)⟩; have n4_ : Aside0 (Below w.heap.size w wc) := ⟨by rw [← hq_]; exact (by repeat (first | (with_reducible first | exact HB.out | apply below_alloc | apply pw_below_drewN | apply below_drew1) | exact HB.out))⟩; have n5_ : Aside0 (Kd.C (Kd.int .u64) wc A255_0 (rd_L2 x21_3 (ji53)).length (rd_L2 x21_3 (ji53))) := ⟨by rw [← hq_]; exact (by repeat (first | (with_reducible exact HR255_0.out) | (with_reducible refine Kd.C_alloc ?_ _) | (with_reducible refine Kd.C_drewN ?_ _) | (with_reducible refine Kd.C_drew ?_) | exact HR255_0.out))⟩; clear HL255_0 HO_13 HO_16 HO_21 HB HR255_0 hq_; have HL255_0 := n0_; have HO_13 := n1_; have HO_16 := n2_; have HO_21 := n3_; have HB := n4_; have HR255_0 := n5_; clear n0_ n1_ n2_ n3_ n4_ n5_))
                             have n0_ := Aside0.mk (Kd.N_drew HO_13.out)
                             have n1_ := Aside0.mk (Kd.R_drew HO_16.out)
                             have n2_ := Aside0.mk (Kd.N_drew HO_21.out)
                             have n3_ := Aside0.mk (Kd.V_drew HL255_0.out)
                             have n4_ := Aside0.mk (Kd.C_drew HR255_0.out)
                             have n5_ := Aside0.mk (below_drew1 HB.out)
                             clear HO_13
                             clear HO_16
                             clear HO_21
                             clear HL255_0
                             clear HR255_0
                             clear HB
                             have HO_13 := n0_
                             have HO_16 := n1_
                             have HO_21 := n2_
                             have HL255_0 := n3_
                             have HR255_0 := n4_
                             have HB := n5_
                             clear n0_ n1_ n2_ n3_ n4_ n5_
                             have p257 : 0 ≤ ((ji59) : Int) := of_decide_eq_true (by first | (with_reducible assumption) | assumption)
                             have q257 : (ji59) < (l1.length : Int) := of_decide_eq_true (by first | (with_reducible assumption) | assumption)
                             obtain ⟨ad257, e257, hx257_0⟩ := Kd.at_int HR1.out (ji59) p257 q257
                             have hw257_0 := hx257_0
                             cases e257
                             replace hx257_0 := (HB.out.cell (World.block_lt_of_cell? w _ hx257_0)).trans hx257_0
                             replace p257 := eq_true p257
                             replace q257 := eq_true q257
                             have p258 : 0 ≤ ((ji62) : Int) := of_decide_eq_true (by first | (with_reducible assumption) | assumption)
                             have q258 : (ji62) < (l2.length : Int) := of_decide_eq_true (by first | (with_reducible assumption) | assumption)
                             obtain ⟨ad258, e258, hx258_0⟩ := Kd.at_int HR2.out (ji62) p258 q258
                             have hw258_0 := hx258_0
                             cases e258
                             replace hx258_0 := (HB.out.cell (World.block_lt_of_cell? w _ hx258_0)).trans hx258_0
                             replace p258 := eq_true p258
                             replace q258 := eq_true q258
                             refine start_ (n := 12) (S := fun w' => w'.cell? (ad257.add ((ji59)).toNat) = some (.int .i64 (rd l1 (ji59))) ∧ w'.cell? (ad258.add ((ji62)).toNat) = some (.int .i64 (rd l2 (ji62)))) (ds := []) #[false, false, false, false, false, false, false, false, false, false, false, false] (by kernel_rfl) rfl rfl ⟨((HB.out.cell (World.block_lt_of_cell? w _ hw257_0)).trans hw257_0), ((HB.out.cell (World.block_lt_of_cell? w _ hw258_0)).trans hw258_0)⟩ (fun hHeld => ?_); refine with_tabW walk_Run_rest.tab30 walk_Run_rest.bits30 (fun HT_ HW_ => ?_)
                             generalize wc.drew = w68 at HO_13 HO_16 HO_21 HL255_0 HR255_0 HB hx257_0 hx258_0 hHeld ⊢
                             refine pure_ (i := 0) (N := some 141) (v := ?_) (a' := ?_) #[true, false, false, false, false, false, false, false, false, false, false, false] rfl rfl (any_of HT_.out (by kernel_rfl)) (fun _ _ _ h => h) (Or.inl ⟨by rfl, ?_⟩) ?_ ?_
                             rotate_left
                             ·intro w'
                              go_simp
                              with_reducible rfl
                             rotate_left
                             ·simp only [Act.put, List.setIfInBounds_toArray, List.set_cons_zero, List.set_cons_succ, i64_w, i32_w]
                              rfl
                             refine pure_ (i := 1) (N := some 142) (v := ?_) (a' := ?_) #[true, true, false, false, false, false, false, false, false, false, false, false] rfl rfl (any_of HT_.out (by kernel_rfl)) (fun _ _ _ h => h) (Or.inl ⟨by rfl, ?_⟩) ?_ ?_
                             rotate_left
                             ·intro w'
                              go_simp
                              with_reducible rfl
                             rotate_left
                             ·simp only [Act.put, List.setIfInBounds_toArray, List.set_cons_zero, List.set_cons_succ, i64_w, i32_w]
                              rfl
                             refine pure_ (i := 2) (N := some 143) (v := ?_) (a' := ?_) #[true, true, true, false, false, false, false, false, false, false, false, false] rfl rfl (any_of HT_.out (by kernel_rfl)) (fun _ _ _ h => h) (Or.inl ⟨by rfl, ?_⟩) ?_ ?_
                             rotate_left
                             ·intro w'
                              go_simp
                              with_reducible rfl
                             rotate_left
                             ·simp only [Act.put, List.setIfInBounds_toArray, List.set_cons_zero, List.set_cons_succ, i64_w, i32_w]
                              rfl
                             refine pure_ (i := 3) (N := some 144) (v := ?_) (a' := ?_) #[true, true, true, true, false, false, false, false, false, false, false, false] rfl rfl (any_of HT_.out (by kernel_rfl)) (fun _ _ _ h => h) (Or.inl ⟨by rfl, ?_⟩) ?_ ?_
                             rotate_left
                             ·intro w'
                              go_simp
                              with_reducible rfl
                             rotate_left
                             ·simp only [Act.put, List.setIfInBounds_toArray, List.set_cons_zero, List.set_cons_succ, i64_w, i32_w]
                              rfl
                             refine pure_ (i := 5) (N := some 146) (v := ?_) (a' := ?_) #[true, true, true, true, false, true, false, false, false, false, false, false] rfl rfl (any_of HT_.out (by kernel_rfl)) (fun _ _ _ h => h) (Or.inl ⟨by rfl, ?_⟩) ?_ ?_
                             rotate_left
                             ·intro w'
                              go_simp
                              with_reducible rfl
                             rotate_left
                             ·simp only [Act.put, List.setIfInBounds_toArray, List.set_cons_zero, List.set_cons_succ, i64_w, i32_w]
                              rfl
                             refine pure_ (i := 6) (N := some 147) (v := ?_) (a' := ?_) #[true, true, true, true, false, true, true, false, false, false, false, false] rfl rfl (any_of HT_.out (by kernel_rfl)) (fun _ _ _ h => h) (Or.inl ⟨by rfl, ?_⟩) ?_ ?_
                             rotate_left
                             ·intro w'
                              go_simp
                              with_reducible rfl
                             rotate_left
                             ·simp only [Act.put, List.setIfInBounds_toArray, List.set_cons_zero, List.set_cons_succ, i64_w, i32_w]
                              rfl
                             refine pure_ (i := 7) (N := some 148) (v := ?_) (a' := ?_) #[true, true, true, true, false, true, true, true, false, false, false, false] rfl rfl (any_of HT_.out (by kernel_rfl)) (fun _ _ _ h => h) (Or.inl ⟨by rfl, ?_⟩) ?_ ?_
                             rotate_left
                             ·intro w'
                              go_simp
                              with_reducible rfl
                             rotate_left
                             ·simp only [Act.put, List.setIfInBounds_toArray, List.set_cons_zero, List.set_cons_succ, i64_w, i32_w]
                              rfl
                             refine pure_ (i := 8) (N := some 149) (v := ?_) (a' := ?_) #[true, true, true, true, false, true, true, true, true, false, false, false] rfl rfl (any_of HT_.out (by kernel_rfl)) (fun _ _ _ h => h) (Or.inl ⟨by rfl, ?_⟩) ?_ ?_
                             rotate_left
                             ·intro w'
                              go_simp
                              with_reducible rfl
                             rotate_left
                             ·simp only [Act.put, List.setIfInBounds_toArray, List.set_cons_zero, List.set_cons_succ, i64_w, i32_w]
                              rfl
                             refine take_ (i := 4) (N := some 145) (v := ?_) (a' := ?_) #[true, true, true, true, true, true, true, true, true, false, false, false] rfl rfl (take_ofW HT_.out HW_.out (by kernel_rfl)) (fun _ _ _ h => h) (Or.inl ⟨by rfl, ?_⟩) hHeld ?_ ?_
                             rotate_left
                             ·rintro w' ⟨s0, s1⟩
                              go_simp
                              with_reducible rfl
                             rotate_left
                             ·simp only [Act.put, List.setIfInBounds_toArray, List.set_cons_zero, List.set_cons_succ, i64_w, i32_w]
                              rfl
                             refine take_ (i := 9) (N := some 150) (v := ?_) (a' := ?_) #[true, true, true, true, true, true, true, true, true, true, false, false] rfl rfl (take_ofW HT_.out HW_.out (by kernel_rfl)) (fun _ _ _ h => h) (Or.inl ⟨by rfl, ?_⟩) hHeld ?_ ?_
                             rotate_left
                             ·rintro w' ⟨s0, s1⟩
                              go_simp
                              with_reducible rfl
                             rotate_left
                             ·simp only [Act.put, List.setIfInBounds_toArray, List.set_cons_zero, List.set_cons_succ, i64_w, i32_w]
                              rfl
                             refine pure_ (i := 10) (N := some 151) (v := ?_) (a' := ?_) #[true, true, true, true, true, true, true, true, true, true, true, false] rfl rfl (any_of HT_.out (by kernel_rfl)) (fun _ _ _ h => h) (Or.inl ⟨by rfl, ?_⟩) ?_ ?_
                             rotate_left
                             ·intro w'
                              go_simp
                              with_reducible rfl
                             rotate_left
                             ·simp only [Act.put, List.setIfInBounds_toArray, List.set_cons_zero, List.set_cons_succ, i64_w, i32_w]
                              rfl
                             refine pure_ (i := 11) (N := some 140) (v := ?_) (a' := ?_) #[true, true, true, true, true, true, true, true, true, true, true, true] rfl rfl (any_of HT_.out (by kernel_rfl)) (fun _ _ _ h => h) (Or.inl ⟨by rfl, ?_⟩) ?_ ?_
                             rotate_left
                             ·intro w'
                              go_simp
                              with_reducible rfl
                             rotate_left
                             ·simp only [Act.put, List.setIfInBounds_toArray, List.set_cons_zero, List.set_cons_succ, i64_w, i32_w]
                              rfl
                             refine done_ (done_of HT_.out (by kernel_rfl)) ?_
                             try go_wp2_with (first | ((with_reducible refine gate_builtin (b := .append) (xs := #[.tmp 152, .tmp 158]) rfl ?_); at_builtin; refine Kd.R_append k29 (w0 := w) w.heap.size rfl (.tmp 152) (.tmp 158) 22 29 (.agg #[(.int .i64 0), (.int .i64 0)]) 16 rfl Try.underlying22 info29 rfl (by decide) (by omega) u16 x16_4 (⟨ji59, ji62⟩ : S29) [.int .i64 ji59, .int .i64 ji62] (fun _ => True) (fun _ => False) rfl rfl ?aP (fun _ hk => hk.elim) ?aF ?aO ?aB ?aS ?aL ?_; (case aP => exact k29_mkM _ _ _ (⟨ji59, ji62⟩ : S29)); (case aB => exact (by repeat (first | (with_reducible first | exact HB.out | apply below_alloc | apply pw_below_drewN | apply below_drew1) | exact HB.out))); (case aF => exact (fun _ _ => trivial)); (case aO => exact (by (with_reducible repeat (first | apply Kd.R_alloc | apply Kd.R_drewN | apply Kd.R_drew)); exact HO_16.out)); (case aS => exact (below_size (by repeat (first | (with_reducible first | exact HB.out | apply below_alloc | apply pw_below_drewN | apply below_drew1) | exact HB.out)))); (case aL => have := LMc66.out; omega); intro v260 w69 ho hb hg hat; rw [← Ny259.out] at ho; have n0_ := Aside0.mk (Kd.N_afterv (ok := (fun k_ => some k_ ≠ (.slice (some ad255) x21_3.length co67 : Value).ownBlock)) (by (with_reducible repeat (first | apply Kd.N_alloc | apply Kd.N_drewN | apply Kd.N_drew)); exact Kd.N_mono HO_13.out (fun _ hk => ⟨hk.2, hk.1⟩)) hg hat); have n1_ := Aside0.mk (Kd.N_afterv (ok := (fun k_ => some k_ ≠ (.slice (some ad240) x13_1.length co27 : Value).ownBlock)) (by (with_reducible repeat (first | apply Kd.N_alloc | apply Kd.N_drewN | apply Kd.N_drew)); exact HO_21.out) hg hat); have n2_ := Aside0.mk (Kd.V_afterv (ok := (fun k_ => some k_ ≠ (.slice (some ad240) x13_1.length co27 : Value).ownBlock ∧ some k_ ≠ (.slice (some ad255) x21_3.length co67 : Value).ownBlock)) (by (with_reducible repeat (first | apply Kd.V_alloc | apply Kd.V_drewN | apply Kd.V_drew)); exact Kd.V_mono HL255_0.out (by first | exact (fun _ hk => ⟨⟨hk.1.1, hk.2⟩, hk.1.2⟩) | (intro _ hk; (repeat' apply And.intro); all_goals (with_reducible first | exact hk.1 | exact hk.2 | exact hk.1.1 | exact hk.1.2 | exact hk.2.1 | exact hk.2.2 | exact hk.1.1.1 | exact hk.1.1.2 | exact hk.1.2.1 | exact hk.1.2.2 | exact hk.2.1.1 | exact hk.2.1.2 | exact hk.2.2.1 | exact hk.2.2.2)))) hg hat); have n3_ := Aside0.mk (hb); have n4_ := Aside0.mk (ho); clear HO_13; clear HO_21; clear HL255_0; clear HB; clear HO_16; have HO_13 := n0_; have HO_21 := n1_; have HL255_0 := n2_; have HB := n3_; have HO261 := n4_; clear n0_ n1_ n2_ n3_ n4_; clear ho hb hg hat))
                             go_roundg kj49
                             case measure => have := HK1.out; have := HK2.out; have := HK3.out; have := HK4.out; have := HJ49.out; omega
                             case rel => exact ⟨(y259), (ji62), (ji59), (by first | rfl | (simp; done) | (simp only [← hji62] <;> (first | rfl | simp)) | (simp [*]; done)), (by first | rfl | (simp; done) | (simp only [← hji59] <;> (first | rfl | simp)) | (simp [*]; done)), H', ⟨by have := HK1.out; have := HK2.out; have := HK3.out; have := HK4.out; have := HJ49.out; omega⟩, ⟨by (with_reducible repeat (first | apply Kd.N_alloc | apply Kd.N_drewN | apply Kd.N_drew)); exact Kd.N_mono HO_13.out (fun _ hk => ⟨hk.2, hk.1⟩)⟩, ⟨by (with_reducible repeat (first | apply Kd.R_alloc | apply Kd.R_drewN | apply Kd.R_drew)); exact HO261.out⟩, ⟨by (with_reducible repeat (first | apply Kd.N_alloc | apply Kd.N_drewN | apply Kd.N_drew)); exact HO_21.out⟩, ⟨by repeat (first | (with_reducible first | exact HB.out | apply below_alloc | apply pw_below_drewN | apply below_drew1) | exact HB.out)⟩⟩
                            ·rw [if_neg c66] at H
                             exact absurd H (by simp)
                           ·rw [if_neg c65] at H
                            have c65b0 : ((rd l1 (ji59)) == (rd l2 (ji62))) = false := beq_eq_false_iff_ne.mpr c65
                            have c65b1 : ((rd l1 (ji59)) != (rd l2 (ji62))) = true := bne_iff_ne.mpr c65
                            have H' := Aside0.mk H
                            clear H
                            obtain ⟨Ao70, co70, eo70⟩ := Kd.N_slice HO_21.out
                            subst eo70
                            have p255 : 0 ≤ ((ji53) : Int) := of_decide_eq_true (by first | (with_reducible assumption) | assumption)
                            have q255 : (ji53) < (x21_3.length : Int) := of_decide_eq_true (by first | (with_reducible assumption) | assumption)
                            obtain ⟨ad255, A255_0, c255_0, e255, hx255_0, hl255_0, hi255_0⟩ := at_L2 (Kd.N_reads' HO_21.out).2.2 (ji53) p255 q255
                            cases e255
                            obtain ⟨ce255, hce255, hMe255, hcc255⟩ := Kd.N_get HO_21.out [] (ji53) p255 (by first | exact q255 | exact of_decide_eq_true (by first | (with_reducible assumption) | assumption) | (have e_ := (Kd.N_reads' HO_21.out).1; omega))
                            obtain ⟨ua255_0, uc255_0, rfl, ul255_0, ge255_0⟩ := Kd.FK_slice_open hMe255
                            have hv255_0 := hcc255 0 _ rfl
                            rw [Nat.add_zero, show ((Kd.slice 61 (Kd.int .u64))).sz = 1 from rfl, Nat.mul_one] at hv255_0
                            replace hv255_0 := Option.some.inj (hv255_0.symm.trans hx255_0)
                            injection hv255_0 with hva_ hvn_ hvc_
                            rw [hva_] at ge255_0
                            rw [hvc_] at ul255_0
                            have HL255_0 := Aside0.mk (show Kd.V (Kd.int .u64) 61 _ w.heap.size _ _ (rd_L2 x21_3 (ji53)) from Kd.V_mk ul255_0 ge255_0)
                            clear hva_ hvn_ hvc_ ge255_0 ul255_0
                            clear hcc255 hce255
                            have HR255_0 := Aside0.mk hi255_0
                            have HC255_0 := Aside0.mk hl255_0
                            clear hi255_0 hl255_0
                            replace p255 := eq_true p255
                            replace q255 := eq_true q255
                            try go_wp2_with (first | ((with_reducible refine gate_callee (f := 27) rfl ?_); refine goesL_ (some 137) rfl rfl Try.func27 (by kernel_rfl) rfl #[.slice A255_0 (rd_L2 x21_3 (ji53)).length c255_0, .int .i64 ji62] rfl (by (try simp only [List.map_toArray, List.map_cons, List.map_nil]); first | done | (simp only [hji53, hji62]; rfl) | rfl | (simp only [List.length_drop, List.length_take]; rfl)) ?_; (with_reducible refine (vec_Get.calls _ _ (rd_L2 x21_3 (ji53)) ji62 false _ ?side1 ?side2 A56.out).mono ?_); (case side1 => repeat (first | exact (by repeat (first | (with_reducible exact HR255_0.out) | (with_reducible refine Kd.C_alloc ?_ _) | (with_reducible refine Kd.C_drewN ?_ _) | (with_reducible refine Kd.C_drew ?_) | exact HR255_0.out)) | (with_reducible refine Kd.C_alloc ?_ _) | (with_reducible refine Kd.C_drewN ?_ _) | (with_reducible refine Kd.C_drew ?_))); (case side2 => exact HC255_0.out); rintro e w' ⟨rfl, ⟨nd, rfl⟩⟩; refine ⟨_, rfl, ?_⟩))
                            (try (rw [drewN_self wc]; generalize hq_ : World.drewN wc _ = wc; have n0_ : Aside0 (Kd.V (Kd.int .u64) 61 wc w.heap.size (fun k_ => some k_ ≠ (.slice (some ad240) x13_1.length co27 : Value).ownBlock ∧ some k_ ≠ (u16 : Value).ownBlock ∧ some k_ ≠ (.slice (some ad255) x21_3.length co70 : Value).ownBlock) (.slice A255_0 (rd_L2 x21_3 (ji53)).length c255_0) (rd_L2 x21_3 (ji53))) := ⟨by rw [← hq_]; exact (by (with_reducible repeat (first | apply Kd.V_alloc | apply Kd.V_drewN | apply Kd.V_drew)); exact Kd.V_mono HL255_0.out (by first | exact (fun _ hk => ⟨hk.1.1, ⟨hk.1.2, hk.2⟩⟩) | (intro _ hk; (repeat' apply And.intro); all_goals (with_reducible first | exact hk.1 | exact hk.2 | exact hk.1.1 | exact hk.1.2 | exact hk.2.1 | exact hk.2.2 | exact hk.1.1.1 | exact hk.1.1.2 | exact hk.1.2.1 | exact hk.1.2.2 | exact hk.2.1.1 | exact hk.2.1.2 | exact hk.2.2.1 | exact hk.2.2.2))))⟩; have n1_ : Aside0 (Kd.N (Kd.slice 61 (Kd.int .u64)) 47 wc w.heap.size (fun k_ => some k_ ≠ (u16 : Value).ownBlock ∧ some k_ ≠ (.slice (some ad255) x21_3.length co70 : Value).ownBlock) (.slice (some ad240) x13_1.length co27) x13_1) := ⟨by rw [← hq_]; exact (by (with_reducible repeat (first | apply Kd.N_alloc | apply Kd.N_drewN | apply Kd.N_drew)); exact HO_13.out)⟩; have n2_ : Aside0 (Kd.R k29 29 wc w.heap.size (fun _ => True) u16 x16_4) := ⟨by rw [← hq_]; exact (by (with_reducible repeat (first | apply Kd.R_alloc | apply Kd.R_drewN | apply Kd.R_drew)); exact HO_16.out)⟩; have n3_ : Aside0 (Kd.N (Kd.slice 61 (Kd.int .u64)) 47 wc w.heap.size (fun k_ => some k_ ≠ (.slice (some ad240) x13_1.length co27 : Value).ownBlock ∧ some k_ ≠ (u16 : Value).ownBlock) (.slice (some ad255) x21_3.length co70) x21_3) := ⟨by rw [← hq_]; exact (by (with_reducible repeat (first | apply Kd.N_alloc | apply Kd.N_drewN | apply Kd.N_drew)); exact HO_21.out)⟩; have n4_ : Aside0 (Below w.heap.size w wc) := ⟨by rw [← hq_]; exact (by repeat (first | (with_reducible first | exact HB.out | apply below_alloc | apply pw_below_drewN | apply below_drew1) | exact HB.out))⟩; have n5_ : Aside0 (Kd.C (Kd.int .u64) wc A255_0 (rd_L2 x21_3 (ji53)).length (rd_L2 x21_3 (ji53))) := ⟨by rw [← hq_]; exact (by repeat (first | (with_reducible exact HR255_0.out) | (with_reducible refine Kd.C_alloc ?_ _) | (with_reducible refine Kd.C_drewN ?_ _) | (with_reducible refine Kd.C_drew ?_) | exact HR255_0.out))⟩; clear HL255_0 HO_13 HO_16 HO_21 HB HR255_0 hq_; have HL255_0 := n0_; have HO_13 := n1_; have HO_16 := n2_; have HO_21 := n3_; have HB := n4_; have HR255_0 := n5_; clear n0_ n1_ n2_ n3_ n4_ n5_))
                            have n0_ := Aside0.mk (Kd.N_drew HO_13.out)
                            have n1_ := Aside0.mk (Kd.R_drew HO_16.out)
                            have n2_ := Aside0.mk (Kd.N_drew HO_21.out)
                            have n3_ := Aside0.mk (Kd.V_drew HL255_0.out)
                            have n4_ := Aside0.mk (Kd.C_drew HR255_0.out)
                            have n5_ := Aside0.mk (below_drew1 HB.out)
                            clear HO_13
                            clear HO_16
                            clear HO_21
                            clear HL255_0
                            clear HR255_0
                            clear HB
                            have HO_13 := n0_
                            have HO_16 := n1_
                            have HO_21 := n2_
                            have HL255_0 := n3_
                            have HR255_0 := n4_
                            have HB := n5_
                            clear n0_ n1_ n2_ n3_ n4_ n5_
                            have p257 : 0 ≤ ((ji59) : Int) := of_decide_eq_true (by first | (with_reducible assumption) | assumption)
                            have q257 : (ji59) < (l1.length : Int) := of_decide_eq_true (by first | (with_reducible assumption) | assumption)
                            obtain ⟨ad257, e257, hx257_0⟩ := Kd.at_int HR1.out (ji59) p257 q257
                            have hw257_0 := hx257_0
                            cases e257
                            replace hx257_0 := (HB.out.cell (World.block_lt_of_cell? w _ hx257_0)).trans hx257_0
                            replace p257 := eq_true p257
                            replace q257 := eq_true q257
                            have p258 : 0 ≤ ((ji62) : Int) := of_decide_eq_true (by first | (with_reducible assumption) | assumption)
                            have q258 : (ji62) < (l2.length : Int) := of_decide_eq_true (by first | (with_reducible assumption) | assumption)
                            obtain ⟨ad258, e258, hx258_0⟩ := Kd.at_int HR2.out (ji62) p258 q258
                            have hw258_0 := hx258_0
                            cases e258
                            replace hx258_0 := (HB.out.cell (World.block_lt_of_cell? w _ hx258_0)).trans hx258_0
                            replace p258 := eq_true p258
                            replace q258 := eq_true q258
                            refine start_ (n := 12) (S := fun w' => w'.cell? (ad257.add ((ji59)).toNat) = some (.int .i64 (rd l1 (ji59))) ∧ w'.cell? (ad258.add ((ji62)).toNat) = some (.int .i64 (rd l2 (ji62)))) (ds := []) #[false, false, false, false, false, false, false, false, false, false, false, false] (by kernel_rfl) rfl rfl ⟨((HB.out.cell (World.block_lt_of_cell? w _ hw257_0)).trans hw257_0), ((HB.out.cell (World.block_lt_of_cell? w _ hw258_0)).trans hw258_0)⟩ (fun hHeld => ?_); refine with_tabW walk_Run_rest.tab30 walk_Run_rest.bits30 (fun HT_ HW_ => ?_)
                            generalize wc.drew = w71 at HO_13 HO_16 HO_21 HL255_0 HR255_0 HB hx257_0 hx258_0 hHeld ⊢
                            refine pure_ (i := 0) (N := some 141) (v := ?_) (a' := ?_) #[true, false, false, false, false, false, false, false, false, false, false, false] rfl rfl (any_of HT_.out (by kernel_rfl)) (fun _ _ _ h => h) (Or.inl ⟨by rfl, ?_⟩) ?_ ?_
                            rotate_left
                            ·intro w'
                             go_simp
                             with_reducible rfl
                            rotate_left
                            ·simp only [Act.put, List.setIfInBounds_toArray, List.set_cons_zero, List.set_cons_succ, i64_w, i32_w]
                             rfl
                            refine pure_ (i := 1) (N := some 142) (v := ?_) (a' := ?_) #[true, true, false, false, false, false, false, false, false, false, false, false] rfl rfl (any_of HT_.out (by kernel_rfl)) (fun _ _ _ h => h) (Or.inl ⟨by rfl, ?_⟩) ?_ ?_
                            rotate_left
                            ·intro w'
                             go_simp
                             with_reducible rfl
                            rotate_left
                            ·simp only [Act.put, List.setIfInBounds_toArray, List.set_cons_zero, List.set_cons_succ, i64_w, i32_w]
                             rfl
                            refine pure_ (i := 2) (N := some 143) (v := ?_) (a' := ?_) #[true, true, true, false, false, false, false, false, false, false, false, false] rfl rfl (any_of HT_.out (by kernel_rfl)) (fun _ _ _ h => h) (Or.inl ⟨by rfl, ?_⟩) ?_ ?_
                            rotate_left
                            ·intro w'
                             go_simp
                             with_reducible rfl
                            rotate_left
                            ·simp only [Act.put, List.setIfInBounds_toArray, List.set_cons_zero, List.set_cons_succ, i64_w, i32_w]
                             rfl
                            refine pure_ (i := 3) (N := some 144) (v := ?_) (a' := ?_) #[true, true, true, true, false, false, false, false, false, false, false, false] rfl rfl (any_of HT_.out (by kernel_rfl)) (fun _ _ _ h => h) (Or.inl ⟨by rfl, ?_⟩) ?_ ?_
                            rotate_left
                            ·intro w'
                             go_simp
                             with_reducible rfl
                            rotate_left
                            ·simp only [Act.put, List.setIfInBounds_toArray, List.set_cons_zero, List.set_cons_succ, i64_w, i32_w]
                             rfl
                            refine pure_ (i := 5) (N := some 146) (v := ?_) (a' := ?_) #[true, true, true, true, false, true, false, false, false, false, false, false] rfl rfl (any_of HT_.out (by kernel_rfl)) (fun _ _ _ h => h) (Or.inl ⟨by rfl, ?_⟩) ?_ ?_
                            rotate_left
                            ·intro w'
                             go_simp
                             with_reducible rfl
                            rotate_left
                            ·simp only [Act.put, List.setIfInBounds_toArray, List.set_cons_zero, List.set_cons_succ, i64_w, i32_w]
                             rfl
                            refine pure_ (i := 6) (N := some 147) (v := ?_) (a' := ?_) #[true, true, true, true, false, true, true, false, false, false, false, false] rfl rfl (any_of HT_.out (by kernel_rfl)) (fun _ _ _ h => h) (Or.inl ⟨by rfl, ?_⟩) ?_ ?_
                            rotate_left
                            ·intro w'
                             go_simp
                             with_reducible rfl
                            rotate_left
                            ·simp only [Act.put, List.setIfInBounds_toArray, List.set_cons_zero, List.set_cons_succ, i64_w, i32_w]
                             rfl
                            refine pure_ (i := 7) (N := some 148) (v := ?_) (a' := ?_) #[true, true, true, true, false, true, true, true, false, false, false, false] rfl rfl (any_of HT_.out (by kernel_rfl)) (fun _ _ _ h => h) (Or.inl ⟨by rfl, ?_⟩) ?_ ?_
                            rotate_left
                            ·intro w'
                             go_simp
                             with_reducible rfl
                            rotate_left
                            ·simp only [Act.put, List.setIfInBounds_toArray, List.set_cons_zero, List.set_cons_succ, i64_w, i32_w]
                             rfl
                            refine pure_ (i := 8) (N := some 149) (v := ?_) (a' := ?_) #[true, true, true, true, false, true, true, true, true, false, false, false] rfl rfl (any_of HT_.out (by kernel_rfl)) (fun _ _ _ h => h) (Or.inl ⟨by rfl, ?_⟩) ?_ ?_
                            rotate_left
                            ·intro w'
                             go_simp
                             with_reducible rfl
                            rotate_left
                            ·simp only [Act.put, List.setIfInBounds_toArray, List.set_cons_zero, List.set_cons_succ, i64_w, i32_w]
                             rfl
                            refine take_ (i := 4) (N := some 145) (v := ?_) (a' := ?_) #[true, true, true, true, true, true, true, true, true, false, false, false] rfl rfl (take_ofW HT_.out HW_.out (by kernel_rfl)) (fun _ _ _ h => h) (Or.inl ⟨by rfl, ?_⟩) hHeld ?_ ?_
                            rotate_left
                            ·rintro w' ⟨s0, s1⟩
                             go_simp
                             with_reducible rfl
                            rotate_left
                            ·simp only [Act.put, List.setIfInBounds_toArray, List.set_cons_zero, List.set_cons_succ, i64_w, i32_w]
                             rfl
                            refine take_ (i := 9) (N := some 150) (v := ?_) (a' := ?_) #[true, true, true, true, true, true, true, true, true, true, false, false] rfl rfl (take_ofW HT_.out HW_.out (by kernel_rfl)) (fun _ _ _ h => h) (Or.inl ⟨by rfl, ?_⟩) hHeld ?_ ?_
                            rotate_left
                            ·rintro w' ⟨s0, s1⟩
                             go_simp
                             with_reducible rfl
                            rotate_left
                            ·simp only [Act.put, List.setIfInBounds_toArray, List.set_cons_zero, List.set_cons_succ, i64_w, i32_w]
                             rfl
                            refine pure_ (i := 10) (N := some 151) (v := ?_) (a' := ?_) #[true, true, true, true, true, true, true, true, true, true, true, false] rfl rfl (any_of HT_.out (by kernel_rfl)) (fun _ _ _ h => h) (Or.inl ⟨by rfl, ?_⟩) ?_ ?_
                            rotate_left
                            ·intro w'
                             go_simp
                             with_reducible rfl
                            rotate_left
                            ·simp only [Act.put, List.setIfInBounds_toArray, List.set_cons_zero, List.set_cons_succ, i64_w, i32_w]
                             rfl
                            refine pure_ (i := 11) (N := some 140) (v := ?_) (a' := ?_) #[true, true, true, true, true, true, true, true, true, true, true, true] rfl rfl (any_of HT_.out (by kernel_rfl)) (fun _ _ _ h => h) (Or.inl ⟨by rfl, ?_⟩) ?_ ?_
                            rotate_left
                            ·intro w'
                             go_simp
                             with_reducible rfl
                            rotate_left
                            ·simp only [Act.put, List.setIfInBounds_toArray, List.set_cons_zero, List.set_cons_succ, i64_w, i32_w]
                             rfl
                            refine done_ (done_of HT_.out (by kernel_rfl)) ?_
                            try go_wp2
                            go_roundg kj49
                            case measure => have := HK1.out; have := HK2.out; have := HK3.out; have := HK4.out; have := HJ49.out; omega
                            case rel => exact ⟨(x16_4), (x17_4), (ji59), (by first | rfl | (simp; done) | (simp [*]; done)), (by first | rfl | (simp; done) | (simp only [← hji59] <;> (first | rfl | simp)) | (simp [*]; done)), H', ⟨by have := HK1.out; have := HK2.out; have := HK3.out; have := HK4.out; have := HJ49.out; omega⟩, ⟨by (with_reducible repeat (first | apply Kd.N_alloc | apply Kd.N_drewN | apply Kd.N_drew)); exact HO_13.out⟩, ⟨by (with_reducible repeat (first | apply Kd.R_alloc | apply Kd.R_drewN | apply Kd.R_drew)); exact HO_16.out⟩, ⟨by (with_reducible repeat (first | apply Kd.N_alloc | apply Kd.N_drewN | apply Kd.N_drew)); exact HO_21.out⟩, ⟨by repeat (first | (with_reducible first | exact HB.out | apply below_alloc | apply pw_below_drewN | apply below_drew1) | exact HB.out)⟩⟩
                          ·rw [if_neg c64] at H
                           exact absurd H (by simp)
                         ·rw [if_neg c63] at H
                          exact absurd H (by simp)
                        ·rw [if_neg c61] at H
                         exact absurd H (by simp)
                       ·rw [if_neg c60] at H
                        exact absurd H (by simp)
                     ·rw [if_neg c55] at H
                      exact absurd H (by simp)
                    ·rw [if_neg c54] at H
                     exact absurd H (by simp)
                   ·replace c52 := Bool.eq_false_iff.mpr c52
                    subst c52
                    have H1 : (walk_Run_rest.l1 kj49 a0 l1 l2 a3 a4 x13_1 x16_4 x17_4 (wrap64 (x18_2 - 1))) = some (r1, r2, r3) := by rw [if_neg (show ¬ (false = true) by decide)] at H; exact H
                    clear H
                    have H := H1
                    clear H1
                    have H' := Aside0.mk H
                    clear H
                    go_wp2
                    go_roundg kj49
                    case measure => have := HK1.out; have := HK2.out; have := HK3.out; have := HK4.out; have := HJ49.out; omega
                    case rel => exact ⟨(x16_4), (x17_4), (wrap64 (x18_2 - 1)), (by first | rfl | (simp; done) | (simp [*]; done)), (by first | rfl | (simp; done) | (simp [*]; done)), H', ⟨by have := HK1.out; have := HK2.out; have := HK3.out; have := HK4.out; have := HJ49.out; omega⟩, ⟨by (with_reducible repeat (first | apply Kd.N_alloc | apply Kd.N_drewN | apply Kd.N_drew)); exact Kd.N_mono HO_13.out (fun _ hk => hk.1)⟩, ⟨by (with_reducible repeat (first | apply Kd.R_alloc | apply Kd.R_drewN | apply Kd.R_drew)); exact HO_16.out⟩, ⟨by repeat (first | (with_reducible first | exact HB.out | apply below_alloc | apply pw_below_drewN | apply below_drew1) | exact HB.out)⟩⟩
           ·rw [if_neg c31] at H
            exact absurd H (by simp)
          ·rw [if_neg c30] at H
           exact absurd H (by simp)
         ·rw [if_neg c28] at H
          have c28b0 : decide (0 ≤ x18_2) = false := decide_eq_false c28
          clear c28
          replace H := Option.bind_eq_some_iff.mp H
          obtain ⟨t238, A720, H⟩ := H
          replace H : ((hyyro_Steps.f (l1.length : Int) (l2.length : Int)).bind fun t239 => (some (t238, wrap64 (2 * t239), 0))) = some (r1, r2, r3) := H
          have A72 := Aside0.mk A720
          clear A720
          replace H := Option.bind_eq_some_iff.mp H
          obtain ⟨t239, A730, H⟩ := H
          replace H : (some (t238, wrap64 (2 * t239), 0)) = some (r1, r2, r3) := H
          have A73 := Aside0.mk A730
          clear A730
          simp only [Option.some.injEq, Prod.mk.injEq] at H
          obtain ⟨rfl, rfl, rfl⟩ := H
          obtain ⟨Ao74, co74, eo74⟩ := Kd.R_slice HO_16.out
          subst eo74
          go_wp2_with (first | ((with_reducible refine gate_callee (f := 28) rfl ?_); refine goesL_ (some 165) rfl rfl Try.func28 (by kernel_rfl) rfl #[.slice Ao74 x16_2.length co74] rfl (by (try simp only [List.map_toArray, List.map_cons, List.map_nil]); first | done | rfl | (simp only [List.length_drop, List.length_take]; rfl)) ?_; (with_reducible refine (api_Pair.calls k2 (fun k_ => some k_ = (.slice Ao74 x16_2.length co74 : Value).ownBlock) (.slice Ao74 x16_2.length co74) x16_2 t238 w _ ?side1 ?side2 A72.out).mono ?_); (case side1 => repeat (first | (with_reducible first | exact HB.out | apply below_alloc | apply pw_below_drewN | apply below_drew1) | exact HB.out)); (case side2 => exact Kd.R_tight rfl HO_16.out); rintro e w75 ⟨rfl, hy0, hb, hkp⟩; refine ⟨_, rfl, ?_⟩; have n0_ := Aside0.mk (Kd.N_mono (ok' := fun k_ => some k_ ≠ (.slice Ao74 x16_2.length co74 : Value).ownBlock) (Kd.N_keptB (HO_13.out) hkp (fun k_ hk_ hs_ => (hk_) hs_)) (fun k_ hk_ => hk_.1)); have n1_ := Aside0.mk (Kd.R_reok rfl hy0 (fun k_ e_ => HO_16.out.1 k_ e_)); have n2_ := Aside0.mk (hb); clear HO_13; clear HO_16; clear HB; have HO_13 := n0_; have HO_16 := n1_; have HB := n2_; clear n0_ n1_ n2_; (try clear hb); (try clear hkp); (try clear hy0)) | ((with_reducible refine gate_callee (f := 29) rfl ?_); refine goesL_ (some 171) rfl rfl Try.func29 (by kernel_rfl) rfl #[.int .i64 (l1.length : Int), .int .i64 (l2.length : Int)] rfl (by (try simp only [List.map_toArray, List.map_cons, List.map_nil]); first | done | rfl | (simp only [List.length_drop, List.length_take]; rfl)) ?_; (with_reducible refine (hyyro_Steps.calls (l1.length : Int) (l2.length : Int) t239 _ A73.out).mono ?_); rintro e w76 ⟨rfl, hb⟩; refine ⟨_, rfl, ?_⟩; have n0_ := Aside0.mk (Kd.N_below (by (with_reducible repeat (first | apply Kd.N_alloc | apply Kd.N_drewN | apply Kd.N_drew)); exact HO_13.out) hb); have n1_ := Aside0.mk (Kd.R_below (by (with_reducible repeat (first | apply Kd.R_alloc | apply Kd.R_drewN | apply Kd.R_drew)); exact HO_16.out) hb); have n2_ := Aside0.mk (below_step (by repeat (first | (with_reducible first | exact HB.out | apply below_alloc | apply pw_below_drewN | apply below_drew1) | exact HB.out)) hb); clear HO_13; clear HO_16; clear HB; have HO_13 := n0_; have HO_16 := n1_; have HB := n2_; clear n0_ n1_ n2_; (try clear hb); (try clear hb2); (try clear hk); (try clear hi)))
          (try go_ret3)
          first | refine hQ _ _ ?_ | refine HQ2.out _ _ ?_
          exact ⟨_, by first | rfl | (simp [errW_none, errW_some] <;> rfl) | (simp [*, errW_none, errW_some] <;> rfl), by (with_reducible repeat (first | apply Kd.R_alloc | apply Kd.R_drewN | apply Kd.R_drew)); exact HO_16.out, by repeat (first | (with_reducible first | exact HB.out | apply below_alloc | apply pw_below_drewN | apply below_drew1) | exact HB.out)⟩
  exact main _ (fun _ _ h => h)
 ·rw [if_neg hs] at h
  exact absurd h (by simp)


end Go.Proofs.Ytkafkbdidnkefaa.R
