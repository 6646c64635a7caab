/- Laid by this session's own program (wip/pure/lay.sh): Keep, plain laws of what the printed functions tell. -/
import Derived.Test.YtkafkbdidnkefaaK6
import Derived.KernelRfl
namespace Go.Proofs.Ytkafkbdidnkefaa.Pw
open Go.RowKit Go.Proofs.Ytkafkbdidnkefaa.K Go.Proofs.YtkafkbdidnkefaaW.PrintWords
/-- More rounds tell the same. -/
theorem up {α : Type} {f : Nat → Option α} (m : ∀ k, LeO (f k) (f (k + 1))) {k : Nat} {r : α} (h : f k = some r) : ∀ j, k ≤ j → f j = some r := by
  intro j hj
  induction j with
  | zero => obtain rfl : k = 0 := by omega
            exact h
  | succ j ih =>
    by_cases c : k = j + 1
    · subst c; exact h
    · exact m j r (ih (by omega))
theorem awake_tells (k : Nat) (h : 80 ≤ k) : tattinglaw22_awake.f k = some true := up tattinglaw22_awake.mono (k := 80) (by kernel_rfl) k h
theorem is_tells (a : Int) : walk_is.f a = some (decide (0 ≤ a ∧ a ≤ 1048576)) := by
  unfold walk_is.f
  by_cases c : a ≥ 0
  · rw [if_pos c]; simp [c]
  · rw [if_neg c]; simp; omega
theorem wrap_small (x : Int) (h0 : -9223372036854775808 ≤ x) (h1 : x ≤ 9223372036854775807) : wrap64 x = x := by unfold wrap64; omega
/-- The rows kept from x on, below n: the multiples of s. -/
def multL (s : Nat) (x d : Nat) : List Int := ((List.range' x d).filter (fun y => y % s == 0)).map Int.ofNat
theorem multL_zero (s x : Nat) : multL s x 0 = [] := rfl
theorem multL_succ (s x d : Nat) : multL s x (d + 1) = (if x % s = 0 then [(x : Int)] else []) ++ multL s (x + 1) d := by
  unfold multL
  rw [List.range'_succ, List.filter_cons]
  by_cases c : x % s = 0
  · simp [c]
  · simp [c]
theorem multL_skip (s : Nat) : ∀ (e x d : Nat), (∀ i, i < e → (x + i) % s ≠ 0) → multL s x (e + d) = multL s (x + e) d
  | 0, x, d, _ => by simp
  | e + 1, x, d, h => by
    rw [show e + 1 + d = (e + d) + 1 by omega, multL_succ, if_neg (by simpa using h 0 (by omega)), List.nil_append, multL_skip s e (x + 1) d (fun i hi => by rw [show x + 1 + i = x + (i + 1) by omega]; exact h (i + 1) (by omega)), show x + 1 + e = x + (e + 1) by omega]
theorem multL_none (s : Nat) (e x : Nat) (h : ∀ i, i < e → (x + i) % s ≠ 0) : multL s x e = [] := by
  have := multL_skip s e x 0 h
  rwa [Nat.add_zero, multL_zero] at this
theorem multL_length_le (s x d : Nat) : (multL s x d).length ≤ d := by
  unfold multL
  rw [List.length_map]
  exact Nat.le_trans (List.length_filter_le _ _) (by simp)
/-- The walk's loop. -/
theorem kept_loop (n s : Nat) (hn : n ≤ 1048576) (hs : 1 ≤ s) : ∀ (k x : Nat) (acc : List Int), x % s = 0 → s ≤ x → x ≤ n + s → (n < x + k ∧ 0 < k) → acc.length ≤ x → (n ≤ s ∨ x + s ≤ 9223372036854775807) → (x < n → s < n) →
    walk_Kept.l0 k (n : Int) (s : Int) acc (x : Int) = some (acc ++ multL s x (n - x))
  | 0, x, acc, _, _, _, h, _, _, _ => by omega
  | k + 1, x, acc, hx, hsx, hxn, hk, ha, ho, hsn => by
    rw [walk_Kept.l0]
    by_cases c : x < n
    · have hsn' := hsn c
      rw [if_pos (by omega), if_pos (by omega), wrap_small _ (by omega) (by omega), show (x : Int) + (s : Int) = ((x + s : Nat) : Int) by omega,
        kept_loop n s hn hs k (x + s) (acc ++ [(x : Int)]) (by rw [Nat.add_mod_right]; exact hx) (by omega) (by omega) (by omega) (by simp; omega) (.inr (by omega)) (fun _ => hsn')]
      congr 1
      rw [List.append_assoc]
      congr 1
      rw [show n - x = (n - x - 1) + 1 by omega, multL_succ, if_pos hx]
      congr 1
      have mid : ∀ i, i < s - 1 → (x + 1 + i) % s ≠ 0 := by
        intro i hi
        rw [Nat.add_assoc, Nat.add_mod, hx, Nat.zero_add, Nat.mod_mod, Nat.mod_eq_of_lt (by omega)]
        omega
      by_cases c2 : x + s ≤ n
      · rw [show n - x - 1 = (s - 1) + (n - (x + s)) by omega, multL_skip s (s - 1) (x + 1) _ mid, show x + 1 + (s - 1) = x + s by omega]
      · rw [show n - (x + s) = 0 by omega, multL_zero, multL_none s (n - x - 1) (x + 1) (fun i hi => mid i (by omega))]
    · rw [if_neg (by omega), show n - x = 0 by omega, multL_zero, List.append_nil]
theorem rkept_loop (n s : Nat) (hn : n ≤ 1048576) (hs : 1 ≤ s) (hs2 : s ≤ 9223372036854775807) : ∀ (k x : Nat) (acc : List Int), (n < x + k ∧ 0 < k) → x ≤ n + 1 → acc.length ≤ x →
    tattingref20_Kept.l0 k (n : Int) (s : Int) acc (x : Int) = some (acc ++ multL s x (n - x))
  | 0, x, acc, h, hx, _ => by omega
  | k + 1, x, acc, hk, hx, ha => by
    rw [tattingref20_Kept.l0]
    by_cases c : x < n
    · rw [if_pos (by omega), if_neg (by omega), wrap_small _ (by omega) (by omega), show (x : Int) + 1 = ((x + 1 : Nat) : Int) by omega, show Int.tmod (x : Int) (s : Int) = ((x % s : Nat) : Int) from rfl,
        show n - x = (n - (x + 1)) + 1 by omega, multL_succ]
      by_cases c2 : x % s = 0
      · rw [if_pos (by omega), if_pos (by omega), if_pos c2, rkept_loop n s hn hs hs2 k (x + 1) (acc ++ [(x : Int)]) (by omega) (by omega) (by simp; omega), List.append_assoc]
      · rw [if_neg (by omega), if_neg c2, List.nil_append, rkept_loop n s hn hs hs2 k (x + 1) acc (by omega) (by omega) (by omega)]
    · rw [if_neg (by omega), show n - x = 0 by omega, multL_zero, List.append_nil]
/-- The rows kept. -/
def keptL (n s : Nat) : List Int := 0 :: multL s 1 (n - 1)
theorem kept_tells (n s : Nat) (hn : n ≤ 1048576) (hs : 1 ≤ s) (hs2 : s ≤ 9223372036854775807) (k : Nat) (hk : n + 2 ≤ k) : walk_Kept.f k (n : Int) (s : Int) = some (keptL n s) := by
  unfold walk_Kept.f
  rw [is_tells, Option.bind_some, if_pos (by simp; omega)]
  obtain ⟨k, rfl⟩ : ∃ k', k = k' + 1 := ⟨k - 1, by omega⟩
  rw [walk_Kept.j0, if_neg (by simp; omega)]
  by_cases c : s ≤ n
  · rw [kept_loop n s hn hs k s [0] (Nat.mod_self s) (Nat.le_refl _) (by omega) (by omega) (by simpa using hs) (.inr (by omega)) (fun h => h)]
    unfold keptL
    rw [show n - 1 = (s - 1) + (n - s) by omega, multL_skip s (s - 1) 1 _ (fun i hi => by rw [Nat.mod_eq_of_lt (by omega)]; omega), show 1 + (s - 1) = s by omega]
    rfl
  · obtain ⟨k, rfl⟩ : ∃ k', k = k' + 1 := ⟨k - 1, by omega⟩
    rw [walk_Kept.l0, if_neg (by omega)]
    unfold keptL
    rw [multL_none s (n - 1) 1 (fun i hi => by rw [Nat.mod_eq_of_lt (by omega)]; omega)]
theorem rkept_tells (n s : Nat) (hn : n ≤ 1048576) (hs : 1 ≤ s) (hs2 : s ≤ 9223372036854775807) (k : Nat) (hk : n + 2 ≤ k) : tattingref20_Kept.f k (n : Int) (s : Int) = some (keptL n s) := by
  unfold tattingref20_Kept.f
  rw [if_neg (by omega), if_neg (by omega)]
  obtain ⟨k, rfl⟩ : ∃ k', k = k' + 1 := ⟨k - 1, by omega⟩
  rw [tattingref20_Kept.j0, if_neg (by simp; omega)]
  by_cases c : 1 ≤ n
  · have := rkept_loop n s hn hs hs2 k 1 [0] (by omega) (by omega) (by simp)
    rw [show ((1 : Nat) : Int) = 1 from rfl] at this
    rw [this]; rfl
  · obtain rfl : n = 0 := by omega
    obtain ⟨k, rfl⟩ : ∃ k', k = k' + 1 := ⟨k - 1, by omega⟩
    rw [tattingref20_Kept.l0, if_neg (by omega)]
    rfl
end Go.Proofs.Ytkafkbdidnkefaa.Pw
