/- Laid by this session's own program (wip/pure/lay.sh): KeepLaw, plain laws of what the printed functions tell. -/
import Derived.Test.YtkafkbdidnkefaaKeep
import Derived.KernelRfl
namespace Go.Proofs.Ytkafkbdidnkefaa.Pw
open Go.RowKit Go.Proofs.Ytkafkbdidnkefaa.K Go.Proofs.YtkafkbdidnkefaaW.PrintWords
/-- The rows kept, at any numbers. -/
def keptG (a s : Int) : List Int := if 0 ≤ a ∧ a ≤ 1048576 ∧ 1 ≤ s then keptL a.toNat s.toNat else []
theorem keptG_tells (a s : Int) (hs : s ≤ 9223372036854775807) (k : Nat) (hk : 1048580 ≤ k) : walk_Kept.f k a s = some (keptG a s) ∧ tattingref20_Kept.f k a s = some (keptG a s) := by
  unfold keptG
  by_cases c : 0 ≤ a ∧ a ≤ 1048576 ∧ 1 ≤ s
  · rw [if_pos c]
    obtain ⟨n, rfl⟩ := Int.eq_ofNat_of_zero_le c.1
    obtain ⟨t, rfl⟩ := Int.eq_ofNat_of_zero_le (show 0 ≤ s by omega)
    simp only [Int.toNat_natCast]
    exact ⟨kept_tells n t (by omega) (by omega) (by omega) k (by omega), rkept_tells n t (by omega) (by omega) (by omega) k (by omega)⟩
  · rw [if_neg c]
    obtain ⟨k, rfl⟩ : ∃ k', k = k' + 1 := ⟨k - 1, by omega⟩
    constructor
    · unfold walk_Kept.f
      rw [is_tells, Option.bind_some]
      split
      · rename_i h
        simp at h
        rw [walk_Kept.j0, if_pos (by simp; omega)]
      · rw [walk_Kept.j0, if_pos rfl]
    · unfold tattingref20_Kept.f
      split
      · rw [tattingref20_Kept.j0, if_pos rfl]
      · split
        · rw [tattingref20_Kept.j0, if_pos rfl]
        · rw [tattingref20_Kept.j0, if_pos (by simp; omega)]
theorem keptG_length (a s : Int) : (keptG a s).length ≤ 1048577 := by
  unfold keptG keptL
  split
  · have := multL_length_le s.toNat 1 (a.toNat - 1)
    simp only [List.length_cons]
    omega
  · simp
theorem same_loop (l : List Int) (hl : l.length ≤ 1048577) : ∀ (k j : Nat), j ≤ l.length → l.length < j + k → tattingref1_SameInts.l0 k l l (j : Int) = some true
  | 0, j, h, h2 => by omega
  | k + 1, j, h, h2 => by
    rw [tattingref1_SameInts.l0]
    by_cases c : j < l.length
    · rw [if_pos (by omega), if_pos (by omega), if_pos (by omega), if_pos rfl, wrap_small _ (by omega) (by omega), show (j : Int) + 1 = ((j + 1 : Nat) : Int) by omega]
      exact same_loop l hl k (j + 1) (by omega) (by omega)
    · rw [if_neg (by omega)]
theorem same_tells (l : List Int) (hl : l.length ≤ 1048577) (k : Nat) (hk : 1048580 ≤ k) : tattingref1_SameInts.f k l l = some true := by
  unfold tattingref1_SameInts.f
  rw [if_pos rfl]
  exact same_loop l hl k 0 (by omega) (by omega)
theorem root_loop (n : Nat) (hn : n ≤ 1048576) : ∀ (k x : Nat), 1 ≤ x → x ≤ 1024 → 1024 < x + k → (x = 1 ∨ (x - 1) * (x - 1) < n) →
    ∃ r : Nat, walk_Root.l0 k (n : Int) (x : Int) = some (r : Int) ∧ tattingref20_Root.l0 k (n : Int) (x : Int) = some (r : Int) ∧ 1 ≤ r ∧ r ≤ 1024 ∧ n ≤ r * r ∧ (r = 1 ∨ (r - 1) * (r - 1) < n)
  | 0, x, h1, h2, h3, _ => by omega
  | k + 1, x, h1, h2, h3, h4 => by
    rw [walk_Root.l0, tattingref20_Root.l0]
    have hxx : x * x ≤ 1024 * 1024 := Nat.mul_le_mul h2 h2
    have e : wrap64 ((x : Int) * (x : Int)) = ((x * x : Nat) : Int) := by rw [← Int.natCast_mul]; exact wrap_small _ (by omega) (by omega)
    rw [e]
    by_cases c : x * x < n
    · have hx : x < 1024 := by
        by_cases d : x = 1024
        · subst d; omega
        · omega
      rw [if_pos (by omega), if_pos (by omega), wrap_small _ (by omega) (by omega), show (x : Int) + 1 = ((x + 1 : Nat) : Int) by omega]
      exact root_loop n hn k (x + 1) (by omega) (by omega) (by omega) (.inr (by simpa using c))
    · rw [if_neg (by omega), if_neg (by omega)]
      exact ⟨x, rfl, rfl, h1, h2, by omega, h4⟩
theorem root_both (a : Int) (k : Nat) (hk : 1048580 ≤ k) : ∃ r : Int, walk_Root.f k a = some r ∧ tattingref20_Root.f k a = some r := by
  unfold walk_Root.f tattingref20_Root.f
  by_cases c : 0 ≤ a
  · obtain ⟨n, hn, hn2⟩ : ∃ n : Nat, mn a 1048576 = (n : Int) ∧ n ≤ 1048576 := by
      unfold mn
      split
      · exact ⟨1048576, rfl, Nat.le_refl _⟩
      · exact ⟨a.toNat, by omega, by omega⟩
    rw [hn]
    obtain ⟨r, h1, h2, _⟩ := root_loop n hn2 k 1 (by omega) (by omega) (by omega) (.inl rfl)
    exact ⟨r, h1, h2⟩
  · obtain ⟨k, rfl⟩ : ∃ k', k = k' + 1 := ⟨k - 1, by omega⟩
    have e : mn a 1048576 = a := by unfold mn; split <;> omega
    rw [e, walk_Root.l0, tattingref20_Root.l0, show wrap64 (1 * 1) = 1 by unfold wrap64; omega, if_neg (by omega), if_neg (by omega)]
    exact ⟨1, rfl, rfl⟩
theorem rwords_of (n : Nat) (h : n ≤ 1048576) : tattingref5_Words.f (n : Int) = some (((n + 63) / 64 : Nat) : Int) := by
  unfold tattingref5_Words.f tattingref5_Width.f
  rw [if_neg (by omega), if_neg (by omega), Option.bind_some, wrap_small ((n : Int) + 63) (by omega) (by omega), Int.tdiv_eq_ediv_of_nonneg (by omega), wrap_small _ (by omega) (by omega)]
  congr 1
theorem room_both (a b s : Int) (hs : s ≤ 9223372036854775807) (k : Nat) (hk : 1048580 ≤ k) : ∃ r : Int, walk_Room.f k a b s = some r ∧ tattingref20_Room.f k a b s = some r := by
  unfold walk_Room.f tattingref20_Room.f
  obtain ⟨h1, h2⟩ := keptG_tells a s hs k hk
  rw [is_tells, Option.bind_some, h1, h2, Option.bind_some, Option.bind_some]
  by_cases c : 0 ≤ b ∧ b ≤ 1048576
  · rw [if_pos (by simpa using c)]
    by_cases d : ((keptG a s).length : Int) = 0
    · rw [if_pos d, if_pos d]; exact ⟨0, rfl, rfl⟩
    · obtain ⟨n, rfl⟩ := Int.eq_ofNat_of_zero_le c.1
      rw [if_neg d, if_neg d, if_neg (by omega), if_neg (by omega), words_of n (by omega), rwords_of n (by omega), Option.bind_some]
      exact ⟨_, rfl, rfl⟩
  · rw [if_neg (by simpa using c)]
    refine ⟨0, rfl, ?_⟩
    split
    · rfl
    · split
      · rfl
      · rw [if_pos (by omega)]
theorem WalkKeeps_tells : tattinglaw22_WalkKeeps.Pure := by
  intro a b s _ _ hs
  have hs2 : s ≤ 9223372036854775807 := by
    simp [Lit.wf, IntKind.min, IntKind.max, IntKind.signed, IntKind.bits] at hs
    omega
  obtain ⟨k, hk⟩ : ∃ k : Nat, 1048580 ≤ k := ⟨1048580, Nat.le_refl _⟩
  refine ⟨k + 1, ?_⟩
  have main : ∀ x, tattinglaw22_WalkKeeps.j0 (k + 1) a b s x = some true := by
    intro x
    rw [tattinglaw22_WalkKeeps.j0]
    by_cases c : x = true
    · rw [if_pos c]
    · rw [if_neg c]
      obtain ⟨h1, h2⟩ := keptG_tells a s hs2 k hk
      obtain ⟨r, h3, h4⟩ := room_both a b s hs2 k hk
      obtain ⟨q, h5, h6⟩ := root_both a k hk
      rw [h1, Option.bind_some, h2, Option.bind_some, same_tells _ (keptG_length a s) k hk, Option.bind_some, if_pos rfl, h3, Option.bind_some, h4, Option.bind_some, if_pos rfl, h5, Option.bind_some, h6, Option.bind_some]
      simp
  unfold tattinglaw22_WalkKeeps.f
  rw [awake_tells (k + 1) (by omega), Option.bind_some, if_pos rfl]
  split <;> exact main _
end Go.Proofs.Ytkafkbdidnkefaa.Pw
