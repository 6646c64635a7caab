/- Laid by this session's own program (wip/pure/lay.sh): LittleLaw, plain laws of what the printed functions tell. -/
import Derived.Test.YtkafkbdidnkefaaKeepLaw
import Derived.KernelRfl
namespace Go.Proofs.Ytkafkbdidnkefaa.Pw
open Go.RowKit Go.Proofs.Ytkafkbdidnkefaa.K Go.Proofs.YtkafkbdidnkefaaW.PrintWords
theorem root_one (n : Nat) (hn : n ≤ 1048576) (k : Nat) (hk : 1048580 ≤ k) : ∃ r : Nat, walk_Root.f k (n : Int) = some (r : Int) ∧ 1 ≤ r ∧ r ≤ 1024 ∧ n ≤ r * r ∧ (r = 1 ∨ (r - 1) * (r - 1) < n) := by
  unfold walk_Root.f
  have e : mn (n : Int) 1048576 = (n : Int) := by unfold mn; split <;> omega
  rw [e]
  obtain ⟨r, h1, _, h3⟩ := root_loop n hn k 1 (by omega) (by omega) (by omega) (.inl rfl)
  exact ⟨r, h1, h3⟩
/-- There are at most so many multiples. -/
theorem multL_count (s : Nat) (hs : 1 ≤ s) : ∀ (q x : Nat) (d : Nat), x % s = 1 % s → d ≤ q * s → (multL s x d).length ≤ q
  | 0, x, d, _, h => by
    have : d = 0 := by omega
    subst this; simp [multL_zero]
  | q + 1, x, d, hx, h => by
    by_cases c : d ≤ s - 1
    · rw [multL_none s d x (fun i hi => ?_)]
      · simp
      · have h1 : 2 ≤ s := by omega
        rw [Nat.add_mod, hx, Nat.mod_eq_of_lt (show 1 < s by omega), Nat.mod_eq_of_lt (show i < s by omega), Nat.mod_eq_of_lt (by omega)]
        omega
    · have hq : (q + 1) * s = q * s + s := Nat.succ_mul q s
      rw [show d = (s - 1) + ((d - s) + 1) by omega, multL_skip s (s - 1) x _ (fun i hi => ?_), multL_succ]
      · have ih := multL_count s hs q (x + (s - 1) + 1) (d - s) (by rw [show x + (s - 1) + 1 = x + s by omega, Nat.add_mod_right]; exact hx) (by omega)
        rw [List.length_append]
        split <;> simp <;> omega
      · have h1 : 2 ≤ s := by omega
        rw [Nat.add_mod, hx, Nat.mod_eq_of_lt (show 1 < s by omega), Nat.mod_eq_of_lt (show i < s by omega), Nat.mod_eq_of_lt (by omega)]
        omega
theorem keptL_count (n r : Nat) (hr : 1 ≤ r) (h : n ≤ r * r) : (keptL n r).length ≤ r ∧ 1 ≤ (keptL n r).length := by
  unfold keptL
  have := multL_count r hr (r - 1) 1 (n - 1)
  refine ⟨?_, by simp⟩
  rw [List.length_cons]
  by_cases c : n - 1 ≤ (r - 1) * r
  · have := multL_count r hr (r - 1) 1 (n - 1) rfl c; omega
  · -- the last piece, shorter than a step, has no multiple
    have e : r * r = (r - 1) * r + r := by rw [← Nat.succ_mul]; congr 1; omega
    obtain ⟨d, hd⟩ : ∃ d, n - 1 = (r - 1) * r + d := ⟨n - 1 - (r - 1) * r, by omega⟩
    have hsplit : multL r 1 (n - 1) = multL r 1 ((r - 1) * r) ++ multL r (1 + (r - 1) * r) d := by
      unfold multL
      rw [hd, ← List.range'_append_1, List.filter_append, List.map_append]
    rw [hsplit, multL_none r d (1 + (r - 1) * r) (fun i hi => ?_), List.append_nil]
    · have := multL_count r hr (r - 1) 1 ((r - 1) * r) rfl (Nat.le_refl _); omega
    · rw [show 1 + (r - 1) * r + i = (1 + i) + r * (r - 1) by rw [Nat.mul_comm r]; omega, Nat.add_mul_mod_self_left, Nat.mod_eq_of_lt (by omega)]
      omega
theorem room_one (n m r : Nat) (hn : n ≤ 2000) (hm : m ≤ 2000) (hr : 1 ≤ r) (hr2 : r ≤ 1024) (h : n ≤ r * r) (k : Nat) (hk : 1048580 ≤ k) :
    ∃ L : Nat, walk_Room.f k (n : Int) (m : Int) (r : Int) = some ((L * ((m + 63) / 64) : Nat) : Int) ∧ 1 ≤ L ∧ L ≤ 2 * r + 1 := by
  unfold walk_Room.f
  obtain ⟨h1, h2⟩ := keptL_count n r hr h
  have hmn : mn (r : Int) (n : Int) = ((min r n : Nat) : Int) := by unfold mn; split <;> omega
  refine ⟨(keptL n r).length + min r n, ?_, by omega, by omega⟩
  have hw : (m + 63) / 64 ≤ 33 := by omega
  have hp : ((keptL n r).length + min r n) * ((m + 63) / 64) ≤ 2048 * 33 := Nat.mul_le_mul (by omega) hw
  rw [is_tells, Option.bind_some, if_pos (by simp; omega), kept_tells n r (by omega) hr (by omega) k (by omega), Option.bind_some, if_neg (by omega), words_of m (by omega), Option.bind_some, hmn,
    wrap_small (((keptL n r).length : Int) + ((min r n : Nat) : Int)) (by omega) (by omega), ← Int.natCast_add, ← Int.natCast_mul, wrap_small _ (by omega) (by omega)]
theorem mod2001 (a : Int) (h : (Lit.int .u16 a).wf = true) : ∃ n : Nat, Int.tmod (wrap64 a) 2001 = (n : Int) ∧ n ≤ 2000 := by
  simp [Lit.wf, IntKind.min, IntKind.max, IntKind.signed, IntKind.bits] at h
  rw [wrap_small a (by omega) (by omega)]
  obtain ⟨x, rfl⟩ := Int.eq_ofNat_of_zero_le h.1
  exact ⟨x % 2001, rfl, by omega⟩
theorem little_nums (r v : Nat) (hr : r ≤ 1024) (hr1 : 1 ≤ r) (hv : v ≤ 33) : wrap64 ((r : Int) * (r : Int)) = ((r * r : Nat) : Int) ∧ wrap64 (wrap64 ((r : Int) - 1) * wrap64 ((r : Int) - 1)) = (((r - 1) * (r - 1) : Nat) : Int) ∧
    wrap64 (wrap64 (wrap64 (2 * (r : Int)) + 1) * (v : Int)) = (((2 * r + 1) * v : Nat) : Int) := by
  have h1 : r * r ≤ 1024 * 1024 := Nat.mul_le_mul hr hr
  have h2 : (r - 1) * (r - 1) ≤ 1024 * 1024 := Nat.mul_le_mul (by omega) (by omega)
  have h3 : (2 * r + 1) * v ≤ 2049 * 33 := Nat.mul_le_mul (by omega) hv
  refine ⟨?_, ?_, ?_⟩
  · rw [← Int.natCast_mul]
    generalize r * r = z at h1
    exact wrap_small _ (by omega) (by omega)
  · rw [wrap_small ((r : Int) - 1) (by omega) (by omega), show (r : Int) - 1 = ((r - 1 : Nat) : Int) by omega, ← Int.natCast_mul]
    generalize (r - 1) * (r - 1) = z at h2
    exact wrap_small _ (by omega) (by omega)
  · rw [wrap_small (2 * (r : Int)) (by omega) (by omega), wrap_small (2 * (r : Int) + 1) (by omega) (by omega), show 2 * (r : Int) + 1 = ((2 * r + 1 : Nat) : Int) by omega, ← Int.natCast_mul]
    generalize (2 * r + 1) * v = z at h3
    exact wrap_small _ (by omega) (by omega)
theorem little_words (m : Nat) (h : m ≤ 2000) : wrap64 (Int.tdiv (wrap64 ((m : Int) + 63)) 64) = (((m + 63) / 64 : Nat) : Int) := by
  rw [wrap_small ((m : Int) + 63) (by omega) (by omega), Int.tdiv_eq_ediv_of_nonneg (by omega), wrap_small _ (by omega) (by omega)]
  omega
theorem WalkLittle_tells : tattinglaw22_WalkLittle.Pure := by
  intro a b ha hb
  obtain ⟨n, hn, hn2⟩ := mod2001 a ha
  obtain ⟨m, hm, hm2⟩ := mod2001 b hb
  obtain ⟨k, hk⟩ : ∃ k : Nat, 1048580 ≤ k := ⟨1048580, Nat.le_refl _⟩
  obtain ⟨r, h1, h2, h3, h4, h5⟩ := root_one n (by omega) k hk
  obtain ⟨L, g1, g2, g3⟩ := room_one n m r hn2 hm2 h2 h3 h4 k hk
  have hw := little_words m hm2
  have hv : (m + 63) / 64 ≤ 33 := by omega
  obtain ⟨e1, e2, e3⟩ := little_nums r ((m + 63) / 64) h3 h2 hv
  have q1 : (m + 63) / 64 ≤ L * ((m + 63) / 64) := Nat.le_mul_of_pos_left _ g2
  have q2 : L * ((m + 63) / 64) ≤ (2 * r + 1) * ((m + 63) / 64) := Nat.mul_le_mul_right _ g3
  have ha := awake_tells k (Nat.le_trans (by decide) hk)
  have i1 : (r : Int) ≥ 1 := Int.ofNat_le.2 h2
  have i2 : ((r * r : Nat) : Int) ≥ (n : Int) := Int.ofNat_le.2 h4
  have i3 : ((L * ((m + 63) / 64) : Nat) : Int) ≥ (((m + 63) / 64 : Nat) : Int) := Int.ofNat_le.2 q1
  have i4 : ((L * ((m + 63) / 64) : Nat) : Int) ≤ (((2 * r + 1) * ((m + 63) / 64) : Nat) : Int) := Int.ofNat_le.2 q2
  refine ⟨k, ?_⟩
  clear hk hn2 hm2 q1 q2 hv h4 g2 g3
  unfold tattinglaw22_WalkLittle.f
  rw [ha, Option.bind_some, if_pos rfl, hn, hm, h1, Option.bind_some, if_pos i1, e1, if_pos i2]
  simp only [g1, hw, e2, e3, Option.bind_some]
  by_cases c : (r : Int) = 1
  · rw [if_pos c, if_pos i3, decide_eq_true i4]
  · have i5 : (((r - 1) * (r - 1) : Nat) : Int) < (n : Int) := by
      rcases h5 with h | h
      · exact absurd (by rw [h]; rfl) c
      · exact Int.ofNat_lt.2 h
    rw [if_neg c, if_pos i5, if_pos i3, decide_eq_true i4]
end Go.Proofs.Ytkafkbdidnkefaa.Pw
