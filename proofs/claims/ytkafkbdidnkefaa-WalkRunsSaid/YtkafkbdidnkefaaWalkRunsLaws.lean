/- What the printed functions that WalkRuns reaches tell, in plain words of lists and numbers (conditions: the sizes that each law names). -/
import Derived.Test.YtkafkbdidnkefaaR11
import Derived.Test.YtkafkbdidnkefaaTat
import Derived.KernelRfl
set_option linter.unusedVariables false
namespace Go.Proofs.Ytkafkbdidnkefaa.Pw
open Go.RowKit Go.Proofs.Ytkafkbdidnkefaa.R Go.Proofs.YtkafkbdidnkefaaW.PrintWords Tat

/-- How wide a width counts. -/
def wid (n : Int) : Nat := min n.toNat 1048576
theorem width_tells (n : Int) : vec_width.f n = some (wid n : Int) := by
  unfold vec_width.f wid mn mx
  congr 1
  split <;> split <;> omega
theorem words_tells (n : Int) : vec_Words.f n = some (((wid n + 63) / 64 : Nat) : Int) := by
  unfold vec_Words.f
  rw [width_tells]
  have : wid n ≤ 1048576 := by unfold wid; omega
  simp only [Option.bind_some, Option.some.injEq]
  rw [show wrap64 ((wid n : Int) + 64) = (wid n : Int) + 64 by unfold wrap64; omega, show wrap64 ((wid n : Int) + 64 - 1) = (wid n : Int) + 63 by unfold wrap64; omega,
    Int.tdiv_eq_ediv_of_nonneg (by omega)]
  unfold wrap64
  omega
theorem at_tells (l : List Int) (k : Nat) : vec_at.f l (k : Int) = some (l.getD k 0) := by
  unfold vec_at.f rd
  by_cases h : (k : Int) < (l.length : Int)
  · rw [if_pos h, if_pos (by omega)]; rfl
  · rw [if_neg h, List.getD_eq_getElem?_getD, List.getElem?_eq_none (by omega)]; rfl
/-- The word of all bits below a width. -/
def maskW (n : Int) (k : Nat) : Nat := 2 ^ min 64 (wid n - 64 * k) - 1
theorem maskW_lt (n : Int) (k : Nat) : maskW n k < 18446744073709551616 := by
  unfold maskW
  have p : 2 ^ min 64 (wid n - 64 * k) ≤ 2 ^ 64 := Nat.pow_le_pow_right (by decide) (by omega)
  have e : (2 : Nat) ^ 64 = 18446744073709551616 := by decide
  rw [e] at p
  have q : 0 < 2 ^ min 64 (wid n - 64 * k) := Nat.two_pow_pos _
  generalize 2 ^ min 64 (wid n - 64 * k) = z at p q
  omega
theorem maskW_bit (n : Int) (k t : Nat) (h : t < 64) : (maskW n k).testBit t = decide (64 * k + t < wid n) := by
  unfold maskW
  rw [Nat.testBit_two_pow_sub_one]
  congr 1
  apply propext
  omega
theorem u64_wrap (x : Int) (h0 : 0 ≤ x) (h1 : x < 18446744073709551616) : IntKind.u64.wrap x = x := by
  simp only [IntKind.wrap, IntKind.bits, IntKind.signed]
  simp
  omega
theorem pow_small {r : Nat} (h : r < 64) : 2 ^ r < 18446744073709551616 := by
  have p : 2 ^ r < 2 ^ 64 := Nat.pow_lt_pow_right (by decide) h
  have e : (2 : Nat) ^ 64 = 18446744073709551616 := by decide
  rw [e] at p
  exact p
theorem shl_one {r : Nat} (h : r < 64) : shl .u64 1 (r : Int) = ((2 ^ r : Nat) : Int) := by
  have p := pow_small h
  have ec : (2 : Int) ^ r = ((2 ^ r : Nat) : Int) := by simp
  unfold shl
  rw [show min (r : Int).toNat IntKind.u64.bits = r by simp [IntKind.bits]; omega, Int.one_mul, ec]
  generalize 2 ^ r = q at p
  exact u64_wrap _ (by omega) (by omega)
theorem mask_full (n : Int) (k : Nat) (h : 64 ≤ wid n - 64 * k) : ((maskW n k : Nat) : Int) = 18446744073709551615 := by
  unfold maskW
  rw [Nat.min_eq_left h]
  have e : (2 : Nat) ^ 64 = 18446744073709551616 := by decide
  rw [e]
  rfl
theorem mask_part (n : Int) (k r : Nat) (h : wid n - 64 * k = r) (hr : r < 64) : ((maskW n k : Nat) : Int) = ((2 ^ r : Nat) : Int) - 1 := by
  unfold maskW
  rw [h, Nat.min_eq_right (by omega)]
  have q : 0 < 2 ^ r := Nat.two_pow_pos _
  generalize 2 ^ r = q at q
  omega
theorem mask_tells (n : Int) (k : Nat) (h : 64 * k < wid n) : vec_mask.f n (k : Int) = some (maskW n k : Int) := by
  have hw : wid n ≤ 1048576 := by unfold wid; omega
  unfold vec_mask.f
  rw [width_tells, Option.bind_some]
  rw [show wrap64 (64 * (k : Int)) = 64 * (k : Int) by unfold wrap64; omega, show wrap64 ((wid n : Int) - 64 * (k : Int)) = (((wid n - 64 * k : Nat)) : Int) by unfold wrap64; omega]
  by_cases c : 64 ≤ wid n - 64 * k
  · rw [if_pos (by omega), mask_full n k c]
  · obtain ⟨r, hr⟩ : ∃ r, wid n - 64 * k = r := ⟨_, rfl⟩
    rw [mask_part n k r hr (by omega), hr]
    rw [if_neg (by omega), u64_wrap (r : Int) (by omega) (by omega), if_pos (by omega), shl_one (by omega)]
    have p := pow_small (show r < 64 by omega)
    have q : 0 < 2 ^ r := Nat.two_pow_pos _
    generalize 2 ^ r = q at p q
    rw [u64_wrap _ (by omega) (by omega)]

/-- A word of two words' bits. -/
def andW (a b : Int) : Int := ((a.toNat &&& b.toNat : Nat) : Int)
def orW (a b : Int) : Int := ((a.toNat ||| b.toNat : Nat) : Int)
theorem andW_bit (a b : Int) (t : Nat) : (andW a b).toNat.testBit t = (a.toNat.testBit t && b.toNat.testBit t) := by simp [andW]
theorem orW_bit (a b : Int) (t : Nat) : (orW a b).toNat.testBit t = (a.toNat.testBit t || b.toNat.testBit t) := by simp [orW]
theorem andW_word {a b : Int} (h : a < 18446744073709551616) : 0 ≤ andW a b ∧ andW a b < 18446744073709551616 := by
  unfold andW
  have : a.toNat &&& b.toNat ≤ a.toNat := Nat.and_le_left
  omega
theorem orW_word {a b : Int} (ha : a < 18446744073709551616) (hb : b < 18446744073709551616) : 0 ≤ orW a b ∧ orW a b < 18446744073709551616 := by
  unfold orW
  have e : (2 : Nat) ^ 64 = 18446744073709551616 := by decide
  have p : a.toNat ||| b.toNat < 2 ^ 64 := Nat.or_lt_two_pow (by rw [e]; omega) (by rw [e]; omega)
  rw [e] at p
  omega

/-- A list of words out of its bits' rule. -/
theorem bits_of_range (n : Nat) (g : Nat → Int) (f : Nat → Bool) (h : ∀ k t, k < n → t < 64 → (g k).toNat.testBit t = f (64 * k + t)) (i : Nat) (hi : i < 64 * n) :
    bitAt ((List.range n).map g) i = f i := by
  have e : i = 64 * (i / 64) + i % 64 := by omega
  rw [e, bitAt_word _ _ _ (by omega), getD_map_range, if_pos (by omega), h _ _ (by omega) (by omega)]
theorem words_of_range (n : Nat) (g : Nat → Int) (h : ∀ k, k < n → 0 ≤ g k ∧ g k < 18446744073709551616) : Words64 ((List.range n).map g) := by
  intro w hw
  simp only [List.mem_map, List.mem_range] at hw
  obtain ⟨k, hk, rfl⟩ := hw
  exact h k hk

theorem wrap_succ (i n : Nat) (h : i < n) (hn : n ≤ 1048576) : wrap64 ((i : Int) + 1) = ((i + 1 : Nat) : Int) := by unfold wrap64; omega

/-- Fit. -/
theorem fit_tells (l : List Int) (n : Int) (hl : Words64 l) (k : Nat) (hk : (wid n + 63) / 64 < k) :
    vec_Fit.f k l n = some ((List.range ((wid n + 63) / 64)).map fun i => andW (l.getD i 0) (maskW n i)) := by
  have hw : wid n ≤ 1048576 := by unfold wid; omega
  unfold vec_Fit.f
  rw [words_tells, Option.bind_some]
  generalize hN : (wid n + 63) / 64 = N at hk ⊢
  rw [if_pos (by omega), if_pos (by omega)]
  have := fill_all (fun k y i => vec_Fit.l0 k l n y (N : Int) (i : Int)) (fun i => andW (l.getD i 0) (maskW n i)) N ?_ ?_ (List.replicate N 0) (by simp) k hk
  · simpa using this
  · intro k y i hi hy
    simp only [vec_Fit.l0]
    rw [if_pos (by omega), at_tells, mask_tells n i (by omega), Option.bind_some, Option.bind_some]
    rw [if_pos (by omega), if_pos (by omega), wrap_succ i N hi (by omega)]
    have a := hl.getD i
    have b := maskW_lt n i
    rw [u64_and _ _ a.1 a.2 (by omega) (by omega)]
    rfl
  · intro k y hy
    simp only [vec_Fit.l0]
    rw [if_neg (by omega)]

theorem andW_mask {l : List Int} (hl : Words64 l) (n : Int) (i : Nat) : 0 ≤ andW (l.getD i 0) (maskW n i) ∧ andW (l.getD i 0) (maskW n i) < 18446744073709551616 := andW_word (hl.getD i).2

/-- What a list of words is: as many as told, words all, the bits as told. -/
structure Row (r : List Int) (n : Nat) (f : Nat → Bool) : Prop where
  len : r.length = n
  words : Words64 r
  bits : ∀ i, i < 64 * n → bitAt r i = f i
theorem Row.of_range (n : Nat) (g : Nat → Int) (f : Nat → Bool) (hw : ∀ k, k < n → 0 ≤ g k ∧ g k < 18446744073709551616) (h : ∀ k t, k < n → t < 64 → (g k).toNat.testBit t = f (64 * k + t)) : Row ((List.range n).map g) n f :=
  ⟨by simp, words_of_range n g hw, bits_of_range n g f h⟩
theorem Row.bitAt_all {r : List Int} {n : Nat} {f : Nat → Bool} (h : Row r n f) (i : Nat) : bitAt r i = (decide (i < 64 * n) && f i) := by
  by_cases c : i < 64 * n
  · rw [h.bits i c, decide_eq_true c]; rfl
  · rw [bitAt_out (by rw [h.len]; omega), decide_eq_false c]; rfl
theorem Row.congr {r : List Int} {n : Nat} {f g : Nat → Bool} (h : Row r n f) (e : ∀ i, i < 64 * n → f i = g i) : Row r n g := ⟨h.len, h.words, fun i hi => (h.bits i hi).trans (e i hi)⟩

theorem fit_row {l : List Int} (hl : Words64 l) (n : Int) (k : Nat) (hk : (wid n + 63) / 64 < k) :
    ∃ r, vec_Fit.f k l n = some r ∧ Row r ((wid n + 63) / 64) (fun i => bitAt l i && decide (i < wid n)) := by
  refine ⟨_, fit_tells l n hl k hk, Row.of_range _ _ _ (fun i _ => andW_mask hl n i) fun i t hi ht => ?_⟩
  rw [andW_bit, bitAt_word _ _ _ ht, Int.toNat_natCast, maskW_bit n i t ht]

/-- The complement of a word. -/
theorem not_word {x : Int} (h0 : 0 ≤ x) (h1 : x < 18446744073709551616) : 0 ≤ Go.bits .xor .u64 18446744073709551615 x ∧ Go.bits .xor .u64 18446744073709551615 x < 18446744073709551616 ∧
    ∀ t, t < 64 → (Go.bits .xor .u64 18446744073709551615 x).toNat.testBit t = !x.toNat.testBit t := by
  rw [u64_xor _ _ (by decide) (by decide) h0 h1]
  have e : (2 : Nat) ^ 64 = 18446744073709551616 := by decide
  have p : (18446744073709551615 : Int).toNat ^^^ x.toNat < 2 ^ 64 := Nat.xor_lt_two_pow (by rw [e]; decide) (by rw [e]; omega)
  rw [e] at p
  refine ⟨by omega, by omega, fun t ht => ?_⟩
  rw [Int.toNat_natCast, Nat.testBit_xor]
  have f : (18446744073709551615 : Int).toNat = 2 ^ 64 - 1 := by rw [e]; rfl
  rw [f, Nat.testBit_two_pow_sub_one, decide_eq_true ht]
  simp
theorem not_row {l : List Int} (hl : Words64 l) (n : Int) (k : Nat) (hk : (wid n + 63) / 64 < k) :
    ∃ r, vec_Not.f k l n = some r ∧ Row r ((wid n + 63) / 64) (fun i => !bitAt l i && decide (i < wid n)) := by
  have hw : wid n ≤ 1048576 := by unfold wid; omega
  have hv : vec_Not.f k l n = some ((List.range ((wid n + 63) / 64)).map fun i => andW (Go.bits .xor .u64 18446744073709551615 (l.getD i 0)) (maskW n i)) := by
    unfold vec_Not.f
    rw [words_tells, Option.bind_some]
    generalize hN : (wid n + 63) / 64 = N at hk ⊢
    rw [if_pos (by omega), if_pos (by omega)]
    have := fill_all (fun k y i => vec_Not.l0 k l n y (N : Int) (i : Int)) (fun i => andW (Go.bits .xor .u64 18446744073709551615 (l.getD i 0)) (maskW n i)) N ?_ ?_ (List.replicate N 0) (by simp) k hk
    · simpa using this
    · intro k y i hi hy
      simp only [vec_Not.l0]
      rw [if_pos (by omega), at_tells, mask_tells n i (by omega), Option.bind_some, Option.bind_some]
      rw [if_pos (by omega), if_pos (by omega), wrap_succ i N hi (by omega)]
      have a := not_word (hl.getD i).1 (hl.getD i).2
      have b := maskW_lt n i
      rw [u64_and _ _ a.1 a.2.1 (by omega) (by omega)]
      rfl
    · intro k y hy
      simp only [vec_Not.l0]
      rw [if_neg (by omega)]
  refine ⟨_, hv, Row.of_range _ _ _ (fun i _ => andW_word (not_word (hl.getD i).1 (hl.getD i).2).2.1) fun i t hi ht => ?_⟩
  rw [andW_bit, bitAt_word _ _ _ ht, Int.toNat_natCast, maskW_bit n i t ht, (not_word (hl.getD i).1 (hl.getD i).2).2.2 t ht]
theorem nil_words : Words64 [] := fun _ h => by simp at h
theorem ones_row (n : Int) (k : Nat) (hk : (wid n + 63) / 64 < k) : ∃ r, vec_Ones.f k n = some r ∧ Row r ((wid n + 63) / 64) (fun i => decide (i < wid n)) := by
  obtain ⟨r, h1, h2⟩ := not_row nil_words n k hk
  refine ⟨r, by unfold vec_Ones.f; rw [h1, Option.bind_some], h2.congr fun i _ => ?_⟩
  rw [bitAt_out (by simp)]
  rfl

/-- And, Or of two rows of one length. -/
theorem mx_self (a : Int) : mx a a = a := by unfold mx; split <;> rfl
theorem and_row {x y : List Int} {N : Nat} {f g : Nat → Bool} (hx : Row x N f) (hy : Row y N g) (hN : N ≤ 1048576) (k : Nat) (hk : N < k) : ∃ r, vec_And.f k x y = some r ∧ Row r N (fun i => f i && g i) := by
  have hv : vec_And.f k x y = some ((List.range N).map fun i => andW (x.getD i 0) (y.getD i 0)) := by
    unfold vec_And.f
    rw [hx.len, hy.len, mx_self, if_pos (by omega), if_pos (by omega)]
    have := fill_all (fun k z i => vec_And.l0 k x y z (N : Int) (i : Int)) (fun i => andW (x.getD i 0) (y.getD i 0)) N ?_ ?_ (List.replicate N 0) (by simp) k hk
    · simpa using this
    · intro k z i hi hz
      simp only [vec_And.l0]
      rw [if_pos (by omega), at_tells, at_tells, Option.bind_some, Option.bind_some]
      rw [if_pos (by omega), if_pos (by omega), wrap_succ i N hi (by omega)]
      rw [u64_and _ _ (hx.words.getD i).1 (hx.words.getD i).2 (hy.words.getD i).1 (hy.words.getD i).2]
      rfl
    · intro k z hz
      simp only [vec_And.l0]
      rw [if_neg (by omega)]
  refine ⟨_, hv, Row.of_range _ _ _ (fun i _ => andW_word (hx.words.getD i).2) fun i t hi ht => ?_⟩
  rw [andW_bit, ← bitAt_word _ _ _ ht, ← bitAt_word _ _ _ ht, hx.bits _ (by omega), hy.bits _ (by omega)]
theorem or_row {x y : List Int} {N : Nat} {f g : Nat → Bool} (hx : Row x N f) (hy : Row y N g) (hN : N ≤ 1048576) (k : Nat) (hk : N < k) : ∃ r, vec_Or.f k x y = some r ∧ Row r N (fun i => f i || g i) := by
  have hv : vec_Or.f k x y = some ((List.range N).map fun i => orW (x.getD i 0) (y.getD i 0)) := by
    unfold vec_Or.f
    rw [hx.len, hy.len, mx_self, if_pos (by omega), if_pos (by omega)]
    have := fill_all (fun k z i => vec_Or.l0 k x y z (N : Int) (i : Int)) (fun i => orW (x.getD i 0) (y.getD i 0)) N ?_ ?_ (List.replicate N 0) (by simp) k hk
    · simpa using this
    · intro k z i hi hz
      simp only [vec_Or.l0]
      rw [if_pos (by omega), at_tells, at_tells, Option.bind_some, Option.bind_some]
      rw [if_pos (by omega), if_pos (by omega), wrap_succ i N hi (by omega)]
      rw [u64_or _ _ (hx.words.getD i).1 (hx.words.getD i).2 (hy.words.getD i).1 (hy.words.getD i).2]
      rfl
    · intro k z hz
      simp only [vec_Or.l0]
      rw [if_neg (by omega)]
  refine ⟨_, hv, Row.of_range _ _ _ (fun i _ => orW_word (hx.words.getD i).2 (hy.words.getD i).2) fun i t hi ht => ?_⟩
  rw [orW_bit, ← bitAt_word _ _ _ ht, ← bitAt_word _ _ _ ht, hx.bits _ (by omega), hy.bits _ (by omega)]
end Go.Proofs.Ytkafkbdidnkefaa.Pw
namespace Go.Proofs.Ytkafkbdidnkefaa.Pw
open Go.RowKit Go.Proofs.Ytkafkbdidnkefaa.R Go.Proofs.YtkafkbdidnkefaaW.PrintWords Tat
theorem e64 : (2 : Nat) ^ 64 = 18446744073709551616 := by decide
theorem car_congr {f f' g g' : Nat → Bool} (n : Nat) (hf : ∀ i, i < n → f i = f' i) (hg : ∀ i, i < n → g i = g' i) : car f g n = car f' g' n := by
  induction n with
  | zero => rfl
  | succ n ih =>
    rw [car, car, ih (fun i hi => hf i (by omega)) (fun i hi => hg i (by omega)), hf n (by omega), hg n (by omega)]
/-- Bits of a word in a row. -/
theorem Row.word {x : List Int} {N : Nat} {f : Nat → Bool} (h : Row x N f) (k t : Nat) (hk : k < N) (ht : t < 64) : f (64 * k + t) = (x.getD k 0).toNat.testBit t := by
  rw [← h.bits _ (by omega), bitAt_word _ _ _ ht]
theorem Row.lt {x : List Int} {N : Nat} {f : Nat → Bool} (h : Row x N f) (k : Nat) : (x.getD k 0).toNat < 2 ^ 64 := by
  have := h.words.getD k
  rw [e64]; omega
/-- Add. -/
theorem add_row {x y : List Int} {N : Nat} {f g : Nat → Bool} (hx : Row x N f) (hy : Row y N g) (hN : N ≤ 1048576) (k : Nat) (hk : N < k) : ∃ r, vec_Add.f k x y = some r ∧ Row r N (fun i => f i ^^ (g i ^^ car f g i)) := by
  let cc : Nat → Int := fun i => ((car f g (64 * i)).toNat : Int)
  let gg : Nat → Int := fun i => waddS (x.getD i 0) (y.getD i 0) (cc i)
  have hcc : ∀ i, i < N → waddC (x.getD i 0) (y.getD i 0) (cc i) = cc (i + 1) := by
    intro i hi
    show waddC _ _ ((car f g (64 * i)).toNat : Int) = ((car f g (64 * (i + 1))).toNat : Int)
    unfold waddC
    rw [Int.toNat_natCast, ← e64, word_carry_out _ _ _ (hx.lt i) (hy.lt i), ← car_word f g i _ _ (hx.lt i) (hy.lt i) (fun t ht => hx.word i t hi ht) (fun t ht => hy.word i t hi ht) 64 (Nat.le_refl _)]
    rfl
  have hv : vec_Add.f k x y = some ((List.range N).map gg) := by
    unfold vec_Add.f
    rw [hx.len, hy.len, mx_self, if_pos (by omega), if_pos (by omega)]
    have := fill_all (fun k z i => vec_Add.l0 k x y z (cc i) (N : Int) (i : Int)) gg N ?_ ?_ (List.replicate N 0) (by simp) k hk
    · simpa [cc, car] using this
    · intro k z i hi hz
      simp only [vec_Add.l0]
      have c1 : cc i ≤ 1 := by
        show ((car f g (64 * i)).toNat : Int) ≤ 1
        cases car f g (64 * i) <;> simp
      rw [if_pos (by omega), at_tells, at_tells, Option.bind_some, Option.bind_some, if_pos c1]
      rw [if_pos (by omega), if_pos (by omega), wrap_succ i N hi (by omega), hcc i hi]
      rfl
    · intro k z hz
      simp only [vec_Add.l0]
      rw [if_neg (by omega)]
  refine ⟨_, hv, Row.of_range _ _ _ (fun i hi => ?_) fun i t hi ht => ?_⟩
  · show 0 ≤ waddS _ _ _ ∧ waddS _ _ _ < _
    unfold waddS
    generalize (x.getD i 0).toNat + (y.getD i 0).toNat + (cc i).toNat = s
    omega
  · show (waddS _ _ ((car f g (64 * i)).toNat : Int)).toNat.testBit t = _
    unfold waddS
    rw [Int.toNat_natCast, Int.toNat_natCast, ← e64, word_add _ _ _ (hx.lt i) (hy.lt i) t ht, ← hx.word i t hi ht, ← hy.word i t hi ht,
      ← car_word f g i _ _ (hx.lt i) (hy.lt i) (fun t ht => hx.word i t hi ht) (fun t ht => hy.word i t hi ht) t (by omega)]
/-- Sub, of a part of the row's own bits. -/
theorem sub_row {x y : List Int} {N : Nat} {f g : Nat → Bool} (hx : Row x N f) (hy : Row y N (fun i => f i && g i)) (hN : N ≤ 1048576) (k : Nat) (hk : N < k) : ∃ r, vec_Sub.f k x y = some r ∧ Row r N (fun i => f i && !g i) := by
  have hle : ∀ i, i < N → ∃ u : Nat, (y.getD i 0).toNat = (x.getD i 0).toNat &&& u ∧ ∀ t, t < 64 → f (64 * i + t) = true → u.testBit t = g (64 * i + t) := by
    intro i hi
    refine ⟨(y.getD i 0).toNat, ?_, fun t ht hf => ?_⟩
    · apply Nat.eq_of_testBit_eq
      intro t
      rw [Nat.testBit_and]
      by_cases ht : t < 64
      · rw [← hx.word i t hi ht, ← hy.word i t hi ht]
        cases f (64 * i + t) <;> cases g (64 * i + t) <;> rfl
      · have p : 2 ^ 64 ≤ 2 ^ t := Nat.pow_le_pow_right (by decide) (by omega)
        rw [Nat.testBit_lt_two_pow (Nat.lt_of_lt_of_le (hy.lt i) p)]
        simp
    · rw [← hy.word i t hi ht, hf]; rfl
  have hws : ∀ i, i < N → wsubS (x.getD i 0) (y.getD i 0) 0 = (((x.getD i 0).toNat - (y.getD i 0).toNat : Nat) : Int) ∧ wsubC (x.getD i 0) (y.getD i 0) 0 = 0 ∧ (y.getD i 0).toNat ≤ (x.getD i 0).toNat := by
    intro i hi
    obtain ⟨u, hu, _⟩ := hle i hi
    have hb : (y.getD i 0).toNat ≤ (x.getD i 0).toNat := by rw [hu]; exact Nat.and_le_left
    have ha := hx.lt i
    rw [e64] at ha
    refine ⟨?_, ?_, hb⟩
    · unfold wsubS
      rw [Int.toNat_zero]
      congr 1
      omega
    · unfold wsubC
      rw [Int.toNat_zero, if_neg (by omega)]
      rfl
  have hv : vec_Sub.f k x y = some ((List.range N).map fun i => wsubS (x.getD i 0) (y.getD i 0) 0) := by
    unfold vec_Sub.f
    rw [hx.len, hy.len, mx_self, if_pos (by omega), if_pos (by omega)]
    have := fill_all (fun k z i => vec_Sub.l0 k x y z 0 (N : Int) (i : Int)) (fun i => wsubS (x.getD i 0) (y.getD i 0) 0) N ?_ ?_ (List.replicate N 0) (by simp) k hk
    · simpa using this
    · intro k z i hi hz
      simp only [vec_Sub.l0]
      rw [if_pos (by omega), at_tells, at_tells, Option.bind_some, Option.bind_some, if_pos (by omega)]
      rw [if_pos (by omega), if_pos (by omega), wrap_succ i N hi (by omega), (hws i hi).2.1]
      rfl
    · intro k z hz
      simp only [vec_Sub.l0]
      rw [if_neg (by omega)]
  refine ⟨_, hv, Row.of_range _ _ _ (fun i hi => ?_) fun i t hi ht => ?_⟩
  · rw [(hws i hi).1]
    have ha := hx.lt i
    rw [e64] at ha
    omega
  · obtain ⟨u, hu, hg⟩ := hle i hi
    rw [(hws i hi).1, Int.toNat_natCast, hu, word_sub_part _ _ (hx.lt i), ← hx.word i t hi ht]
    cases hf : f (64 * i + t) with
    | false => rfl
    | true => rw [hg t ht hf]
/-- Get. -/
theorem wrap_id (x : Int) (h0 : -9223372036854775808 ≤ x) (h1 : x ≤ 9223372036854775807) : wrap64 x = x := by unfold wrap64; omega
theorem u64_bit (x : Int) (h0 : 0 ≤ x) (h1 : x < 18446744073709551616) (t : Nat) (ht : t < 64) : (Go.bits .and .u64 (shr .u64 x (t : Int)) 1 == 1) = x.toNat.testBit t := by
  obtain ⟨n, rfl⟩ := Int.eq_ofNat_of_zero_le h0
  have e : shr .u64 (n : Int) (t : Int) = ((n / 2 ^ t : Nat) : Int) := by
    unfold shr
    rw [show min (t : Int).toNat IntKind.u64.bits = t by simp [IntKind.bits]; omega]
    simp
  have hq : n / 2 ^ t ≤ n := Nat.div_le_self _ _
  rw [e, Int.toNat_natCast, Nat.testBit_eq_decide_div_mod_eq]
  generalize n / 2 ^ t = q at hq
  rw [u64_and _ _ (by omega) (by omega) (by decide) (by decide), Int.toNat_natCast, show (1 : Int).toNat = 1 from rfl, Nat.and_one_is_mod]
  by_cases c : q % 2 = 1
  · rw [c, decide_eq_true rfl]; rfl
  · have : q % 2 = 0 := by omega
    rw [this]; rfl
theorem get_tells {l : List Int} (hl : Words64 l) (hn : l.length ≤ 1048576) (i : Nat) (hi : i < 64 * l.length) : vec_Get.f l (i : Int) = some (bitAt l i) := by
  have e1 : wrap64 (Int.tdiv (i : Int) 64) = ((i / 64 : Nat) : Int) := by
    rw [Int.tdiv_eq_ediv_of_nonneg (by omega), wrap_id _ (by omega) (by omega)]; omega
  have e2 : IntKind.u64.wrap (Int.tmod (i : Int) 64) = ((i % 64 : Nat) : Int) := by
    rw [Int.tmod_eq_emod_of_nonneg (by omega), u64_wrap _ (by omega) (by omega)]; omega
  unfold vec_Get.f vec_inside.f
  rw [if_pos (by omega), e1, e2, Option.bind_some, if_pos (by simp; omega), if_pos (by omega), if_pos (by omega), if_pos (by omega)]
  have h := hl.getD (i / 64)
  show some (Go.bits .and .u64 (shr .u64 (l.getD (((i / 64 : Nat) : Int)).toNat 0) _) 1 == 1) = _
  rw [Int.toNat_natCast, u64_bit _ h.1 h.2 _ (by omega)]
  rfl
/-! ### The masks -/
theorem mstep_len (b : List Int) (x : Int) (r : List Int) (j : Nat) : (mstep b x r j).length = r.length := by unfold mstep; split <;> simp
theorem mstep_row {b : List Int} {x : Int} {r : List Int} {N : Nat} {f : Nat → Bool} {j : Nat} (h : Row r N f) (hj : j < 64 * N) : Row (mstep b x r j) N (fun i => f i || (decide (i = j) && decide (b.getD j 0 = x))) := by
  unfold mstep
  by_cases c : b.getD j 0 = x
  · rw [if_pos c]
    have hw := h.words.getD (j / 64)
    have hp : 2 ^ (j % 64) < 18446744073709551616 := pow_small (Nat.mod_lt _ (by decide))
    have ev : Go.bits .or .u64 (r.getD (j / 64) 0) (2 ^ (j % 64)) = (((r.getD (j / 64) 0).toNat ||| 2 ^ (j % 64) : Nat) : Int) := by
      have ec : (2 : Int) ^ (j % 64) = ((2 ^ (j % 64) : Nat) : Int) := by simp
      rw [ec]
      generalize 2 ^ (j % 64) = q at hp
      rw [u64_or _ _ hw.1 hw.2 (by omega) (by omega), Int.toNat_natCast]
    have hlt : (r.getD (j / 64) 0).toNat ||| 2 ^ (j % 64) < 2 ^ 64 := Nat.or_lt_two_pow (h.lt _) (by rw [e64]; exact hp)
    rw [e64] at hlt
    refine ⟨by rw [List.length_set, h.len], fun w hw' => ?_, fun i hi => ?_⟩
    · rcases List.mem_or_eq_of_mem_set hw' with hm | rfl
      · exact h.words w hm
      · rw [ev]; omega
    · unfold bitAt
      have hjl : j / 64 < r.length := by rw [h.len]; omega
      by_cases d : i / 64 = j / 64
      · rw [d, List.getD_eq_getElem?_getD, List.getElem?_set_self hjl, Option.getD_some, ev, Int.toNat_natCast, Nat.testBit_or, Nat.testBit_two_pow, ← d]
        have := h.bits i hi
        unfold bitAt at this
        rw [this, decide_eq_true c, Bool.and_true]
        congr 1
        by_cases q : i = j
        · subst q; simp
        · rw [decide_eq_false q, decide_eq_false (by omega)]
      · rw [List.getD_eq_getElem?_getD, List.getElem?_set_ne (fun q => d q.symm), ← List.getD_eq_getElem?_getD]
        have := h.bits i hi
        unfold bitAt at this
        rw [this, decide_eq_false (show ¬ i = j from fun q => d (by rw [q]))]
        simp
  · rw [if_neg c]
    exact h.congr fun i _ => by rw [decide_eq_false c]; simp
theorem zeros_row (N : Nat) : Row (List.replicate N (0 : Int)) N (fun _ => false) := by
  refine ⟨by simp, fun w hw => ?_, fun i hi => ?_⟩
  · rw [List.eq_of_mem_replicate hw]; decide
  · unfold bitAt
    rw [List.getD_eq_getElem?_getD, List.getElem?_replicate, if_pos (by omega)]
    simp
theorem mrowK_row (b : List Int) (x : Int) (K : Nat) (hK : K ≤ b.length) : Row (mrowK b x K) ((b.length + 63) / 64) (fun i => decide (i < K) && decide (b.getD i 0 = x)) := by
  induction K with
  | zero => exact (zeros_row _).congr fun i _ => by simp
  | succ K ih =>
    unfold mrowK at ih ⊢
    rw [List.range_succ, List.foldl_append, List.foldl_cons, List.foldl_nil]
    refine (mstep_row (ih (by omega)) (by omega)).congr fun i _ => ?_
    by_cases c : i = K
    · subst c; simp
    · rw [decide_eq_false c, Bool.false_and, Bool.or_false]
      congr 1
      rw [decide_eq_decide]
      omega
theorem mrow_words (b : List Int) (x : Int) : Words64 (mrow b x) := by
  unfold mrow
  split
  · exact (mrowK_row b x b.length (Nat.le_refl _)).words
  · exact nil_words
theorem mrow_bit (b : List Int) (x : Int) (j : Nat) (hj : j < b.length) : bitAt (mrow b x) j = decide (b.getD j 0 = x) := by
  unfold mrow
  by_cases c : x ∈ b
  · rw [if_pos c, (mrowK_row b x b.length (Nat.le_refl _)).bits j (by omega), decide_eq_true hj, Bool.true_and]
  · rw [if_neg c, bitAt_out (by simp), decide_eq_false]
    intro h
    apply c
    rw [← h, List.getD_eq_getElem?_getD, List.getElem?_eq_getElem hj]
    exact List.getElem_mem hj
/-! ### The rows of the table -/
/-- The row of the table at place i. -/
def Tabrow (a b : List Int) (i : Nat) (r : List Int) : Prop := Row r ((b.length + 63) / 64) (fun j => decide (j < b.length) && rowBit a b i j)
theorem wid_len {b : List Int} (h : b.length ≤ 1048576) : wid (b.length : Int) = b.length := by unfold wid; omega
theorem ones_tab (a b : List Int) (h : b.length ≤ 1048576) (k : Nat) (hk : 16400 ≤ k) : ∃ r, vec_Ones.f k (b.length : Int) = some r ∧ Tabrow a b 0 r := by
  obtain ⟨r, h1, h2⟩ := ones_row (b.length : Int) k (by rw [wid_len h]; omega)
  rw [wid_len h] at h2
  refine ⟨r, h1, h2.congr fun i _ => ?_⟩
  unfold rowBit
  rw [ahd_zero_left, ahd_zero_left, decide_eq_true rfl, Bool.and_true]
theorem of_tab (a b : List Int) (i : Nat) (h : b.length ≤ 1048576) (k : Nat) (hk : 16400 ≤ k) :
    ∃ r, mask_Masks_Of.f k b (a.getD i 0) = some r ∧ Row r ((b.length + 63) / 64) (fun j => decide (j < b.length) && decide (b.getD j 0 = a.getD i 0)) := by
  obtain ⟨r, h1, h2⟩ := fit_row (mrow_words b (a.getD i 0)) (b.length : Int) k (by rw [wid_len h]; omega)
  rw [wid_len h] at h2
  refine ⟨r, h1, h2.congr fun j _ => ?_⟩
  by_cases c : j < b.length
  · rw [decide_eq_true c, mrow_bit b _ j c, Bool.and_true, Bool.true_and]
  · rw [decide_eq_false c]; simp
theorem row_next {a b : List Int} {i : Nat} (hi : i < a.length) (j : Nat) :
    (decide (j < b.length) && (((decide (j < b.length) && rowBit a b i j) ^^ (((decide (j < b.length) && rowBit a b i j) && (decide (j < b.length) && decide (b.getD j 0 = a.getD i 0))) ^^
      car (fun j => decide (j < b.length) && rowBit a b i j) (fun j => (decide (j < b.length) && rowBit a b i j) && (decide (j < b.length) && decide (b.getD j 0 = a.getD i 0))) j)) ||
      ((decide (j < b.length) && rowBit a b i j) && !(decide (j < b.length) && decide (b.getD j 0 = a.getD i 0))))) = (decide (j < b.length) && rowBit a b (i + 1) j) := by
  by_cases c : j < b.length
  · have gb : ∀ j (h : j < b.length), b.getD j 0 = b[j] := fun j h => by rw [List.getD_eq_getElem?_getD, List.getElem?_eq_getElem h]; rfl
    have ga : a.getD i 0 = a[i] := by rw [List.getD_eq_getElem?_getD, List.getElem?_eq_getElem hi]; rfl
    have := next_row (a := a) (b := b) hi (v := fun j => decide (j < b.length) && rowBit a b i j) (u := fun j => decide (j < b.length) && decide (b.getD j 0 = a.getD i 0))
      (fun j h => by simp [h]) (fun j h => by simp only [h, decide_true, Bool.true_and]; rw [gb j h, ga]) j c
    rw [← this, decide_eq_true c]
  · rw [decide_eq_false c, Bool.false_and, Bool.false_and]
theorem fit_tab {a b : List Int} {i : Nat} {v : List Int} (hv : Tabrow a b i v) (h : b.length ≤ 1048576) (k : Nat) (hk : 16400 ≤ k) : ∃ r, vec_Fit.f k v (b.length : Int) = some r ∧ Tabrow a b i r := by
  obtain ⟨r, h1, h2⟩ := fit_row hv.words (b.length : Int) k (by rw [wid_len h]; omega)
  rw [wid_len h] at h2
  refine ⟨r, h1, h2.congr fun j hj => ?_⟩
  rw [hv.bits j hj]
  cases decide (j < b.length) <;> simp
theorem fit_same {b u : List Int} {g : Nat → Bool} (hu : Row u ((b.length + 63) / 64) (fun j => decide (j < b.length) && g j)) (h : b.length ≤ 1048576) (k : Nat) (hk : 16400 ≤ k) :
    ∃ r, vec_Fit.f k u (b.length : Int) = some r ∧ Row r ((b.length + 63) / 64) (fun j => decide (j < b.length) && g j) := by
  obtain ⟨r, h1, h2⟩ := fit_row hu.words (b.length : Int) k (by rw [wid_len h]; omega)
  rw [wid_len h] at h2
  refine ⟨r, h1, h2.congr fun j hj => ?_⟩
  rw [hu.bits j hj]
  cases decide (j < b.length) <;> simp
theorem hyyro_tab {a b : List Int} {i : Nat} (hi : i < a.length) (h : b.length ≤ 1048576) {v u : List Int} (hv : Tabrow a b i v)
    (hu : Row u ((b.length + 63) / 64) (fun j => decide (j < b.length) && decide (b.getD j 0 = a.getD i 0))) (k : Nat) (hk : 16400 ≤ k) :
    ∃ r, hyyro_Row.f k v u (b.length : Int) = some r ∧ Tabrow a b (i + 1) r := by
  have hN : (b.length + 63) / 64 ≤ 16385 := by omega
  obtain ⟨v', e1, r1⟩ := fit_tab hv h k hk
  obtain ⟨u', e2, r2⟩ := fit_same hu h k hk
  obtain ⟨x, e3, r3⟩ := and_row r1 r2 (by omega) k (by omega)
  obtain ⟨s, e4, r4⟩ := add_row r1 r3 (by omega) k (by omega)
  obtain ⟨d, e5, r5⟩ := sub_row r1 r3 (by omega) k (by omega)
  obtain ⟨o, e6, r6⟩ := or_row r4 r5 (by omega) k (by omega)
  obtain ⟨z, e7, r7⟩ := fit_row r6.words (b.length : Int) k (by rw [wid_len h]; omega)
  refine ⟨z, ?_, ?_⟩
  · unfold hyyro_Row.f
    rw [e1, Option.bind_some, e2, Option.bind_some, e3, Option.bind_some, e4, Option.bind_some, e5, Option.bind_some, e6, Option.bind_some, e7, Option.bind_some]
  · rw [wid_len h] at r7
    refine r7.congr fun j hj => ?_
    rw [r6.bits j hj, Bool.and_comm]
    exact row_next hi j
theorem croch_tab {a b : List Int} {i : Nat} (hi : i < a.length) (h : b.length ≤ 1048576) {v u : List Int} (hv : Tabrow a b i v)
    (hu : Row u ((b.length + 63) / 64) (fun j => decide (j < b.length) && decide (b.getD j 0 = a.getD i 0))) (k : Nat) (hk : 16400 ≤ k) :
    ∃ r, croch_Row.f k v u (b.length : Int) = some r ∧ Tabrow a b (i + 1) r := by
  have hN : (b.length + 63) / 64 ≤ 16385 := by omega
  obtain ⟨v', e1, r1⟩ := fit_tab hv h k hk
  obtain ⟨u', e2, r2⟩ := fit_same hu h k hk
  obtain ⟨x, e3, r3⟩ := and_row r1 r2 (by omega) k (by omega)
  obtain ⟨s, e4, r4⟩ := add_row r1 r3 (by omega) k (by omega)
  obtain ⟨n, e5, r5⟩ := not_row r2.words (b.length : Int) k (by rw [wid_len h]; omega)
  rw [wid_len h] at r5
  obtain ⟨d, e6, r6⟩ := and_row r1 r5 (by omega) k (by omega)
  obtain ⟨o, e7, r7⟩ := or_row r4 r6 (by omega) k (by omega)
  obtain ⟨z, e8, r8⟩ := fit_row r7.words (b.length : Int) k (by rw [wid_len h]; omega)
  refine ⟨z, ?_, ?_⟩
  · unfold croch_Row.f
    rw [e1, Option.bind_some, e2, Option.bind_some, e3, Option.bind_some, e4, Option.bind_some, e5, Option.bind_some, e6, Option.bind_some, e7, Option.bind_some, e8, Option.bind_some]
  · rw [wid_len h] at r8
    refine r8.congr fun j hj => ?_
    rw [r7.bits j hj, r2.bits j hj, Bool.and_comm, ← row_next hi j]
    cases decide (j < b.length) <;> simp
theorem next_tab {a b : List Int} {i : Nat} (hi : i < a.length) (h : b.length ≤ 1048576) (kind : Int) {v u : List Int} (hv : Tabrow a b i v)
    (hu : Row u ((b.length + 63) / 64) (fun j => decide (j < b.length) && decide (b.getD j 0 = a.getD i 0))) (k : Nat) (hk : 16400 ≤ k) :
    ∃ r, walk_row.f k kind v u (b.length : Int) = some r ∧ Tabrow a b (i + 1) r := by
  unfold walk_row.f
  by_cases c : kind = 1
  · rw [if_pos c]
    obtain ⟨r, h1, h2⟩ := croch_tab hi h hv hu k hk
    exact ⟨r, by rw [h1, Option.bind_some], h2⟩
  · rw [if_neg c]
    obtain ⟨r, h1, h2⟩ := hyyro_tab hi h hv hu k hk
    exact ⟨r, by rw [h1, Option.bind_some], h2⟩
end Go.Proofs.Ytkafkbdidnkefaa.Pw
namespace Go.Proofs.Ytkafkbdidnkefaa.Pw
open Go.RowKit Go.Proofs.Ytkafkbdidnkefaa.R Go.Proofs.YtkafkbdidnkefaaW.PrintWords Tat
/-! ### A list turned round in its own memory -/
theorem getD_set {α : Type} (l : List α) (i j : Nat) (v d : α) (hi : i < l.length) : (l.set i v).getD j d = if j = i then v else l.getD j d := by
  rw [List.getD_eq_getElem?_getD, List.getD_eq_getElem?_getD]
  by_cases c : j = i
  · subst c; rw [if_pos rfl, List.getElem?_set_self hi]; rfl
  · rw [if_neg c, List.getElem?_set_ne (fun q => c q.symm)]
theorem turn_loop (l : List S29) (hl : l.length ≤ 9223372036854775807) : ∀ (d k i : Nat) (x : List S29), l.length - i = d → d < k → i ≤ l.length → x.length = l.length →
    (∀ t, t < l.length → x.getD t z29 = if t < i ∨ l.length - 1 - i < t then l.getD (l.length - 1 - t) z29 else l.getD t z29) → api_Pair.l0 k x (i : Int) ((l.length : Int) - 1 - i) = some l.reverse := by
  intro d
  induction d with
  | zero =>
    intro k i x hd hk hi hx h
    obtain ⟨k, rfl⟩ : ∃ m, k = m + 1 := ⟨k - 1, by omega⟩
    rw [api_Pair.l0, if_neg (by omega)]
    congr 1
    apply List.ext_getElem (by simp [hx])
    intro t h1 h2
    have ht : t < l.length := by omega
    have := h t ht
    rw [if_pos (by omega), List.getD_eq_getElem?_getD, List.getElem?_eq_getElem h1, List.getD_eq_getElem?_getD, List.getElem?_eq_getElem (by omega)] at this
    rw [List.getElem_reverse]
    exact this
  | succ d ih =>
    intro k i x hd hk hi hx h
    obtain ⟨k, rfl⟩ : ∃ m, k = m + 1 := ⟨k - 1, by omega⟩
    by_cases c : (i : Int) < (l.length : Int) - 1 - i
    · rw [api_Pair.l0, if_pos c, if_pos (by omega), if_pos (by omega), if_pos (by omega), if_pos (by omega)]
      rw [wrap_id _ (by omega) (by omega), wrap_id _ (by omega) (by omega), show (i : Int) + 1 = ((i + 1 : Nat) : Int) by omega, show (l.length : Int) - 1 - i - 1 = (l.length : Int) - 1 - ((i + 1 : Nat) : Int) by omega]
      have ej : ((l.length : Int) - 1 - i).toNat = l.length - 1 - i := by omega
      refine ih k (i + 1) _ (by omega) (by omega) (by omega) (by simp [hx]) fun t ht => ?_
      unfold rd_T29
      rw [ej, Int.toNat_natCast, getD_set _ _ _ _ _ (by rw [List.length_set]; omega), getD_set _ _ _ _ _ (by omega)]
      show (if t = l.length - 1 - i then x.getD i z29 else if t = i then x.getD (l.length - 1 - i) z29 else x.getD t z29) = _
      by_cases c1 : t = l.length - 1 - i
      · rw [if_pos c1, if_pos (by omega), h i (by omega), if_neg (by omega)]
        congr 1; omega
      · rw [if_neg c1]
        by_cases c2 : t = i
        · rw [if_pos c2, if_pos (by omega), h (l.length - 1 - i) (by omega), if_neg (by omega)]
          congr 1; omega
        · rw [if_neg c2, h t ht]
          by_cases c3 : t < i ∨ l.length - 1 - i < t
          · rw [if_pos c3, if_pos (by omega)]
          · rw [if_neg c3, if_neg (by omega)]
    · rw [api_Pair.l0, if_neg c]
      congr 1
      apply List.ext_getElem (by simp [hx])
      intro t h1 h2
      have ht : t < l.length := by omega
      have := h t ht
      rw [List.getElem_reverse]
      by_cases c3 : t < i ∨ l.length - 1 - i < t
      · rw [if_pos c3, List.getD_eq_getElem?_getD, List.getElem?_eq_getElem h1, List.getD_eq_getElem?_getD, List.getElem?_eq_getElem (by omega)] at this
        exact this
      · have e : l.length - 1 - t = t := by omega
        rw [if_neg c3, List.getD_eq_getElem?_getD, List.getElem?_eq_getElem h1, List.getD_eq_getElem?_getD, List.getElem?_eq_getElem ht] at this
        simp only [e]
        exact this
theorem turn_tells (l : List S29) (hl : l.length ≤ 9223372036854775807) (k : Nat) (hk : l.length < k) : api_Pair.f k l = some l.reverse := by
  unfold api_Pair.f
  rw [wrap_id _ (by omega) (by omega)]
  have := turn_loop l hl l.length k 0 l (by omega) hk (by omega) rfl (fun t ht => by rw [if_neg (by omega)])
  simpa using this
/-! ### Steps -/
theorem steps_tells (n m : Nat) (hn : n ≤ 1048576) (hm : m ≤ 1048576) : hyyro_Steps.f (n : Int) (m : Int) = some ((n * ((m + 63) / 64) : Nat) : Int) := by
  unfold hyyro_Steps.f hyyro_is.f
  have hp : n * ((m + 63) / 64) ≤ 1048576 * 16385 := Nat.mul_le_mul hn (by omega)
  rw [if_pos (by omega), Option.bind_some, if_pos (by simp; omega), if_pos (by omega), Option.bind_some, if_pos (by simp; omega), words_tells, Option.bind_some,
    show wid (m : Int) = m by unfold wid; omega, ← Int.natCast_mul, wrap_id _ (by omega) (by omega)]
/-! ### The way back -/
def toP (p : Nat × Nat) : S29 := ⟨(p.1 : Int), (p.2 : Int)⟩
/-- Rows from one on. -/
def Rows (a b : List Int) (from' : Nat) (rows : List (List Int)) : Prop := ∀ t, t < rows.length → Tabrow a b (from' + t) (rows.getD t [])
theorem getD_at (l : List Int) (i : Nat) (h : i < l.length) : l.getD i 0 = l[i] := by rw [List.getD_eq_getElem?_getD, List.getElem?_eq_getElem h]; rfl
theorem back_loop (kind : Int) (a b : List Int) (ev : Int) (b4 : List Int) (kept : List (List Int)) (x18 : Int) (fr tn : Nat) (rows : List (List Int)) (ha : a.length ≤ 1048576) (hb : b.length ≤ 1048576)
    (hto : tn ≤ a.length) (hrl : rows.length = tn - fr + 1) (hr : Rows a b fr rows) : ∀ (d i j : Nat) (acc : List (Nat × Nat)), i + j = d → fr ≤ i → i ≤ tn → j ≤ b.length → acc.length + i ≤ 1048576 →
    ∃ (j' : Nat) (acc' : List (Nat × Nat)) (c : Nat), j' ≤ b.length ∧ acc'.length + fr ≤ 1048576 ∧ acc' ++ way a b fr j' = acc ++ way a b i j ∧
      ∀ k, walk_Run_rest.l3 (k + c) kind a b ev b4 kept (acc.map toP) (j : Int) x18 (fr : Int) rows (i : Int) = walk_Run_rest.l1 k kind a b ev b4 kept (acc'.map toP) (j' : Int) (wrap64 (x18 - 1)) := by
  intro d
  induction d using Nat.strongRecOn with
  | _ d ih =>
  intro i j acc hd h1 h2 h3 h4
  by_cases ci : fr < i
  · by_cases cj : 0 < j
    · obtain ⟨i, rfl⟩ : ∃ i', i = i' + 1 := ⟨i - 1, by omega⟩
      obtain ⟨j, rfl⟩ : ∃ j', j = j' + 1 := ⟨j - 1, by omega⟩
      have e1 : wrap64 (((i + 1 : Nat) : Int) - 1) = (i : Int) := by rw [wrap_id _ (by omega) (by omega)]; omega
      have e2 : wrap64 (((j + 1 : Nat) : Int) - 1) = (j : Int) := by rw [wrap_id _ (by omega) (by omega)]; omega
      have e3 : wrap64 (((i + 1 : Nat) : Int) - (fr : Int)) = ((i + 1 - fr : Nat) : Int) := by rw [wrap_id _ (by omega) (by omega)]; omega
      have ht := hr (i + 1 - fr) (by omega)
      rw [show fr + (i + 1 - fr) = i + 1 by omega] at ht
      have hg : vec_Get.f (rd_L2 rows ((i + 1 - fr : Nat) : Int)) (j : Int) = some (rowBit a b (i + 1) j) := by
        unfold rd_L2
        rw [Int.toNat_natCast, get_tells ht.words (by rw [ht.len]; omega) j (by rw [ht.len]; omega), ht.bits j (by omega), decide_eq_true (by omega), Bool.true_and]
      have hstep : ∀ k, walk_Run_rest.l3 (k + 2) kind a b ev b4 kept (acc.map toP) ((j + 1 : Nat) : Int) x18 (fr : Int) rows ((i + 1 : Nat) : Int) =
          if rowBit a b (i + 1) j = true then walk_Run_rest.l3 k kind a b ev b4 kept (acc.map toP) (j : Int) x18 (fr : Int) rows ((i + 1 : Nat) : Int)
          else if a.getD i 0 = b.getD j 0 then walk_Run_rest.l3 k kind a b ev b4 kept (acc.map toP ++ [toP (i, j)]) (j : Int) x18 (fr : Int) rows (i : Int)
          else walk_Run_rest.l3 k kind a b ev b4 kept (acc.map toP) ((j + 1 : Nat) : Int) x18 (fr : Int) rows (i : Int) := by
        intro k
        rw [walk_Run_rest.l3, if_pos (by omega), decide_eq_true (by omega), walk_Run_rest.j4, if_pos rfl, e1, e2, e3, if_pos (by omega), if_pos (by omega), hg, Option.bind_some]
        by_cases c0 : rowBit a b (i + 1) j = true
        · rw [if_pos c0, if_pos c0]
        · rw [if_neg c0, if_neg c0, if_pos (by omega), if_pos (by omega), if_pos (by omega), if_pos (by omega), if_pos (show (acc.map toP).length < 8796093022208 by rw [List.length_map]; omega)]
          rfl
      by_cases c1 : ahd a b (i + 1) (j + 1) = ahd a b (i + 1) j
      · obtain ⟨j', acc', c, p1, p2, p3, p4⟩ := ih (i + 1 + j) (by omega) (i + 1) j acc rfl (by omega) h2 (by omega) h4
        refine ⟨j', acc', c + 2, p1, p2, by rw [p3, way_left c1], fun k => ?_⟩
        rw [← Nat.add_assoc, hstep, if_pos (by unfold rowBit; exact decide_eq_true c1), p4]
      · have n1 : ¬ rowBit a b (i + 1) j = true := by unfold rowBit; rw [decide_eq_false c1]; decide
        have ea : a[i]? = some (a.getD i 0) := by rw [getD_at _ _ (by omega)]; exact List.getElem?_eq_getElem (by omega)
        have eb : b[j]? = some (b.getD j 0) := by rw [getD_at _ _ (by omega)]; exact List.getElem?_eq_getElem (by omega)
        by_cases c2 : a.getD i 0 = b.getD j 0
        · obtain ⟨j', acc', c, p1, p2, p3, p4⟩ := ih (i + j) (by omega) i j (acc ++ [(i, j)]) rfl (by omega) (by omega) (by omega) (by simp; omega)
          refine ⟨j', acc', c + 2, p1, p2, by rw [p3, way_pair c1 (by rw [ea, eb, c2]), List.append_assoc]; rfl, fun k => ?_⟩
          rw [← Nat.add_assoc, hstep, if_neg n1, if_pos c2, ← p4, List.map_append]
          rfl
        · obtain ⟨j', acc', c, p1, p2, p3, p4⟩ := ih (i + (j + 1)) (by omega) i (j + 1) acc rfl (by omega) (by omega) h3 (by omega)
          refine ⟨j', acc', c + 2, p1, p2, by rw [p3, way_up c1 (fun q => c2 (by rw [ea, eb] at q; exact Option.some.inj q))], fun k => ?_⟩
          rw [← Nat.add_assoc, hstep, if_neg n1, if_neg c2, p4]
    · obtain rfl : j = 0 := by omega
      refine ⟨0, acc, 2, by omega, by omega, by rw [way_zero_right, way_zero_right], fun k => ?_⟩
      rw [walk_Run_rest.l3, if_pos (by omega), decide_eq_false (by omega), walk_Run_rest.j4, if_neg (by decide)]
  · obtain rfl : i = fr := by omega
    refine ⟨j, acc, 2, h3, by omega, rfl, fun k => ?_⟩
    rw [walk_Run_rest.l3, if_neg (by omega), walk_Run_rest.j4, if_neg (by decide)]
end Go.Proofs.Ytkafkbdidnkefaa.Pw
namespace Go.Proofs.Ytkafkbdidnkefaa.Pw
open Go.RowKit Go.Proofs.Ytkafkbdidnkefaa.R Go.Proofs.YtkafkbdidnkefaaW.PrintWords Tat
/-! ### The rows again, from a kept one on -/
theorem rows_append {a b : List Int} {fr : Nat} {rows : List (List Int)} {v : List Int} (hr : Rows a b fr rows) (hv : Tabrow a b (fr + rows.length) v) : Rows a b fr (rows ++ [v]) := by
  intro t ht
  rw [List.length_append, List.length_singleton] at ht
  rw [List.getD_eq_getElem?_getD]
  by_cases c : t < rows.length
  · rw [List.getElem?_append_left c, ← List.getD_eq_getElem?_getD]; exact hr t c
  · obtain rfl : t = rows.length := by omega
    rw [List.getElem?_append_right (Nat.le_refl _), Nat.sub_self]
    exact hv
theorem again_loop (kind : Int) (a b : List Int) (ev : Int) (kept : List (List Int)) (acc : List S29) (x17 x18 : Int) (fr tn : Nat) (ha : a.length ≤ 1048576) (hb : b.length ≤ 1048576) (hto : tn ≤ a.length) :
    ∀ (d t : Nat) (rows : List (List Int)), tn - (fr + t) = d → fr + t ≤ tn → rows.length = t + 1 → Rows a b fr rows →
    ∃ (rows' : List (List Int)) (c : Nat), rows'.length = tn - fr + 1 ∧ Rows a b fr rows' ∧
      ∀ k, 16400 ≤ k → walk_Run_rest.l2 (k + c) kind a b ev b kept acc x17 x18 (fr : Int) (tn : Int) rows ((fr + t : Nat) : Int) = walk_Run_rest.l3 k kind a b ev b kept acc x17 x18 (fr : Int) rows' (tn : Int) := by
  intro d
  induction d with
  | zero =>
    intro t rows hd ht hl hr
    refine ⟨rows, 1, by omega, hr, fun k _ => ?_⟩
    rw [walk_Run_rest.l2, if_neg (by omega)]
  | succ d ih =>
    intro t rows hd ht hl hr
    have e3 : wrap64 (((fr + t : Nat) : Int) - (fr : Int)) = (t : Int) := by rw [wrap_id _ (by omega) (by omega)]; omega
    have hv := hr t (by omega)
    obtain ⟨u, hu1, hu2⟩ : ∃ u, (∀ k, 16400 ≤ k → mask_Masks_Of.f k b (a.getD (fr + t) 0) = some u) ∧ Row u ((b.length + 63) / 64) (fun j => decide (j < b.length) && decide (b.getD j 0 = a.getD (fr + t) 0)) := by
      obtain ⟨u, h1, h2⟩ := of_tab a b (fr + t) hb 16400 (Nat.le_refl _)
      refine ⟨u, fun k hk => ?_, h2⟩
      obtain ⟨u', h1', h2'⟩ := of_tab a b (fr + t) hb k hk
      rw [h1', words_ext (by rw [h2'.len, h2.len]) h2'.words h2.words (fun i hi => by rw [h2'.len] at hi; rw [h2'.bits i hi, h2.bits i hi])]
    obtain ⟨v, hv1, hv2⟩ : ∃ v, (∀ k, 16400 ≤ k → walk_row.f k kind (rows.getD t []) u (b.length : Int) = some v) ∧ Tabrow a b (fr + t + 1) v := by
      obtain ⟨v, h1, h2⟩ := next_tab (by omega) hb kind hv hu2 16400 (Nat.le_refl _)
      refine ⟨v, fun k hk => ?_, h2⟩
      obtain ⟨v', h1', h2'⟩ := next_tab (by omega) hb kind hv hu2 k hk
      rw [h1', words_ext (by rw [h2'.len, h2.len]) h2'.words h2.words (fun i hi => by rw [h2'.len] at hi; rw [h2'.bits i hi, h2.bits i hi])]
    obtain ⟨rows', c, q1, q2, q3⟩ := ih (t + 1) (rows ++ [v]) (by omega) (by omega) (by simp [hl]) (rows_append hr (by rw [hl]; exact hv2))
    refine ⟨rows', c + 1, q1, q2, fun k hk => ?_⟩
    have er : rd a ((fr + t : Nat) : Int) = a.getD (fr + t) 0 := by unfold rd; rw [Int.toNat_natCast]
    have er2 : rd_L2 rows (t : Int) = rows.getD t [] := by unfold rd_L2; rw [Int.toNat_natCast]
    rw [← Nat.add_assoc, walk_Run_rest.l2, if_pos (by omega), e3, if_pos (by omega), if_pos (by omega), if_pos (by omega), if_pos (by omega), er, hu1 _ (by omega), Option.bind_some, er2, hv1 _ (by omega), Option.bind_some,
      if_pos (by omega), wrap_id _ (by omega) (by omega), show ((fr + t : Nat) : Int) + 1 = ((fr + (t + 1) : Nat) : Int) by omega, q3 k hk]
/-- A fact kept out of sight. -/
structure Veil (p : Prop) : Prop where
  out : p
/-! ### From kept row to kept row -/
/-- The rows that are kept: each so many'th. -/
def KeptRows (a b : List Int) (s : Nat) (kept : List (List Int)) : Prop := ∀ t, t < kept.length → t * s < a.length ∧ Tabrow a b (t * s) (kept.getD t [])
def fin (kind : Int) (a b : List Int) (k : Nat) (l : List (Nat × Nat)) : Option ((List S29) × Int × Int) :=
  (api_Pair.f k (l.map toP)).bind fun t => ((hyyro_Steps.f (a.length : Int) (b.length : Int)).bind fun u => (some (t, wrap64 (2 * u), 0)))
theorem kept_back (kind : Int) (a b : List Int) (s : Nat) (kept : List (List Int)) (ha : a.length ≤ 1048576) (hb : b.length ≤ 1048576) (hs : 1 ≤ s) (hs2 : s ≤ 1048576) (hk : KeptRows a b s kept) :
    ∀ (K : Nat) (acc : List (Nat × Nat)) (j : Nat), K ≤ kept.length → j ≤ b.length → acc.length + min (K * s) a.length ≤ 1048576 → ∃ c, ∀ k, 16400 ≤ k →
      walk_Run_rest.l1 (k + c) kind a b (s : Int) b kept (acc.map toP) (j : Int) ((K : Int) - 1) = fin kind a b k (acc ++ way a b (min (K * s) a.length) j) := by
  intro K
  induction K with
  | zero =>
    intro acc j _ _ _
    refine ⟨1, fun k _ => ?_⟩
    rw [walk_Run_rest.l1, if_neg (by omega), Nat.zero_mul, Nat.zero_min, way_zero_left, List.append_nil]
    rfl
  | succ K ih =>
    intro acc j hK hj hacc
    obtain ⟨h1, h2⟩ := hk K (by omega)
    have hm : (K + 1) * s = K * s + s := Nat.succ_mul K s
    rw [hm] at hacc
    have e1 : Veil (wrap64 ((((K + 1 : Nat) : Int) - 1) * (s : Int)) = ((K * s : Nat) : Int)) := by
      refine ⟨?_⟩
      rw [show (((K + 1 : Nat) : Int) - 1) = (K : Int) by omega, ← Int.natCast_mul, wrap_id _ (by omega) (by omega)]
    have e2 : Veil (mn (wrap64 (((K * s : Nat) : Int) + (s : Int))) (a.length : Int) = ((min (K * s + s) a.length : Nat) : Int)) := by
      refine ⟨?_⟩
      rw [wrap_id _ (by omega) (by omega)]
      unfold mn
      split <;> omega
    have e3 : rd_L2 kept (((K + 1 : Nat) : Int) - 1) = kept.getD K [] := by
      unfold rd_L2
      rw [show (((K + 1 : Nat) : Int) - 1).toNat = K by omega]
    have h5 : Rows a b (K * s) [kept.getD K []] := by
      intro t ht
      have ht0 : t = 0 := by simpa using ht
      rw [ht0, Nat.add_zero]
      exact h2
    have h7 : K ≤ K * s := Nat.le_mul_of_pos_right K hs
    have h6 : K * s + 0 ≤ min (K * s + s) a.length := by omega
    obtain ⟨rows, c1, q1, q2, q3⟩ := again_loop kind a b (s : Int) kept (acc.map toP) (j : Int) (((K + 1 : Nat) : Int) - 1) (K * s) (min (K * s + s) a.length) ha hb (Nat.min_le_right _ _) (min (K * s + s) a.length - (K * s + 0)) 0 [kept.getD K []] rfl
      h6 rfl h5
    obtain ⟨j', acc', c2, p1, p2, p3, p4⟩ := back_loop kind a b (s : Int) b kept (((K + 1 : Nat) : Int) - 1) (K * s) (min (K * s + s) a.length) rows ha hb (Nat.min_le_right _ _) q1 q2 _ (min (K * s + s) a.length) j acc rfl (by omega) (Nat.le_refl _) hj hacc
    obtain ⟨c3, r3⟩ := ih acc' j' (by omega) p1 (by omega)
    refine ⟨c3 + c2 + c1 + 1, fun k hk' => ?_⟩
    rw [show k + (c3 + c2 + c1 + 1) = (k + c3 + c2 + c1) + 1 by omega, walk_Run_rest.l1, if_pos (by omega), if_pos (by omega), if_pos (by omega), e1.out, e2.out, e3]
    have := q3 (k + c3 + c2) (by omega)
    simp only [Nat.add_zero] at this
    rw [this, p4, wrap_id _ (by omega) (by omega), show (((K + 1 : Nat) : Int) - 1 - 1) = (K : Int) - 1 by omega, r3 k hk', hm, ← p3, Nat.min_eq_left (show K * s ≤ a.length by omega)]
end Go.Proofs.Ytkafkbdidnkefaa.Pw
namespace Go.Proofs.Ytkafkbdidnkefaa.Pw
open Go.RowKit Go.Proofs.Ytkafkbdidnkefaa.R Go.Proofs.YtkafkbdidnkefaaW.PrintWords Tat
/-! ### The way down -/
theorem down_loop (kind : Int) (a b : List Int) (s : Nat) (ha : a.length ≤ 1048576) (hb : b.length ≤ 1048576) (hs : 1 ≤ s) (hs2 : s ≤ 1048576) :
    ∀ (d i : Nat) (v : List Int) (kept : List (List Int)), a.length - i = d → i ≤ a.length → Tabrow a b i v → KeptRows a b s kept → kept.length = (i + s - 1) / s →
    ∃ (kept' : List (List Int)) (c : Nat), KeptRows a b s kept' ∧ kept'.length = (a.length + s - 1) / s ∧
      ∀ k, 16400 ≤ k → walk_Run_rest.l0 (k + c) kind a b (s : Int) b v kept a (a.length : Int) (i : Int) = walk_Run_rest.l1 k kind a b (s : Int) b kept' ([] : List S29) (b.length : Int) ((kept'.length : Int) - 1) := by
  intro d
  induction d with
  | zero =>
    intro i v kept hd hi hv hk hl
    obtain rfl : i = a.length := by omega
    have : kept.length ≤ a.length + s := by rw [hl]; exact Nat.le_trans (Nat.div_le_self _ _) (by omega)
    refine ⟨kept, 1, hk, hl, fun k _ => ?_⟩
    rw [walk_Run_rest.l0, if_neg (by omega), wrap_id _ (by omega) (by omega)]
  | succ d ih =>
    intro i v kept hd hi hv hk hl
    have hkl : kept.length ≤ i + s := by rw [hl]; exact Nat.le_trans (Nat.div_le_self _ _) (by omega)
    obtain ⟨u, hu1, hu2⟩ : ∃ u, (∀ k, 16400 ≤ k → mask_Masks_Of.f k b (a.getD i 0) = some u) ∧ Row u ((b.length + 63) / 64) (fun j => decide (j < b.length) && decide (b.getD j 0 = a.getD i 0)) := by
      obtain ⟨u, h1, h2⟩ := of_tab a b i hb 16400 (Nat.le_refl _)
      refine ⟨u, fun k hk => ?_, h2⟩
      obtain ⟨u', h1', h2'⟩ := of_tab a b i hb k hk
      rw [h1', words_ext (by rw [h2'.len, h2.len]) h2'.words h2.words (fun i hi => by rw [h2'.len] at hi; rw [h2'.bits i hi, h2.bits i hi])]
    obtain ⟨v', hv1, hv2⟩ : ∃ v', (∀ k, 16400 ≤ k → walk_row.f k kind v u (b.length : Int) = some v') ∧ Tabrow a b (i + 1) v' := by
      obtain ⟨v', h1, h2⟩ := next_tab (by omega) hb kind hv hu2 16400 (Nat.le_refl _)
      refine ⟨v', fun k hk => ?_, h2⟩
      obtain ⟨v'', h1', h2'⟩ := next_tab (by omega) hb kind hv hu2 k hk
      rw [h1', words_ext (by rw [h2'.len, h2.len]) h2'.words h2.words (fun i hi => by rw [h2'.len] at hi; rw [h2'.bits i hi, h2.bits i hi])]
    have er : rd a (i : Int) = a.getD i 0 := by unfold rd; rw [Int.toNat_natCast]
    have em : Int.tmod (i : Int) (s : Int) = ((i % s : Nat) : Int) := by rw [Int.tmod_eq_emod_of_nonneg (by omega)]; omega
    by_cases c : i % s = 0
    · obtain ⟨q, hq⟩ : ∃ q, i = q * s := ⟨i / s, by have := Nat.div_add_mod i s; rw [Nat.mul_comm]; omega⟩
      have hlq : kept.length = q := by
        rw [hl, hq, show q * s + s - 1 = (s - 1) + q * s by omega, Nat.add_mul_div_right _ _ (by omega), Nat.div_eq_of_lt (by omega), Nat.zero_add]
      obtain ⟨kept', cc, p1, p2, p3⟩ := ih (i + 1) v' (kept ++ [v]) (by omega) (by omega) hv2 (fun t ht => by
        rw [List.length_append, List.length_singleton] at ht
        rw [List.getD_eq_getElem?_getD]
        by_cases c3 : t < kept.length
        · rw [List.getElem?_append_left c3, ← List.getD_eq_getElem?_getD]; exact hk t c3
        · obtain rfl : t = kept.length := by omega
          rw [List.getElem?_append_right (Nat.le_refl _), Nat.sub_self, hlq, ← hq]
          exact ⟨by omega, hv⟩) (by
        rw [List.length_append, List.length_singleton, hlq, hq, show q * s + 1 + s - 1 = 0 + (q + 1) * s by rw [Nat.succ_mul]; omega, Nat.add_mul_div_right _ _ (by omega), Nat.zero_div, Nat.zero_add])
      refine ⟨kept', cc + 1, p1, p2, fun k hk' => ?_⟩
      rw [← Nat.add_assoc, walk_Run_rest.l0, if_pos (by omega), if_pos (by omega), if_pos (by omega), if_neg (by omega), em, if_pos (by omega), if_pos (by omega), er, hu1 _ (by omega), Option.bind_some, hv1 _ (by omega), Option.bind_some,
        wrap_id _ (by omega) (by omega), show (i : Int) + 1 = ((i + 1 : Nat) : Int) by omega, p3 k hk']
    · obtain ⟨kept', cc, p1, p2, p3⟩ := ih (i + 1) v' kept (by omega) (by omega) hv2 hk (by
        rw [hl]
        have hdm := Nat.div_add_mod i s
        have hlt := Nat.mod_lt i (show 0 < s by omega)
        have e : i = i % s + (i / s) * s := by rw [Nat.mul_comm]; omega
        generalize hr : i % s = r at e hlt c
        generalize i / s = q at e
        rw [show i + s - 1 = (r - 1) + (q + 1) * s by rw [Nat.succ_mul]; omega, show i + 1 + s - 1 = r + (q + 1) * s by rw [Nat.succ_mul]; omega,
          Nat.add_mul_div_right _ _ (by omega), Nat.add_mul_div_right _ _ (by omega), Nat.div_eq_of_lt (by omega), Nat.div_eq_of_lt hlt])
      refine ⟨kept', cc + 1, p1, p2, fun k hk' => ?_⟩
      rw [← Nat.add_assoc, walk_Run_rest.l0, if_pos (by omega), if_pos (by omega), if_pos (by omega), if_neg (by omega), em, if_neg (by omega), er, hu1 _ (by omega), Option.bind_some, hv1 _ (by omega), Option.bind_some,
        wrap_id _ (by omega) (by omega), show (i : Int) + 1 = ((i + 1 : Nat) : Int) by omega, p3 k hk']
/-! ### Run -/
/-- The list of the way back. -/
def wayP (a b : List Int) : List S29 := (way a b a.length b.length).reverse.map toP
theorem way_len (a b : List Int) : (way a b a.length b.length).length ≤ a.length := by
  have := (way_good a b).2
  rw [List.length_reverse] at this
  rw [this]
  exact lcs_le_left a b
theorem run_tells (kind : Int) (a b : List Int) (every : Int) (ha : a.length ≤ 1048576) (hb : b.length ≤ 1048576) (hk : kind = 0 ∨ kind = 1) (he : 1 ≤ every) :
    ∃ K, ∀ k, K ≤ k → walk_Run.f k kind a b every = some (wayP a b, ((2 * (a.length * ((b.length + 63) / 64)) : Nat) : Int), 0) := by
  obtain ⟨s, hs, hs1, hs2⟩ : ∃ s : Nat, mn every (mx (a.length : Int) 1) = (s : Int) ∧ 1 ≤ s ∧ s ≤ 1048576 := by
    refine ⟨(mn every (mx (a.length : Int) 1)).toNat, ?_, ?_, ?_⟩ <;> (unfold mn mx; split <;> split <;> omega)
  obtain ⟨v, hv1, hv2⟩ : ∃ v, (∀ k, 16400 ≤ k → vec_Ones.f k (b.length : Int) = some v) ∧ Tabrow a b 0 v := by
    obtain ⟨v, h1, h2⟩ := ones_tab a b hb 16400 (Nat.le_refl _)
    refine ⟨v, fun k hk => ?_, h2⟩
    obtain ⟨v', h1', h2'⟩ := ones_tab a b hb k hk
    rw [h1', words_ext (by rw [h2'.len, h2.len]) h2'.words h2.words (fun i hi => by rw [h2'.len] at hi; rw [h2'.bits i hi, h2.bits i hi])]
  obtain ⟨kept, c1, p1, p2, p3⟩ := down_loop kind a b s ha hb hs1 hs2 _ 0 v [] rfl (by omega) hv2 (fun t ht => by simp at ht) (by rw [Nat.zero_add, Nat.div_eq_of_lt (by omega)]; rfl)
  have hK : min (kept.length * s) a.length = a.length := by
    rw [p2]
    apply Nat.min_eq_right
    have h := Nat.div_add_mod (a.length + s - 1) s
    have h2 := Nat.mod_lt (a.length + s - 1) (show 0 < s by omega)
    rw [Nat.mul_comm] at h
    omega
  obtain ⟨c2, q2⟩ := kept_back kind a b s kept ha hb hs1 hs2 p1 kept.length [] b.length (Nat.le_refl _) (Nat.le_refl _) (by rw [hK]; simpa using ha)
  rw [hK] at q2
  refine ⟨1048577 + c2 + c1, fun k hk' => ?_⟩
  obtain ⟨k, rfl⟩ : ∃ m, k = m + c2 + c1 := ⟨k - c2 - c1, by omega⟩
  unfold walk_Run.f
  rw [if_neg (by omega), if_pos hb, hs]
  unfold walk_Run_rest.f
  rw [hv1 _ (by omega), Option.bind_some]
  have e0 := p3 (k + c2) (by omega)
  rw [show ((0 : Nat) : Int) = 0 from rfl] at e0
  have e1 := q2 k (by omega)
  rw [List.map_nil] at e1
  rw [e0, e1, List.nil_append]
  have hw := way_len a b
  have hp : a.length * ((b.length + 63) / 64) ≤ 1048576 * 16385 := Nat.mul_le_mul ha (by omega)
  unfold fin
  rw [turn_tells _ (by rw [List.length_map]; omega) k (by rw [List.length_map]; omega), Option.bind_some, steps_tells _ _ ha hb, Option.bind_some, wrap_id _ (by omega) (by omega)]
  unfold wayP
  rw [List.map_reverse]
  congr 2
theorem run_bad (kind : Int) (a b : List Int) (every : Int) (k : Nat) (h : (¬ kind = 0 ∧ ¬ kind = 1) ∨ every < 1) : walk_Run.f k kind a b every = some ([], 0, 1) := by
  unfold walk_Run.f
  rw [if_pos h]
end Go.Proofs.Ytkafkbdidnkefaa.Pw
namespace Go.Proofs.Ytkafkbdidnkefaa.Pw
open Go.RowKit Go.Proofs.Ytkafkbdidnkefaa.R Go.Proofs.YtkafkbdidnkefaaW.PrintWords Tat
/-- The rows from I on are the table's. -/
structure Tab (a b : List Int) (I : Nat) (t : List (List Int)) : Prop where
  len : t.length = a.length + 1
  row : ∀ r, I ≤ r → r ≤ a.length → (t.getD r []).length = b.length + 1
  val : ∀ r c, I ≤ r → r ≤ a.length → c ≤ b.length → (t.getD r []).getD c 0 = (beh a b r c : Int)
theorem beh_le (a b : List Int) (i j : Nat) : beh a b i j ≤ a.length := by
  unfold beh
  have := lcs_le_left (a.drop i) (b.drop j)
  rw [List.length_drop] at this
  omega
theorem rd_nat (l : List Int) (i : Nat) : rd l (i : Int) = l.getD i 0 := by unfold rd; rw [Int.toNat_natCast]
theorem rdL_nat (l : List (List Int)) (i : Nat) : rd_L4 l (i : Int) = l.getD i [] := by unfold rd_L4; rw [Int.toNat_natCast]
/-- A row is filled from its end on. -/
theorem fill_row (a b : List Int) (ha : a.length ≤ 1048576) (hb : b.length ≤ 1048576) (i : Nat) (hi : i < a.length) : ∀ (J : Nat) (t : List (List Int)), J ≤ b.length → Tab a b (i + 1) t →
    (t.getD i []).length = b.length + 1 → (∀ c, J ≤ c → c ≤ b.length → (t.getD i []).getD c 0 = (beh a b i c : Int)) →
    ∃ (t' : List (List Int)) (c : Nat), Tab a b i t' ∧ ∀ k, tattingref7_Behind.l1 (k + c) a b t (i : Int) ((J : Int) - 1) = tattingref7_Behind.l0 k a b t' ((i : Int) - 1) := by
  intro J
  induction J with
  | zero =>
    intro t _ ht hl hv
    refine ⟨t, 2, ⟨ht.len, fun r h1 h2 => ?_, fun r c h1 h2 h3 => ?_⟩, fun k => ?_⟩
    · by_cases e : r = i
      · subst e; exact hl
      · exact ht.row r (by omega) h2
    · by_cases e : r = i
      · subst e; exact hv c (by omega) h3
      · exact ht.val r c (by omega) h2 h3
    · rw [tattingref7_Behind.l1, if_pos (by omega), decide_eq_false (by omega), tattingref7_Behind.j2, if_neg (by decide), wrap_id _ (by omega) (by omega)]
  | succ J ih =>
    intro t hJ ht hl hv
    have hlen := ht.len
    have e1 : wrap64 ((i : Int) + 1) = ((i + 1 : Nat) : Int) := by rw [wrap_id _ (by omega) (by omega)]; omega
    have e2 : wrap64 ((J : Int) + 1) = ((J + 1 : Nat) : Int) := by rw [wrap_id _ (by omega) (by omega)]; omega
    have e3 : wrap64 ((J : Int) - 1) = (J : Int) - 1 := wrap_id _ (by omega) (by omega)
    have rl := ht.row (i + 1) (Nat.le_refl _) (by omega)
    have v1 := ht.val (i + 1) (J + 1) (Nat.le_refl _) (by omega) (by omega)
    have v2 := ht.val (i + 1) J (Nat.le_refl _) (by omega) (by omega)
    have v3 := hv (J + 1) (by omega) (by omega)
    have b1 := beh_le a b (i + 1) (J + 1)
    have hstep : ∀ k, tattingref7_Behind.l1 (k + 2) a b t (i : Int) (((J + 1 : Nat) : Int) - 1) =
        tattingref7_Behind.l1 k a b (t.set i ((t.getD i []).set J (beh a b i J : Int))) (i : Int) ((J : Int) - 1) := by
      intro k
      rw [show ((J + 1 : Nat) : Int) - 1 = (J : Int) by omega, tattingref7_Behind.l1, if_pos (by omega), decide_eq_true (by omega), tattingref7_Behind.j2, if_pos rfl, if_pos (by omega), if_pos (by omega), if_pos (by omega), if_pos (by omega)]
      rw [rd_nat, rd_nat, e1, e2, e3, rdL_nat, rdL_nat, Int.toNat_natCast, Int.toNat_natCast, rd_nat, rd_nat, rd_nat, v1, v2, v3]
      by_cases c : a.getD i 0 = b.getD J 0
      · rw [if_pos c, if_pos (by omega), if_pos (by omega), if_pos (by omega), if_pos (by omega), if_pos (by omega), if_pos (by omega)]
        have := beh_eq (a := a) (b := b) (i := i) (j := J) hi (by omega) (by rw [getD_at _ _ hi, getD_at _ _ (by omega)] at c; exact c)
        rw [wrap_id _ (by omega) (by omega), this]
        rfl
      · rw [if_neg c, if_pos (by omega), if_pos (by omega), if_pos (by omega), if_pos (by omega), if_pos (by omega), if_pos (by omega), if_pos (by omega)]
        have := beh_ne (a := a) (b := b) (i := i) (j := J) hi (by omega) (by rw [getD_at _ _ hi, getD_at _ _ (by omega)] at c; exact c)
        rw [this]
        congr 4
        unfold mx
        split <;> omega
    have g1 : ∀ r, (t.set i ((t.getD i []).set J (beh a b i J : Int))).getD r [] = if r = i then (t.getD i []).set J (beh a b i J : Int) else t.getD r [] := fun r => getD_set _ _ _ _ _ (by omega)
    obtain ⟨t', c, h1, h2⟩ := ih (t.set i ((t.getD i []).set J (beh a b i J : Int))) (by omega)
      ⟨by rw [List.length_set]; exact hlen, fun r h1 h2 => by rw [g1, if_neg (by omega)]; exact ht.row r h1 h2, fun r c h1 h2 h3 => by rw [g1, if_neg (by omega)]; exact ht.val r c h1 h2 h3⟩
      (by rw [g1, if_pos rfl, List.length_set]; exact hl)
      (fun c h1 h2 => by
        rw [g1, if_pos rfl, getD_set _ _ _ _ _ (by omega)]
        by_cases e : c = J
        · rw [if_pos e, e]
        · rw [if_neg e]; exact hv c (by omega) h2)
    exact ⟨t', c + 2, h1, fun k => by rw [← Nat.add_assoc, hstep, h2]⟩
theorem fill_table (a b : List Int) (ha : a.length ≤ 1048576) (hb : b.length ≤ 1048576) : ∀ (I : Nat) (t : List (List Int)), I ≤ a.length + 1 → Tab a b I t →
    ∃ (t' : List (List Int)) (c : Nat), Tab a b 0 t' ∧ ∀ k, tattingref7_Behind.l0 (k + c) a b t ((I : Int) - 1) = some t' := by
  intro I
  induction I with
  | zero =>
    intro t _ ht
    exact ⟨t, 1, ht, fun k => by rw [tattingref7_Behind.l0, if_neg (by omega)]⟩
  | succ I ih =>
    intro t hI ht
    have hlen := ht.len
    have e1 : wrap64 ((b.length : Int) + 1) = ((b.length + 1 : Nat) : Int) := by rw [wrap_id _ (by omega) (by omega)]; omega
    have e2 : wrap64 ((b.length : Int) - 1) = (b.length : Int) - 1 := wrap_id _ (by omega) (by omega)
    have g1 : ∀ r, (t.set I (List.replicate (b.length + 1) (0 : Int))).getD r [] = if r = I then List.replicate (b.length + 1) 0 else t.getD r [] := fun r => getD_set _ _ _ _ _ (by omega)
    have hz : ∀ c, (List.replicate (b.length + 1) (0 : Int)).getD c 0 = 0 := fun c => by
      rw [List.getD_eq_getElem?_getD, List.getElem?_replicate]
      split <;> rfl
    have hstep : ∀ k, tattingref7_Behind.l0 (k + 1) a b t (((I + 1 : Nat) : Int) - 1) = tattingref7_Behind.l1 k a b (t.set I (List.replicate (b.length + 1) (0 : Int))) (I : Int) ((b.length : Int) - 1) := by
      intro k
      rw [show ((I + 1 : Nat) : Int) - 1 = (I : Int) by omega, tattingref7_Behind.l0, if_pos (by omega), e1, e2, if_pos (by omega), if_pos (by omega), if_pos (by omega), if_pos (by omega), Int.toNat_natCast, Int.toNat_natCast]
    have ht2 : Tab a b (I + 1) (t.set I (List.replicate (b.length + 1) (0 : Int))) :=
      ⟨by rw [List.length_set]; exact hlen, fun r h1 h2 => by rw [g1, if_neg (by omega)]; exact ht.row r h1 h2, fun r c h1 h2 h3 => by rw [g1, if_neg (by omega)]; exact ht.val r c h1 h2 h3⟩
    by_cases c : I < a.length
    · obtain ⟨t1, c1, h1, h2⟩ := fill_row a b ha hb I c b.length _ (Nat.le_refl _) ht2 (by rw [g1, if_pos rfl, List.length_replicate]) (fun c' h3 h4 => by
        rw [g1, if_pos rfl, hz, beh_end_right h3]; rfl)
      obtain ⟨t', c2, h3, h4⟩ := ih t1 (by omega) h1
      refine ⟨t', c2 + c1 + 1, h3, fun k => ?_⟩
      rw [show k + (c2 + c1 + 1) = (k + c2 + c1) + 1 by omega, hstep, h2, h4]
    · obtain rfl : I = a.length := by omega
      have ht3 : Tab a b a.length (t.set a.length (List.replicate (b.length + 1) (0 : Int))) := by
        refine ⟨ht2.len, fun r h1 h2 => ?_, fun r c h1 h2 h3 => ?_⟩
        · obtain rfl : r = a.length := by omega
          rw [g1, if_pos rfl, List.length_replicate]
        · obtain rfl : r = a.length := by omega
          rw [g1, if_pos rfl, hz, beh_end_left (Nat.le_refl _)]; rfl
      obtain ⟨t', c2, h3, h4⟩ := ih _ (by omega) ht3
      refine ⟨t', c2 + 3, h3, fun k => ?_⟩
      rw [show k + (c2 + 3) = (k + c2 + 2) + 1 by omega, hstep, show k + c2 + 2 = (k + c2 + 1) + 1 by omega, tattingref7_Behind.l1, if_neg (by omega), tattingref7_Behind.j2, if_neg (by decide), wrap_id _ (by omega) (by omega), h4]
/-- The table of all ends. -/
theorem behind_tells (a b : List Int) (ha : a.length ≤ 1048576) (hb : b.length ≤ 1048576) : ∃ (t : List (List Int)) (c : Nat), Tab a b 0 t ∧ ∀ k, c ≤ k → tattingref7_Behind.f k a b = some t := by
  have e1 : wrap64 ((a.length : Int) + 1) = ((a.length + 1 : Nat) : Int) := by rw [wrap_id _ (by omega) (by omega)]; omega
  obtain ⟨t, c, h1, h2⟩ := fill_table a b ha hb (a.length + 1) (List.replicate (a.length + 1) []) (Nat.le_refl _) ⟨by simp, fun r h1 h2 => by omega, fun r c h1 h2 => by omega⟩
  refine ⟨t, c, h1, fun k hk => ?_⟩
  obtain ⟨k, rfl⟩ : ∃ m, k = m + c := ⟨k - c, by omega⟩
  unfold tattingref7_Behind.f
  rw [e1, if_pos (by omega), if_pos (by omega), Int.toNat_natCast]
  have := h2 k
  rw [show ((a.length + 1 : Nat) : Int) - 1 = (a.length : Int) by omega] at this
  exact this
end Go.Proofs.Ytkafkbdidnkefaa.Pw
namespace Go.Proofs.Ytkafkbdidnkefaa.Pw
open Go.RowKit Go.Proofs.Ytkafkbdidnkefaa.R Go.Proofs.YtkafkbdidnkefaaW.PrintWords Tat
theorem same_pairs_loop (l : List S29) (hl : l.length ≤ 9223372036854775807) : ∀ (k t : Nat), l.length - t < k → t ≤ l.length → tattingref1_SamePairs.l0 k l l (t : Int) = some true
  | 0, t, h, _ => by omega
  | k + 1, t, h, h2 => by
    rw [tattingref1_SamePairs.l0]
    by_cases c : t < l.length
    · rw [if_pos (by omega), if_pos (by omega), if_pos (by omega), if_neg (by simp), wrap_id _ (by omega) (by omega), show (t : Int) + 1 = ((t + 1 : Nat) : Int) by omega]
      exact same_pairs_loop l hl k (t + 1) (by omega) (by omega)
    · rw [if_neg (by omega)]
theorem same_pairs (l : List S29) (hl : l.length ≤ 9223372036854775807) (k : Nat) (hk : l.length < k) : tattingref1_SamePairs.f k l l = some true := by
  unfold tattingref1_SamePairs.f
  rw [if_pos rfl]
  exact same_pairs_loop l hl k 0 (by omega) (by omega)
theorem rdT_map (l : List (Nat × Nat)) (t : Nat) : rd_T29 (l.map toP) (t : Int) = toP (l.getD t (0, 0)) := by
  unfold rd_T29
  rw [Int.toNat_natCast, List.getD_eq_getElem?_getD, List.getD_eq_getElem?_getD, List.getElem?_map]
  cases l[t]? with
  | none => rfl
  | some p => rfl
end Go.Proofs.Ytkafkbdidnkefaa.Pw
namespace Go.Proofs.Ytkafkbdidnkefaa.Pw
open Go.RowKit Go.Proofs.Ytkafkbdidnkefaa.R Go.Proofs.YtkafkbdidnkefaaW.PrintWords Tat
theorem few_loop (l : List Int) (hl : l.length ≤ 1048576) : ∀ (d i : Nat) (acc : List Int), l.length - i = d → i ≤ l.length → acc.length = i →
    ∃ r : List Int, r.length = l.length ∧ ∀ k, d < k → tattingref1_Few.l0 k l 4 acc (i : Int) = some r := by
  intro d
  induction d with
  | zero =>
    intro i acc hd hi ha
    refine ⟨acc, by omega, fun k hk => ?_⟩
    obtain ⟨k, rfl⟩ : ∃ m, k = m + 1 := ⟨k - 1, by omega⟩
    rw [tattingref1_Few.l0, if_neg (by omega)]
  | succ d ih =>
    intro i acc hd hi ha
    obtain ⟨v, hv⟩ : ∃ v : Int, ∀ k, tattingref1_Few.l0 (k + 1) l 4 acc (i : Int) = tattingref1_Few.l0 k l 4 (acc ++ [v]) ((i + 1 : Nat) : Int) := by
      have ew : wrap64 ((i : Int) + 1) = ((i + 1 : Nat) : Int) := by rw [wrap_id _ (by omega) (by omega)]; omega
      have o1 : (i : Int) < (l.length : Int) := by omega
      have o2 : (0 : Int) ≤ (i : Int) := by omega
      have o3 : acc.length < 17592186044416 := by omega
      by_cases c : Int.tmod (rd l (i : Int)) 4 < 0
      · exact ⟨_, fun k => by rw [tattingref1_Few.l0, if_pos o1, if_pos o2, if_neg (by decide), if_pos c, if_pos o3, ew]⟩
      · exact ⟨_, fun k => by rw [tattingref1_Few.l0, if_pos o1, if_pos o2, if_neg (by decide), if_neg c, if_pos o3, ew]⟩
    obtain ⟨r, h1, h2⟩ := ih (i + 1) (acc ++ [v]) (by omega) (by omega) (by simp [ha])
    refine ⟨r, h1, fun k hk => ?_⟩
    obtain ⟨k, rfl⟩ : ∃ m, k = m + 1 := ⟨k - 1, by omega⟩
    rw [hv, h2 k (by omega)]
theorem few_tells (l : List Int) (hl : l.length ≤ 1048576) : ∃ r : List Int, r.length = l.length ∧ ∀ k, l.length < k → tattingref1_Few.f k l 4 = some r := by
  obtain ⟨r, h1, h2⟩ := few_loop l hl l.length 0 [] (by omega) (by omega) rfl
  exact ⟨r, h1, fun k hk => h2 k hk⟩
theorem turned_loop (l : List Int) (hl : l.length ≤ 1048576) : ∀ (I : Nat) (acc : List Int), I ≤ l.length → acc.length + I ≤ 1048576 → ∀ k, I < k → tattingref7_Turned.l0 k l acc ((I : Int) - 1) = some (acc ++ (l.take I).reverse) := by
  intro I
  induction I with
  | zero =>
    intro acc _ _ k hk
    obtain ⟨k, rfl⟩ : ∃ m, k = m + 1 := ⟨k - 1, by omega⟩
    rw [tattingref7_Turned.l0, if_neg (by omega)]
    simp
  | succ I ih =>
    intro acc hI ha k hk
    obtain ⟨k, rfl⟩ : ∃ m, k = m + 1 := ⟨k - 1, by omega⟩
    rw [show ((I + 1 : Nat) : Int) - 1 = (I : Int) by omega, tattingref7_Turned.l0, if_pos (by omega), if_pos (by omega), if_pos (by omega), if_pos (by omega), wrap_id _ (by omega) (by omega),
      ih (acc ++ [rd l (I : Int)]) (by omega) (by simp; omega) k (by omega), take_rev_succ (by omega), List.append_assoc, rd_nat, getD_at _ _ (by omega)]
    rfl
theorem turned_tells (l : List Int) (hl : l.length ≤ 1048576) (k : Nat) (hk : l.length < k) : tattingref7_Turned.f k l = some l.reverse := by
  unfold tattingref7_Turned.f
  rw [wrap_id _ (by omega) (by omega), turned_loop l hl l.length [] (Nat.le_refl _) (by simpa using hl) k hk]
  simp
/-- The table of both lists turned round, read from its end. -/
theorem beh_turned (a b : List Int) (i j : Nat) (hi : i ≤ a.length) (hj : j ≤ b.length) : beh a.reverse b.reverse (a.length - i) (b.length - j) = ahd a b i j := by
  unfold beh
  rw [List.drop_reverse, List.drop_reverse, ahd_rev, show a.length - (a.length - i) = i by omega, show b.length - (b.length - j) = j by omega]
structure TabA (a b : List Int) (I : Nat) (t : List (List Int)) : Prop where
  len : t.length = a.length + 1
  row : ∀ r, r < I → (t.getD r []).length = b.length + 1
  val : ∀ r c, r < I → c ≤ b.length → (t.getD r []).getD c 0 = (ahd a b r c : Int)
theorem copy_row (a b : List Int) (ha : a.length ≤ 1048576) (hb : b.length ≤ 1048576) (s : List (List Int)) (hs : Tab a.reverse b.reverse 0 s) (i : Nat) (hi : i ≤ a.length) : ∀ (d J : Nat) (t : List (List Int)), b.length + 1 - J = d → J ≤ b.length + 1 → TabA a b i t →
    (t.getD i []).length = b.length + 1 → (∀ c, c < J → (t.getD i []).getD c 0 = (ahd a b i c : Int)) →
    ∃ (t' : List (List Int)) (c : Nat), TabA a b (i + 1) t' ∧ ∀ k, tattingref7_Ahead_rest.l1 (k + c) a b s t (i : Int) (J : Int) = tattingref7_Ahead_rest.l0 k a b s t' ((i + 1 : Nat) : Int) := by
  intro d
  induction d with
  | zero =>
    intro J t hd hJ ht hl hv
    refine ⟨t, 1, ⟨ht.len, fun r h1 => ?_, fun r c h1 h3 => ?_⟩, fun k => ?_⟩
    · by_cases e : r = i
      · subst e; exact hl
      · exact ht.row r (by omega)
    · by_cases e : r = i
      · subst e; exact hv c (by omega)
      · exact ht.val r c (by omega) h3
    · rw [tattingref7_Ahead_rest.l1, if_neg (by omega), wrap_id _ (by omega) (by omega)]
      rfl
  | succ d ih =>
    intro J t hd hJ ht hl hv
    have hlen := ht.len
    have hslen := hs.len
    rw [List.length_reverse] at hslen
    have hsrow := hs.row (a.length - i) (Nat.zero_le _) (by rw [List.length_reverse]; omega)
    rw [List.length_reverse] at hsrow
    have hsval := hs.val (a.length - i) (b.length - J) (Nat.zero_le _) (by rw [List.length_reverse]; omega) (by rw [List.length_reverse]; omega)
    rw [beh_turned a b i J hi (by omega)] at hsval
    have g1 : ∀ r, (t.set i ((t.getD i []).set J (ahd a b i J : Int))).getD r [] = if r = i then (t.getD i []).set J (ahd a b i J : Int) else t.getD r [] := fun r => getD_set _ _ _ _ _ (by omega)
    obtain ⟨t', c, h1, h2⟩ := ih (J + 1) (t.set i ((t.getD i []).set J (ahd a b i J : Int))) (by omega) (by omega)
      ⟨by rw [List.length_set]; exact hlen, fun r h1 => by rw [g1, if_neg (by omega)]; exact ht.row r h1, fun r c h1 h3 => by rw [g1, if_neg (by omega)]; exact ht.val r c h1 h3⟩
      (by rw [g1, if_pos rfl, List.length_set]; exact hl)
      (fun c h1 => by
        rw [g1, if_pos rfl, getD_set _ _ _ _ _ (by omega)]
        by_cases e : c = J
        · rw [if_pos e, e]
        · rw [if_neg e]; exact hv c (by omega))
    have o1 : (J : Int) ≤ (b.length : Int) := by omega
    have o2 : (0 : Int) ≤ (i : Int) := by omega
    have o3 : (i : Int) < (t.length : Int) := by omega
    have o4 : (0 : Int) ≤ ((a.length - i : Nat) : Int) := by omega
    have o5 : ((a.length - i : Nat) : Int) < (s.length : Int) := by omega
    have o6 : (0 : Int) ≤ ((b.length - J : Nat) : Int) := by omega
    have o7 : ((b.length - J : Nat) : Int) < ((s.getD (a.length - i) []).length : Int) := by omega
    have o8 : (0 : Int) ≤ (J : Int) := by omega
    have o9 : (J : Int) < ((t.getD i []).length : Int) := by omega
    have e1 : wrap64 ((a.length : Int) - (i : Int)) = ((a.length - i : Nat) : Int) := by rw [wrap_id _ (by omega) (by omega)]; omega
    have e2 : wrap64 ((b.length : Int) - (J : Int)) = ((b.length - J : Nat) : Int) := by rw [wrap_id _ (by omega) (by omega)]; omega
    have e3 : wrap64 ((J : Int) + 1) = ((J + 1 : Nat) : Int) := by rw [wrap_id _ (by omega) (by omega)]; omega
    refine ⟨t', c + 1, h1, fun k => ?_⟩
    rw [← Nat.add_assoc, tattingref7_Ahead_rest.l1, if_pos o1, if_pos o2, if_pos o3, e1, e2, e3, rdL_nat, rdL_nat, if_pos o4, if_pos o5, if_pos o6, if_pos o7, if_pos o8, if_pos o9, rd_nat, hsval, Int.toNat_natCast, Int.toNat_natCast, h2]
theorem copy_table (a b : List Int) (ha : a.length ≤ 1048576) (hb : b.length ≤ 1048576) (s : List (List Int)) (hs : Tab a.reverse b.reverse 0 s) : ∀ (d I : Nat) (t : List (List Int)), a.length + 1 - I = d → I ≤ a.length + 1 → TabA a b I t →
    ∃ (t' : List (List Int)) (c : Nat), TabA a b (a.length + 1) t' ∧ ∀ k, tattingref7_Ahead_rest.l0 (k + c) a b s t (I : Int) = some t' := by
  intro d
  induction d with
  | zero =>
    intro I t hd hI ht
    obtain rfl : I = a.length + 1 := by omega
    exact ⟨t, 1, ht, fun k => by rw [tattingref7_Ahead_rest.l0, if_neg (by omega)]⟩
  | succ d ih =>
    intro I t hd hI ht
    have hlen := ht.len
    have g1 : ∀ r, (t.set I (List.replicate (b.length + 1) (0 : Int))).getD r [] = if r = I then List.replicate (b.length + 1) 0 else t.getD r [] := fun r => getD_set _ _ _ _ _ (by omega)
    obtain ⟨t1, c1, h1, h2⟩ := copy_row a b ha hb s hs I (by omega) _ 0 (t.set I (List.replicate (b.length + 1) (0 : Int))) rfl (Nat.zero_le _)
      ⟨by rw [List.length_set]; exact hlen, fun r h1 => by rw [g1, if_neg (by omega)]; exact ht.row r h1, fun r c h1 h3 => by rw [g1, if_neg (by omega)]; exact ht.val r c h1 h3⟩
      (by rw [g1, if_pos rfl, List.length_replicate]) (fun c hc => by omega)
    obtain ⟨t', c2, h3, h4⟩ := ih (I + 1) t1 (by omega) (by omega) h1
    have o1 : (I : Int) ≤ (a.length : Int) := by omega
    have o2 : (0 : Int) ≤ ((b.length + 1 : Nat) : Int) := by omega
    have o3 : b.length + 1 ≤ 35184372088832 := by omega
    have o4 : (0 : Int) ≤ (I : Int) := by omega
    have o5 : (I : Int) < (t.length : Int) := by omega
    have e1 : wrap64 ((b.length : Int) + 1) = ((b.length + 1 : Nat) : Int) := by rw [wrap_id _ (by omega) (by omega)]; omega
    refine ⟨t', c2 + c1 + 1, h3, fun k => ?_⟩
    have h2' := h2 (k + c2)
    rw [show ((0 : Nat) : Int) = 0 from rfl] at h2'
    rw [show k + (c2 + c1 + 1) = (k + c2 + c1) + 1 by omega, tattingref7_Ahead_rest.l0, if_pos o1, e1, if_pos o2, Int.toNat_natCast, if_pos o3, if_pos o4, if_pos o5, Int.toNat_natCast, h2', h4]
theorem ahead_tells (a b : List Int) (ha : a.length ≤ 1048576) (hb : b.length ≤ 1048576) : ∃ (t : List (List Int)) (c : Nat), TabA a b (a.length + 1) t ∧ ∀ k, c ≤ k → tattingref7_Ahead.f k a b = some t := by
  obtain ⟨s, c1, hs, h1⟩ := behind_tells a.reverse b.reverse (by rw [List.length_reverse]; exact ha) (by rw [List.length_reverse]; exact hb)
  obtain ⟨t, c2, h2, h3⟩ := copy_table a b ha hb s hs _ 0 (List.replicate (a.length + 1) []) rfl (Nat.zero_le _) ⟨by simp, fun r h1 => by omega, fun r c h1 => by omega⟩
  have e1 : wrap64 ((a.length : Int) + 1) = ((a.length + 1 : Nat) : Int) := by rw [wrap_id _ (by omega) (by omega)]; omega
  refine ⟨t, c1 + c2 + 1048577, h2, fun k hk => ?_⟩
  unfold tattingref7_Ahead.f
  rw [turned_tells a ha k (by omega), Option.bind_some, turned_tells b hb k (by omega), Option.bind_some, h1 k (by omega), Option.bind_some]
  unfold tattingref7_Ahead_rest.f
  obtain ⟨k, rfl⟩ : ∃ m, k = m + c2 := ⟨k - c2, by omega⟩
  have := h3 k
  rw [show ((0 : Nat) : Int) = 0 from rfl] at this
  rw [e1, if_pos (by omega), Int.toNat_natCast, if_pos (by omega), this]
/-! ### The reference's way back -/
theorem rturn_loop (l : List (Nat × Nat)) (hl : l.length ≤ 1048576) : ∀ (I : Nat) (acc : List S29), I ≤ l.length → acc.length + I ≤ 1048576 → ∀ k, I < k → tattingref20_Way.l1 k (l.map toP) acc ((I : Int) - 1) = some (acc ++ ((l.take I).reverse).map toP) := by
  intro I
  induction I with
  | zero =>
    intro acc _ _ k hk
    obtain ⟨k, rfl⟩ : ∃ m, k = m + 1 := ⟨k - 1, by omega⟩
    rw [tattingref20_Way.l1, if_neg (by omega)]
    simp
  | succ I ih =>
    intro acc hI ha k hk
    obtain ⟨k, rfl⟩ : ∃ m, k = m + 1 := ⟨k - 1, by omega⟩
    have hlm : (l.map toP).length = l.length := List.length_map _
    rw [show ((I + 1 : Nat) : Int) - 1 = (I : Int) by omega, tattingref20_Way.l1, if_pos (by omega), if_pos (by omega), if_pos (by omega), if_pos (by omega), wrap_id _ (by omega) (by omega),
      rdT_map, ih _ (by omega) (by simp; omega) k (by omega), List.take_succ_eq_append_getElem (by omega), List.reverse_append, List.append_assoc]
    have : l.getD I (0, 0) = l[I] := by rw [List.getD_eq_getElem?_getD, List.getElem?_eq_getElem (by omega)]; rfl
    rw [this]
    rfl
theorem rback_loop (a b : List Int) (t : List (List Int)) (ha : a.length ≤ 1048576) (hb : b.length ≤ 1048576) (ht : TabA a b (a.length + 1) t) : ∀ (d i j : Nat) (acc : List (Nat × Nat)), i + j = d → i ≤ a.length → j ≤ b.length → acc.length + i ≤ 1048576 →
    ∃ (L : List (Nat × Nat)) (c : Nat), L.length ≤ 1048576 ∧ L = acc ++ way a b i j ∧
      ∀ k, tattingref20_Way.l0 (k + c) a b t (acc.map toP) (i : Int) (j : Int) = tattingref20_Way.l1 k (L.map toP) ([] : List S29) ((L.length : Int) - 1) := by
  have stop : ∀ (i j : Nat) (acc : List (Nat × Nat)), ¬ (0 < i ∧ 0 < j) → acc.length + i ≤ 1048576 → ∀ k, tattingref20_Way.l0 (k + 2) a b t (acc.map toP) (i : Int) (j : Int) = tattingref20_Way.l1 k (acc.map toP) ([] : List S29) ((acc.length : Int) - 1) := by
    intro i j acc h hl k
    have e : wrap64 (((acc.map toP).length : Int) - 1) = (acc.length : Int) - 1 := by rw [List.length_map, wrap_id _ (by omega) (by omega)]
    rw [tattingref20_Way.l0]
    by_cases c : (i : Int) > 0
    · rw [if_pos c, decide_eq_false (by omega), tattingref20_Way.j1, if_neg (by decide), e]
    · rw [if_neg c, tattingref20_Way.j1, if_neg (by decide), e]
  intro d
  induction d using Nat.strongRecOn with
  | _ d ih =>
  intro i j acc hd hi hj hl
  by_cases c0 : 0 < i ∧ 0 < j
  · obtain ⟨i, rfl⟩ : ∃ i', i = i' + 1 := ⟨i - 1, by omega⟩
    obtain ⟨j, rfl⟩ : ∃ j', j = j' + 1 := ⟨j - 1, by omega⟩
    have hlen := ht.len
    have hrow := ht.row (i + 1) (by omega)
    have v1 := ht.val (i + 1) (j + 1) (by omega) (by omega)
    have v2 := ht.val (i + 1) j (by omega) (by omega)
    have hlm : (acc.map toP).length = acc.length := List.length_map _
    have o1 : ((i + 1 : Nat) : Int) > 0 := by omega
    have o2 : ((j + 1 : Nat) : Int) > 0 := by omega
    have o3 : (0 : Int) ≤ ((i + 1 : Nat) : Int) := by omega
    have o4 : ((i + 1 : Nat) : Int) < (t.length : Int) := by omega
    have o5 : (0 : Int) ≤ ((j + 1 : Nat) : Int) := by omega
    have o6 : ((j + 1 : Nat) : Int) < ((t.getD (i + 1) []).length : Int) := by omega
    have o7 : (0 : Int) ≤ (j : Int) := by omega
    have o8 : (j : Int) < ((t.getD (i + 1) []).length : Int) := by omega
    have o9 : (0 : Int) ≤ (i : Int) := by omega
    have o10 : (i : Int) < (a.length : Int) := by omega
    have o11 : (j : Int) < (b.length : Int) := by omega
    have o12 : (acc.map toP).length < 8796093022208 := by omega
    have e1 : wrap64 (((i + 1 : Nat) : Int) - 1) = (i : Int) := by rw [wrap_id _ (by omega) (by omega)]; omega
    have e2 : wrap64 (((j + 1 : Nat) : Int) - 1) = (j : Int) := by rw [wrap_id _ (by omega) (by omega)]; omega
    have hstep : ∀ k, tattingref20_Way.l0 (k + 2) a b t (acc.map toP) ((i + 1 : Nat) : Int) ((j + 1 : Nat) : Int) =
        if (ahd a b (i + 1) (j + 1) : Int) = (ahd a b (i + 1) j : Int) then tattingref20_Way.l0 k a b t (acc.map toP) ((i + 1 : Nat) : Int) (j : Int)
        else if a.getD i 0 = b.getD j 0 then tattingref20_Way.l0 k a b t ((acc ++ [(i, j)]).map toP) (i : Int) (j : Int) else tattingref20_Way.l0 k a b t (acc.map toP) (i : Int) ((j + 1 : Nat) : Int) := by
      intro k
      rw [tattingref20_Way.l0, if_pos o1, decide_eq_true o2, tattingref20_Way.j1, if_pos rfl, e1, e2, rdL_nat, if_pos o3, if_pos o4, if_pos o5, if_pos o6, if_pos o7, if_pos o8, rd_nat, rd_nat, rd_nat, rd_nat, v1, v2, List.map_append]
      by_cases c : (ahd a b (i + 1) (j + 1) : Int) = (ahd a b (i + 1) j : Int)
      · rw [if_pos c, if_pos c]
      · rw [if_neg c, if_neg c, if_pos o9, if_pos o10, if_pos o11, if_pos o12]
        rfl
    clear o1 o2 o3 o4 o5 o6 o7 o8 o9 o10 o11 o12 e1 e2 v1 v2 hlm
    have ea : a[i]? = some (a.getD i 0) := by rw [getD_at _ _ (by omega)]; exact List.getElem?_eq_getElem (by omega)
    have eb : b[j]? = some (b.getD j 0) := by rw [getD_at _ _ (by omega)]; exact List.getElem?_eq_getElem (by omega)
    by_cases c1 : ahd a b (i + 1) (j + 1) = ahd a b (i + 1) j
    · obtain ⟨L, c, p1, p2, p3⟩ := ih (i + 1 + j) (by omega) (i + 1) j acc rfl hi (by omega) hl
      exact ⟨L, c + 2, p1, by rw [p2, way_left c1], fun k => by rw [← Nat.add_assoc, hstep, if_pos (by rw [c1]), p3]⟩
    · have c1' : ¬ (ahd a b (i + 1) (j + 1) : Int) = (ahd a b (i + 1) j : Int) := fun h => c1 (Int.ofNat.inj h)
      by_cases c2 : a.getD i 0 = b.getD j 0
      · obtain ⟨L, c, p1, p2, p3⟩ := ih (i + j) (by omega) i j (acc ++ [(i, j)]) rfl (by omega) (by omega) (by simp; omega)
        exact ⟨L, c + 2, p1, by rw [p2, way_pair c1 (by rw [ea, eb, c2]), List.append_assoc]; rfl, fun k => by rw [← Nat.add_assoc, hstep, if_neg c1', if_pos c2, p3]⟩
      · obtain ⟨L, c, p1, p2, p3⟩ := ih (i + (j + 1)) (by omega) i (j + 1) acc rfl (by omega) hj (by omega)
        exact ⟨L, c + 2, p1, by rw [p2, way_up c1 (fun q => c2 (by rw [ea, eb] at q; exact Option.some.inj q))], fun k => by rw [← Nat.add_assoc, hstep, if_neg c1', if_neg c2, p3]⟩
  · refine ⟨acc, 2, by omega, ?_, stop i j acc c0 hl⟩
    by_cases c : i = 0
    · subst c; rw [way_zero_left, List.append_nil]
    · obtain rfl : j = 0 := by omega
      rw [way_zero_right, List.append_nil]
theorem way_tells (a b : List Int) (ha : a.length ≤ 1048576) (hb : b.length ≤ 1048576) : ∃ c, ∀ k, c ≤ k → tattingref20_Way.f k a b = some (wayP a b) := by
  obtain ⟨t, c1, h1, h2⟩ := ahead_tells a b ha hb
  obtain ⟨L, c2, p1, p2, p3⟩ := rback_loop a b t ha hb h1 _ a.length b.length [] rfl (Nat.le_refl _) (Nat.le_refl _) (by simpa using ha)
  refine ⟨c1 + c2 + 1048577, fun k hk => ?_⟩
  obtain ⟨k, rfl⟩ : ∃ m, k = m + c2 := ⟨k - c2, by omega⟩
  unfold tattingref20_Way.f
  rw [h2 _ (by omega), Option.bind_some]
  have := p3 k
  rw [List.map_nil] at this
  rw [this, rturn_loop L p1 L.length [] (Nat.le_refl _) (by simpa using p1) k (by omega), List.take_length, List.nil_append, p2, List.nil_append]
  rfl
theorem rsteps_tells (n m : Nat) (hn : n ≤ 1048576) (hm : m ≤ 1048576) : tattingref20_Steps.f (n : Int) (m : Int) = some ((n * ((m + 63) / 64) : Nat) : Int) := by
  have hp : n * ((m + 63) / 64) ≤ 1048576 * 16385 := Nat.mul_le_mul hn (by omega)
  have ew : wrap64 (Int.tdiv (wrap64 ((m : Int) + 63)) 64) = (((m + 63) / 64 : Nat) : Int) := by
    rw [wrap_id ((m : Int) + 63) (by omega) (by omega), Int.tdiv_eq_ediv_of_nonneg (by omega), wrap_id _ (by omega) (by omega)]
    omega
  unfold tattingref20_Steps.f tattingref5_Words.f tattingref5_Width.f
  rw [if_neg (by omega), if_neg (by omega), if_neg (by omega), if_neg (by omega), if_neg (by omega), if_neg (by omega), Option.bind_some, ew, Option.bind_some, ← Int.natCast_mul]
  generalize n * ((m + 63) / 64) = z at hp
  rw [wrap_id _ (by omega) (by omega)]
end Go.Proofs.Ytkafkbdidnkefaa.Pw
namespace Go.Proofs.Ytkafkbdidnkefaa.Pw
open Go.RowKit Go.Proofs.Ytkafkbdidnkefaa.R Go.Proofs.YtkafkbdidnkefaaW.PrintWords Tat
theorem upR {α : Type} {f : Nat → Option α} (m : ∀ k, LeO (f k) (f (k + 1))) {k : Nat} {r : α} (h : f k = some r) : ∀ j, k ≤ j → f j = some r := by
  intro j hj
  induction j with
  | zero => obtain rfl : k = 0 := by omega
            exact h
  | succ j ih =>
    by_cases c : k = j + 1
    · subst c; exact h
    · exact m j r (ih (by omega))
theorem awakeR (k : Nat) (h : 80 ≤ k) : tattinglaw22_awake.f k = some true := upR tattinglaw22_awake.mono (k := 80) (by kernel_rfl) k h
theorem WalkRuns_tells : tattinglaw22_WalkRuns.Pure := by
  intro z a b n _ _ _ _ _ _ _ _
  by_cases ha : a.length ≤ 40
  · by_cases hb : b.length ≤ 130
    · obtain ⟨x, hx, fx⟩ := few_tells a (by omega)
      obtain ⟨y, hy, fy⟩ := few_tells b (by omega)
      have hbad : ∀ k, 300 ≤ k → ((¬ z = 0 ∧ ¬ z = 1) ∨ n < 1) → tattinglaw22_WalkRuns.f k z a b n = some true := by
        intro k hk hb'
        obtain ⟨k, rfl⟩ : ∃ m, k = m + 2 := ⟨k - 2, by omega⟩
        unfold tattinglaw22_WalkRuns.f
        have hj : tattinglaw22_WalkRuns.j1 (k + 1) x y ([] : List S29) 0 1 true = some true := by
          rw [tattinglaw22_WalkRuns.j1, if_pos rfl, if_pos rfl, if_pos (by rfl)]; rfl
        rw [awakeR _ (by omega), Option.bind_some, if_pos rfl, if_neg (by omega), decide_eq_false (by omega), tattinglaw22_WalkRuns.j0, if_neg (by decide), fx _ (by omega), Option.bind_some, fy _ (by omega), Option.bind_some,
          run_bad z x y n _ hb', Option.bind_some]
        by_cases c0 : z = 0
        · rw [if_pos c0, decide_eq_true (by omega)]; exact hj
        · by_cases c1 : z = 1
          · rw [if_neg c0, if_pos c1, decide_eq_true (by omega)]; exact hj
          · rw [if_neg c0, if_neg c1]; exact hj
      by_cases hg : (¬ z = 0 ∧ ¬ z = 1) ∨ n < 1
      · exact ⟨300, hbad 300 (Nat.le_refl _) hg⟩
      · have hz : z = 0 ∨ z = 1 := by omega
        have hn : 1 ≤ n := by omega
        obtain ⟨K1, h1⟩ := run_tells z x y n (by omega) (by omega) hz hn
        obtain ⟨K2, h2⟩ := way_tells x y (by omega) (by omega)
        have hw : (wayP x y).length ≤ 40 := by
          unfold wayP
          rw [List.length_map, List.length_reverse]
          have := way_len x y
          omega
        have hj : ∀ k, K1 + K2 + 300 ≤ k → tattinglaw22_WalkRuns.j1 (k + 1) x y (wayP x y) ((2 * (x.length * ((y.length + 63) / 64)) : Nat) : Int) 0 false = some true := by
          intro k hk
          have hp : x.length * ((y.length + 63) / 64) ≤ 40 * 4 := Nat.mul_le_mul (by omega) (by omega)
          rw [tattinglaw22_WalkRuns.j1, if_neg (by decide), if_pos rfl, h2 k (by omega), Option.bind_some, same_pairs _ (by omega) k (by omega), Option.bind_some, if_pos rfl, rsteps_tells _ _ (by omega) (by omega), Option.bind_some]
          generalize x.length * ((y.length + 63) / 64) = q at hp
          rw [wrap_id _ (by omega) (by omega)]
          simp
        refine ⟨K1 + K2 + 303, ?_⟩
        unfold tattinglaw22_WalkRuns.f
        rw [awakeR _ (by omega), Option.bind_some, if_pos rfl, if_neg (by omega), decide_eq_false (by omega), tattinglaw22_WalkRuns.j0, if_neg (by decide), fx _ (by omega), Option.bind_some, fy _ (by omega), Option.bind_some,
          h1 _ (by omega), Option.bind_some]
        rcases hz with rfl | rfl
        · rw [if_pos rfl, decide_eq_false (by omega)]; exact hj _ (by omega)
        · rw [if_neg (by decide), if_pos rfl, decide_eq_false (by omega)]; exact hj _ (by omega)
    · refine ⟨81, ?_⟩
      unfold tattinglaw22_WalkRuns.f
      rw [awakeR _ (by omega), Option.bind_some, if_pos rfl, if_neg (by omega), decide_eq_true (by omega), tattinglaw22_WalkRuns.j0, if_pos rfl]
  · refine ⟨81, ?_⟩
    unfold tattinglaw22_WalkRuns.f
    rw [awakeR _ (by omega), Option.bind_some, if_pos rfl, if_pos (by omega), tattinglaw22_WalkRuns.j0, if_pos rfl]
end Go.Proofs.Ytkafkbdidnkefaa.Pw
