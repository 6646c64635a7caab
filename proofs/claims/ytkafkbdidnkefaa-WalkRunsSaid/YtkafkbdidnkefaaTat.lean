/- Plain laws of longest common subsequences, of words of bits, of loops and of the way back: lists and numbers alone (no condition beside those that each law names). -/
/- Plain laws of longest common subsequences: no Go in sight. -/
namespace Tat

/-- The length of a longest common subsequence. -/
def lcs : List Int → List Int → Nat
  | [], _ => 0
  | _ :: _, [] => 0
  | x :: a, y :: b => if x = y then lcs a b + 1 else max (lcs a (y :: b)) (lcs (x :: a) b)
termination_by a b => a.length + b.length

theorem lcs_nil_left (b : List Int) : lcs [] b = 0 := by rw [lcs]
theorem lcs_nil_right (a : List Int) : lcs a [] = 0 := by cases a <;> rw [lcs]
theorem lcs_eq {x y : Int} (h : x = y) (a b : List Int) : lcs (x :: a) (y :: b) = lcs a b + 1 := by rw [lcs, if_pos h]
theorem lcs_ne {x y : Int} (h : ¬ x = y) (a b : List Int) : lcs (x :: a) (y :: b) = max (lcs a (y :: b)) (lcs (x :: a) b) := by rw [lcs, if_neg h]

theorem lcs_comm_n (n : Nat) : ∀ a b : List Int, a.length + b.length = n → lcs a b = lcs b a := by
  induction n using Nat.strongRecOn with
  | _ n ih =>
  intro a b h
  cases a with
  | nil => rw [lcs_nil_left, lcs_nil_right]
  | cons x a =>
    cases b with
    | nil => rw [lcs_nil_left, lcs_nil_right]
    | cons y b =>
      simp only [List.length_cons] at h
      by_cases e : x = y
      · rw [lcs_eq e, lcs_eq e.symm, ih (a.length + b.length) (by omega) a b rfl]
      · rw [lcs_ne e, lcs_ne (fun h => e h.symm), ih _ (by simp only [List.length_cons]; omega) a (y :: b) rfl, ih _ (by simp only [List.length_cons]; omega) (x :: a) b rfl, Nat.max_comm]
theorem lcs_comm (a b : List Int) : lcs a b = lcs b a := lcs_comm_n _ a b rfl

theorem lcs_step_n (n : Nat) : ∀ (x : Int) (a b : List Int), a.length + b.length = n → lcs a b ≤ lcs (x :: a) b ∧ lcs (x :: a) b ≤ lcs a b + 1 := by
  induction n using Nat.strongRecOn with
  | _ n ih =>
  intro x a b h
  cases b with
  | nil => rw [lcs_nil_right, lcs_nil_right]; omega
  | cons y b =>
    simp only [List.length_cons] at h
    have s2 : lcs a b ≤ lcs a (y :: b) ∧ lcs a (y :: b) ≤ lcs a b + 1 := by
      have := ih (b.length + a.length) (by omega) y b a rfl
      rw [lcs_comm b a, lcs_comm (y :: b) a] at this
      exact this
    by_cases e : x = y
    · rw [lcs_eq e]; omega
    · rw [lcs_ne e]
      have := ih (a.length + b.length) (by omega) x a b rfl
      omega
theorem lcs_cons_left (x : Int) (a b : List Int) : lcs a b ≤ lcs (x :: a) b ∧ lcs (x :: a) b ≤ lcs a b + 1 := lcs_step_n _ x a b rfl
theorem lcs_cons_right (y : Int) (a b : List Int) : lcs a b ≤ lcs a (y :: b) ∧ lcs a (y :: b) ≤ lcs a b + 1 := by
  have := lcs_cons_left y b a
  rw [lcs_comm b a, lcs_comm (y :: b) a] at this
  exact this

/-- A common subsequence is no longer than that. -/
theorem sub_lcs_n (n : Nat) : ∀ (s a b : List Int), a.length + b.length = n → s.Sublist a → s.Sublist b → s.length ≤ lcs a b := by
  induction n using Nat.strongRecOn with
  | _ n ih =>
  intro s a b h ha hb
  cases a with
  | nil => rw [List.sublist_nil.mp ha]; simp
  | cons x a =>
    cases b with
    | nil => rw [List.sublist_nil.mp hb]; simp
    | cons y b =>
      simp only [List.length_cons] at h
      cases ha with
      | cons _ ha =>
        exact Nat.le_trans (ih (a.length + (y :: b).length) (by simp only [List.length_cons]; omega) s a (y :: b) rfl ha hb) (lcs_cons_left x a _).1
      | cons_cons _ ha =>
        rename_i s
        cases hb with
        | cons _ hb =>
          exact Nat.le_trans (ih ((x :: a).length + b.length) (by simp only [List.length_cons]; omega) (x :: s) (x :: a) b rfl (ha.cons_cons x) hb) (lcs_cons_right y _ b).1
        | cons_cons _ hb =>
          rw [lcs_eq rfl, List.length_cons]
          have := ih (a.length + b.length) (by omega) s a b rfl ha hb
          omega
theorem sub_lcs {s a b : List Int} (ha : s.Sublist a) (hb : s.Sublist b) : s.length ≤ lcs a b := sub_lcs_n _ s a b rfl ha hb

/-- There is one as long. -/
theorem lcs_sub_n (n : Nat) : ∀ a b : List Int, a.length + b.length = n → ∃ s : List Int, s.Sublist a ∧ s.Sublist b ∧ s.length = lcs a b := by
  induction n using Nat.strongRecOn with
  | _ n ih =>
  intro a b h
  cases a with
  | nil => exact ⟨[], List.nil_sublist _, List.nil_sublist _, by rw [lcs_nil_left]; rfl⟩
  | cons x a =>
    cases b with
    | nil => exact ⟨[], List.nil_sublist _, List.nil_sublist _, by rw [lcs_nil_right]; rfl⟩
    | cons y b =>
      simp only [List.length_cons] at h
      by_cases e : x = y
      · obtain ⟨s, h1, h2, h3⟩ := ih _ (by omega) a b rfl
        exact ⟨x :: s, h1.cons_cons x, e ▸ h2.cons_cons x, by rw [lcs_eq e, List.length_cons, h3]⟩
      · obtain ⟨s, h1, h2, h3⟩ := ih _ (by simp only [List.length_cons]; omega) a (y :: b) rfl
        obtain ⟨t, k1, k2, k3⟩ := ih _ (by simp only [List.length_cons]; omega) (x :: a) b rfl
        rw [lcs_ne e]
        by_cases c : lcs a (y :: b) ≤ lcs (x :: a) b
        · exact ⟨t, k1, k2.cons y, by rw [k3, Nat.max_eq_right c]⟩
        · exact ⟨s, h1.cons x, h2, by rw [h3, Nat.max_eq_left (by omega)]⟩
theorem lcs_sub (a b : List Int) : ∃ s : List Int, s.Sublist a ∧ s.Sublist b ∧ s.length = lcs a b := lcs_sub_n _ a b rfl

theorem lcs_le_left (a b : List Int) : lcs a b ≤ a.length := by
  obtain ⟨s, h1, _, h3⟩ := lcs_sub a b; rw [← h3]; exact h1.length_le
theorem lcs_le_right (a b : List Int) : lcs a b ≤ b.length := by
  obtain ⟨s, _, h2, h3⟩ := lcs_sub a b; rw [← h3]; exact h2.length_le
theorem lcs_mono {a a' b b' : List Int} (ha : a.Sublist a') (hb : b.Sublist b') : lcs a b ≤ lcs a' b' := by
  obtain ⟨s, h1, h2, h3⟩ := lcs_sub a b; rw [← h3]; exact sub_lcs (h1.trans ha) (h2.trans hb)
theorem lcs_reverse_le (a b : List Int) : lcs a b ≤ lcs a.reverse b.reverse := by
  obtain ⟨s, h1, h2, h3⟩ := lcs_sub a b
  rw [← h3, ← List.length_reverse]; exact sub_lcs h1.reverse h2.reverse
theorem lcs_reverse (a b : List Int) : lcs a.reverse b.reverse = lcs a b := by
  apply Nat.le_antisymm
  · have := lcs_reverse_le a.reverse b.reverse; simpa using this
  · exact lcs_reverse_le a b
theorem lcs_append_le (a a' b b' : List Int) : lcs a b + lcs a' b' ≤ lcs (a ++ a') (b ++ b') := by
  obtain ⟨s, h1, h2, h3⟩ := lcs_sub a b
  obtain ⟨t, k1, k2, k3⟩ := lcs_sub a' b'
  rw [← h3, ← k3, ← List.length_append]; exact sub_lcs (h1.append k1) (h2.append k2)
/-- Behind a cut of the first list the second one can be cut, too. -/
theorem lcs_split (a a' b : List Int) : ∃ j, j ≤ b.length ∧ lcs (a ++ a') b = lcs a (b.take j) + lcs a' (b.drop j) := by
  obtain ⟨s, h1, h2, h3⟩ := lcs_sub (a ++ a') b
  obtain ⟨s1, s2, rfl, k1, k2⟩ := List.sublist_append_iff.mp h1
  obtain ⟨b1, b2, rfl, m1, m2⟩ := List.append_sublist_iff.mp h2
  refine ⟨b1.length, by simp, ?_⟩
  apply Nat.le_antisymm
  · rw [← h3, List.length_append]
    simp only [List.take_left, List.drop_left]
    exact Nat.add_le_add (sub_lcs k1 m1) (sub_lcs k2 m2)
  · have := lcs_append_le a a' (List.take b1.length (b1 ++ b2)) (List.drop b1.length (b1 ++ b2))
    rwa [List.take_append_drop] at this

/-! ### The table of all ends -/
/-- L of what lies behind i and j. -/
def beh (a b : List Int) (i j : Nat) : Nat := lcs (a.drop i) (b.drop j)
theorem beh_eq {a b : List Int} {i j : Nat} (hi : i < a.length) (hj : j < b.length) (h : a[i] = b[j]) : beh a b i j = beh a b (i + 1) (j + 1) + 1 := by
  unfold beh; rw [List.drop_eq_getElem_cons hi, List.drop_eq_getElem_cons hj, lcs_eq h]
theorem beh_ne {a b : List Int} {i j : Nat} (hi : i < a.length) (hj : j < b.length) (h : ¬ a[i] = b[j]) : beh a b i j = max (beh a b (i + 1) j) (beh a b i (j + 1)) := by
  unfold beh; rw [List.drop_eq_getElem_cons hi, List.drop_eq_getElem_cons hj, lcs_ne h]
theorem beh_end_left {a b : List Int} {i j : Nat} (hi : a.length ≤ i) : beh a b i j = 0 := by
  unfold beh; rw [List.drop_eq_nil_of_le hi, lcs_nil_left]
theorem beh_end_right {a b : List Int} {i j : Nat} (hj : b.length ≤ j) : beh a b i j = 0 := by
  unfold beh; rw [List.drop_eq_nil_of_le hj, lcs_nil_right]
theorem beh_mono {a b : List Int} {i j i' j' : Nat} (hi : i ≤ i') (hj : j ≤ j') : beh a b i' j' ≤ beh a b i j := by
  unfold beh
  apply lcs_mono
  · rw [show i' = i + (i' - i) by omega, ← List.drop_drop]; exact List.drop_sublist _ _
  · rw [show j' = j + (j' - j) by omega, ← List.drop_drop]; exact List.drop_sublist _ _
theorem beh_zero (a b : List Int) : beh a b 0 0 = lcs a b := by simp [beh]

/-! ### The table of all beginnings -/
def ahd (a b : List Int) (i j : Nat) : Nat := lcs (a.take i) (b.take j)
theorem ahd_rev (a b : List Int) (i j : Nat) : ahd a b i j = lcs (a.take i).reverse (b.take j).reverse := (lcs_reverse _ _).symm
theorem take_rev_succ {a : List Int} {i : Nat} (hi : i < a.length) : (a.take (i + 1)).reverse = a[i] :: (a.take i).reverse := by
  rw [List.take_succ_eq_append_getElem hi, List.reverse_append]; rfl
theorem ahd_eq {a b : List Int} {i j : Nat} (hi : i < a.length) (hj : j < b.length) (h : a[i] = b[j]) : ahd a b (i + 1) (j + 1) = ahd a b i j + 1 := by
  rw [ahd_rev, ahd_rev, take_rev_succ hi, take_rev_succ hj, lcs_eq h]
theorem ahd_ne {a b : List Int} {i j : Nat} (hi : i < a.length) (hj : j < b.length) (h : ¬ a[i] = b[j]) : ahd a b (i + 1) (j + 1) = max (ahd a b i (j + 1)) (ahd a b (i + 1) j) := by
  rw [ahd_rev, ahd_rev, ahd_rev, take_rev_succ hi, take_rev_succ hj, lcs_ne h]
theorem ahd_zero_left (a b : List Int) (j : Nat) : ahd a b 0 j = 0 := by simp [ahd, lcs_nil_left]
theorem ahd_zero_right (a b : List Int) (i : Nat) : ahd a b i 0 = 0 := by simp [ahd, lcs_nil_right]
theorem ahd_full (a b : List Int) : ahd a b a.length b.length = lcs a b := by simp [ahd]
theorem ahd_mono {a b : List Int} {i j i' j' : Nat} (hi : i ≤ i') (hj : j ≤ j') : ahd a b i j ≤ ahd a b i' j' := by
  unfold ahd
  exact lcs_mono (List.take_sublist_take_left hi) (List.take_sublist_take_left hj)
theorem ahd_step_left {a b : List Int} {i j : Nat} : ahd a b (i + 1) j ≤ ahd a b i j + 1 := by
  by_cases hi : i < a.length
  · rw [ahd_rev, ahd_rev, take_rev_succ hi]; exact (lcs_cons_left _ _ _).2
  · unfold ahd; rw [List.take_of_length_le (l := a) (i := i + 1) (by omega), List.take_of_length_le (l := a) (i := i) (by omega)]; omega
theorem ahd_step_right {a b : List Int} {i j : Nat} : ahd a b i (j + 1) ≤ ahd a b i j + 1 := by
  by_cases hj : j < b.length
  · rw [ahd_rev, ahd_rev, take_rev_succ hj]; exact (lcs_cons_right _ _ _).2
  · unfold ahd; rw [List.take_of_length_le (l := b) (i := j + 1) (by omega), List.take_of_length_le (l := b) (i := j) (by omega)]; omega

/-! ### Lists of pairs -/
/-- Pairs that rise, are in range and alike, from i and j on. -/
def Val (a b : List Int) : Nat → Nat → List (Nat × Nat) → Prop
  | _, _, [] => True
  | i, j, (x, y) :: l => i ≤ x ∧ j ≤ y ∧ x < a.length ∧ y < b.length ∧ a[x]? = b[y]? ∧ Val a b (x + 1) (y + 1) l
theorem Val.len {a b : List Int} : ∀ {l : List (Nat × Nat)} {i j : Nat}, Val a b i j l → l.length ≤ beh a b i j
  | [], _, _, _ => Nat.zero_le _
  | (x, y) :: l, i, j, ⟨h1, h2, h3, h4, h5, h6⟩ => by
    have k := h6.len
    have e : a[x] = b[y] := by rw [List.getElem?_eq_getElem h3, List.getElem?_eq_getElem h4] at h5; exact Option.some.inj h5
    have := beh_eq h3 h4 e
    have := beh_mono (a := a) (b := b) h1 h2
    simp only [List.length_cons]; omega
theorem Val.mono {a b : List Int} {i j i' j' : Nat} (hi : i' ≤ i) (hj : j' ≤ j) : ∀ {l : List (Nat × Nat)}, Val a b i j l → Val a b i' j' l
  | [], _ => trivial
  | (_, _) :: _, ⟨h1, h2, h⟩ => ⟨Nat.le_trans hi h1, Nat.le_trans hj h2, h⟩
end Tat
/- Plain laws of words of bits: no Go in sight. -/
namespace Tat

/-- Bit i of a list of words. -/
def bitAt (ws : List Int) (i : Nat) : Bool := (ws.getD (i / 64) 0).toNat.testBit (i % 64)
/-- All are words. -/
def Words64 (ws : List Int) : Prop := ∀ w ∈ ws, 0 ≤ w ∧ w < 18446744073709551616

theorem Words64.getD {ws : List Int} (h : Words64 ws) (k : Nat) : 0 ≤ ws.getD k 0 ∧ ws.getD k 0 < 18446744073709551616 := by
  rw [List.getD_eq_getElem?_getD]
  cases e : ws[k]? with
  | none => simp
  | some x => exact h x (List.mem_of_getElem? e)
theorem bitAt_word (ws : List Int) (k t : Nat) (h : t < 64) : bitAt ws (64 * k + t) = (ws.getD k 0).toNat.testBit t := by
  unfold bitAt
  rw [show (64 * k + t) / 64 = k by omega, show (64 * k + t) % 64 = t by omega]
theorem bitAt_out {ws : List Int} {i : Nat} (h : ws.length * 64 ≤ i) : bitAt ws i = false := by
  unfold bitAt
  rw [List.getD_eq_getElem?_getD, List.getElem?_eq_none (by omega)]
  simp
/-- Words that have the same bits are the same. -/
theorem words_ext {x y : List Int} (hl : x.length = y.length) (hx : Words64 x) (hy : Words64 y) (h : ∀ i, i < 64 * x.length → bitAt x i = bitAt y i) : x = y := by
  apply List.ext_getElem hl
  intro k h1 h2
  have a := hx x[k] (List.getElem_mem h1)
  have b := hy y[k] (List.getElem_mem h2)
  have e : x[k].toNat = y[k].toNat := by
    apply Nat.eq_of_testBit_eq
    intro t
    by_cases ht : t < 64
    · have := h (64 * k + t) (by omega)
      rw [bitAt_word _ _ _ ht, bitAt_word _ _ _ ht] at this
      simpa [List.getD_eq_getElem?_getD, List.getElem?_eq_getElem h1, List.getElem?_eq_getElem h2] using this
    · have p : 2 ^ 64 ≤ 2 ^ t := Nat.pow_le_pow_right (by decide) (by omega)
      rw [Nat.testBit_lt_two_pow (by omega), Nat.testBit_lt_two_pow (by omega)]
  omega

/-! ### A word's sum -/
theorem word_add (x y : Nat) (c : Bool) (hx : x < 2 ^ 64) (hy : y < 2 ^ 64) (t : Nat) (ht : t < 64) :
    ((x + y + c.toNat) % 2 ^ 64).testBit t = (x.testBit t ^^ (y.testBit t ^^ BitVec.carry t (BitVec.ofNat 64 x) (BitVec.ofNat 64 y) c)) := by
  have := BitVec.getLsbD_add_add_bool (i := t) ht (BitVec.ofNat 64 x) (BitVec.ofNat 64 y) c
  rw [BitVec.getLsbD, BitVec.getLsbD, BitVec.getLsbD] at this
  have e : (BitVec.ofNat 64 x + BitVec.ofNat 64 y + BitVec.setWidth 64 (BitVec.ofBool c)).toNat = (x + y + c.toNat) % 2 ^ 64 := by
    simp only [BitVec.toNat_add, BitVec.toNat_ofNat, BitVec.toNat_setWidth, BitVec.toNat_ofBool]
    omega
  rw [e, BitVec.toNat_ofNat, BitVec.toNat_ofNat, Nat.mod_eq_of_lt hx, Nat.mod_eq_of_lt hy] at this
  exact this
theorem word_carry_zero (x y : Nat) (c : Bool) : BitVec.carry 0 (BitVec.ofNat 64 x) (BitVec.ofNat 64 y) c = c := by
  cases c <;> simp [BitVec.carry, Nat.mod_one]
theorem word_carry_succ (x y : Nat) (c : Bool) (hx : x < 2 ^ 64) (hy : y < 2 ^ 64) (t : Nat) :
    BitVec.carry (t + 1) (BitVec.ofNat 64 x) (BitVec.ofNat 64 y) c = Bool.atLeastTwo (x.testBit t) (y.testBit t) (BitVec.carry t (BitVec.ofNat 64 x) (BitVec.ofNat 64 y) c) := by
  rw [BitVec.carry_succ, BitVec.getLsbD, BitVec.getLsbD, BitVec.toNat_ofNat, BitVec.toNat_ofNat, Nat.mod_eq_of_lt hx, Nat.mod_eq_of_lt hy]
theorem word_carry_out (x y : Nat) (c : Bool) (hx : x < 2 ^ 64) (hy : y < 2 ^ 64) : ((x + y + c.toNat) / 2 ^ 64) = (BitVec.carry 64 (BitVec.ofNat 64 x) (BitVec.ofNat 64 y) c).toNat := by
  have hc : c.toNat ≤ 1 := by cases c <;> decide
  unfold BitVec.carry
  rw [BitVec.toNat_ofNat, BitVec.toNat_ofNat, Nat.mod_mod, Nat.mod_mod, Nat.mod_eq_of_lt hx, Nat.mod_eq_of_lt hy]
  by_cases h : 2 ^ 64 ≤ x + y + c.toNat
  · rw [decide_eq_true h]; simp only [Bool.toNat_true]; omega
  · rw [decide_eq_false h]; simp only [Bool.toNat_false]; omega

/-! ### Carries along all bits -/
/-- The carry into bit j of x + y. -/
def car (x y : Nat → Bool) : Nat → Bool
  | 0 => false
  | j + 1 => Bool.atLeastTwo (x j) (y j) (car x y j)
theorem car_word (x y : Nat → Bool) (k X Y : Nat) (hX : X < 2 ^ 64) (hY : Y < 2 ^ 64) (hx : ∀ t, t < 64 → x (64 * k + t) = X.testBit t) (hy : ∀ t, t < 64 → y (64 * k + t) = Y.testBit t) :
    ∀ t, t ≤ 64 → car x y (64 * k + t) = BitVec.carry t (BitVec.ofNat 64 X) (BitVec.ofNat 64 Y) (car x y (64 * k)) := by
  intro t
  induction t with
  | zero => intro _; rw [word_carry_zero]; rfl
  | succ t ih =>
    intro h
    rw [word_carry_succ _ _ _ hX hY, ← ih (by omega), ← hx t (by omega), ← hy t (by omega)]
    rfl

/-! ### A word less a part of its own bits -/
theorem word_sub_part (x u : Nat) (hx : x < 2 ^ 64) (t : Nat) : (x - (x &&& u)).testBit t = (x.testBit t && !u.testBit t) := by
  have e : x &&& u ≤ x := Nat.and_le_left
  have h : (BitVec.ofNat 64 x - (BitVec.ofNat 64 x &&& BitVec.ofNat 64 u)) = (BitVec.ofNat 64 x &&& ~~~ BitVec.ofNat 64 u) := by
    have d : (BitVec.ofNat 64 x &&& ~~~ BitVec.ofNat 64 u) &&& (BitVec.ofNat 64 x &&& BitVec.ofNat 64 u) = 0#64 := by
      ext i hi; simp; intro a b _ ; simp_all
    have s := BitVec.add_eq_or_of_and_eq_zero _ _ d
    have o : (BitVec.ofNat 64 x &&& ~~~ BitVec.ofNat 64 u) ||| (BitVec.ofNat 64 x &&& BitVec.ofNat 64 u) = BitVec.ofNat 64 x := by
      ext i hi; simp only [BitVec.getElem_or, BitVec.getElem_and, BitVec.getElem_not]
      cases (BitVec.ofNat 64 x)[i] <;> cases (BitVec.ofNat 64 u)[i] <;> rfl
    rw [o] at s
    rw [BitVec.sub_eq_iff_eq_add]
    exact s.symm
  have b := congrArg (fun z : BitVec 64 => z.toNat.testBit t) h
  have e2 : (BitVec.ofNat 64 x - (BitVec.ofNat 64 x &&& BitVec.ofNat 64 u)).toNat = x - (x &&& u) := by
    rw [BitVec.toNat_sub, BitVec.toNat_and, BitVec.toNat_ofNat, BitVec.toNat_ofNat, Nat.mod_eq_of_lt hx]
    have : x &&& u % 2 ^ 64 = x &&& u := by
      apply Nat.eq_of_testBit_eq; intro i
      rw [Nat.testBit_and, Nat.testBit_and, Nat.testBit_mod_two_pow]
      by_cases hi : i < 64
      · simp [hi]
      · rw [Nat.testBit_lt_two_pow (Nat.lt_of_lt_of_le hx (Nat.pow_le_pow_right (by decide) (by omega)))]; simp
    rw [this]; omega
  rw [e2] at b
  rw [b]
  by_cases ht : t < 64
  · rw [← BitVec.getLsbD, BitVec.getLsbD_and, BitVec.getLsbD_not]
    simp only [BitVec.getLsbD_ofNat, ht, decide_true, Bool.true_and]
  · rw [Nat.testBit_lt_two_pow (x := x) (Nat.lt_of_lt_of_le hx (Nat.pow_le_pow_right (by decide) (by omega)))]
    rw [← BitVec.getLsbD, BitVec.getLsbD_of_ge _ _ (by omega)]; rfl
end Tat
/- The rows of bits (Hyyroe; Crochemore and others): bit j is 1 just where the row of the table doesn't go up. -/
namespace Tat

/-- What bit j of row i tells, for j below the second list's length. -/
def rowBit (a b : List Int) (i j : Nat) : Bool := decide (ahd a b i (j + 1) = ahd a b i j)

/-- The carry is the step from row to row; the bit behind it the next row's. -/
theorem carry_row {a b : List Int} {i : Nat} (hi : i < a.length) {v u : Nat → Bool}
    (hv : ∀ j, j < b.length → v j = rowBit a b i j) (hu : ∀ j (h : j < b.length), u j = decide (b[j] = a[i])) :
    ∀ j, j ≤ b.length → car v (fun j => v j && u j) j = decide (ahd a b (i + 1) j = ahd a b i j + 1) := by
  intro j
  induction j with
  | zero => intro _; simp [car, ahd_zero_right]
  | succ j ih =>
    intro h
    have ih := ih (by omega)
    rw [car, ih, hv j (by omega), hu j (by omega)]
    unfold rowBit Bool.atLeastTwo
    have s1 := ahd_step_left (a := a) (b := b) (i := i) (j := j)
    have s2 := ahd_step_left (a := a) (b := b) (i := i) (j := j + 1)
    have s3 := ahd_step_right (a := a) (b := b) (i := i) (j := j)
    have s4 := ahd_step_right (a := a) (b := b) (i := i + 1) (j := j)
    have m1 := ahd_mono (a := a) (b := b) (i := i) (j := j) (i' := i) (j' := j + 1) (Nat.le_refl _) (Nat.le_succ _)
    have m2 := ahd_mono (a := a) (b := b) (i := i) (j := j) (i' := i + 1) (j' := j) (Nat.le_succ _) (Nat.le_refl _)
    have m3 := ahd_mono (a := a) (b := b) (i := i) (j := j + 1) (i' := i + 1) (j' := j + 1) (Nat.le_succ _) (Nat.le_refl _)
    by_cases e : a[i] = b[j]
    · have q := ahd_eq hi (by omega : j < b.length) e
      rw [decide_eq_true e.symm]
      simp only [Bool.and_true, Bool.and_self]
      by_cases x : ahd a b i (j + 1) = ahd a b i j
      · rw [decide_eq_true x, decide_eq_true (show ahd a b (i + 1) (j + 1) = ahd a b i (j + 1) + 1 by omega)]; simp
      · rw [decide_eq_false x, decide_eq_false (show ¬ ahd a b (i + 1) (j + 1) = ahd a b i (j + 1) + 1 by omega)]; simp
    · have q := ahd_ne hi (by omega : j < b.length) e
      rw [decide_eq_false (show ¬ b[j] = a[i] from fun h => e h.symm)]
      simp only [Bool.and_false, Bool.false_and, Bool.false_or]
      by_cases x : ahd a b i (j + 1) = ahd a b i j
      · by_cases y : ahd a b (i + 1) j = ahd a b i j + 1
        · rw [decide_eq_true x, decide_eq_true y, decide_eq_true (show ahd a b (i + 1) (j + 1) = ahd a b i (j + 1) + 1 by omega)]; rfl
        · rw [decide_eq_true x, decide_eq_false y, decide_eq_false (show ¬ ahd a b (i + 1) (j + 1) = ahd a b i (j + 1) + 1 by omega)]; rfl
      · rw [decide_eq_false x, decide_eq_false (show ¬ ahd a b (i + 1) (j + 1) = ahd a b i (j + 1) + 1 by omega)]; rfl

theorem next_row {a b : List Int} {i : Nat} (hi : i < a.length) {v u : Nat → Bool}
    (hv : ∀ j, j < b.length → v j = rowBit a b i j) (hu : ∀ j (h : j < b.length), u j = decide (b[j] = a[i])) (j : Nat) (h : j < b.length) :
    ((v j ^^ ((v j && u j) ^^ car v (fun j => v j && u j) j)) || (v j && !u j)) = rowBit a b (i + 1) j := by
  rw [carry_row hi hv hu j (by omega), hv j h, hu j h]
  unfold rowBit
  have s1 := ahd_step_left (a := a) (b := b) (i := i) (j := j)
  have s2 := ahd_step_left (a := a) (b := b) (i := i) (j := j + 1)
  have s3 := ahd_step_right (a := a) (b := b) (i := i) (j := j)
  have s4 := ahd_step_right (a := a) (b := b) (i := i + 1) (j := j)
  have m1 := ahd_mono (a := a) (b := b) (i := i) (j := j) (i' := i) (j' := j + 1) (Nat.le_refl _) (Nat.le_succ _)
  have m2 := ahd_mono (a := a) (b := b) (i := i) (j := j) (i' := i + 1) (j' := j) (Nat.le_succ _) (Nat.le_refl _)
  have m3 := ahd_mono (a := a) (b := b) (i := i) (j := j + 1) (i' := i + 1) (j' := j + 1) (Nat.le_succ _) (Nat.le_refl _)
  by_cases e : a[i] = b[j]
  · have q := ahd_eq hi h e
    rw [decide_eq_true e.symm]
    by_cases y : ahd a b (i + 1) j = ahd a b i j + 1
    · rw [decide_eq_true y, decide_eq_true (show ahd a b (i + 1) (j + 1) = ahd a b (i + 1) j by omega)]
      cases decide (ahd a b i (j + 1) = ahd a b i j) <;> rfl
    · rw [decide_eq_false y, decide_eq_false (show ¬ ahd a b (i + 1) (j + 1) = ahd a b (i + 1) j by omega)]
      cases decide (ahd a b i (j + 1) = ahd a b i j) <;> rfl
  · have q := ahd_ne hi h e
    rw [decide_eq_false (show ¬ b[j] = a[i] from fun h => e h.symm)]
    by_cases x : ahd a b i (j + 1) = ahd a b i j
    · rw [decide_eq_true x, decide_eq_true (show ahd a b (i + 1) (j + 1) = ahd a b (i + 1) j by omega)]
      cases decide (ahd a b (i + 1) j = ahd a b i j + 1) <;> rfl
    · rw [decide_eq_false x]
      by_cases y : ahd a b (i + 1) j = ahd a b i j + 1
      · rw [decide_eq_true y, decide_eq_true (show ahd a b (i + 1) (j + 1) = ahd a b (i + 1) j by omega)]; rfl
      · rw [decide_eq_false y, decide_eq_false (show ¬ ahd a b (i + 1) (j + 1) = ahd a b (i + 1) j by omega)]; rfl
end Tat
/- Loops that fill a list place by place, and loops that append: no Go in sight. -/
namespace Tat

/-- 'for i := range y { y[i] = g(i) }', from place i on. -/
theorem fill_loop (F : Nat → List Int → Nat → Option (List Int)) (g : Nat → Int) (n : Nat)
    (hstep : ∀ k y i, i < n → y.length = n → F (k + 1) y i = F k (y.set i (g i)) (i + 1))
    (hend : ∀ k y, y.length = n → F (k + 1) y n = some y) :
    ∀ d k y i, n - i = d → d < k → y.length = n → i ≤ n → F k y i = some (y.take i ++ (List.range' i (n - i)).map g) := by
  intro d
  induction d with
  | zero =>
    intro k y i hd hk hy hi
    obtain ⟨k, rfl⟩ : ∃ m, k = m + 1 := ⟨k - 1, by omega⟩
    obtain rfl : i = n := by omega
    rw [hend _ _ hy, Nat.sub_self]
    simp [List.take_of_length_le (Nat.le_of_eq hy)]
  | succ d ih =>
    intro k y i hd hk hy hi
    obtain ⟨k, rfl⟩ : ∃ m, k = m + 1 := ⟨k - 1, by omega⟩
    rw [hstep k y i (by omega) hy, ih k (y.set i (g i)) (i + 1) (by omega) (by omega) (by simpa using hy) (by omega)]
    rw [show n - i = (n - (i + 1)) + 1 by omega, List.range'_succ, List.map_cons]
    have e : (y.set i (g i)).take (i + 1) = y.take i ++ [g i] := by
      rw [List.take_succ_eq_append_getElem (by simp; omega)]
      simp [List.take_set_of_le]
    rw [e, List.append_assoc]; rfl
/-- The same from the beginning. -/
theorem fill_all (F : Nat → List Int → Nat → Option (List Int)) (g : Nat → Int) (n : Nat)
    (hstep : ∀ k y i, i < n → y.length = n → F (k + 1) y i = F k (y.set i (g i)) (i + 1))
    (hend : ∀ k y, y.length = n → F (k + 1) y n = some y) (y : List Int) (hy : y.length = n) (k : Nat) (hk : n < k) :
    F k y 0 = some ((List.range n).map g) := by
  rw [fill_loop F g n hstep hend n k y 0 (by omega) hk hy (by omega)]
  simp [List.range_eq_range']
theorem getD_map_range (n : Nat) (g : Nat → Int) (k : Nat) : ((List.range n).map g).getD k 0 = if k < n then g k else 0 := by
  rw [List.getD_eq_getElem?_getD, List.getElem?_map]
  by_cases h : k < n
  · simp [h]
  · simp [h]
end Tat
/- The way back through the table of all beginnings: no Go in sight. -/
namespace Tat

/-- Pairs that fall, alike, ahead of i and j. -/
def ValD (a b : List Int) : Nat → Nat → List (Nat × Nat) → Prop
  | _, _, [] => True
  | i, j, (x, y) :: l => x < i ∧ y < j ∧ x < a.length ∧ y < b.length ∧ a[x]? = b[y]? ∧ ValD a b x y l
theorem ValD.mono {a b : List Int} {i j i' j' : Nat} (hi : i ≤ i') (hj : j ≤ j') : ∀ {l : List (Nat × Nat)}, ValD a b i j l → ValD a b i' j' l
  | [], _ => trivial
  | (_, _) :: _, ⟨h1, h2, h⟩ => ⟨Nat.lt_of_lt_of_le h1 hi, Nat.lt_of_lt_of_le h2 hj, h⟩
theorem ValD.turn {a b : List Int} : ∀ {l m : List (Nat × Nat)} {i j : Nat}, ValD a b i j l → Val a b i j m → Val a b 0 0 (l.reverse ++ m)
  | [], m, i, j, _, h => by simpa using h.mono (Nat.zero_le _) (Nat.zero_le _)
  | (x, y) :: l, m, i, j, ⟨h1, h2, h3, h4, h5, h6⟩, h => by
    rw [List.reverse_cons, List.append_assoc]
    exact h6.turn (m := [(x, y)] ++ m) ⟨Nat.le_refl _, Nat.le_refl _, h3, h4, h5, h.mono (by omega) (by omega)⟩
theorem ValD.reverse {a b : List Int} {l : List (Nat × Nat)} {i j : Nat} (h : ValD a b i j l) : Val a b 0 0 l.reverse := by
  simpa using h.turn (m := []) trivial

/-- The pairs as they are found: from the end. -/
def way (a b : List Int) : Nat → Nat → List (Nat × Nat)
  | 0, _ => []
  | _ + 1, 0 => []
  | i + 1, j + 1 => if ahd a b (i + 1) (j + 1) = ahd a b (i + 1) j then way a b (i + 1) j else if a[i]? = b[j]? then (i, j) :: way a b i j else way a b i (j + 1)
termination_by i j => i + j
theorem way_zero_left (a b : List Int) (j : Nat) : way a b 0 j = [] := by rw [way]
theorem way_zero_right (a b : List Int) (i : Nat) : way a b i 0 = [] := by cases i <;> rw [way]
theorem way_left {a b : List Int} {i j : Nat} (h : ahd a b (i + 1) (j + 1) = ahd a b (i + 1) j) : way a b (i + 1) (j + 1) = way a b (i + 1) j := by rw [way, if_pos h]
theorem way_pair {a b : List Int} {i j : Nat} (h : ¬ ahd a b (i + 1) (j + 1) = ahd a b (i + 1) j) (e : a[i]? = b[j]?) : way a b (i + 1) (j + 1) = (i, j) :: way a b i j := by rw [way, if_neg h, if_pos e]
theorem way_up {a b : List Int} {i j : Nat} (h : ¬ ahd a b (i + 1) (j + 1) = ahd a b (i + 1) j) (e : ¬ a[i]? = b[j]?) : way a b (i + 1) (j + 1) = way a b i (j + 1) := by rw [way, if_neg h, if_neg e]

theorem way_ok_n (a b : List Int) (n : Nat) : ∀ i j, i + j = n → i ≤ a.length → j ≤ b.length → ValD a b i j (way a b i j) ∧ (way a b i j).length = ahd a b i j := by
  induction n using Nat.strongRecOn with
  | _ n ih =>
  intro i j hn hi hj
  cases i with
  | zero => rw [way_zero_left, ahd_zero_left]; exact ⟨trivial, rfl⟩
  | succ i =>
    cases j with
    | zero => rw [way_zero_right, ahd_zero_right]; exact ⟨trivial, rfl⟩
    | succ j =>
      by_cases h : ahd a b (i + 1) (j + 1) = ahd a b (i + 1) j
      · rw [way_left h, h]
        have := ih (i + 1 + j) (by omega) (i + 1) j rfl hi (by omega)
        exact ⟨this.1.mono (Nat.le_refl _) (by omega), this.2⟩
      · have ea : a[i]? = some a[i] := List.getElem?_eq_getElem (by omega)
        have eb : b[j]? = some b[j] := List.getElem?_eq_getElem (by omega)
        by_cases e : a[i]? = b[j]?
        · rw [way_pair h e]
          have := ih (i + j) (by omega) i j rfl (by omega) (by omega)
          refine ⟨⟨by omega, by omega, by omega, by omega, e, this.1⟩, ?_⟩
          rw [List.length_cons, this.2, ahd_eq (by omega) (by omega) (by rw [ea, eb] at e; exact Option.some.inj e)]
        · rw [way_up h e]
          have := ih (i + (j + 1)) (by omega) i (j + 1) rfl (by omega) hj
          refine ⟨this.1.mono (by omega) (Nat.le_refl _), ?_⟩
          have q := ahd_ne (a := a) (b := b) (i := i) (j := j) (by omega) (by omega) (fun h => e (by rw [ea, eb, h]))
          rw [this.2]
          omega
/-- The list of the way back is good, and as long as may be. -/
theorem way_good (a b : List Int) : Val a b 0 0 (way a b a.length b.length).reverse ∧ (way a b a.length b.length).reverse.length = lcs a b := by
  have := way_ok_n a b _ a.length b.length rfl (Nat.le_refl _) (Nat.le_refl _)
  exact ⟨this.1.reverse, by rw [List.length_reverse, this.2, ahd_full]⟩
end Tat
