-- laid by a program of this session (wip/xprint)
import Derived.Test.YtkafkbdidnkefaaR0
namespace Go.Proofs.Ytkafkbdidnkefaa.R
open Go.RowKit Go.Proofs.YtkafkbdidnkefaaW.PrintWords Go.Proofs.YtkafkbdidnkefaaW.PrintLast Go.Proofs.YtkafkbdidnkefaaW.PrintMore
attribute [local go_sem] max2_int min2_int max_two min_two max_three min_three max_four min_four   -- for this text's walks alone
set_option linter.unusedVariables false
set_option linter.unusedSimpArgs false

/-! ### vec_width: function 44 -/
def vec_width.f (a0 : Int) : Option (Int) := some (mn (mx a0 0) 1048576)
set_option maxHeartbeats 8000000 in
set_option maxRecDepth 100000 in
theorem vec_width.calls (a0 : Int) (r : Int) (w : World) (h : vec_width.f a0 = some r) :
  Calls Try.prog 44 #[.int .i64 a0] w fun e w' => e = .returned (.int .i64 r) ∧ Below w.heap.size w w' := by
 have HB := Aside0.mk (Below.refl w.heap.size w)
 have H : (some (mn (mx a0 0) 1048576)) = some r := h
 clear h
 obtain ⟨ji2, hji2⟩ : ∃ j_ : Int, (mx a0 0) = j_ := ⟨_, rfl⟩
 replace H : (some (mn (ji2) 1048576)) = some r := by first | (rw [hji2] at H; exact H) | (simp only [hji2] at H ⊢; exact H)
 (try (have hji2l : 0 ≤ ji2 := by (rw [← hji2]; unfold mx; (repeat' split) <;> omega)))
 (try (have hji2m : 0 ≤ ji2 := by omega))
 have hji2_ : (if a0 < 0 then 0 else a0) = ji2 := hji2
 (try (have hji2n := hji2_; simp only [Int.ofNat_lt, Int.ofNat_le] at hji2n))
 obtain ⟨ji3, hji3⟩ : ∃ j_ : Int, (mn (ji2) 1048576) = j_ := ⟨_, rfl⟩
 replace H : (some ji3) = some r := by first | (rw [hji3] at H; exact H) | (simp only [hji3] at H ⊢; exact H)
 have hji3_ : (if 1048576 < (ji2) then 1048576 else (ji2)) = ji3 := hji3
 (try (have hji3n := hji3_; simp only [Int.ofNat_lt, Int.ofNat_le] at hji3n))
 obtain rfl := Option.some.inj H
 go_enter Try.func44, Try.ntmps44
 go_wp2
 go_ret
 exact ⟨by first | rfl | (simp [errW_none, errW_some] <;> rfl) | (simp only [← hji2, ← hji3]; first | rfl | (simp [errW_none, errW_some] <;> rfl)) | (simp [*, errW_none, errW_some] <;> rfl), by repeat (first | (with_reducible first | exact HB.out | apply below_alloc | apply pw_below_drewN | apply below_drew1) | exact HB.out)⟩

/-! ### vec_Words: function 31 -/
def vec_Words.f (a0 : Int) : Option (Int) := (vec_width.f a0).bind fun t101 => (some (wrap64 (Int.tdiv (wrap64 ((wrap64 (t101 + 64)) - 1)) 64)))
set_option maxHeartbeats 8000000 in
set_option maxRecDepth 100000 in
theorem vec_Words.calls (a0 : Int) (r : Int) (w : World) (h : vec_Words.f a0 = some r) :
  Calls Try.prog 31 #[.int .i64 a0] w fun e w' => e = .returned (.int .i64 r) ∧ Below w.heap.size w w' := by
 have HB := Aside0.mk (Below.refl w.heap.size w)
 have H : ((vec_width.f a0).bind fun t101 => (some (wrap64 (Int.tdiv (wrap64 ((wrap64 (t101 + 64)) - 1)) 64)))) = some r := h
 clear h
 replace H := Option.bind_eq_some_iff.mp H
 obtain ⟨t101, A20, H⟩ := H
 replace H : (some (wrap64 (Int.tdiv (wrap64 ((wrap64 (t101 + 64)) - 1)) 64))) = some r := H
 have A2 := Aside0.mk A20
 clear A20
 obtain rfl := Option.some.inj H
 go_enter Try.func31, Try.ntmps31
 go_wp2_with (first | ((with_reducible refine gate_callee (f := 44) rfl ?_); refine goesL_ (some 4) rfl rfl Try.func44 (by kernel_rfl) rfl #[.int .i64 a0] rfl (by (try simp only [List.map_toArray, List.map_cons, List.map_nil]); first | done | rfl | (simp only [List.length_drop, List.length_take]; rfl)) ?_; (with_reducible refine (vec_width.calls a0 t101 _ A2.out).mono ?_); rintro e w3 ⟨rfl, hb⟩; refine ⟨_, rfl, ?_⟩; have n0_ := Aside0.mk (below_step (by repeat (first | (with_reducible first | exact HB.out | apply below_alloc | apply pw_below_drewN | apply below_drew1) | exact HB.out)) hb); clear HB; have HB := n0_; clear n0_; (try clear hb); (try clear hb2); (try clear hk); (try clear hi)))
 go_ret
 exact ⟨by first | rfl | (simp [errW_none, errW_some] <;> rfl) | (simp [*, errW_none, errW_some] <;> rfl), by repeat (first | (with_reducible first | exact HB.out | apply below_alloc | apply pw_below_drewN | apply below_drew1) | exact HB.out)⟩

-- NOT PRINTED: function 35 (slices_Clone_int_int)

-- NOT PRINTED: function 73 (cmp_isNaN_int)

-- NOT PRINTED: function 61 (cmp_Less_int)

-- NOT PRINTED: function 55 (slices_insertionSortOrdered_int)

-- NOT PRINTED: function 68 (slices_siftDownOrdered_int)

-- NOT PRINTED: function 56 (slices_heapSortOrdered_int)

-- NOT PRINTED: function 64 (bits_Len32)

-- NOT PRINTED: function 65 (bits_Len64)

-- NOT PRINTED: function 48 (bits_Len)

-- NOT PRINTED: function 69 (slices_nextPowerOfTwo)

-- NOT PRINTED: function 70 (slices_xorshift_Next)

-- NOT PRINTED: function 57 (slices_breakPatternsOrdered_int)

-- NOT PRINTED: function 74 (slices_order2Ordered_int)

-- NOT PRINTED: function 72 (slices_medianOrdered_int)

-- NOT PRINTED: function 71 (slices_medianAdjacentOrdered_int)

-- NOT PRINTED: function 58 (slices_choosePivotOrdered_int)

-- NOT PRINTED: function 59 (slices_reverseRangeOrdered_int)

-- NOT PRINTED: function 60 (slices_partialInsertionSortOrdered_int)

-- NOT PRINTED: function 62 (slices_partitionEqualOrdered_int)

-- NOT PRINTED: function 63 (slices_partitionOrdered_int)

-- NOT PRINTED: function 47 (slices_pdqsortOrdered_int)

-- NOT PRINTED: function 36 (slices_Sort_int_int)

-- NOT PRINTED: function 37 (slices_Compact_int_int)


/-! ### mask_New: function 23 (by hand) -/
/-- One place of a number more. -/
def mstep (b : List Int) (x : Int) (r : List Int) (j : Nat) : List Int := if b.getD j 0 = x then r.set (j / 64) (Go.bits .or .u64 (r.getD (j / 64) 0) (2 ^ (j % 64))) else r
/-- The row of a number: the places of the first K. -/
def mrowK (b : List Int) (x : Int) (K : Nat) : List Int := (List.range K).foldl (mstep b x) (List.replicate ((b.length + 63) / 64) 0)
def mrow (b : List Int) (x : Int) : List Int := if x ∈ b then mrowK b x b.length else []
/-- At block g of the world lie the masks of a list. -/
def IsMask (W : World) (g : Nat) (b : List Int) : Prop := ∃ (sv : Value) (m : Nat) (es : Array MapEntry) (clock : Nat), W.heap[g]? = some (.cells #[.int .i64 (b.length : Int), sv, .map (some m)] 58 (0, 0)) ∧ W.heap[m]? = some (.map es clock) ∧ TatMap.IntKeys es.toList ∧
  ∀ x : Int, (TatMap.lookS es.toList x = none ∧ mrow b x = []) ∨ ∃ A c, TatMap.lookS es.toList x = some (.slice A (mrow b x).length c) ∧ (mrow b x).length ≤ c ∧ Kd.C (Kd.int .u64) W A (mrow b x).length (mrow b x)
theorem GM_below {w W : World} {g : Nat} {b : List Int} (h : IsMask w g b) (hb : Below w.heap.size w W) : IsMask W g b := by
  obtain ⟨sv, m, es, clock, h1, h2, h3, h4⟩ := h
  refine ⟨sv, m, es, clock, (hb.block g (blk_lt h1)).trans h1, ?_, h3, fun x => ?_⟩
  · have hlt : m < w.heap.size := (Array.getElem?_eq_some_iff.1 h2).1
    exact (hb.block m hlt).trans h2
  · rcases h4 x with h | ⟨A, c, e1, e2, e3⟩
    · exact .inl h
    · exact .inr ⟨A, c, e1, e2, Kd.C_below e3 hb⟩
theorem compact_mem {zs : List Int} {x : Int} : x ∈ Lib.compact zs ↔ x ∈ zs := by
  unfold Lib.compact Lib.compactUpTo
  have get : ∀ i, i < zs.length → zs.toArray[i]! = zs.getD i 0 := fun i hi => by simp [getElem!_pos, hi]
  constructor
  · intro h
    obtain ⟨i, hi, rfl⟩ := List.mem_map.1 h
    have hi' : i < zs.length := List.mem_range.1 (List.mem_filter.1 hi).1
    simp [getElem!_pos, hi']
  · intro h
    obtain ⟨i, hi, rfl⟩ := List.mem_iff_getElem.1 h
    have main : ∀ i, i < zs.length → ∃ j, j < zs.length ∧ Lib.keeps zs.toArray j = true ∧ zs.getD j 0 = zs.getD i 0 := by
      intro i
      induction i with
      | zero => intro hi; exact ⟨0, hi, by simp [Lib.keeps], rfl⟩
      | succ i ih =>
        intro hi
        by_cases c : zs.getD (i + 1) 0 = zs.getD i 0
        · obtain ⟨j, h1, h2, h3⟩ := ih (by omega)
          exact ⟨j, h1, h2, by rw [c]; exact h3⟩
        · refine ⟨i + 1, hi, ?_, rfl⟩
          unfold Lib.keeps
          rw [get _ hi, show i + 1 - 1 = i from rfl, get i (by omega)]
          simpa using c
    obtain ⟨j, h1, h2, h3⟩ := main i hi
    refine List.mem_map.2 ⟨j, List.mem_filter.2 ⟨List.mem_range.2 h1, h2⟩, ?_⟩
    rw [get j h1, h3]
    simp [List.getD, hi]

theorem clone_R (A0 : Option Addr) (c0 : Nat) (l0 : List Int) (w : World) (hr0 : (Kd.int .i64).C w A0 l0.length l0) (hs : l0.length ≤ 1048576) :
    Calls Try.prog 35 #[.slice A0 l0.length c0] w fun e w' => ∃ v, e = .returned v ∧ (Kd.int .i64).R 3 w' w.heap.size (fun _ => True) v l0 ∧ Below w.heap.size w w' := by
  cases A0 with
  | none =>
    have h0 : l0 = [] := by
      by_cases c : l0.length = 0
      · exact List.length_eq_zero_iff.1 c
      · obtain ⟨ad, e, _⟩ := hr0.2.2 (by omega); cases e
    subst h0
    refine (Any.slices_Clone_int_nil Try.laysClone 0 c0 w).mono ?_
    rintro e w' ⟨rfl, rfl⟩
    exact ⟨_, rfl, Kd.R_nil _ _ _ _ _, Below.refl _ _⟩
  | some ad =>
    by_cases hn : l0.length = 0
    · have h0 : l0 = [] := List.length_eq_zero_iff.1 hn
      subst h0
      refine (Any.slices_Clone_int_zero Try.laysClone ad c0 w).mono ?_
      rintro e w' ⟨v, rfl, ho, _, hb⟩
      exact ⟨_, rfl, Kd.R_of_own ho (fun _ _ => trivial), hb⟩
    · have hc := (Kd.reads_of_C (d := (0 : Int)) hr0).2.2 (by omega)
      obtain ⟨ad', e, hc⟩ := hc
      obtain rfl : ad = ad' := by simpa using e
      obtain ⟨b, off, spot⟩ := ad
      have hspot : spot = none := by simpa [Addr.add] using World.cell?_spot (hc 0 (by omega))
      subst hspot
      refine (Any.slices_Clone_int Try.laysClone b off l0.length c0 l0 w (Nat.le_refl _) (by omega) (fun j hj => by have := hc j hj; rwa [WideShapes.add_plain] at this)).mono ?_
      rintro e w' ⟨v, rfl, ho, _, hb⟩
      rw [List.take_length] at ho
      exact ⟨_, rfl, Kd.R_of_own ho (fun _ _ => trivial), hb⟩

theorem grown_refl (w : World) (r : Option Nat) : w.grownBy w r := ⟨rfl, rfl, rfl, Nat.le_refl _, fun _ _ _ => rfl⟩

theorem sort_R {W : World} {base : Nat} {v : Value} {ss : List Int} {ok : Nat → Prop} (h : (Kd.int .i64).R 3 W base ok v ss) (hs : ss.length ≤ 1048576) :
    Calls Try.prog 36 #[v] W fun e w' => e = .returned (.tuple #[]) ∧ ∃ ts, (∀ x, x ∈ ts ↔ x ∈ ss) ∧ ts.length = ss.length ∧ (Kd.int .i64).R 3 w' base ok v ts ∧ W.grownBy w' v.ownBlock := by
  have ho := Kd.own_of_R h
  rcases ho.2 with ⟨rfl, h0⟩ | ⟨g, cap, cur, rfl, hbase, hg, h1, h2, h3, h4⟩
  · have : ss = [] := List.length_eq_zero_iff.1 h0
    subst this
    refine (calls_of_every_depth fun D => AnyS.slices_Sort_int_none_in Try.laysSort D none 0 W).mono ?_
    rintro e w' ⟨rfl, rfl⟩
    exact ⟨rfl, [], fun x => Iff.rfl, rfl, h, grown_refl _ _⟩
  · have hH : Sort.Holds (Value.int .i64) W g 0 ss.toArray := holds_of_blockI hg (by rw [Nat.mul_one] at h4; exact h4)
    refine (Any.slices_Sort_int Try.laysSort g 0 cap ss W hH (Array.getElem?_eq_some_iff.1 hg).1 (by omega)).mono ?_
    rintro e w' ⟨rfl, n, os, rfl⟩
    refine ⟨rfl, ss.mergeSort fun x y => decide (x ≤ y), fun x => (List.mergeSort_perm ss _).mem_iff, List.length_mergeSort ss, ?_, grownBy_sortedI _⟩
    have hl := List.length_mergeSort (le := fun x y => decide (x ≤ y)) ss
    have := ownsRow_sortedI (n := n) (os := os) (ts := ss.mergeSort fun x y => decide (x ≤ y)) hl hbase hg h1 h2 h3
    rw [← hl] at this
    rw [← hl]
    exact Kd.R_of_own this (fun k hk => h.1 k (by simpa [Value.ownBlock] using hk))

theorem compact_R {W : World} {base : Nat} {v : Value} {ss : List Int} {ok : Nat → Prop} (h : (Kd.int .i64).R 3 W base ok v ss) (hs : ss.length ≤ 1048576) :
    Calls Try.prog 37 #[v] W fun e w' => ∃ v' ts, e = .returned v' ∧ v'.ownBlock = v.ownBlock ∧ (∀ x, x ∈ ts ↔ x ∈ ss) ∧ ts.length ≤ ss.length ∧ (Kd.int .i64).R 3 w' base ok v' ts ∧ W.grownBy w' v.ownBlock := by
  have ho := Kd.own_of_R h
  rcases ho.2 with ⟨rfl, h0⟩ | ⟨g, cap, cur, rfl, hbase, hg, h1, h2, h3, h4⟩
  · have : ss = [] := List.length_eq_zero_iff.1 h0
    subst this
    refine (Any.slices_Compact_int_empty Try.laysCompact none 0 W).mono ?_
    rintro e w' ⟨rfl, rfl⟩
    exact ⟨_, [], rfl, rfl, fun x => Iff.rfl, Nat.le_refl _, h, grown_refl _ _⟩
  · have hH : Sort.Holds (Value.int .i64) W g 0 ss.toArray := holds_of_blockI hg (by rw [Nat.mul_one] at h4; exact h4)
    refine (Any.slices_Compact_int Try.laysCompact g 0 cap ss W hH (by omega) h1).mono ?_
    rintro e w' ⟨rfl, q, rfl⟩
    have hle := Lib.compact_length_le ss
    refine ⟨_, Lib.compact ss, rfl, rfl, fun x => compact_mem, hle, ?_, ?_⟩
    · have hc := Lib.ownsRow_putRow (q := q) (k := (Lib.compact ss).length) (ys := Lib.compact ss ++ List.replicate (ss.length - (Lib.compact ss).length) 0) (enc := Value.int .i64) ho (by simp; omega) (by omega)
      rw [List.take_left] at hc
      exact Kd.R_of_own hc (fun k hk => h.1 k (by simpa [Value.ownBlock] using hk))
    · refine ⟨rfl, rfl, rfl, by simp [Sort.putRow, Sort.mapBlock, Sort.ahead], fun k hk hne => ?_⟩
      have : g ≠ k := fun e => hne (by rw [← e]; rfl)
      simp [Sort.putRow, Sort.mapBlock, Sort.ahead, Array.getElem?_modify, this]
theorem blk_froz {W : World} {g : Nat} {cells : Array Value} {t : TypeId} (h : W.heap[g]? = some (.cells cells t (0, 0))) (o : Nat) : W.frozen? ⟨g, o, none⟩ = false := by simp [World.frozen?, h]
theorem two_new (w : World) (o1 o2 : Obj) : ((w.alloc o1).alloc o2).heap[w.heap.size + 1]? = some o2 ∧ ((w.alloc o1).alloc o2).heap[w.heap.size]? = some o1 ∧ ((w.alloc o1).alloc o2).heap.size = w.heap.size + 2 := by
  refine ⟨?_, ?_, ?_⟩
  · have h1 := heap_alloc_new (w.alloc o1) o2
    rwa [World.size_alloc] at h1
  · exact (heap_alloc_old _ _ (by rw [World.size_alloc]; omega)).trans (heap_alloc_new w o1)
  · rw [World.size_alloc, World.size_alloc]
/-- The masks while they are made: the struct stands behind the map; v, a row of ys, is its list of symbols. -/
structure St (w : World) (n : Nat) (W : World) (u v : Value) (ys : List Int) : Prop where
  blk : W.heap[w.heap.size + 1]? = some (.cells #[.int .i64 (n : Int), u, .map (some w.heap.size)] 58 (0, 0))
  row : (Kd.int .i64).R 3 W (w.heap.size + 2) (fun _ => True) v ys
  bel : Below w.heap.size w W
theorem St.away {w W : World} {n : Nat} {u v : Value} {ys : List Int} (h : St w n W u v ys) (k : Nat) (hk : k < w.heap.size + 2) : some k ≠ v.ownBlock := fun e => by have := Kd.R_base h.row k e.symm; omega
theorem St.store {w W : World} {n : Nat} {u v : Value} {ys : List Int} (h : St w n W u v ys) : St w n (W.setCell ⟨w.heap.size + 1, 1, none⟩ v) v v ys :=
  ⟨by rw [heap_setCell_same W _ 1 _ _ v h.blk]; rfl, Kd.R_set h.row h.blk (by intro q hq; simp [Kd.int, Kd.scalar] at hq; omega) 1 v, ⟨h.bel.os, h.bel.tape, h.bel.output, by rw [World.size_setCell]; exact h.bel.size, fun k hk => (Below.heap_setCell _ _ _ _ (by show k ≠ w.heap.size + 1; omega)).trans (h.bel.block k hk)⟩⟩
theorem St.call {w W W' : World} {n : Nat} {u v v' : Value} {ys ys' : List Int} (h : St w n W u v ys) (hg : W.grownBy W' v.ownBlock) (hr : (Kd.int .i64).R 3 W' (w.heap.size + 2) (fun _ => True) v' ys') : St w n W' u v' ys' :=
  ⟨(hg.block _ (Array.getElem?_eq_some_iff.1 h.blk).1 (h.away _ (by omega))).trans h.blk, hr, h.bel.grown hg h.bel.size (fun k hk => by have := Kd.R_base h.row k hk; omega)⟩
theorem St.map_call {w W W' : World} {n : Nat} {u v : Value} {ys : List Int} {o : Obj} (h : St w n W u v ys) (hg : W.grownBy W' v.ownBlock) (hm : W.heap[w.heap.size]? = some o) : W'.heap[w.heap.size]? = some o :=
  (hg.block _ (Array.getElem?_eq_some_iff.1 hm).1 (h.away _ (by omega))).trans hm
theorem map_store {w W : World} {o : Obj} (v : Value) (hm : W.heap[w.heap.size]? = some o) : (W.setCell ⟨w.heap.size + 1, 1, none⟩ v).heap[w.heap.size]? = some o := (Below.heap_setCell _ _ _ _ (by simp)).trans hm
theorem St.cell1 {w W : World} {n : Nat} {u v : Value} {ys : List Int} (h : St w n W u v ys) : W.cell? ⟨w.heap.size + 1, 1, none⟩ = some u := (blk_cell h.blk 1).trans rfl
theorem St.cell0 {w W : World} {n : Nat} {u v : Value} {ys : List Int} (h : St w n W u v ys) : W.cell? ⟨w.heap.size + 1, 0, none⟩ = some (.int .i64 (n : Int)) := (blk_cell h.blk 0).trans rfl
theorem St.cell2 {w W : World} {n : Nat} {u v : Value} {ys : List Int} (h : St w n W u v ys) : W.cell? ⟨w.heap.size + 1, 2, none⟩ = some (.map (some w.heap.size)) := (blk_cell h.blk 2).trans rfl
theorem wpList_put_int {P : Program} (w : World) {ops : Array Oper} {rest : List Oper} {o : Oper} {a : Act} {Q : Exit → Act → World → Prop} (hg : o.guard = none) (m x v : Operand) (t : TypeId) (hop : o.op = Op.mapUpdate t m x v)
    (k e : TypeId) (ht : P.underlying t = some (.map k e)) (hk : P.underlying k = some (.int .i64)) {b : Nat} {es : Array MapEntry} {clock : Nat} (hm : a.eval m = .map (some b)) (hb : w.heap[b]? = some (.map es clock)) (hi : TatMap.IntKeys es.toList)
    (key : Int) (hx : a.eval x = .int .i64 key) (val : Value) (hv : a.eval v = val)
    (hK : ∀ (es' : Array MapEntry) (clock' : Nat), TatMap.IntKeys es'.toList → (∀ y, TatMap.lookS es'.toList y = if y = key then some val else TatMap.lookS es.toList y) → wpList P ops Q rest (a.put o.dst undef) { w with heap := w.heap.setIfInBounds b (.map es' clock') }) :
    wpList P ops Q (o :: rest) a w := by
  refine wpList_plain hg fun K' hK' => ?_
  obtain ⟨es', clock', hrun, r1, r2⟩ := TatMap.run_put ht hk hb hi key val
  unfold Oper.wp
  simp [execOp, hop, hm, hx, hv, hrun, Result.andThen]
  exact hK' _ _ (hK es' clock' r1 r2)
theorem wpList_look_int {P : Program} (w : World) {ops : Array Oper} {rest : List Oper} {o : Oper} {a : Act} {Q : Exit → Act → World → Prop} (hg : o.guard = none) (m x : Operand) (t : TypeId) (hop : o.op = Op.lookup t m x false)
    (k e : TypeId) (ht : P.underlying t = some (.map k e)) (hk : P.underlying k = some (.int .i64)) {z : Value} (hz : (zeroValue e).run P w = .ok z w) {b : Nat} {es : Array MapEntry} {clock : Nat} (hm : a.eval m = .map (some b)) (hb : w.heap[b]? = some (.map es clock)) (hi : TatMap.IntKeys es.toList)
    (key : Int) (hx : a.eval x = .int .i64 key) (val : Value) (hl : TatMap.lookS es.toList key = some val) (hK : wpList P ops Q rest (a.put o.dst val) w) : wpList P ops Q (o :: rest) a w := by
  refine wpList_plain hg fun K' hK' => ?_
  have hrun := TatMap.run_look (w := w) ht hk hz hb hi key false
  rw [hl] at hrun
  unfold Oper.wp
  simp [execOp, hop, hm, hx, hrun, Result.andThen]
  exact hK' _ _ hK
/-- What the map holds: at the numbers of D a row of words each, no two in one block. -/
structure Tab (w W : World) (D : Int → Prop) (row : Int → List Int) (es : Array MapEntry) (clock : Nat) : Prop where
  map : W.heap[w.heap.size]? = some (.map es clock)
  keys : TatMap.IntKeys es.toList
  has : ∀ x, D x → ∃ u, TatMap.lookS es.toList x = some u ∧ (Kd.int .u64).R 61 W (w.heap.size + 2) (fun _ => True) u (row x) ∧ ∃ b, u.ownBlock = some b
  lacks : ∀ x, ¬ D x → TatMap.lookS es.toList x = none
  apart : ∀ x y u v, TatMap.lookS es.toList x = some u → TatMap.lookS es.toList y = some v → x ≠ y → u.ownBlock ≠ v.ownBlock
theorem heap_put (W : World) (m k : Nat) (o : Obj) (h : k ≠ m) : ({ W with heap := W.heap.setIfInBounds m o } : World).heap[k]? = W.heap[k]? := by
  show (W.heap.setIfInBounds m o)[k]? = _
  rw [Array.getElem?_setIfInBounds, if_neg (by omega)]
/-- The struct and the list of symbols stand behind a store into the map. -/
theorem St.put {w W : World} {n : Nat} {u v : Value} {ys : List Int} (h : St w n W u v ys) (o : Obj) : St w n { W with heap := W.heap.setIfInBounds w.heap.size o } u v ys :=
  ⟨(heap_put W _ _ o (by omega)).trans h.blk, Kd.R_mono (Kd.R_move (Kd.R_bound h.row) (fun k hk => heap_put W _ _ o (by have := hk.2.1; omega))) (fun _ _ => trivial), ⟨h.bel.os, h.bel.tape, h.bel.output, by show _ ≤ (W.heap.setIfInBounds _ o).size; rw [Array.size_setIfInBounds]; exact h.bel.size, fun k hk => (heap_put W _ _ o (by omega)).trans (h.bel.block k hk)⟩⟩
theorem St.below {w W W' : World} {n : Nat} {u v : Value} {ys : List Int} (h : St w n W u v ys) (hb : Below W.heap.size W W') : St w n W' u v ys :=
  ⟨(hb.block _ (Array.getElem?_eq_some_iff.1 h.blk).1).trans h.blk, Kd.R_below h.row hb, below_step h.bel hb⟩
theorem Tab.below {w W W' : World} {D : Int → Prop} {row : Int → List Int} {es : Array MapEntry} {clock : Nat} (h : Tab w W D row es clock) (hb : Below W.heap.size W W') : Tab w W' D row es clock :=
  ⟨(hb.block _ (Array.getElem?_eq_some_iff.1 h.map).1).trans h.map, h.keys, fun x hx => by obtain ⟨u, h1, h2, h3⟩ := h.has x hx; exact ⟨u, h1, Kd.R_below h2 hb, h3⟩, h.lacks, h.apart⟩
/-- A fresh row is stored at a number. -/
theorem Tab.put {w W W' : World} {D : Int → Prop} {row : Int → List Int} {es es' : Array MapEntry} {clock clock' : Nat} (h : Tab w W D row es clock) (hb : Below W.heap.size W W') {u : Value} {x : Int} {r : List Int}
    (hr : (Kd.int .u64).R 61 W' (w.heap.size + 2) (fun _ => True) u r) (hu : ∃ b, u.ownBlock = some b ∧ W.heap.size ≤ b) (hk : TatMap.IntKeys es'.toList) (hl : ∀ y, TatMap.lookS es'.toList y = if y = x then some u else TatMap.lookS es.toList y) (hmw : w.heap.size < W.heap.size) :
    Tab w { W' with heap := W'.heap.setIfInBounds w.heap.size (.map es' clock') } (fun y => y = x ∨ D y) (fun y => if y = x then r else row y) es' clock' := by
  have h' := h.below hb
  have mv : ∀ {v : Value} {l : List Int}, (Kd.int .u64).R 61 W' (w.heap.size + 2) (fun _ => True) v l → (Kd.int .u64).R 61 { W' with heap := W'.heap.setIfInBounds w.heap.size (.map es' clock') } (w.heap.size + 2) (fun _ => True) v l :=
    fun hv => Kd.R_mono (Kd.R_move (Kd.R_bound hv) (fun k hk => heap_put W' _ _ _ (by have := hk.2.1; omega))) (fun _ _ => trivial)
  obtain ⟨b, hu1, hu2⟩ := hu
  have old : ∀ y v, TatMap.lookS es.toList y = some v → v.ownBlock ≠ some b := by
    intro y v hv hb2
    by_cases hD : D y
    · obtain ⟨v', e1, e2, e3⟩ := h.has y hD
      rw [hv] at e1
      obtain rfl := Option.some.inj e1
      have := Kd.R_lt e2 b hb2
      omega
    · rw [h.lacks y hD] at hv; cases hv
  refine ⟨?_, hk, ?_, ?_, ?_⟩
  · show (W'.heap.setIfInBounds _ _)[_]? = _
    rw [Array.getElem?_setIfInBounds, if_pos rfl, if_pos (by have := hb.size; omega)]
  · intro y hy
    by_cases c : y = x
    · subst c
      exact ⟨u, by rw [hl, if_pos rfl], by simpa using mv hr, b, hu1⟩
    · obtain ⟨v, e1, e2, e3⟩ := h'.has y (hy.resolve_left c)
      exact ⟨v, by rw [hl, if_neg c]; exact e1, by simpa [c] using mv e2, e3⟩
  · intro y hy
    rw [hl, if_neg (fun c => hy (.inl c))]
    exact h.lacks y (fun c => hy (.inr c))
  · intro y z v v' hy hz hne
    rw [hl] at hy hz
    by_cases c : y = x
    · rw [if_pos c] at hy
      obtain rfl := Option.some.inj hy
      rw [if_neg (fun c2 => hne (c.trans c2.symm))] at hz
      rw [hu1]
      exact fun e => old z v' hz e.symm
    · rw [if_neg c] at hy
      by_cases c2 : z = x
      · rw [if_pos c2] at hz
        obtain rfl := Option.some.inj hz
        rw [hu1]
        exact old y v hy
      · rw [if_neg c2] at hz
        exact h.apart y z v v' hy hz hne
theorem words_of (n : Nat) (h : n ≤ 1048576) : vec_Words.f (n : Int) = some (((n + 63) / 64 : Nat) : Int) := by
  have e : vec_width.f (n : Int) = some (n : Int) := by
    unfold vec_width.f mn mx
    congr 1
    split <;> split <;> omega
  unfold vec_Words.f
  rw [e, Option.bind_some, show wrap64 ((n : Int) + 64) = (n : Int) + 64 by unfold wrap64; omega, show wrap64 ((n : Int) + 64 - 1) = (n : Int) + 63 by unfold wrap64; omega, Int.tdiv_eq_ediv_of_nonneg (by omega)]
  congr 1
  unfold wrap64
  omega
theorem St.big {w W : World} {n : Nat} {u v : Value} {ys : List Int} (h : St w n W u v ys) : w.heap.size + 2 ≤ W.heap.size := (Array.getElem?_eq_some_iff.1 h.blk).1
theorem made (W : World) (base n : Nat) (hn : n ≤ 1048576) (hb : base ≤ W.heap.size) : (Instr.makeSlice 47 (.int .i64 (n : Int)) (.int .i64 (n : Int))).run Try.prog W = .ok (.slice (some ⟨W.heap.size, 0, none⟩) n n) (W.alloc (.cells (madeCells (Value.int .u64 0).cells (n * 1)) 61)) ∧
    Below W.heap.size W (W.alloc (.cells (madeCells (Value.int .u64 0).cells (n * 1)) 61)) ∧ (Kd.int .u64).R 61 (W.alloc (.cells (madeCells (Value.int .u64 0).cells (n * 1)) 61)) base (fun _ => True) (.slice (some ⟨W.heap.size, 0, none⟩) n n) (List.replicate n 0) ∧ ∃ C, madeCells (Value.int .u64 0).cells (n * 1) = C := by
  obtain ⟨i0, hi, hzz⟩ := Option.map_eq_some_iff.1 info61
  simp only [Prod.mk.injEq] at hzz
  obtain ⟨hz0, hz1, hz2⟩ := hzz
  have hr := run_make (P := Try.prog) (w := W) 47 61 i0 _ Try.underlying47 hi hz0 .i64 .i64 (n : Int) (n : Int) (by omega) (by omega) (by rw [hz2]; omega) (by omega)
  simp only [Int.toNat_natCast] at hr
  rw [hz1] at hr
  refine ⟨hr, below_alloc (Below.refl _ _) _, ?_, _, rfl⟩
  have ho : (W.alloc (.cells (madeCells (Value.int .u64 0).cells (n * 1)) 61)).ownsRow base 61 1 (.slice (some ⟨W.heap.size, 0, none⟩) n n) n (encs (Value.int .u64) (List.replicate n 0)) := by
    refine ⟨by simp [encs], .inr ⟨W.heap.size, n, _, rfl, hb, heap_alloc_new _ _, Nat.le_refl _, by unfold maxLen; omega, size_madeCells _ _, ?_⟩⟩
    apply List.ext_getElem?
    intro j
    by_cases hj : j < n
    · simp [madeCells, encs, hj, Value.cells, Nat.mod_one]
    · rw [List.getElem?_eq_none (by simp [size_madeCells]; omega), List.getElem?_eq_none (by simp [encs]; omega)]
  have hl : (List.replicate n (0 : Int)).length = n := by simp
  have := Kd.R_of_own (enc := Value.int .u64) (h1 := fun _ => rfl) (ok := fun _ => True) (xs := List.replicate n (0 : Int)) (by rw [hl]; exact ho) (fun _ _ => trivial)
  exact this
theorem Tab.congr {w W : World} {D D' : Int → Prop} {row row' : Int → List Int} {es : Array MapEntry} {clock : Nat} (h : Tab w W D row es clock) (hD : ∀ x, D x ↔ D' x) (hr : ∀ x, row x = row' x) : Tab w W D' row' es clock :=
  ⟨h.map, h.keys, fun x hx => by rw [← hr]; exact h.has x ((hD x).2 hx), fun x hx => h.lacks x (fun c => hx ((hD x).1 c)), h.apart⟩
theorem take_more (ys : List Int) (j : Nat) (h : j < ys.length) (x : Int) : (x = rd ys j ∨ x ∈ ys.take j) ↔ x ∈ ys.take (j + 1) := by
  rw [List.take_add_one, List.mem_append, List.getElem?_eq_getElem h]
  have : rd ys (j : Int) = ys[j] := by unfold rd; simp [List.getD, List.getElem?_eq_getElem h]
  rw [this]
  simp
  exact or_comm
theorem rd_mem (ys : List Int) (j : Nat) (h : j < ys.length) : rd ys (j : Int) ∈ ys := by
  have : rd ys (j : Int) = ys[j] := by unfold rd; simp [List.getD, List.getElem?_eq_getElem h]
  rw [this]
  exact List.getElem_mem h
theorem mstep_length (b : List Int) (x : Int) (r : List Int) (j : Nat) : (mstep b x r j).length = r.length := by unfold mstep; split <;> simp
theorem mrowK_succ (b : List Int) (x : Int) (K : Nat) : mrowK b x (K + 1) = mstep b x (mrowK b x K) K := by unfold mrowK; rw [List.range_succ, List.foldl_append]; rfl
theorem mrowK_length (b : List Int) (x : Int) : ∀ K : Nat, (mrowK b x K).length = (b.length + 63) / 64
  | 0 => by simp [mrowK]
  | K + 1 => by rw [mrowK_succ, mstep_length, mrowK_length b x K]
theorem zero_slice_new (w : World) : (zeroValue 47).run Try.prog w = .ok (.slice none 0 0) w := by kernel_rfl
theorem St.set {w W : World} {n g o : Nat} {u v x : Value} {ys : List Int} (h : St w n W u v ys) (hg : w.heap.size + 2 ≤ g) {cells : Array Value} (hgc : W.heap[g]? = some (.cells cells 61 (0, 0))) : St w n (W.setCell ⟨g, o, none⟩ x) u v ys :=
  ⟨(Below.heap_setCell _ _ _ _ (by show w.heap.size + 1 ≠ g; omega)).trans h.blk, Kd.R_set h.row hgc (by intro q hq; simp [Kd.int, Kd.scalar] at hq; omega) o x, ⟨h.bel.os, h.bel.tape, h.bel.output, by rw [World.size_setCell]; exact h.bel.size, fun k hk => (Below.heap_setCell _ _ _ _ (by show k ≠ g; omega)).trans (h.bel.block k hk)⟩⟩
theorem wrap_pow (j : Nat) : IntKind.u64.wrap (2 ^ (j % 64)) = 2 ^ (j % 64) := by
  have h : (2 : Nat) ^ (j % 64) < 18446744073709551616 := by
    have : (2 : Nat) ^ (j % 64) < 2 ^ 64 := Nat.pow_lt_pow_right (by decide) (by omega)
    rwa [show (2 : Nat) ^ 64 = 18446744073709551616 by decide] at this
  have e : (2 : Int) ^ (j % 64) = ((2 ^ (j % 64) : Nat) : Int) := by rw [Int.natCast_pow]; rfl
  rw [e]
  generalize (2 : Nat) ^ (j % 64) = z at h
  rw [IntKind.wrap_u64]
  omega
theorem Tab.at_ {w W : World} {l0 : List Int} {j wn : Nat} {es : Array MapEntry} {clock : Nat} (h : Tab w W (fun x => x ∈ l0) (fun x => mrowK l0 x j) es clock) (hj : j < l0.length) (hwn : wn = (l0.length + 63) / 64) :
    ∃ g cap, (Instr.lookup 56 (.map (some w.heap.size)) (.int .i64 (rd l0 j)) false).run Try.prog W = .ok (.slice (some ⟨g, 0, none⟩) wn cap) W ∧ W.cell? ⟨g, j / 64, none⟩ = some (.int .u64 ((mrowK l0 (rd l0 j) j).getD (j / 64) 0)) ∧ W.frozen? ⟨g, j / 64, none⟩ = false ∧
      Tab w (W.setCell ⟨g, j / 64, none⟩ (.int .u64 (Go.bits .or .u64 ((mrowK l0 (rd l0 j) j).getD (j / 64) 0) (2 ^ (j % 64))))) (fun x => x ∈ l0) (fun x => mrowK l0 x (j + 1)) es clock ∧ w.heap.size + 2 ≤ g ∧ ∃ cells, W.heap[g]? = some (.cells cells 61 (0, 0)) := by
  obtain ⟨u, e1, e2, e3⟩ := h.has (rd l0 j) (rd_mem l0 j hj)
  have hll : (mrowK l0 (rd l0 j) j).length = wn := by rw [mrowK_length, hwn]
  obtain ⟨g, cap, rfl, hg, hgl, cells, hgc⟩ := Kd.R_form e2 (by omega)
  have hlook := TatMap.run_look (w := W) Try.underlying56 Try.underlying3 (zero_slice_new W) h.map h.keys (rd l0 j) false
  rw [e1] at hlook
  obtain ⟨hcell, hfroz⟩ := Kd.R_celln (d := (0 : Int)) e2 ((j / 64 : Nat) : Int) (by omega) (by omega)
  simp only [Int.toNat_natCast] at hcell hfroz
  have hrd : rd l0 (j : Int) = l0.getD j 0 := by unfold rd; rfl
  refine ⟨g, cap, by rw [hll] at hlook; exact hlook, hcell, hfroz, ?_, hg, cells, hgc⟩
  refine ⟨(Below.heap_setCell _ _ _ _ (by show w.heap.size ≠ g; omega)).trans h.map, h.keys, ?_, h.lacks, h.apart⟩
  intro x hx
  by_cases c : x = rd l0 j
  · subst c
    refine ⟨_, e1, ?_, e3⟩
    have hp := Kd.R_putn (enc := Value.int .u64) e2 ((j / 64 : Nat) : Int) (Go.bits .or .u64 ((mrowK l0 (rd l0 j) j).getD (j / 64) 0) (2 ^ (j % 64)))
    simp only [Int.toNat_natCast] at hp
    rw [mrowK_succ]
    unfold mstep
    rw [if_pos hrd.symm]
    exact hp
  · obtain ⟨v, f1, f2, f3⟩ := h.has x hx
    refine ⟨v, f1, ?_, f3⟩
    rw [mrowK_succ]
    unfold mstep
    rw [if_neg (fun e => c (e.symm.trans hrd.symm))]
    have hne := h.apart x _ v _ f1 e1 c
    exact Kd.R_mono (Kd.R_far (Kd.R_tight rfl f2) (p := ⟨g, j / 64, none⟩) (fun k hk => fun e => hne (by rw [← hk, e]; rfl)) _) (fun _ _ => trivial)
theorem below_drew0' {w w' : World} (h : Below w.drew.heap.size w.drew w') : Below w.heap.size w w' := ⟨h.os, h.tape, h.output, h.size, h.block⟩
set_option maxHeartbeats 2000000 in
set_option maxRecDepth 100000 in
theorem mask_New.calls (A0 : Option Addr) (c0 : Nat) (l0 : List Int) (w : World) (hr0 : Kd.C (Kd.int .i64) w A0 l0.length l0) (hc0 : l0.length ≤ c0) (hs : l0.length ≤ 1048576) :
    Calls Try.prog 23 #[.slice A0 l0.length c0] w fun e w' => ∃ g : Nat, e = .returned (.pointer (some ⟨g, 0, none⟩)) ∧ IsMask w' g l0 ∧ Below w.heap.size w w' := by
  have hmm := @run_makeMap Try.prog
  have HR := Aside0.mk hr0
  clear hr0
  obtain ⟨wn, hwn⟩ : ∃ wn : Nat, wn = (l0.length + 63) / 64 := ⟨_, rfl⟩
  have hW : Aside0 (vec_Words.f (l0.length : Int) = some (wn : Int)) := ⟨by rw [hwn]; exact words_of _ hs⟩
  have hwl : Aside0 (wn ≤ 1048576) := ⟨by omega⟩
  replace hwn := Aside0.mk hwn
  go_enter Try.func23, Try.ntmps23
  go_wp2_with (first
    | (go_at_call 35; refine (clone_R A0 c0 l0 _ (Kd.C_alloc (Kd.C_alloc HR.out _) _) hs).mono ?_; rintro e W1 ⟨v1, rfl, ho1, hb1⟩
       obtain ⟨A1, k1, rfl⟩ := Kd.R_slice ho1
       rw [(two_new w _ _).2.2] at ho1
       have S1 : Aside0 (St w l0.length W1 (.slice none 0 0) (.slice A1 l0.length k1) l0) := ⟨(hb1.block _ (by rw [(two_new w _ _).2.2]; omega)).trans (two_new w _ _).1, ho1, below_step (below_alloc (below_alloc (Below.refl _ _) _) _) hb1⟩
       have M1 : Aside0 (W1.heap[w.heap.size]? = some (.map #[] 0)) := ⟨(hb1.block _ (by rw [(two_new w _ _).2.2]; omega)).trans (two_new w _ _).2.1⟩
       clear ho1 hb1
       have q1 := S1.out.cell1
       have qf := blk_froz S1.out.blk 1)
    | (go_at_call 36; refine (sort_R S1.out.store.row hs).mono ?_; rintro e W2 ⟨rfl, ts, hts, htl, ho3, hb3⟩
       have S2 := Aside0.mk (S1.out.store.call hb3 ho3)
       have M2 := Aside0.mk (S1.out.store.map_call hb3 (map_store _ M1.out))
       have T2 := Aside0.mk (And.intro hts htl)
       clear ho3 hb3 hts htl q1 qf S1 M1
       have q1 := S2.out.cell1)
    | (go_at_call 37; refine (compact_R S2.out.row (by have := T2.out.2; omega)).mono ?_; rintro e W3 ⟨v', ys, rfl, hown, hys, hyl, ho3, hb3⟩
       have S3 := Aside0.mk (S2.out.call hb3 ho3)
       have M3 := Aside0.mk (S2.out.map_call hb3 M2.out)
       have T3 := Aside0.mk (And.intro (fun x => (hys x).trans (T2.out.1 x)) (Nat.le_trans hyl (Nat.le_of_eq T2.out.2)))
       obtain ⟨A3, k3, rfl⟩ := Kd.R_slice ho3
       clear ho3 hb3 hys hyl hown q1 S2 M2 T2
       have q1 := S3.out.cell1
       have qf := blk_froz S3.out.blk 1))
  have S4 := Aside0.mk S3.out.store
  have T4 : Aside0 (Tab w (W3.setCell ⟨w.heap.size + 1, 1, none⟩ (.slice A3 ys.length k3)) (fun x => x ∈ ys.take 0) (fun _ => List.replicate wn 0) #[] 0) :=
    ⟨map_store _ M3.out, by simp [TatMap.IntKeys], by simp, by simp [TatMap.lookS], by simp [TatMap.lookS]⟩
  clear S3 M3 q1 qf
  generalize W3.setCell ⟨w.heap.size + 1, 1, none⟩ (.slice A3 ys.length k3) = W4 at S4 T4 ⊢
  go_loopw [36] (fun i wr => ∃ (j : Nat) (es : Array MapEntry) (clock : Nat), j ≤ ys.length ∧ i = .int .i64 j ∧ Aside0 (St w l0.length wr (.slice A3 ys.length k3) (.slice A3 ys.length k3) ys) ∧ Aside0 (Tab w wr (fun x => x ∈ ys.take j) (fun _ => List.replicate wn 0) es clock))
    (fun i _ => ys.length - (intOf i).toNat)
  case atStart => exact ⟨0, #[], 0, Nat.zero_le _, rfl, S4, T4⟩
  case round =>
    clear S4 T4
    obtain ⟨j, es, clock, hj, rfl, S, T⟩ := hrel
    by_cases c : j < ys.length
    · obtain ⟨ad, e, hx⟩ := Kd.at_int (Kd.R_reads' S.out.row).2.2 (j : Int) (by omega) (by omega)
      cases e
      simp only [Int.toNat_natCast] at hx
      have q2 := S.out.cell2
      have q0 := S.out.cell0
      have cb : decide ((j : Int) < (ys.length : Int)) = true := by simpa using c
      go_wp2
      go_region_with (go_at_call 31; refine (vec_Words.calls (l0.length : Int) _ _ hW.out).mono ?_; rintro e W5 ⟨rfl, hb⟩; have hb5 := Aside0.mk (below_drew0' hb); clear hb; have q2' := (S.out.below hb5.out).cell2; have q0' := (S.out.below hb5.out).cell0; obtain ⟨hmk, hbk, hrk, C5, hC5⟩ := made W5 (w.heap.size + 2) wn hwl.out ((S.out.below hb5.out).big); obtain ⟨es', clock', hput, hk', hl'⟩ := TatMap.run_put (w := W5.alloc (.cells C5 61)) Try.underlying56 Try.underlying3 ((T.out.below (below_step hb5.out (hC5 ▸ hbk))).map) T.out.keys (rd ys j) (.slice (some ⟨W5.heap.size, 0, none⟩) wn wn); rw [hC5] at hmk; have q2a := (S.out.below (below_step hb5.out (hC5 ▸ hbk))).cell2; rw [hC5] at hbk hrk; have K5 := Aside0.mk (And.intro hbk (And.intro hrk (And.intro hk' hl'))); clear hbk hrk hk' hl')
      all_goals (have hyl := T3.out.2)
      all_goals (have hw1 : wrap64 ((j : Int) + 1) = ((j + 1 : Nat) : Int) := by unfold wrap64; omega)
      all_goals go_wp2
      all_goals go_roundw
      all_goals first
        | (simp [intOf]; omega)
        | exact ⟨j + 1, es', clock', by omega, by rw [Int.natCast_add]; rfl, ⟨(S.out.below (below_step hb5.out K5.out.1)).put _⟩, ⟨(T.out.put (below_step hb5.out K5.out.1) K5.out.2.1 ⟨_, rfl, hb5.out.size⟩ K5.out.2.2.1 K5.out.2.2.2 (by have := S.out.big; omega)).congr (fun x => take_more ys j c x) (fun x => by split <;> rfl)⟩⟩
    · have hje : j = ys.length := by omega
      subst hje
      have S6 := S
      have T6 : Aside0 (Tab w wr (fun x => x ∈ l0) (fun x => mrowK l0 x 0) es clock) := ⟨T.out.congr (fun x => by rw [List.take_length]; exact T3.out.1 x) (fun x => by rw [hwn.out]; rfl)⟩
      clear S T T3
      go_wp2
      generalize wr = W6 at S6 T6 ⊢
      go_loopw [54] (fun i wr => ∃ (j : Nat), j ≤ l0.length ∧ i = .int .i64 j ∧ Aside0 (St w l0.length wr (.slice A3 ys.length k3) (.slice A3 ys.length k3) ys) ∧ Aside0 (Tab w wr (fun x => x ∈ l0) (fun x => mrowK l0 x j) es clock))
        (fun i _ => l0.length - (intOf i).toNat)
      case atStart => exact ⟨0, Nat.zero_le _, rfl, S6, T6⟩
      case round =>
        clear S6 T6
        obtain ⟨j, hj, rfl, S, T⟩ := hrel
        by_cases c : j < l0.length
        · obtain ⟨ad, e, hx⟩ := Kd.at_int (Kd.C_below HR.out S.out.bel) (j : Int) (by omega) (by omega)
          cases e
          simp only [Int.toNat_natCast] at hx
          have q2 := S.out.cell2
          have q0 := S.out.cell0
          have cb : decide ((j : Int) < (l0.length : Int)) = true := by simpa using c
          have hW64 := hW.out
          have hjn : j / 64 < wn := by have := hwn.out; omega
          have hlt : decide ((j : Int) / 64 < (wn : Int)) = true := by simp; omega
          have hj0 : decide (0 ≤ (j : Int) / 64) = true := by simp; omega
          have hjt : ((j : Int) / 64).toNat = j / 64 := by omega
          go_wp2_with (go_at_call 31; refine (vec_Words.calls (l0.length : Int) _ _ hW64).mono ?_; rintro e W5 ⟨rfl, hb⟩; have S5 := Aside0.mk (S.out.below hb); have T5 := Aside0.mk (T.out.below hb); clear hb; have q5 := S5.out.cell2; obtain ⟨g, cap, hlook, hcell, hfroz, N5, hg5, cells5, hgc5⟩ := T5.out.at_ c hwn.out; replace N5 := Aside0.mk N5; replace hg5 := Aside0.mk hg5; replace hgc5 := Aside0.mk hgc5)
          rw [wrap_pow j, ← List.getD_eq_getElem?_getD]
          exact ⟨⟨j + 1, by omega, by rw [Int.natCast_add]; rfl, ⟨S5.out.set hg5.out hgc5.out⟩, N5⟩, by simp [intOf]; omega⟩
        · have hje : j = l0.length := by omega
          subst hje
          have cb : decide ((l0.length : Int) < (l0.length : Int)) = false := by simp
          go_wp2
          go_ret
          refine ⟨_, rfl, ⟨_, _, es, clock, S.out.blk, T.out.map, T.out.keys, fun x => ?_⟩, S.out.bel⟩
          by_cases hx : x ∈ l0
          · obtain ⟨u, e1, e2, e3⟩ := T.out.has x hx
            obtain ⟨A, cc, rfl, hcc, hC⟩ := Kd.R_reads e2
            refine .inr ⟨A, cc, ?_, ?_, ?_⟩
            all_goals (unfold mrow; rw [if_pos hx])
            · exact e1
            · exact hcc
            · exact hC
          · exact .inl ⟨T.out.lacks x hx, by unfold mrow; rw [if_neg hx]⟩


/-! ### vec_at: function 49 -/
def vec_at.f (l0 : List Int) (a1 : Int) : Option (Int) := if a1 < (l0.length : Int) then (if 0 ≤ a1 then (some (rd l0 a1)) else (none)) else (some 0)
set_option maxHeartbeats 8000000 in
set_option maxRecDepth 100000 in
theorem vec_at.calls (A0 : Option Addr) (c0 : Nat) (l0 : List Int) (a1 : Int) (r : Int) (w : World) (hr0 : Kd.C (Kd.int .u64) w A0 l0.length l0) (hc0 : l0.length ≤ c0) (h : vec_at.f l0 a1 = some r) :
  Calls Try.prog 49 #[.slice A0 l0.length c0, .int .i64 a1] w fun e w' => e = .returned (.int .u64 r) ∧ Drawn0 w w' := by
 have HR0 := Aside0.mk hr0
 have HC0 := Aside0.mk hc0
 clear hr0 hc0
 have H : (if a1 < (l0.length : Int) then (if 0 ≤ a1 then (some (rd l0 a1)) else (none)) else (some 0)) = some r := h
 clear h
 by_cases c3 : a1 < (l0.length : Int)
 ·rw [if_pos c3] at H
  have c3b0 : decide (a1 < (l0.length : Int)) = true := decide_eq_true c3
  clear c3
  by_cases c4 : 0 ≤ a1
  ·rw [if_pos c4] at H
   have c4b0 : decide (0 ≤ a1) = true := decide_eq_true c4
   clear c4
   obtain rfl := Option.some.inj H
   have p116 : 0 ≤ (a1 : Int) := of_decide_eq_true (by first | (with_reducible assumption) | assumption)
   have q116 : a1 < (l0.length : Int) := of_decide_eq_true (by first | (with_reducible assumption) | assumption)
   obtain ⟨ad116, e116, hx116_0⟩ := Kd.at_int HR0.out a1 p116 q116
   cases e116
   replace p116 := eq_true p116
   replace q116 := eq_true q116
   go_enter Try.func49, Try.ntmps49
   go_wp2
   go_ret
   exact ⟨by first | rfl | (simp; done) | (simp [*]; done), by repeat (first | exact Drawn0.refl _ | apply Drawn0.step)⟩
  ·rw [if_neg c4] at H
   exact absurd H (by simp)
 ·rw [if_neg c3] at H
  have c3b0 : decide (a1 < (l0.length : Int)) = false := decide_eq_false c3
  clear c3
  obtain rfl := Option.some.inj H
  go_enter Try.func49, Try.ntmps49
  go_wp2
  go_ret
  exact ⟨by first | rfl | (simp; done) | (simp [*]; done), by repeat (first | exact Drawn0.refl _ | apply Drawn0.step)⟩

/-! ### vec_mask: function 50 -/
def vec_mask.f (a0 : Int) (a1 : Int) : Option (Int) := (vec_width.f a0).bind fun t117 => (if (wrap64 (t117 - (wrap64 (64 * a1)))) ≥ 64 then (some 18446744073709551615) else (if 0 ≤ (IntKind.u64.wrap (wrap64 (t117 - (wrap64 (64 * a1))))) then (some (IntKind.u64.wrap ((shl .u64 1 (IntKind.u64.wrap (wrap64 (t117 - (wrap64 (64 * a1)))))) - 1))) else (none)))
set_option maxHeartbeats 8000000 in
set_option maxRecDepth 100000 in
theorem vec_mask.calls (a0 : Int) (a1 : Int) (r : Int) (w : World) (h : vec_mask.f a0 a1 = some r) :
  Calls Try.prog 50 #[.int .i64 a0, .int .i64 a1] w fun e w' => e = .returned (.int .u64 r) ∧ Below w.heap.size w w' := by
 have HB := Aside0.mk (Below.refl w.heap.size w)
 have H : ((vec_width.f a0).bind fun t117 => (if (wrap64 (t117 - (wrap64 (64 * a1)))) ≥ 64 then (some 18446744073709551615) else (if 0 ≤ (IntKind.u64.wrap (wrap64 (t117 - (wrap64 (64 * a1))))) then (some (IntKind.u64.wrap ((shl .u64 1 (IntKind.u64.wrap (wrap64 (t117 - (wrap64 (64 * a1)))))) - 1))) else (none)))) = some r := h
 clear h
 replace H := Option.bind_eq_some_iff.mp H
 obtain ⟨t117, A30, H⟩ := H
 replace H : (if (wrap64 (t117 - (wrap64 (64 * a1)))) ≥ 64 then (some 18446744073709551615) else (if 0 ≤ (IntKind.u64.wrap (wrap64 (t117 - (wrap64 (64 * a1))))) then (some (IntKind.u64.wrap ((shl .u64 1 (IntKind.u64.wrap (wrap64 (t117 - (wrap64 (64 * a1)))))) - 1))) else (none))) = some r := H
 have A3 := Aside0.mk A30
 clear A30
 by_cases c4 : (wrap64 (t117 - (wrap64 (64 * a1)))) ≥ 64
 ·rw [if_pos c4] at H
  have c4b0 : decide (64 ≤ (wrap64 (t117 - (wrap64 (64 * a1))))) = true := decide_eq_true c4
  clear c4
  obtain rfl := Option.some.inj H
  go_enter Try.func50, Try.ntmps50
  go_wp2_with (first | ((with_reducible refine gate_callee (f := 44) rfl ?_); refine goesL_ (some 7) rfl rfl Try.func44 (by kernel_rfl) rfl #[.int .i64 a0] rfl (by (try simp only [List.map_toArray, List.map_cons, List.map_nil]); first | done | rfl | (simp only [List.length_drop, List.length_take]; rfl)) ?_; (with_reducible refine (vec_width.calls a0 t117 _ A3.out).mono ?_); rintro e w5 ⟨rfl, hb⟩; refine ⟨_, rfl, ?_⟩; have n0_ := Aside0.mk (below_step (by repeat (first | (with_reducible first | exact HB.out | apply below_alloc | apply pw_below_drewN | apply below_drew1) | exact HB.out)) hb); clear HB; have HB := n0_; clear n0_; (try clear hb); (try clear hb2); (try clear hk); (try clear hi)))
  go_ret
  exact ⟨by first | rfl | (simp [errW_none, errW_some] <;> rfl) | (simp [*, errW_none, errW_some] <;> rfl), by repeat (first | (with_reducible first | exact HB.out | apply below_alloc | apply pw_below_drewN | apply below_drew1) | exact HB.out)⟩
 ·rw [if_neg c4] at H
  have c4b0 : decide (64 ≤ (wrap64 (t117 - (wrap64 (64 * a1))))) = false := decide_eq_false c4
  clear c4
  obtain ⟨ji6, hji6⟩ : ∃ j_ : Int, (IntKind.u64.wrap (wrap64 (t117 - (wrap64 (64 * a1))))) = j_ := ⟨_, rfl⟩
  replace H : (if 0 ≤ (ji6) then (some (IntKind.u64.wrap ((shl .u64 1 (ji6)) - 1))) else (none)) = some r := by first | (rw [hji6] at H; exact H) | (simp only [hji6] at H ⊢; exact H)
  (try rw [hji6] at A3)
  by_cases c7 : 0 ≤ (ji6)
  ·rw [if_pos c7] at H
   have c7b0 := eq_true c7
   have c7b1 : decide (0 ≤ (ji6)) = true := decide_eq_true c7
   clear c7
   obtain ⟨ji8, hji8⟩ : ∃ j_ : Int, (shl .u64 1 (ji6)) = j_ := ⟨_, rfl⟩
   replace H : (some (IntKind.u64.wrap ((ji8) - 1))) = some r := by first | (rw [hji8] at H; exact H) | (simp only [hji8] at H ⊢; exact H)
   (try rw [hji8] at A3)
   have hji8_ : (IntKind.u64.wrap (1 * 2 ^ min (ji6).toNat 64)) = ji8 := hji8
   have hji8z : (ji6) ≤ 64 → (IntKind.u64.wrap (1 * 2 ^ (ji6).toNat)) = ji8 := shl_small hji8
   have hji8u : (IntKind.u64.wrap (2 ^ min (ji6).toNat 64)) = ji8 := by have h_ := hji8_; rw [Int.one_mul] at h_; exact h_
   have hji8v : (ji6) ≤ 64 → (IntKind.u64.wrap (2 ^ (ji6).toNat)) = ji8 := fun hle_ => by have h_ := hji8z hle_; rw [Int.one_mul] at h_; exact h_
   obtain rfl := Option.some.inj H
   go_enter Try.func50, Try.ntmps50
   go_wp2_with (first | ((with_reducible refine gate_callee (f := 44) rfl ?_); refine goesL_ (some 7) rfl rfl Try.func44 (by kernel_rfl) rfl #[.int .i64 a0] rfl (by (try simp only [List.map_toArray, List.map_cons, List.map_nil]); first | done | rfl | (simp only [List.length_drop, List.length_take]; rfl)) ?_; (with_reducible refine (vec_width.calls a0 t117 _ A3.out).mono ?_); rintro e w9 ⟨rfl, hb⟩; refine ⟨_, rfl, ?_⟩; have n0_ := Aside0.mk (below_step (by repeat (first | (with_reducible first | exact HB.out | apply below_alloc | apply pw_below_drewN | apply below_drew1) | exact HB.out)) hb); clear HB; have HB := n0_; clear n0_; (try clear hb); (try clear hb2); (try clear hk); (try clear hi)))
   go_ret
   exact ⟨by first | rfl | (simp [errW_none, errW_some] <;> rfl) | (simp only [← hji6, ← hji8]; first | rfl | (simp [errW_none, errW_some] <;> rfl)) | (simp [*, errW_none, errW_some] <;> rfl), by repeat (first | (with_reducible first | exact HB.out | apply below_alloc | apply pw_below_drewN | apply below_drew1) | exact HB.out)⟩
  ·rw [if_neg c7] at H
   exact absurd H (by simp)

/-! ### vec_Not: function 38 -/
def vec_Not.l0 : Nat → List Int → Int → List Int → Int → Int → Option (List Int)
 | 0, _, _, _, _, _ => none
 | k + 1, x0, x1, x5, x11, x12 => if x12 < x11 then ((vec_at.f x0 x12).bind fun t122 => ((vec_mask.f x1 x12).bind fun t123 => (if 0 ≤ x12 then (if x12 < (x5.length : Int) then (vec_Not.l0 k x0 x1 (x5.set (x12 : Int).toNat (Go.bits .and .u64 (Go.bits .xor .u64 18446744073709551615 t122) t123)) x11 (wrap64 (x12 + 1))) else (none)) else (none)))) else (some x5)
def vec_Not.f (k : Nat) (l0 : List Int) (a1 : Int) : Option (List Int) := (vec_Words.f a1).bind fun t118 => (if 0 ≤ t118 then (if (t118 : Int).toNat ≤ 35184372088832 then ((some (List.replicate (t118 : Int).toNat 0 : List Int)).bind fun y119 => (vec_Not.l0 k l0 a1 y119 (y119.length : Int) 0)) else (none)) else (none))
theorem vec_Not.mono_l : ∀ k, (∀ y0 y1 y2 y3 y4, LeO (vec_Not.l0 k y0 y1 y2 y3 y4) (vec_Not.l0 (k + 1) y0 y1 y2 y3 y4))
 | 0 => fun _ _ _ _ _ r h => by simp [vec_Not.l0] at h
 | k + 1 => by
  have ih0 := vec_Not.mono_l k
  ·intro y0 y1 y2 y3 y4
   unfold vec_Not.l0
   repeat' first
   | (with_reducible exact ih0 _ _ _ _ _)
   | (with_reducible exact LeO.refl _)
   | (with_reducible exact LeO.none _)
   | (with_reducible refine LeO.ite ?_ ?_)
   | (with_reducible refine LeO.bind ?_ (fun _ => ?_))
   | exact ih0 _ _ _ _ _
   | exact LeO.none _
   | refine LeO.ite ?_ ?_
   | refine LeO.bind ?_ (fun _ => ?_)
theorem vec_Not.mono : ∀ a0 a1 k, LeO (vec_Not.f k a0 a1) (vec_Not.f (k + 1) a0 a1) := by
 intro a0 a1 k
 have ih0 := vec_Not.mono_l k
 unfold vec_Not.f
 repeat' first
   | (with_reducible exact ih0 _ _ _ _ _)
   | (with_reducible exact LeO.refl _)
   | (with_reducible exact LeO.none _)
   | (with_reducible refine LeO.ite ?_ ?_)
   | (with_reducible refine LeO.bind ?_ (fun _ => ?_))
   | exact ih0 _ _ _ _ _
   | exact LeO.none _
   | refine LeO.ite ?_ ?_
   | refine LeO.bind ?_ (fun _ => ?_)
set_option maxHeartbeats 8000000 in
set_option maxRecDepth 100000 in
theorem vec_Not.calls (k : Nat) (A0 : Option Addr) (c0 : Nat) (l0 : List Int) (a1 : Int) (r : List Int) (w : World) (hr0 : Kd.C (Kd.int .u64) w A0 l0.length l0) (hc0 : l0.length ≤ c0) (h : vec_Not.f k l0 a1 = some r) :
  Calls Try.prog 38 #[.slice A0 l0.length c0, .int .i64 a1] w fun e w' => ∃ v0_ : Value, e = .returned (v0_) ∧ Kd.R (Kd.int .u64) 61 w' w.heap.size (fun _ => True) v0_ r ∧ Below w.heap.size w w' := by
 have HR0 := Aside0.mk hr0
 have HC0 := Aside0.mk hc0
 clear hr0 hc0
 have HB := Aside0.mk (Below.refl w.heap.size w)
 have H : ((vec_Words.f a1).bind fun t118 => (if 0 ≤ t118 then (if (t118 : Int).toNat ≤ 35184372088832 then ((some (List.replicate (t118 : Int).toNat 0 : List Int)).bind fun y119 => (vec_Not.l0 k l0 a1 y119 (y119.length : Int) 0)) else (none)) else (none))) = some r := h
 clear h
 replace H := Option.bind_eq_some_iff.mp H
 obtain ⟨t118, A30, H⟩ := H
 replace H : (if 0 ≤ t118 then (if (t118 : Int).toNat ≤ 35184372088832 then ((some (List.replicate (t118 : Int).toNat 0 : List Int)).bind fun y119 => (vec_Not.l0 k l0 a1 y119 (y119.length : Int) 0)) else (none)) else (none)) = some r := H
 have A3 := Aside0.mk A30
 clear A30
 by_cases c4 : 0 ≤ t118
 ·rw [if_pos c4] at H
  have c4b0 := eq_true c4
  have c4b1 : decide (0 ≤ t118) = true := decide_eq_true c4
  clear c4
  by_cases c5 : (t118 : Int).toNat ≤ 35184372088832
  ·rw [if_pos c5] at H
   have c5b0 := eq_true c5
   have c5b1 : decide ((t118 : Int).toNat ≤ 35184372088832) = true := decide_eq_true c5
   clear c5
   obtain ⟨y119, hy119⟩ : ∃ y_ : List Int, y_ = (List.replicate (t118 : Int).toNat 0) := ⟨_, rfl⟩
   replace H : (vec_Not.l0 k l0 a1 y119 (y119.length : Int) 0) = some r := by first | (rw [hy119]; with_reducible exact H) | (have H2_ := (Option.bind_some _ _).symm.trans H; rw [hy119]; with_reducible exact H2_) | (have H2_ := (Option.bind_some _ _).symm.trans H; with_reducible exact H2_) | with_reducible exact H | (rw [hy119]; exact H) | exact H
   have Ny119 := Aside0.mk hy119
   clear hy119
   have H' := Aside0.mk H
   clear H
   go_enter Try.func38, Try.ntmps38
   go_wp2_with (first | ((with_reducible refine gate_callee (f := 31) rfl ?_); refine goesL_ (some 8) rfl rfl Try.func31 (by kernel_rfl) rfl #[.int .i64 a1] rfl (by (try simp only [List.map_toArray, List.map_cons, List.map_nil]); first | done | rfl | (simp only [List.length_drop, List.length_take]; rfl)) ?_; (with_reducible refine (vec_Words.calls a1 t118 _ A3.out).mono ?_); rintro e w6 ⟨rfl, hb⟩; refine ⟨_, rfl, ?_⟩; have n0_ := Aside0.mk (below_step (by repeat (first | (with_reducible first | exact HB.out | apply below_alloc | apply pw_below_drewN | apply below_drew1) | exact HB.out)) hb); clear HB; have HB := n0_; clear n0_; (try clear hb); (try clear hb2); (try clear hk); (try clear hi)) | ((with_reducible refine gate_dst (N := 9) rfl ?_); refine Kd.R_make (Kd.int .u64) _ 61 rfl (N := 9) rfl 47 _ _ rfl t118 rfl rfl Try.underlying47 (.int .u64 0) 8 info61 rfl (by decide) (by omega) 0 (ok := fun _ => True) (okp := fun _ => True) rfl (fun _ hk => hk) trivial (of_decide_eq_true (by first | (with_reducible assumption) | assumption)) (Nat.le_trans (Nat.mul_le_mul_right _ (of_decide_eq_true (by first | (with_reducible assumption) | assumption) : t118.toNat ≤ 35184372088832)) (by omega)) (Below.refl _ _) (Nat.le_refl _) ?_; intro v120 w7 ho8 hb hg_ hnew_; clear hg_ hnew_; (first | rw [← Ny119.out] at ho8 | (simp only [Int.reduceToNat] at ho8; rw [← Ny119.out] at ho8)); have n0_ := Aside0.mk (Kd.R_lower ho8 (below_size (by repeat (first | (with_reducible first | exact HB.out | apply below_alloc | apply pw_below_drewN | apply below_drew1) | exact HB.out)))); have n1_ := Aside0.mk (below_step (by repeat (first | (with_reducible first | exact HB.out | apply below_alloc | apply pw_below_drewN | apply below_drew1) | exact HB.out)) hb); clear HB; have HO121 := n0_; have HB := n1_; clear n0_ n1_; clear hb ho8; obtain ⟨Ao9, co9, eo9⟩ := Kd.R_slice HO121.out; subst eo9))
   go_loopg [12] k (fun kq v12 w' => ∃ (x5_1 : List Int) (x12_1 : Int), v12 = .int .i64 x12_1 ∧ Aside0 (vec_Not.l0 kq l0 a1 x5_1 (y119.length : Int) x12_1 = some r) ∧ Aside0 (kq ≤ k) ∧ Aside0 (Kd.R (Kd.int .u64) 61 w' w.heap.size (fun _ => True) (.slice Ao9 y119.length co9) x5_1) ∧ Aside0 (Below w.heap.size w w'))
   case atStart => exact ⟨(y119), (0), (by first | rfl | (simp; done) | (simp [*]; done)), H', ⟨Nat.le_refl _⟩, ⟨by (with_reducible repeat (first | apply Kd.R_alloc | apply Kd.R_drewN | apply Kd.R_drew)); exact HO121.out⟩, ⟨by repeat (first | (with_reducible first | exact HB.out | apply below_alloc | apply pw_below_drewN | apply below_drew1) | exact HB.out)⟩⟩
   case round =>
    clear H'
    try clear p2
    try clear c3
    try clear c4
    try clear c4b0
    try clear c4b1
    try clear c5
    try clear c5b0
    try clear c5b1
    obtain ⟨x5_1, x12_1, rfl, HA, HK1, HO_5, HB⟩ := hrel
    have hl5_1 := (Kd.R_reads' HO_5.out).1
    rw [hl5_1] at HO_5
    (try simp only [hl5_1])
    cases gk with
    | zero => exact absurd HA.out (by simp [vec_Not.l0])
    | succ k1 =>
     have H := HA.out
     clear HA
     simp only [vec_Not.l0] at H
     by_cases c10 : x12_1 < (y119.length : Int)
     ·rw [if_pos c10] at H
      have c10b0 : decide (x12_1 < (y119.length : Int)) = true := decide_eq_true c10
      (try (have c10b05_1 := c10b0; simp only [hl5_1] at c10b05_1))
      clear c10
      replace H := Option.bind_eq_some_iff.mp H
      obtain ⟨t122, A110, H⟩ := H
      replace H : ((vec_mask.f a1 x12_1).bind fun t123 => (if 0 ≤ x12_1 then (if x12_1 < (x5_1.length : Int) then (vec_Not.l0 k1 l0 a1 (x5_1.set (x12_1 : Int).toNat (Go.bits .and .u64 (Go.bits .xor .u64 18446744073709551615 t122) t123)) (y119.length : Int) (wrap64 (x12_1 + 1))) else (none)) else (none))) = some r := H
      have A11 := Aside0.mk A110
      clear A110
      replace H := Option.bind_eq_some_iff.mp H
      obtain ⟨t123, A120, H⟩ := H
      replace H : (if 0 ≤ x12_1 then (if x12_1 < (x5_1.length : Int) then (vec_Not.l0 k1 l0 a1 (x5_1.set (x12_1 : Int).toNat (Go.bits .and .u64 (Go.bits .xor .u64 18446744073709551615 t122) t123)) (y119.length : Int) (wrap64 (x12_1 + 1))) else (none)) else (none)) = some r := H
      have A12 := Aside0.mk A120
      clear A120
      by_cases c13 : 0 ≤ x12_1
      ·rw [if_pos c13] at H
       have c13b0 : decide (0 ≤ x12_1) = true := decide_eq_true c13
       clear c13
       by_cases c14 : x12_1 < (x5_1.length : Int)
       ·rw [if_pos c14] at H
        have c14b0 : decide (x12_1 < (x5_1.length : Int)) = true := decide_eq_true c14
        (try (have c14b05_1 := c14b0; simp only [hl5_1] at c14b05_1))
        clear c14
        obtain ⟨y124, hy124⟩ : ∃ y_ : List Int, y_ = (x5_1.set (x12_1 : Int).toNat (Go.bits .and .u64 (Go.bits .xor .u64 18446744073709551615 t122) t123)) := ⟨_, rfl⟩
        replace H : (vec_Not.l0 k1 l0 a1 y124 (y119.length : Int) (wrap64 (x12_1 + 1))) = some r := by first | (rw [hy124]; with_reducible exact H) | (have H2_ := (Option.bind_some _ _).symm.trans H; rw [hy124]; with_reducible exact H2_) | (have H2_ := (Option.bind_some _ _).symm.trans H; with_reducible exact H2_) | with_reducible exact H | (rw [hy124]; exact H) | exact H
        have Ny124 := Aside0.mk hy124
        clear hy124
        have H' := Aside0.mk H
        clear H
        go_wp2_with (first | ((with_reducible refine gate_callee (f := 49) rfl ?_); refine goesL_ (some 19) rfl rfl Try.func49 (by kernel_rfl) rfl #[.slice A0 l0.length c0, .int .i64 x12_1] rfl (by (try simp only [List.map_toArray, List.map_cons, List.map_nil]); first | done | rfl | (simp only [List.length_drop, List.length_take]; rfl)) ?_; (with_reducible refine (vec_at.calls _ _ l0 x12_1 t122 _ ?side1 ?side2 A11.out).mono ?_); (case side1 => repeat (first | exact (Kd.C_below HR0.out HB.out) | (with_reducible refine Kd.C_alloc ?_ _) | (with_reducible refine Kd.C_drewN ?_ _) | (with_reducible refine Kd.C_drew ?_))); (case side2 => exact HC0.out); rintro e w' ⟨rfl, ⟨nd, rfl⟩⟩; refine ⟨_, rfl, ?_⟩; (try (rw [drewN_self wr]; generalize hq_ : World.drewN wr _ = wr; have n0_ : Aside0 (Kd.R (Kd.int .u64) 61 wr w.heap.size (fun _ => True) (.slice Ao9 x5_1.length co9) x5_1) := ⟨by rw [← hq_]; exact (by (with_reducible repeat (first | apply Kd.R_alloc | apply Kd.R_drewN | apply Kd.R_drew)); exact HO_5.out)⟩; have n1_ : Aside0 (Below w.heap.size w wr) := ⟨by rw [← hq_]; exact (by repeat (first | (with_reducible first | exact HB.out | apply below_alloc | apply pw_below_drewN | apply below_drew1) | exact HB.out))⟩; clear HO_5 HB hq_; have HO_5 := n0_; have HB := n1_; clear n0_ n1_))) | ((with_reducible refine gate_callee (f := 50) rfl ?_); refine goesL_ (some 23) rfl rfl Try.func50 (by kernel_rfl) rfl #[.int .i64 a1, .int .i64 x12_1] rfl (by (try simp only [List.map_toArray, List.map_cons, List.map_nil]); first | done | rfl | (simp only [List.length_drop, List.length_take]; rfl)) ?_; (with_reducible refine (vec_mask.calls a1 x12_1 t123 _ A12.out).mono ?_); rintro e w16 ⟨rfl, hb⟩; refine ⟨_, rfl, ?_⟩; have n0_ := Aside0.mk (Kd.R_below (by (with_reducible repeat (first | apply Kd.R_alloc | apply Kd.R_drewN | apply Kd.R_drew)); exact HO_5.out) hb); have n1_ := Aside0.mk (below_step (by repeat (first | (with_reducible first | exact HB.out | apply below_alloc | apply pw_below_drewN | apply below_drew1) | exact HB.out)) hb); clear HO_5; clear HB; have HO_5 := n0_; have HB := n1_; clear n0_ n1_; (try clear hb); (try clear hb2); (try clear hk); (try clear hi); have p15 : 0 ≤ (x12_1 : Int) := of_decide_eq_true (by first | (with_reducible assumption) | assumption); have q15 : (x12_1 : Int) < ((x5_1.length : Int) : Int) := of_decide_eq_true (by first | (with_reducible assumption) | assumption); obtain ⟨go15, co15, eo15, gb15, gl15, cl15, HG15⟩ := Kd.R_form HO_5.out (by omega); (first | cases eo15 | (injection eo15 with ea_ en_ ec_; (first | subst ea_ | (injection ea_ with ea_; subst ea_)); subst ec_; clear en_)); have GB15 := Aside0.mk gb15; have GG15 := Aside0.mk HG15; clear gb15 gl15 HG15; obtain ⟨hx15_0, hf15_0⟩ := Kd.R_celln 0 HO_5.out (x12_1 : Int) p15 q15; replace p15 := eq_true p15; replace q15 := eq_true q15; obtain ⟨hy17_, hz17_⟩ := Kd.R_celln 0 HO_5.out (x12_1 : Int) (of_decide_eq_true (by first | (with_reducible assumption) | assumption)) (of_decide_eq_true (by first | (with_reducible assumption) | assumption)); have HP17 := Kd.R_putg HO_5.out (x12_1 : Int) (Go.bits .and .u64 (Go.bits .xor .u64 18446744073709551615 t122) t123)) | ((with_reducible refine gate_store (t := 61) (p := 25) rfl ?_); refine store_event (t := 61) (p := 25) (v := ?vo_w18) (w1 := (w16.setCell ⟨go15, (x12_1 : Int).toNat, none⟩ (.int .u64 (Go.bits .and .u64 (Go.bits .xor .u64 18446744073709551615 t122) t123)))) ?hg ?ho ?hn ?hr ?_; (case ho => rfl); (case hg => rfl); (case hn => rfl); (case hr => first | (go_simp; done) | (go_simp; rfl)); intro w18 hw; have hg : w16.grownBy w18 (some go15) := (by rw [hw]; exact HP17.2); have hp_ : Kd.R (Kd.int .u64) 61 w18 w.heap.size (fun _ => True) (.slice (some ⟨go15, 0, none⟩) x5_1.length co9) y124 := (by rw [hw, Ny124.out]; exact HP17.1); clear HP17; have n0_ := Aside0.mk (hp_); have n1_ := Aside0.mk ((by rw [hw]; exact below_set (HB.out) GB15.out : Below w.heap.size w w18)); clear HO_5; clear HB; have HO_5 := n0_; have HB := n1_; clear n0_ n1_; clear hg hw hp_))
        (try simp only [← hl5_1])
        go_roundg k1
        case measure => have := HK1.out; omega
        case rel => exact ⟨(y124), (wrap64 (x12_1 + 1)), (by first | rfl | (simp; done) | (simp [*]; done)), H', ⟨by have := HK1.out; omega⟩, ⟨by (try simp only [hl5_1]); (with_reducible repeat (first | apply Kd.R_alloc | apply Kd.R_drewN | apply Kd.R_drew)); exact HO_5.out⟩, ⟨by repeat (first | (with_reducible first | exact HB.out | apply below_alloc | apply pw_below_drewN | apply below_drew1) | exact HB.out)⟩⟩
       ·rw [if_neg c14] at H
        exact absurd H (by simp)
      ·rw [if_neg c13] at H
       exact absurd H (by simp)
     ·rw [if_neg c10] at H
      have c10b0 : decide (x12_1 < (y119.length : Int)) = false := decide_eq_false c10
      (try (have c10b05_1 := c10b0; simp only [hl5_1] at c10b05_1))
      clear c10
      obtain rfl := Option.some.inj H
      go_wp2
      go_ret
      exact ⟨_, by first | rfl | (simp [errW_none, errW_some] <;> rfl) | (simp [*, errW_none, errW_some] <;> rfl), by (with_reducible repeat (first | apply Kd.R_alloc | apply Kd.R_drewN | apply Kd.R_drew)); exact HO_5.out, by repeat (first | (with_reducible first | exact HB.out | apply below_alloc | apply pw_below_drewN | apply below_drew1) | exact HB.out)⟩
  ·rw [if_neg c5] at H
   exact absurd H (by simp)
 ·rw [if_neg c4] at H
  exact absurd H (by simp)

/-! ### vec_Ones: function 24 -/
def vec_Ones.f (k : Nat) (a0 : Int) : Option (List Int) := (vec_Not.f k ([] : List Int) a0).bind fun t125 => (some t125)
theorem vec_Ones.mono : ∀ a0 k, LeO (vec_Ones.f k a0) (vec_Ones.f (k + 1) a0) := by
 intro a0 k
 unfold vec_Ones.f
 repeat' first
   | (with_reducible exact vec_Not.mono _ _ _)
   | (with_reducible exact LeO.refl _)
   | (with_reducible exact LeO.none _)
   | (with_reducible refine LeO.ite ?_ ?_)
   | (with_reducible refine LeO.bind ?_ (fun _ => ?_))
   | exact vec_Not.mono _ _ _
   | exact LeO.none _
   | refine LeO.ite ?_ ?_
   | refine LeO.bind ?_ (fun _ => ?_)
set_option maxHeartbeats 8000000 in
set_option maxRecDepth 100000 in
theorem vec_Ones.calls (k : Nat) (a0 : Int) (r : List Int) (w : World) (h : vec_Ones.f k a0 = some r) :
  Calls Try.prog 24 #[.int .i64 a0] w fun e w' => ∃ v0_ : Value, e = .returned (v0_) ∧ Kd.R (Kd.int .u64) 61 w' w.heap.size (fun _ => True) v0_ r ∧ Below w.heap.size w w' := by
 have HB := Aside0.mk (Below.refl w.heap.size w)
 have H : ((vec_Not.f k ([] : List Int) a0).bind fun t125 => (some t125)) = some r := h
 clear h
 replace H := Option.bind_eq_some_iff.mp H
 obtain ⟨t125, A20, H⟩ := H
 replace H : (some t125) = some r := H
 have A2 := Aside0.mk A20
 clear A20
 obtain rfl := Option.some.inj H
 go_enter Try.func24, Try.ntmps24
 go_wp2_with (first | ((with_reducible refine gate_callee (f := 38) rfl ?_); refine goesL_ (some 4) rfl rfl Try.func38 (by kernel_rfl) rfl #[.slice none 0 0, .int .i64 a0] rfl (by (try simp only [List.map_toArray, List.map_cons, List.map_nil]); first | done | rfl | (simp only [List.length_drop, List.length_take]; rfl)) ?_; (refine (vec_Not.calls k _ _ ([] : List Int) a0 t125 _ ?side1 ?side2 A2.out).mono ?_); (case side1 => exact Kd.C_nil _ _); (case side2 => exact Nat.le_refl _); rintro e w3 ⟨v126, rfl, ho0, hb⟩; refine ⟨_, rfl, ?_⟩; have n0_ := Aside0.mk (Kd.R_lower ho0 (below_size (by repeat (first | (with_reducible first | exact HB.out | apply below_alloc | apply pw_below_drewN | apply below_drew1) | exact HB.out)))); have n1_ := Aside0.mk (below_step (by repeat (first | (with_reducible first | exact HB.out | apply below_alloc | apply pw_below_drewN | apply below_drew1) | exact HB.out)) hb); clear HB; have HO127 := n0_; have HB := n1_; clear n0_ n1_; (try clear hb); (try clear hb2); (try clear hk); (try clear hi); (try clear ho0)))
 go_ret
 exact ⟨_, by first | rfl | (simp [errW_none, errW_some] <;> rfl) | (simp [*, errW_none, errW_some] <;> rfl), by (with_reducible repeat (first | apply Kd.R_alloc | apply Kd.R_drewN | apply Kd.R_drew)); exact HO127.out, by repeat (first | (with_reducible first | exact HB.out | apply below_alloc | apply pw_below_drewN | apply below_drew1) | exact HB.out)⟩

/-! ### vec_Fit: function 41 -/
def vec_Fit.l0 : Nat → List Int → Int → List Int → Int → Int → Option (List Int)
 | 0, _, _, _, _, _ => none
 | k + 1, x0, x1, x5, x11, x12 => if x12 < x11 then ((vec_at.f x0 x12).bind fun t132 => ((vec_mask.f x1 x12).bind fun t133 => (if 0 ≤ x12 then (if x12 < (x5.length : Int) then (vec_Fit.l0 k x0 x1 (x5.set (x12 : Int).toNat (Go.bits .and .u64 t132 t133)) x11 (wrap64 (x12 + 1))) else (none)) else (none)))) else (some x5)
def vec_Fit.f (k : Nat) (l0 : List Int) (a1 : Int) : Option (List Int) := (vec_Words.f a1).bind fun t128 => (if 0 ≤ t128 then (if (t128 : Int).toNat ≤ 35184372088832 then ((some (List.replicate (t128 : Int).toNat 0 : List Int)).bind fun y129 => (vec_Fit.l0 k l0 a1 y129 (y129.length : Int) 0)) else (none)) else (none))
theorem vec_Fit.mono_l : ∀ k, (∀ y0 y1 y2 y3 y4, LeO (vec_Fit.l0 k y0 y1 y2 y3 y4) (vec_Fit.l0 (k + 1) y0 y1 y2 y3 y4))
 | 0 => fun _ _ _ _ _ r h => by simp [vec_Fit.l0] at h
 | k + 1 => by
  have ih0 := vec_Fit.mono_l k
  ·intro y0 y1 y2 y3 y4
   unfold vec_Fit.l0
   repeat' first
   | (with_reducible exact ih0 _ _ _ _ _)
   | (with_reducible exact LeO.refl _)
   | (with_reducible exact LeO.none _)
   | (with_reducible refine LeO.ite ?_ ?_)
   | (with_reducible refine LeO.bind ?_ (fun _ => ?_))
   | exact ih0 _ _ _ _ _
   | exact LeO.none _
   | refine LeO.ite ?_ ?_
   | refine LeO.bind ?_ (fun _ => ?_)
theorem vec_Fit.mono : ∀ a0 a1 k, LeO (vec_Fit.f k a0 a1) (vec_Fit.f (k + 1) a0 a1) := by
 intro a0 a1 k
 have ih0 := vec_Fit.mono_l k
 unfold vec_Fit.f
 repeat' first
   | (with_reducible exact ih0 _ _ _ _ _)
   | (with_reducible exact LeO.refl _)
   | (with_reducible exact LeO.none _)
   | (with_reducible refine LeO.ite ?_ ?_)
   | (with_reducible refine LeO.bind ?_ (fun _ => ?_))
   | exact ih0 _ _ _ _ _
   | exact LeO.none _
   | refine LeO.ite ?_ ?_
   | refine LeO.bind ?_ (fun _ => ?_)
set_option maxHeartbeats 8000000 in
set_option maxRecDepth 100000 in
theorem vec_Fit.calls (k : Nat) (A0 : Option Addr) (c0 : Nat) (l0 : List Int) (a1 : Int) (r : List Int) (w : World) (hr0 : Kd.C (Kd.int .u64) w A0 l0.length l0) (hc0 : l0.length ≤ c0) (h : vec_Fit.f k l0 a1 = some r) :
  Calls Try.prog 41 #[.slice A0 l0.length c0, .int .i64 a1] w fun e w' => ∃ v0_ : Value, e = .returned (v0_) ∧ Kd.R (Kd.int .u64) 61 w' w.heap.size (fun _ => True) v0_ r ∧ Below w.heap.size w w' := by
 have HR0 := Aside0.mk hr0
 have HC0 := Aside0.mk hc0
 clear hr0 hc0
 have HB := Aside0.mk (Below.refl w.heap.size w)
 have H : ((vec_Words.f a1).bind fun t128 => (if 0 ≤ t128 then (if (t128 : Int).toNat ≤ 35184372088832 then ((some (List.replicate (t128 : Int).toNat 0 : List Int)).bind fun y129 => (vec_Fit.l0 k l0 a1 y129 (y129.length : Int) 0)) else (none)) else (none))) = some r := h
 clear h
 replace H := Option.bind_eq_some_iff.mp H
 obtain ⟨t128, A30, H⟩ := H
 replace H : (if 0 ≤ t128 then (if (t128 : Int).toNat ≤ 35184372088832 then ((some (List.replicate (t128 : Int).toNat 0 : List Int)).bind fun y129 => (vec_Fit.l0 k l0 a1 y129 (y129.length : Int) 0)) else (none)) else (none)) = some r := H
 have A3 := Aside0.mk A30
 clear A30
 by_cases c4 : 0 ≤ t128
 ·rw [if_pos c4] at H
  have c4b0 := eq_true c4
  have c4b1 : decide (0 ≤ t128) = true := decide_eq_true c4
  clear c4
  by_cases c5 : (t128 : Int).toNat ≤ 35184372088832
  ·rw [if_pos c5] at H
   have c5b0 := eq_true c5
   have c5b1 : decide ((t128 : Int).toNat ≤ 35184372088832) = true := decide_eq_true c5
   clear c5
   obtain ⟨y129, hy129⟩ : ∃ y_ : List Int, y_ = (List.replicate (t128 : Int).toNat 0) := ⟨_, rfl⟩
   replace H : (vec_Fit.l0 k l0 a1 y129 (y129.length : Int) 0) = some r := by first | (rw [hy129]; with_reducible exact H) | (have H2_ := (Option.bind_some _ _).symm.trans H; rw [hy129]; with_reducible exact H2_) | (have H2_ := (Option.bind_some _ _).symm.trans H; with_reducible exact H2_) | with_reducible exact H | (rw [hy129]; exact H) | exact H
   have Ny129 := Aside0.mk hy129
   clear hy129
   have H' := Aside0.mk H
   clear H
   go_enter Try.func41, Try.ntmps41
   go_wp2_with (first | ((with_reducible refine gate_callee (f := 31) rfl ?_); refine goesL_ (some 8) rfl rfl Try.func31 (by kernel_rfl) rfl #[.int .i64 a1] rfl (by (try simp only [List.map_toArray, List.map_cons, List.map_nil]); first | done | rfl | (simp only [List.length_drop, List.length_take]; rfl)) ?_; (with_reducible refine (vec_Words.calls a1 t128 _ A3.out).mono ?_); rintro e w6 ⟨rfl, hb⟩; refine ⟨_, rfl, ?_⟩; have n0_ := Aside0.mk (below_step (by repeat (first | (with_reducible first | exact HB.out | apply below_alloc | apply pw_below_drewN | apply below_drew1) | exact HB.out)) hb); clear HB; have HB := n0_; clear n0_; (try clear hb); (try clear hb2); (try clear hk); (try clear hi)) | ((with_reducible refine gate_dst (N := 9) rfl ?_); refine Kd.R_make (Kd.int .u64) _ 61 rfl (N := 9) rfl 47 _ _ rfl t128 rfl rfl Try.underlying47 (.int .u64 0) 8 info61 rfl (by decide) (by omega) 0 (ok := fun _ => True) (okp := fun _ => True) rfl (fun _ hk => hk) trivial (of_decide_eq_true (by first | (with_reducible assumption) | assumption)) (Nat.le_trans (Nat.mul_le_mul_right _ (of_decide_eq_true (by first | (with_reducible assumption) | assumption) : t128.toNat ≤ 35184372088832)) (by omega)) (Below.refl _ _) (Nat.le_refl _) ?_; intro v130 w7 ho8 hb hg_ hnew_; clear hg_ hnew_; (first | rw [← Ny129.out] at ho8 | (simp only [Int.reduceToNat] at ho8; rw [← Ny129.out] at ho8)); have n0_ := Aside0.mk (Kd.R_lower ho8 (below_size (by repeat (first | (with_reducible first | exact HB.out | apply below_alloc | apply pw_below_drewN | apply below_drew1) | exact HB.out)))); have n1_ := Aside0.mk (below_step (by repeat (first | (with_reducible first | exact HB.out | apply below_alloc | apply pw_below_drewN | apply below_drew1) | exact HB.out)) hb); clear HB; have HO131 := n0_; have HB := n1_; clear n0_ n1_; clear hb ho8; obtain ⟨Ao9, co9, eo9⟩ := Kd.R_slice HO131.out; subst eo9))
   go_loopg [12] k (fun kq v12 w' => ∃ (x5_1 : List Int) (x12_1 : Int), v12 = .int .i64 x12_1 ∧ Aside0 (vec_Fit.l0 kq l0 a1 x5_1 (y129.length : Int) x12_1 = some r) ∧ Aside0 (kq ≤ k) ∧ Aside0 (Kd.R (Kd.int .u64) 61 w' w.heap.size (fun _ => True) (.slice Ao9 y129.length co9) x5_1) ∧ Aside0 (Below w.heap.size w w'))
   case atStart => exact ⟨(y129), (0), (by first | rfl | (simp; done) | (simp [*]; done)), H', ⟨Nat.le_refl _⟩, ⟨by (with_reducible repeat (first | apply Kd.R_alloc | apply Kd.R_drewN | apply Kd.R_drew)); exact HO131.out⟩, ⟨by repeat (first | (with_reducible first | exact HB.out | apply below_alloc | apply pw_below_drewN | apply below_drew1) | exact HB.out)⟩⟩
   case round =>
    clear H'
    try clear p2
    try clear c3
    try clear c4
    try clear c4b0
    try clear c4b1
    try clear c5
    try clear c5b0
    try clear c5b1
    obtain ⟨x5_1, x12_1, rfl, HA, HK1, HO_5, HB⟩ := hrel
    have hl5_1 := (Kd.R_reads' HO_5.out).1
    rw [hl5_1] at HO_5
    (try simp only [hl5_1])
    cases gk with
    | zero => exact absurd HA.out (by simp [vec_Fit.l0])
    | succ k1 =>
     have H := HA.out
     clear HA
     simp only [vec_Fit.l0] at H
     by_cases c10 : x12_1 < (y129.length : Int)
     ·rw [if_pos c10] at H
      have c10b0 : decide (x12_1 < (y129.length : Int)) = true := decide_eq_true c10
      (try (have c10b05_1 := c10b0; simp only [hl5_1] at c10b05_1))
      clear c10
      replace H := Option.bind_eq_some_iff.mp H
      obtain ⟨t132, A110, H⟩ := H
      replace H : ((vec_mask.f a1 x12_1).bind fun t133 => (if 0 ≤ x12_1 then (if x12_1 < (x5_1.length : Int) then (vec_Fit.l0 k1 l0 a1 (x5_1.set (x12_1 : Int).toNat (Go.bits .and .u64 t132 t133)) (y129.length : Int) (wrap64 (x12_1 + 1))) else (none)) else (none))) = some r := H
      have A11 := Aside0.mk A110
      clear A110
      replace H := Option.bind_eq_some_iff.mp H
      obtain ⟨t133, A120, H⟩ := H
      replace H : (if 0 ≤ x12_1 then (if x12_1 < (x5_1.length : Int) then (vec_Fit.l0 k1 l0 a1 (x5_1.set (x12_1 : Int).toNat (Go.bits .and .u64 t132 t133)) (y129.length : Int) (wrap64 (x12_1 + 1))) else (none)) else (none)) = some r := H
      have A12 := Aside0.mk A120
      clear A120
      by_cases c13 : 0 ≤ x12_1
      ·rw [if_pos c13] at H
       have c13b0 : decide (0 ≤ x12_1) = true := decide_eq_true c13
       clear c13
       by_cases c14 : x12_1 < (x5_1.length : Int)
       ·rw [if_pos c14] at H
        have c14b0 : decide (x12_1 < (x5_1.length : Int)) = true := decide_eq_true c14
        (try (have c14b05_1 := c14b0; simp only [hl5_1] at c14b05_1))
        clear c14
        obtain ⟨y134, hy134⟩ : ∃ y_ : List Int, y_ = (x5_1.set (x12_1 : Int).toNat (Go.bits .and .u64 t132 t133)) := ⟨_, rfl⟩
        replace H : (vec_Fit.l0 k1 l0 a1 y134 (y129.length : Int) (wrap64 (x12_1 + 1))) = some r := by first | (rw [hy134]; with_reducible exact H) | (have H2_ := (Option.bind_some _ _).symm.trans H; rw [hy134]; with_reducible exact H2_) | (have H2_ := (Option.bind_some _ _).symm.trans H; with_reducible exact H2_) | with_reducible exact H | (rw [hy134]; exact H) | exact H
        have Ny134 := Aside0.mk hy134
        clear hy134
        have H' := Aside0.mk H
        clear H
        go_wp2_with (first | ((with_reducible refine gate_callee (f := 49) rfl ?_); refine goesL_ (some 19) rfl rfl Try.func49 (by kernel_rfl) rfl #[.slice A0 l0.length c0, .int .i64 x12_1] rfl (by (try simp only [List.map_toArray, List.map_cons, List.map_nil]); first | done | rfl | (simp only [List.length_drop, List.length_take]; rfl)) ?_; (with_reducible refine (vec_at.calls _ _ l0 x12_1 t132 _ ?side1 ?side2 A11.out).mono ?_); (case side1 => repeat (first | exact (Kd.C_below HR0.out HB.out) | (with_reducible refine Kd.C_alloc ?_ _) | (with_reducible refine Kd.C_drewN ?_ _) | (with_reducible refine Kd.C_drew ?_))); (case side2 => exact HC0.out); rintro e w' ⟨rfl, ⟨nd, rfl⟩⟩; refine ⟨_, rfl, ?_⟩; (try (rw [drewN_self wr]; generalize hq_ : World.drewN wr _ = wr; have n0_ : Aside0 (Kd.R (Kd.int .u64) 61 wr w.heap.size (fun _ => True) (.slice Ao9 x5_1.length co9) x5_1) := ⟨by rw [← hq_]; exact (by (with_reducible repeat (first | apply Kd.R_alloc | apply Kd.R_drewN | apply Kd.R_drew)); exact HO_5.out)⟩; have n1_ : Aside0 (Below w.heap.size w wr) := ⟨by rw [← hq_]; exact (by repeat (first | (with_reducible first | exact HB.out | apply below_alloc | apply pw_below_drewN | apply below_drew1) | exact HB.out))⟩; clear HO_5 HB hq_; have HO_5 := n0_; have HB := n1_; clear n0_ n1_))) | ((with_reducible refine gate_callee (f := 50) rfl ?_); refine goesL_ (some 22) rfl rfl Try.func50 (by kernel_rfl) rfl #[.int .i64 a1, .int .i64 x12_1] rfl (by (try simp only [List.map_toArray, List.map_cons, List.map_nil]); first | done | rfl | (simp only [List.length_drop, List.length_take]; rfl)) ?_; (with_reducible refine (vec_mask.calls a1 x12_1 t133 _ A12.out).mono ?_); rintro e w16 ⟨rfl, hb⟩; refine ⟨_, rfl, ?_⟩; have n0_ := Aside0.mk (Kd.R_below (by (with_reducible repeat (first | apply Kd.R_alloc | apply Kd.R_drewN | apply Kd.R_drew)); exact HO_5.out) hb); have n1_ := Aside0.mk (below_step (by repeat (first | (with_reducible first | exact HB.out | apply below_alloc | apply pw_below_drewN | apply below_drew1) | exact HB.out)) hb); clear HO_5; clear HB; have HO_5 := n0_; have HB := n1_; clear n0_ n1_; (try clear hb); (try clear hb2); (try clear hk); (try clear hi); have p15 : 0 ≤ (x12_1 : Int) := of_decide_eq_true (by first | (with_reducible assumption) | assumption); have q15 : (x12_1 : Int) < ((x5_1.length : Int) : Int) := of_decide_eq_true (by first | (with_reducible assumption) | assumption); obtain ⟨go15, co15, eo15, gb15, gl15, cl15, HG15⟩ := Kd.R_form HO_5.out (by omega); (first | cases eo15 | (injection eo15 with ea_ en_ ec_; (first | subst ea_ | (injection ea_ with ea_; subst ea_)); subst ec_; clear en_)); have GB15 := Aside0.mk gb15; have GG15 := Aside0.mk HG15; clear gb15 gl15 HG15; obtain ⟨hx15_0, hf15_0⟩ := Kd.R_celln 0 HO_5.out (x12_1 : Int) p15 q15; replace p15 := eq_true p15; replace q15 := eq_true q15; obtain ⟨hy17_, hz17_⟩ := Kd.R_celln 0 HO_5.out (x12_1 : Int) (of_decide_eq_true (by first | (with_reducible assumption) | assumption)) (of_decide_eq_true (by first | (with_reducible assumption) | assumption)); have HP17 := Kd.R_putg HO_5.out (x12_1 : Int) (Go.bits .and .u64 t132 t133)) | ((with_reducible refine gate_store (t := 61) (p := 24) rfl ?_); refine store_event (t := 61) (p := 24) (v := ?vo_w18) (w1 := (w16.setCell ⟨go15, (x12_1 : Int).toNat, none⟩ (.int .u64 (Go.bits .and .u64 t132 t133)))) ?hg ?ho ?hn ?hr ?_; (case ho => rfl); (case hg => rfl); (case hn => rfl); (case hr => first | (go_simp; done) | (go_simp; rfl)); intro w18 hw; have hg : w16.grownBy w18 (some go15) := (by rw [hw]; exact HP17.2); have hp_ : Kd.R (Kd.int .u64) 61 w18 w.heap.size (fun _ => True) (.slice (some ⟨go15, 0, none⟩) x5_1.length co9) y134 := (by rw [hw, Ny134.out]; exact HP17.1); clear HP17; have n0_ := Aside0.mk (hp_); have n1_ := Aside0.mk ((by rw [hw]; exact below_set (HB.out) GB15.out : Below w.heap.size w w18)); clear HO_5; clear HB; have HO_5 := n0_; have HB := n1_; clear n0_ n1_; clear hg hw hp_))
        (try simp only [← hl5_1])
        go_roundg k1
        case measure => have := HK1.out; omega
        case rel => exact ⟨(y134), (wrap64 (x12_1 + 1)), (by first | rfl | (simp; done) | (simp [*]; done)), H', ⟨by have := HK1.out; omega⟩, ⟨by (try simp only [hl5_1]); (with_reducible repeat (first | apply Kd.R_alloc | apply Kd.R_drewN | apply Kd.R_drew)); exact HO_5.out⟩, ⟨by repeat (first | (with_reducible first | exact HB.out | apply below_alloc | apply pw_below_drewN | apply below_drew1) | exact HB.out)⟩⟩
       ·rw [if_neg c14] at H
        exact absurd H (by simp)
      ·rw [if_neg c13] at H
       exact absurd H (by simp)
     ·rw [if_neg c10] at H
      have c10b0 : decide (x12_1 < (y129.length : Int)) = false := decide_eq_false c10
      (try (have c10b05_1 := c10b0; simp only [hl5_1] at c10b05_1))
      clear c10
      obtain rfl := Option.some.inj H
      go_wp2
      go_ret
      exact ⟨_, by first | rfl | (simp [errW_none, errW_some] <;> rfl) | (simp [*, errW_none, errW_some] <;> rfl), by (with_reducible repeat (first | apply Kd.R_alloc | apply Kd.R_drewN | apply Kd.R_drew)); exact HO_5.out, by repeat (first | (with_reducible first | exact HB.out | apply below_alloc | apply pw_below_drewN | apply below_drew1) | exact HB.out)⟩
  ·rw [if_neg c5] at H
   exact absurd H (by simp)
 ·rw [if_neg c4] at H
  exact absurd H (by simp)

end Go.Proofs.Ytkafkbdidnkefaa.R
