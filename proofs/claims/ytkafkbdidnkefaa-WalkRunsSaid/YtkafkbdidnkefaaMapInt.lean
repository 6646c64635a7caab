/- Maps whose keys are ints, as the model has them: the look-up and the store, in plain words of the entries. -/
import Derived.Maps.OwnOps
import Derived.MapKept
import Derived.Below
namespace Go.Proofs.TatMap
open Go.MapKept

/-- Is this the key? -/
def isAt (v : Value) (x : Int) : Bool := match v with
  | .int .i64 n => decide (n = x)
  | _ => false
theorem isAt_mk (n x : Int) : isAt (.int .i64 n) x = decide (n = x) := rfl
/-- The element at a key. -/
def lookS : List MapEntry → Int → Option Value
  | [], _ => none
  | e :: es, x => if isAt e.key x then some e.val else lookS es x
/-- All keys are ints. -/
def IntKeys (es : List MapEntry) : Prop := ∀ e ∈ es, ∃ n : Int, e.key = .int .i64 n

theorem findNow_ints {x : Int} : ∀ (l : List MapEntry) (i : Nat), IntKeys l → ∃ a, Instr.findNow (.int .i64) (.int .i64 x) l i = some a ∧
    (a = none → lookS l x = none) ∧ ∀ j v, a = some (j, v) → lookS l x = some v ∧ i ≤ j ∧ ∃ e, l[j - i]? = some e ∧ e.key = .int .i64 x ∧ e.val = v ∧ ∀ q e', q < j - i → l[q]? = some e' → isAt e'.key x = false
  | [], i, _ => ⟨none, rfl, fun _ => rfl, by simp⟩
  | e :: l, i, h => by
    obtain ⟨n, hn⟩ := h e (by simp)
    have h' : IntKeys l := fun y hy => h y (List.mem_cons_of_mem _ hy)
    by_cases c : x = n
    · subst c
      refine ⟨some (i, e.val), by simp [Instr.findNow, Instr.sameNow, hn], by simp, ?_⟩
      intro j v hv
      simp only [Option.some.injEq, Prod.mk.injEq] at hv
      obtain ⟨rfl, rfl⟩ := hv
      refine ⟨by simp [lookS, hn, isAt_mk], Nat.le_refl _, e, by simp, hn, rfl, fun q e' hq => by omega⟩
    · obtain ⟨a, h1, h2, h3⟩ := findNow_ints (x := x) l (i + 1) h'
      have hne : isAt e.key x = false := by rw [hn, isAt_mk]; simpa using fun e2 => c e2.symm
      have hb : (x == n) = false := by simpa using c
      refine ⟨a, ?_, fun e0 => ?_, fun j v hv => ?_⟩
      · simp only [Instr.findNow, Instr.sameNow, hn, if_true, hb, h1]
      · simp only [lookS, hne, Bool.false_eq_true, if_false]; exact h2 e0
      · obtain ⟨q1, q2, y, q3, q4, q5, q6⟩ := h3 j v hv
        refine ⟨by simp only [lookS, hne, Bool.false_eq_true, if_false]; exact q1, by omega, y, ?_, q4, q5, fun q e' hq he' => ?_⟩
        · rw [show j - i = (j - (i + 1)) + 1 by omega]; simpa using q3
        · cases q with
          | zero => simp at he'; subst he'; exact hne
          | succ q => exact q6 q e' (by omega) (by simpa using he')

theorem lookS_push (e : MapEntry) (y : Int) : ∀ l : List MapEntry, lookS (l ++ [e]) y = match lookS l y with | some v => some v | none => if isAt e.key y then some e.val else none
  | [] => rfl
  | d :: l => by
    rw [List.cons_append, lookS, lookS, lookS_push e y l]
    cases isAt d.key y <;> rfl
theorem lookS_modify {x : Int} {v : Value} {f : MapEntry → MapEntry} (hf : ∀ e, (f e).val = v) (hk : ∀ e, (f e).key = .int .i64 x) (y : Int) : ∀ (l : List MapEntry) (j : Nat) (e : MapEntry), l[j]? = some e → e.key = .int .i64 x → (∀ q e', q < j → l[q]? = some e' → isAt e'.key x = false) →
    lookS (l.modify j f) y = if y = x then some v else lookS l y
  | [], _, _, h, _, _ => by simp at h
  | d :: l, 0, e, h, h2, _ => by
    obtain rfl : d = e := by simpa using h
    rw [List.modify_zero_cons, lookS, lookS, hk, h2, hf, isAt_mk]
    by_cases c : x = y
    · subst c; simp
    · have c2 : ¬ y = x := fun e => c e.symm
      simp [c, c2]
  | d :: l, j + 1, e, h, h2, h3 => by
    have hd : isAt d.key x = false := h3 0 d (by omega) (by simp)
    rw [List.modify_succ_cons, lookS, lookS, lookS_modify hf hk y l j e (by simpa using h) h2 (fun q e' hq he => h3 (q + 1) e' (by omega) (by simpa using he))]
    by_cases c : y = x
    · subst c; simp [hd]
    · simp [c]

theorem isKey_int (x : Int) : IsKey (.int .i64) (.int .i64 x) := rfl

section
variable {P : Program} {w : World} {t k e : TypeId} {r : Nat} {es : Array MapEntry} {clock : Nat}

/-- 'm[x]' -/
theorem run_look (ht : P.underlying t = some (.map k e)) (hk : P.underlying k = some (.int .i64)) {z : Value} (hz : (zeroValue e).run P w = .ok z w) (hb : w.heap[r]? = some (.map es clock)) (hi : IntKeys es.toList) (x : Int) (c : Bool) :
    (Instr.lookup t (.map (some r)) (.int .i64 x) c).run P w = .ok (if c then .tuple #[(lookS es.toList x).getD z, .bool (lookS es.toList x).isSome] else (lookS es.toList x).getD z) w := by
  obtain ⟨a, h1, h2, h3⟩ := findNow_ints (x := x) es.toList 0 hi
  have hf := run_findKey (w := w) hk h1
  have hc := run_checkKey (w := w) hk (isKey_int x) es.isEmpty 9999
  cases a with
  | none => simp [Instr.lookup, run_underlying ht, MapKept.run_getObj_map hb, hc, hf, hz, h2 rfl, Result.andThen]
  | some p =>
    obtain ⟨j, v⟩ := p
    obtain ⟨q1, _⟩ := h3 j v rfl
    simp [Instr.lookup, run_underlying ht, MapKept.run_getObj_map hb, hc, hf, q1, Result.andThen]

/-- 'm[x] = v' -/
theorem run_put (ht : P.underlying t = some (.map k e)) (hk : P.underlying k = some (.int .i64)) (hb : w.heap[r]? = some (.map es clock)) (hi : IntKeys es.toList) (x : Int) (v : Value) :
    ∃ es' clock', (Instr.mapUpdate t (.map (some r)) (.int .i64 x) v).run P w = .ok () { w with heap := w.heap.setIfInBounds r (.map es' clock') } ∧ IntKeys es'.toList ∧
      ∀ y, lookS es'.toList y = if y = x then some v else lookS es.toList y := by
  obtain ⟨a, h1, h2, h3⟩ := findNow_ints (x := x) es.toList 0 hi
  have hf := run_findKey (w := w) hk h1
  have hc := run_checkKey (w := w) hk (isKey_int x) false 9999
  cases a with
  | none =>
    refine ⟨_, _, by simp [Instr.mapUpdate, run_underlying ht, MapKept.run_getObj_map hb, hc, hf, Result.andThen]; exact MapKept.run_setObj_map _ hb, ?_, ?_⟩
    · intro y hy
      rw [Array.toList_push] at hy
      rcases List.mem_append.1 hy with hy | hy
      · exact hi y hy
      · rw [List.mem_singleton] at hy; subst hy; exact ⟨x, rfl⟩
    · intro y
      rw [Array.toList_push, lookS_push, isAt_mk]
      by_cases c : y = x
      · subst c; rw [h2 rfl]; simp
      · rw [if_neg c, decide_eq_false (fun e => c e.symm)]
        cases lookS es.toList y <;> rfl
  | some p =>
    obtain ⟨j, v0⟩ := p
    obtain ⟨q1, q2, e0, q3, q4, q5, q6⟩ := h3 j v0 rfl
    have q3' : es[j]? = some e0 := by simpa using q3
    refine ⟨_, _, by simp [Instr.mapUpdate, run_underlying ht, MapKept.run_getObj_map hb, hc, hf, Result.andThen, q3', q4, run_keyThatStays (isKey_int x)]; exact MapKept.run_setObj_map _ hb, ?_, ?_⟩
    · intro y hy
      rw [Array.toList_modify] at hy
      obtain ⟨q, hq⟩ := List.mem_iff_getElem?.1 hy
      rw [List.getElem?_modify] at hq
      by_cases c : j = q
      · subst c; simp [q3'] at hq; subst hq; exact ⟨x, rfl⟩
      · simp [c] at hq; exact hi y (List.mem_of_getElem? (by simpa using hq))
    · intro y
      rw [Array.toList_modify]
      exact lookS_modify (f := fun e => { e with key := .int .i64 x, val := v }) (fun _ => rfl) (fun _ => rfl) y es.toList j e0 (by simpa using q3) q4 (fun q e' hq he => q6 q e' (by simpa using hq) he)
end
end Go.Proofs.TatMap
