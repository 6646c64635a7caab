/- For every two lists of at most 40 numbers the list that walk.Run finds is good and as long as may be, whatever rows are kept, by either engine's rows (no condition beside the statement's own). -/
import Derived.Test.YtkafkbdidnkefaaWalkGoodLaws
namespace Go.Proofs.Ytkafkbdidnkefaa.Pure
open Go.RowKit Go.Proofs.Ytkafkbdidnkefaa.G Go.Proofs.YtkafkbdidnkefaaW.PrintWords Go.Proofs.YtkafkbdidnkefaaW.PrintLast

/-- YOURS: ∀ (l0 : List Int) (l1 : List Int) (a2 : Int) (a3 : Bool), l0.length ≤ maxLen → l0.length * 8 ≤ 140737488351232 → (∀ x ∈ l0, (Lit.int .i64 x).wf = true) → l1.length ≤ maxLen → l1.length * 8 ≤ 140737488351232 → (∀ x ∈ l1, (Lit.int .i64 x).wf = true) → (Lit.int .u8 a2).wf = true → ∃ k, tattinglaw22_WalkGood.f k l0 l1 a2 a3 = some true
What it reaches (each with k first where it has rounds; `.mono`: more rounds tell the same; `.l0`, ..: its loops, with `.mono_l`): vec_width.f, vec_Words.f, slices_Clone_int_int.f, cmp_isNaN_int.f, cmp_Less_int.f, slices_insertionSortOrdered_int.f, slices_siftDownOrdered_int.f, slices_heapSortOrdered_int.f, bits_Len32.f, bits_Len64.f, bits_Len.f, slices_nextPowerOfTwo.f, slices_xorshift_Next.f, slices_breakPatternsOrdered_int.f, slices_order2Ordered_int.f, slices_medianOrdered_int.f, slices_medianAdjacentOrdered_int.f, slices_choosePivotOrdered_int.f, slices_reverseRangeOrdered_int.f, slices_partialInsertionSortOrdered_int.f, slices_partitionEqualOrdered_int.f, slices_partitionOrdered_int.f, slices_pdqsortOrdered_int.f, slices_Sort_int_int.f, slices_Compact_int_int.f, mask_New.f, vec_at.f, vec_mask.f, vec_Not.f, vec_Ones.f, vec_Fit.f, vec_Or.f, bits_Add64.f, vec_Add.f, vec_And.f, croch_Row.f, bits_Sub64.f, vec_Sub.f, hyyro_Row.f, walk_row.f, mask_Masks_Of.f, vec_inside.f, vec_Get.f, api_Pair.f, hyyro_is.f, hyyro_Steps.f, walk_Run.f, walk_is.f, walk_Kept.f, tattingref1_SameInts.f, walk_Room.f, walk_Root.f, tattinglaw22_awake.f, tattingref1_SamePairs.f, tattingref7_Good.f, tattingref7_Behind.f, tattingref7_Len.f, tattinglaw22_WalkGood.f -/
theorem WalkGood : tattinglaw22_WalkGood.Pure := by
  exact Pw.WalkGood_tells

end Go.Proofs.Ytkafkbdidnkefaa.Pure
