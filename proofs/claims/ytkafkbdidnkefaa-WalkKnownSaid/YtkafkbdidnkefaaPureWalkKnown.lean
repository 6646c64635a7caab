/- What chapter 22 says of kinds that are none, of rows that are not kept, of which pair is taken: the functions that the program's come to tell true (a closed statement: no condition). -/
import Derived.Test.YtkafkbdidnkefaaK7
import Derived.KernelRfl
namespace Go.Proofs.Ytkafkbdidnkefaa.Pure
open Go.RowKit Go.Proofs.Ytkafkbdidnkefaa.K Go.Proofs.YtkafkbdidnkefaaW.PrintWords Go.Proofs.YtkafkbdidnkefaaW.PrintLast

/-- YOURS: ∃ k, tattinglaw22_WalkKnown.f k  = some true
What it reaches (each with k first where it has rounds; `.mono`: more rounds tell the same; `.l0`, ..: its loops, with `.mono_l`): vec_width.f, vec_Words.f, slices_Clone_int_int.f, cmp_isNaN_int.f, cmp_Less_int.f, slices_insertionSortOrdered_int.f, slices_siftDownOrdered_int.f, slices_heapSortOrdered_int.f, bits_Len32.f, bits_Len64.f, bits_Len.f, slices_nextPowerOfTwo.f, slices_xorshift_Next.f, slices_breakPatternsOrdered_int.f, slices_order2Ordered_int.f, slices_medianOrdered_int.f, slices_medianAdjacentOrdered_int.f, slices_choosePivotOrdered_int.f, slices_reverseRangeOrdered_int.f, slices_partialInsertionSortOrdered_int.f, slices_partitionEqualOrdered_int.f, slices_partitionOrdered_int.f, slices_pdqsortOrdered_int.f, slices_Sort_int_int.f, slices_Compact_int_int.f, mask_New.f, vec_at.f, vec_mask.f, vec_Not.f, vec_Ones.f, vec_Fit.f, vec_Or.f, bits_Add64.f, vec_Add.f, vec_And.f, croch_Row.f, bits_Sub64.f, vec_Sub.f, hyyro_Row.f, walk_row.f, mask_Masks_Of.f, vec_inside.f, vec_Get.f, api_Pair.f, hyyro_is.f, hyyro_Steps.f, walk_Run.f, walk_is.f, walk_Kept.f, tattingref1_SameInts.f, walk_Room.f, walk_Root.f, tattinglaw22_awake.f, tattinglaw22_WalkKnown.f -/
theorem WalkKnown : tattinglaw22_WalkKnown.Pure := by
  exact ⟨1100, by kernel_rfl⟩

end Go.Proofs.Ytkafkbdidnkefaa.Pure
