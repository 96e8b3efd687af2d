/- PRINTED by Gen.lean: each printed function does what the program's does. -/
import Derived.Test.YtofbefghllefhaaFreshSendsFn
import Derived.Test.YtofbefghllefhaaBs
namespace Go.Proofs.Ytofbefghllefhaa.freshSends
open Go Go.Ab Go.Ab.F
set_option linter.all false
theorem okT0 : CallOk Try.prog (lookT T0) := lookT_nil
theorem eq_k_live_given_1 (a : AV) (h : Heap) : k_live_given_1 a h = bodyK Try.prog (lookT T0) ann 65 [a] h := by kernel_rfl
theorem okT1 : CallOk Try.prog (lookT T1) := lookT_cons good mixed okT0 (of_p1 eq_k_live_given_1)
theorem eq_k_live_Follows_1 (a b : AV) (h : Heap) : k_live_Follows_1 a b h = bodyK Try.prog (lookT T1) ann 51 [a, b] h := by kernel_rfl
theorem okT2 : CallOk Try.prog (lookT T2) := lookT_cons good mixed okT1 (of_p2 eq_k_live_Follows_1)
theorem eq_k_law11_pair (a : AV) (h : Heap) : k_law11_pair a h = bodyK Try.prog (lookT T2) ann 31 [a] h := by kernel_rfl
theorem okT3 : CallOk Try.prog (lookT T3) := lookT_cons good mixed okT2 (of_p1 eq_k_law11_pair)
theorem eq_k_slices_Clone_fresh_states_fresh_State (a : AV) (h : Heap) : k_slices_Clone_fresh_states_fresh_State a h = bodyK Try.prog (lookT T3) ann 57 [a] h := by kernel_rfl
theorem okT4 : CallOk Try.prog (lookT T4) := lookT_cons good mixed okT3 (of_p1 eq_k_slices_Clone_fresh_states_fresh_State)
theorem eq_k_fresh_sent (a b : AV) (h : Heap) : k_fresh_sent a b h = bodyK Try.prog (lookT T4) ann 59 [a, b] h := by kernel_rfl
theorem okT5 : CallOk Try.prog (lookT T5) := lookT_cons good mixed okT4 (of_p2 eq_k_fresh_sent)
theorem eq_k_fresh_states_lend (a b : AV) (h : Heap) : k_fresh_states_lend a b h = bodyK Try.prog (lookT T5) ann 58 [a, b] h := by kernel_rfl
theorem okT6 : CallOk Try.prog (lookT T6) := lookT_cons good mixed okT5 (of_p2 eq_k_fresh_states_lend)
theorem eq_k_code_Maker (a : AV) (h : Heap) : k_code_Maker a h = bodyK Try.prog (lookT T6) ann 34 [a] h := by kernel_rfl
theorem okT7 : CallOk Try.prog (lookT T7) := lookT_cons good mixed okT6 (of_p1 eq_k_code_Maker)
theorem eq_k_code_Point (a : AV) (h : Heap) : k_code_Point a h = bodyK Try.prog (lookT T7) ann 35 [a] h := by kernel_rfl
theorem okT8 : CallOk Try.prog (lookT T8) := lookT_cons good mixed okT7 (of_p1 eq_k_code_Point)
theorem eq_k_live_fn (a b : AV) (h : Heap) : k_live_fn a b h = bodyK Try.prog (lookT T8) ann 41 [a, b] h := by kernel_rfl
theorem okT9 : CallOk Try.prog (lookT T9) := lookT_cons good mixed okT8 (of_p2 eq_k_live_fn)
theorem eq_k_live_run (a b : AV) (h : Heap) : k_live_run a b h = bodyK Try.prog (lookT T9) ann 40 [a, b] h := by kernel_rfl
theorem okT10 : CallOk Try.prog (lookT T10) := lookT_cons good mixed okT9 (of_p2 eq_k_live_run)
theorem eq_k_slices_IndexFunc_int_int (a b : AV) (h : Heap) : k_slices_IndexFunc_int_int a b h = bodyK Try.prog (lookT T10) ann 66 [a, b] h := by kernel_rfl
theorem okT11 : CallOk Try.prog (lookT T11) := lookT_cons good mixed okT10 (of_p2 eq_k_slices_IndexFunc_int_int)
theorem eq_k_slices_DeleteFunc_int_int (a b : AV) (h : Heap) : k_slices_DeleteFunc_int_int a b h = bodyK Try.prog (lookT T11) ann 50 [a, b] h := by kernel_rfl
theorem okT12 : CallOk Try.prog (lookT T12) := lookT_cons good mixed okT11 (of_p2 eq_k_slices_DeleteFunc_int_int)
theorem eq_k_live_given (a : AV) (h : Heap) : k_live_given a h = bodyK Try.prog (lookT T12) ann 42 [a] h := by kernel_rfl
theorem okT13 : CallOk Try.prog (lookT T13) := lookT_cons good mixed okT12 (of_p1 eq_k_live_given)
theorem eq_k_live_cases (a b : AV) (h : Heap) : k_live_cases a b h = bodyK Try.prog (lookT T13) ann 44 [a, b] h := by kernel_rfl
theorem okT14 : CallOk Try.prog (lookT T14) := lookT_cons good mixed okT13 (of_p2 eq_k_live_cases)
theorem eq_k_live_readsOf (a : AV) (h : Heap) : k_live_readsOf a h = bodyK Try.prog (lookT T14) ann 43 [a] h := by kernel_rfl
theorem okT15 : CallOk Try.prog (lookT T15) := lookT_cons good mixed okT14 (of_p1 eq_k_live_readsOf)
theorem eq_k_live_Reads (a b : AV) (h : Heap) : k_live_Reads a b h = bodyK Try.prog (lookT T15) ann 14 [a, b] h := by kernel_rfl
theorem okT16 : CallOk Try.prog (lookT T16) := lookT_cons good mixed okT15 (of_p2 eq_k_live_Reads)
theorem eq_k_fresh_states_put (a b c : AV) (h : Heap) : k_fresh_states_put a b c h = bodyK Try.prog (lookT T16) ann 72 [a, b, c] h := by kernel_rfl
theorem okT17 : CallOk Try.prog (lookT T17) := lookT_cons good mixed okT16 (of_p3 eq_k_fresh_states_put)
theorem eq_k_fresh_states_get (a b : AV) (h : Heap) : k_fresh_states_get a b h = bodyK Try.prog (lookT T17) ann 70 [a, b] h := by kernel_rfl
theorem okT18 : CallOk Try.prog (lookT T18) := lookT_cons good mixed okT17 (of_p2 eq_k_fresh_states_get)
theorem eq_k_fresh_bit (a : AV) (h : Heap) : k_fresh_bit a h = bodyK Try.prog (lookT T18) ann 71 [a] h := by kernel_rfl
theorem okT19 : CallOk Try.prog (lookT T19) := lookT_cons good mixed okT18 (of_p1 eq_k_fresh_bit)
theorem eq_k_fresh_states_written (a b c : AV) (h : Heap) : k_fresh_states_written a b c h = bodyK Try.prog (lookT T19) ann 73 [a, b, c] h := by kernel_rfl
theorem okT20 : CallOk Try.prog (lookT T20) := lookT_cons good mixed okT19 (of_p3 eq_k_fresh_states_written)
theorem eq_k_fresh_lends (a : AV) (h : Heap) : k_fresh_lends a h = bodyK Try.prog (lookT T20) ann 74 [a] h := by kernel_rfl
theorem okT21 : CallOk Try.prog (lookT T21) := lookT_cons good mixed okT20 (of_p1 eq_k_fresh_lends)
theorem eq_k_live_Writes (a : AV) (h : Heap) : k_live_Writes a h = bodyK Try.prog (lookT T21) ann 16 [a] h := by kernel_rfl
theorem okT22 : CallOk Try.prog (lookT T22) := lookT_cons good mixed okT21 (of_p1 eq_k_live_Writes)
theorem eq_k_fresh_receives (a b : AV) (h : Heap) : k_fresh_receives a b h = bodyK Try.prog (lookT T22) ann 75 [a, b] h := by kernel_rfl
theorem okT23 : CallOk Try.prog (lookT T23) := lookT_cons good mixed okT22 (of_p2 eq_k_fresh_receives)
theorem eq_k_fresh_behind (a b c : AV) (h : Heap) : k_fresh_behind a b c h = bodyK Try.prog (lookT T23) ann 60 [a, b, c] h := by kernel_rfl
theorem okT24 : CallOk Try.prog (lookT T24) := lookT_cons good mixed okT23 (of_p3 eq_k_fresh_behind)
theorem eq_k_mbits_Len32 (a : AV) (h : Heap) : k_mbits_Len32 a h = bodyK Try.prog (lookT T24) ann 89 [a] h := by kernel_rfl
theorem okT25 : CallOk Try.prog (lookT T25) := lookT_cons good mixed okT24 (of_p1 eq_k_mbits_Len32)
theorem eq_k_mbits_Len64 (a : AV) (h : Heap) : k_mbits_Len64 a h = bodyK Try.prog (lookT T25) ann 90 [a] h := by kernel_rfl
theorem okT26 : CallOk Try.prog (lookT T26) := lookT_cons good mixed okT25 (of_p1 eq_k_mbits_Len64)
theorem eq_k_mbits_Len (a : AV) (h : Heap) : k_mbits_Len a h = bodyK Try.prog (lookT T26) ann 68 [a] h := by kernel_rfl
theorem okT27 : CallOk Try.prog (lookT T27) := lookT_cons good mixed okT26 (of_p1 eq_k_mbits_Len)
theorem eq_k_cmp_isNaN_int (a : AV) (h : Heap) : k_cmp_isNaN_int a h = bodyK Try.prog (lookT T27) ann 109 [a] h := by kernel_rfl
theorem okT28 : CallOk Try.prog (lookT T28) := lookT_cons good mixed okT27 (of_p1 eq_k_cmp_isNaN_int)
theorem eq_k_cmp_Less_int (a b : AV) (h : Heap) : k_cmp_Less_int a b h = bodyK Try.prog (lookT T28) ann 86 [a, b] h := by kernel_rfl
theorem okT29 : CallOk Try.prog (lookT T29) := lookT_cons good mixed okT28 (of_p2 eq_k_cmp_Less_int)
theorem eq_k_slices_insertionSortOrdered_int (a b c : AV) (h : Heap) : k_slices_insertionSortOrdered_int a b c h = bodyK Try.prog (lookT T29) ann 80 [a, b, c] h := by kernel_rfl
theorem okT30 : CallOk Try.prog (lookT T30) := lookT_cons good mixed okT29 (of_p3 eq_k_slices_insertionSortOrdered_int)
theorem eq_k_slices_siftDownOrdered_int (a b c d : AV) (h : Heap) : k_slices_siftDownOrdered_int a b c d h = bodyK Try.prog (lookT T30) ann 104 [a, b, c, d] h := by kernel_rfl
theorem okT31 : CallOk Try.prog (lookT T31) := lookT_cons good mixed okT30 (of_p4 eq_k_slices_siftDownOrdered_int)
theorem eq_k_slices_heapSortOrdered_int (a b c : AV) (h : Heap) : k_slices_heapSortOrdered_int a b c h = bodyK Try.prog (lookT T31) ann 81 [a, b, c] h := by kernel_rfl
theorem okT32 : CallOk Try.prog (lookT T32) := lookT_cons good mixed okT31 (of_p3 eq_k_slices_heapSortOrdered_int)
theorem eq_k_slices_nextPowerOfTwo (a : AV) (h : Heap) : k_slices_nextPowerOfTwo a h = bodyK Try.prog (lookT T32) ann 105 [a] h := by kernel_rfl
theorem okT33 : CallOk Try.prog (lookT T33) := lookT_cons good mixed okT32 (of_p1 eq_k_slices_nextPowerOfTwo)
theorem eq_k_slices_xorshift_Next (a : AV) (h : Heap) : k_slices_xorshift_Next a h = bodyK Try.prog (lookT T33) ann 106 [a] h := by kernel_rfl
theorem okT34 : CallOk Try.prog (lookT T34) := lookT_cons good mixed okT33 (of_p1 eq_k_slices_xorshift_Next)
theorem eq_k_slices_breakPatternsOrdered_int (a b c : AV) (h : Heap) : k_slices_breakPatternsOrdered_int a b c h = bodyK Try.prog (lookT T34) ann 82 [a, b, c] h := by kernel_rfl
theorem okT35 : CallOk Try.prog (lookT T35) := lookT_cons good mixed okT34 (of_p3 eq_k_slices_breakPatternsOrdered_int)
theorem eq_k_slices_order2Ordered_int (a b c d : AV) (h : Heap) : k_slices_order2Ordered_int a b c d h = bodyK Try.prog (lookT T35) ann 128 [a, b, c, d] h := by kernel_rfl
theorem okT36 : CallOk Try.prog (lookT T36) := lookT_cons good mixed okT35 (of_p4 eq_k_slices_order2Ordered_int)
theorem eq_k_slices_medianOrdered_int (a b c d e : AV) (h : Heap) : k_slices_medianOrdered_int a b c d e h = bodyK Try.prog (lookT T36) ann 108 [a, b, c, d, e] h := by kernel_rfl
theorem okT37 : CallOk Try.prog (lookT T37) := lookT_cons good mixed okT36 (of_p5 eq_k_slices_medianOrdered_int)
theorem eq_k_slices_medianAdjacentOrdered_int (a b c : AV) (h : Heap) : k_slices_medianAdjacentOrdered_int a b c h = bodyK Try.prog (lookT T37) ann 107 [a, b, c] h := by kernel_rfl
theorem okT38 : CallOk Try.prog (lookT T38) := lookT_cons good mixed okT37 (of_p3 eq_k_slices_medianAdjacentOrdered_int)
theorem eq_k_slices_choosePivotOrdered_int (a b c : AV) (h : Heap) : k_slices_choosePivotOrdered_int a b c h = bodyK Try.prog (lookT T38) ann 83 [a, b, c] h := by kernel_rfl
theorem okT39 : CallOk Try.prog (lookT T39) := lookT_cons good mixed okT38 (of_p3 eq_k_slices_choosePivotOrdered_int)
theorem eq_k_slices_reverseRangeOrdered_int (a b c : AV) (h : Heap) : k_slices_reverseRangeOrdered_int a b c h = bodyK Try.prog (lookT T39) ann 84 [a, b, c] h := by kernel_rfl
theorem okT40 : CallOk Try.prog (lookT T40) := lookT_cons good mixed okT39 (of_p3 eq_k_slices_reverseRangeOrdered_int)
theorem eq_k_slices_partialInsertionSortOrdered_int (a b c : AV) (h : Heap) : k_slices_partialInsertionSortOrdered_int a b c h = bodyK Try.prog (lookT T40) ann 85 [a, b, c] h := by kernel_rfl
theorem okT41 : CallOk Try.prog (lookT T41) := lookT_cons good mixed okT40 (of_p3 eq_k_slices_partialInsertionSortOrdered_int)
theorem eq_k_slices_partitionEqualOrdered_int (a b c d : AV) (h : Heap) : k_slices_partitionEqualOrdered_int a b c d h = bodyK Try.prog (lookT T41) ann 87 [a, b, c, d] h := by kernel_rfl
theorem okT42 : CallOk Try.prog (lookT T42) := lookT_cons good mixed okT41 (of_p4 eq_k_slices_partitionEqualOrdered_int)
theorem eq_k_slices_partitionOrdered_int (a b c d : AV) (h : Heap) : k_slices_partitionOrdered_int a b c d h = bodyK Try.prog (lookT T42) ann 88 [a, b, c, d] h := by kernel_rfl
theorem okT43 : CallOk Try.prog (lookT T43) := lookT_cons good mixed okT42 (of_p4 eq_k_slices_partitionOrdered_int)
theorem eq_k_slices_pdqsortOrdered_int (a b c d : AV) (h : Heap) : k_slices_pdqsortOrdered_int a b c d h = bodyK Try.prog (lookT T43) ann 67 [a, b, c, d] h := by kernel_rfl
theorem okT44 : CallOk Try.prog (lookT T44) := lookT_cons good mixed okT43 (of_p4 eq_k_slices_pdqsortOrdered_int)
theorem eq_k_slices_Sort_int_int (a : AV) (h : Heap) : k_slices_Sort_int_int a h = bodyK Try.prog (lookT T44) ann 52 [a] h := by kernel_rfl
theorem okT45 : CallOk Try.prog (lookT T45) := lookT_cons good mixed okT44 (of_p1 eq_k_slices_Sort_int_int)
theorem eq_k_slices_Compact_int_int (a : AV) (h : Heap) : k_slices_Compact_int_int a h = bodyK Try.prog (lookT T45) ann 53 [a] h := by kernel_rfl
theorem okT46 : CallOk Try.prog (lookT T46) := lookT_cons good mixed okT45 (of_p1 eq_k_slices_Compact_int_int)
theorem eq_k_live_Follows (a b c : AV) (h : Heap) : k_live_Follows a b c h = bodyK Try.prog (lookT T46) ann 24 [a, b, c] h := by kernel_rfl
theorem okT47 : CallOk Try.prog (lookT T47) := lookT_cons good mixed okT46 (of_p3 eq_k_live_Follows)
theorem eq_k_fresh_meet (a b : AV) (h : Heap) : k_fresh_meet a b h = bodyK Try.prog (lookT T47) ann 61 [a, b] h := by kernel_rfl
theorem okT48 : CallOk Try.prog (lookT T48) := lookT_cons good mixed okT47 (of_p2 eq_k_fresh_meet)
theorem eq_k_slices_Equal_fresh_states_fresh_State (a b : AV) (h : Heap) : k_slices_Equal_fresh_states_fresh_State a b h = bodyK Try.prog (lookT T48) ann 62 [a, b] h := by kernel_rfl
theorem okT49 : CallOk Try.prog (lookT T49) := lookT_cons good mixed okT48 (of_p2 eq_k_slices_Equal_fresh_states_fresh_State)
theorem eq_k_fresh_Sets (a b : AV) (h : Heap) : k_fresh_Sets a b h = bodyK Try.prog (lookT T49) ann 33 [a, b] h := by kernel_rfl
theorem okT50 : CallOk Try.prog (lookT T50) := lookT_cons good mixed okT49 (of_p2 eq_k_fresh_Sets)
theorem eq_k_fresh_SpareIn (a b c : AV) (h : Heap) : k_fresh_SpareIn a b c h = bodyK Try.prog (lookT T50) ann 56 [a, b, c] h := by kernel_rfl
theorem okT51 : CallOk Try.prog (lookT T51) := lookT_cons good mixed okT50 (of_p3 eq_k_fresh_SpareIn)
theorem eq_k_fresh_Spare (a b c : AV) (h : Heap) : k_fresh_Spare a b c h = bodyK Try.prog (lookT T51) ann 32 [a, b, c] h := by kernel_rfl
theorem okT52 : CallOk Try.prog (lookT T52) := lookT_cons good mixed okT51 (of_p3 eq_k_fresh_Spare)
theorem eq_k_law11_awake (h : Heap) : k_law11_awake h = bodyK Try.prog (lookT T52) ann 30 [] h := by kernel_rfl
theorem okT53 : CallOk Try.prog (lookT T53) := lookT_cons good mixed okT52 (of_p0 eq_k_law11_awake)
theorem eq_k_law11_FreshSends (a b : AV) (h : Heap) : k_law11_FreshSends a b h = bodyK Try.prog (lookT T53) ann 10 [a, b] h := by kernel_rfl
theorem okT54 : CallOk Try.prog (lookT T54) := lookT_cons good mixed okT53 (of_p2 eq_k_law11_FreshSends)
noncomputable def tab : Tab := T54
theorem okTab : CallOk Try.prog (lookT tab) := okT54
theorem look_law (b0 b1 : AV) (h : Heap) : lookT tab 10 [b0, b1] h = k_law11_FreshSends b0 b1 h := by kernel_rfl
end Go.Proofs.Ytofbefghllefhaa.freshSends