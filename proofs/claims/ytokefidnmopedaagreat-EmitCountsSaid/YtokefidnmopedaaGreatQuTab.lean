/- PRINTED by Gen.lean: each printed function does what the program's does. -/
import Derived.Test.YtokefidnmopedaaGreatQuFn
import Derived.Test.YtokefidnmopedaaGreatBs
import Derived.Test.YtokefidnmopedaaGreatAbV
import Derived.Test.YtokefidnmopedaaGreatAbQ
import Derived.Test.YtokefidnmopedaaGreatLay
namespace Go.Proofs.YtokefidnmopedaaGreat.qu
open Go Go.Ab Go.Ab.F
set_option linter.all false
theorem okT0 : CallOk Tryz.prog (lookT T0) := lookT_nil
theorem eq_k_emit_Polls_1 (a b : AV) (h : Heap) : k_emit_Polls_1 a b h = bodyK Tryz.prog (lookT T0) ann 16 [a, b] h := by kernel_rfl
theorem okT1 : CallOk Tryz.prog (lookT T1) := lookT_cons good mixed okT0 (of_p2 eq_k_emit_Polls_1)
theorem eq_k_head_Good (a : AV) (h : Heap) : k_head_Good a h = bodyK Tryz.prog (lookT T1) ann 73 [a] h := by kernel_rfl
theorem okT2 : CallOk Tryz.prog (lookT T2) := lookT_cons good mixed okT1 (of_p1 eq_k_head_Good)
theorem eq_k_verify_module_1 (a : AV) (h : Heap) : k_verify_module_1 a h = bodyK Tryz.prog (lookT T2) ann 72 [a] h := by kernel_rfl
theorem okT3 : CallOk Tryz.prog (lookT T3) := lookT_cons good mixed okT2 (of_p1 eq_k_verify_module_1)
theorem eq_k_bits_Wrap (a : AV) (h : Heap) : k_bits_Wrap a h = bodyK Tryz.prog (lookT T3) ann 75 [a] h := by kernel_rfl
theorem okT4 : CallOk Tryz.prog (lookT T4) := lookT_cons good mixed okT3 (of_p1 eq_k_bits_Wrap)
theorem eq_k_verify_module_2 (a : AV) (h : Heap) : k_verify_module_2 a h = bodyK Tryz.prog (lookT T4) ann 74 [a] h := by kernel_rfl
theorem okT5 : CallOk Tryz.prog (lookT T5) := lookT_cons good mixed okT4 (of_p1 eq_k_verify_module_2)
theorem eq_k_live_Follows_1 (a b : AV) (h : Heap) : k_live_Follows_1 a b h = bodyK Tryz.prog (lookT T5) ann 67 [a, b] h := by kernel_rfl
theorem okT6 : CallOk Tryz.prog (lookT T6) := lookT_cons good mixed okT5 (of_p2 eq_k_live_Follows_1)
theorem eq_k_live_given_1 (a : AV) (h : Heap) : k_live_given_1 a h = bodyK Tryz.prog (lookT T6) ann 110 [a] h := by kernel_rfl
theorem okT7 : CallOk Tryz.prog (lookT T7) := lookT_cons good mixed okT6 (of_p1 eq_k_live_given_1)
theorem eq_k_verify_checker_slot (a b : AV) (h : Heap) : k_verify_checker_slot a b h = bodyK Tryz.prog (lookT T7) ann 95 [a, b] h := by kernel_rfl
theorem okT8 : CallOk Tryz.prog (lookT T8) := lookT_cons good mixed okT7 (of_p2 eq_k_verify_checker_slot)
theorem eq_k_verify_checker_slots_1 (a b : AV) (h : Heap) : k_verify_checker_slots_1 a b h = bodyK Tryz.prog (lookT T8) ann 94 [a, b] h := by kernel_rfl
theorem okT9 : CallOk Tryz.prog (lookT T9) := lookT_cons good mixed okT8 (of_p2 eq_k_verify_checker_slots_1)
theorem eq_k_verify_checker_slots_3 (a b : AV) (h : Heap) : k_verify_checker_slots_3 a b h = bodyK Tryz.prog (lookT T9) ann 103 [a, b] h := by kernel_rfl
theorem okT10 : CallOk Tryz.prog (lookT T10) := lookT_cons good mixed okT9 (of_p2 eq_k_verify_checker_slots_3)
theorem eq_k_verify_checker_is_1 (a b c : AV) (h : Heap) : k_verify_checker_is_1 a b c h = bodyK Tryz.prog (lookT T10) ann 123 [a, b, c] h := by kernel_rfl
theorem okT11 : CallOk Tryz.prog (lookT T11) := lookT_cons good mixed okT10 (of_p3 eq_k_verify_checker_is_1)
theorem eq_k_emit_Emit_1 (a : AV) (h : Heap) : k_emit_Emit_1 a h = bodyK Tryz.prog (lookT T11) ann 20 [a] h := by kernel_rfl
theorem okT12 : CallOk Tryz.prog (lookT T12) := lookT_cons good mixed okT11 (of_p1 eq_k_emit_Emit_1)
theorem eq_k_slices_Equal_bool_bool (a b : AV) (h : Heap) : k_slices_Equal_bool_bool a b h = bodyK Tryz.prog (lookT T12) ann 23 [a, b] h := by kernel_rfl
theorem okT13 : CallOk Tryz.prog (lookT T13) := lookT_cons good mixed okT12 (of_p2 eq_k_slices_Equal_bool_bool)
theorem eq_k_slices_Equal_code_Instr_code_Instr (a b : AV) (h : Heap) : k_slices_Equal_code_Instr_code_Instr a b h = bodyK Tryz.prog (lookT T13) ann 24 [a, b] h := by kernel_rfl
theorem okT14 : CallOk Tryz.prog (lookT T14) := lookT_cons good mixed okT13 (of_p2 eq_k_slices_Equal_code_Instr_code_Instr)
theorem eq_k_slices_Equal_uint64_uint64 (a b : AV) (h : Heap) : k_slices_Equal_uint64_uint64 a b h = bodyK Tryz.prog (lookT T14) ann 25 [a, b] h := by kernel_rfl
theorem okT15 : CallOk Tryz.prog (lookT T15) := lookT_cons good mixed okT14 (of_p2 eq_k_slices_Equal_uint64_uint64)
theorem eq_k_code_Same_1 (a b : AV) (h : Heap) : k_code_Same_1 a b h = bodyK Tryz.prog (lookT T15) ann 22 [a, b] h := by kernel_rfl
theorem okT16 : CallOk Tryz.prog (lookT T16) := lookT_cons good mixed okT15 (of_p2 eq_k_code_Same_1)
theorem eq_k_live_cases (a b : AV) (h : Heap) : k_live_cases a b h = bodyK Tryz.prog (lookT T16) ann 65 [a, b] h := by kernel_rfl
theorem okT17 : CallOk Tryz.prog (lookT T17) := lookT_cons good mixed okT16 (of_p2 eq_k_live_cases)
theorem eq_k_live_bitsOf (a : AV) (h : Heap) : k_live_bitsOf a h = bodyK Tryz.prog (lookT T17) ann 71 [a] h := by kernel_rfl
theorem okT18 : CallOk Tryz.prog (lookT T18) := lookT_cons good mixed okT17 (of_p1 eq_k_live_bitsOf)
theorem eq_k_slices_IndexFunc_int_int (a b : AV) (h : Heap) : k_slices_IndexFunc_int_int a b h = bodyK Tryz.prog (lookT T18) ann 89 [a, b] h := by kernel_rfl
theorem okT19 : CallOk Tryz.prog (lookT T19) := lookT_cons good mixed okT18 (of_p2 eq_k_slices_IndexFunc_int_int)
theorem eq_k_slices_DeleteFunc_int_int (a b : AV) (h : Heap) : k_slices_DeleteFunc_int_int a b h = bodyK Tryz.prog (lookT T19) ann 66 [a, b] h := by kernel_rfl
theorem okT20 : CallOk Tryz.prog (lookT T20) := lookT_cons good mixed okT19 (of_p2 eq_k_slices_DeleteFunc_int_int)
theorem okT21 : CallOk Tryz.prog (lookT T21) := lookT_sort okT20 sort68Lays (by rfl)
theorem eq_k_slices_Compact_int_int (a : AV) (h : Heap) : k_slices_Compact_int_int a h = bodyK Tryz.prog (lookT T21) ann 69 [a] h := by kernel_rfl
theorem okT22 : CallOk Tryz.prog (lookT T22) := lookT_cons good mixed okT21 (of_p1 eq_k_slices_Compact_int_int)
theorem eq_k_live_Follows (a b c : AV) (h : Heap) : k_live_Follows a b c h = bodyK Tryz.prog (lookT T22) ann 47 [a, b, c] h := by kernel_rfl
theorem okT23 : CallOk Tryz.prog (lookT T23) := lookT_cons good mixed okT22 (of_p3 eq_k_live_Follows)
theorem eq_k_live_Sets_1 (a b c d : AV) (h : Heap) : k_live_Sets_1 a b c d h = bodyK Tryz.prog (lookT T23) ann 70 [a, b, c, d] h := by kernel_rfl
theorem okT24 : CallOk Tryz.prog (lookT T24) := lookT_cons good mixed okT23 (of_p4 eq_k_live_Sets_1)
theorem eq_k_verify_checker_slots_2 (a b c : AV) (h : Heap) : k_verify_checker_slots_2 a b c h = bodyK Tryz.prog (lookT T24) ann 101 [a, b, c] h := by kernel_rfl
theorem okT25 : CallOk Tryz.prog (lookT T25) := lookT_cons good mixed okT24 (of_p3 eq_k_verify_checker_slots_2)
theorem eq_k_slices_ContainsFunc_int_int (a b : AV) (h : Heap) : k_slices_ContainsFunc_int_int a b h = bodyK Tryz.prog (lookT T25) ann 102 [a, b] h := by kernel_rfl
theorem okT26 : CallOk Tryz.prog (lookT T26) := lookT_cons good mixed okT25 (of_p2 eq_k_slices_ContainsFunc_int_int)
theorem eq_k_verify_checker_is (a b c : AV) (h : Heap) : k_verify_checker_is a b c h = bodyK Tryz.prog (lookT T26) ann 106 [a, b, c] h := by kernel_rfl
theorem okT27 : CallOk Tryz.prog (lookT T27) := lookT_cons good mixed okT26 (of_p3 eq_k_verify_checker_is)
theorem eq_k_verify_checker_kinds_1 (a b : AV) (h : Heap) : k_verify_checker_kinds_1 a b h = bodyK Tryz.prog (lookT T27) ann 107 [a, b] h := by kernel_rfl
theorem okT28 : CallOk Tryz.prog (lookT T28) := lookT_cons good mixed okT27 (of_p2 eq_k_verify_checker_kinds_1)
theorem eq_k_law24_loop (h : Heap) : k_law24_loop h = bodyK Tryz.prog (lookT T28) ann 8 [] h := by kernel_rfl
theorem okT29 : CallOk Tryz.prog (lookT T29) := lookT_cons good mixed okT28 (of_p0 eq_k_law24_loop)
theorem eq_k_slices_Clone_head_Shape_head_Shape (a : AV) (h : Heap) : k_slices_Clone_head_Shape_head_Shape a h = bodyK Tryz.prog (lookT T29) ann 33 [a] h := by kernel_rfl
theorem okT30 : CallOk Tryz.prog (lookT T30) := lookT_cons good mixed okT29 (of_p1 eq_k_slices_Clone_head_Shape_head_Shape)
theorem eq_k_slices_Clone_bool_bool (a : AV) (h : Heap) : k_slices_Clone_bool_bool a h = bodyK Tryz.prog (lookT T30) ann 34 [a] h := by kernel_rfl
theorem okT31 : CallOk Tryz.prog (lookT T31) := lookT_cons good mixed okT30 (of_p1 eq_k_slices_Clone_bool_bool)
theorem eq_k_slices_Clone_int64_int64 (a : AV) (h : Heap) : k_slices_Clone_int64_int64 a h = bodyK Tryz.prog (lookT T31) ann 35 [a] h := by kernel_rfl
theorem okT32 : CallOk Tryz.prog (lookT T32) := lookT_cons good mixed okT31 (of_p1 eq_k_slices_Clone_int64_int64)
theorem eq_k_slices_Clone_code_Case_code_Case (a : AV) (h : Heap) : k_slices_Clone_code_Case_code_Case a h = bodyK Tryz.prog (lookT T32) ann 36 [a] h := by kernel_rfl
theorem okT33 : CallOk Tryz.prog (lookT T33) := lookT_cons good mixed okT32 (of_p1 eq_k_slices_Clone_code_Case_code_Case)
theorem eq_k_slices_Clone_code_Func_code_Func (a : AV) (h : Heap) : k_slices_Clone_code_Func_code_Func a h = bodyK Tryz.prog (lookT T33) ann 37 [a] h := by kernel_rfl
theorem okT34 : CallOk Tryz.prog (lookT T34) := lookT_cons good mixed okT33 (of_p1 eq_k_slices_Clone_code_Func_code_Func)
theorem eq_k_slices_Clone_code_Instr_code_Instr (a : AV) (h : Heap) : k_slices_Clone_code_Instr_code_Instr a h = bodyK Tryz.prog (lookT T34) ann 38 [a] h := by kernel_rfl
theorem okT35 : CallOk Tryz.prog (lookT T35) := lookT_cons good mixed okT34 (of_p1 eq_k_slices_Clone_code_Instr_code_Instr)
theorem eq_k_slices_Clone_uint64_uint64 (a : AV) (h : Heap) : k_slices_Clone_uint64_uint64 a h = bodyK Tryz.prog (lookT T35) ann 39 [a] h := by kernel_rfl
theorem okT36 : CallOk Tryz.prog (lookT T36) := lookT_cons good mixed okT35 (of_p1 eq_k_slices_Clone_uint64_uint64)
theorem eq_k_emit_clone (a : AV) (h : Heap) : k_emit_clone a h = bodyK Tryz.prog (lookT T36) ann 14 [a] h := by kernel_rfl
theorem okT37 : CallOk Tryz.prog (lookT T37) := lookT_cons good mixed okT36 (of_p1 eq_k_emit_clone)
theorem eq_k_emit_cases (a b : AV) (h : Heap) : k_emit_cases a b h = bodyK Tryz.prog (lookT T37) ann 17 [a, b] h := by kernel_rfl
theorem okT38 : CallOk Tryz.prog (lookT T38) := lookT_cons good mixed okT37 (of_p2 eq_k_emit_cases)
theorem eq_k_emit_targets (a b : AV) (h : Heap) : k_emit_targets a b h = bodyK Tryz.prog (lookT T38) ann 40 [a, b] h := by kernel_rfl
theorem okT39 : CallOk Tryz.prog (lookT T39) := lookT_cons good mixed okT38 (of_p2 eq_k_emit_targets)
theorem eq_k_emit_polled (a b : AV) (h : Heap) : k_emit_polled a b h = bodyK Tryz.prog (lookT T39) ann 15 [a, b] h := by kernel_rfl
theorem okT40 : CallOk Tryz.prog (lookT T40) := lookT_cons good mixed okT39 (of_p2 eq_k_emit_polled)
theorem eq_k_emit_Polls (a : AV) (h : Heap) : k_emit_Polls a h = bodyK Tryz.prog (lookT T40) ann 7 [a] h := rfl
theorem okT41 : CallOk Tryz.prog (lookT T41) := lookT_cons good mixed okT40 (of_p1 eq_k_emit_Polls)
theorem eq_k_emit_Count (a : AV) (h : Heap) : k_emit_Count a h = bodyK Tryz.prog (lookT T41) ann 6 [a] h := by kernel_rfl
theorem okT42 : CallOk Tryz.prog (lookT T42) := lookT_cons good mixed okT41 (of_p1 eq_k_emit_Count)
theorem eq_k_slices_IndexFunc_head_Shape_head_Shape (a b : AV) (h : Heap) : k_slices_IndexFunc_head_Shape_head_Shape a b h = bodyK Tryz.prog (lookT T42) ann 92 [a, b] h := by kernel_rfl
theorem okT43 : CallOk Tryz.prog (lookT T43) := lookT_cons good mixed okT42 (of_p2 eq_k_slices_IndexFunc_head_Shape_head_Shape)
theorem eq_k_slices_ContainsFunc_head_Shape_head_Shape (a b : AV) (h : Heap) : k_slices_ContainsFunc_head_Shape_head_Shape a b h = bodyK Tryz.prog (lookT T43) ann 76 [a, b] h := by kernel_rfl
theorem okT44 : CallOk Tryz.prog (lookT T44) := lookT_cons good mixed okT43 (of_p2 eq_k_slices_ContainsFunc_head_Shape_head_Shape)
theorem eq_k_slices_IndexFunc_int64_int64 (a b : AV) (h : Heap) : k_slices_IndexFunc_int64_int64 a b h = bodyK Tryz.prog (lookT T44) ann 93 [a, b] h := by kernel_rfl
theorem okT45 : CallOk Tryz.prog (lookT T45) := lookT_cons good mixed okT44 (of_p2 eq_k_slices_IndexFunc_int64_int64)
theorem eq_k_slices_ContainsFunc_int64_int64 (a b : AV) (h : Heap) : k_slices_ContainsFunc_int64_int64 a b h = bodyK Tryz.prog (lookT T45) ann 77 [a, b] h := by kernel_rfl
theorem okT46 : CallOk Tryz.prog (lookT T46) := lookT_cons good mixed okT45 (of_p2 eq_k_slices_ContainsFunc_int64_int64)
theorem eq_k_verify_module (a : AV) (h : Heap) : k_verify_module a h = bodyK Tryz.prog (lookT T46) ann 53 [a] h := by kernel_rfl
theorem okT47 : CallOk Tryz.prog (lookT T47) := lookT_cons good mixed okT46 (of_p1 eq_k_verify_module)
theorem eq_k_verify_whole (a : AV) (h : Heap) : k_verify_whole a h = bodyK Tryz.prog (lookT T47) ann 54 [a] h := by kernel_rfl
theorem okT48 : CallOk Tryz.prog (lookT T48) := lookT_cons good mixed okT47 (of_p1 eq_k_verify_whole)
theorem eq_k_live_fn (a b : AV) (h : Heap) : k_live_fn a b h = bodyK Tryz.prog (lookT T48) ann 86 [a, b] h := by kernel_rfl
theorem okT49 : CallOk Tryz.prog (lookT T49) := lookT_cons good mixed okT48 (of_p2 eq_k_live_fn)
theorem eq_k_live_run (a b : AV) (h : Heap) : k_live_run a b h = bodyK Tryz.prog (lookT T49) ann 85 [a, b] h := by kernel_rfl
theorem okT50 : CallOk Tryz.prog (lookT T50) := lookT_cons good mixed okT49 (of_p2 eq_k_live_run)
theorem eq_k_live_given (a : AV) (h : Heap) : k_live_given a h = bodyK Tryz.prog (lookT T50) ann 87 [a] h := by kernel_rfl
theorem okT51 : CallOk Tryz.prog (lookT T51) := lookT_cons good mixed okT50 (of_p1 eq_k_live_given)
theorem eq_k_live_readsOf (a : AV) (h : Heap) : k_live_readsOf a h = bodyK Tryz.prog (lookT T51) ann 88 [a] h := by kernel_rfl
theorem okT52 : CallOk Tryz.prog (lookT T52) := lookT_cons good mixed okT51 (of_p1 eq_k_live_readsOf)
theorem eq_k_live_Reads (a b : AV) (h : Heap) : k_live_Reads a b h = bodyK Tryz.prog (lookT T52) ann 59 [a, b] h := by kernel_rfl
theorem okT53 : CallOk Tryz.prog (lookT T53) := lookT_cons good mixed okT52 (of_p2 eq_k_live_Reads)
theorem eq_k_live_Writes (a : AV) (h : Heap) : k_live_Writes a h = bodyK Tryz.prog (lookT T53) ann 63 [a] h := by kernel_rfl
theorem okT54 : CallOk Tryz.prog (lookT T54) := lookT_cons good mixed okT53 (of_p1 eq_k_live_Writes)
theorem eq_k_live_Sets (a b : AV) (h : Heap) : k_live_Sets a b h = bodyK Tryz.prog (lookT T54) ann 52 [a, b] h := by kernel_rfl
theorem okT55 : CallOk Tryz.prog (lookT T55) := lookT_cons good mixed okT54 (of_p2 eq_k_live_Sets)
theorem eq_k_live_Maps (a b : AV) (h : Heap) : k_live_Maps a b h = bodyK Tryz.prog (lookT T55) ann 32 [a, b] h := by kernel_rfl
theorem okT56 : CallOk Tryz.prog (lookT T56) := lookT_cons good mixed okT55 (of_p2 eq_k_live_Maps)
theorem eq_k_slices_Index_int_int (a b : AV) (h : Heap) : k_slices_Index_int_int a b h = bodyK Tryz.prog (lookT T56) ann 78 [a, b] h := by kernel_rfl
theorem okT57 : CallOk Tryz.prog (lookT T57) := lookT_cons good mixed okT56 (of_p2 eq_k_slices_Index_int_int)
theorem eq_k_slices_Contains_int_int (a b : AV) (h : Heap) : k_slices_Contains_int_int a b h = bodyK Tryz.prog (lookT T57) ann 55 [a, b] h := by kernel_rfl
theorem okT58 : CallOk Tryz.prog (lookT T58) := lookT_cons good mixed okT57 (of_p2 eq_k_slices_Contains_int_int)
theorem eq_k_verify_checker_fn (a b : AV) (h : Heap) : k_verify_checker_fn a b h = bodyK Tryz.prog (lookT T58) ann 98 [a, b] h := by kernel_rfl
theorem okT59 : CallOk Tryz.prog (lookT T59) := lookT_cons good mixed okT58 (of_p2 eq_k_verify_checker_fn)
theorem eq_k_verify_checker_params (a b : AV) (h : Heap) : k_verify_checker_params a b h = bodyK Tryz.prog (lookT T59) ann 97 [a, b] h := by kernel_rfl
theorem okT60 : CallOk Tryz.prog (lookT T60) := lookT_cons good mixed okT59 (of_p2 eq_k_verify_checker_params)
theorem eq_k_verify_checker_run (a b c : AV) (h : Heap) : k_verify_checker_run a b c h = bodyK Tryz.prog (lookT T60) ann 96 [a, b, c] h := by kernel_rfl
theorem okT61 : CallOk Tryz.prog (lookT T61) := lookT_cons good mixed okT60 (of_p3 eq_k_verify_checker_run)
theorem eq_k_verify_checker_cases (a : AV) (h : Heap) : k_verify_checker_cases a h = bodyK Tryz.prog (lookT T61) ann 99 [a] h := by kernel_rfl
theorem okT62 : CallOk Tryz.prog (lookT T62) := lookT_cons good mixed okT61 (of_p1 eq_k_verify_checker_cases)
theorem eq_k_slices_IndexFunc_code_Case_code_Case (a b : AV) (h : Heap) : k_slices_IndexFunc_code_Case_code_Case a b h = bodyK Tryz.prog (lookT T62) ann 122 [a, b] h := by kernel_rfl
theorem okT63 : CallOk Tryz.prog (lookT T63) := lookT_cons good mixed okT62 (of_p2 eq_k_slices_IndexFunc_code_Case_code_Case)
theorem eq_k_slices_ContainsFunc_code_Case_code_Case (a b : AV) (h : Heap) : k_slices_ContainsFunc_code_Case_code_Case a b h = bodyK Tryz.prog (lookT T63) ann 100 [a, b] h := by kernel_rfl
theorem okT64 : CallOk Tryz.prog (lookT T64) := lookT_cons good mixed okT63 (of_p2 eq_k_slices_ContainsFunc_code_Case_code_Case)
theorem eq_k_verify_checker_slots (a : AV) (h : Heap) : k_verify_checker_slots a h = bodyK Tryz.prog (lookT T64) ann 79 [a] h := by kernel_rfl
theorem okT65 : CallOk Tryz.prog (lookT T65) := lookT_cons good mixed okT64 (of_p1 eq_k_verify_checker_slots)
theorem eq_k_verify_checker_shape (a b c : AV) (h : Heap) : k_verify_checker_shape a b c h = bodyK Tryz.prog (lookT T65) ann 104 [a, b, c] h := by kernel_rfl
theorem okT66 : CallOk Tryz.prog (lookT T66) := lookT_cons good mixed okT65 (of_p3 eq_k_verify_checker_shape)
theorem eq_k_verify_checker_fresh (a : AV) (h : Heap) : k_verify_checker_fresh a h = bodyK Tryz.prog (lookT T66) ann 105 [a] h := by kernel_rfl
theorem okT67 : CallOk Tryz.prog (lookT T67) := lookT_cons good mixed okT66 (of_p1 eq_k_verify_checker_fresh)
theorem eq_k_verify_checker_there (a : AV) (h : Heap) : k_verify_checker_there a h = bodyK Tryz.prog (lookT T67) ann 80 [a] h := by kernel_rfl
theorem okT68 : CallOk Tryz.prog (lookT T68) := lookT_cons good mixed okT67 (of_p1 eq_k_verify_checker_there)
theorem eq_k_verify_checker_args (a b c d e : AV) (h : Heap) : k_verify_checker_args a b c d e h = bodyK Tryz.prog (lookT T68) ann 124 [a, b, c, d, e] h := by kernel_rfl
theorem okT69 : CallOk Tryz.prog (lookT T69) := lookT_cons good mixed okT68 (of_p5 eq_k_verify_checker_args)
theorem eq_k_verify_checker_calls (a : AV) (h : Heap) : k_verify_checker_calls a h = bodyK Tryz.prog (lookT T69) ann 108 [a] h := by kernel_rfl
theorem okT70 : CallOk Tryz.prog (lookT T70) := lookT_cons good mixed okT69 (of_p1 eq_k_verify_checker_calls)
theorem eq_k_verify_checker_kinds (a : AV) (h : Heap) : k_verify_checker_kinds a h = bodyK Tryz.prog (lookT T70) ann 81 [a] h := by kernel_rfl
theorem okT71 : CallOk Tryz.prog (lookT T71) := lookT_cons good mixed okT70 (of_p1 eq_k_verify_checker_kinds)
theorem eq_k_verify_checker_targets (a : AV) (h : Heap) : k_verify_checker_targets a h = bodyK Tryz.prog (lookT T71) ann 109 [a] h := by kernel_rfl
theorem okT72 : CallOk Tryz.prog (lookT T72) := lookT_cons good mixed okT71 (of_p1 eq_k_verify_checker_targets)
theorem eq_k_verify_checker_on (a : AV) (h : Heap) : k_verify_checker_on a h = bodyK Tryz.prog (lookT T72) ann 82 [a] h := by kernel_rfl
theorem okT73 : CallOk Tryz.prog (lookT T73) := lookT_cons good mixed okT72 (of_p1 eq_k_verify_checker_on)
theorem eq_k_verify_checker_back (a : AV) (h : Heap) : k_verify_checker_back a h = bodyK Tryz.prog (lookT T73) ann 83 [a] h := by kernel_rfl
theorem okT74 : CallOk Tryz.prog (lookT T74) := lookT_cons good mixed okT73 (of_p1 eq_k_verify_checker_back)
theorem eq_k_slices_Clone_fresh_states_fresh_State (a : AV) (h : Heap) : k_slices_Clone_fresh_states_fresh_State a h = bodyK Tryz.prog (lookT T74) ann 43 [a] h := by kernel_rfl
theorem okT75 : CallOk Tryz.prog (lookT T75) := lookT_cons good mixed okT74 (of_p1 eq_k_slices_Clone_fresh_states_fresh_State)
theorem eq_k_fresh_sent (a b : AV) (h : Heap) : k_fresh_sent a b h = bodyK Tryz.prog (lookT T75) ann 45 [a, b] h := by kernel_rfl
theorem okT76 : CallOk Tryz.prog (lookT T76) := lookT_cons good mixed okT75 (of_p2 eq_k_fresh_sent)
theorem eq_k_fresh_states_lend (a b : AV) (h : Heap) : k_fresh_states_lend a b h = bodyK Tryz.prog (lookT T76) ann 44 [a, b] h := by kernel_rfl
theorem okT77 : CallOk Tryz.prog (lookT T77) := lookT_cons good mixed okT76 (of_p2 eq_k_fresh_states_lend)
theorem eq_k_code_Maker (a : AV) (h : Heap) : k_code_Maker a h = bodyK Tryz.prog (lookT T77) ann 58 [a] h := by kernel_rfl
theorem okT78 : CallOk Tryz.prog (lookT T78) := lookT_cons good mixed okT77 (of_p1 eq_k_code_Maker)
theorem eq_k_code_Point (a : AV) (h : Heap) : k_code_Point a h = bodyK Tryz.prog (lookT T78) ann 57 [a] h := by kernel_rfl
theorem okT79 : CallOk Tryz.prog (lookT T79) := lookT_cons good mixed okT78 (of_p1 eq_k_code_Point)
theorem eq_k_fresh_states_put (a b c : AV) (h : Heap) : k_fresh_states_put a b c h = bodyK Tryz.prog (lookT T79) ann 60 [a, b, c] h := by kernel_rfl
theorem okT80 : CallOk Tryz.prog (lookT T80) := lookT_cons good mixed okT79 (of_p3 eq_k_fresh_states_put)
theorem eq_k_fresh_states_get (a b : AV) (h : Heap) : k_fresh_states_get a b h = bodyK Tryz.prog (lookT T80) ann 50 [a, b] h := by kernel_rfl
theorem okT81 : CallOk Tryz.prog (lookT T81) := lookT_cons good mixed okT80 (of_p2 eq_k_fresh_states_get)
theorem eq_k_fresh_bit (a : AV) (h : Heap) : k_fresh_bit a h = bodyK Tryz.prog (lookT T81) ann 51 [a] h := by kernel_rfl
theorem okT82 : CallOk Tryz.prog (lookT T82) := lookT_cons good mixed okT81 (of_p1 eq_k_fresh_bit)
theorem eq_k_fresh_states_written (a b c : AV) (h : Heap) : k_fresh_states_written a b c h = bodyK Tryz.prog (lookT T82) ann 61 [a, b, c] h := by kernel_rfl
theorem okT83 : CallOk Tryz.prog (lookT T83) := lookT_cons good mixed okT82 (of_p3 eq_k_fresh_states_written)
theorem eq_k_fresh_lends (a : AV) (h : Heap) : k_fresh_lends a h = bodyK Tryz.prog (lookT T83) ann 62 [a] h := by kernel_rfl
theorem okT84 : CallOk Tryz.prog (lookT T84) := lookT_cons good mixed okT83 (of_p1 eq_k_fresh_lends)
theorem eq_k_fresh_receives (a b : AV) (h : Heap) : k_fresh_receives a b h = bodyK Tryz.prog (lookT T84) ann 64 [a, b] h := by kernel_rfl
theorem okT85 : CallOk Tryz.prog (lookT T85) := lookT_cons good mixed okT84 (of_p2 eq_k_fresh_receives)
theorem eq_k_fresh_behind (a b c : AV) (h : Heap) : k_fresh_behind a b c h = bodyK Tryz.prog (lookT T85) ann 46 [a, b, c] h := by kernel_rfl
theorem okT86 : CallOk Tryz.prog (lookT T86) := lookT_cons good mixed okT85 (of_p3 eq_k_fresh_behind)
theorem eq_k_fresh_meet (a b : AV) (h : Heap) : k_fresh_meet a b h = bodyK Tryz.prog (lookT T86) ann 48 [a, b] h := by kernel_rfl
theorem okT87 : CallOk Tryz.prog (lookT T87) := lookT_cons good mixed okT86 (of_p2 eq_k_fresh_meet)
theorem eq_k_slices_Equal_fresh_states_fresh_State (a b : AV) (h : Heap) : k_slices_Equal_fresh_states_fresh_State a b h = bodyK Tryz.prog (lookT T87) ann 49 [a, b] h := by kernel_rfl
theorem okT88 : CallOk Tryz.prog (lookT T88) := lookT_cons good mixed okT87 (of_p2 eq_k_slices_Equal_fresh_states_fresh_State)
theorem eq_k_fresh_Sets (a b : AV) (h : Heap) : k_fresh_Sets a b h = bodyK Tryz.prog (lookT T88) ann 30 [a, b] h := by kernel_rfl
theorem okT89 : CallOk Tryz.prog (lookT T89) := lookT_cons good mixed okT88 (of_p2 eq_k_fresh_Sets)
theorem eq_k_fresh_SpareIn (a b c : AV) (h : Heap) : k_fresh_SpareIn a b c h = bodyK Tryz.prog (lookT T89) ann 31 [a, b, c] h := by kernel_rfl
theorem okT90 : CallOk Tryz.prog (lookT T90) := lookT_cons good mixed okT89 (of_p3 eq_k_fresh_SpareIn)
theorem eq_k_verify_checker_bare (a : AV) (h : Heap) : k_verify_checker_bare a h = bodyK Tryz.prog (lookT T90) ann 84 [a] h := by kernel_rfl
theorem okT91 : CallOk Tryz.prog (lookT T91) := lookT_cons good mixed okT90 (of_p1 eq_k_verify_checker_bare)
theorem eq_k_verify_checker_rule (a b : AV) (h : Heap) : k_verify_checker_rule a b h = bodyK Tryz.prog (lookT T91) ann 56 [a, b] h := by kernel_rfl
theorem okT92 : CallOk Tryz.prog (lookT T92) := lookT_cons good mixed okT91 (of_p2 eq_k_verify_checker_rule)
theorem eq_k_verify_Without (a b : AV) (h : Heap) : k_verify_Without a b h = bodyK Tryz.prog (lookT T92) ann 41 [a, b] h := by kernel_rfl
theorem okT93 : CallOk Tryz.prog (lookT T93) := lookT_cons good mixed okT92 (of_p2 eq_k_verify_Without)
theorem eq_k_lower_Loose (a : AV) (h : Heap) : k_lower_Loose a h = bodyK Tryz.prog (lookT T93) ann 18 [a] h := by kernel_rfl
theorem okT94 : CallOk Tryz.prog (lookT T94) := lookT_cons good mixed okT93 (of_p1 eq_k_lower_Loose)
theorem eq_k_slices_IndexFunc_code_Func_code_Func (a b : AV) (h : Heap) : k_slices_IndexFunc_code_Func_code_Func a b h = bodyK Tryz.prog (lookT T94) ann 42 [a, b] h := by kernel_rfl
theorem okT95 : CallOk Tryz.prog (lookT T95) := lookT_cons good mixed okT94 (of_p2 eq_k_slices_IndexFunc_code_Func_code_Func)
theorem eq_k_slices_ContainsFunc_code_Func_code_Func (a b : AV) (h : Heap) : k_slices_ContainsFunc_code_Func_code_Func a b h = bodyK Tryz.prog (lookT T95) ann 19 [a, b] h := by kernel_rfl
theorem okT96 : CallOk Tryz.prog (lookT T96) := lookT_cons good mixed okT95 (of_p2 eq_k_slices_ContainsFunc_code_Func_code_Func)
theorem eq_k_emit_Spares (a : AV) (h : Heap) : k_emit_Spares a h = bodyK Tryz.prog (lookT T96) ann 12 [a] h := by kernel_rfl
theorem okT97 : CallOk Tryz.prog (lookT T97) := lookT_cons good mixed okT96 (of_p1 eq_k_emit_Spares)
theorem eq_k_emit_Maps (a : AV) (h : Heap) : k_emit_Maps a h = bodyK Tryz.prog (lookT T97) ann 13 [a] h := by kernel_rfl
theorem okT98 : CallOk Tryz.prog (lookT T98) := lookT_cons good mixed okT97 (of_p1 eq_k_emit_Maps)
theorem eq_k_emit_Emit (a : AV) (h : Heap) : k_emit_Emit a h = bodyK Tryz.prog (lookT T98) ann 9 [a] h := by kernel_rfl
theorem okT99 : CallOk Tryz.prog (lookT T99) := lookT_cons good mixed okT98 (of_p1 eq_k_emit_Emit)
theorem eq_k_verify_Check (a : AV) (h : Heap) : k_verify_Check a h = bodyK Tryz.prog (lookT T99) ann 21 [a] h := by kernel_rfl
theorem okT100 : CallOk Tryz.prog (lookT T100) := lookT_cons good mixed okT99 (of_p1 eq_k_verify_Check)
theorem eq_k_verify_Module (a : AV) (h : Heap) : k_verify_Module a h = bodyK Tryz.prog (lookT T100) ann 10 [a] h := by kernel_rfl
theorem okT101 : CallOk Tryz.prog (lookT T101) := lookT_cons good mixed okT100 (of_p1 eq_k_verify_Module)
theorem eq_k_slices_Equal_head_Shape_head_Shape (a b : AV) (h : Heap) : k_slices_Equal_head_Shape_head_Shape a b h = bodyK Tryz.prog (lookT T101) ann 26 [a, b] h := by kernel_rfl
theorem okT102 : CallOk Tryz.prog (lookT T102) := lookT_cons good mixed okT101 (of_p2 eq_k_slices_Equal_head_Shape_head_Shape)
theorem eq_k_slices_Equal_int64_int64 (a b : AV) (h : Heap) : k_slices_Equal_int64_int64 a b h = bodyK Tryz.prog (lookT T102) ann 27 [a, b] h := by kernel_rfl
theorem okT103 : CallOk Tryz.prog (lookT T103) := lookT_cons good mixed okT102 (of_p2 eq_k_slices_Equal_int64_int64)
theorem eq_k_slices_Equal_code_Case_code_Case (a b : AV) (h : Heap) : k_slices_Equal_code_Case_code_Case a b h = bodyK Tryz.prog (lookT T103) ann 28 [a, b] h := by kernel_rfl
theorem okT104 : CallOk Tryz.prog (lookT T104) := lookT_cons good mixed okT103 (of_p2 eq_k_slices_Equal_code_Case_code_Case)
theorem eq_k_slices_EqualFunc_code_Func_code_Func_code_Func_code_Func (a b c : AV) (h : Heap) : k_slices_EqualFunc_code_Func_code_Func_code_Func_code_Func a b c h = bodyK Tryz.prog (lookT T104) ann 29 [a, b, c] h := by kernel_rfl
theorem okT105 : CallOk Tryz.prog (lookT T105) := lookT_cons good mixed okT104 (of_p3 eq_k_slices_EqualFunc_code_Func_code_Func_code_Func_code_Func)
theorem eq_k_code_Same (a b : AV) (h : Heap) : k_code_Same a b h = bodyK Tryz.prog (lookT T105) ann 11 [a, b] h := by kernel_rfl
theorem okT106 : CallOk Tryz.prog (lookT T106) := lookT_cons good mixed okT105 (of_p2 eq_k_code_Same)
theorem eq_k_law24_awakeR (h : Heap) : k_law24_awakeR h = bodyK Tryz.prog (lookT T106) ann 4 [] h := by kernel_rfl
theorem run_k_law24_awake : isTrue (k_law24_awakeR hQ0) = true := by kernel_rfl
theorem okT107R : CallOk Tryz.prog (lookT ((4, p0 k_law24_awakeR) :: T106)) := lookT_cons good mixed okT106 (of_p0 eq_k_law24_awakeR)
theorem okT107 : CallOk Tryz.prog (lookT T107) := by
  obtain ⟨g, hg⟩ := isTrue_some run_k_law24_awake
  exact lookT_quiet0 okT106 okT107R (base0 noGlobal) hg rfl
theorem eq_k_ref17_Big (a : AV) (h : Heap) : k_ref17_Big a h = bodyK Tryz.prog (lookT T107) ann 5 [a] h := by kernel_rfl
theorem okT108 : CallOk Tryz.prog (lookT T108) := lookT_cons good mixed okT107 (of_p1 eq_k_ref17_Big)
theorem eq_k_law24_EmitCounts (a : AV) (h : Heap) : k_law24_EmitCounts a h = bodyK Tryz.prog (lookT T108) ann 3 [a] h := by kernel_rfl
theorem okT109 : CallOk Tryz.prog (lookT T109) := lookT_cons good mixed okT108 (of_p1 eq_k_law24_EmitCounts)
noncomputable def tab : Tab := T109
theorem okTab : CallOk Tryz.prog (lookT tab) := okT109
end Go.Proofs.YtokefidnmopedaaGreat.qu