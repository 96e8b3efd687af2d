/- PRINTED by Gen.lean: each printed function does what the program's does. -/
import Derived.Test.YtokefidnmopedaaQuFn
import Derived.Test.YtokefidnmopedaaBs
import Derived.Test.YtokefidnmopedaaAbV
import Derived.Test.YtokefidnmopedaaAbQ
import Derived.Test.YtokefidnmopedaaLay
namespace Go.Proofs.Ytokefidnmopedaa.qu
open Go Go.Ab Go.Ab.F
set_option linter.all false
theorem okT0 : CallOk Try.prog (lookT T0) := lookT_nil
theorem eq_k_live_Follows_1 (a b : AV) (h : Heap) : k_live_Follows_1 a b h = bodyK Try.prog (lookT T0) ann 39 [a, b] h := by kernel_rfl
theorem okT1 : CallOk Try.prog (lookT T1) := lookT_cons good mixed okT0 (of_p2 eq_k_live_Follows_1)
theorem eq_k_live_given_1 (a : AV) (h : Heap) : k_live_given_1 a h = bodyK Try.prog (lookT T1) ann 54 [a] h := by kernel_rfl
theorem okT2 : CallOk Try.prog (lookT T2) := lookT_cons good mixed okT1 (of_p1 eq_k_live_given_1)
theorem eq_k_live_cases (a b : AV) (h : Heap) : k_live_cases a b h = bodyK Try.prog (lookT T2) ann 34 [a, b] h := by kernel_rfl
theorem okT3 : CallOk Try.prog (lookT T3) := lookT_cons good mixed okT2 (of_p2 eq_k_live_cases)
theorem eq_k_live_bitsOf (a : AV) (h : Heap) : k_live_bitsOf a h = bodyK Try.prog (lookT T3) ann 44 [a] h := by kernel_rfl
theorem okT4 : CallOk Try.prog (lookT T4) := lookT_cons good mixed okT3 (of_p1 eq_k_live_bitsOf)
theorem eq_k_slices_IndexFunc_int_int (a b : AV) (h : Heap) : k_slices_IndexFunc_int_int a b h = bodyK Try.prog (lookT T4) ann 55 [a, b] h := by kernel_rfl
theorem okT5 : CallOk Try.prog (lookT T5) := lookT_cons good mixed okT4 (of_p2 eq_k_slices_IndexFunc_int_int)
theorem eq_k_slices_DeleteFunc_int_int (a b : AV) (h : Heap) : k_slices_DeleteFunc_int_int a b h = bodyK Try.prog (lookT T5) ann 38 [a, b] h := by kernel_rfl
theorem okT6 : CallOk Try.prog (lookT T6) := lookT_cons good mixed okT5 (of_p2 eq_k_slices_DeleteFunc_int_int)
theorem okT7 : CallOk Try.prog (lookT T7) := lookT_sort okT6 sort40Lays (by rfl)
theorem eq_k_slices_Compact_int_int (a : AV) (h : Heap) : k_slices_Compact_int_int a h = bodyK Try.prog (lookT T7) ann 41 [a] h := by kernel_rfl
theorem okT8 : CallOk Try.prog (lookT T8) := lookT_cons good mixed okT7 (of_p1 eq_k_slices_Compact_int_int)
theorem eq_k_live_Follows (a b c : AV) (h : Heap) : k_live_Follows a b c h = bodyK Try.prog (lookT T8) ann 18 [a, b, c] h := by kernel_rfl
theorem okT9 : CallOk Try.prog (lookT T9) := lookT_cons good mixed okT8 (of_p3 eq_k_live_Follows)
theorem eq_k_live_Sets_1 (a b c d : AV) (h : Heap) : k_live_Sets_1 a b c d h = bodyK Try.prog (lookT T9) ann 43 [a, b, c, d] h := by kernel_rfl
theorem okT10 : CallOk Try.prog (lookT T10) := lookT_cons good mixed okT9 (of_p4 eq_k_live_Sets_1)
theorem eq_k_law10_few (h : Heap) : k_law10_few h = bodyK Try.prog (lookT T10) ann 29 [] h := by kernel_rfl
theorem okT11 : CallOk Try.prog (lookT T11) := lookT_cons good mixed okT10 (of_p0 eq_k_law10_few)
theorem eq_k_live_fn (a b : AV) (h : Heap) : k_live_fn a b h = bodyK Try.prog (lookT T11) ann 31 [a, b] h := by kernel_rfl
theorem okT12 : CallOk Try.prog (lookT T12) := lookT_cons good mixed okT11 (of_p2 eq_k_live_fn)
theorem eq_k_live_run (a b : AV) (h : Heap) : k_live_run a b h = bodyK Try.prog (lookT T12) ann 30 [a, b] h := by kernel_rfl
theorem okT13 : CallOk Try.prog (lookT T13) := lookT_cons good mixed okT12 (of_p2 eq_k_live_run)
theorem eq_k_live_given (a : AV) (h : Heap) : k_live_given a h = bodyK Try.prog (lookT T13) ann 32 [a] h := by kernel_rfl
theorem okT14 : CallOk Try.prog (lookT T14) := lookT_cons good mixed okT13 (of_p1 eq_k_live_given)
theorem eq_k_live_readsOf (a : AV) (h : Heap) : k_live_readsOf a h = bodyK Try.prog (lookT T14) ann 33 [a] h := by kernel_rfl
theorem okT15 : CallOk Try.prog (lookT T15) := lookT_cons good mixed okT14 (of_p1 eq_k_live_readsOf)
theorem eq_k_live_Reads (a b : AV) (h : Heap) : k_live_Reads a b h = bodyK Try.prog (lookT T15) ann 14 [a, b] h := by kernel_rfl
theorem okT16 : CallOk Try.prog (lookT T16) := lookT_cons good mixed okT15 (of_p2 eq_k_live_Reads)
theorem eq_k_live_Writes (a : AV) (h : Heap) : k_live_Writes a h = bodyK Try.prog (lookT T16) ann 16 [a] h := by kernel_rfl
theorem okT17 : CallOk Try.prog (lookT T17) := lookT_cons good mixed okT16 (of_p1 eq_k_live_Writes)
theorem eq_k_live_Sets (a b : AV) (h : Heap) : k_live_Sets a b h = bodyK Try.prog (lookT T17) ann 21 [a, b] h := by kernel_rfl
theorem okT18 : CallOk Try.prog (lookT T18) := lookT_cons good mixed okT17 (of_p2 eq_k_live_Sets)
theorem eq_k_live_Maps (a b : AV) (h : Heap) : k_live_Maps a b h = bodyK Try.prog (lookT T18) ann 23 [a, b] h := by kernel_rfl
theorem okT19 : CallOk Try.prog (lookT T19) := lookT_cons good mixed okT18 (of_p2 eq_k_live_Maps)
theorem eq_k_law10_nums (a b : AV) (h : Heap) : k_law10_nums a b h = bodyK Try.prog (lookT T19) ann 20 [a, b] h := by kernel_rfl
theorem okT20 : CallOk Try.prog (lookT T20) := lookT_cons good mixed okT19 (of_p2 eq_k_law10_nums)
theorem eq_k_ref17_Ints (a b : AV) (h : Heap) : k_ref17_Ints a b h = bodyK Try.prog (lookT T20) ann 13 [a, b] h := by kernel_rfl
theorem okT21 : CallOk Try.prog (lookT T21) := lookT_cons good mixed okT20 (of_p2 eq_k_ref17_Ints)
theorem eq_k_law10_awakeR (h : Heap) : k_law10_awakeR h = bodyK Try.prog (lookT T21) ann 8 [] h := by kernel_rfl
theorem run_k_law10_awake : isTrue (k_law10_awakeR hQ0) = true := by kernel_rfl
theorem okT22R : CallOk Try.prog (lookT ((8, p0 k_law10_awakeR) :: T21)) := lookT_cons good mixed okT21 (of_p0 eq_k_law10_awakeR)
theorem okT22 : CallOk Try.prog (lookT T22) := by
  obtain ⟨g, hg⟩ := isTrue_some run_k_law10_awake
  exact lookT_quiet0 okT21 okT22R (base0 noGlobal) hg rfl
theorem eq_k_ref17_Big (a : AV) (h : Heap) : k_ref17_Big a h = bodyK Try.prog (lookT T22) ann 9 [a] h := by kernel_rfl
theorem okT23 : CallOk Try.prog (lookT T23) := lookT_cons good mixed okT22 (of_p1 eq_k_ref17_Big)
theorem eq_k_ref17_Instr (a : AV) (h : Heap) : k_ref17_Instr a h = bodyK Try.prog (lookT T23) ann 12 [a] h := by kernel_rfl
theorem okT24 : CallOk Try.prog (lookT T24) := lookT_cons good mixed okT23 (of_p1 eq_k_ref17_Instr)
theorem eq_k_ref17_Func (a : AV) (h : Heap) : k_ref17_Func a h = bodyK Try.prog (lookT T24) ann 11 [a] h := by kernel_rfl
theorem okT25 : CallOk Try.prog (lookT T25) := lookT_cons good mixed okT24 (of_p1 eq_k_ref17_Func)
theorem eq_k_ref17_Module (a : AV) (h : Heap) : k_ref17_Module a h = bodyK Try.prog (lookT T25) ann 10 [a] h := by kernel_rfl
theorem okT26 : CallOk Try.prog (lookT T26) := lookT_cons good mixed okT25 (of_p1 eq_k_ref17_Module)
theorem eq_k_ref9_fn (a b : AV) (h : Heap) : k_ref9_fn a b h = bodyK Try.prog (lookT T26) ann 36 [a, b] h := by kernel_rfl
theorem okT27 : CallOk Try.prog (lookT T27) := lookT_cons good mixed okT26 (of_p2 eq_k_ref9_fn)
theorem eq_k_ref9_run (a b : AV) (h : Heap) : k_ref9_run a b h = bodyK Try.prog (lookT T27) ann 35 [a, b] h := by kernel_rfl
theorem okT28 : CallOk Try.prog (lookT T28) := lookT_cons good mixed okT27 (of_p2 eq_k_ref9_run)
theorem eq_k_ref9_cases (a b : AV) (h : Heap) : k_ref9_cases a b h = bodyK Try.prog (lookT T28) ann 37 [a, b] h := by kernel_rfl
theorem okT29 : CallOk Try.prog (lookT T29) := lookT_cons good mixed okT28 (of_p2 eq_k_ref9_cases)
theorem eq_k_ref9_Reads (a b : AV) (h : Heap) : k_ref9_Reads a b h = bodyK Try.prog (lookT T29) ann 15 [a, b] h := by kernel_rfl
theorem okT30 : CallOk Try.prog (lookT T30) := lookT_cons good mixed okT29 (of_p2 eq_k_ref9_Reads)
theorem eq_k_ref9_Writes (a : AV) (h : Heap) : k_ref9_Writes a h = bodyK Try.prog (lookT T30) ann 17 [a] h := by kernel_rfl
theorem okT31 : CallOk Try.prog (lookT T31) := lookT_cons good mixed okT30 (of_p1 eq_k_ref9_Writes)
theorem eq_k_ref9_ways (a b c : AV) (h : Heap) : k_ref9_ways a b c h = bodyK Try.prog (lookT T31) ann 58 [a, b, c] h := by kernel_rfl
theorem okT32 : CallOk Try.prog (lookT T32) := lookT_cons good mixed okT31 (of_p3 eq_k_ref9_ways)
theorem eq_k_ref9_there (a b c : AV) (h : Heap) : k_ref9_there a b c h = bodyK Try.prog (lookT T32) ann 42 [a, b, c] h := by kernel_rfl
theorem okT33 : CallOk Try.prog (lookT T33) := lookT_cons good mixed okT32 (of_p3 eq_k_ref9_there)
theorem eq_k_ref9_Follows (a b c : AV) (h : Heap) : k_ref9_Follows a b c h = bodyK Try.prog (lookT T33) ann 19 [a, b, c] h := by kernel_rfl
theorem okT34 : CallOk Try.prog (lookT T34) := lookT_cons good mixed okT33 (of_p3 eq_k_ref9_Follows)
theorem eq_k_law10_LiveInstrs (a b c d : AV) (h : Heap) : k_law10_LiveInstrs a b c d h = bodyK Try.prog (lookT T34) ann 3 [a, b, c, d] h := by kernel_rfl
theorem okT35 : CallOk Try.prog (lookT T35) := lookT_cons good mixed okT34 (of_p4 eq_k_law10_LiveInstrs)
theorem eq_k_ref9_bit (a : AV) (h : Heap) : k_ref9_bit a h = bodyK Try.prog (lookT T35) ann 45 [a] h := by kernel_rfl
theorem okT36 : CallOk Try.prog (lookT T36) := lookT_cons good mixed okT35 (of_p1 eq_k_ref9_bit)
theorem eq_k_ref9_Sets (a b : AV) (h : Heap) : k_ref9_Sets a b h = bodyK Try.prog (lookT T36) ann 22 [a, b] h := by kernel_rfl
theorem okT37 : CallOk Try.prog (lookT T37) := lookT_cons good mixed okT36 (of_p2 eq_k_ref9_Sets)
theorem eq_k_ref9_Maps (a b : AV) (h : Heap) : k_ref9_Maps a b h = bodyK Try.prog (lookT T37) ann 24 [a, b] h := by kernel_rfl
theorem okT38 : CallOk Try.prog (lookT T38) := lookT_cons good mixed okT37 (of_p2 eq_k_ref9_Maps)
theorem eq_k_law10_LiveSets (a b : AV) (h : Heap) : k_law10_LiveSets a b h = bodyK Try.prog (lookT T38) ann 4 [a, b] h := by kernel_rfl
theorem okT39 : CallOk Try.prog (lookT T39) := lookT_cons good mixed okT38 (of_p2 eq_k_law10_LiveSets)
theorem eq_k_law10_LiveWalks (a b c d : AV) (h : Heap) : k_law10_LiveWalks a b c d h = bodyK Try.prog (lookT T39) ann 5 [a, b, c, d] h := by kernel_rfl
theorem okT40 : CallOk Try.prog (lookT T40) := lookT_cons good mixed okT39 (of_p4 eq_k_law10_LiveWalks)
theorem eq_k_law10_LiveFits (a b : AV) (h : Heap) : k_law10_LiveFits a b h = bodyK Try.prog (lookT T40) ann 6 [a, b] h := by kernel_rfl
theorem okT41 : CallOk Try.prog (lookT T41) := lookT_cons good mixed okT40 (of_p2 eq_k_law10_LiveFits)
theorem eq_k_law11_pair (a : AV) (h : Heap) : k_law11_pair a h = bodyK Try.prog (lookT T41) ann 46 [a] h := by kernel_rfl
theorem okT42 : CallOk Try.prog (lookT T42) := lookT_cons good mixed okT41 (of_p1 eq_k_law11_pair)
theorem eq_k_slices_Clone_fresh_states_fresh_State (a : AV) (h : Heap) : k_slices_Clone_fresh_states_fresh_State a h = bodyK Try.prog (lookT T42) ann 48 [a] h := by kernel_rfl
theorem okT43 : CallOk Try.prog (lookT T43) := lookT_cons good mixed okT42 (of_p1 eq_k_slices_Clone_fresh_states_fresh_State)
theorem eq_k_fresh_sent (a b : AV) (h : Heap) : k_fresh_sent a b h = bodyK Try.prog (lookT T43) ann 50 [a, b] h := by kernel_rfl
theorem okT44 : CallOk Try.prog (lookT T44) := lookT_cons good mixed okT43 (of_p2 eq_k_fresh_sent)
theorem eq_k_fresh_states_lend (a b : AV) (h : Heap) : k_fresh_states_lend a b h = bodyK Try.prog (lookT T44) ann 49 [a, b] h := by kernel_rfl
theorem okT45 : CallOk Try.prog (lookT T45) := lookT_cons good mixed okT44 (of_p2 eq_k_fresh_states_lend)
theorem eq_k_code_Maker (a : AV) (h : Heap) : k_code_Maker a h = bodyK Try.prog (lookT T45) ann 27 [a] h := by kernel_rfl
theorem okT46 : CallOk Try.prog (lookT T46) := lookT_cons good mixed okT45 (of_p1 eq_k_code_Maker)
theorem eq_k_code_Point (a : AV) (h : Heap) : k_code_Point a h = bodyK Try.prog (lookT T46) ann 28 [a] h := by kernel_rfl
theorem okT47 : CallOk Try.prog (lookT T47) := lookT_cons good mixed okT46 (of_p1 eq_k_code_Point)
theorem eq_k_fresh_states_put (a b c : AV) (h : Heap) : k_fresh_states_put a b c h = bodyK Try.prog (lookT T47) ann 60 [a, b, c] h := by kernel_rfl
theorem okT48 : CallOk Try.prog (lookT T48) := lookT_cons good mixed okT47 (of_p3 eq_k_fresh_states_put)
theorem eq_k_fresh_states_get (a b : AV) (h : Heap) : k_fresh_states_get a b h = bodyK Try.prog (lookT T48) ann 61 [a, b] h := by kernel_rfl
theorem okT49 : CallOk Try.prog (lookT T49) := lookT_cons good mixed okT48 (of_p2 eq_k_fresh_states_get)
theorem eq_k_fresh_bit (a : AV) (h : Heap) : k_fresh_bit a h = bodyK Try.prog (lookT T49) ann 63 [a] h := by kernel_rfl
theorem okT50 : CallOk Try.prog (lookT T50) := lookT_cons good mixed okT49 (of_p1 eq_k_fresh_bit)
theorem eq_k_fresh_states_written (a b c : AV) (h : Heap) : k_fresh_states_written a b c h = bodyK Try.prog (lookT T50) ann 62 [a, b, c] h := by kernel_rfl
theorem okT51 : CallOk Try.prog (lookT T51) := lookT_cons good mixed okT50 (of_p3 eq_k_fresh_states_written)
theorem eq_k_fresh_lends (a : AV) (h : Heap) : k_fresh_lends a h = bodyK Try.prog (lookT T51) ann 64 [a] h := by kernel_rfl
theorem okT52 : CallOk Try.prog (lookT T52) := lookT_cons good mixed okT51 (of_p1 eq_k_fresh_lends)
theorem eq_k_fresh_receives (a b : AV) (h : Heap) : k_fresh_receives a b h = bodyK Try.prog (lookT T52) ann 65 [a, b] h := by kernel_rfl
theorem okT53 : CallOk Try.prog (lookT T53) := lookT_cons good mixed okT52 (of_p2 eq_k_fresh_receives)
theorem eq_k_fresh_behind (a b c : AV) (h : Heap) : k_fresh_behind a b c h = bodyK Try.prog (lookT T53) ann 51 [a, b, c] h := by kernel_rfl
theorem okT54 : CallOk Try.prog (lookT T54) := lookT_cons good mixed okT53 (of_p3 eq_k_fresh_behind)
theorem eq_k_fresh_meet (a b : AV) (h : Heap) : k_fresh_meet a b h = bodyK Try.prog (lookT T54) ann 52 [a, b] h := by kernel_rfl
theorem okT55 : CallOk Try.prog (lookT T55) := lookT_cons good mixed okT54 (of_p2 eq_k_fresh_meet)
theorem eq_k_slices_Equal_fresh_states_fresh_State (a b : AV) (h : Heap) : k_slices_Equal_fresh_states_fresh_State a b h = bodyK Try.prog (lookT T55) ann 53 [a, b] h := by kernel_rfl
theorem okT56 : CallOk Try.prog (lookT T56) := lookT_cons good mixed okT55 (of_p2 eq_k_slices_Equal_fresh_states_fresh_State)
theorem eq_k_fresh_Sets (a b : AV) (h : Heap) : k_fresh_Sets a b h = bodyK Try.prog (lookT T56) ann 26 [a, b] h := by kernel_rfl
theorem okT57 : CallOk Try.prog (lookT T57) := lookT_cons good mixed okT56 (of_p2 eq_k_fresh_Sets)
theorem eq_k_fresh_SpareIn (a b c : AV) (h : Heap) : k_fresh_SpareIn a b c h = bodyK Try.prog (lookT T57) ann 59 [a, b, c] h := by kernel_rfl
theorem okT58 : CallOk Try.prog (lookT T58) := lookT_cons good mixed okT57 (of_p3 eq_k_fresh_SpareIn)
theorem eq_k_fresh_Spare (a b c : AV) (h : Heap) : k_fresh_Spare a b c h = bodyK Try.prog (lookT T58) ann 47 [a, b, c] h := by kernel_rfl
theorem okT59 : CallOk Try.prog (lookT T59) := lookT_cons good mixed okT58 (of_p3 eq_k_fresh_Spare)
theorem eq_k_law11_awakeR (h : Heap) : k_law11_awakeR h = bodyK Try.prog (lookT T59) ann 25 [] h := by kernel_rfl
theorem run_k_law11_awake : isTrue (k_law11_awakeR hQ0) = true := by kernel_rfl
theorem okT60R : CallOk Try.prog (lookT ((25, p0 k_law11_awakeR) :: T59)) := lookT_cons good mixed okT59 (of_p0 eq_k_law11_awakeR)
theorem okT60 : CallOk Try.prog (lookT T60) := by
  obtain ⟨g, hg⟩ := isTrue_some run_k_law11_awake
  exact lookT_quiet0 okT59 okT60R (base0 noGlobal) hg rfl
theorem eq_k_law11_FreshPoints (a b : AV) (h : Heap) : k_law11_FreshPoints a b h = bodyK Try.prog (lookT T60) ann 7 [a, b] h := by kernel_rfl
theorem okT61 : CallOk Try.prog (lookT T61) := lookT_cons good mixed okT60 (of_p2 eq_k_law11_FreshPoints)
noncomputable def tab : Tab := T61
theorem okTab : CallOk Try.prog (lookT tab) := okT61
end Go.Proofs.Ytokefidnmopedaa.qu