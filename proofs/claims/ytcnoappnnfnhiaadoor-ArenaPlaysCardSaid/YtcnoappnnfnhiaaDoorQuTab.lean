/- PRINTED by Gen.lean: each printed function does what the program's does. -/
import Derived.Test.YtcnoappnnfnhiaaDoorQuFn
import Derived.Test.YtcnoappnnfnhiaaDoorBs
import Derived.Test.YtcnoappnnfnhiaaDoorAbV
import Derived.Test.YtcnoappnnfnhiaaDoorAbQ
namespace Go.Proofs.YtcnoappnnfnhiaaDoor.qu
open Go Go.Ab Go.Ab.F
set_option linter.all false
theorem okT0 : CallOk Tryd.prog (lookT T0) := lookT_nil
theorem eq_k_arena_New (a : AV) (h : Heap) : k_arena_New a h = bodyK Tryd.prog (lookT T0) ann 5 [a] h := by kernel_rfl
theorem okT1 : CallOk Tryd.prog (lookT T1) := lookT_cons good mixed okT0 (of_p1 eq_k_arena_New)
theorem eq_k_arena_Arena_has (a b : AV) (h : Heap) : k_arena_Arena_has a b h = bodyK Tryd.prog (lookT T1) ann 26 [a, b] h := by kernel_rfl
theorem okT2 : CallOk Tryd.prog (lookT T2) := lookT_cons good mixed okT1 (of_p2 eq_k_arena_Arena_has)
theorem eq_k_geom_Words (a : AV) (h : Heap) : k_geom_Words a h = bodyK Tryd.prog (lookT T2) ann 27 [a] h := by kernel_rfl
theorem okT3 : CallOk Tryd.prog (lookT T3) := lookT_cons good mixed okT2 (of_p1 eq_k_geom_Words)
theorem eq_k_arena_Arena_Set (a b c : AV) (h : Heap) : k_arena_Arena_Set a b c h = bodyK Tryd.prog (lookT T3) ann 7 [a, b, c] h := by kernel_rfl
theorem okT4 : CallOk Tryd.prog (lookT T4) := lookT_cons good mixed okT3 (of_p3 eq_k_arena_Arena_Set)
theorem eq_k_arena_Arena_Class (a b : AV) (h : Heap) : k_arena_Arena_Class a b h = bodyK Tryd.prog (lookT T4) ann 21 [a, b] h := by kernel_rfl
theorem okT5 : CallOk Tryd.prog (lookT T5) := lookT_cons good mixed okT4 (of_p2 eq_k_arena_Arena_Class)
theorem eq_k_mbits_TrailingZeros64 (a : AV) (h : Heap) : k_mbits_TrailingZeros64 a h = bodyK Tryd.prog (lookT T5) ann 41 [a] h := by kernel_rfl
theorem okT6 : CallOk Tryd.prog (lookT T6) := lookT_cons good mixed okT5 (of_p1 eq_k_mbits_TrailingZeros64)
theorem eq_k_bits_First (a : AV) (h : Heap) : k_bits_First a h = bodyK Tryd.prog (lookT T6) ann 28 [a] h := by kernel_rfl
theorem okT7 : CallOk Tryd.prog (lookT T7) := lookT_cons good mixed okT6 (of_p1 eq_k_bits_First)
theorem eq_k_geom_Places (a : AV) (h : Heap) : k_geom_Places a h = bodyK Tryd.prog (lookT T7) ann 29 [a] h := by kernel_rfl
theorem okT8 : CallOk Tryd.prog (lookT T8) := lookT_cons good mixed okT7 (of_p1 eq_k_geom_Places)
theorem eq_k_geom_Addr (a b c : AV) (h : Heap) : k_geom_Addr a b c h = bodyK Tryd.prog (lookT T8) ann 30 [a, b, c] h := by kernel_rfl
theorem okT9 : CallOk Tryd.prog (lookT T9) := lookT_cons good mixed okT8 (of_p3 eq_k_geom_Addr)
theorem eq_k_arena_Arena_Take (a b : AV) (h : Heap) : k_arena_Arena_Take a b h = bodyK Tryd.prog (lookT T9) ann 8 [a, b] h := by kernel_rfl
theorem okT10 : CallOk Tryd.prog (lookT T10) := lookT_cons good mixed okT9 (of_p2 eq_k_arena_Arena_Take)
theorem eq_k_geom_Span (a : AV) (h : Heap) : k_geom_Span a h = bodyK Tryd.prog (lookT T10) ann 42 [a] h := by kernel_rfl
theorem okT11 : CallOk Tryd.prog (lookT T11) := lookT_cons good mixed okT10 (of_p1 eq_k_geom_Span)
theorem eq_k_geom_Place (a b : AV) (h : Heap) : k_geom_Place a b h = bodyK Tryd.prog (lookT T11) ann 43 [a, b] h := by kernel_rfl
theorem okT12 : CallOk Tryd.prog (lookT T12) := lookT_cons good mixed okT11 (of_p2 eq_k_geom_Place)
theorem eq_k_arena_Arena_find (a b : AV) (h : Heap) : k_arena_Arena_find a b h = bodyK Tryd.prog (lookT T12) ann 34 [a, b] h := by kernel_rfl
theorem okT13 : CallOk Tryd.prog (lookT T13) := lookT_cons good mixed okT12 (of_p2 eq_k_arena_Arena_find)
theorem eq_k_arena_Arena_word (a b c : AV) (h : Heap) : k_arena_Arena_word a b c h = bodyK Tryd.prog (lookT T13) ann 37 [a, b, c] h := by kernel_rfl
theorem okT14 : CallOk Tryd.prog (lookT T14) := lookT_cons good mixed okT13 (of_p3 eq_k_arena_Arena_word)
theorem eq_k_arena_Arena_Write (a b c d : AV) (h : Heap) : k_arena_Arena_Write a b c d h = bodyK Tryd.prog (lookT T14) ann 17 [a, b, c, d] h := by kernel_rfl
theorem okT15 : CallOk Tryd.prog (lookT T15) := lookT_cons good mixed okT14 (of_p4 eq_k_arena_Arena_Write)
theorem eq_k_arena_Arena_Read (a b c : AV) (h : Heap) : k_arena_Arena_Read a b c h = bodyK Tryd.prog (lookT T15) ann 18 [a, b, c] h := by kernel_rfl
theorem okT16 : CallOk Tryd.prog (lookT T16) := lookT_cons good mixed okT15 (of_p3 eq_k_arena_Arena_Read)
theorem eq_k_arena_Arena_Mark (a b : AV) (h : Heap) : k_arena_Arena_Mark a b h = bodyK Tryd.prog (lookT T16) ann 10 [a, b] h := by kernel_rfl
theorem okT17 : CallOk Tryd.prog (lookT T17) := lookT_cons good mixed okT16 (of_p2 eq_k_arena_Arena_Mark)
theorem eq_k_slices_Clone_int64_int64 (a : AV) (h : Heap) : k_slices_Clone_int64_int64 a h = bodyK Tryd.prog (lookT T17) ann 39 [a] h := by kernel_rfl
theorem okT18 : CallOk Tryd.prog (lookT T18) := lookT_cons good mixed okT17 (of_p1 eq_k_slices_Clone_int64_int64)
theorem eq_k_slices_Clone_arena_span_arena_span (a : AV) (h : Heap) : k_slices_Clone_arena_span_arena_span a h = bodyK Tryd.prog (lookT T18) ann 40 [a] h := by kernel_rfl
theorem okT19 : CallOk Tryd.prog (lookT T19) := lookT_cons good mixed okT18 (of_p1 eq_k_slices_Clone_arena_span_arena_span)
theorem eq_k_arena_Arena_Copy (a : AV) (h : Heap) : k_arena_Arena_Copy a h = bodyK Tryd.prog (lookT T19) ann 20 [a] h := by kernel_rfl
theorem okT20 : CallOk Tryd.prog (lookT T20) := lookT_cons good mixed okT19 (of_p1 eq_k_arena_Arena_Copy)
theorem eq_k_arena_Arena_Clear (a : AV) (h : Heap) : k_arena_Arena_Clear a h = bodyK Tryd.prog (lookT T20) ann 12 [a] h := by kernel_rfl
theorem okT21 : CallOk Tryd.prog (lookT T21) := lookT_cons good mixed okT20 (of_p1 eq_k_arena_Arena_Clear)
theorem eq_k_mbits_OnesCount64 (a : AV) (h : Heap) : k_mbits_OnesCount64 a h = bodyK Tryd.prog (lookT T21) ann 44 [a] h := by kernel_rfl
theorem okT22 : CallOk Tryd.prog (lookT T22) := lookT_cons good mixed okT21 (of_p1 eq_k_mbits_OnesCount64)
theorem eq_k_bits_Ones (a : AV) (h : Heap) : k_bits_Ones a h = bodyK Tryd.prog (lookT T22) ann 36 [a] h := by kernel_rfl
theorem okT23 : CallOk Tryd.prog (lookT T23) := lookT_cons good mixed okT22 (of_p1 eq_k_bits_Ones)
theorem eq_k_arena_Arena_Sweep (a b : AV) (h : Heap) : k_arena_Arena_Sweep a b h = bodyK Tryd.prog (lookT T23) ann 15 [a, b] h := by kernel_rfl
theorem okT24 : CallOk Tryd.prog (lookT T24) := lookT_cons good mixed okT23 (of_p2 eq_k_arena_Arena_Sweep)
theorem eq_k_arena_Arena_Spans (a : AV) (h : Heap) : k_arena_Arena_Spans a h = bodyK Tryd.prog (lookT T24) ann 22 [a] h := by kernel_rfl
theorem okT25 : CallOk Tryd.prog (lookT T25) := lookT_cons good mixed okT24 (of_p1 eq_k_arena_Arena_Spans)
theorem eq_k_arena_Arena_Is (a b : AV) (h : Heap) : k_arena_Arena_Is a b h = bodyK Tryd.prog (lookT T25) ann 23 [a, b] h := by kernel_rfl
theorem okT26 : CallOk Tryd.prog (lookT T26) := lookT_cons good mixed okT25 (of_p2 eq_k_arena_Arena_Is)
theorem eq_k_arena_Arena_Marked (a b : AV) (h : Heap) : k_arena_Arena_Marked a b h = bodyK Tryd.prog (lookT T26) ann 24 [a, b] h := by kernel_rfl
theorem okT27 : CallOk Tryd.prog (lookT T27) := lookT_cons good mixed okT26 (of_p2 eq_k_arena_Arena_Marked)
theorem eq_k_arena_Arena_Taken (a b : AV) (h : Heap) : k_arena_Arena_Taken a b h = bodyK Tryd.prog (lookT T27) ann 25 [a, b] h := by kernel_rfl
theorem okT28 : CallOk Tryd.prog (lookT T28) := lookT_cons good mixed okT27 (of_p2 eq_k_arena_Arena_Taken)
theorem eq_k_law4_awakeR (h : Heap) : k_law4_awakeR h = bodyK Tryd.prog (lookT T28) ann 4 [] h := by kernel_rfl
theorem run_k_law4_awake : isTrue (k_law4_awakeR hQ1) = true := by kernel_rfl
theorem okT29R : CallOk Tryd.prog (lookT ((4, p0 k_law4_awakeR) :: T28)) := lookT_cons good mixed okT28 (of_p0 eq_k_law4_awakeR)
theorem okT29 : CallOk Tryd.prog (lookT T29) := by
  obtain ⟨g, hg⟩ := isTrue_some run_k_law4_awake
  exact lookT_quiet0 okT28 okT29R (base1 oneGlobal) hg rfl
theorem eq_k_ref4_NewArena (a : AV) (h : Heap) : k_ref4_NewArena a h = bodyK Tryd.prog (lookT T29) ann 6 [a] h := by kernel_rfl
theorem okT30 : CallOk Tryd.prog (lookT T30) := lookT_cons good mixed okT29 (of_p1 eq_k_ref4_NewArena)
theorem eq_k_ref1_Words (a : AV) (h : Heap) : k_ref1_Words a h = bodyK Tryd.prog (lookT T30) ann 33 [a] h := by kernel_rfl
theorem okT31 : CallOk Tryd.prog (lookT T31) := lookT_cons good mixed okT30 (of_p1 eq_k_ref1_Words)
theorem eq_k_ref1_Places (a : AV) (h : Heap) : k_ref1_Places a h = bodyK Tryd.prog (lookT T31) ann 31 [a] h := by kernel_rfl
theorem okT32 : CallOk Tryd.prog (lookT T32) := lookT_cons good mixed okT31 (of_p1 eq_k_ref1_Places)
theorem eq_k_ref1_Addr (a b c : AV) (h : Heap) : k_ref1_Addr a b c h = bodyK Tryd.prog (lookT T32) ann 32 [a, b, c] h := by kernel_rfl
theorem okT33 : CallOk Tryd.prog (lookT T33) := lookT_cons good mixed okT32 (of_p3 eq_k_ref1_Addr)
theorem eq_k_ref4_Arena_Find (a b : AV) (h : Heap) : k_ref4_Arena_Find a b h = bodyK Tryd.prog (lookT T33) ann 16 [a, b] h := by kernel_rfl
theorem okT34 : CallOk Tryd.prog (lookT T34) := lookT_cons good mixed okT33 (of_p2 eq_k_ref4_Arena_Find)
theorem eq_k_ref4_Arena_Take (a b : AV) (h : Heap) : k_ref4_Arena_Take a b h = bodyK Tryd.prog (lookT T34) ann 9 [a, b] h := by kernel_rfl
theorem okT35 : CallOk Tryd.prog (lookT T35) := lookT_cons good mixed okT34 (of_p2 eq_k_ref4_Arena_Take)
theorem eq_k_ref4_Arena_Mark (a b : AV) (h : Heap) : k_ref4_Arena_Mark a b h = bodyK Tryd.prog (lookT T35) ann 11 [a, b] h := by kernel_rfl
theorem okT36 : CallOk Tryd.prog (lookT T36) := lookT_cons good mixed okT35 (of_p2 eq_k_ref4_Arena_Mark)
theorem eq_k_ref4_Arena_Clear (a : AV) (h : Heap) : k_ref4_Arena_Clear a h = bodyK Tryd.prog (lookT T36) ann 13 [a] h := by kernel_rfl
theorem okT37 : CallOk Tryd.prog (lookT T37) := lookT_cons good mixed okT36 (of_p1 eq_k_ref4_Arena_Clear)
theorem eq_k_ref1_Span (a : AV) (h : Heap) : k_ref1_Span a h = bodyK Tryd.prog (lookT T37) ann 35 [a] h := by kernel_rfl
theorem okT38 : CallOk Tryd.prog (lookT T38) := lookT_cons good mixed okT37 (of_p1 eq_k_ref1_Span)
theorem eq_k_ref4_Arena_Sweep (a b : AV) (h : Heap) : k_ref4_Arena_Sweep a b h = bodyK Tryd.prog (lookT T38) ann 14 [a, b] h := by kernel_rfl
theorem okT39 : CallOk Tryd.prog (lookT T39) := lookT_cons good mixed okT38 (of_p2 eq_k_ref4_Arena_Sweep)
theorem eq_k_ref1_Place (a b : AV) (h : Heap) : k_ref1_Place a b h = bodyK Tryd.prog (lookT T39) ann 45 [a, b] h := by kernel_rfl
theorem okT40 : CallOk Tryd.prog (lookT T40) := lookT_cons good mixed okT39 (of_p2 eq_k_ref1_Place)
theorem eq_k_ref4_Arena_Maps (a b : AV) (h : Heap) : k_ref4_Arena_Maps a b h = bodyK Tryd.prog (lookT T40) ann 38 [a, b] h := by kernel_rfl
theorem okT41 : CallOk Tryd.prog (lookT T41) := lookT_cons good mixed okT40 (of_p2 eq_k_ref4_Arena_Maps)
theorem eq_k_law4_alike (a b : AV) (h : Heap) : k_law4_alike a b h = bodyK Tryd.prog (lookT T41) ann 19 [a, b] h := by kernel_rfl
theorem okT42 : CallOk Tryd.prog (lookT T42) := lookT_cons good mixed okT41 (of_p2 eq_k_law4_alike)
theorem eq_k_law4_ArenaPlays (a b : AV) (h : Heap) : k_law4_ArenaPlays a b h = bodyK Tryd.prog (lookT T42) ann 3 [a, b] h := by kernel_rfl
theorem okT43 : CallOk Tryd.prog (lookT T43) := lookT_cons good mixed okT42 (of_p2 eq_k_law4_ArenaPlays)
noncomputable def tab : Tab := T43
theorem okTab : CallOk Tryd.prog (lookT tab) := okT43
end Go.Proofs.YtcnoappnnfnhiaaDoor.qu