/- PRINTED by Gen.lean: each printed function does what the program's does. -/
import Derived.Test.YtfenhliknhmihaaDoorQuFn
import Derived.Test.YtfenhliknhmihaaDoorBs
import Derived.Test.YtfenhliknhmihaaDoorAbQ
namespace Go.Proofs.YtfenhliknhmihaaDoor.qu
open Go Go.Ab Go.Ab.F
set_option linter.all false
theorem okT0 : CallOk Tryd.prog (lookT T0) := lookT_nil
theorem eq_k_arena_New (a : AV) (h : Heap) : k_arena_New a h = bodyK Tryd.prog (lookT T0) ann 13 [a] h := by kernel_rfl
theorem okT1 : CallOk Tryd.prog (lookT T1) := lookT_cons good mixed okT0 (of_p1 eq_k_arena_New)
theorem eq_k_arena_Arena_has (a b : AV) (h : Heap) : k_arena_Arena_has a b h = bodyK Tryd.prog (lookT T1) ann 50 [a, b] h := by kernel_rfl
theorem okT2 : CallOk Tryd.prog (lookT T2) := lookT_cons good mixed okT1 (of_p2 eq_k_arena_Arena_has)
theorem eq_k_geom_Words (a : AV) (h : Heap) : k_geom_Words a h = bodyK Tryd.prog (lookT T2) ann 49 [a] h := by kernel_rfl
theorem okT3 : CallOk Tryd.prog (lookT T3) := lookT_cons good mixed okT2 (of_p1 eq_k_geom_Words)
theorem eq_k_arena_Arena_Set (a b c : AV) (h : Heap) : k_arena_Arena_Set a b c h = bodyK Tryd.prog (lookT T3) ann 15 [a, b, c] h := by kernel_rfl
theorem okT4 : CallOk Tryd.prog (lookT T4) := lookT_cons good mixed okT3 (of_p3 eq_k_arena_Arena_Set)
theorem eq_k_arena_Arena_Class (a b : AV) (h : Heap) : k_arena_Arena_Class a b h = bodyK Tryd.prog (lookT T4) ann 18 [a, b] h := by kernel_rfl
theorem okT5 : CallOk Tryd.prog (lookT T5) := lookT_cons good mixed okT4 (of_p2 eq_k_arena_Arena_Class)
theorem eq_k_mbits_TrailingZeros64 (a : AV) (h : Heap) : k_mbits_TrailingZeros64 a h = bodyK Tryd.prog (lookT T5) ann 67 [a] h := by kernel_rfl
theorem okT6 : CallOk Tryd.prog (lookT T6) := lookT_cons good mixed okT5 (of_p1 eq_k_mbits_TrailingZeros64)
theorem eq_k_bits_First (a : AV) (h : Heap) : k_bits_First a h = bodyK Tryd.prog (lookT T6) ann 46 [a] h := by kernel_rfl
theorem okT7 : CallOk Tryd.prog (lookT T7) := lookT_cons good mixed okT6 (of_p1 eq_k_bits_First)
theorem eq_k_geom_Places (a : AV) (h : Heap) : k_geom_Places a h = bodyK Tryd.prog (lookT T7) ann 47 [a] h := by kernel_rfl
theorem okT8 : CallOk Tryd.prog (lookT T8) := lookT_cons good mixed okT7 (of_p1 eq_k_geom_Places)
theorem eq_k_geom_Addr (a b c : AV) (h : Heap) : k_geom_Addr a b c h = bodyK Tryd.prog (lookT T8) ann 48 [a, b, c] h := by kernel_rfl
theorem okT9 : CallOk Tryd.prog (lookT T9) := lookT_cons good mixed okT8 (of_p3 eq_k_geom_Addr)
theorem eq_k_arena_Arena_Take (a b : AV) (h : Heap) : k_arena_Arena_Take a b h = bodyK Tryd.prog (lookT T9) ann 14 [a, b] h := by kernel_rfl
theorem okT10 : CallOk Tryd.prog (lookT T10) := lookT_cons good mixed okT9 (of_p2 eq_k_arena_Arena_Take)
theorem eq_k_geom_Span (a : AV) (h : Heap) : k_geom_Span a h = bodyK Tryd.prog (lookT T10) ann 68 [a] h := by kernel_rfl
theorem okT11 : CallOk Tryd.prog (lookT T11) := lookT_cons good mixed okT10 (of_p1 eq_k_geom_Span)
theorem eq_k_geom_Place (a b : AV) (h : Heap) : k_geom_Place a b h = bodyK Tryd.prog (lookT T11) ann 69 [a, b] h := by kernel_rfl
theorem okT12 : CallOk Tryd.prog (lookT T12) := lookT_cons good mixed okT11 (of_p2 eq_k_geom_Place)
theorem eq_k_arena_Arena_find (a b : AV) (h : Heap) : k_arena_Arena_find a b h = bodyK Tryd.prog (lookT T12) ann 52 [a, b] h := by kernel_rfl
theorem okT13 : CallOk Tryd.prog (lookT T13) := lookT_cons good mixed okT12 (of_p2 eq_k_arena_Arena_find)
theorem eq_k_arena_Arena_word (a b c : AV) (h : Heap) : k_arena_Arena_word a b c h = bodyK Tryd.prog (lookT T13) ann 51 [a, b, c] h := by kernel_rfl
theorem okT14 : CallOk Tryd.prog (lookT T14) := lookT_cons good mixed okT13 (of_p3 eq_k_arena_Arena_word)
theorem eq_k_arena_Arena_Write (a b c d : AV) (h : Heap) : k_arena_Arena_Write a b c d h = bodyK Tryd.prog (lookT T14) ann 17 [a, b, c, d] h := by kernel_rfl
theorem okT15 : CallOk Tryd.prog (lookT T15) := lookT_cons good mixed okT14 (of_p4 eq_k_arena_Arena_Write)
theorem eq_k_arena_Arena_Read (a b c : AV) (h : Heap) : k_arena_Arena_Read a b c h = bodyK Tryd.prog (lookT T15) ann 16 [a, b, c] h := by kernel_rfl
theorem okT16 : CallOk Tryd.prog (lookT T16) := lookT_cons good mixed okT15 (of_p3 eq_k_arena_Arena_Read)
theorem eq_k_arena_Arena_Mark (a b : AV) (h : Heap) : k_arena_Arena_Mark a b h = bodyK Tryd.prog (lookT T16) ann 19 [a, b] h := by kernel_rfl
theorem okT17 : CallOk Tryd.prog (lookT T17) := lookT_cons good mixed okT16 (of_p2 eq_k_arena_Arena_Mark)
theorem eq_k_slices_Clone_int64_int64 (a : AV) (h : Heap) : k_slices_Clone_int64_int64 a h = bodyK Tryd.prog (lookT T17) ann 57 [a] h := by kernel_rfl
theorem okT18 : CallOk Tryd.prog (lookT T18) := lookT_cons good mixed okT17 (of_p1 eq_k_slices_Clone_int64_int64)
theorem eq_k_slices_Clone_arena_span_arena_span (a : AV) (h : Heap) : k_slices_Clone_arena_span_arena_span a h = bodyK Tryd.prog (lookT T18) ann 58 [a] h := by kernel_rfl
theorem okT19 : CallOk Tryd.prog (lookT T19) := lookT_cons good mixed okT18 (of_p1 eq_k_slices_Clone_arena_span_arena_span)
theorem eq_k_arena_Arena_Copy (a : AV) (h : Heap) : k_arena_Arena_Copy a h = bodyK Tryd.prog (lookT T19) ann 32 [a] h := by kernel_rfl
theorem okT20 : CallOk Tryd.prog (lookT T20) := lookT_cons good mixed okT19 (of_p1 eq_k_arena_Arena_Copy)
theorem eq_k_arena_Arena_Clear (a : AV) (h : Heap) : k_arena_Arena_Clear a h = bodyK Tryd.prog (lookT T20) ann 24 [a] h := by kernel_rfl
theorem okT21 : CallOk Tryd.prog (lookT T21) := lookT_cons good mixed okT20 (of_p1 eq_k_arena_Arena_Clear)
theorem eq_k_mbits_OnesCount64 (a : AV) (h : Heap) : k_mbits_OnesCount64 a h = bodyK Tryd.prog (lookT T21) ann 70 [a] h := by kernel_rfl
theorem okT22 : CallOk Tryd.prog (lookT T22) := lookT_cons good mixed okT21 (of_p1 eq_k_mbits_OnesCount64)
theorem eq_k_bits_Ones (a : AV) (h : Heap) : k_bits_Ones a h = bodyK Tryd.prog (lookT T22) ann 53 [a] h := by kernel_rfl
theorem okT23 : CallOk Tryd.prog (lookT T23) := lookT_cons good mixed okT22 (of_p1 eq_k_bits_Ones)
theorem eq_k_arena_Arena_Sweep (a b : AV) (h : Heap) : k_arena_Arena_Sweep a b h = bodyK Tryd.prog (lookT T23) ann 20 [a, b] h := by kernel_rfl
theorem okT24 : CallOk Tryd.prog (lookT T24) := lookT_cons good mixed okT23 (of_p2 eq_k_arena_Arena_Sweep)
theorem eq_k_arena_Arena_Spans (a : AV) (h : Heap) : k_arena_Arena_Spans a h = bodyK Tryd.prog (lookT T24) ann 45 [a] h := by kernel_rfl
theorem okT25 : CallOk Tryd.prog (lookT T25) := lookT_cons good mixed okT24 (of_p1 eq_k_arena_Arena_Spans)
theorem eq_k_arena_Arena_Is (a b : AV) (h : Heap) : k_arena_Arena_Is a b h = bodyK Tryd.prog (lookT T25) ann 30 [a, b] h := by kernel_rfl
theorem okT26 : CallOk Tryd.prog (lookT T26) := lookT_cons good mixed okT25 (of_p2 eq_k_arena_Arena_Is)
theorem eq_k_arena_Arena_Marked (a b : AV) (h : Heap) : k_arena_Arena_Marked a b h = bodyK Tryd.prog (lookT T26) ann 34 [a, b] h := by kernel_rfl
theorem okT27 : CallOk Tryd.prog (lookT T27) := lookT_cons good mixed okT26 (of_p2 eq_k_arena_Arena_Marked)
theorem eq_k_arena_Arena_Taken (a b : AV) (h : Heap) : k_arena_Arena_Taken a b h = bodyK Tryd.prog (lookT T27) ann 33 [a, b] h := by kernel_rfl
theorem okT28 : CallOk Tryd.prog (lookT T28) := lookT_cons good mixed okT27 (of_p2 eq_k_arena_Arena_Taken)
theorem eq_k_law4_awakeR (h : Heap) : k_law4_awakeR h = bodyK Tryd.prog (lookT T28) ann 12 [] h := by kernel_rfl
theorem run_k_law4_awake : isTrue (k_law4_awakeR hQ1) = true := by kernel_rfl
theorem okT29R : CallOk Tryd.prog (lookT ((12, p0 k_law4_awakeR) :: T28)) := lookT_cons good mixed okT28 (of_p0 eq_k_law4_awakeR)
theorem okT29 : CallOk Tryd.prog (lookT T29) := by
  obtain ⟨g, hg⟩ := isTrue_some run_k_law4_awake
  exact lookT_quiet0 okT28 okT29R (base1 oneGlobal) hg rfl
theorem eq_k_ref4_NewArena (a : AV) (h : Heap) : k_ref4_NewArena a h = bodyK Tryd.prog (lookT T29) ann 21 [a] h := by kernel_rfl
theorem okT30 : CallOk Tryd.prog (lookT T30) := lookT_cons good mixed okT29 (of_p1 eq_k_ref4_NewArena)
theorem eq_k_ref1_Words (a : AV) (h : Heap) : k_ref1_Words a h = bodyK Tryd.prog (lookT T30) ann 29 [a] h := by kernel_rfl
theorem okT31 : CallOk Tryd.prog (lookT T31) := lookT_cons good mixed okT30 (of_p1 eq_k_ref1_Words)
theorem eq_k_ref1_Places (a : AV) (h : Heap) : k_ref1_Places a h = bodyK Tryd.prog (lookT T31) ann 42 [a] h := by kernel_rfl
theorem okT32 : CallOk Tryd.prog (lookT T32) := lookT_cons good mixed okT31 (of_p1 eq_k_ref1_Places)
theorem eq_k_ref1_Addr (a b c : AV) (h : Heap) : k_ref1_Addr a b c h = bodyK Tryd.prog (lookT T32) ann 54 [a, b, c] h := by kernel_rfl
theorem okT33 : CallOk Tryd.prog (lookT T33) := lookT_cons good mixed okT32 (of_p3 eq_k_ref1_Addr)
theorem eq_k_ref4_Arena_Find (a b : AV) (h : Heap) : k_ref4_Arena_Find a b h = bodyK Tryd.prog (lookT T33) ann 27 [a, b] h := by kernel_rfl
theorem okT34 : CallOk Tryd.prog (lookT T34) := lookT_cons good mixed okT33 (of_p2 eq_k_ref4_Arena_Find)
theorem eq_k_ref4_Arena_Take (a b : AV) (h : Heap) : k_ref4_Arena_Take a b h = bodyK Tryd.prog (lookT T34) ann 22 [a, b] h := by kernel_rfl
theorem okT35 : CallOk Tryd.prog (lookT T35) := lookT_cons good mixed okT34 (of_p2 eq_k_ref4_Arena_Take)
theorem eq_k_ref4_Arena_Mark (a b : AV) (h : Heap) : k_ref4_Arena_Mark a b h = bodyK Tryd.prog (lookT T35) ann 23 [a, b] h := by kernel_rfl
theorem okT36 : CallOk Tryd.prog (lookT T36) := lookT_cons good mixed okT35 (of_p2 eq_k_ref4_Arena_Mark)
theorem eq_k_ref4_Arena_Clear (a : AV) (h : Heap) : k_ref4_Arena_Clear a h = bodyK Tryd.prog (lookT T36) ann 25 [a] h := by kernel_rfl
theorem okT37 : CallOk Tryd.prog (lookT T37) := lookT_cons good mixed okT36 (of_p1 eq_k_ref4_Arena_Clear)
theorem eq_k_ref1_Span (a : AV) (h : Heap) : k_ref1_Span a h = bodyK Tryd.prog (lookT T37) ann 55 [a] h := by kernel_rfl
theorem okT38 : CallOk Tryd.prog (lookT T38) := lookT_cons good mixed okT37 (of_p1 eq_k_ref1_Span)
theorem eq_k_ref4_Arena_Sweep (a b : AV) (h : Heap) : k_ref4_Arena_Sweep a b h = bodyK Tryd.prog (lookT T38) ann 26 [a, b] h := by kernel_rfl
theorem okT39 : CallOk Tryd.prog (lookT T39) := lookT_cons good mixed okT38 (of_p2 eq_k_ref4_Arena_Sweep)
theorem eq_k_ref1_Place (a b : AV) (h : Heap) : k_ref1_Place a b h = bodyK Tryd.prog (lookT T39) ann 71 [a, b] h := by kernel_rfl
theorem okT40 : CallOk Tryd.prog (lookT T40) := lookT_cons good mixed okT39 (of_p2 eq_k_ref1_Place)
theorem eq_k_ref4_Arena_Maps (a b : AV) (h : Heap) : k_ref4_Arena_Maps a b h = bodyK Tryd.prog (lookT T40) ann 56 [a, b] h := by kernel_rfl
theorem okT41 : CallOk Tryd.prog (lookT T41) := lookT_cons good mixed okT40 (of_p2 eq_k_ref4_Arena_Maps)
theorem eq_k_law4_alike (a b : AV) (h : Heap) : k_law4_alike a b h = bodyK Tryd.prog (lookT T41) ann 28 [a, b] h := by kernel_rfl
theorem okT42 : CallOk Tryd.prog (lookT T42) := lookT_cons good mixed okT41 (of_p2 eq_k_law4_alike)
theorem eq_k_law4_ArenaPlays (a b : AV) (h : Heap) : k_law4_ArenaPlays a b h = bodyK Tryd.prog (lookT T42) ann 4 [a, b] h := by kernel_rfl
theorem okT43 : CallOk Tryd.prog (lookT T43) := lookT_cons good mixed okT42 (of_p2 eq_k_law4_ArenaPlays)
theorem eq_k_law4_ArenaApart (a b : AV) (h : Heap) : k_law4_ArenaApart a b h = bodyK Tryd.prog (lookT T43) ann 5 [a, b] h := by kernel_rfl
theorem okT44 : CallOk Tryd.prog (lookT T44) := lookT_cons good mixed okT43 (of_p2 eq_k_law4_ArenaApart)
theorem eq_k_law4_ArenaSweeps (a b c d : AV) (h : Heap) : k_law4_ArenaSweeps a b c d h = bodyK Tryd.prog (lookT T44) ann 6 [a, b, c, d] h := by kernel_rfl
theorem okT45 : CallOk Tryd.prog (lookT T45) := lookT_cons good mixed okT44 (of_p4 eq_k_law4_ArenaSweeps)
theorem eq_k_law4_played (a b : AV) (h : Heap) : k_law4_played a b h = bodyK Tryd.prog (lookT T45) ann 31 [a, b] h := by kernel_rfl
theorem okT46 : CallOk Tryd.prog (lookT T46) := lookT_cons good mixed okT45 (of_p2 eq_k_law4_played)
theorem eq_k_law4_ArenaCopies (a b : AV) (h : Heap) : k_law4_ArenaCopies a b h = bodyK Tryd.prog (lookT T46) ann 7 [a, b] h := by kernel_rfl
theorem okT47 : CallOk Tryd.prog (lookT T47) := lookT_cons good mixed okT46 (of_p2 eq_k_law4_ArenaCopies)
theorem eq_k_alloc_New (a : AV) (h : Heap) : k_alloc_New a h = bodyK Tryd.prog (lookT T47) ann 60 [a] h := by kernel_rfl
theorem okT48 : CallOk Tryd.prog (lookT T48) := lookT_cons good mixed okT47 (of_p1 eq_k_alloc_New)
theorem eq_k_ref4_NewAlloc (a : AV) (h : Heap) : k_ref4_NewAlloc a h = bodyK Tryd.prog (lookT T48) ann 61 [a] h := by kernel_rfl
theorem okT49 : CallOk Tryd.prog (lookT T49) := lookT_cons good mixed okT48 (of_p1 eq_k_ref4_NewAlloc)
theorem eq_k_law5_made (a : AV) (h : Heap) : k_law5_made a h = bodyK Tryd.prog (lookT T49) ann 36 [a] h := by kernel_rfl
theorem okT50 : CallOk Tryd.prog (lookT T50) := lookT_cons good mixed okT49 (of_p1 eq_k_law5_made)
theorem eq_k_geom_Class (a : AV) (h : Heap) : k_geom_Class a h = bodyK Tryd.prog (lookT T50) ann 62 [a] h := by kernel_rfl
theorem okT51 : CallOk Tryd.prog (lookT T51) := lookT_cons good mixed okT50 (of_p1 eq_k_geom_Class)
theorem eq_k_alloc_Alloc_sweep (a b : AV) (h : Heap) : k_alloc_Alloc_sweep a b h = bodyK Tryd.prog (lookT T51) ann 63 [a, b] h := by kernel_rfl
theorem okT52 : CallOk Tryd.prog (lookT T52) := lookT_cons good mixed okT51 (of_p2 eq_k_alloc_Alloc_sweep)
theorem eq_k_bits_within (a b : AV) (h : Heap) : k_bits_within a b h = bodyK Tryd.prog (lookT T52) ann 73 [a, b] h := by kernel_rfl
theorem okT53 : CallOk Tryd.prog (lookT T53) := lookT_cons good mixed okT52 (of_p2 eq_k_bits_within)
theorem eq_k_bits_mask (a : AV) (h : Heap) : k_bits_mask a h = bodyK Tryd.prog (lookT T53) ann 74 [a] h := by kernel_rfl
theorem okT54 : CallOk Tryd.prog (lookT T54) := lookT_cons good mixed okT53 (of_p1 eq_k_bits_mask)
theorem eq_k_bits_With (a b c d : AV) (h : Heap) : k_bits_With a b c d h = bodyK Tryd.prog (lookT T54) ann 72 [a, b, c, d] h := by kernel_rfl
theorem okT55 : CallOk Tryd.prog (lookT T55) := lookT_cons good mixed okT54 (of_p4 eq_k_bits_With)
theorem eq_k_geom_Full (a : AV) (h : Heap) : k_geom_Full a h = bodyK Tryd.prog (lookT T55) ann 64 [a] h := by kernel_rfl
theorem okT56 : CallOk Tryd.prog (lookT T56) := lookT_cons good mixed okT55 (of_p1 eq_k_geom_Full)
theorem eq_k_alloc_Alloc_begin (a b c : AV) (h : Heap) : k_alloc_Alloc_begin a b c h = bodyK Tryd.prog (lookT T56) ann 65 [a, b, c] h := by kernel_rfl
theorem okT57 : CallOk Tryd.prog (lookT T57) := lookT_cons good mixed okT56 (of_p3 eq_k_alloc_Alloc_begin)
theorem eq_k_alloc_Alloc_Take (a b : AV) (h : Heap) : k_alloc_Alloc_Take a b h = bodyK Tryd.prog (lookT T57) ann 37 [a, b] h := by kernel_rfl
theorem okT58 : CallOk Tryd.prog (lookT T58) := lookT_cons good mixed okT57 (of_p2 eq_k_alloc_Alloc_Take)
theorem eq_k_alloc_Alloc_Used (a : AV) (h : Heap) : k_alloc_Alloc_Used a h = bodyK Tryd.prog (lookT T58) ann 39 [a] h := by kernel_rfl
theorem okT59 : CallOk Tryd.prog (lookT T59) := lookT_cons good mixed okT58 (of_p1 eq_k_alloc_Alloc_Used)
theorem eq_k_alloc_Alloc_Stale (a : AV) (h : Heap) : k_alloc_Alloc_Stale a h = bodyK Tryd.prog (lookT T59) ann 43 [a] h := by kernel_rfl
theorem okT60 : CallOk Tryd.prog (lookT T60) := lookT_cons good mixed okT59 (of_p1 eq_k_alloc_Alloc_Stale)
theorem eq_k_alloc_Alloc_Left (a : AV) (h : Heap) : k_alloc_Alloc_Left a h = bodyK Tryd.prog (lookT T60) ann 44 [a] h := by kernel_rfl
theorem okT61 : CallOk Tryd.prog (lookT T61) := lookT_cons good mixed okT60 (of_p1 eq_k_alloc_Alloc_Left)
theorem eq_k_alloc_Alloc_Unswept (a b : AV) (h : Heap) : k_alloc_Alloc_Unswept a b h = bodyK Tryd.prog (lookT T61) ann 59 [a, b] h := by kernel_rfl
theorem okT62 : CallOk Tryd.prog (lookT T62) := lookT_cons good mixed okT61 (of_p2 eq_k_alloc_Alloc_Unswept)
theorem eq_k_alloc_Alloc_SweepOne (a : AV) (h : Heap) : k_alloc_Alloc_SweepOne a h = bodyK Tryd.prog (lookT T62) ann 38 [a] h := by kernel_rfl
theorem okT63 : CallOk Tryd.prog (lookT T63) := lookT_cons good mixed okT62 (of_p1 eq_k_alloc_Alloc_SweepOne)
theorem eq_k_law5_awakeR (h : Heap) : k_law5_awakeR h = bodyK Tryd.prog (lookT T63) ann 35 [] h := by kernel_rfl
theorem run_k_law5_awake : isTrue (k_law5_awakeR hQ1) = true := by kernel_rfl
theorem okT64R : CallOk Tryd.prog (lookT ((35, p0 k_law5_awakeR) :: T63)) := lookT_cons good mixed okT63 (of_p0 eq_k_law5_awakeR)
theorem okT64 : CallOk Tryd.prog (lookT T64) := by
  obtain ⟨g, hg⟩ := isTrue_some run_k_law5_awake
  exact lookT_quiet0 okT63 okT64R (base1 oneGlobal) hg rfl
theorem eq_k_ref1_Class (a : AV) (h : Heap) : k_ref1_Class a h = bodyK Tryd.prog (lookT T64) ann 40 [a] h := by kernel_rfl
theorem okT65 : CallOk Tryd.prog (lookT T65) := lookT_cons good mixed okT64 (of_p1 eq_k_ref1_Class)
theorem eq_k_ref1_Bit (a b : AV) (h : Heap) : k_ref1_Bit a b h = bodyK Tryd.prog (lookT T65) ann 66 [a, b] h := by kernel_rfl
theorem okT66 : CallOk Tryd.prog (lookT T66) := lookT_cons good mixed okT65 (of_p2 eq_k_ref1_Bit)
theorem eq_k_ref1_Ones (a : AV) (h : Heap) : k_ref1_Ones a h = bodyK Tryd.prog (lookT T66) ann 41 [a] h := by kernel_rfl
theorem okT67 : CallOk Tryd.prog (lookT T67) := lookT_cons good mixed okT66 (of_p1 eq_k_ref1_Ones)
theorem eq_k_law5_AllocFull (a b c : AV) (h : Heap) : k_law5_AllocFull a b c h = bodyK Tryd.prog (lookT T67) ann 9 [a, b, c] h := by kernel_rfl
theorem okT68 : CallOk Tryd.prog (lookT T68) := lookT_cons good mixed okT67 (of_p3 eq_k_law5_AllocFull)
theorem eq_k_law5_AllocAgain (a b : AV) (h : Heap) : k_law5_AllocAgain a b h = bodyK Tryd.prog (lookT T68) ann 10 [a, b] h := by kernel_rfl
theorem okT69 : CallOk Tryd.prog (lookT T69) := lookT_cons good mixed okT68 (of_p2 eq_k_law5_AllocAgain)
theorem eq_k_law5_AllocKeeps (a b c d : AV) (h : Heap) : k_law5_AllocKeeps a b c d h = bodyK Tryd.prog (lookT T69) ann 11 [a, b, c, d] h := by kernel_rfl
theorem okT70 : CallOk Tryd.prog (lookT T70) := lookT_cons good mixed okT69 (of_p4 eq_k_law5_AllocKeeps)
noncomputable def tab : Tab := T70
theorem okTab : CallOk Tryd.prog (lookT tab) := okT70
end Go.Proofs.YtfenhliknhmihaaDoor.qu