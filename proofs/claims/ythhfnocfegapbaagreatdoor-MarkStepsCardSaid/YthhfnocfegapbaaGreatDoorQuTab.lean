/- PRINTED by Gen.lean: each printed function does what the program's does. -/
import Derived.Test.YthhfnocfegapbaaGreatDoorQuFn
import Derived.Test.YthhfnocfegapbaaGreatDoorBs
import Derived.Test.YthhfnocfegapbaaGreatDoorAbV
import Derived.Test.YthhfnocfegapbaaGreatDoorAbQ
import Derived.Test.YthhfnocfegapbaaGreatDoorLay
namespace Go.Proofs.YthhfnocfegapbaaGreatDoor.qu
open Go Go.Ab Go.Ab.F
set_option linter.all false
theorem okT0 : CallOk Tryz.prog (lookT T0) := lookT_nil
theorem eq_k_arena_New (a : AV) (h : Heap) : k_arena_New a h = bodyK Tryz.prog (lookT T0) ann 24 [a] h := by kernel_rfl
theorem okT1 : CallOk Tryz.prog (lookT T1) := lookT_cons good mixed okT0 (of_p1 eq_k_arena_New)
theorem eq_k_head_New (h : Heap) : k_head_New h = bodyK Tryz.prog (lookT T1) ann 25 [] h := by kernel_rfl
theorem okT2 : CallOk Tryz.prog (lookT T2) := lookT_cons good mixed okT1 (of_p0 eq_k_head_New)
theorem eq_k_grey_New (h : Heap) : k_grey_New h = bodyK Tryz.prog (lookT T2) ann 59 [] h := by kernel_rfl
theorem okT3 : CallOk Tryz.prog (lookT T3) := lookT_cons good mixed okT2 (of_p0 eq_k_grey_New)
theorem eq_k_mark_New (a b : AV) (h : Heap) : k_mark_New a b h = bodyK Tryz.prog (lookT T3) ann 26 [a, b] h := by kernel_rfl
theorem okT4 : CallOk Tryz.prog (lookT T4) := lookT_cons good mixed okT3 (of_p2 eq_k_mark_New)
theorem eq_k_ref4_NewArena (a : AV) (h : Heap) : k_ref4_NewArena a h = bodyK Tryz.prog (lookT T4) ann 27 [a] h := by kernel_rfl
theorem okT5 : CallOk Tryz.prog (lookT T5) := lookT_cons good mixed okT4 (of_p1 eq_k_ref4_NewArena)
theorem eq_k_arena_Arena_Spans (a : AV) (h : Heap) : k_arena_Arena_Spans a h = bodyK Tryz.prog (lookT T5) ann 60 [a] h := by kernel_rfl
theorem okT6 : CallOk Tryz.prog (lookT T6) := lookT_cons good mixed okT5 (of_p1 eq_k_arena_Arena_Spans)
theorem eq_k_alloc_New (a : AV) (h : Heap) : k_alloc_New a h = bodyK Tryz.prog (lookT T6) ann 28 [a] h := by kernel_rfl
theorem okT7 : CallOk Tryz.prog (lookT T7) := lookT_cons good mixed okT6 (of_p1 eq_k_alloc_New)
theorem eq_k_ref4_NewAlloc (a : AV) (h : Heap) : k_ref4_NewAlloc a h = bodyK Tryz.prog (lookT T7) ann 29 [a] h := by kernel_rfl
theorem okT8 : CallOk Tryz.prog (lookT T8) := lookT_cons good mixed okT7 (of_p1 eq_k_ref4_NewAlloc)
theorem eq_k_law7_shapes (h : Heap) : k_law7_shapes h = bodyK Tryz.prog (lookT T8) ann 30 [] h := by kernel_rfl
theorem okT9 : CallOk Tryz.prog (lookT T9) := lookT_cons good mixed okT8 (of_p0 eq_k_law7_shapes)
theorem eq_k_head_Good (a : AV) (h : Heap) : k_head_Good a h = bodyK Tryz.prog (lookT T9) ann 61 [a] h := by kernel_rfl
theorem okT10 : CallOk Tryz.prog (lookT T10) := lookT_cons good mixed okT9 (of_p1 eq_k_head_Good)
theorem eq_k_head_Table_Number (a b : AV) (h : Heap) : k_head_Table_Number a b h = bodyK Tryz.prog (lookT T10) ann 31 [a, b] h := by kernel_rfl
theorem okT11 : CallOk Tryz.prog (lookT T11) := lookT_cons good mixed okT10 (of_p2 eq_k_head_Table_Number)
theorem eq_k_ref4_Marker_Number (a b : AV) (h : Heap) : k_ref4_Marker_Number a b h = bodyK Tryz.prog (lookT T11) ann 32 [a, b] h := by kernel_rfl
theorem okT12 : CallOk Tryz.prog (lookT T12) := lookT_cons good mixed okT11 (of_p2 eq_k_ref4_Marker_Number)
theorem eq_k_law7_size (a : AV) (h : Heap) : k_law7_size a h = bodyK Tryz.prog (lookT T12) ann 34 [a] h := by kernel_rfl
theorem okT13 : CallOk Tryz.prog (lookT T13) := lookT_cons good mixed okT12 (of_p1 eq_k_law7_size)
theorem eq_k_geom_Words (a : AV) (h : Heap) : k_geom_Words a h = bodyK Tryz.prog (lookT T13) ann 43 [a] h := by kernel_rfl
theorem okT14 : CallOk Tryz.prog (lookT T14) := lookT_cons good mixed okT13 (of_p1 eq_k_geom_Words)
theorem eq_k_geom_Class (a : AV) (h : Heap) : k_geom_Class a h = bodyK Tryz.prog (lookT T14) ann 62 [a] h := by kernel_rfl
theorem okT15 : CallOk Tryz.prog (lookT T15) := lookT_cons good mixed okT14 (of_p1 eq_k_geom_Class)
theorem eq_k_arena_Arena_has (a b : AV) (h : Heap) : k_arena_Arena_has a b h = bodyK Tryz.prog (lookT T15) ann 76 [a, b] h := by kernel_rfl
theorem okT16 : CallOk Tryz.prog (lookT T16) := lookT_cons good mixed okT15 (of_p2 eq_k_arena_Arena_has)
theorem eq_k_arena_Arena_Class (a b : AV) (h : Heap) : k_arena_Arena_Class a b h = bodyK Tryz.prog (lookT T16) ann 44 [a, b] h := by kernel_rfl
theorem okT17 : CallOk Tryz.prog (lookT T17) := lookT_cons good mixed okT16 (of_p2 eq_k_arena_Arena_Class)
theorem eq_k_mbits_OnesCount64 (a : AV) (h : Heap) : k_mbits_OnesCount64 a h = bodyK Tryz.prog (lookT T17) ann 109 [a] h := by kernel_rfl
theorem okT18 : CallOk Tryz.prog (lookT T18) := lookT_cons good mixed okT17 (of_p1 eq_k_mbits_OnesCount64)
theorem eq_k_bits_Ones (a : AV) (h : Heap) : k_bits_Ones a h = bodyK Tryz.prog (lookT T18) ann 96 [a] h := by kernel_rfl
theorem okT19 : CallOk Tryz.prog (lookT T19) := lookT_cons good mixed okT18 (of_p1 eq_k_bits_Ones)
theorem eq_k_arena_Arena_Sweep (a b : AV) (h : Heap) : k_arena_Arena_Sweep a b h = bodyK Tryz.prog (lookT T19) ann 83 [a, b] h := by kernel_rfl
theorem okT20 : CallOk Tryz.prog (lookT T20) := lookT_cons good mixed okT19 (of_p2 eq_k_arena_Arena_Sweep)
theorem eq_k_alloc_Alloc_sweep (a b : AV) (h : Heap) : k_alloc_Alloc_sweep a b h = bodyK Tryz.prog (lookT T20) ann 63 [a, b] h := by kernel_rfl
theorem okT21 : CallOk Tryz.prog (lookT T21) := lookT_cons good mixed okT20 (of_p2 eq_k_alloc_Alloc_sweep)
theorem eq_k_arena_Arena_Taken (a b : AV) (h : Heap) : k_arena_Arena_Taken a b h = bodyK Tryz.prog (lookT T21) ann 64 [a, b] h := by kernel_rfl
theorem okT22 : CallOk Tryz.prog (lookT T22) := lookT_cons good mixed okT21 (of_p2 eq_k_arena_Arena_Taken)
theorem eq_k_geom_Places (a : AV) (h : Heap) : k_geom_Places a h = bodyK Tryz.prog (lookT T22) ann 84 [a] h := by kernel_rfl
theorem okT23 : CallOk Tryz.prog (lookT T23) := lookT_cons good mixed okT22 (of_p1 eq_k_geom_Places)
theorem eq_k_bits_within (a b : AV) (h : Heap) : k_bits_within a b h = bodyK Tryz.prog (lookT T23) ann 91 [a, b] h := by kernel_rfl
theorem okT24 : CallOk Tryz.prog (lookT T24) := lookT_cons good mixed okT23 (of_p2 eq_k_bits_within)
theorem eq_k_bits_mask (a : AV) (h : Heap) : k_bits_mask a h = bodyK Tryz.prog (lookT T24) ann 92 [a] h := by kernel_rfl
theorem okT25 : CallOk Tryz.prog (lookT T25) := lookT_cons good mixed okT24 (of_p1 eq_k_bits_mask)
theorem eq_k_bits_With (a b c d : AV) (h : Heap) : k_bits_With a b c d h = bodyK Tryz.prog (lookT T25) ann 73 [a, b, c, d] h := by kernel_rfl
theorem okT26 : CallOk Tryz.prog (lookT T26) := lookT_cons good mixed okT25 (of_p4 eq_k_bits_With)
theorem eq_k_geom_Full (a : AV) (h : Heap) : k_geom_Full a h = bodyK Tryz.prog (lookT T26) ann 65 [a] h := by kernel_rfl
theorem okT27 : CallOk Tryz.prog (lookT T27) := lookT_cons good mixed okT26 (of_p1 eq_k_geom_Full)
theorem eq_k_mbits_TrailingZeros64 (a : AV) (h : Heap) : k_mbits_TrailingZeros64 a h = bodyK Tryz.prog (lookT T27) ann 97 [a] h := by kernel_rfl
theorem okT28 : CallOk Tryz.prog (lookT T28) := lookT_cons good mixed okT27 (of_p1 eq_k_mbits_TrailingZeros64)
theorem eq_k_bits_First (a : AV) (h : Heap) : k_bits_First a h = bodyK Tryz.prog (lookT T28) ann 85 [a] h := by kernel_rfl
theorem okT29 : CallOk Tryz.prog (lookT T29) := lookT_cons good mixed okT28 (of_p1 eq_k_bits_First)
theorem eq_k_geom_Addr (a b c : AV) (h : Heap) : k_geom_Addr a b c h = bodyK Tryz.prog (lookT T29) ann 86 [a, b, c] h := by kernel_rfl
theorem okT30 : CallOk Tryz.prog (lookT T30) := lookT_cons good mixed okT29 (of_p3 eq_k_geom_Addr)
theorem eq_k_arena_Arena_Take (a b : AV) (h : Heap) : k_arena_Arena_Take a b h = bodyK Tryz.prog (lookT T30) ann 66 [a, b] h := by kernel_rfl
theorem okT31 : CallOk Tryz.prog (lookT T31) := lookT_cons good mixed okT30 (of_p2 eq_k_arena_Arena_Take)
theorem eq_k_arena_Arena_Set (a b c : AV) (h : Heap) : k_arena_Arena_Set a b c h = bodyK Tryz.prog (lookT T31) ann 87 [a, b, c] h := by kernel_rfl
theorem okT32 : CallOk Tryz.prog (lookT T32) := lookT_cons good mixed okT31 (of_p3 eq_k_arena_Arena_Set)
theorem eq_k_alloc_Alloc_begin (a b c : AV) (h : Heap) : k_alloc_Alloc_begin a b c h = bodyK Tryz.prog (lookT T32) ann 67 [a, b, c] h := by kernel_rfl
theorem okT33 : CallOk Tryz.prog (lookT T33) := lookT_cons good mixed okT32 (of_p3 eq_k_alloc_Alloc_begin)
theorem eq_k_alloc_Alloc_Take (a b : AV) (h : Heap) : k_alloc_Alloc_Take a b h = bodyK Tryz.prog (lookT T33) ann 33 [a, b] h := by kernel_rfl
theorem okT34 : CallOk Tryz.prog (lookT T34) := lookT_cons good mixed okT33 (of_p2 eq_k_alloc_Alloc_Take)
theorem eq_k_ref1_Words (a : AV) (h : Heap) : k_ref1_Words a h = bodyK Tryz.prog (lookT T34) ann 81 [a] h := by kernel_rfl
theorem okT35 : CallOk Tryz.prog (lookT T35) := lookT_cons good mixed okT34 (of_p1 eq_k_ref1_Words)
theorem eq_k_ref1_Class (a : AV) (h : Heap) : k_ref1_Class a h = bodyK Tryz.prog (lookT T35) ann 68 [a] h := by kernel_rfl
theorem okT36 : CallOk Tryz.prog (lookT T36) := lookT_cons good mixed okT35 (of_p1 eq_k_ref1_Class)
theorem eq_k_ref1_Span (a : AV) (h : Heap) : k_ref1_Span a h = bodyK Tryz.prog (lookT T36) ann 55 [a] h := by kernel_rfl
theorem okT37 : CallOk Tryz.prog (lookT T37) := lookT_cons good mixed okT36 (of_p1 eq_k_ref1_Span)
theorem eq_k_ref4_Arena_Sweep (a b : AV) (h : Heap) : k_ref4_Arena_Sweep a b h = bodyK Tryz.prog (lookT T37) ann 88 [a, b] h := by kernel_rfl
theorem okT38 : CallOk Tryz.prog (lookT T38) := lookT_cons good mixed okT37 (of_p2 eq_k_ref4_Arena_Sweep)
theorem eq_k_ref4_Alloc_sweep (a b : AV) (h : Heap) : k_ref4_Alloc_sweep a b h = bodyK Tryz.prog (lookT T38) ann 69 [a, b] h := by kernel_rfl
theorem okT39 : CallOk Tryz.prog (lookT T39) := lookT_cons good mixed okT38 (of_p2 eq_k_ref4_Alloc_sweep)
theorem eq_k_ref1_Places (a : AV) (h : Heap) : k_ref1_Places a h = bodyK Tryz.prog (lookT T39) ann 89 [a] h := by kernel_rfl
theorem okT40 : CallOk Tryz.prog (lookT T40) := lookT_cons good mixed okT39 (of_p1 eq_k_ref1_Places)
theorem eq_k_ref1_Addr (a b c : AV) (h : Heap) : k_ref1_Addr a b c h = bodyK Tryz.prog (lookT T40) ann 90 [a, b, c] h := by kernel_rfl
theorem okT41 : CallOk Tryz.prog (lookT T41) := lookT_cons good mixed okT40 (of_p3 eq_k_ref1_Addr)
theorem eq_k_ref4_Arena_Find (a b : AV) (h : Heap) : k_ref4_Arena_Find a b h = bodyK Tryz.prog (lookT T41) ann 38 [a, b] h := by kernel_rfl
theorem okT42 : CallOk Tryz.prog (lookT T42) := lookT_cons good mixed okT41 (of_p2 eq_k_ref4_Arena_Find)
theorem eq_k_ref4_Arena_Take (a b : AV) (h : Heap) : k_ref4_Arena_Take a b h = bodyK Tryz.prog (lookT T42) ann 70 [a, b] h := by kernel_rfl
theorem okT43 : CallOk Tryz.prog (lookT T43) := lookT_cons good mixed okT42 (of_p2 eq_k_ref4_Arena_Take)
theorem eq_k_ref4_Alloc_give (a b c : AV) (h : Heap) : k_ref4_Alloc_give a b c h = bodyK Tryz.prog (lookT T43) ann 71 [a, b, c] h := by kernel_rfl
theorem okT44 : CallOk Tryz.prog (lookT T44) := lookT_cons good mixed okT43 (of_p3 eq_k_ref4_Alloc_give)
theorem eq_k_ref4_Alloc_Take (a b : AV) (h : Heap) : k_ref4_Alloc_Take a b h = bodyK Tryz.prog (lookT T44) ann 35 [a, b] h := by kernel_rfl
theorem okT45 : CallOk Tryz.prog (lookT T45) := lookT_cons good mixed okT44 (of_p2 eq_k_ref4_Alloc_Take)
theorem eq_k_head_may (a : AV) (h : Heap) : k_head_may a h = bodyK Tryz.prog (lookT T45) ann 72 [a] h := by kernel_rfl
theorem okT46 : CallOk Tryz.prog (lookT T46) := lookT_cons good mixed okT45 (of_p1 eq_k_head_may)
theorem eq_k_head_Pack (a : AV) (h : Heap) : k_head_Pack a h = bodyK Tryz.prog (lookT T46) ann 36 [a] h := by kernel_rfl
theorem okT47 : CallOk Tryz.prog (lookT T47) := lookT_cons good mixed okT46 (of_p1 eq_k_head_Pack)
theorem eq_k_geom_Span (a : AV) (h : Heap) : k_geom_Span a h = bodyK Tryz.prog (lookT T47) ann 45 [a] h := by kernel_rfl
theorem okT48 : CallOk Tryz.prog (lookT T48) := lookT_cons good mixed okT47 (of_p1 eq_k_geom_Span)
theorem eq_k_geom_Place (a b : AV) (h : Heap) : k_geom_Place a b h = bodyK Tryz.prog (lookT T48) ann 82 [a, b] h := by kernel_rfl
theorem okT49 : CallOk Tryz.prog (lookT T49) := lookT_cons good mixed okT48 (of_p2 eq_k_geom_Place)
theorem eq_k_arena_Arena_find (a b : AV) (h : Heap) : k_arena_Arena_find a b h = bodyK Tryz.prog (lookT T49) ann 57 [a, b] h := by kernel_rfl
theorem okT50 : CallOk Tryz.prog (lookT T50) := lookT_cons good mixed okT49 (of_p2 eq_k_arena_Arena_find)
theorem eq_k_arena_Arena_word (a b c : AV) (h : Heap) : k_arena_Arena_word a b c h = bodyK Tryz.prog (lookT T50) ann 74 [a, b, c] h := by kernel_rfl
theorem okT51 : CallOk Tryz.prog (lookT T51) := lookT_cons good mixed okT50 (of_p3 eq_k_arena_Arena_word)
theorem eq_k_arena_Arena_Write (a b c d : AV) (h : Heap) : k_arena_Arena_Write a b c d h = bodyK Tryz.prog (lookT T51) ann 37 [a, b, c, d] h := by kernel_rfl
theorem okT52 : CallOk Tryz.prog (lookT T52) := lookT_cons good mixed okT51 (of_p4 eq_k_arena_Arena_Write)
theorem eq_k_law7_put (a b c d e : AV) (h : Heap) : k_law7_put a b c d e h = bodyK Tryz.prog (lookT T52) ann 8 [a, b, c, d, e] h := by kernel_rfl
theorem okT53 : CallOk Tryz.prog (lookT T53) := lookT_cons good mixed okT52 (of_p5 eq_k_law7_put)
theorem eq_k_law7_world (a b : AV) (h : Heap) : k_law7_world a b h = bodyK Tryz.prog (lookT T53) ann 7 [a, b] h := by kernel_rfl
theorem okT54 : CallOk Tryz.prog (lookT T54) := lookT_cons good mixed okT53 (of_p2 eq_k_law7_world)
theorem eq_k_arena_Arena_Read (a b c : AV) (h : Heap) : k_arena_Arena_Read a b c h = bodyK Tryz.prog (lookT T54) ann 41 [a, b, c] h := by kernel_rfl
theorem okT55 : CallOk Tryz.prog (lookT T55) := lookT_cons good mixed okT54 (of_p3 eq_k_arena_Arena_Read)
theorem eq_k_bits_Field (a b c : AV) (h : Heap) : k_bits_Field a b c h = bodyK Tryz.prog (lookT T55) ann 75 [a, b, c] h := by kernel_rfl
theorem okT56 : CallOk Tryz.prog (lookT T56) := lookT_cons good mixed okT55 (of_p3 eq_k_bits_Field)
theorem eq_k_head_Unpack (a : AV) (h : Heap) : k_head_Unpack a h = bodyK Tryz.prog (lookT T56) ann 42 [a] h := by kernel_rfl
theorem okT57 : CallOk Tryz.prog (lookT T57) := lookT_cons good mixed okT56 (of_p1 eq_k_head_Unpack)
theorem eq_k_head_Table_Shape (a b : AV) (h : Heap) : k_head_Table_Shape a b h = bodyK Tryz.prog (lookT T57) ann 46 [a, b] h := by kernel_rfl
theorem okT58 : CallOk Tryz.prog (lookT T58) := lookT_cons good mixed okT57 (of_p2 eq_k_head_Table_Shape)
theorem eq_k_head_Shape_Holds (a b c : AV) (h : Heap) : k_head_Shape_Holds a b c h = bodyK Tryz.prog (lookT T58) ann 47 [a, b, c] h := by kernel_rfl
theorem okT59 : CallOk Tryz.prog (lookT T59) := lookT_cons good mixed okT58 (of_p3 eq_k_head_Shape_Holds)
theorem eq_k_mark_Marker_Fields (a b : AV) (h : Heap) : k_mark_Marker_Fields a b h = bodyK Tryz.prog (lookT T59) ann 12 [a, b] h := by kernel_rfl
theorem okT60 : CallOk Tryz.prog (lookT T60) := lookT_cons good mixed okT59 (of_p2 eq_k_mark_Marker_Fields)
theorem eq_k_slices_Clone_int64_int64 (a : AV) (h : Heap) : k_slices_Clone_int64_int64 a h = bodyK Tryz.prog (lookT T60) ann 50 [a] h := by kernel_rfl
theorem okT61 : CallOk Tryz.prog (lookT T61) := lookT_cons good mixed okT60 (of_p1 eq_k_slices_Clone_int64_int64)
theorem eq_k_arena_Arena_Is (a b : AV) (h : Heap) : k_arena_Arena_Is a b h = bodyK Tryz.prog (lookT T61) ann 22 [a, b] h := by kernel_rfl
theorem okT62 : CallOk Tryz.prog (lookT T62) := lookT_cons good mixed okT61 (of_p2 eq_k_arena_Arena_Is)
theorem okT63 : CallOk Tryz.prog (lookT T63) := lookT_keys okT62 keys52Lays (by rfl) (by rfl)
theorem okT64 : CallOk Tryz.prog (lookT T64) := lookT_sorted okT63 sorted51Lays keys52Lays sort79Lays (by rfl) (by rfl) (by rfl)
theorem eq_k_mark_Marker_Reach (a b : AV) (h : Heap) : k_mark_Marker_Reach a b h = bodyK Tryz.prog (lookT T64) ann 14 [a, b] h := by kernel_rfl
theorem okT65 : CallOk Tryz.prog (lookT T65) := lookT_cons good mixed okT64 (of_p2 eq_k_mark_Marker_Reach)
theorem eq_k_arena_Arena_Mark (a b : AV) (h : Heap) : k_arena_Arena_Mark a b h = bodyK Tryz.prog (lookT T65) ann 21 [a, b] h := by kernel_rfl
theorem okT66 : CallOk Tryz.prog (lookT T66) := lookT_cons good mixed okT65 (of_p2 eq_k_arena_Arena_Mark)
theorem eq_k_grey_Queue_Add (a b : AV) (h : Heap) : k_grey_Queue_Add a b h = bodyK Tryz.prog (lookT T66) ann 39 [a, b] h := by kernel_rfl
theorem okT67 : CallOk Tryz.prog (lookT T67) := lookT_cons good mixed okT66 (of_p2 eq_k_grey_Queue_Add)
theorem eq_k_mark_Marker_Shade (a b : AV) (h : Heap) : k_mark_Marker_Shade a b h = bodyK Tryz.prog (lookT T67) ann 9 [a, b] h := by kernel_rfl
theorem okT68 : CallOk Tryz.prog (lookT T68) := lookT_cons good mixed okT67 (of_p2 eq_k_mark_Marker_Shade)
theorem eq_k_grey_Queue_Next (a : AV) (h : Heap) : k_grey_Queue_Next a h = bodyK Tryz.prog (lookT T68) ann 53 [a] h := by kernel_rfl
theorem okT69 : CallOk Tryz.prog (lookT T69) := lookT_cons good mixed okT68 (of_p1 eq_k_grey_Queue_Next)
theorem eq_k_mark_Marker_Step (a : AV) (h : Heap) : k_mark_Marker_Step a h = bodyK Tryz.prog (lookT T69) ann 16 [a] h := by kernel_rfl
theorem okT70 : CallOk Tryz.prog (lookT T70) := lookT_cons good mixed okT69 (of_p1 eq_k_mark_Marker_Step)
theorem eq_k_grey_Queue_Len (a : AV) (h : Heap) : k_grey_Queue_Len a h = bodyK Tryz.prog (lookT T70) ann 54 [a] h := by kernel_rfl
theorem okT71 : CallOk Tryz.prog (lookT T71) := lookT_cons good mixed okT70 (of_p1 eq_k_grey_Queue_Len)
theorem eq_k_mark_Marker_Left (a : AV) (h : Heap) : k_mark_Marker_Left a h = bodyK Tryz.prog (lookT T71) ann 18 [a] h := by kernel_rfl
theorem okT72 : CallOk Tryz.prog (lookT T72) := lookT_cons good mixed okT71 (of_p1 eq_k_mark_Marker_Left)
theorem eq_k_arena_Arena_Marked (a b : AV) (h : Heap) : k_arena_Arena_Marked a b h = bodyK Tryz.prog (lookT T72) ann 20 [a, b] h := by kernel_rfl
theorem okT73 : CallOk Tryz.prog (lookT T73) := lookT_cons good mixed okT72 (of_p2 eq_k_arena_Arena_Marked)
theorem eq_k_law7_awakeR (h : Heap) : k_law7_awakeR h = bodyK Tryz.prog (lookT T73) ann 6 [] h := by kernel_rfl
theorem run_k_law7_awake : isTrue (k_law7_awakeR hQ1) = true := by kernel_rfl
theorem okT74R : CallOk Tryz.prog (lookT ((6, p0 k_law7_awakeR) :: T73)) := lookT_cons good mixed okT73 (of_p0 eq_k_law7_awakeR)
theorem okT74 : CallOk Tryz.prog (lookT T74) := by
  obtain ⟨g, hg⟩ := isTrue_some run_k_law7_awake
  exact lookT_quiet0 okT73 okT74R (base1 oneGlobal) hg rfl
theorem eq_k_ref4_Arena_Mark (a b : AV) (h : Heap) : k_ref4_Arena_Mark a b h = bodyK Tryz.prog (lookT T74) ann 40 [a, b] h := by kernel_rfl
theorem okT75 : CallOk Tryz.prog (lookT T75) := lookT_cons good mixed okT74 (of_p2 eq_k_ref4_Arena_Mark)
theorem eq_k_ref4_Marker_Shade (a b : AV) (h : Heap) : k_ref4_Marker_Shade a b h = bodyK Tryz.prog (lookT T75) ann 10 [a, b] h := by kernel_rfl
theorem okT76 : CallOk Tryz.prog (lookT T76) := lookT_cons good mixed okT75 (of_p2 eq_k_ref4_Marker_Shade)
theorem eq_k_ref1_Pack (a b c : AV) (h : Heap) : k_ref1_Pack a b c h = bodyK Tryz.prog (lookT T76) ann 77 [a, b, c] h := by kernel_rfl
theorem okT77 : CallOk Tryz.prog (lookT T77) := lookT_cons good mixed okT76 (of_p3 eq_k_ref1_Pack)
theorem eq_k_ref1_Unpack (a : AV) (h : Heap) : k_ref1_Unpack a h = bodyK Tryz.prog (lookT T77) ann 48 [a] h := by kernel_rfl
theorem okT78 : CallOk Tryz.prog (lookT T78) := lookT_cons good mixed okT77 (of_p1 eq_k_ref1_Unpack)
theorem eq_k_ref1_Bit (a b : AV) (h : Heap) : k_ref1_Bit a b h = bodyK Tryz.prog (lookT T78) ann 58 [a, b] h := by kernel_rfl
theorem okT79 : CallOk Tryz.prog (lookT T79) := lookT_cons good mixed okT78 (of_p2 eq_k_ref1_Bit)
theorem eq_k_ref1_Holds (a b c : AV) (h : Heap) : k_ref1_Holds a b c h = bodyK Tryz.prog (lookT T79) ann 49 [a, b, c] h := by kernel_rfl
theorem okT80 : CallOk Tryz.prog (lookT T80) := lookT_cons good mixed okT79 (of_p3 eq_k_ref1_Holds)
theorem eq_k_ref4_Marker_Fields (a b : AV) (h : Heap) : k_ref4_Marker_Fields a b h = bodyK Tryz.prog (lookT T80) ann 13 [a, b] h := by kernel_rfl
theorem okT81 : CallOk Tryz.prog (lookT T81) := lookT_cons good mixed okT80 (of_p2 eq_k_ref4_Marker_Fields)
theorem eq_k_ref17_Nums (a b : AV) (h : Heap) : k_ref17_Nums a b h = bodyK Tryz.prog (lookT T81) ann 11 [a, b] h := by kernel_rfl
theorem okT82 : CallOk Tryz.prog (lookT T82) := lookT_cons good mixed okT81 (of_p2 eq_k_ref17_Nums)
theorem eq_k_ref4_Marker_Reach (a b : AV) (h : Heap) : k_ref4_Marker_Reach a b h = bodyK Tryz.prog (lookT T82) ann 15 [a, b] h := by kernel_rfl
theorem okT83 : CallOk Tryz.prog (lookT T83) := lookT_cons good mixed okT82 (of_p2 eq_k_ref4_Marker_Reach)
theorem eq_k_ref4_Marker_Step (a : AV) (h : Heap) : k_ref4_Marker_Step a h = bodyK Tryz.prog (lookT T83) ann 17 [a] h := by kernel_rfl
theorem okT84 : CallOk Tryz.prog (lookT T84) := lookT_cons good mixed okT83 (of_p1 eq_k_ref4_Marker_Step)
theorem eq_k_ref1_Place (a b : AV) (h : Heap) : k_ref1_Place a b h = bodyK Tryz.prog (lookT T84) ann 56 [a, b] h := by kernel_rfl
theorem okT85 : CallOk Tryz.prog (lookT T85) := lookT_cons good mixed okT84 (of_p2 eq_k_ref1_Place)
theorem eq_k_ref4_Arena_Maps (a b : AV) (h : Heap) : k_ref4_Arena_Maps a b h = bodyK Tryz.prog (lookT T85) ann 19 [a, b] h := by kernel_rfl
theorem okT86 : CallOk Tryz.prog (lookT T86) := lookT_cons good mixed okT85 (of_p2 eq_k_ref4_Arena_Maps)
theorem eq_k_law7_MarkSteps (a b c d : AV) (h : Heap) : k_law7_MarkSteps a b c d h = bodyK Tryz.prog (lookT T86) ann 3 [a, b, c, d] h := by kernel_rfl
theorem okT87 : CallOk Tryz.prog (lookT T87) := lookT_cons good mixed okT86 (of_p4 eq_k_law7_MarkSteps)
theorem eq_k_ref1_Ones (a : AV) (h : Heap) : k_ref1_Ones a h = bodyK Tryz.prog (lookT T87) ann 23 [a] h := by kernel_rfl
theorem okT88 : CallOk Tryz.prog (lookT T88) := lookT_cons good mixed okT87 (of_p1 eq_k_ref1_Ones)
theorem eq_k_law7_MarkAll (a b : AV) (h : Heap) : k_law7_MarkAll a b h = bodyK Tryz.prog (lookT T88) ann 4 [a, b] h := by kernel_rfl
theorem okT89 : CallOk Tryz.prog (lookT T89) := lookT_cons good mixed okT88 (of_p2 eq_k_law7_MarkAll)
theorem eq_k_law7_MarkMore (a b c : AV) (h : Heap) : k_law7_MarkMore a b c h = bodyK Tryz.prog (lookT T89) ann 5 [a, b, c] h := by kernel_rfl
theorem okT90 : CallOk Tryz.prog (lookT T90) := lookT_cons good mixed okT89 (of_p3 eq_k_law7_MarkMore)
noncomputable def tab : Tab := T90
theorem okTab : CallOk Tryz.prog (lookT tab) := okT90
end Go.Proofs.YthhfnocfegapbaaGreatDoor.qu