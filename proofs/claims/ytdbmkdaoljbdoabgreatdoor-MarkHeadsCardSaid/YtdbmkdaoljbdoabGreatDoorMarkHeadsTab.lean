/- PRINTED by Gen.lean: each printed function does what the program's does. -/
import Derived.Test.YtdbmkdaoljbdoabGreatDoorMarkHeadsFn
import Derived.Test.YtdbmkdaoljbdoabGreatDoorBs
import Derived.Test.YtdbmkdaoljbdoabGreatDoorAbV
import Derived.Test.YtdbmkdaoljbdoabGreatDoorMarkHeadsLay
namespace Go.Proofs.YtdbmkdaoljbdoabGreatDoor.markHeads
open Go Go.Ab Go.Ab.F
set_option linter.all false
theorem okT0 : CallOk Tryz.prog (lookT T0) := lookT_nil
theorem eq_k_arena_New (a : AV) (h : Heap) : k_arena_New a h = bodyK Tryz.prog (lookT T0) ann 23 [a] h := by kernel_rfl
theorem okT1 : CallOk Tryz.prog (lookT T1) := lookT_cons good mixed okT0 (of_p1 eq_k_arena_New)
theorem eq_k_head_New (h : Heap) : k_head_New h = bodyK Tryz.prog (lookT T1) ann 24 [] h := by kernel_rfl
theorem okT2 : CallOk Tryz.prog (lookT T2) := lookT_cons good mixed okT1 (of_p0 eq_k_head_New)
theorem eq_k_grey_New (h : Heap) : k_grey_New h = bodyK Tryz.prog (lookT T2) ann 62 [] h := by kernel_rfl
theorem okT3 : CallOk Tryz.prog (lookT T3) := lookT_cons good mixed okT2 (of_p0 eq_k_grey_New)
theorem eq_k_mark_New (a b : AV) (h : Heap) : k_mark_New a b h = bodyK Tryz.prog (lookT T3) ann 25 [a, b] h := by kernel_rfl
theorem okT4 : CallOk Tryz.prog (lookT T4) := lookT_cons good mixed okT3 (of_p2 eq_k_mark_New)
theorem eq_k_ref4_NewArena (a : AV) (h : Heap) : k_ref4_NewArena a h = bodyK Tryz.prog (lookT T4) ann 26 [a] h := by kernel_rfl
theorem okT5 : CallOk Tryz.prog (lookT T5) := lookT_cons good mixed okT4 (of_p1 eq_k_ref4_NewArena)
theorem eq_k_arena_Arena_Spans (a : AV) (h : Heap) : k_arena_Arena_Spans a h = bodyK Tryz.prog (lookT T5) ann 63 [a] h := by kernel_rfl
theorem okT6 : CallOk Tryz.prog (lookT T6) := lookT_cons good mixed okT5 (of_p1 eq_k_arena_Arena_Spans)
theorem eq_k_alloc_New (a : AV) (h : Heap) : k_alloc_New a h = bodyK Tryz.prog (lookT T6) ann 27 [a] h := by kernel_rfl
theorem okT7 : CallOk Tryz.prog (lookT T7) := lookT_cons good mixed okT6 (of_p1 eq_k_alloc_New)
theorem eq_k_ref4_NewAlloc (a : AV) (h : Heap) : k_ref4_NewAlloc a h = bodyK Tryz.prog (lookT T7) ann 28 [a] h := by kernel_rfl
theorem okT8 : CallOk Tryz.prog (lookT T8) := lookT_cons good mixed okT7 (of_p1 eq_k_ref4_NewAlloc)
theorem eq_k_law7_shapes (h : Heap) : k_law7_shapes h = bodyK Tryz.prog (lookT T8) ann 29 [] h := by kernel_rfl
theorem okT9 : CallOk Tryz.prog (lookT T9) := lookT_cons good mixed okT8 (of_p0 eq_k_law7_shapes)
theorem eq_k_head_Good (a : AV) (h : Heap) : k_head_Good a h = bodyK Tryz.prog (lookT T9) ann 64 [a] h := by kernel_rfl
theorem okT10 : CallOk Tryz.prog (lookT T10) := lookT_cons good mixed okT9 (of_p1 eq_k_head_Good)
theorem eq_k_head_Table_Number (a b : AV) (h : Heap) : k_head_Table_Number a b h = bodyK Tryz.prog (lookT T10) ann 30 [a, b] h := by kernel_rfl
theorem okT11 : CallOk Tryz.prog (lookT T11) := lookT_cons good mixed okT10 (of_p2 eq_k_head_Table_Number)
theorem eq_k_ref4_Marker_Number (a b : AV) (h : Heap) : k_ref4_Marker_Number a b h = bodyK Tryz.prog (lookT T11) ann 31 [a, b] h := by kernel_rfl
theorem okT12 : CallOk Tryz.prog (lookT T12) := lookT_cons good mixed okT11 (of_p2 eq_k_ref4_Marker_Number)
theorem eq_k_law7_size (a : AV) (h : Heap) : k_law7_size a h = bodyK Tryz.prog (lookT T12) ann 33 [a] h := by kernel_rfl
theorem okT13 : CallOk Tryz.prog (lookT T13) := lookT_cons good mixed okT12 (of_p1 eq_k_law7_size)
theorem eq_k_geom_Words (a : AV) (h : Heap) : k_geom_Words a h = bodyK Tryz.prog (lookT T13) ann 40 [a] h := by kernel_rfl
theorem okT14 : CallOk Tryz.prog (lookT T14) := lookT_cons good mixed okT13 (of_p1 eq_k_geom_Words)
theorem eq_k_geom_Class (a : AV) (h : Heap) : k_geom_Class a h = bodyK Tryz.prog (lookT T14) ann 65 [a] h := by kernel_rfl
theorem okT15 : CallOk Tryz.prog (lookT T15) := lookT_cons good mixed okT14 (of_p1 eq_k_geom_Class)
theorem eq_k_arena_Arena_has (a b : AV) (h : Heap) : k_arena_Arena_has a b h = bodyK Tryz.prog (lookT T15) ann 78 [a, b] h := by kernel_rfl
theorem okT16 : CallOk Tryz.prog (lookT T16) := lookT_cons good mixed okT15 (of_p2 eq_k_arena_Arena_has)
theorem eq_k_arena_Arena_Class (a b : AV) (h : Heap) : k_arena_Arena_Class a b h = bodyK Tryz.prog (lookT T16) ann 41 [a, b] h := by kernel_rfl
theorem okT17 : CallOk Tryz.prog (lookT T17) := lookT_cons good mixed okT16 (of_p2 eq_k_arena_Arena_Class)
theorem eq_k_mbits_OnesCount64 (a : AV) (h : Heap) : k_mbits_OnesCount64 a h = bodyK Tryz.prog (lookT T17) ann 155 [a] h := by kernel_rfl
theorem okT18 : CallOk Tryz.prog (lookT T18) := lookT_cons good mixed okT17 (of_p1 eq_k_mbits_OnesCount64)
theorem eq_k_bits_Ones (a : AV) (h : Heap) : k_bits_Ones a h = bodyK Tryz.prog (lookT T18) ann 124 [a] h := by kernel_rfl
theorem okT19 : CallOk Tryz.prog (lookT T19) := lookT_cons good mixed okT18 (of_p1 eq_k_bits_Ones)
theorem eq_k_arena_Arena_Sweep (a b : AV) (h : Heap) : k_arena_Arena_Sweep a b h = bodyK Tryz.prog (lookT T19) ann 98 [a, b] h := by kernel_rfl
theorem okT20 : CallOk Tryz.prog (lookT T20) := lookT_cons good mixed okT19 (of_p2 eq_k_arena_Arena_Sweep)
theorem eq_k_alloc_Alloc_sweep (a b : AV) (h : Heap) : k_alloc_Alloc_sweep a b h = bodyK Tryz.prog (lookT T20) ann 66 [a, b] h := by kernel_rfl
theorem okT21 : CallOk Tryz.prog (lookT T21) := lookT_cons good mixed okT20 (of_p2 eq_k_alloc_Alloc_sweep)
theorem eq_k_arena_Arena_Taken (a b : AV) (h : Heap) : k_arena_Arena_Taken a b h = bodyK Tryz.prog (lookT T21) ann 67 [a, b] h := by kernel_rfl
theorem okT22 : CallOk Tryz.prog (lookT T22) := lookT_cons good mixed okT21 (of_p2 eq_k_arena_Arena_Taken)
theorem eq_k_geom_Places (a : AV) (h : Heap) : k_geom_Places a h = bodyK Tryz.prog (lookT T22) ann 99 [a] h := by kernel_rfl
theorem okT23 : CallOk Tryz.prog (lookT T23) := lookT_cons good mixed okT22 (of_p1 eq_k_geom_Places)
theorem eq_k_bits_within (a b : AV) (h : Heap) : k_bits_within a b h = bodyK Tryz.prog (lookT T23) ann 82 [a, b] h := by kernel_rfl
theorem okT24 : CallOk Tryz.prog (lookT T24) := lookT_cons good mixed okT23 (of_p2 eq_k_bits_within)
theorem eq_k_bits_mask (a : AV) (h : Heap) : k_bits_mask a h = bodyK Tryz.prog (lookT T24) ann 83 [a] h := by kernel_rfl
theorem okT25 : CallOk Tryz.prog (lookT T25) := lookT_cons good mixed okT24 (of_p1 eq_k_bits_mask)
theorem eq_k_bits_With (a b c d : AV) (h : Heap) : k_bits_With a b c d h = bodyK Tryz.prog (lookT T25) ann 51 [a, b, c, d] h := by kernel_rfl
theorem okT26 : CallOk Tryz.prog (lookT T26) := lookT_cons good mixed okT25 (of_p4 eq_k_bits_With)
theorem eq_k_geom_Full (a : AV) (h : Heap) : k_geom_Full a h = bodyK Tryz.prog (lookT T26) ann 68 [a] h := by kernel_rfl
theorem okT27 : CallOk Tryz.prog (lookT T27) := lookT_cons good mixed okT26 (of_p1 eq_k_geom_Full)
theorem eq_k_mbits_TrailingZeros64 (a : AV) (h : Heap) : k_mbits_TrailingZeros64 a h = bodyK Tryz.prog (lookT T27) ann 125 [a] h := by kernel_rfl
theorem okT28 : CallOk Tryz.prog (lookT T28) := lookT_cons good mixed okT27 (of_p1 eq_k_mbits_TrailingZeros64)
theorem eq_k_bits_First (a : AV) (h : Heap) : k_bits_First a h = bodyK Tryz.prog (lookT T28) ann 100 [a] h := by kernel_rfl
theorem okT29 : CallOk Tryz.prog (lookT T29) := lookT_cons good mixed okT28 (of_p1 eq_k_bits_First)
theorem eq_k_geom_Addr (a b c : AV) (h : Heap) : k_geom_Addr a b c h = bodyK Tryz.prog (lookT T29) ann 101 [a, b, c] h := by kernel_rfl
theorem okT30 : CallOk Tryz.prog (lookT T30) := lookT_cons good mixed okT29 (of_p3 eq_k_geom_Addr)
theorem eq_k_arena_Arena_Take (a b : AV) (h : Heap) : k_arena_Arena_Take a b h = bodyK Tryz.prog (lookT T30) ann 69 [a, b] h := by kernel_rfl
theorem okT31 : CallOk Tryz.prog (lookT T31) := lookT_cons good mixed okT30 (of_p2 eq_k_arena_Arena_Take)
theorem eq_k_arena_Arena_Set (a b c : AV) (h : Heap) : k_arena_Arena_Set a b c h = bodyK Tryz.prog (lookT T31) ann 102 [a, b, c] h := by kernel_rfl
theorem okT32 : CallOk Tryz.prog (lookT T32) := lookT_cons good mixed okT31 (of_p3 eq_k_arena_Arena_Set)
theorem eq_k_alloc_Alloc_begin (a b c : AV) (h : Heap) : k_alloc_Alloc_begin a b c h = bodyK Tryz.prog (lookT T32) ann 70 [a, b, c] h := by kernel_rfl
theorem okT33 : CallOk Tryz.prog (lookT T33) := lookT_cons good mixed okT32 (of_p3 eq_k_alloc_Alloc_begin)
theorem eq_k_alloc_Alloc_Take (a b : AV) (h : Heap) : k_alloc_Alloc_Take a b h = bodyK Tryz.prog (lookT T33) ann 32 [a, b] h := by kernel_rfl
theorem okT34 : CallOk Tryz.prog (lookT T34) := lookT_cons good mixed okT33 (of_p2 eq_k_alloc_Alloc_Take)
theorem eq_k_ref1_Words (a : AV) (h : Heap) : k_ref1_Words a h = bodyK Tryz.prog (lookT T34) ann 103 [a] h := by kernel_rfl
theorem okT35 : CallOk Tryz.prog (lookT T35) := lookT_cons good mixed okT34 (of_p1 eq_k_ref1_Words)
theorem eq_k_ref1_Class (a : AV) (h : Heap) : k_ref1_Class a h = bodyK Tryz.prog (lookT T35) ann 71 [a] h := by kernel_rfl
theorem okT36 : CallOk Tryz.prog (lookT T36) := lookT_cons good mixed okT35 (of_p1 eq_k_ref1_Class)
theorem eq_k_ref1_Span (a : AV) (h : Heap) : k_ref1_Span a h = bodyK Tryz.prog (lookT T36) ann 126 [a] h := by kernel_rfl
theorem okT37 : CallOk Tryz.prog (lookT T37) := lookT_cons good mixed okT36 (of_p1 eq_k_ref1_Span)
theorem eq_k_ref4_Arena_Sweep (a b : AV) (h : Heap) : k_ref4_Arena_Sweep a b h = bodyK Tryz.prog (lookT T37) ann 104 [a, b] h := by kernel_rfl
theorem okT38 : CallOk Tryz.prog (lookT T38) := lookT_cons good mixed okT37 (of_p2 eq_k_ref4_Arena_Sweep)
theorem eq_k_ref4_Alloc_sweep (a b : AV) (h : Heap) : k_ref4_Alloc_sweep a b h = bodyK Tryz.prog (lookT T38) ann 72 [a, b] h := by kernel_rfl
theorem okT39 : CallOk Tryz.prog (lookT T39) := lookT_cons good mixed okT38 (of_p2 eq_k_ref4_Alloc_sweep)
theorem eq_k_ref1_Places (a : AV) (h : Heap) : k_ref1_Places a h = bodyK Tryz.prog (lookT T39) ann 105 [a] h := by kernel_rfl
theorem okT40 : CallOk Tryz.prog (lookT T40) := lookT_cons good mixed okT39 (of_p1 eq_k_ref1_Places)
theorem eq_k_ref1_Addr (a b c : AV) (h : Heap) : k_ref1_Addr a b c h = bodyK Tryz.prog (lookT T40) ann 106 [a, b, c] h := by kernel_rfl
theorem okT41 : CallOk Tryz.prog (lookT T41) := lookT_cons good mixed okT40 (of_p3 eq_k_ref1_Addr)
theorem eq_k_ref4_Arena_Find (a b : AV) (h : Heap) : k_ref4_Arena_Find a b h = bodyK Tryz.prog (lookT T41) ann 53 [a, b] h := by kernel_rfl
theorem okT42 : CallOk Tryz.prog (lookT T42) := lookT_cons good mixed okT41 (of_p2 eq_k_ref4_Arena_Find)
theorem eq_k_ref4_Arena_Take (a b : AV) (h : Heap) : k_ref4_Arena_Take a b h = bodyK Tryz.prog (lookT T42) ann 73 [a, b] h := by kernel_rfl
theorem okT43 : CallOk Tryz.prog (lookT T43) := lookT_cons good mixed okT42 (of_p2 eq_k_ref4_Arena_Take)
theorem eq_k_ref4_Alloc_give (a b c : AV) (h : Heap) : k_ref4_Alloc_give a b c h = bodyK Tryz.prog (lookT T43) ann 74 [a, b, c] h := by kernel_rfl
theorem okT44 : CallOk Tryz.prog (lookT T44) := lookT_cons good mixed okT43 (of_p3 eq_k_ref4_Alloc_give)
theorem eq_k_ref4_Alloc_Take (a b : AV) (h : Heap) : k_ref4_Alloc_Take a b h = bodyK Tryz.prog (lookT T44) ann 34 [a, b] h := by kernel_rfl
theorem okT45 : CallOk Tryz.prog (lookT T45) := lookT_cons good mixed okT44 (of_p2 eq_k_ref4_Alloc_Take)
theorem eq_k_head_may (a : AV) (h : Heap) : k_head_may a h = bodyK Tryz.prog (lookT T45) ann 50 [a] h := by kernel_rfl
theorem okT46 : CallOk Tryz.prog (lookT T46) := lookT_cons good mixed okT45 (of_p1 eq_k_head_may)
theorem eq_k_head_Pack (a : AV) (h : Heap) : k_head_Pack a h = bodyK Tryz.prog (lookT T46) ann 13 [a] h := by kernel_rfl
theorem okT47 : CallOk Tryz.prog (lookT T47) := lookT_cons good mixed okT46 (of_p1 eq_k_head_Pack)
theorem eq_k_geom_Span (a : AV) (h : Heap) : k_geom_Span a h = bodyK Tryz.prog (lookT T47) ann 42 [a] h := by kernel_rfl
theorem okT48 : CallOk Tryz.prog (lookT T48) := lookT_cons good mixed okT47 (of_p1 eq_k_geom_Span)
theorem eq_k_geom_Place (a b : AV) (h : Heap) : k_geom_Place a b h = bodyK Tryz.prog (lookT T48) ann 107 [a, b] h := by kernel_rfl
theorem okT49 : CallOk Tryz.prog (lookT T49) := lookT_cons good mixed okT48 (of_p2 eq_k_geom_Place)
theorem eq_k_arena_Arena_find (a b : AV) (h : Heap) : k_arena_Arena_find a b h = bodyK Tryz.prog (lookT T49) ann 75 [a, b] h := by kernel_rfl
theorem okT50 : CallOk Tryz.prog (lookT T50) := lookT_cons good mixed okT49 (of_p2 eq_k_arena_Arena_find)
theorem eq_k_arena_Arena_word (a b c : AV) (h : Heap) : k_arena_Arena_word a b c h = bodyK Tryz.prog (lookT T50) ann 76 [a, b, c] h := by kernel_rfl
theorem okT51 : CallOk Tryz.prog (lookT T51) := lookT_cons good mixed okT50 (of_p3 eq_k_arena_Arena_word)
theorem eq_k_arena_Arena_Write (a b c d : AV) (h : Heap) : k_arena_Arena_Write a b c d h = bodyK Tryz.prog (lookT T51) ann 52 [a, b, c, d] h := by kernel_rfl
theorem okT52 : CallOk Tryz.prog (lookT T52) := lookT_cons good mixed okT51 (of_p4 eq_k_arena_Arena_Write)
theorem eq_k_law7_put (a b c d e : AV) (h : Heap) : k_law7_put a b c d e h = bodyK Tryz.prog (lookT T52) ann 14 [a, b, c, d, e] h := by kernel_rfl
theorem okT53 : CallOk Tryz.prog (lookT T53) := lookT_cons good mixed okT52 (of_p5 eq_k_law7_put)
theorem eq_k_law7_world (a b : AV) (h : Heap) : k_law7_world a b h = bodyK Tryz.prog (lookT T53) ann 7 [a, b] h := by kernel_rfl
theorem okT54 : CallOk Tryz.prog (lookT T54) := lookT_cons good mixed okT53 (of_p2 eq_k_law7_world)
theorem eq_k_arena_Arena_Read (a b c : AV) (h : Heap) : k_arena_Arena_Read a b c h = bodyK Tryz.prog (lookT T54) ann 38 [a, b, c] h := by kernel_rfl
theorem okT55 : CallOk Tryz.prog (lookT T55) := lookT_cons good mixed okT54 (of_p3 eq_k_arena_Arena_Read)
theorem eq_k_bits_Field (a b c : AV) (h : Heap) : k_bits_Field a b c h = bodyK Tryz.prog (lookT T55) ann 77 [a, b, c] h := by kernel_rfl
theorem okT56 : CallOk Tryz.prog (lookT T56) := lookT_cons good mixed okT55 (of_p3 eq_k_bits_Field)
theorem eq_k_head_Unpack (a : AV) (h : Heap) : k_head_Unpack a h = bodyK Tryz.prog (lookT T56) ann 39 [a] h := by kernel_rfl
theorem okT57 : CallOk Tryz.prog (lookT T57) := lookT_cons good mixed okT56 (of_p1 eq_k_head_Unpack)
theorem eq_k_head_Table_Shape (a b : AV) (h : Heap) : k_head_Table_Shape a b h = bodyK Tryz.prog (lookT T57) ann 43 [a, b] h := by kernel_rfl
theorem okT58 : CallOk Tryz.prog (lookT T58) := lookT_cons good mixed okT57 (of_p2 eq_k_head_Table_Shape)
theorem eq_k_head_Shape_Holds (a b c : AV) (h : Heap) : k_head_Shape_Holds a b c h = bodyK Tryz.prog (lookT T58) ann 44 [a, b, c] h := by kernel_rfl
theorem okT59 : CallOk Tryz.prog (lookT T59) := lookT_cons good mixed okT58 (of_p3 eq_k_head_Shape_Holds)
theorem eq_k_mark_Marker_Fields (a b : AV) (h : Heap) : k_mark_Marker_Fields a b h = bodyK Tryz.prog (lookT T59) ann 10 [a, b] h := by kernel_rfl
theorem okT60 : CallOk Tryz.prog (lookT T60) := lookT_cons good mixed okT59 (of_p2 eq_k_mark_Marker_Fields)
theorem eq_k_slices_Clone_int64_int64 (a : AV) (h : Heap) : k_slices_Clone_int64_int64 a h = bodyK Tryz.prog (lookT T60) ann 45 [a] h := by kernel_rfl
theorem okT61 : CallOk Tryz.prog (lookT T61) := lookT_cons good mixed okT60 (of_p1 eq_k_slices_Clone_int64_int64)
theorem eq_k_arena_Arena_Is (a b : AV) (h : Heap) : k_arena_Arena_Is a b h = bodyK Tryz.prog (lookT T61) ann 46 [a, b] h := by kernel_rfl
theorem okT62 : CallOk Tryz.prog (lookT T62) := lookT_cons good mixed okT61 (of_p2 eq_k_arena_Arena_Is)
theorem okT63 : CallOk Tryz.prog (lookT T63) := lookT_keys okT62 keys48Lays (by rfl) (by rfl)
theorem okT64 : CallOk Tryz.prog (lookT T64) := lookT_sorted okT63 sorted47Lays keys48Lays sort80Lays (by rfl) (by rfl) (by rfl)
theorem eq_k_mark_Marker_Reach (a b : AV) (h : Heap) : k_mark_Marker_Reach a b h = bodyK Tryz.prog (lookT T64) ann 11 [a, b] h := by kernel_rfl
theorem okT65 : CallOk Tryz.prog (lookT T65) := lookT_cons good mixed okT64 (of_p2 eq_k_mark_Marker_Reach)
theorem eq_k_arena_Arena_Mark (a b : AV) (h : Heap) : k_arena_Arena_Mark a b h = bodyK Tryz.prog (lookT T65) ann 36 [a, b] h := by kernel_rfl
theorem okT66 : CallOk Tryz.prog (lookT T66) := lookT_cons good mixed okT65 (of_p2 eq_k_arena_Arena_Mark)
theorem eq_k_grey_Queue_Add (a b : AV) (h : Heap) : k_grey_Queue_Add a b h = bodyK Tryz.prog (lookT T66) ann 37 [a, b] h := by kernel_rfl
theorem okT67 : CallOk Tryz.prog (lookT T67) := lookT_cons good mixed okT66 (of_p2 eq_k_grey_Queue_Add)
theorem eq_k_mark_Marker_Shade (a b : AV) (h : Heap) : k_mark_Marker_Shade a b h = bodyK Tryz.prog (lookT T67) ann 9 [a, b] h := by kernel_rfl
theorem okT68 : CallOk Tryz.prog (lookT T68) := lookT_cons good mixed okT67 (of_p2 eq_k_mark_Marker_Shade)
theorem eq_k_grey_Queue_Next (a : AV) (h : Heap) : k_grey_Queue_Next a h = bodyK Tryz.prog (lookT T68) ann 35 [a] h := by kernel_rfl
theorem okT69 : CallOk Tryz.prog (lookT T69) := lookT_cons good mixed okT68 (of_p1 eq_k_grey_Queue_Next)
theorem eq_k_mark_Marker_Step (a : AV) (h : Heap) : k_mark_Marker_Step a h = bodyK Tryz.prog (lookT T69) ann 8 [a] h := by kernel_rfl
theorem okT70 : CallOk Tryz.prog (lookT T70) := lookT_cons good mixed okT69 (of_p1 eq_k_mark_Marker_Step)
theorem eq_k_grey_Queue_Len (a : AV) (h : Heap) : k_grey_Queue_Len a h = bodyK Tryz.prog (lookT T70) ann 49 [a] h := by kernel_rfl
theorem okT71 : CallOk Tryz.prog (lookT T71) := lookT_cons good mixed okT70 (of_p1 eq_k_grey_Queue_Len)
theorem eq_k_mark_Marker_Left (a : AV) (h : Heap) : k_mark_Marker_Left a h = bodyK Tryz.prog (lookT T71) ann 12 [a] h := by kernel_rfl
theorem okT72 : CallOk Tryz.prog (lookT T72) := lookT_cons good mixed okT71 (of_p1 eq_k_mark_Marker_Left)
theorem eq_k_arena_Arena_Marked (a b : AV) (h : Heap) : k_arena_Arena_Marked a b h = bodyK Tryz.prog (lookT T72) ann 22 [a, b] h := by kernel_rfl
theorem okT73 : CallOk Tryz.prog (lookT T73) := lookT_cons good mixed okT72 (of_p2 eq_k_arena_Arena_Marked)
theorem eq_k_law7_awake (h : Heap) : k_law7_awake h = bodyK Tryz.prog (lookT T73) ann 6 [] h := by kernel_rfl
theorem okT74 : CallOk Tryz.prog (lookT T74) := lookT_cons good mixed okT73 (of_p0 eq_k_law7_awake)
theorem eq_k_law7_MarkHeads (a : AV) (h : Heap) : k_law7_MarkHeads a h = bodyK Tryz.prog (lookT T74) ann 4 [a] h := by kernel_rfl
theorem okT75 : CallOk Tryz.prog (lookT T75) := lookT_cons good mixed okT74 (of_p1 eq_k_law7_MarkHeads)
noncomputable def tab : Tab := T75
theorem okTab : CallOk Tryz.prog (lookT tab) := okT75
theorem look_law (b0 : AV) (h : Heap) : lookT tab 4 [b0] h = k_law7_MarkHeads b0 h := by kernel_rfl
end Go.Proofs.YtdbmkdaoljbdoabGreatDoor.markHeads