/- PRINTED by Gen.lean: each printed function does what the program's does. -/
import Derived.Test.YtdbmkdaoljbdoabGreatDoorSchedKnownFn
import Derived.Test.YtdbmkdaoljbdoabGreatDoorBs
import Derived.Test.YtdbmkdaoljbdoabGreatDoorAbV
import Derived.Test.YtdbmkdaoljbdoabGreatDoorSchedKnownLay
namespace Go.Proofs.YtdbmkdaoljbdoabGreatDoor.schedKnown
open Go Go.Ab Go.Ab.F
set_option linter.all false
theorem okT0 : CallOk Tryz.prog (lookT T0) := lookT_nil
theorem eq_k_law16_holder_Stacks (a : AV) (h : Heap) : k_law16_holder_Stacks a h = bodyK Tryz.prog (lookT T0) ann 206 [a] h := by kernel_rfl
theorem okT1 : CallOk Tryz.prog (lookT T1) := lookT_cons good mixed okT0 (of_p1 eq_k_law16_holder_Stacks)
theorem eq_k_cycle_Cycle_Black (a b : AV) (h : Heap) : k_cycle_Cycle_Black a b h = bodyK Tryz.prog (lookT T1) ann 177 [a, b] h := by kernel_rfl
theorem okT2 : CallOk Tryz.prog (lookT T2) := lookT_cons good mixed okT1 (of_p2 eq_k_cycle_Cycle_Black)
theorem eq_k_sched_Table_Stack (a b : AV) (h : Heap) : k_sched_Table_Stack a b h = bodyK Tryz.prog (lookT T2) ann 21 [a, b] h := by kernel_rfl
theorem okT3 : CallOk Tryz.prog (lookT T3) := lookT_cons good mixed okT2 (of_p2 eq_k_sched_Table_Stack)
theorem eq_k_law16_holder_Stack (a b : AV) (h : Heap) : k_law16_holder_Stack a b h = bodyK Tryz.prog (lookT T3) ann 205 [a, b] h := by kernel_rfl
theorem okT4 : CallOk Tryz.prog (lookT T4) := lookT_cons good mixed okT3 (of_p2 eq_k_law16_holder_Stack)
theorem eq_k_law16_holder_Globals (a : AV) (h : Heap) : k_law16_holder_Globals a h = bodyK Tryz.prog (lookT T4) ann 204 [a] h := by kernel_rfl
theorem okT5 : CallOk Tryz.prog (lookT T5) := lookT_cons good mixed okT4 (of_p1 eq_k_law16_holder_Globals)
theorem eq_k_frame_Stack_top (a : AV) (h : Heap) : k_frame_Stack_top a h = bodyK Tryz.prog (lookT T5) ann 115 [a] h := by kernel_rfl
theorem okT6 : CallOk Tryz.prog (lookT T6) := lookT_cons good mixed okT5 (of_p1 eq_k_frame_Stack_top)
theorem eq_k_frame_Stack_At (a b : AV) (h : Heap) : k_frame_Stack_At a b h = bodyK Tryz.prog (lookT T6) ann 89 [a, b] h := by kernel_rfl
theorem okT7 : CallOk Tryz.prog (lookT T7) := lookT_cons good mixed okT6 (of_p2 eq_k_frame_Stack_At)
theorem eq_k_frame_Stack_Get (a b : AV) (h : Heap) : k_frame_Stack_Get a b h = bodyK Tryz.prog (lookT T7) ann 141 [a, b] h := by kernel_rfl
theorem okT8 : CallOk Tryz.prog (lookT T8) := lookT_cons good mixed okT7 (of_p2 eq_k_frame_Stack_Get)
theorem eq_k_cycle_Cycle_Arena (a : AV) (h : Heap) : k_cycle_Cycle_Arena a h = bodyK Tryz.prog (lookT T8) ann 113 [a] h := by kernel_rfl
theorem okT9 : CallOk Tryz.prog (lookT T9) := lookT_cons good mixed okT8 (of_p1 eq_k_cycle_Cycle_Arena)
theorem eq_k_geom_Span (a : AV) (h : Heap) : k_geom_Span a h = bodyK Tryz.prog (lookT T9) ann 42 [a] h := by kernel_rfl
theorem okT10 : CallOk Tryz.prog (lookT T10) := lookT_cons good mixed okT9 (of_p1 eq_k_geom_Span)
theorem eq_k_arena_Arena_has (a b : AV) (h : Heap) : k_arena_Arena_has a b h = bodyK Tryz.prog (lookT T10) ann 78 [a, b] h := by kernel_rfl
theorem okT11 : CallOk Tryz.prog (lookT T11) := lookT_cons good mixed okT10 (of_p2 eq_k_arena_Arena_has)
theorem eq_k_arena_Arena_Class (a b : AV) (h : Heap) : k_arena_Arena_Class a b h = bodyK Tryz.prog (lookT T11) ann 41 [a, b] h := by kernel_rfl
theorem okT12 : CallOk Tryz.prog (lookT T12) := lookT_cons good mixed okT11 (of_p2 eq_k_arena_Arena_Class)
theorem eq_k_geom_Words (a : AV) (h : Heap) : k_geom_Words a h = bodyK Tryz.prog (lookT T12) ann 40 [a] h := by kernel_rfl
theorem okT13 : CallOk Tryz.prog (lookT T13) := lookT_cons good mixed okT12 (of_p1 eq_k_geom_Words)
theorem eq_k_geom_Place (a b : AV) (h : Heap) : k_geom_Place a b h = bodyK Tryz.prog (lookT T13) ann 107 [a, b] h := by kernel_rfl
theorem okT14 : CallOk Tryz.prog (lookT T14) := lookT_cons good mixed okT13 (of_p2 eq_k_geom_Place)
theorem eq_k_arena_Arena_find (a b : AV) (h : Heap) : k_arena_Arena_find a b h = bodyK Tryz.prog (lookT T14) ann 75 [a, b] h := by kernel_rfl
theorem okT15 : CallOk Tryz.prog (lookT T15) := lookT_cons good mixed okT14 (of_p2 eq_k_arena_Arena_find)
theorem eq_k_arena_Arena_word (a b c : AV) (h : Heap) : k_arena_Arena_word a b c h = bodyK Tryz.prog (lookT T15) ann 76 [a, b, c] h := by kernel_rfl
theorem okT16 : CallOk Tryz.prog (lookT T16) := lookT_cons good mixed okT15 (of_p3 eq_k_arena_Arena_word)
theorem eq_k_arena_Arena_Read (a b c : AV) (h : Heap) : k_arena_Arena_Read a b c h = bodyK Tryz.prog (lookT T16) ann 38 [a, b, c] h := by kernel_rfl
theorem okT17 : CallOk Tryz.prog (lookT T17) := lookT_cons good mixed okT16 (of_p3 eq_k_arena_Arena_Read)
theorem eq_k_bits_within (a b : AV) (h : Heap) : k_bits_within a b h = bodyK Tryz.prog (lookT T17) ann 82 [a, b] h := by kernel_rfl
theorem okT18 : CallOk Tryz.prog (lookT T18) := lookT_cons good mixed okT17 (of_p2 eq_k_bits_within)
theorem eq_k_bits_mask (a : AV) (h : Heap) : k_bits_mask a h = bodyK Tryz.prog (lookT T18) ann 83 [a] h := by kernel_rfl
theorem okT19 : CallOk Tryz.prog (lookT T19) := lookT_cons good mixed okT18 (of_p1 eq_k_bits_mask)
theorem eq_k_bits_Field (a b c : AV) (h : Heap) : k_bits_Field a b c h = bodyK Tryz.prog (lookT T19) ann 77 [a, b, c] h := by kernel_rfl
theorem okT20 : CallOk Tryz.prog (lookT T20) := lookT_cons good mixed okT19 (of_p3 eq_k_bits_Field)
theorem eq_k_head_may (a : AV) (h : Heap) : k_head_may a h = bodyK Tryz.prog (lookT T20) ann 50 [a] h := by kernel_rfl
theorem okT21 : CallOk Tryz.prog (lookT T21) := lookT_cons good mixed okT20 (of_p1 eq_k_head_may)
theorem eq_k_head_Unpack (a : AV) (h : Heap) : k_head_Unpack a h = bodyK Tryz.prog (lookT T21) ann 39 [a] h := by kernel_rfl
theorem okT22 : CallOk Tryz.prog (lookT T22) := lookT_cons good mixed okT21 (of_p1 eq_k_head_Unpack)
theorem eq_k_cycle_Cycle_Table (a : AV) (h : Heap) : k_cycle_Cycle_Table a h = bodyK Tryz.prog (lookT T22) ann 85 [a] h := by kernel_rfl
theorem okT23 : CallOk Tryz.prog (lookT T23) := lookT_cons good mixed okT22 (of_p1 eq_k_cycle_Cycle_Table)
theorem eq_k_head_Table_Shape (a b : AV) (h : Heap) : k_head_Table_Shape a b h = bodyK Tryz.prog (lookT T23) ann 43 [a, b] h := by kernel_rfl
theorem okT24 : CallOk Tryz.prog (lookT T24) := lookT_cons good mixed okT23 (of_p2 eq_k_head_Table_Shape)
theorem eq_k_heap_Heap_Of (a b : AV) (h : Heap) : k_heap_Heap_Of a b h = bodyK Tryz.prog (lookT T24) ann 170 [a, b] h := by kernel_rfl
theorem okT25 : CallOk Tryz.prog (lookT T25) := lookT_cons good mixed okT24 (of_p2 eq_k_heap_Heap_Of)
theorem eq_k_chans_is (a b : AV) (h : Heap) : k_chans_is a b h = bodyK Tryz.prog (lookT T25) ann 144 [a, b] h := rfl
theorem okT26 : CallOk Tryz.prog (lookT T26) := lookT_cons good mixed okT25 (of_p2 eq_k_chans_is)
theorem eq_k_chans_Is (a b c : AV) (h : Heap) : k_chans_Is a b c h = bodyK Tryz.prog (lookT T26) ann 142 [a, b, c] h := rfl
theorem okT27 : CallOk Tryz.prog (lookT T27) := lookT_cons good mixed okT26 (of_p3 eq_k_chans_Is)
theorem eq_k_slices_Clone_int64_int64 (a : AV) (h : Heap) : k_slices_Clone_int64_int64 a h = bodyK Tryz.prog (lookT T27) ann 45 [a] h := by kernel_rfl
theorem okT28 : CallOk Tryz.prog (lookT T28) := lookT_cons good mixed okT27 (of_p1 eq_k_slices_Clone_int64_int64)
theorem eq_k_frame_clone (a : AV) (h : Heap) : k_frame_clone a h = bodyK Tryz.prog (lookT T28) ann 169 [a] h := by kernel_rfl
theorem okT29 : CallOk Tryz.prog (lookT T29) := lookT_cons good mixed okT28 (of_p1 eq_k_frame_clone)
theorem eq_k_frame_Stack_Top (a : AV) (h : Heap) : k_frame_Stack_Top a h = bodyK Tryz.prog (lookT T29) ann 143 [a] h := by kernel_rfl
theorem okT30 : CallOk Tryz.prog (lookT T30) := lookT_cons good mixed okT29 (of_p1 eq_k_frame_Stack_Top)
theorem eq_k_sched_Table_offered (a b c d e f g : AV) (h : Heap) : k_sched_Table_offered a b c d e f g h = bodyK Tryz.prog (lookT T30) ann 116 [a, b, c, d, e, f, g] h := rfl
theorem okT31 : CallOk Tryz.prog (lookT T31) := lookT_cons good mixed okT30 (of_p7 eq_k_sched_Table_offered)
theorem eq_k_sched_Table_offers (a b c d : AV) (h : Heap) : k_sched_Table_offers a b c d h = bodyK Tryz.prog (lookT T31) ann 90 [a, b, c, d] h := by kernel_rfl
theorem okT32 : CallOk Tryz.prog (lookT T32) := lookT_cons good mixed okT31 (of_p4 eq_k_sched_Table_offers)
theorem eq_k_heap_Heap_Cycle (a : AV) (h : Heap) : k_heap_Heap_Cycle a h = bodyK Tryz.prog (lookT T32) ann 114 [a] h := by kernel_rfl
theorem okT33 : CallOk Tryz.prog (lookT T33) := lookT_cons good mixed okT32 (of_p1 eq_k_heap_Heap_Cycle)
theorem eq_k_chans_get (a b c : AV) (h : Heap) : k_chans_get a b c h = bodyK Tryz.prog (lookT T33) ann 145 [a, b, c] h := by kernel_rfl
theorem okT34 : CallOk Tryz.prog (lookT T34) := lookT_cons good mixed okT33 (of_p3 eq_k_chans_get)
theorem eq_k_chans_Closed (a b : AV) (h : Heap) : k_chans_Closed a b h = bodyK Tryz.prog (lookT T34) ann 117 [a, b] h := by kernel_rfl
theorem okT35 : CallOk Tryz.prog (lookT T35) := lookT_cons good mixed okT34 (of_p2 eq_k_chans_Closed)
theorem eq_k_chans_Count (a b : AV) (h : Heap) : k_chans_Count a b h = bodyK Tryz.prog (lookT T35) ann 118 [a, b] h := by kernel_rfl
theorem okT36 : CallOk Tryz.prog (lookT T36) := lookT_cons good mixed okT35 (of_p2 eq_k_chans_Count)
theorem eq_k_chans_Room (a b : AV) (h : Heap) : k_chans_Room a b h = bodyK Tryz.prog (lookT T36) ann 119 [a, b] h := by kernel_rfl
theorem okT37 : CallOk Tryz.prog (lookT T37) := lookT_cons good mixed okT36 (of_p2 eq_k_chans_Room)
theorem okT38 : CallOk Tryz.prog (lookT T38) := lookT_keys okT37 keys61Lays (by rfl) (by rfl)
theorem okT39 : CallOk Tryz.prog (lookT T39) := lookT_sorted okT38 sorted60Lays keys61Lays sort96Lays (by rfl) (by rfl) (by rfl)
theorem eq_k_sched_Table_IDs (a : AV) (h : Heap) : k_sched_Table_IDs a h = bodyK Tryz.prog (lookT T39) ann 20 [a] h := by kernel_rfl
theorem okT40 : CallOk Tryz.prog (lookT T40) := lookT_cons good mixed okT39 (of_p1 eq_k_sched_Table_IDs)
theorem eq_k_sched_Table_partners (a b c d : AV) (h : Heap) : k_sched_Table_partners a b c d h = bodyK Tryz.prog (lookT T40) ann 120 [a, b, c, d] h := by kernel_rfl
theorem okT41 : CallOk Tryz.prog (lookT T41) := lookT_cons good mixed okT40 (of_p4 eq_k_sched_Table_partners)
theorem eq_k_sched_Table_ways (a b c d : AV) (h : Heap) : k_sched_Table_ways a b c d h = bodyK Tryz.prog (lookT T41) ann 91 [a, b, c, d] h := by kernel_rfl
theorem okT42 : CallOk Tryz.prog (lookT T42) := lookT_cons good mixed okT41 (of_p4 eq_k_sched_Table_ways)
theorem eq_k_sched_Table_Ways (a b c : AV) (h : Heap) : k_sched_Table_Ways a b c h = bodyK Tryz.prog (lookT T42) ann 56 [a, b, c] h := by kernel_rfl
theorem okT43 : CallOk Tryz.prog (lookT T43) := lookT_cons good mixed okT42 (of_p3 eq_k_sched_Table_Ways)
theorem eq_k_sched_Table_Enabled_1 (a b c : AV) (h : Heap) : k_sched_Table_Enabled_1 a b c h = bodyK Tryz.prog (lookT T43) ann 93 [a, b, c] h := by kernel_rfl
theorem okT44 : CallOk Tryz.prog (lookT T44) := lookT_cons good mixed okT43 (of_p3 eq_k_sched_Table_Enabled_1)
theorem eq_k_law16_module (h : Heap) : k_law16_module h = bodyK Tryz.prog (lookT T44) ann 17 [] h := rfl
theorem okT45 : CallOk Tryz.prog (lookT T45) := lookT_cons good mixed okT44 (of_p0 eq_k_law16_module)
theorem eq_k_arena_New (a : AV) (h : Heap) : k_arena_New a h = bodyK Tryz.prog (lookT T45) ann 23 [a] h := by kernel_rfl
theorem okT46 : CallOk Tryz.prog (lookT T46) := lookT_cons good mixed okT45 (of_p1 eq_k_arena_New)
theorem eq_k_head_New (h : Heap) : k_head_New h = bodyK Tryz.prog (lookT T46) ann 24 [] h := by kernel_rfl
theorem okT47 : CallOk Tryz.prog (lookT T47) := lookT_cons good mixed okT46 (of_p0 eq_k_head_New)
theorem eq_k_arena_Arena_Spans (a : AV) (h : Heap) : k_arena_Arena_Spans a h = bodyK Tryz.prog (lookT T47) ann 63 [a] h := by kernel_rfl
theorem okT48 : CallOk Tryz.prog (lookT T48) := lookT_cons good mixed okT47 (of_p1 eq_k_arena_Arena_Spans)
theorem eq_k_alloc_New (a : AV) (h : Heap) : k_alloc_New a h = bodyK Tryz.prog (lookT T48) ann 27 [a] h := by kernel_rfl
theorem okT49 : CallOk Tryz.prog (lookT T49) := lookT_cons good mixed okT48 (of_p1 eq_k_alloc_New)
theorem eq_k_grey_New (h : Heap) : k_grey_New h = bodyK Tryz.prog (lookT T49) ann 62 [] h := by kernel_rfl
theorem okT50 : CallOk Tryz.prog (lookT T50) := lookT_cons good mixed okT49 (of_p0 eq_k_grey_New)
theorem eq_k_mark_New (a b : AV) (h : Heap) : k_mark_New a b h = bodyK Tryz.prog (lookT T50) ann 25 [a, b] h := by kernel_rfl
theorem okT51 : CallOk Tryz.prog (lookT T51) := lookT_cons good mixed okT50 (of_p2 eq_k_mark_New)
theorem eq_k_cycle_New (a : AV) (h : Heap) : k_cycle_New a h = bodyK Tryz.prog (lookT T51) ann 84 [a] h := by kernel_rfl
theorem okT52 : CallOk Tryz.prog (lookT T52) := lookT_cons good mixed okT51 (of_p1 eq_k_cycle_New)
theorem eq_k_head_Good (a : AV) (h : Heap) : k_head_Good a h = bodyK Tryz.prog (lookT T52) ann 64 [a] h := by kernel_rfl
theorem okT53 : CallOk Tryz.prog (lookT T53) := lookT_cons good mixed okT52 (of_p1 eq_k_head_Good)
theorem eq_k_head_Table_Number (a b : AV) (h : Heap) : k_head_Table_Number a b h = bodyK Tryz.prog (lookT T53) ann 30 [a, b] h := by kernel_rfl
theorem okT54 : CallOk Tryz.prog (lookT T54) := lookT_cons good mixed okT53 (of_p2 eq_k_head_Table_Number)
theorem eq_k_slices_Clone_head_Shape_head_Shape (a : AV) (h : Heap) : k_slices_Clone_head_Shape_head_Shape a h = bodyK Tryz.prog (lookT T54) ann 86 [a] h := by kernel_rfl
theorem okT55 : CallOk Tryz.prog (lookT T55) := lookT_cons good mixed okT54 (of_p1 eq_k_slices_Clone_head_Shape_head_Shape)
theorem eq_k_heap_New (a b : AV) (h : Heap) : k_heap_New a b h = bodyK Tryz.prog (lookT T55) ann 54 [a, b] h := by kernel_rfl
theorem okT56 : CallOk Tryz.prog (lookT T56) := lookT_cons good mixed okT55 (of_p2 eq_k_heap_New)
theorem eq_k_sched_New (a : AV) (h : Heap) : k_sched_New a h = bodyK Tryz.prog (lookT T56) ann 16 [a] h := by kernel_rfl
theorem okT57 : CallOk Tryz.prog (lookT T57) := lookT_cons good mixed okT56 (of_p1 eq_k_sched_New)
theorem eq_k_geom_Class (a : AV) (h : Heap) : k_geom_Class a h = bodyK Tryz.prog (lookT T57) ann 65 [a] h := by kernel_rfl
theorem okT58 : CallOk Tryz.prog (lookT T58) := lookT_cons good mixed okT57 (of_p1 eq_k_geom_Class)
theorem eq_k_mbits_OnesCount64 (a : AV) (h : Heap) : k_mbits_OnesCount64 a h = bodyK Tryz.prog (lookT T58) ann 155 [a] h := by kernel_rfl
theorem okT59 : CallOk Tryz.prog (lookT T59) := lookT_cons good mixed okT58 (of_p1 eq_k_mbits_OnesCount64)
theorem eq_k_bits_Ones (a : AV) (h : Heap) : k_bits_Ones a h = bodyK Tryz.prog (lookT T59) ann 124 [a] h := by kernel_rfl
theorem okT60 : CallOk Tryz.prog (lookT T60) := lookT_cons good mixed okT59 (of_p1 eq_k_bits_Ones)
theorem eq_k_arena_Arena_Sweep (a b : AV) (h : Heap) : k_arena_Arena_Sweep a b h = bodyK Tryz.prog (lookT T60) ann 98 [a, b] h := by kernel_rfl
theorem okT61 : CallOk Tryz.prog (lookT T61) := lookT_cons good mixed okT60 (of_p2 eq_k_arena_Arena_Sweep)
theorem eq_k_alloc_Alloc_sweep (a b : AV) (h : Heap) : k_alloc_Alloc_sweep a b h = bodyK Tryz.prog (lookT T61) ann 66 [a, b] h := by kernel_rfl
theorem okT62 : CallOk Tryz.prog (lookT T62) := lookT_cons good mixed okT61 (of_p2 eq_k_alloc_Alloc_sweep)
theorem eq_k_arena_Arena_Taken (a b : AV) (h : Heap) : k_arena_Arena_Taken a b h = bodyK Tryz.prog (lookT T62) ann 67 [a, b] h := by kernel_rfl
theorem okT63 : CallOk Tryz.prog (lookT T63) := lookT_cons good mixed okT62 (of_p2 eq_k_arena_Arena_Taken)
theorem eq_k_geom_Places (a : AV) (h : Heap) : k_geom_Places a h = bodyK Tryz.prog (lookT T63) ann 99 [a] h := by kernel_rfl
theorem okT64 : CallOk Tryz.prog (lookT T64) := lookT_cons good mixed okT63 (of_p1 eq_k_geom_Places)
theorem eq_k_bits_With (a b c d : AV) (h : Heap) : k_bits_With a b c d h = bodyK Tryz.prog (lookT T64) ann 51 [a, b, c, d] h := by kernel_rfl
theorem okT65 : CallOk Tryz.prog (lookT T65) := lookT_cons good mixed okT64 (of_p4 eq_k_bits_With)
theorem eq_k_geom_Full (a : AV) (h : Heap) : k_geom_Full a h = bodyK Tryz.prog (lookT T65) ann 68 [a] h := by kernel_rfl
theorem okT66 : CallOk Tryz.prog (lookT T66) := lookT_cons good mixed okT65 (of_p1 eq_k_geom_Full)
theorem eq_k_mbits_TrailingZeros64 (a : AV) (h : Heap) : k_mbits_TrailingZeros64 a h = bodyK Tryz.prog (lookT T66) ann 125 [a] h := by kernel_rfl
theorem okT67 : CallOk Tryz.prog (lookT T67) := lookT_cons good mixed okT66 (of_p1 eq_k_mbits_TrailingZeros64)
theorem eq_k_bits_First (a : AV) (h : Heap) : k_bits_First a h = bodyK Tryz.prog (lookT T67) ann 100 [a] h := by kernel_rfl
theorem okT68 : CallOk Tryz.prog (lookT T68) := lookT_cons good mixed okT67 (of_p1 eq_k_bits_First)
theorem eq_k_geom_Addr (a b c : AV) (h : Heap) : k_geom_Addr a b c h = bodyK Tryz.prog (lookT T68) ann 101 [a, b, c] h := by kernel_rfl
theorem okT69 : CallOk Tryz.prog (lookT T69) := lookT_cons good mixed okT68 (of_p3 eq_k_geom_Addr)
theorem eq_k_arena_Arena_Take (a b : AV) (h : Heap) : k_arena_Arena_Take a b h = bodyK Tryz.prog (lookT T69) ann 69 [a, b] h := by kernel_rfl
theorem okT70 : CallOk Tryz.prog (lookT T70) := lookT_cons good mixed okT69 (of_p2 eq_k_arena_Arena_Take)
theorem eq_k_arena_Arena_Set (a b c : AV) (h : Heap) : k_arena_Arena_Set a b c h = bodyK Tryz.prog (lookT T70) ann 102 [a, b, c] h := by kernel_rfl
theorem okT71 : CallOk Tryz.prog (lookT T71) := lookT_cons good mixed okT70 (of_p3 eq_k_arena_Arena_Set)
theorem eq_k_alloc_Alloc_begin (a b c : AV) (h : Heap) : k_alloc_Alloc_begin a b c h = bodyK Tryz.prog (lookT T71) ann 70 [a, b, c] h := by kernel_rfl
theorem okT72 : CallOk Tryz.prog (lookT T72) := lookT_cons good mixed okT71 (of_p3 eq_k_alloc_Alloc_begin)
theorem eq_k_alloc_Alloc_Take (a b : AV) (h : Heap) : k_alloc_Alloc_Take a b h = bodyK Tryz.prog (lookT T72) ann 32 [a, b] h := by kernel_rfl
theorem okT73 : CallOk Tryz.prog (lookT T73) := lookT_cons good mixed okT72 (of_p2 eq_k_alloc_Alloc_Take)
theorem eq_k_cycle_Cycle_shades (a : AV) (h : Heap) : k_cycle_Cycle_shades a h = bodyK Tryz.prog (lookT T73) ann 138 [a] h := by kernel_rfl
theorem okT74 : CallOk Tryz.prog (lookT T74) := lookT_cons good mixed okT73 (of_p1 eq_k_cycle_Cycle_shades)
theorem eq_k_arena_Arena_Mark (a b : AV) (h : Heap) : k_arena_Arena_Mark a b h = bodyK Tryz.prog (lookT T74) ann 36 [a, b] h := by kernel_rfl
theorem okT75 : CallOk Tryz.prog (lookT T75) := lookT_cons good mixed okT74 (of_p2 eq_k_arena_Arena_Mark)
theorem eq_k_cycle_Cycle_Take (a b : AV) (h : Heap) : k_cycle_Cycle_Take a b h = bodyK Tryz.prog (lookT T75) ann 111 [a, b] h := by kernel_rfl
theorem okT76 : CallOk Tryz.prog (lookT T76) := lookT_cons good mixed okT75 (of_p2 eq_k_cycle_Cycle_Take)
theorem eq_k_slices_Clone_int_int (a : AV) (h : Heap) : k_slices_Clone_int_int a h = bodyK Tryz.prog (lookT T76) ann 176 [a] h := by kernel_rfl
theorem okT77 : CallOk Tryz.prog (lookT T77) := lookT_cons good mixed okT76 (of_p1 eq_k_slices_Clone_int_int)
theorem eq_k_slices_IndexFunc_int_int (a b : AV) (h : Heap) : k_slices_IndexFunc_int_int a b h = bodyK Tryz.prog (lookT T77) ann 121 [a, b] h := by kernel_rfl
theorem okT78 : CallOk Tryz.prog (lookT T78) := lookT_cons good mixed okT77 (of_p2 eq_k_slices_IndexFunc_int_int)
theorem eq_k_slices_DeleteFunc_int_int (a b : AV) (h : Heap) : k_slices_DeleteFunc_int_int a b h = bodyK Tryz.prog (lookT T78) ann 92 [a, b] h := by kernel_rfl
theorem okT79 : CallOk Tryz.prog (lookT T79) := lookT_cons good mixed okT78 (of_p2 eq_k_slices_DeleteFunc_int_int)
theorem eq_k_slices_Min_int_int (a : AV) (h : Heap) : k_slices_Min_int_int a h = bodyK Tryz.prog (lookT T79) ann 178 [a] h := by kernel_rfl
theorem okT80 : CallOk Tryz.prog (lookT T80) := lookT_cons good mixed okT79 (of_p1 eq_k_slices_Min_int_int)
theorem eq_k_cycle_Cycle_next (a b : AV) (h : Heap) : k_cycle_Cycle_next a b h = bodyK Tryz.prog (lookT T80) ann 162 [a, b] h := by kernel_rfl
theorem okT81 : CallOk Tryz.prog (lookT T81) := lookT_cons good mixed okT80 (of_p2 eq_k_cycle_Cycle_next)
theorem eq_k_slices_Index_int_int (a b : AV) (h : Heap) : k_slices_Index_int_int a b h = bodyK Tryz.prog (lookT T81) ann 181 [a, b] h := by kernel_rfl
theorem okT82 : CallOk Tryz.prog (lookT T82) := lookT_cons good mixed okT81 (of_p2 eq_k_slices_Index_int_int)
theorem eq_k_slices_Contains_int_int (a b : AV) (h : Heap) : k_slices_Contains_int_int a b h = bodyK Tryz.prog (lookT T82) ann 179 [a, b] h := by kernel_rfl
theorem okT83 : CallOk Tryz.prog (lookT T83) := lookT_cons good mixed okT82 (of_p2 eq_k_slices_Contains_int_int)
theorem eq_k_grey_Queue_Add (a b : AV) (h : Heap) : k_grey_Queue_Add a b h = bodyK Tryz.prog (lookT T83) ann 37 [a, b] h := by kernel_rfl
theorem okT84 : CallOk Tryz.prog (lookT T84) := lookT_cons good mixed okT83 (of_p2 eq_k_grey_Queue_Add)
theorem eq_k_mark_Marker_Shade (a b : AV) (h : Heap) : k_mark_Marker_Shade a b h = bodyK Tryz.prog (lookT T84) ann 9 [a, b] h := by kernel_rfl
theorem okT85 : CallOk Tryz.prog (lookT T85) := lookT_cons good mixed okT84 (of_p2 eq_k_mark_Marker_Shade)
theorem eq_k_cycle_Cycle_shade (a b : AV) (h : Heap) : k_cycle_Cycle_shade a b h = bodyK Tryz.prog (lookT T85) ann 168 [a, b] h := by kernel_rfl
theorem okT86 : CallOk Tryz.prog (lookT T86) := lookT_cons good mixed okT85 (of_p2 eq_k_cycle_Cycle_shade)
theorem eq_k_cycle_Cycle_Scan (a b c : AV) (h : Heap) : k_cycle_Cycle_Scan a b c h = bodyK Tryz.prog (lookT T86) ann 163 [a, b, c] h := by kernel_rfl
theorem okT87 : CallOk Tryz.prog (lookT T87) := lookT_cons good mixed okT86 (of_p3 eq_k_cycle_Cycle_Scan)
theorem eq_k_grey_Queue_Next (a : AV) (h : Heap) : k_grey_Queue_Next a h = bodyK Tryz.prog (lookT T87) ann 35 [a] h := by kernel_rfl
theorem okT88 : CallOk Tryz.prog (lookT T88) := lookT_cons good mixed okT87 (of_p1 eq_k_grey_Queue_Next)
theorem eq_k_head_Shape_Holds (a b c : AV) (h : Heap) : k_head_Shape_Holds a b c h = bodyK Tryz.prog (lookT T88) ann 44 [a, b, c] h := by kernel_rfl
theorem okT89 : CallOk Tryz.prog (lookT T89) := lookT_cons good mixed okT88 (of_p3 eq_k_head_Shape_Holds)
theorem eq_k_mark_Marker_Fields (a b : AV) (h : Heap) : k_mark_Marker_Fields a b h = bodyK Tryz.prog (lookT T89) ann 10 [a, b] h := by kernel_rfl
theorem okT90 : CallOk Tryz.prog (lookT T90) := lookT_cons good mixed okT89 (of_p2 eq_k_mark_Marker_Fields)
theorem eq_k_mark_Marker_Step (a : AV) (h : Heap) : k_mark_Marker_Step a h = bodyK Tryz.prog (lookT T90) ann 8 [a] h := by kernel_rfl
theorem okT91 : CallOk Tryz.prog (lookT T91) := lookT_cons good mixed okT90 (of_p1 eq_k_mark_Marker_Step)
theorem eq_k_alloc_Alloc_Stale (a : AV) (h : Heap) : k_alloc_Alloc_Stale a h = bodyK Tryz.prog (lookT T91) ann 164 [a] h := by kernel_rfl
theorem okT92 : CallOk Tryz.prog (lookT T92) := lookT_cons good mixed okT91 (of_p1 eq_k_alloc_Alloc_Stale)
theorem eq_k_alloc_Alloc_SweepOne (a : AV) (h : Heap) : k_alloc_Alloc_SweepOne a h = bodyK Tryz.prog (lookT T92) ann 165 [a] h := by kernel_rfl
theorem okT93 : CallOk Tryz.prog (lookT T93) := lookT_cons good mixed okT92 (of_p1 eq_k_alloc_Alloc_SweepOne)
theorem eq_k_alloc_Alloc_Used (a : AV) (h : Heap) : k_alloc_Alloc_Used a h = bodyK Tryz.prog (lookT T93) ann 166 [a] h := by kernel_rfl
theorem okT94 : CallOk Tryz.prog (lookT T94) := lookT_cons good mixed okT93 (of_p1 eq_k_alloc_Alloc_Used)
theorem eq_k_cycle_Cycle_Step (a b : AV) (h : Heap) : k_cycle_Cycle_Step a b h = bodyK Tryz.prog (lookT T94) ann 139 [a, b] h := by kernel_rfl
theorem okT95 : CallOk Tryz.prog (lookT T95) := lookT_cons good mixed okT94 (of_p2 eq_k_cycle_Cycle_Step)
theorem eq_k_arena_Arena_Clear (a : AV) (h : Heap) : k_arena_Arena_Clear a h = bodyK Tryz.prog (lookT T95) ann 167 [a] h := by kernel_rfl
theorem okT96 : CallOk Tryz.prog (lookT T96) := lookT_cons good mixed okT95 (of_p1 eq_k_arena_Arena_Clear)
theorem eq_k_cycle_Cycle_Start (a b : AV) (h : Heap) : k_cycle_Cycle_Start a b h = bodyK Tryz.prog (lookT T96) ann 140 [a, b] h := by kernel_rfl
theorem okT97 : CallOk Tryz.prog (lookT T97) := lookT_cons good mixed okT96 (of_p2 eq_k_cycle_Cycle_Start)
theorem eq_k_cycle_Cycle_Whole (a b : AV) (h : Heap) : k_cycle_Cycle_Whole a b h = bodyK Tryz.prog (lookT T97) ann 112 [a, b] h := by kernel_rfl
theorem okT98 : CallOk Tryz.prog (lookT T98) := lookT_cons good mixed okT97 (of_p2 eq_k_cycle_Cycle_Whole)
theorem eq_k_head_Pack (a : AV) (h : Heap) : k_head_Pack a h = bodyK Tryz.prog (lookT T98) ann 13 [a] h := by kernel_rfl
theorem okT99 : CallOk Tryz.prog (lookT T99) := lookT_cons good mixed okT98 (of_p1 eq_k_head_Pack)
theorem eq_k_arena_Arena_Write (a b c d : AV) (h : Heap) : k_arena_Arena_Write a b c d h = bodyK Tryz.prog (lookT T99) ann 52 [a, b, c, d] h := by kernel_rfl
theorem okT100 : CallOk Tryz.prog (lookT T100) := lookT_cons good mixed okT99 (of_p4 eq_k_arena_Arena_Write)
theorem eq_k_heap_Heap_Make (a b c d : AV) (h : Heap) : k_heap_Heap_Make a b c d h = bodyK Tryz.prog (lookT T100) ann 87 [a, b, c, d] h := by kernel_rfl
theorem okT101 : CallOk Tryz.prog (lookT T101) := lookT_cons good mixed okT100 (of_p4 eq_k_heap_Heap_Make)
theorem eq_k_chans_set (a b c d : AV) (h : Heap) : k_chans_set a b c d h = bodyK Tryz.prog (lookT T101) ann 88 [a, b, c, d] h := by kernel_rfl
theorem okT102 : CallOk Tryz.prog (lookT T102) := lookT_cons good mixed okT101 (of_p4 eq_k_chans_set)
theorem eq_k_chans_Make (a b c d : AV) (h : Heap) : k_chans_Make a b c d h = bodyK Tryz.prog (lookT T102) ann 55 [a, b, c, d] h := by kernel_rfl
theorem okT103 : CallOk Tryz.prog (lookT T103) := lookT_cons good mixed okT102 (of_p4 eq_k_chans_Make)
theorem eq_k_frame_begin (a b c : AV) (h : Heap) : k_frame_begin a b c h = bodyK Tryz.prog (lookT T103) ann 94 [a, b, c] h := by kernel_rfl
theorem okT104 : CallOk Tryz.prog (lookT T104) := lookT_cons good mixed okT103 (of_p3 eq_k_frame_begin)
theorem eq_k_frame_New (a b c : AV) (h : Heap) : k_frame_New a b c h = bodyK Tryz.prog (lookT T104) ann 59 [a, b, c] h := by kernel_rfl
theorem okT105 : CallOk Tryz.prog (lookT T105) := lookT_cons good mixed okT104 (of_p3 eq_k_frame_New)
theorem eq_k_sched_Table_Add (a b c : AV) (h : Heap) : k_sched_Table_Add a b c h = bodyK Tryz.prog (lookT T105) ann 18 [a, b, c] h := by kernel_rfl
theorem okT106 : CallOk Tryz.prog (lookT T106) := lookT_cons good mixed okT105 (of_p3 eq_k_sched_Table_Add)
theorem eq_k_sched_Table_Enabled (a b : AV) (h : Heap) : k_sched_Table_Enabled a b h = bodyK Tryz.prog (lookT T106) ann 57 [a, b] h := by kernel_rfl
theorem okT107 : CallOk Tryz.prog (lookT T107) := lookT_cons good mixed okT106 (of_p2 eq_k_sched_Table_Enabled)
theorem eq_k_sched_Table_Drop (a b : AV) (h : Heap) : k_sched_Table_Drop a b h = bodyK Tryz.prog (lookT T107) ann 19 [a, b] h := by kernel_rfl
theorem okT108 : CallOk Tryz.prog (lookT T108) := lookT_cons good mixed okT107 (of_p2 eq_k_sched_Table_Drop)
theorem eq_k_ref17_Ints (a b : AV) (h : Heap) : k_ref17_Ints a b h = bodyK Tryz.prog (lookT T108) ann 58 [a, b] h := by kernel_rfl
theorem okT109 : CallOk Tryz.prog (lookT T109) := lookT_cons good mixed okT108 (of_p2 eq_k_ref17_Ints)
theorem eq_k_law16_awake (h : Heap) : k_law16_awake h = bodyK Tryz.prog (lookT T109) ann 15 [] h := by kernel_rfl
theorem okT110 : CallOk Tryz.prog (lookT T110) := lookT_cons good mixed okT109 (of_p0 eq_k_law16_awake)
theorem eq_k_law16_SchedKnown (h : Heap) : k_law16_SchedKnown h = bodyK Tryz.prog (lookT T110) ann 5 [] h := by kernel_rfl
theorem okT111 : CallOk Tryz.prog (lookT T111) := lookT_cons good mixed okT110 (of_p0 eq_k_law16_SchedKnown)
noncomputable def tab : Tab := T111
theorem okTab : CallOk Tryz.prog (lookT tab) := okT111
theorem look_law (h : Heap) : lookT tab 5 [] h = k_law16_SchedKnown h := by kernel_rfl
end Go.Proofs.YtdbmkdaoljbdoabGreatDoor.schedKnown