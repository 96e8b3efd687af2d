/- PRINTED by Gen.lean: each printed function does what the program's does. -/
import Derived.Test.YtmpinijdejafkaaDoorQuFn
import Derived.Test.YtmpinijdejafkaaDoorBs
import Derived.Test.YtmpinijdejafkaaDoorAbV
import Derived.Test.YtmpinijdejafkaaDoorAbQ
namespace Go.Proofs.YtmpinijdejafkaaDoor.qu
open Go Go.Ab Go.Ab.F
set_option linter.all false
noncomputable section
def lookD (L : Tab) : CallF := List.rec (motive := fun _ => CallF) (fun _ _ _ => none) (fun e _ ih f args h => bif Nat.beq e.1 f then e.2 args h else ih f args h) L
def pD0 (F : Heap → Option (AV × Heap)) : Prim | [], h => F h | _, _ => none
def pD1 (F : AV → Heap → Option (AV × Heap)) : Prim | [a], h => F a h | _, _ => none
def pD2 (F : AV → AV → Heap → Option (AV × Heap)) : Prim | [a, b], h => F a b h | _, _ => none
def pD3 (F : AV → AV → AV → Heap → Option (AV × Heap)) : Prim | [a, b, c], h => F a b c h | _, _ => none
def pD4 (F : AV → AV → AV → AV → Heap → Option (AV × Heap)) : Prim | [a, b, c, d], h => F a b c d h | _, _ => none
def pD5 (F : AV → AV → AV → AV → AV → Heap → Option (AV × Heap)) : Prim | [a, b, c, d, e], h => F a b c d e h | _, _ => none
def pD6 (F : AV → AV → AV → AV → AV → AV → Heap → Option (AV × Heap)) : Prim | [a, b, c, d, e, f], h => F a b c d e f h | _, _ => none
def pD7 (F : AV → AV → AV → AV → AV → AV → AV → Heap → Option (AV × Heap)) : Prim | [a, b, c, d, e, f, g], h => F a b c d e f g h | _, _ => none
def TD0 : Tab := []
def TD1 : Tab := (136, pD1 k_law14_nobody_Stacks) :: TD0
def TD2 : Tab := (140, pD1 k_law15_holder_Stacks) :: TD1
def TD3 : Tab := (103, pD2 k_cycle_Cycle_Black) :: TD2
def TD4 : Tab := (135, pD2 k_law14_nobody_Stack) :: TD3
def TD5 : Tab := (139, pD2 k_law15_holder_Stack) :: TD4
def TD6 : Tab := (134, pD1 k_law14_nobody_Globals) :: TD5
def TD7 : Tab := (138, pD1 k_law15_holder_Globals) :: TD6
def TD8 : Tab := (10, pD0 k_law14_shapes) :: TD7
def TD9 : Tab := (66, pD1 k_arena_New) :: TD8
def TD10 : Tab := (67, pD0 k_head_New) :: TD9
def TD11 : Tab := (90, pD1 k_arena_Arena_Spans) :: TD10
def TD12 : Tab := (68, pD1 k_alloc_New) :: TD11
def TD13 : Tab := (91, pD0 k_grey_New) :: TD12
def TD14 : Tab := (69, pD2 k_mark_New) :: TD13
def TD15 : Tab := (40, pD1 k_cycle_New) :: TD14
def TD16 : Tab := (41, pD1 k_cycle_Cycle_Table) :: TD15
def TD17 : Tab := (47, pD1 k_head_Good) :: TD16
def TD18 : Tab := (42, pD2 k_head_Table_Number) :: TD17
def TD19 : Tab := (43, pD1 k_slices_Clone_head_Shape_head_Shape) :: TD18
def TD20 : Tab := (11, pD2 k_heap_New) :: TD19
def TD21 : Tab := (23, pD1 k_heap_Heap_Cycle) :: TD20
def TD22 : Tab := (99, pD1 k_geom_Words) :: TD21
def TD23 : Tab := (92, pD1 k_geom_Class) :: TD22
def TD24 : Tab := (86, pD2 k_arena_Arena_has) :: TD23
def TD25 : Tab := (63, pD2 k_arena_Arena_Class) :: TD24
def TD26 : Tab := (116, pD1 k_mbits_OnesCount64) :: TD25
def TD27 : Tab := (108, pD1 k_bits_Ones) :: TD26
def TD28 : Tab := (109, pD2 k_arena_Arena_Sweep) :: TD27
def TD29 : Tab := (93, pD2 k_alloc_Alloc_sweep) :: TD28
def TD30 : Tab := (36, pD2 k_arena_Arena_Taken) :: TD29
def TD31 : Tab := (110, pD1 k_geom_Places) :: TD30
def TD32 : Tab := (97, pD2 k_bits_within) :: TD31
def TD33 : Tab := (98, pD1 k_bits_mask) :: TD32
def TD34 : Tab := (74, pD4 k_bits_With) :: TD33
def TD35 : Tab := (94, pD1 k_geom_Full) :: TD34
def TD36 : Tab := (117, pD1 k_mbits_TrailingZeros64) :: TD35
def TD37 : Tab := (111, pD1 k_bits_First) :: TD36
def TD38 : Tab := (112, pD3 k_geom_Addr) :: TD37
def TD39 : Tab := (95, pD2 k_arena_Arena_Take) :: TD38
def TD40 : Tab := (113, pD3 k_arena_Arena_Set) :: TD39
def TD41 : Tab := (96, pD3 k_alloc_Alloc_begin) :: TD40
def TD42 : Tab := (70, pD2 k_alloc_Alloc_Take) :: TD41
def TD43 : Tab := (71, pD1 k_cycle_Cycle_shades) :: TD42
def TD44 : Tab := (87, pD1 k_geom_Span) :: TD43
def TD45 : Tab := (88, pD2 k_geom_Place) :: TD44
def TD46 : Tab := (64, pD2 k_arena_Arena_find) :: TD45
def TD47 : Tab := (72, pD2 k_arena_Arena_Mark) :: TD46
def TD48 : Tab := (44, pD2 k_cycle_Cycle_Take) :: TD47
def TD49 : Tab := (102, pD1 k_slices_Clone_int_int) :: TD48
def TD50 : Tab := (114, pD2 k_slices_IndexFunc_int_int) :: TD49
def TD51 : Tab := (101, pD2 k_slices_DeleteFunc_int_int) :: TD50
def TD52 : Tab := (104, pD1 k_slices_Min_int_int) :: TD51
def TD53 : Tab := (78, pD2 k_cycle_Cycle_next) :: TD52
def TD54 : Tab := (115, pD2 k_slices_Index_int_int) :: TD53
def TD55 : Tab := (105, pD2 k_slices_Contains_int_int) :: TD54
def TD56 : Tab := (100, pD2 k_grey_Queue_Add) :: TD55
def TD57 : Tab := (77, pD2 k_mark_Marker_Shade) :: TD56
def TD58 : Tab := (85, pD2 k_cycle_Cycle_shade) :: TD57
def TD59 : Tab := (79, pD3 k_cycle_Cycle_Scan) :: TD58
def TD60 : Tab := (106, pD1 k_grey_Queue_Next) :: TD59
def TD61 : Tab := (75, pD3 k_arena_Arena_word) :: TD60
def TD62 : Tab := (50, pD3 k_arena_Arena_Read) :: TD61
def TD63 : Tab := (76, pD3 k_bits_Field) :: TD62
def TD64 : Tab := (73, pD1 k_head_may) :: TD63
def TD65 : Tab := (51, pD1 k_head_Unpack) :: TD64
def TD66 : Tab := (52, pD2 k_head_Table_Shape) :: TD65
def TD67 : Tab := (89, pD3 k_head_Shape_Holds) :: TD66
def TD68 : Tab := (107, pD2 k_mark_Marker_Fields) :: TD67
def TD69 : Tab := (80, pD1 k_mark_Marker_Step) :: TD68
def TD70 : Tab := (81, pD1 k_alloc_Alloc_Stale) :: TD69
def TD71 : Tab := (82, pD1 k_alloc_Alloc_SweepOne) :: TD70
def TD72 : Tab := (83, pD1 k_alloc_Alloc_Used) :: TD71
def TD73 : Tab := (61, pD2 k_cycle_Cycle_Step) :: TD72
def TD74 : Tab := (84, pD1 k_arena_Arena_Clear) :: TD73
def TD75 : Tab := (62, pD2 k_cycle_Cycle_Start) :: TD74
def TD76 : Tab := (34, pD2 k_cycle_Cycle_Whole) :: TD75
def TD77 : Tab := (45, pD1 k_head_Pack) :: TD76
def TD78 : Tab := (35, pD1 k_cycle_Cycle_Arena) :: TD77
def TD79 : Tab := (46, pD4 k_arena_Arena_Write) :: TD78
def TD80 : Tab := (12, pD4 k_heap_Heap_Make) :: TD79
def TD81 : Tab := (16, pD2 k_heap_Heap_Of) :: TD80
def TD82 : Tab := (65, pD4 k_heap_Heap_field) :: TD81
def TD83 : Tab := (38, pD4 k_heap_Heap_Get) :: TD82
def TD84 : Tab := (60, pD4 k_cycle_Cycle_Barrier) :: TD83
def TD85 : Tab := (54, pD6 k_heap_Heap_write) :: TD84
def TD86 : Tab := (39, pD7 k_heap_Heap_Set) :: TD85
end
theorem tdeq81 : lookT T81 = lookD TD81 := by kernel_rfl
theorem tdeq86 : lookT T86 = lookD TD86 := by kernel_rfl
theorem okT0 : CallOk Tryd.prog (lookT T0) := lookT_nil
theorem eq_k_law14_nobody_Stacks (a : AV) (h : Heap) : k_law14_nobody_Stacks a h = bodyK Tryd.prog (lookT T0) ann 136 [a] h := by kernel_rfl
theorem okT1 : CallOk Tryd.prog (lookT T1) := lookT_cons good mixed okT0 (of_p1 eq_k_law14_nobody_Stacks)
theorem eq_k_law15_holder_Stacks (a : AV) (h : Heap) : k_law15_holder_Stacks a h = bodyK Tryd.prog (lookT T1) ann 140 [a] h := by kernel_rfl
theorem okT2 : CallOk Tryd.prog (lookT T2) := lookT_cons good mixed okT1 (of_p1 eq_k_law15_holder_Stacks)
theorem eq_k_cycle_Cycle_Black (a b : AV) (h : Heap) : k_cycle_Cycle_Black a b h = bodyK Tryd.prog (lookT T2) ann 103 [a, b] h := by kernel_rfl
theorem okT3 : CallOk Tryd.prog (lookT T3) := lookT_cons good mixed okT2 (of_p2 eq_k_cycle_Cycle_Black)
theorem eq_k_law14_nobody_Stack (a b : AV) (h : Heap) : k_law14_nobody_Stack a b h = bodyK Tryd.prog (lookT T3) ann 135 [a, b] h := by kernel_rfl
theorem okT4 : CallOk Tryd.prog (lookT T4) := lookT_cons good mixed okT3 (of_p2 eq_k_law14_nobody_Stack)
theorem eq_k_law15_holder_Stack (a b : AV) (h : Heap) : k_law15_holder_Stack a b h = bodyK Tryd.prog (lookT T4) ann 139 [a, b] h := by kernel_rfl
theorem okT5 : CallOk Tryd.prog (lookT T5) := lookT_cons good mixed okT4 (of_p2 eq_k_law15_holder_Stack)
theorem eq_k_law14_nobody_Globals (a : AV) (h : Heap) : k_law14_nobody_Globals a h = bodyK Tryd.prog (lookT T5) ann 134 [a] h := by kernel_rfl
theorem okT6 : CallOk Tryd.prog (lookT T6) := lookT_cons good mixed okT5 (of_p1 eq_k_law14_nobody_Globals)
theorem eq_k_law15_holder_Globals (a : AV) (h : Heap) : k_law15_holder_Globals a h = bodyK Tryd.prog (lookT T6) ann 138 [a] h := by kernel_rfl
theorem okT7 : CallOk Tryd.prog (lookT T7) := lookT_cons good mixed okT6 (of_p1 eq_k_law15_holder_Globals)
theorem eq_k_law14_shapes (h : Heap) : k_law14_shapes h = bodyK Tryd.prog (lookT T7) ann 10 [] h := by kernel_rfl
theorem okT8 : CallOk Tryd.prog (lookT T8) := lookT_cons good mixed okT7 (of_p0 eq_k_law14_shapes)
theorem eq_k_arena_New (a : AV) (h : Heap) : k_arena_New a h = bodyK Tryd.prog (lookT T8) ann 66 [a] h := by kernel_rfl
theorem okT9 : CallOk Tryd.prog (lookT T9) := lookT_cons good mixed okT8 (of_p1 eq_k_arena_New)
theorem eq_k_head_New (h : Heap) : k_head_New h = bodyK Tryd.prog (lookT T9) ann 67 [] h := by kernel_rfl
theorem okT10 : CallOk Tryd.prog (lookT T10) := lookT_cons good mixed okT9 (of_p0 eq_k_head_New)
theorem eq_k_arena_Arena_Spans (a : AV) (h : Heap) : k_arena_Arena_Spans a h = bodyK Tryd.prog (lookT T10) ann 90 [a] h := by kernel_rfl
theorem okT11 : CallOk Tryd.prog (lookT T11) := lookT_cons good mixed okT10 (of_p1 eq_k_arena_Arena_Spans)
theorem eq_k_alloc_New (a : AV) (h : Heap) : k_alloc_New a h = bodyK Tryd.prog (lookT T11) ann 68 [a] h := by kernel_rfl
theorem okT12 : CallOk Tryd.prog (lookT T12) := lookT_cons good mixed okT11 (of_p1 eq_k_alloc_New)
theorem eq_k_grey_New (h : Heap) : k_grey_New h = bodyK Tryd.prog (lookT T12) ann 91 [] h := by kernel_rfl
theorem okT13 : CallOk Tryd.prog (lookT T13) := lookT_cons good mixed okT12 (of_p0 eq_k_grey_New)
theorem eq_k_mark_New (a b : AV) (h : Heap) : k_mark_New a b h = bodyK Tryd.prog (lookT T13) ann 69 [a, b] h := by kernel_rfl
theorem okT14 : CallOk Tryd.prog (lookT T14) := lookT_cons good mixed okT13 (of_p2 eq_k_mark_New)
theorem eq_k_cycle_New (a : AV) (h : Heap) : k_cycle_New a h = bodyK Tryd.prog (lookT T14) ann 40 [a] h := by kernel_rfl
theorem okT15 : CallOk Tryd.prog (lookT T15) := lookT_cons good mixed okT14 (of_p1 eq_k_cycle_New)
theorem eq_k_cycle_Cycle_Table (a : AV) (h : Heap) : k_cycle_Cycle_Table a h = bodyK Tryd.prog (lookT T15) ann 41 [a] h := by kernel_rfl
theorem okT16 : CallOk Tryd.prog (lookT T16) := lookT_cons good mixed okT15 (of_p1 eq_k_cycle_Cycle_Table)
theorem eq_k_head_Good (a : AV) (h : Heap) : k_head_Good a h = bodyK Tryd.prog (lookT T16) ann 47 [a] h := by kernel_rfl
theorem okT17 : CallOk Tryd.prog (lookT T17) := lookT_cons good mixed okT16 (of_p1 eq_k_head_Good)
theorem eq_k_head_Table_Number (a b : AV) (h : Heap) : k_head_Table_Number a b h = bodyK Tryd.prog (lookT T17) ann 42 [a, b] h := by kernel_rfl
theorem okT18 : CallOk Tryd.prog (lookT T18) := lookT_cons good mixed okT17 (of_p2 eq_k_head_Table_Number)
theorem eq_k_slices_Clone_head_Shape_head_Shape (a : AV) (h : Heap) : k_slices_Clone_head_Shape_head_Shape a h = bodyK Tryd.prog (lookT T18) ann 43 [a] h := by kernel_rfl
theorem okT19 : CallOk Tryd.prog (lookT T19) := lookT_cons good mixed okT18 (of_p1 eq_k_slices_Clone_head_Shape_head_Shape)
theorem eq_k_heap_New (a b : AV) (h : Heap) : k_heap_New a b h = bodyK Tryd.prog (lookT T19) ann 11 [a, b] h := by kernel_rfl
theorem okT20 : CallOk Tryd.prog (lookT T20) := lookT_cons good mixed okT19 (of_p2 eq_k_heap_New)
theorem eq_k_heap_Heap_Cycle (a : AV) (h : Heap) : k_heap_Heap_Cycle a h = bodyK Tryd.prog (lookT T20) ann 23 [a] h := by kernel_rfl
theorem okT21 : CallOk Tryd.prog (lookT T21) := lookT_cons good mixed okT20 (of_p1 eq_k_heap_Heap_Cycle)
theorem eq_k_geom_Words (a : AV) (h : Heap) : k_geom_Words a h = bodyK Tryd.prog (lookT T21) ann 99 [a] h := by kernel_rfl
theorem okT22 : CallOk Tryd.prog (lookT T22) := lookT_cons good mixed okT21 (of_p1 eq_k_geom_Words)
theorem eq_k_geom_Class (a : AV) (h : Heap) : k_geom_Class a h = bodyK Tryd.prog (lookT T22) ann 92 [a] h := by kernel_rfl
theorem okT23 : CallOk Tryd.prog (lookT T23) := lookT_cons good mixed okT22 (of_p1 eq_k_geom_Class)
theorem eq_k_arena_Arena_has (a b : AV) (h : Heap) : k_arena_Arena_has a b h = bodyK Tryd.prog (lookT T23) ann 86 [a, b] h := by kernel_rfl
theorem okT24 : CallOk Tryd.prog (lookT T24) := lookT_cons good mixed okT23 (of_p2 eq_k_arena_Arena_has)
theorem eq_k_arena_Arena_Class (a b : AV) (h : Heap) : k_arena_Arena_Class a b h = bodyK Tryd.prog (lookT T24) ann 63 [a, b] h := by kernel_rfl
theorem okT25 : CallOk Tryd.prog (lookT T25) := lookT_cons good mixed okT24 (of_p2 eq_k_arena_Arena_Class)
theorem eq_k_mbits_OnesCount64 (a : AV) (h : Heap) : k_mbits_OnesCount64 a h = bodyK Tryd.prog (lookT T25) ann 116 [a] h := by kernel_rfl
theorem okT26 : CallOk Tryd.prog (lookT T26) := lookT_cons good mixed okT25 (of_p1 eq_k_mbits_OnesCount64)
theorem eq_k_bits_Ones (a : AV) (h : Heap) : k_bits_Ones a h = bodyK Tryd.prog (lookT T26) ann 108 [a] h := by kernel_rfl
theorem okT27 : CallOk Tryd.prog (lookT T27) := lookT_cons good mixed okT26 (of_p1 eq_k_bits_Ones)
theorem eq_k_arena_Arena_Sweep (a b : AV) (h : Heap) : k_arena_Arena_Sweep a b h = bodyK Tryd.prog (lookT T27) ann 109 [a, b] h := by kernel_rfl
theorem okT28 : CallOk Tryd.prog (lookT T28) := lookT_cons good mixed okT27 (of_p2 eq_k_arena_Arena_Sweep)
theorem eq_k_alloc_Alloc_sweep (a b : AV) (h : Heap) : k_alloc_Alloc_sweep a b h = bodyK Tryd.prog (lookT T28) ann 93 [a, b] h := by kernel_rfl
theorem okT29 : CallOk Tryd.prog (lookT T29) := lookT_cons good mixed okT28 (of_p2 eq_k_alloc_Alloc_sweep)
theorem eq_k_arena_Arena_Taken (a b : AV) (h : Heap) : k_arena_Arena_Taken a b h = bodyK Tryd.prog (lookT T29) ann 36 [a, b] h := by kernel_rfl
theorem okT30 : CallOk Tryd.prog (lookT T30) := lookT_cons good mixed okT29 (of_p2 eq_k_arena_Arena_Taken)
theorem eq_k_geom_Places (a : AV) (h : Heap) : k_geom_Places a h = bodyK Tryd.prog (lookT T30) ann 110 [a] h := by kernel_rfl
theorem okT31 : CallOk Tryd.prog (lookT T31) := lookT_cons good mixed okT30 (of_p1 eq_k_geom_Places)
theorem eq_k_bits_within (a b : AV) (h : Heap) : k_bits_within a b h = bodyK Tryd.prog (lookT T31) ann 97 [a, b] h := by kernel_rfl
theorem okT32 : CallOk Tryd.prog (lookT T32) := lookT_cons good mixed okT31 (of_p2 eq_k_bits_within)
theorem eq_k_bits_mask (a : AV) (h : Heap) : k_bits_mask a h = bodyK Tryd.prog (lookT T32) ann 98 [a] h := by kernel_rfl
theorem okT33 : CallOk Tryd.prog (lookT T33) := lookT_cons good mixed okT32 (of_p1 eq_k_bits_mask)
theorem eq_k_bits_With (a b c d : AV) (h : Heap) : k_bits_With a b c d h = bodyK Tryd.prog (lookT T33) ann 74 [a, b, c, d] h := by kernel_rfl
theorem okT34 : CallOk Tryd.prog (lookT T34) := lookT_cons good mixed okT33 (of_p4 eq_k_bits_With)
theorem eq_k_geom_Full (a : AV) (h : Heap) : k_geom_Full a h = bodyK Tryd.prog (lookT T34) ann 94 [a] h := by kernel_rfl
theorem okT35 : CallOk Tryd.prog (lookT T35) := lookT_cons good mixed okT34 (of_p1 eq_k_geom_Full)
theorem eq_k_mbits_TrailingZeros64 (a : AV) (h : Heap) : k_mbits_TrailingZeros64 a h = bodyK Tryd.prog (lookT T35) ann 117 [a] h := by kernel_rfl
theorem okT36 : CallOk Tryd.prog (lookT T36) := lookT_cons good mixed okT35 (of_p1 eq_k_mbits_TrailingZeros64)
theorem eq_k_bits_First (a : AV) (h : Heap) : k_bits_First a h = bodyK Tryd.prog (lookT T36) ann 111 [a] h := by kernel_rfl
theorem okT37 : CallOk Tryd.prog (lookT T37) := lookT_cons good mixed okT36 (of_p1 eq_k_bits_First)
theorem eq_k_geom_Addr (a b c : AV) (h : Heap) : k_geom_Addr a b c h = bodyK Tryd.prog (lookT T37) ann 112 [a, b, c] h := by kernel_rfl
theorem okT38 : CallOk Tryd.prog (lookT T38) := lookT_cons good mixed okT37 (of_p3 eq_k_geom_Addr)
theorem eq_k_arena_Arena_Take (a b : AV) (h : Heap) : k_arena_Arena_Take a b h = bodyK Tryd.prog (lookT T38) ann 95 [a, b] h := by kernel_rfl
theorem okT39 : CallOk Tryd.prog (lookT T39) := lookT_cons good mixed okT38 (of_p2 eq_k_arena_Arena_Take)
theorem eq_k_arena_Arena_Set (a b c : AV) (h : Heap) : k_arena_Arena_Set a b c h = bodyK Tryd.prog (lookT T39) ann 113 [a, b, c] h := by kernel_rfl
theorem okT40 : CallOk Tryd.prog (lookT T40) := lookT_cons good mixed okT39 (of_p3 eq_k_arena_Arena_Set)
theorem eq_k_alloc_Alloc_begin (a b c : AV) (h : Heap) : k_alloc_Alloc_begin a b c h = bodyK Tryd.prog (lookT T40) ann 96 [a, b, c] h := by kernel_rfl
theorem okT41 : CallOk Tryd.prog (lookT T41) := lookT_cons good mixed okT40 (of_p3 eq_k_alloc_Alloc_begin)
theorem eq_k_alloc_Alloc_Take (a b : AV) (h : Heap) : k_alloc_Alloc_Take a b h = bodyK Tryd.prog (lookT T41) ann 70 [a, b] h := by kernel_rfl
theorem okT42 : CallOk Tryd.prog (lookT T42) := lookT_cons good mixed okT41 (of_p2 eq_k_alloc_Alloc_Take)
theorem eq_k_cycle_Cycle_shades (a : AV) (h : Heap) : k_cycle_Cycle_shades a h = bodyK Tryd.prog (lookT T42) ann 71 [a] h := by kernel_rfl
theorem okT43 : CallOk Tryd.prog (lookT T43) := lookT_cons good mixed okT42 (of_p1 eq_k_cycle_Cycle_shades)
theorem eq_k_geom_Span (a : AV) (h : Heap) : k_geom_Span a h = bodyK Tryd.prog (lookT T43) ann 87 [a] h := by kernel_rfl
theorem okT44 : CallOk Tryd.prog (lookT T44) := lookT_cons good mixed okT43 (of_p1 eq_k_geom_Span)
theorem eq_k_geom_Place (a b : AV) (h : Heap) : k_geom_Place a b h = bodyK Tryd.prog (lookT T44) ann 88 [a, b] h := by kernel_rfl
theorem okT45 : CallOk Tryd.prog (lookT T45) := lookT_cons good mixed okT44 (of_p2 eq_k_geom_Place)
theorem eq_k_arena_Arena_find (a b : AV) (h : Heap) : k_arena_Arena_find a b h = bodyK Tryd.prog (lookT T45) ann 64 [a, b] h := by kernel_rfl
theorem okT46 : CallOk Tryd.prog (lookT T46) := lookT_cons good mixed okT45 (of_p2 eq_k_arena_Arena_find)
theorem eq_k_arena_Arena_Mark (a b : AV) (h : Heap) : k_arena_Arena_Mark a b h = bodyK Tryd.prog (lookT T46) ann 72 [a, b] h := by kernel_rfl
theorem okT47 : CallOk Tryd.prog (lookT T47) := lookT_cons good mixed okT46 (of_p2 eq_k_arena_Arena_Mark)
theorem eq_k_cycle_Cycle_Take (a b : AV) (h : Heap) : k_cycle_Cycle_Take a b h = bodyK Tryd.prog (lookT T47) ann 44 [a, b] h := by kernel_rfl
theorem okT48 : CallOk Tryd.prog (lookT T48) := lookT_cons good mixed okT47 (of_p2 eq_k_cycle_Cycle_Take)
theorem eq_k_slices_Clone_int_int (a : AV) (h : Heap) : k_slices_Clone_int_int a h = bodyK Tryd.prog (lookT T48) ann 102 [a] h := by kernel_rfl
theorem okT49 : CallOk Tryd.prog (lookT T49) := lookT_cons good mixed okT48 (of_p1 eq_k_slices_Clone_int_int)
theorem eq_k_slices_IndexFunc_int_int (a b : AV) (h : Heap) : k_slices_IndexFunc_int_int a b h = bodyK Tryd.prog (lookT T49) ann 114 [a, b] h := by kernel_rfl
theorem okT50 : CallOk Tryd.prog (lookT T50) := lookT_cons good mixed okT49 (of_p2 eq_k_slices_IndexFunc_int_int)
theorem eq_k_slices_DeleteFunc_int_int (a b : AV) (h : Heap) : k_slices_DeleteFunc_int_int a b h = bodyK Tryd.prog (lookT T50) ann 101 [a, b] h := by kernel_rfl
theorem okT51 : CallOk Tryd.prog (lookT T51) := lookT_cons good mixed okT50 (of_p2 eq_k_slices_DeleteFunc_int_int)
theorem eq_k_slices_Min_int_int (a : AV) (h : Heap) : k_slices_Min_int_int a h = bodyK Tryd.prog (lookT T51) ann 104 [a] h := by kernel_rfl
theorem okT52 : CallOk Tryd.prog (lookT T52) := lookT_cons good mixed okT51 (of_p1 eq_k_slices_Min_int_int)
theorem eq_k_cycle_Cycle_next (a b : AV) (h : Heap) : k_cycle_Cycle_next a b h = bodyK Tryd.prog (lookT T52) ann 78 [a, b] h := by kernel_rfl
theorem okT53 : CallOk Tryd.prog (lookT T53) := lookT_cons good mixed okT52 (of_p2 eq_k_cycle_Cycle_next)
theorem eq_k_slices_Index_int_int (a b : AV) (h : Heap) : k_slices_Index_int_int a b h = bodyK Tryd.prog (lookT T53) ann 115 [a, b] h := by kernel_rfl
theorem okT54 : CallOk Tryd.prog (lookT T54) := lookT_cons good mixed okT53 (of_p2 eq_k_slices_Index_int_int)
theorem eq_k_slices_Contains_int_int (a b : AV) (h : Heap) : k_slices_Contains_int_int a b h = bodyK Tryd.prog (lookT T54) ann 105 [a, b] h := by kernel_rfl
theorem okT55 : CallOk Tryd.prog (lookT T55) := lookT_cons good mixed okT54 (of_p2 eq_k_slices_Contains_int_int)
theorem eq_k_grey_Queue_Add (a b : AV) (h : Heap) : k_grey_Queue_Add a b h = bodyK Tryd.prog (lookT T55) ann 100 [a, b] h := by kernel_rfl
theorem okT56 : CallOk Tryd.prog (lookT T56) := lookT_cons good mixed okT55 (of_p2 eq_k_grey_Queue_Add)
theorem eq_k_mark_Marker_Shade (a b : AV) (h : Heap) : k_mark_Marker_Shade a b h = bodyK Tryd.prog (lookT T56) ann 77 [a, b] h := by kernel_rfl
theorem okT57 : CallOk Tryd.prog (lookT T57) := lookT_cons good mixed okT56 (of_p2 eq_k_mark_Marker_Shade)
theorem eq_k_cycle_Cycle_shade (a b : AV) (h : Heap) : k_cycle_Cycle_shade a b h = bodyK Tryd.prog (lookT T57) ann 85 [a, b] h := by kernel_rfl
theorem okT58 : CallOk Tryd.prog (lookT T58) := lookT_cons good mixed okT57 (of_p2 eq_k_cycle_Cycle_shade)
theorem eq_k_cycle_Cycle_Scan (a b c : AV) (h : Heap) : k_cycle_Cycle_Scan a b c h = bodyK Tryd.prog (lookT T58) ann 79 [a, b, c] h := by kernel_rfl
theorem okT59 : CallOk Tryd.prog (lookT T59) := lookT_cons good mixed okT58 (of_p3 eq_k_cycle_Cycle_Scan)
theorem eq_k_grey_Queue_Next (a : AV) (h : Heap) : k_grey_Queue_Next a h = bodyK Tryd.prog (lookT T59) ann 106 [a] h := by kernel_rfl
theorem okT60 : CallOk Tryd.prog (lookT T60) := lookT_cons good mixed okT59 (of_p1 eq_k_grey_Queue_Next)
theorem eq_k_arena_Arena_word (a b c : AV) (h : Heap) : k_arena_Arena_word a b c h = bodyK Tryd.prog (lookT T60) ann 75 [a, b, c] h := by kernel_rfl
theorem okT61 : CallOk Tryd.prog (lookT T61) := lookT_cons good mixed okT60 (of_p3 eq_k_arena_Arena_word)
theorem eq_k_arena_Arena_Read (a b c : AV) (h : Heap) : k_arena_Arena_Read a b c h = bodyK Tryd.prog (lookT T61) ann 50 [a, b, c] h := by kernel_rfl
theorem okT62 : CallOk Tryd.prog (lookT T62) := lookT_cons good mixed okT61 (of_p3 eq_k_arena_Arena_Read)
theorem eq_k_bits_Field (a b c : AV) (h : Heap) : k_bits_Field a b c h = bodyK Tryd.prog (lookT T62) ann 76 [a, b, c] h := by kernel_rfl
theorem okT63 : CallOk Tryd.prog (lookT T63) := lookT_cons good mixed okT62 (of_p3 eq_k_bits_Field)
theorem eq_k_head_may (a : AV) (h : Heap) : k_head_may a h = bodyK Tryd.prog (lookT T63) ann 73 [a] h := by kernel_rfl
theorem okT64 : CallOk Tryd.prog (lookT T64) := lookT_cons good mixed okT63 (of_p1 eq_k_head_may)
theorem eq_k_head_Unpack (a : AV) (h : Heap) : k_head_Unpack a h = bodyK Tryd.prog (lookT T64) ann 51 [a] h := by kernel_rfl
theorem okT65 : CallOk Tryd.prog (lookT T65) := lookT_cons good mixed okT64 (of_p1 eq_k_head_Unpack)
theorem eq_k_head_Table_Shape (a b : AV) (h : Heap) : k_head_Table_Shape a b h = bodyK Tryd.prog (lookT T65) ann 52 [a, b] h := by kernel_rfl
theorem okT66 : CallOk Tryd.prog (lookT T66) := lookT_cons good mixed okT65 (of_p2 eq_k_head_Table_Shape)
theorem eq_k_head_Shape_Holds (a b c : AV) (h : Heap) : k_head_Shape_Holds a b c h = bodyK Tryd.prog (lookT T66) ann 89 [a, b, c] h := by kernel_rfl
theorem okT67 : CallOk Tryd.prog (lookT T67) := lookT_cons good mixed okT66 (of_p3 eq_k_head_Shape_Holds)
theorem eq_k_mark_Marker_Fields (a b : AV) (h : Heap) : k_mark_Marker_Fields a b h = bodyK Tryd.prog (lookT T67) ann 107 [a, b] h := by kernel_rfl
theorem okT68 : CallOk Tryd.prog (lookT T68) := lookT_cons good mixed okT67 (of_p2 eq_k_mark_Marker_Fields)
theorem eq_k_mark_Marker_Step (a : AV) (h : Heap) : k_mark_Marker_Step a h = bodyK Tryd.prog (lookT T68) ann 80 [a] h := by kernel_rfl
theorem okT69 : CallOk Tryd.prog (lookT T69) := lookT_cons good mixed okT68 (of_p1 eq_k_mark_Marker_Step)
theorem eq_k_alloc_Alloc_Stale (a : AV) (h : Heap) : k_alloc_Alloc_Stale a h = bodyK Tryd.prog (lookT T69) ann 81 [a] h := by kernel_rfl
theorem okT70 : CallOk Tryd.prog (lookT T70) := lookT_cons good mixed okT69 (of_p1 eq_k_alloc_Alloc_Stale)
theorem eq_k_alloc_Alloc_SweepOne (a : AV) (h : Heap) : k_alloc_Alloc_SweepOne a h = bodyK Tryd.prog (lookT T70) ann 82 [a] h := by kernel_rfl
theorem okT71 : CallOk Tryd.prog (lookT T71) := lookT_cons good mixed okT70 (of_p1 eq_k_alloc_Alloc_SweepOne)
theorem eq_k_alloc_Alloc_Used (a : AV) (h : Heap) : k_alloc_Alloc_Used a h = bodyK Tryd.prog (lookT T71) ann 83 [a] h := by kernel_rfl
theorem okT72 : CallOk Tryd.prog (lookT T72) := lookT_cons good mixed okT71 (of_p1 eq_k_alloc_Alloc_Used)
theorem eq_k_cycle_Cycle_Step (a b : AV) (h : Heap) : k_cycle_Cycle_Step a b h = bodyK Tryd.prog (lookT T72) ann 61 [a, b] h := by kernel_rfl
theorem okT73 : CallOk Tryd.prog (lookT T73) := lookT_cons good mixed okT72 (of_p2 eq_k_cycle_Cycle_Step)
theorem eq_k_arena_Arena_Clear (a : AV) (h : Heap) : k_arena_Arena_Clear a h = bodyK Tryd.prog (lookT T73) ann 84 [a] h := by kernel_rfl
theorem okT74 : CallOk Tryd.prog (lookT T74) := lookT_cons good mixed okT73 (of_p1 eq_k_arena_Arena_Clear)
theorem eq_k_cycle_Cycle_Start (a b : AV) (h : Heap) : k_cycle_Cycle_Start a b h = bodyK Tryd.prog (lookT T74) ann 62 [a, b] h := by kernel_rfl
theorem okT75 : CallOk Tryd.prog (lookT T75) := lookT_cons good mixed okT74 (of_p2 eq_k_cycle_Cycle_Start)
theorem eq_k_cycle_Cycle_Whole (a b : AV) (h : Heap) : k_cycle_Cycle_Whole a b h = bodyK Tryd.prog (lookT T75) ann 34 [a, b] h := by kernel_rfl
theorem okT76 : CallOk Tryd.prog (lookT T76) := lookT_cons good mixed okT75 (of_p2 eq_k_cycle_Cycle_Whole)
theorem eq_k_head_Pack (a : AV) (h : Heap) : k_head_Pack a h = bodyK Tryd.prog (lookT T76) ann 45 [a] h := by kernel_rfl
theorem okT77 : CallOk Tryd.prog (lookT T77) := lookT_cons good mixed okT76 (of_p1 eq_k_head_Pack)
theorem eq_k_cycle_Cycle_Arena (a : AV) (h : Heap) : k_cycle_Cycle_Arena a h = bodyK Tryd.prog (lookT T77) ann 35 [a] h := by kernel_rfl
theorem okT78 : CallOk Tryd.prog (lookT T78) := lookT_cons good mixed okT77 (of_p1 eq_k_cycle_Cycle_Arena)
theorem eq_k_arena_Arena_Write (a b c d : AV) (h : Heap) : k_arena_Arena_Write a b c d h = bodyK Tryd.prog (lookT T78) ann 46 [a, b, c, d] h := by kernel_rfl
theorem okT79 : CallOk Tryd.prog (lookT T79) := lookT_cons good mixed okT78 (of_p4 eq_k_arena_Arena_Write)
theorem eq_k_heap_Heap_Make (a b c d : AV) (h : Heap) : k_heap_Heap_Make a b c d h = bodyK Tryd.prog (lookT T79) ann 12 [a, b, c, d] h := by kernel_rfl
theorem okT80 : CallOk Tryd.prog (lookT T80) := lookT_cons good mixed okT79 (of_p4 eq_k_heap_Heap_Make)
theorem eq_k_heap_Heap_Of (a b : AV) (h : Heap) : k_heap_Heap_Of a b h = bodyK Tryd.prog (lookT T80) ann 16 [a, b] h := by kernel_rfl
theorem okT81 : CallOk Tryd.prog (lookT T81) := lookT_cons good mixed okT80 (of_p2 eq_k_heap_Heap_Of)
theorem eqv_k_heap_Heap_field (a b c d : AV) (h : Heap) : k_heap_Heap_field a b c d h = V.bodyK Tryd.prog (lookD TD81) ann 65 [a, b, c, d] h := by kernel_rfl
theorem eq_k_heap_Heap_field (a b c d : AV) (h : Heap) : k_heap_Heap_field a b c d h = bodyK Tryd.prog (lookT T81) ann 65 [a, b, c, d] h := by rw [← V.bodyK_eqv, tdeq81]; exact eqv_k_heap_Heap_field a b c d h
theorem okT82 : CallOk Tryd.prog (lookT T82) := lookT_cons good mixed okT81 (of_p4 eq_k_heap_Heap_field)
theorem eq_k_heap_Heap_Get (a b c d : AV) (h : Heap) : k_heap_Heap_Get a b c d h = bodyK Tryd.prog (lookT T82) ann 38 [a, b, c, d] h := by kernel_rfl
theorem okT83 : CallOk Tryd.prog (lookT T83) := lookT_cons good mixed okT82 (of_p4 eq_k_heap_Heap_Get)
theorem eq_k_cycle_Cycle_Barrier (a b c d : AV) (h : Heap) : k_cycle_Cycle_Barrier a b c d h = bodyK Tryd.prog (lookT T83) ann 60 [a, b, c, d] h := by kernel_rfl
theorem okT84 : CallOk Tryd.prog (lookT T84) := lookT_cons good mixed okT83 (of_p4 eq_k_cycle_Cycle_Barrier)
theorem eq_k_heap_Heap_write (a b c d e f : AV) (h : Heap) : k_heap_Heap_write a b c d e f h = bodyK Tryd.prog (lookT T84) ann 54 [a, b, c, d, e, f] h := by kernel_rfl
theorem okT85 : CallOk Tryd.prog (lookT T85) := lookT_cons good mixed okT84 (of_p6 eq_k_heap_Heap_write)
theorem eq_k_heap_Heap_Set (a b c d e f g : AV) (h : Heap) : k_heap_Heap_Set a b c d e f g h = bodyK Tryd.prog (lookT T85) ann 39 [a, b, c, d, e, f, g] h := by kernel_rfl
theorem okT86 : CallOk Tryd.prog (lookT T86) := lookT_cons good mixed okT85 (of_p7 eq_k_heap_Heap_Set)
theorem eqv_k_heap_Heap_element (a b c d : AV) (h : Heap) : k_heap_Heap_element a b c d h = V.bodyK Tryd.prog (lookD TD86) ann 53 [a, b, c, d] h := by kernel_rfl
theorem eq_k_heap_Heap_element (a b c d : AV) (h : Heap) : k_heap_Heap_element a b c d h = bodyK Tryd.prog (lookT T86) ann 53 [a, b, c, d] h := by rw [← V.bodyK_eqv, tdeq86]; exact eqv_k_heap_Heap_element a b c d h
theorem okT87 : CallOk Tryd.prog (lookT T87) := lookT_cons good mixed okT86 (of_p4 eq_k_heap_Heap_element)
theorem eq_k_heap_Heap_Put (a b c d e f g : AV) (h : Heap) : k_heap_Heap_Put a b c d e f g h = bodyK Tryd.prog (lookT T87) ann 19 [a, b, c, d, e, f, g] h := by kernel_rfl
theorem okT88 : CallOk Tryd.prog (lookT T88) := lookT_cons good mixed okT87 (of_p7 eq_k_heap_Heap_Put)
theorem eq_k_heap_Heap_At (a b c d : AV) (h : Heap) : k_heap_Heap_At a b c d h = bodyK Tryd.prog (lookT T88) ann 20 [a, b, c, d] h := by kernel_rfl
theorem okT89 : CallOk Tryd.prog (lookT T89) := lookT_cons good mixed okT88 (of_p4 eq_k_heap_Heap_At)
theorem eq_k_heap_Heap_Len (a b : AV) (h : Heap) : k_heap_Heap_Len a b h = bodyK Tryd.prog (lookT T89) ann 18 [a, b] h := by kernel_rfl
theorem okT90 : CallOk Tryd.prog (lookT T90) := lookT_cons good mixed okT89 (of_p2 eq_k_heap_Heap_Len)
theorem eq_k_slices_Index_head_Shape_head_Shape (a b : AV) (h : Heap) : k_slices_Index_head_Shape_head_Shape a b h = bodyK Tryd.prog (lookT T90) ann 48 [a, b] h := by kernel_rfl
theorem okT91 : CallOk Tryd.prog (lookT T91) := lookT_cons good mixed okT90 (of_p2 eq_k_slices_Index_head_Shape_head_Shape)
theorem eq_k_heap_Heap_Add (a b : AV) (h : Heap) : k_heap_Heap_Add a b h = bodyK Tryd.prog (lookT T91) ann 13 [a, b] h := by kernel_rfl
theorem okT92 : CallOk Tryd.prog (lookT T92) := lookT_cons good mixed okT91 (of_p2 eq_k_heap_Heap_Add)
theorem eq_k_heap_Heap_Forced (a : AV) (h : Heap) : k_heap_Heap_Forced a h = bodyK Tryd.prog (lookT T92) ann 17 [a] h := by kernel_rfl
theorem okT93 : CallOk Tryd.prog (lookT T93) := lookT_cons good mixed okT92 (of_p1 eq_k_heap_Heap_Forced)
theorem eq_k_law14_awakeR (h : Heap) : k_law14_awakeR h = bodyK Tryd.prog (lookT T93) ann 9 [] h := by kernel_rfl
theorem run_k_law14_awake : isTrue (k_law14_awakeR hQ1) = true := by kernel_rfl
theorem okT94R : CallOk Tryd.prog (lookT ((9, p0 k_law14_awakeR) :: T93)) := lookT_cons good mixed okT93 (of_p0 eq_k_law14_awakeR)
theorem okT94 : CallOk Tryd.prog (lookT T94) := by
  obtain ⟨g, hg⟩ := isTrue_some run_k_law14_awake
  exact lookT_quiet0 okT93 okT94R (base1 oneGlobal) hg rfl
theorem eq_k_ref1_Bit (a b : AV) (h : Heap) : k_ref1_Bit a b h = bodyK Tryd.prog (lookT T94) ann 49 [a, b] h := by kernel_rfl
theorem okT95 : CallOk Tryd.prog (lookT T95) := lookT_cons good mixed okT94 (of_p2 eq_k_ref1_Bit)
theorem eq_k_ref1_GoodShape (a : AV) (h : Heap) : k_ref1_GoodShape a h = bodyK Tryd.prog (lookT T95) ann 14 [a] h := by kernel_rfl
theorem okT96 : CallOk Tryd.prog (lookT T96) := lookT_cons good mixed okT95 (of_p1 eq_k_ref1_GoodShape)
theorem eq_k_law14_played (a b c : AV) (h : Heap) : k_law14_played a b c h = bodyK Tryd.prog (lookT T96) ann 15 [a, b, c] h := by kernel_rfl
theorem okT97 : CallOk Tryd.prog (lookT T97) := lookT_cons good mixed okT96 (of_p3 eq_k_law14_played)
theorem eq_k_law14_HeapPlays (a : AV) (h : Heap) : k_law14_HeapPlays a h = bodyK Tryd.prog (lookT T97) ann 3 [a] h := by kernel_rfl
theorem okT98 : CallOk Tryd.prog (lookT T98) := lookT_cons good mixed okT97 (of_p1 eq_k_law14_HeapPlays)
theorem eq_k_law14_HeapBounds (a b c : AV) (h : Heap) : k_law14_HeapBounds a b c h = bodyK Tryd.prog (lookT T98) ann 4 [a, b, c] h := by kernel_rfl
theorem okT99 : CallOk Tryd.prog (lookT T99) := lookT_cons good mixed okT98 (of_p3 eq_k_law14_HeapBounds)
theorem eq_k_ref1_Words (a : AV) (h : Heap) : k_ref1_Words a h = bodyK Tryd.prog (lookT T99) ann 55 [a] h := by kernel_rfl
theorem okT100 : CallOk Tryd.prog (lookT T100) := lookT_cons good mixed okT99 (of_p1 eq_k_ref1_Words)
theorem eq_k_ref1_Class (a : AV) (h : Heap) : k_ref1_Class a h = bodyK Tryd.prog (lookT T100) ann 22 [a] h := by kernel_rfl
theorem okT101 : CallOk Tryd.prog (lookT T101) := lookT_cons good mixed okT100 (of_p1 eq_k_ref1_Class)
theorem eq_k_ref1_Places (a : AV) (h : Heap) : k_ref1_Places a h = bodyK Tryd.prog (lookT T101) ann 21 [a] h := by kernel_rfl
theorem okT102 : CallOk Tryd.prog (lookT T102) := lookT_cons good mixed okT101 (of_p1 eq_k_ref1_Places)
theorem eq_k_cycle_Cycle_Done (a : AV) (h : Heap) : k_cycle_Cycle_Done a h = bodyK Tryd.prog (lookT T102) ann 24 [a] h := by kernel_rfl
theorem okT103 : CallOk Tryd.prog (lookT T103) := lookT_cons good mixed okT102 (of_p1 eq_k_cycle_Cycle_Done)
theorem eq_k_law14_HeapForced (a b c : AV) (h : Heap) : k_law14_HeapForced a b c h = bodyK Tryd.prog (lookT T103) ann 5 [a, b, c] h := by kernel_rfl
theorem okT104 : CallOk Tryd.prog (lookT T104) := lookT_cons good mixed okT103 (of_p3 eq_k_law14_HeapForced)
theorem eq_k_law15_shapes (h : Heap) : k_law15_shapes h = bodyK Tryd.prog (lookT T104) ann 26 [] h := by kernel_rfl
theorem okT105 : CallOk Tryd.prog (lookT T105) := lookT_cons good mixed okT104 (of_p0 eq_k_law15_shapes)
theorem eq_k_chans_set (a b c d : AV) (h : Heap) : k_chans_set a b c d h = bodyK Tryd.prog (lookT T105) ann 57 [a, b, c, d] h := by kernel_rfl
theorem okT106 : CallOk Tryd.prog (lookT T106) := lookT_cons good mixed okT105 (of_p4 eq_k_chans_set)
theorem eq_k_chans_Make (a b c d : AV) (h : Heap) : k_chans_Make a b c d h = bodyK Tryd.prog (lookT T106) ann 27 [a, b, c, d] h := by kernel_rfl
theorem okT107 : CallOk Tryd.prog (lookT T107) := lookT_cons good mixed okT106 (of_p4 eq_k_chans_Make)
theorem eq_k_chans_is (a b : AV) (h : Heap) : k_chans_is a b h = bodyK Tryd.prog (lookT T107) ann 58 [a, b] h := by kernel_rfl
theorem okT108 : CallOk Tryd.prog (lookT T108) := lookT_cons good mixed okT107 (of_p2 eq_k_chans_is)
theorem eq_k_chans_get (a b c : AV) (h : Heap) : k_chans_get a b c h = bodyK Tryd.prog (lookT T108) ann 59 [a, b, c] h := by kernel_rfl
theorem okT109 : CallOk Tryd.prog (lookT T109) := lookT_cons good mixed okT108 (of_p3 eq_k_chans_get)
theorem eq_k_chans_Closed (a b : AV) (h : Heap) : k_chans_Closed a b h = bodyK Tryd.prog (lookT T109) ann 33 [a, b] h := by kernel_rfl
theorem okT110 : CallOk Tryd.prog (lookT T110) := lookT_cons good mixed okT109 (of_p2 eq_k_chans_Closed)
theorem eq_k_chans_Count (a b : AV) (h : Heap) : k_chans_Count a b h = bodyK Tryd.prog (lookT T110) ann 32 [a, b] h := by kernel_rfl
theorem okT111 : CallOk Tryd.prog (lookT T111) := lookT_cons good mixed okT110 (of_p2 eq_k_chans_Count)
theorem eq_k_chans_Room (a b : AV) (h : Heap) : k_chans_Room a b h = bodyK Tryd.prog (lookT T111) ann 28 [a, b] h := by kernel_rfl
theorem okT112 : CallOk Tryd.prog (lookT T112) := lookT_cons good mixed okT111 (of_p2 eq_k_chans_Room)
theorem eq_k_chans_Push (a b c d : AV) (h : Heap) : k_chans_Push a b c d h = bodyK Tryd.prog (lookT T112) ann 29 [a, b, c, d] h := by kernel_rfl
theorem okT113 : CallOk Tryd.prog (lookT T113) := lookT_cons good mixed okT112 (of_p4 eq_k_chans_Push)
theorem eq_k_chans_Pop (a b : AV) (h : Heap) : k_chans_Pop a b h = bodyK Tryd.prog (lookT T113) ann 30 [a, b] h := by kernel_rfl
theorem okT114 : CallOk Tryd.prog (lookT T114) := lookT_cons good mixed okT113 (of_p2 eq_k_chans_Pop)
theorem eq_k_chans_Close (a b : AV) (h : Heap) : k_chans_Close a b h = bodyK Tryd.prog (lookT T114) ann 31 [a, b] h := by kernel_rfl
theorem okT115 : CallOk Tryd.prog (lookT T115) := lookT_cons good mixed okT114 (of_p2 eq_k_chans_Close)
theorem eq_k_chans_Is (a b c : AV) (h : Heap) : k_chans_Is a b c h = bodyK Tryd.prog (lookT T115) ann 56 [a, b, c] h := by kernel_rfl
theorem okT116 : CallOk Tryd.prog (lookT T116) := lookT_cons good mixed okT115 (of_p3 eq_k_chans_Is)
theorem eq_k_law15_awakeR (h : Heap) : k_law15_awakeR h = bodyK Tryd.prog (lookT T116) ann 25 [] h := by kernel_rfl
theorem run_k_law15_awake : isTrue (k_law15_awakeR hQ1) = true := by kernel_rfl
theorem okT117R : CallOk Tryd.prog (lookT ((25, p0 k_law15_awakeR) :: T116)) := lookT_cons good mixed okT116 (of_p0 eq_k_law15_awakeR)
theorem okT117 : CallOk Tryd.prog (lookT T117) := by
  obtain ⟨g, hg⟩ := isTrue_some run_k_law15_awake
  exact lookT_quiet0 okT116 okT117R (base1 oneGlobal) hg rfl
theorem eq_k_law15_ChansPlays (a b : AV) (h : Heap) : k_law15_ChansPlays a b h = bodyK Tryd.prog (lookT T117) ann 6 [a, b] h := by kernel_rfl
theorem okT118 : CallOk Tryd.prog (lookT T118) := lookT_cons good mixed okT117 (of_p2 eq_k_law15_ChansPlays)
theorem eq_k_law15_ChansRing (a b c : AV) (h : Heap) : k_law15_ChansRing a b c h = bodyK Tryd.prog (lookT T118) ann 7 [a, b, c] h := by kernel_rfl
theorem okT119 : CallOk Tryd.prog (lookT T119) := lookT_cons good mixed okT118 (of_p3 eq_k_law15_ChansRing)
theorem eq_k_arena_Arena_Is (a b : AV) (h : Heap) : k_arena_Arena_Is a b h = bodyK Tryd.prog (lookT T119) ann 37 [a, b] h := by kernel_rfl
theorem okT120 : CallOk Tryd.prog (lookT T120) := lookT_cons good mixed okT119 (of_p2 eq_k_arena_Arena_Is)
theorem eq_k_law15_ChansHolds (a b : AV) (h : Heap) : k_law15_ChansHolds a b h = bodyK Tryd.prog (lookT T120) ann 8 [a, b] h := by kernel_rfl
theorem okT121 : CallOk Tryd.prog (lookT T121) := lookT_cons good mixed okT120 (of_p2 eq_k_law15_ChansHolds)
noncomputable def tab : Tab := T121
theorem okTab : CallOk Tryd.prog (lookT tab) := okT121
end Go.Proofs.YtmpinijdejafkaaDoor.qu