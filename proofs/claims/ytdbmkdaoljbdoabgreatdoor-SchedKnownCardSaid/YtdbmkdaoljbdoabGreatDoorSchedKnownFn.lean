/- PRINTED by Gen.lean: the program's functions on the abstract machine's values and heaps. -/
import Derived.Test.YtdbmkdaoljbdoabGreatDoorAbS
import Derived.Test.YtdbmkdaoljbdoabGreatDoorBs
import Derived.Test.YtdbmkdaoljbdoabGreatDoorAbKeys
namespace Go.Ab.F
open Go Go.Ab Go.Proofs Go.Proofs.YtdbmkdaoljbdoabGreatDoor
set_option linter.all false
noncomputable section
def T0 : Tab := []
/- 206: (*gantline/gantlinelaw16.holder).Stacks -/
def k_law16_holder_Stacks (x0 : AV) (h : Heap) : Option (AV × Heap) :=
  some ((AV.sl none 0 (.ex 0)), h)
def T1 : Tab := (206, p1 k_law16_holder_Stacks) :: T0
/- 177: (*gantline/cycle.Cycle).Black -/
def k_cycle_Cycle_Black (x0 : AV) (x1 : AV) (h : Heap) : Option (AV × Heap) :=
  (nilV x0).bind fun t6 =>
  (faP 5 t6).bind fun t7 =>
  (ldS h t7).bind fun t8 =>
  (lkP (fdA (.int .i64)) (AV.bool false) false h t8 x1).bind fun t10 =>
  some (t10, h)
def T2 : Tab := (177, p2 k_cycle_Cycle_Black) :: T1
/- 21: (*gantline/sched.Table).Stack -/
def k_sched_Table_Stack (x0 : AV) (x1 : AV) (h : Heap) : Option (AV × Heap) :=
  (nilV x0).bind fun t6 =>
  (faP 6 t6).bind fun t7 =>
  (ldS h t7).bind fun t8 =>
  (lkP (fdA (.int .i64)) (AV.ptr none) false h t8 x1).bind fun t10 =>
  some (t10, h)
def T3 : Tab := (21, p2 k_sched_Table_Stack) :: T2
/- 205: (*gantline/gantlinelaw16.holder).Stack -/
def k_law16_holder_Stack (x0 : AV) (x1 : AV) (h : Heap) : Option (AV × Heap) :=
  some ((AV.sl none 0 (.ex 0)), h)
def T4 : Tab := (205, p2 k_law16_holder_Stack) :: T3
/- 204: (*gantline/gantlinelaw16.holder).Globals -/
def k_law16_holder_Globals (x0 : AV) (h : Heap) : Option (AV × Heap) :=
  mk Heap.new (bsP 1 [(AV.int .i64 0)] 0 []) h fun t3 h0 =>
  (nilV x0).bind fun t5 =>
  (faP 0 t5).bind fun t6 =>
  (ldS h0 t6).bind fun t7 =>
  cl (appendA h0 1 8 t3 t7) fun t8 h1 =>
  some (t8, h1)
def T5 : Tab := (204, p1 k_law16_holder_Globals) :: T4
/- 115: (*gantline/frame.Stack).top -/
def k_frame_Stack_top (x0 : AV) (h : Heap) : Option (AV × Heap) :=
  (nilV x0).bind fun t4 =>
  (faP 0 t4).bind fun t5 =>
  (ldS h t5).bind fun t6 =>
  (lnL t6).bind fun t7 =>
  (eqP (some (.int .i64)) none false .eql t7 (AV.int .i64 0)).bind fun t8 =>
  condE t8 (
  some ((AV.ptr none), h)) (
  (nilV x0).bind fun t10 =>
  (faP 0 t10).bind fun t11 =>
  (ldS h t11).bind fun t12 =>
  (nilV x0).bind fun t14 =>
  (faP 0 t14).bind fun t15 =>
  (ldS h t15).bind fun t16 =>
  (lnL t16).bind fun t17 =>
  (binP .sub t17 (AV.int .i64 1)).bind fun t18 =>
  (iaS 3 t12 t18).bind fun t19 =>
  chk [h] [] (
  some (t19, h)))
def T6 : Tab := (115, p1 k_frame_Stack_top) :: T5
/- 89: (*gantline/frame.Stack).At -/
def k_frame_Stack_At (x0 : AV) (x1 : AV) (h : Heap) : Option (AV × Heap) :=
  mk Heap.new (bxP x1) h fun t3 h0 =>
  mk Heap.new (some (Blk.cells true [(AV.int .i64 0), (AV.int .i64 0), (AV.int .i64 0), (AV.int .i64 0), (AV.int .i64 0)], fun i => AV.ptr (some (i, 0)))) h0 fun t4 h1 =>
  cl (k_frame_Stack_top x0 h1) fun t8 h2 =>
  (eqP (some (.pointer 0)) none false .eql t8 (AV.ptr none)).bind fun t10 =>
  (gV (gdW t10 false) (some t8) (.tup [])).bind fun t12 =>
  (gV (gdW t10 false) (nilV t12) (.tup [])).bind fun t13 =>
  (gV (gdW t10 false) (faP 0 t13) (.tup [])).bind fun t14 =>
  (gV (gdW t10 false) (ldS h2 t14) (.tup [])).bind fun t15 =>
  (gV (gdW t10 false) (binP .lss t15 (AV.int .i64 0)) (.tup [])).bind fun t16 =>
  (pickP t10 (AV.bool true) t16).bind fun t17 =>
  (gV (gdW t17 false) (some t8) (.tup [])).bind fun t19 =>
  (gV (gdW t17 false) (nilV t19) (.tup [])).bind fun t20 =>
  (gV (gdW t17 false) (faP 0 t20) (.tup [])).bind fun t21 =>
  (gV (gdW t17 false) (ldS h2 t21) (.tup [])).bind fun t22 =>
  (gV (gdW t17 false) (faP 4 t3) (.tup [])).bind fun t23 =>
  (gV (gdW t17 false) (ldS h2 t23) (.tup [])).bind fun t24 =>
  (gV (gdW t17 false) (lnL t24) (.tup [])).bind fun t25 =>
  (gV (gdW t17 false) (binP .geq t22 t25) (.tup [])).bind fun t26 =>
  (pickP t17 (AV.bool true) t26).bind fun t27 =>
  (gV (gdW t27 false) (some t8) (.tup [])).bind fun t29 =>
  (gV (gdW t27 false) (nilV t29) (.tup [])).bind fun t30 =>
  (gV (gdW t27 false) (faP 1 t30) (.tup [])).bind fun t31 =>
  (gV (gdW t27 false) (ldS h2 t31) (.tup [])).bind fun t32 =>
  (gV (gdW t27 false) (binP .lss t32 (AV.int .i64 0)) (.tup [])).bind fun t33 =>
  (pickP t27 (AV.bool true) t33).bind fun t34 =>
  (gV (gdW t34 false) (some t8) (.tup [])).bind fun t36 =>
  (gV (gdW t34 false) (nilV t36) (.tup [])).bind fun t37 =>
  (gV (gdW t34 false) (faP 1 t37) (.tup [])).bind fun t38 =>
  (gV (gdW t34 false) (ldS h2 t38) (.tup [])).bind fun t39 =>
  (gV (gdW t34 false) (faP 4 t3) (.tup [])).bind fun t40 =>
  (gV (gdW t34 false) (ldS h2 t40) (.tup [])).bind fun t41 =>
  (gV (gdW t34 false) (some t8) (.tup [])).bind fun t42 =>
  (gV (gdW t34 false) (nilV t42) (.tup [])).bind fun t43 =>
  (gV (gdW t34 false) (faP 0 t43) (.tup [])).bind fun t44 =>
  (gV (gdW t34 false) (ldS h2 t44) (.tup [])).bind fun t45 =>
  (gV (gdW t34 false) (iaS 7 t41 t45) (.tup [])).bind fun t46 =>
  (gV (gdW t34 false) (faP 5 t46) (.tup [])).bind fun t47 =>
  (gV (gdW t34 false) (ldS h2 t47) (.tup [])).bind fun t48 =>
  (gV (gdW t34 false) (lnL t48) (.tup [])).bind fun t49 =>
  (gV (gdW t34 false) (binP .geq t39 t49) (.tup [])).bind fun t50 =>
  (pickP t34 (AV.bool true) t50).bind fun t51 =>
  chk [h2] [] (
  condE t51 (
  (bldS [(0, 1), (1, 1), (2, 1), (3, 1), (4, 1)] [(AV.int .i64 0), (AV.int .i64 0), (AV.int .i64 0), (AV.int .i64 0), (AV.int .i64 0)] []).bind fun t52 =>
  cl (stP 5 h2 t4 t52) fun u h3 =>
  (ldA 5 h3 t4).bind fun t =>
  some (AV.tup [t, (AV.bool false)], h3)) (
  (faP 4 t3).bind fun t53 =>
  (ldS h2 t53).bind fun t54 =>
  (nilV t8).bind fun t56 =>
  (faP 0 t56).bind fun t57 =>
  (ldS h2 t57).bind fun t58 =>
  (iaS 7 t54 t58).bind fun t59 =>
  (faP 5 t59).bind fun t60 =>
  (ldS h2 t60).bind fun t61 =>
  (nilV t8).bind fun t63 =>
  (faP 1 t63).bind fun t64 =>
  (ldS h2 t64).bind fun t65 =>
  (iaS 5 t61 t65).bind fun t66 =>
  (ldA 5 h2 t66).bind fun t67 =>
  cl (stP 5 h2 t4 t67) fun u_4 h5 =>
  chk [h2, h5] [] (
  (ldA 5 h5 t4).bind fun t_6 =>
  some (AV.tup [t_6, (AV.bool true)], h5))))
def T7 : Tab := (89, p2 k_frame_Stack_At) :: T6
/- 141: (*gantline/frame.Stack).Get -/
def k_frame_Stack_Get (x0 : AV) (x1 : AV) (h : Heap) : Option (AV × Heap) :=
  cl (k_frame_Stack_top x0 h) fun t7 h0 =>
  (eqP (some (.pointer 0)) none false .eql t7 (AV.ptr none)).bind fun t9 =>
  gQ (gdW t9 false) h0 (some (x1, h0)) fun t11 h1 =>
  gQ (gdW t9 false) h1 ((binP .lss t11 (AV.int .i64 0)).bind fun t12 =>
  some (t12, h1)) fun t12_2 h3 =>
  (pickP t9 (AV.bool true) t12_2).bind fun t13 =>
  gQ (gdW t13 false) h3 (some (x1, h3)) fun t15 h4 =>
  gQ (gdW t13 false) h4 (some (t7, h4)) fun t16 h5 =>
  gQ (gdW t13 false) h5 ((nilV t16).bind fun t17 =>
  some (t17, h5)) fun t17_6 h7 =>
  gQ (gdW t13 false) h7 ((faP 2 t17_6).bind fun t18 =>
  some (t18, h7)) fun t18_8 h9 =>
  gQ (gdW t13 false) h9 ((ldS h9 t18_8).bind fun t19 =>
  some (t19, h9)) fun t19_10 h11 =>
  gQ (gdW t13 false) h11 ((lnL t19_10).bind fun t20 =>
  some (t20, h11)) fun t20_12 h13 =>
  gQ (gdW t13 false) h13 ((binP .geq t15 t20_12).bind fun t21 =>
  some (t21, h13)) fun t21_14 h15 =>
  (pickP t13 (AV.bool true) t21_14).bind fun t22 =>
  condE t22 (
  some ((AV.int .i64 0), h15)) (
  (nilV t7).bind fun t24 =>
  (faP 2 t24).bind fun t25 =>
  (ldS h15 t25).bind fun t26 =>
  (iaS 1 t26 x1).bind fun t28 =>
  (ldS h15 t28).bind fun t29 =>
  some (t29, h15))
def T8 : Tab := (141, p2 k_frame_Stack_Get) :: T7
/- 113: (*gantline/cycle.Cycle).Arena -/
def k_cycle_Cycle_Arena (x0 : AV) (h : Heap) : Option (AV × Heap) :=
  (nilV x0).bind fun t4 =>
  (faP 0 t4).bind fun t5 =>
  (ldS h t5).bind fun t6 =>
  some (t6, h)
def T9 : Tab := (113, p1 k_cycle_Cycle_Arena) :: T8
/- 42: gantline/geom.Span -/
def k_geom_Span (x0 : AV) (h : Heap) : Option (AV × Heap) :=
  (binP .lss x0 (AV.int .i64 0)).bind fun t4 =>
  gQ (gdW t4 false) h (some (x0, h)) fun t6 h0 =>
  gQ (gdW t4 false) h0 ((binP .geq t6 (AV.int .i64 32768)).bind fun t7 =>
  some (t7, h0)) fun t7_1 h2 =>
  (pickP t4 (AV.bool true) t7_1).bind fun t8 =>
  condE t8 (
  some ((AV.int .i64 (-1)), h2)) (
  (binP .quo x0 (AV.int .i64 64)).bind fun t10 =>
  some (t10, h2))
def T10 : Tab := (42, p1 k_geom_Span) :: T9
/- 78: (*gantline/arena.Arena).has -/
def k_arena_Arena_has (x0 : AV) (x1 : AV) (h : Heap) : Option (AV × Heap) :=
  (binP .geq x1 (AV.int .i64 1)).bind fun t6 =>
  gQ (gdW t6 true) h (some (x1, h)) fun t8 h0 =>
  gQ (gdW t6 true) h0 (some (x0, h0)) fun t9 h1 =>
  gQ (gdW t6 true) h1 ((nilV t9).bind fun t10 =>
  some (t10, h1)) fun t10_2 h3 =>
  gQ (gdW t6 true) h3 ((faP 1 t10_2).bind fun t11 =>
  some (t11, h3)) fun t11_4 h5 =>
  gQ (gdW t6 true) h5 ((ldS h5 t11_4).bind fun t12 =>
  some (t12, h5)) fun t12_6 h7 =>
  gQ (gdW t6 true) h7 ((lnL t12_6).bind fun t13 =>
  some (t13, h7)) fun t13_8 h9 =>
  gQ (gdW t6 true) h9 ((binP .lss t8 t13_8).bind fun t14 =>
  some (t14, h9)) fun t14_10 h11 =>
  (pickP t6 t14_10 (AV.bool false)).bind fun t15 =>
  some (t15, h11)
def T11 : Tab := (78, p2 k_arena_Arena_has) :: T10
/- 41: (*gantline/arena.Arena).Class -/
def k_arena_Arena_Class (x0 : AV) (x1 : AV) (h : Heap) : Option (AV × Heap) :=
  cl (k_arena_Arena_has x0 x1 h) fun t7 h0 =>
  (unA .not t7).bind fun t8 =>
  condE t8 (
  some ((AV.int .i64 (-1)), h0)) (
  (nilV x0).bind fun t10 =>
  (faP 1 t10).bind fun t11 =>
  (ldS h0 t11).bind fun t12 =>
  (iaS 3 t12 x1).bind fun t14 =>
  (faP 0 t14).bind fun t15 =>
  (ldS h0 t15).bind fun t16 =>
  some (t16, h0))
def T12 : Tab := (41, p2 k_arena_Arena_Class) :: T11
/- 40: gantline/geom.Words -/
def k_geom_Words (x0 : AV) (h : Heap) : Option (AV × Heap) :=
  (binP .lss x0 (AV.int .i64 0)).bind fun t4 =>
  gQ (gdW t4 false) h (some (x0, h)) fun t6 h0 =>
  gQ (gdW t4 false) h0 ((binP .geq t6 (AV.int .i64 6)).bind fun t7 =>
  some (t7, h0)) fun t7_1 h2 =>
  (pickP t4 (AV.bool true) t7_1).bind fun t8 =>
  condE t8 (
  some ((AV.int .i64 0), h2)) (
  (cvI .u64 x0).bind fun t10 =>
  (binP .shl (AV.int .i64 2) t10).bind fun t11 =>
  some (t11, h2))
def T13 : Tab := (40, p1 k_geom_Words) :: T12
/- 107: gantline/geom.Place -/
def k_geom_Place (x0 : AV) (x1 : AV) (h : Heap) : Option (AV × Heap) :=
  cl (k_geom_Words x1 h) fun t7 h0 =>
  (eqP (some (.int .i64)) none false .eql t7 (AV.int .i64 0)).bind fun t8 =>
  gQ (gdW t8 false) h0 (some (x0, h0)) fun t10 h1 =>
  gQ (gdW t8 false) h1 (cl (k_geom_Span t10 h1) fun t11 h2 =>
  some (t11, h2)) fun t11_3 h4 =>
  gQ (gdW t8 false) h4 ((eqP (some (.int .i64)) none false .eql t11_3 (AV.int .i64 (-1))).bind fun t12 =>
  some (t12, h4)) fun t12_5 h6 =>
  (pickP t8 (AV.bool true) t12_5).bind fun t13 =>
  condE t13 (
  some ((AV.int .i64 (-1)), h6)) (
  (binP .rem x0 (AV.int .i64 64)).bind fun t15 =>
  cl (k_geom_Words x1 h6) fun t18 h7 =>
  (binP .rem t15 t18).bind fun t19 =>
  (eqP (some (.int .i64)) none false .neq t19 (AV.int .i64 0)).bind fun t20 =>
  condE t20 (
  some ((AV.int .i64 (-1)), h7)) (
  cl (k_geom_Words x1 h7) fun t23 h8 =>
  (binP .quo t15 t23).bind fun t24 =>
  some (t24, h8)))
def T14 : Tab := (107, p2 k_geom_Place) :: T13
/- 75: (*gantline/arena.Arena).find -/
def k_arena_Arena_find (x0 : AV) (x1 : AV) (h : Heap) : Option (AV × Heap) :=
  cl (k_geom_Span x1 h) fun t10 h0 =>
  cl (k_arena_Arena_Class x0 t10 h0) fun t13 h1 =>
  cl (k_geom_Place x1 t13 h1) fun t16 h2 =>
  (binP .lss t16 (AV.int .i64 0)).bind fun t18 =>
  gQ (gdW t18 false) h2 (some (x0, h2)) fun t20 h3 =>
  gQ (gdW t18 false) h3 ((nilV t20).bind fun t21 =>
  some (t21, h3)) fun t21_4 h5 =>
  gQ (gdW t18 false) h5 ((faP 1 t21_4).bind fun t22 =>
  some (t22, h5)) fun t22_6 h7 =>
  gQ (gdW t18 false) h7 ((ldS h7 t22_6).bind fun t23 =>
  some (t23, h7)) fun t23_8 h9 =>
  gQ (gdW t18 false) h9 (some (t10, h9)) fun t24 h10 =>
  gQ (gdW t18 false) h10 ((iaS 3 t23_8 t24).bind fun t25 =>
  some (t25, h10)) fun t25_11 h12 =>
  gQ (gdW t18 false) h12 ((faP 1 t25_11).bind fun t26 =>
  some (t26, h12)) fun t26_13 h14 =>
  gQ (gdW t18 false) h14 ((ldS h14 t26_13).bind fun t27 =>
  some (t27, h14)) fun t27_15 h16 =>
  gQ (gdW t18 false) h16 (some (t16, h16)) fun t28 h17 =>
  gQ (gdW t18 false) h17 ((cvI .u64 t28).bind fun t29 =>
  some (t29, h17)) fun t29_18 h19 =>
  gQ (gdW t18 false) h19 ((binP .shr t27_15 t29_18).bind fun t30 =>
  some (t30, h19)) fun t30_20 h21 =>
  gQ (gdW t18 false) h21 ((binP .and t30_20 (AV.int .u64 1)).bind fun t31 =>
  some (t31, h21)) fun t31_22 h23 =>
  gQ (gdW t18 false) h23 ((eqP (some (.int .u64)) none false .eql t31_22 (AV.int .u64 0)).bind fun t32 =>
  some (t32, h23)) fun t32_24 h25 =>
  (pickP t18 (AV.bool true) t32_24).bind fun t33 =>
  condE t33 (
  some (AV.tup [(AV.ptr none), (AV.int .u64 0)], h25)) (
  (nilV x0).bind fun t35 =>
  (faP 1 t35).bind fun t36 =>
  (ldS h25 t36).bind fun t37 =>
  (iaS 3 t37 t10).bind fun t39 =>
  (cvI .u64 t16).bind fun t41 =>
  (binP .shl (AV.int .u64 1) t41).bind fun t42 =>
  some (AV.tup [t39, t42], h25))
def T15 : Tab := (75, p2 k_arena_Arena_find) :: T14
/- 76: (*gantline/arena.Arena).word -/
def k_arena_Arena_word (x0 : AV) (x1 : AV) (x2 : AV) (h : Heap) : Option (AV × Heap) :=
  cl (k_arena_Arena_find x0 x1 h) fun t12 h0 =>
  (extractV 0 t12).bind fun t13 =>
  (extractV 1 t12).bind fun t14 =>
  (eqP (some (.pointer 0)) none false .eql t13 (AV.ptr none)).bind fun t16 =>
  gQ (gdW t16 false) h0 (some (x2, h0)) fun t18 h1 =>
  gQ (gdW t16 false) h1 ((binP .lss t18 (AV.int .i64 0)).bind fun t19 =>
  some (t19, h1)) fun t19_2 h3 =>
  (pickP t16 (AV.bool true) t19_2).bind fun t20 =>
  gQ (gdW t20 false) h3 (some (x2, h3)) fun t22 h4 =>
  gQ (gdW t20 false) h4 (some (t13, h4)) fun t23 h5 =>
  gQ (gdW t20 false) h5 ((nilV t23).bind fun t24 =>
  some (t24, h5)) fun t24_6 h7 =>
  gQ (gdW t20 false) h7 ((faP 0 t24_6).bind fun t25 =>
  some (t25, h7)) fun t25_8 h9 =>
  gQ (gdW t20 false) h9 ((ldS h9 t25_8).bind fun t26 =>
  some (t26, h9)) fun t26_10 h11 =>
  gQ (gdW t20 false) h11 (cl (k_geom_Words t26_10 h11) fun t27 h12 =>
  some (t27, h12)) fun t27_13 h14 =>
  gQ (gdW t20 false) h14 ((binP .geq t22 t27_13).bind fun t28 =>
  some (t28, h14)) fun t28_15 h16 =>
  (pickP t20 (AV.bool true) t28_15).bind fun t29 =>
  condE t29 (
  some ((AV.ptr none), h16)) (
  (nilV x0).bind fun t31 =>
  (faP 0 t31).bind fun t32 =>
  (ldS h16 t32).bind fun t33 =>
  (binP .add x1 x2).bind fun t36 =>
  (iaS 1 t33 t36).bind fun t37 =>
  some (t37, h16))
def T16 : Tab := (76, p3 k_arena_Arena_word) :: T15
/- 38: (*gantline/arena.Arena).Read -/
def k_arena_Arena_Read (x0 : AV) (x1 : AV) (x2 : AV) (h : Heap) : Option (AV × Heap) :=
  cl (k_arena_Arena_word x0 x1 x2 h) fun t12 h0 =>
  (eqP (some (.pointer 0)) none false .eql t12 (AV.ptr none)).bind fun t14 =>
  condE t14 (
  some (AV.tup [(AV.int .i64 0), (AV.int .i64 1)], h0)) (
  (nilV t12).bind fun t16 =>
  (ldS h0 t16).bind fun t17 =>
  some (AV.tup [t17, (AV.int .i64 0)], h0))
def T17 : Tab := (38, p3 k_arena_Arena_Read) :: T16
/- 82: gantline/bits.within -/
def k_bits_within (x0 : AV) (x1 : AV) (h : Heap) : Option (AV × Heap) :=
  (binP .geq x0 (AV.int .i64 0)).bind fun t6 =>
  gQ (gdW t6 true) h (some (x1, h)) fun t8 h0 =>
  gQ (gdW t6 true) h0 ((binP .geq t8 (AV.int .i64 0)).bind fun t9 =>
  some (t9, h0)) fun t9_1 h2 =>
  (pickP t6 t9_1 (AV.bool false)).bind fun t10 =>
  gQ (gdW t10 true) h2 (some (x1, h2)) fun t12 h3 =>
  gQ (gdW t10 true) h3 ((binP .leq t12 (AV.int .i64 64)).bind fun t13 =>
  some (t13, h3)) fun t13_4 h5 =>
  (pickP t10 t13_4 (AV.bool false)).bind fun t14 =>
  gQ (gdW t14 true) h5 (some (x0, h5)) fun t16 h6 =>
  gQ (gdW t14 true) h6 (some (x1, h6)) fun t17 h7 =>
  gQ (gdW t14 true) h7 ((binP .sub (AV.int .i64 64) t17).bind fun t18 =>
  some (t18, h7)) fun t18_8 h9 =>
  gQ (gdW t14 true) h9 ((binP .leq t16 t18_8).bind fun t19 =>
  some (t19, h9)) fun t19_10 h11 =>
  (pickP t14 t19_10 (AV.bool false)).bind fun t20 =>
  some (t20, h11)
def T18 : Tab := (82, p2 k_bits_within) :: T17
/- 83: gantline/bits.mask -/
def k_bits_mask (x0 : AV) (h : Heap) : Option (AV × Heap) :=
  (cvI .u64 x0).bind fun t4 =>
  (binP .shl (AV.int .u64 1) t4).bind fun t5 =>
  (binP .sub t5 (AV.int .u64 1)).bind fun t6 =>
  some (t6, h)
def T19 : Tab := (83, p1 k_bits_mask) :: T18
/- 77: gantline/bits.Field -/
def k_bits_Field (x0 : AV) (x1 : AV) (x2 : AV) (h : Heap) : Option (AV × Heap) :=
  cl (k_bits_within x1 x2 h) fun t9 h0 =>
  (unA .not t9).bind fun t10 =>
  condE t10 (
  some ((AV.int .u64 0), h0)) (
  (cvI .u64 x1).bind fun t13 =>
  (binP .shr x0 t13).bind fun t14 =>
  cl (k_bits_mask x2 h0) fun t16 h1 =>
  (binP .and t14 t16).bind fun t17 =>
  some (t17, h1))
def T20 : Tab := (77, p3 k_bits_Field) :: T19
/- 50: gantline/head.may -/
def k_head_may (x0 : AV) (h : Heap) : Option (AV × Heap) :=
  mk Heap.new (bxP x0) h fun t1 h0 =>
  (faP 0 t1).bind fun t3 =>
  (ldS h0 t3).bind fun t4 =>
  (binP .geq t4 (AV.int .i64 1)).bind fun t5 =>
  gQ (gdW t5 true) h0 ((faP 0 t1).bind fun t7 =>
  some (t7, h0)) fun t7_1 h2 =>
  gQ (gdW t5 true) h2 ((ldS h2 t7_1).bind fun t8 =>
  some (t8, h2)) fun t8_3 h4 =>
  gQ (gdW t5 true) h4 ((binP .leq t8_3 (AV.int .i64 64)).bind fun t9 =>
  some (t9, h4)) fun t9_5 h6 =>
  (pickP t5 t9_5 (AV.bool false)).bind fun t10 =>
  gQ (gdW t10 true) h6 ((faP 1 t1).bind fun t12 =>
  some (t12, h6)) fun t12_7 h8 =>
  gQ (gdW t10 true) h8 ((ldS h8 t12_7).bind fun t13 =>
  some (t13, h8)) fun t13_9 h10 =>
  gQ (gdW t10 true) h10 ((binP .geq t13_9 (AV.int .i64 0)).bind fun t14 =>
  some (t14, h10)) fun t14_11 h12 =>
  (pickP t10 t14_11 (AV.bool false)).bind fun t15 =>
  gQ (gdW t15 true) h12 ((faP 1 t1).bind fun t17 =>
  some (t17, h12)) fun t17_13 h14 =>
  gQ (gdW t15 true) h14 ((ldS h14 t17_13).bind fun t18 =>
  some (t18, h14)) fun t18_15 h16 =>
  gQ (gdW t15 true) h16 ((binP .leq t18_15 (AV.int .i64 3)).bind fun t19 =>
  some (t19, h16)) fun t19_17 h18 =>
  (pickP t15 t19_17 (AV.bool false)).bind fun t20 =>
  gQ (gdW t20 true) h18 ((faP 2 t1).bind fun t22 =>
  some (t22, h18)) fun t22_19 h20 =>
  gQ (gdW t20 true) h20 ((ldS h20 t22_19).bind fun t23 =>
  some (t23, h20)) fun t23_21 h22 =>
  gQ (gdW t20 true) h22 ((binP .geq t23_21 (AV.int .i64 0)).bind fun t24 =>
  some (t24, h22)) fun t24_23 h24 =>
  (pickP t20 t24_23 (AV.bool false)).bind fun t25 =>
  gQ (gdW t25 true) h24 ((faP 2 t1).bind fun t27 =>
  some (t27, h24)) fun t27_25 h26 =>
  gQ (gdW t25 true) h26 ((ldS h26 t27_25).bind fun t28 =>
  some (t28, h26)) fun t28_27 h28 =>
  gQ (gdW t25 true) h28 ((binP .lss t28_27 (AV.int .i64 65536)).bind fun t29 =>
  some (t29, h28)) fun t29_29 h30 =>
  (pickP t25 t29_29 (AV.bool false)).bind fun t30 =>
  some (t30, h30)
def T21 : Tab := (50, p1 k_head_may) :: T20
/- 39: gantline/head.Unpack -/
def k_head_Unpack (x0 : AV) (h : Heap) : Option (AV × Heap) :=
  mk Heap.new (some (Blk.cells true [(AV.int .i64 0), (AV.int .i64 0), (AV.int .i64 0)], fun i => AV.ptr (some (i, 0)))) h fun t2 h0 =>
  (cvI .u64 x0).bind fun t7 =>
  cl (k_bits_Field t7 (AV.int .i64 0) (AV.int .i64 7) h0) fun t9 h1 =>
  (cvI .i64 t9).bind fun t10 =>
  cl (k_bits_Field t7 (AV.int .i64 7) (AV.int .i64 3) h1) fun t12 h2 =>
  (cvI .i64 t12).bind fun t13 =>
  cl (k_bits_Field t7 (AV.int .i64 10) (AV.int .i64 16) h2) fun t15 h3 =>
  (cvI .i64 t15).bind fun t16 =>
  (bldS [(0, 1), (1, 1), (2, 1)] [(AV.int .i64 0), (AV.int .i64 0), (AV.int .i64 0)] [(0, t10), (1, t13), (2, t16)]).bind fun t17 =>
  mk Heap.new (some (Blk.cells true [(AV.int .i64 0), (AV.int .i64 0), (AV.int .i64 0)], fun i => AV.ptr (some (i, 0)))) h3 fun t5 h4 =>
  cl (stP 3 h4 t5 t17) fun u h5 =>
  (binP .shr t7 (AV.int .u64 26)).bind fun t19 =>
  (eqP (some (.int .u64)) none false .neq t19 (AV.int .u64 0)).bind fun t20 =>
  gQ (gdW t20 false) h5 ((ldA 3 h5 t5).bind fun t22 =>
  some (t22, h5)) fun t22_6 h7 =>
  gQ (gdW t20 false) h7 (cl (k_head_may t22_6 h7) fun t23 h8 =>
  some (t23, h8)) fun t23_9 h10 =>
  gQ (gdW t20 false) h10 ((unA .not t23_9).bind fun t24 =>
  some (t24, h10)) fun t24_11 h12 =>
  (pickP t20 (AV.bool true) t24_11).bind fun t25 =>
  condE t25 (
  (bldS [(0, 1), (1, 1), (2, 1)] [(AV.int .i64 0), (AV.int .i64 0), (AV.int .i64 0)] []).bind fun t26 =>
  cl (stP 3 h12 t2 t26) fun u_13 h14 =>
  (ldA 3 h14 t2).bind fun t =>
  some (AV.tup [t, (AV.int .i64 3)], h14)) (
  (ldA 3 h12 t5).bind fun t27 =>
  cl (stP 3 h12 t2 t27) fun u_15 h16 =>
  (ldA 3 h16 t2).bind fun t_17 =>
  some (AV.tup [t_17, (AV.int .i64 0)], h16))
def T22 : Tab := (39, p1 k_head_Unpack) :: T21
/- 85: (*gantline/cycle.Cycle).Table -/
def k_cycle_Cycle_Table (x0 : AV) (h : Heap) : Option (AV × Heap) :=
  (nilV x0).bind fun t4 =>
  (faP 1 t4).bind fun t5 =>
  (ldS h t5).bind fun t6 =>
  some (t6, h)
def T23 : Tab := (85, p1 k_cycle_Cycle_Table) :: T22
/- 43: (*gantline/head.Table).Shape -/
def k_head_Table_Shape (x0 : AV) (x1 : AV) (h : Heap) : Option (AV × Heap) :=
  mk Heap.new (some (Blk.cells true [(AV.int .i64 0), (AV.int .i64 0), (AV.int .u64 0)], fun i => AV.ptr (some (i, 0)))) h fun t4 h0 =>
  (binP .lss x1 (AV.int .i64 0)).bind fun t7 =>
  gQ (gdW t7 false) h0 (some (x1, h0)) fun t9 h1 =>
  gQ (gdW t7 false) h1 (some (x0, h1)) fun t10 h2 =>
  gQ (gdW t7 false) h2 ((nilV t10).bind fun t11 =>
  some (t11, h2)) fun t11_3 h4 =>
  gQ (gdW t7 false) h4 ((faP 0 t11_3).bind fun t12 =>
  some (t12, h4)) fun t12_5 h6 =>
  gQ (gdW t7 false) h6 ((ldS h6 t12_5).bind fun t13 =>
  some (t13, h6)) fun t13_7 h8 =>
  gQ (gdW t7 false) h8 ((lnL t13_7).bind fun t14 =>
  some (t14, h8)) fun t14_9 h10 =>
  gQ (gdW t7 false) h10 ((binP .geq t9 t14_9).bind fun t15 =>
  some (t15, h10)) fun t15_11 h12 =>
  (pickP t7 (AV.bool true) t15_11).bind fun t16 =>
  condE t16 (
  (bldS [(0, 1), (1, 1), (2, 1)] [(AV.int .i64 0), (AV.int .i64 0), (AV.int .u64 0)] []).bind fun t17 =>
  cl (stP 3 h12 t4 t17) fun u h13 =>
  (ldA 3 h13 t4).bind fun t =>
  some (AV.tup [t, (AV.int .i64 4)], h13)) (
  (nilV x0).bind fun t19 =>
  (faP 0 t19).bind fun t20 =>
  (ldS h12 t20).bind fun t21 =>
  (iaS 3 t21 x1).bind fun t23 =>
  (ldA 3 h12 t23).bind fun t24 =>
  cl (stP 3 h12 t4 t24) fun u_14 h15 =>
  (ldA 3 h15 t4).bind fun t_16 =>
  some (AV.tup [t_16, (AV.int .i64 0)], h15))
def T24 : Tab := (43, p2 k_head_Table_Shape) :: T23
/- 170: (*gantline/heap.Heap).Of -/
def k_heap_Heap_Of (x0 : AV) (x1 : AV) (h : Heap) : Option (AV × Heap) :=
  mk Heap.new (some (Blk.cells true [(AV.int .i64 0), (AV.int .i64 0), (AV.int .i64 0)], fun i => AV.ptr (some (i, 0)))) h fun t4 h0 =>
  mk Heap.new (some (Blk.cells true [(AV.int .i64 0), (AV.int .i64 0), (AV.int .u64 0)], fun i => AV.ptr (some (i, 0)))) h0 fun t5 h1 =>
  (nilV x0).bind fun t13 =>
  (faP 0 t13).bind fun t14 =>
  (ldS h1 t14).bind fun t15 =>
  cl (k_cycle_Cycle_Arena t15 h1) fun t16 h2 =>
  cl (k_arena_Arena_Read t16 x1 (AV.int .i64 0) h2) fun t18 h3 =>
  (extractV 0 t18).bind fun t19 =>
  (extractV 1 t18).bind fun t20 =>
  (eqP (some (.int .i64)) none false .neq t20 (AV.int .i64 0)).bind fun t22 =>
  condE t22 (
  (bldS [(0, 1), (1, 1), (2, 1)] [(AV.int .i64 0), (AV.int .i64 0), (AV.int .i64 0)] []).bind fun t23 =>
  (bldS [(0, 1), (1, 1), (2, 1)] [(AV.int .i64 0), (AV.int .i64 0), (AV.int .u64 0)] []).bind fun t24 =>
  cl (stP 3 h3 t4 t23) fun u h4 =>
  cl (stP 3 h4 t5 t24) fun u_5 h6 =>
  (ldA 3 h6 t4).bind fun t =>
  (ldA 3 h6 t5).bind fun t_7 =>
  some (AV.tup [t, t_7, (AV.bool false)], h6)) (
  cl (k_head_Unpack t19 h3) fun t27 h8 =>
  (extractV 0 t27).bind fun t28 =>
  (extractV 1 t27).bind fun t29 =>
  mk Heap.new (some (Blk.cells true [(AV.int .i64 0), (AV.int .i64 0), (AV.int .i64 0)], fun i => AV.ptr (some (i, 0)))) h8 fun t9 h9 =>
  cl (stP 3 h9 t9 t28) fun u_10 h11 =>
  (eqP (some (.int .i64)) none false .neq t29 (AV.int .i64 0)).bind fun t31 =>
  condE t31 (
  (bldS [(0, 1), (1, 1), (2, 1)] [(AV.int .i64 0), (AV.int .i64 0), (AV.int .i64 0)] []).bind fun t32 =>
  (bldS [(0, 1), (1, 1), (2, 1)] [(AV.int .i64 0), (AV.int .i64 0), (AV.int .u64 0)] []).bind fun t33 =>
  cl (stP 3 h11 t4 t32) fun u_12 h13 =>
  cl (stP 3 h13 t5 t33) fun u_14 h15 =>
  (ldA 3 h15 t4).bind fun t_16 =>
  (ldA 3 h15 t5).bind fun t_17 =>
  some (AV.tup [t_16, t_17, (AV.bool false)], h15)) (
  (nilV x0).bind fun t36 =>
  (faP 0 t36).bind fun t37 =>
  (ldS (hpN h11 1) t37).bind fun t38 =>
  cl (k_cycle_Cycle_Table t38 (hpN h11 1)) fun t39 h18 =>
  (faP 2 t9).bind fun t40 =>
  clC (rdC (fun g => ldS g t40) h18 0 1 []) fun t41 cs =>
  cl (k_head_Table_Shape t39 t41 h18) fun t42 h19 =>
  (extractV 0 t42).bind fun t43 =>
  (extractV 1 t42).bind fun t44 =>
  cl (mkAt Heap.put (some (Blk.cells true [(AV.int .i64 0), (AV.int .i64 0), (AV.int .u64 0)], fun i => AV.ptr (some (i, 0)))) (h11.next + 0) h19) fun t10 h20 =>
  cl (stP 3 h20 t10 t43) fun u_21 h22 =>
  chk [(hpN h11 1), h18, h19, h22] cs (
  (eqP (some (.int .i64)) none false .neq t44 (AV.int .i64 0)).bind fun t46 =>
  condE t46 (
  (bldS [(0, 1), (1, 1), (2, 1)] [(AV.int .i64 0), (AV.int .i64 0), (AV.int .i64 0)] []).bind fun t47 =>
  (bldS [(0, 1), (1, 1), (2, 1)] [(AV.int .i64 0), (AV.int .i64 0), (AV.int .u64 0)] []).bind fun t48 =>
  cl (stP 3 h22 t4 t47) fun u_23 h24 =>
  cl (stP 3 h24 t5 t48) fun u_25 h26 =>
  (ldA 3 h26 t4).bind fun t_27 =>
  (ldA 3 h26 t5).bind fun t_28 =>
  some (AV.tup [t_27, t_28, (AV.bool false)], h26)) (
  (ldA 3 h22 t9).bind fun t49 =>
  clC (rdC (fun g => ldA 3 g t10) h22 0 1 []) fun t50 cs_29 =>
  cl (stP 3 h22 t4 t49) fun u_30 h31 =>
  cl (stP 3 h31 t5 t50) fun u_32 h33 =>
  chk [h22, h31, h33] cs_29 (
  (ldA 3 h33 t4).bind fun t_34 =>
  (ldA 3 h33 t5).bind fun t_35 =>
  some (AV.tup [t_34, t_35, (AV.bool true)], h33))))))
def T25 : Tab := (170, p2 k_heap_Heap_Of) :: T24
/- 144: gantline/chans.is -/
def k_chans_is (a b : AV) (h : Heap) : Option (AV × Heap) := bodyK Tryz.prog (lookT T25) ann 144 [a, b] h
def T26 : Tab := (144, p2 k_chans_is) :: T25
/- 142: gantline/chans.Is -/
def k_chans_Is (a b c : AV) (h : Heap) : Option (AV × Heap) := bodyK Tryz.prog (lookT T26) ann 142 [a, b, c] h
def T27 : Tab := (142, p3 k_chans_Is) :: T26
/- 45: slices.Clone[[]int64,int64] -/
def k_slices_Clone_int64_int64 (x0 : AV) (h : Heap) : Option (AV × Heap) :=
  (eqP (some (.slice 0)) none false .eql x0 (AV.sl none 0 (.ex 0))).bind fun t4 =>
  condE t4 (
  some ((AV.sl none 0 (.ex 0)), h)) (
  mk Heap.new (bsP 1 [(AV.int .i64 0)] 0 []) h fun t5 h0 =>
  cl (appendA h0 1 8 t5 x0) fun t7 h1 =>
  some (t7, h1))
def T28 : Tab := (45, p1 k_slices_Clone_int64_int64) :: T27
/- 169: gantline/frame.clone -/
def k_frame_clone (x0 : AV) (h : Heap) : Option (AV × Heap) :=
  mk Heap.new (bxP x0) h fun t1 h0 =>
  mk Heap.new (some (Blk.cells true [(AV.int .i64 0), (AV.int .i64 0), (AV.sl none 0 (.ex 0))], fun i => AV.ptr (some (i, 0)))) h0 fun t2 h1 =>
  (faP 2 t1).bind fun t3 =>
  (ldS h1 t3).bind fun t4 =>
  cl (k_slices_Clone_int64_int64 t4 h1) fun t5 h2 =>
  (faP 2 t1).bind fun t6 =>
  cl (stP 1 h2 t6 t5) fun u h3 =>
  (ldA 3 h3 t1).bind fun t7 =>
  cl (stP 3 h3 t2 t7) fun u_4 h5 =>
  (ldA 3 h5 t2).bind fun t =>
  some (t, h5)
def T29 : Tab := (169, p1 k_frame_clone) :: T28
/- 143: (*gantline/frame.Stack).Top -/
def k_frame_Stack_Top (x0 : AV) (h : Heap) : Option (AV × Heap) :=
  mk Heap.new (some (Blk.cells true [(AV.int .i64 0), (AV.int .i64 0), (AV.sl none 0 (.ex 0))], fun i => AV.ptr (some (i, 0)))) h fun t2 h0 =>
  cl (k_frame_Stack_top x0 h0) fun t6 h1 =>
  (eqP (some (.pointer 0)) none false .eql t6 (AV.ptr none)).bind fun t8 =>
  condE t8 (
  (bldS [(0, 1), (1, 1), (2, 1)] [(AV.int .i64 0), (AV.int .i64 0), (AV.sl none 0 (.ex 0))] []).bind fun t9 =>
  cl (stP 3 h1 t2 t9) fun u h2 =>
  (ldA 3 h2 t2).bind fun t =>
  some (AV.tup [t, (AV.bool false)], h2)) (
  (nilV t6).bind fun t11 =>
  (ldA 3 h1 t11).bind fun t12 =>
  cl (k_frame_clone t12 h1) fun t13 h3 =>
  cl (stP 3 h3 t2 t13) fun u_4 h5 =>
  (ldA 3 h5 t2).bind fun t_6 =>
  some (AV.tup [t_6, (AV.bool true)], h5))
def T30 : Tab := (143, p1 k_frame_Stack_Top) :: T29
/- 116: (*gantline/sched.Table).offered -/
def k_sched_Table_offered (a b c d e f g : AV) (h : Heap) : Option (AV × Heap) := bodyK Tryz.prog (lookT T30) ann 116 [a, b, c, d, e, f, g] h
def T31 : Tab := (116, p7 k_sched_Table_offered) :: T30
/- 90: (*gantline/sched.Table).offers -/
def k_sched_Table_offers_j0 (q87 : AV) (q10_6 : AV) (q11_7 : AV) (h8 : Heap) : OutV :=
  (binP .add q87 (AV.int .i64 1)).bind fun t113 =>
  some (.normal, [q10_6, q11_7, t113], h8)
def k_sched_Table_offers_j1 (x0 : AV) (x1 : AV) (x2 : AV) (q10 : AV) (q11 : AV) (q87 : AV) (t13 : AV) (q95_34 : AV) (h35 : Heap) : OutV :=
  condE q95_34 (
  (faP 0 t13).bind fun t103 =>
  (ldS h35 t103).bind fun t104 =>
  (eqP (some (.int .i64)) none false .eql t104 (AV.int .i64 1)).bind fun t105 =>
  (faP 1 t13).bind fun t106 =>
  (ldS h35 t106).bind fun t107 =>
  (faP 2 t13).bind fun t108 =>
  (ldS h35 t108).bind fun t109 =>
  cl (k_sched_Table_offered x0 x1 x2 q87 t105 t107 t109 h35) fun t110 h55 =>
  mk Heap.new (bsP 4 [(AV.int .i64 0), (AV.bool false), (AV.int .i64 0), (AV.bool false)] 1 [(0, t110)]) h55 fun t111 h56 =>
  cl (appendA h56 4 32 q10 t111) fun t112 h57 =>
  k_sched_Table_offers_j0 q87 t112 q11 h57) (
  k_sched_Table_offers_j0 q87 q10 q87 h35)
def k_sched_Table_offers_b0 (x0 : AV) (x1 : AV) (x2 : AV) (t85 : AV) (t86 : AV) (q10 : AV) (q11 : AV) (q87 : AV) (h5 : Heap) : OutV :=
  (binP .lss q87 t86).bind fun t88 =>
  condE t88 (
  (iaS 4 t85 q87).bind fun t90 =>
  (ldA 4 h5 t90).bind fun t91 =>
  mk Heap.new (some (Blk.cells true [(AV.int .i64 0), (AV.int .i64 0), (AV.int .i64 0), (AV.int .i64 0)], fun i => AV.ptr (some (i, 0)))) h5 fun t13 h9 =>
  cl (stP 4 h9 t13 t91) fun u h10 =>
  (faP 0 t13).bind fun t92 =>
  (ldS h10 t92).bind fun t93 =>
  (eqP (some (.int .i64)) none false .eql t93 (AV.int .i64 0)).bind fun t96 =>
  condE t96 (
  k_sched_Table_offers_j1 x0 x1 x2 q10 q11 q87 t13 t96 h10) (
  (eqP (some (.int .i64)) none false .eql t93 (AV.int .i64 1)).bind fun t97 =>
  k_sched_Table_offers_j1 x0 x1 x2 q10 q11 q87 t13 t97 h10)) (
  some ((.exit 1), [q10, q11, q87], h5))
def k_sched_Table_offers_L0 (x0 : AV) (x1 : AV) (x2 : AV) (t85 : AV) (t86 : AV) (q10 : AV) (q11 : AV) (q87 : AV) (h5 : Heap) : OutV := loopN (fun us g => k_sched_Table_offers_b0 x0 x1 x2 t85 t86 (us.getD 0 .bot) (us.getD 1 .bot) (us.getD 2 .bot) g) [q10, q11, q87] h5
def k_sched_Table_offers (x0 : AV) (x1 : AV) (x2 : AV) (x3 : AV) (h : Heap) : Option (AV × Heap) :=
  mk Heap.new (bxP x3) h fun t7 h0 =>
  (faP 0 t7).bind fun t14 =>
  (ldS h0 t14).bind fun t15 =>
  (eqP (some (.int .i64)) none false .eql t15 (AV.int .i64 38)).bind fun t17 =>
  condE t17 (
  (faP 1 t7).bind fun t21 =>
  (ldS h0 t21).bind fun t22 =>
  (faP 2 t7).bind fun t23 =>
  (ldS h0 t23).bind fun t24 =>
  cl (k_sched_Table_offered x0 x1 x2 (AV.int .i64 (-1)) (AV.bool true) t22 t24 h0) fun t25 h1 =>
  mk Heap.new (bsP 4 [(AV.int .i64 0), (AV.bool false), (AV.int .i64 0), (AV.bool false)] 1 [(0, t25)]) h1 fun t26 h2 =>
  some (AV.tup [t26, (AV.int .i64 (-1))], h2)) (
  (eqP (some (.int .i64)) none false .eql t15 (AV.int .i64 39)).bind fun t28 =>
  condE t28 (
  (faP 2 t7).bind fun t32 =>
  (ldS h0 t32).bind fun t33 =>
  (faP 1 t7).bind fun t34 =>
  (ldS h0 t34).bind fun t35 =>
  cl (k_sched_Table_offered x0 x1 x2 (AV.int .i64 (-1)) (AV.bool false) t33 t35 h0) fun t36 h3 =>
  mk Heap.new (bsP 4 [(AV.int .i64 0), (AV.bool false), (AV.int .i64 0), (AV.bool false)] 1 [(0, t36)]) h3 fun t37 h4 =>
  some (AV.tup [t37, (AV.int .i64 (-1))], h4)) (
  (eqP (some (.int .i64)) none false .eql t15 (AV.int .i64 41)).bind fun t39 =>
  condE t39 (
  (faP 1 t7).bind fun t40 =>
  (ldS h0 t40).bind fun t41 =>
  (binP .lss t41 (AV.int .i64 0)).bind fun t42 =>
  (gV (gdW t42 false) (faP 2 t7) (.tup [])).bind fun t44 =>
  (gV (gdW t42 false) (ldS h0 t44) (.tup [])).bind fun t45 =>
  (gV (gdW t42 false) (binP .lss t45 (AV.int .i64 0)) (.tup [])).bind fun t46 =>
  (pickP t42 (AV.bool true) t46).bind fun t47 =>
  (gV (gdW t47 false) (faP 1 t7) (.tup [])).bind fun t49 =>
  (gV (gdW t47 false) (ldS h0 t49) (.tup [])).bind fun t50 =>
  (gV (gdW t47 false) (some x0) (.tup [])).bind fun t51 =>
  (gV (gdW t47 false) (nilV t51) (.tup [])).bind fun t52 =>
  (gV (gdW t47 false) (faP 0 t52) (.tup [])).bind fun t53 =>
  (gV (gdW t47 false) (faP 3 t53) (.tup [])).bind fun t54 =>
  (gV (gdW t47 false) (ldS h0 t54) (.tup [])).bind fun t55 =>
  (gV (gdW t47 false) (lnL t55) (.tup [])).bind fun t56 =>
  (gV (gdW t47 false) (binP .gtr t50 t56) (.tup [])).bind fun t57 =>
  (pickP t47 (AV.bool true) t57).bind fun t58 =>
  (gV (gdW t58 false) (faP 2 t7) (.tup [])).bind fun t60 =>
  (gV (gdW t58 false) (ldS h0 t60) (.tup [])).bind fun t61 =>
  (gV (gdW t58 false) (some x0) (.tup [])).bind fun t62 =>
  (gV (gdW t58 false) (nilV t62) (.tup [])).bind fun t63 =>
  (gV (gdW t58 false) (faP 0 t63) (.tup [])).bind fun t64 =>
  (gV (gdW t58 false) (faP 3 t64) (.tup [])).bind fun t65 =>
  (gV (gdW t58 false) (ldS h0 t65) (.tup [])).bind fun t66 =>
  (gV (gdW t58 false) (lnL t66) (.tup [])).bind fun t67 =>
  (gV (gdW t58 false) (faP 1 t7) (.tup [])).bind fun t68 =>
  (gV (gdW t58 false) (ldS h0 t68) (.tup [])).bind fun t69 =>
  (gV (gdW t58 false) (binP .sub t67 t69) (.tup [])).bind fun t70 =>
  (gV (gdW t58 false) (binP .gtr t61 t70) (.tup [])).bind fun t71 =>
  (pickP t58 (AV.bool true) t71).bind fun t72 =>
  chk [h0] [] (
  condE t72 (
  some (AV.tup [(AV.sl none 0 (.ex 0)), (AV.int .i64 (-1))], h0)) (
  (nilV x0).bind fun t74 =>
  (faP 0 t74).bind fun t75 =>
  (faP 3 t75).bind fun t76 =>
  (ldS h0 t76).bind fun t77 =>
  (faP 1 t7).bind fun t78 =>
  (ldS h0 t78).bind fun t79 =>
  (faP 1 t7).bind fun t80 =>
  (ldS h0 t80).bind fun t81 =>
  (faP 2 t7).bind fun t82 =>
  (ldS h0 t82).bind fun t83 =>
  (binP .add t81 t83).bind fun t84 =>
  (slcP 4 t77 (some t79) (some t84) none).bind fun t85 =>
  (lnL t85).bind fun t86 =>
  chk [h0] [] (
  lp (k_sched_Table_offers_L0 x0 x1 x2 t85 t86 (AV.sl none 0 (.ex 0)) (AV.int .i64 (-1)) (AV.int .i64 0) h0) fun e vs h58 =>
  thenK (if e = .exit 1 then .normal else e) (
  some (AV.tup [(vs.getD 0 .bot), (vs.getD 1 .bot)], h58)) (fun e_59 => endE e_59 (some (AV.tup [(AV.sl none 0 (.ex 0)), (AV.int .i64 0)], h58))))))) (
  some (AV.tup [(AV.sl none 0 (.ex 0)), (AV.int .i64 (-1))], h0))))
def T32 : Tab := (90, p4 k_sched_Table_offers) :: T31
/- 114: (*gantline/heap.Heap).Cycle -/
def k_heap_Heap_Cycle (x0 : AV) (h : Heap) : Option (AV × Heap) :=
  (nilV x0).bind fun t4 =>
  (faP 0 t4).bind fun t5 =>
  (ldS h t5).bind fun t6 =>
  some (t6, h)
def T33 : Tab := (114, p1 k_heap_Heap_Cycle) :: T32
/- 145: gantline/chans.get -/
def k_chans_get (x0 : AV) (x1 : AV) (x2 : AV) (h : Heap) : Option (AV × Heap) :=
  cl (k_heap_Heap_Cycle x0 h) fun t11 h0 =>
  cl (k_cycle_Cycle_Arena t11 h0) fun t12 h1 =>
  (binP .add x2 (AV.int .i64 1)).bind fun t15 =>
  cl (k_arena_Arena_Read t12 x1 t15 h1) fun t16 h2 =>
  (extractV 0 t16).bind fun t17 =>
  (extractV 1 t16).bind fun t18 =>
  some (t17, h2)
def T34 : Tab := (145, p3 k_chans_get) :: T33
/- 117: gantline/chans.Closed -/
def k_chans_Closed (x0 : AV) (x1 : AV) (h : Heap) : Option (AV × Heap) :=
  cl (k_chans_is x0 x1 h) fun t10 h0 =>
  (extractV 0 t10).bind fun t11 =>
  (extractV 1 t10).bind fun t12 =>
  (unA .not t11).bind fun t14 =>
  gQ (gdW t14 false) h0 (some (x0, h0)) fun t16 h1 =>
  gQ (gdW t14 false) h1 (some (x1, h1)) fun t17 h2 =>
  gQ (gdW t14 false) h2 (cl (k_chans_get t16 t17 (AV.int .i64 3) h2) fun t18 h3 =>
  some (t18, h3)) fun t18_4 h5 =>
  gQ (gdW t14 false) h5 ((eqP (some (.int .i64)) none false .neq t18_4 (AV.int .i64 0)).bind fun t19 =>
  some (t19, h5)) fun t19_6 h7 =>
  (pickP t14 (AV.bool true) t19_6).bind fun t20 =>
  some (t20, h7)
def T35 : Tab := (117, p2 k_chans_Closed) :: T34
/- 118: gantline/chans.Count -/
def k_chans_Count (x0 : AV) (x1 : AV) (h : Heap) : Option (AV × Heap) :=
  cl (k_chans_is x0 x1 h) fun t10 h0 =>
  (extractV 0 t10).bind fun t11 =>
  (extractV 1 t10).bind fun t12 =>
  (unA .not t11).bind fun t14 =>
  condE t14 (
  some ((AV.int .i64 0), h0)) (
  cl (k_chans_get x0 x1 (AV.int .i64 1) h0) fun t17 h1 =>
  some (t17, h1))
def T36 : Tab := (118, p2 k_chans_Count) :: T35
/- 119: gantline/chans.Room -/
def k_chans_Room (x0 : AV) (x1 : AV) (h : Heap) : Option (AV × Heap) :=
  cl (k_chans_is x0 x1 h) fun t10 h0 =>
  (extractV 0 t10).bind fun t11 =>
  (extractV 1 t10).bind fun t12 =>
  (unA .not t11).bind fun t14 =>
  condE t14 (
  some ((AV.int .i64 0), h0)) (
  cl (k_chans_get x0 x1 (AV.int .i64 0) h0) fun t17 h1 =>
  some (t17, h1))
def T37 : Tab := (119, p2 k_chans_Room) :: T36
/- 61: maps.Keys[map[int]*gantline/frame.Stack,int,*gantline/frame.Stack] -/
def k_maps_Keys_map_int_frame_Stack_int_frame_Stack (a : AV) (h : Heap) : Option (AV × Heap) := keysV 97 a h
def T38 : Tab := (61, p1 k_maps_Keys_map_int_frame_Stack_int_frame_Stack) :: T37
/- 60: slices.Sorted[int] -/
def k_slices_Sorted_int (a : AV) (h : Heap) : Option (AV × Heap) := sortedV 97 a h
def T39 : Tab := (60, p1 k_slices_Sorted_int) :: T38
/- 20: (*gantline/sched.Table).IDs -/
def k_sched_Table_IDs (x0 : AV) (h : Heap) : Option (AV × Heap) :=
  (nilV x0).bind fun t4 =>
  (faP 6 t4).bind fun t5 =>
  (ldS h t5).bind fun t6 =>
  cl (k_maps_Keys_map_int_frame_Stack_int_frame_Stack t6 h) fun t7 h0 =>
  cl (k_slices_Sorted_int t7 h0) fun t8 h1 =>
  some (t8, h1)
def T40 : Tab := (20, p1 k_sched_Table_IDs) :: T39
/- 120: (*gantline/sched.Table).partners -/
def k_sched_Table_partners_j0 (q58_14 : AV) (q9_78 : AV) (h79 : Heap) : OutV :=
  (binP .add q58_14 (AV.int .i64 1)).bind fun t87_80 =>
  some (.normal, [q9_78, t87_80], h79)
def k_sched_Table_partners_b0 (t7 : AV) (t25 : AV) (t54 : AV) (t57 : AV) (q9_13 : AV) (q58_14 : AV) (h15 : Heap) : OutV :=
  (binP .lss q58_14 t57).bind fun t59 =>
  condE t59 (
  (iaS 4 t54 q58_14).bind fun t60 =>
  (ldA 4 h15 t60).bind fun t61 =>
  mk Heap.new (some (Blk.cells true [(AV.int .i64 0), (AV.bool false), (AV.int .i64 0), (AV.bool false)], fun i => AV.ptr (some (i, 0)))) h15 fun t18 h46 =>
  cl (stP 4 h46 t18 t61) fun u_47 h48 =>
  (faP 3 t18).bind fun t62 =>
  (ldS h48 t62).bind fun t63 =>
  gQ (gdW t63 true) h48 ((faP 2 t18).bind fun t65 =>
  some (t65, h48)) fun t65_49 h50 =>
  gQ (gdW t63 true) h50 ((ldS h50 t65_49).bind fun t66 =>
  some (t66, h50)) fun t66_51 h52 =>
  gQ (gdW t63 true) h52 ((faP 2 t7).bind fun t67 =>
  some (t67, h52)) fun t67_53 h54 =>
  gQ (gdW t63 true) h54 ((ldS h54 t67_53).bind fun t68 =>
  some (t68, h54)) fun t68_55 h56 =>
  gQ (gdW t63 true) h56 ((eqP (some (.int .i64)) none false .eql t66_51 t68_55).bind fun t69 =>
  some (t69, h56)) fun t69_57 h58 =>
  (pickP t63 t69_57 (AV.bool false)).bind fun t70 =>
  gQ (gdW t70 true) h58 ((faP 1 t18).bind fun t72 =>
  some (t72, h58)) fun t72_59 h60 =>
  gQ (gdW t70 true) h60 ((ldS h60 t72_59).bind fun t73 =>
  some (t73, h60)) fun t73_61 h62 =>
  gQ (gdW t70 true) h62 ((faP 1 t7).bind fun t74 =>
  some (t74, h62)) fun t74_63 h64 =>
  gQ (gdW t70 true) h64 ((ldS h64 t74_63).bind fun t75 =>
  some (t75, h64)) fun t75_65 h66 =>
  gQ (gdW t70 true) h66 ((eqP (some .bool) none false .neq t73_61 t75_65).bind fun t76 =>
  some (t76, h66)) fun t76_67 h68 =>
  (pickP t70 t76_67 (AV.bool false)).bind fun t77 =>
  condE t77 (
  (faP 0 t7).bind fun t79 =>
  (ldS h68 t79).bind fun t80 =>
  (faP 0 t18).bind fun t82 =>
  (ldS h68 t82).bind fun t83 =>
  (bldS [(0, 1), (1, 1), (2, 1)] [(AV.int .i64 0), (AV.int .i64 0), (AV.int .i64 0)] [(0, t80), (1, t25), (2, t83)]).bind fun t84 =>
  mk Heap.new (bsP 3 [(AV.int .i64 0), (AV.int .i64 0), (AV.int .i64 0)] 1 [(0, t84)]) h68 fun t85 h81 =>
  cl (appendA h81 3 24 q9_13 t85) fun t86 h82 =>
  k_sched_Table_partners_j0 q58_14 t86 h82) (
  k_sched_Table_partners_j0 q58_14 q9_13 h68)) (
  some ((.exit 2), [q9_13, q58_14], h15))
def k_sched_Table_partners_L0 (t7 : AV) (t25 : AV) (t54 : AV) (t57 : AV) (q9_13 : AV) (q58_14 : AV) (h15 : Heap) : OutV := loopN (fun us g => k_sched_Table_partners_b0 t7 t25 t54 t57 (us.getD 0 .bot) (us.getD 1 .bot) g) [q9_13, q58_14] h15
def k_sched_Table_partners_b1 (x0 : AV) (x1 : AV) (x2 : AV) (t7 : AV) (t20 : AV) (t21 : AV) (q9 : AV) (q22 : AV) (h2 : Heap) : OutV :=
  (binP .lss q22 t21).bind fun t23 =>
  condE t23 (
  (iaS 1 t20 q22).bind fun t24 =>
  (ldS h2 t24).bind fun t25 =>
  (nilV x0).bind fun t27 =>
  (faP 6 t27).bind fun t28 =>
  (ldS h2 t28).bind fun t29 =>
  (lkP (fdA (.int .i64)) (AV.ptr none) false h2 t29 t25).bind fun t31 =>
  (nilV x0).bind fun t35 =>
  (faP 0 t35).bind fun t36 =>
  (ldA 6 h2 t36).bind fun t37 =>
  cl (k_frame_Stack_At t31 t37 h2) fun t38 h5 =>
  (extractV 0 t38).bind fun t39 =>
  (extractV 1 t38).bind fun t40 =>
  mk Heap.new (some (Blk.cells true [(AV.int .i64 0), (AV.int .i64 0), (AV.int .i64 0), (AV.int .i64 0), (AV.int .i64 0)], fun i => AV.ptr (some (i, 0)))) h5 fun t13 h6 =>
  cl (stP 5 h6 t13 t39) fun u h7 =>
  (eqP (some (.int .i64)) none false .eql t25 x2).bind fun t43 =>
  gQ (gdW t43 false) h7 (some (t40, h7)) fun t45 h8 =>
  gQ (gdW t43 false) h8 ((unA .not t45).bind fun t46 =>
  some (t46, h8)) fun t46_9 h10 =>
  (pickP t43 (AV.bool true) t46_9).bind fun t47 =>
  condE t47 (
  (binP .add q22 (AV.int .i64 1)).bind fun t88_11 =>
  some (.normal, [q9, t88_11], h10)) (
  (ldA 5 h10 t13).bind fun t52 =>
  cl (k_sched_Table_offers x0 x1 t31 t52 h10) fun t53 h12 =>
  (extractV 0 t53).bind fun t54 =>
  (extractV 1 t53).bind fun t55 =>
  (lnL t54).bind fun t57 =>
  lp (k_sched_Table_partners_L0 t7 t25 t54 t57 q9 (AV.int .i64 0) h12) fun e vs h83 =>
  thenK (if (if e = .exit 2 then .normal else e) = .exit 1 then .normal else (if e = .exit 2 then .normal else e)) (
  (binP .add q22 (AV.int .i64 1)).bind fun t88_84 =>
  some (.normal, [(vs.getD 0 .bot), t88_84], h83)) (fun e_85 => some (e_85, [(vs.getD 0 .bot), q22], h83)))) (
  some ((.exit 0), [q9, q22], h2))
def k_sched_Table_partners_L1 (x0 : AV) (x1 : AV) (x2 : AV) (t7 : AV) (t20 : AV) (t21 : AV) (q9 : AV) (q22 : AV) (h2 : Heap) : OutV := loopN (fun us g => k_sched_Table_partners_b1 x0 x1 x2 t7 t20 t21 (us.getD 0 .bot) (us.getD 1 .bot) g) [q9, q22] h2
def k_sched_Table_partners (x0 : AV) (x1 : AV) (x2 : AV) (x3 : AV) (h : Heap) : Option (AV × Heap) :=
  mk Heap.new (bxP x3) h fun t7 h0 =>
  cl (k_sched_Table_IDs x0 h0) fun t20 h1 =>
  (lnL t20).bind fun t21 =>
  lp (k_sched_Table_partners_L1 x0 x1 x2 t7 t20 t21 (AV.sl none 0 (.ex 0)) (AV.int .i64 0) h1) fun e_86 vs_87 h88 =>
  thenK (if e_86 = .exit 0 then .normal else e_86) (
  some ((vs_87.getD 0 .bot), h88)) (fun e_89 => endE e_89 (some ((AV.sl none 0 (.ex 0)), h88)))
def T41 : Tab := (120, p4 k_sched_Table_partners) :: T40
/- 91: (*gantline/sched.Table).ways -/
def k_sched_Table_ways (x0 : AV) (x1 : AV) (x2 : AV) (x3 : AV) (h : Heap) : Option (AV × Heap) :=
  mk Heap.new (bxP x3) h fun t7 h0 =>
  (faP 0 t7).bind fun t10 =>
  (ldS h0 t10).bind fun t11 =>
  (bldS [(0, 1), (1, 1), (2, 1)] [(AV.int .i64 0), (AV.int .i64 0), (AV.int .i64 0)] [(0, t11), (1, (AV.int .i64 0)), (2, (AV.int .i64 (-1)))]).bind fun t12 =>
  mk Heap.new (bsP 3 [(AV.int .i64 0), (AV.int .i64 0), (AV.int .i64 0)] 1 [(0, t12)]) h0 fun t13 h1 =>
  (faP 3 t7).bind fun t15 =>
  (ldS h1 t15).bind fun t16 =>
  (unA .not t16).bind fun t17 =>
  gQ (gdW t17 true) h1 ((faP 0 t7).bind fun t19 =>
  some (t19, h1)) fun t19_2 h3 =>
  gQ (gdW t17 true) h3 ((ldS h3 t19_2).bind fun t20 =>
  some (t20, h3)) fun t20_4 h5 =>
  gQ (gdW t17 true) h5 ((eqP (some (.int .i64)) none false .neq t20_4 (AV.int .i64 (-1))).bind fun t21 =>
  some (t21, h5)) fun t21_6 h7 =>
  (pickP t17 t21_6 (AV.bool false)).bind fun t22 =>
  condE t22 (
  some ((AV.sl none 0 (.ex 0)), h7)) (
  (faP 3 t7).bind fun t24 =>
  (ldS h7 t24).bind fun t25 =>
  (unA .not t25).bind fun t26 =>
  gQ (gdW t26 false) h7 (some (x1, h7)) fun t28 h8 =>
  gQ (gdW t26 false) h8 ((faP 2 t7).bind fun t29 =>
  some (t29, h8)) fun t29_9 h10 =>
  gQ (gdW t26 false) h10 ((ldS h10 t29_9).bind fun t30 =>
  some (t30, h10)) fun t30_11 h12 =>
  gQ (gdW t26 false) h12 (cl (k_chans_Closed t28 t30_11 h12) fun t31 h13 =>
  some (t31, h13)) fun t31_14 h15 =>
  (pickP t26 (AV.bool true) t31_14).bind fun t32 =>
  condE t32 (
  some (t13, h15)) (
  (faP 1 t7).bind fun t35 =>
  (ldS h15 t35).bind fun t36 =>
  (gV (gdW t36 true) (some x1) (.tup [])).bind fun t38 =>
  (gV (gdW t36 true) (faP 2 t7) (.tup [])).bind fun t39 =>
  (gV (gdW t36 true) (ldS h15 t39) (.tup [])).bind fun t40 =>
  gQ (gdW t36 true) h15 (cl (k_chans_Count t38 t40 h15) fun t41 h16 =>
  some (t41, h16)) fun t41_17 h18 =>
  (gV (gdW t36 true) (some x1) (.tup [])).bind fun t42 =>
  (gV (gdW t36 true) (faP 2 t7) (.tup [])).bind fun t43 =>
  clC (gV (gdW t36 true) (rdC (fun g => ldS g t43) h18 0 1 []) (.tup [], [])) fun t44 cs =>
  gQ (gdW t36 true) h18 (cl (k_chans_Room t42 t44 h18) fun t45 h19 =>
  some (t45, h19)) fun t45_20 h21 =>
  (gV (gdW t36 true) (binP .lss t41_17 t45_20) (.tup [])).bind fun t46 =>
  (pickP t36 t46 (AV.bool false)).bind fun t47 =>
  chk [h15, h18, h21] cs (
  condE t47 (
  some (t13, h21)) (
  (faP 1 t7).bind fun t50 =>
  (ldS h21 t50).bind fun t51 =>
  (unA .not t51).bind fun t52 =>
  gQ (gdW t52 true) h21 (some (x1, h21)) fun t54 h22 =>
  gQ (gdW t52 true) h22 ((faP 2 t7).bind fun t55 =>
  some (t55, h22)) fun t55_23 h24 =>
  gQ (gdW t52 true) h24 ((ldS h24 t55_23).bind fun t56 =>
  some (t56, h24)) fun t56_25 h26 =>
  gQ (gdW t52 true) h26 (cl (k_chans_Count t54 t56_25 h26) fun t57 h27 =>
  some (t57, h27)) fun t57_28 h29 =>
  gQ (gdW t52 true) h29 ((binP .gtr t57_28 (AV.int .i64 0)).bind fun t58 =>
  some (t58, h29)) fun t58_30 h31 =>
  (pickP t52 t58_30 (AV.bool false)).bind fun t59 =>
  condE t59 (
  some (t13, h31)) (
  (faP 2 t7).bind fun t63 =>
  (ldS h31 t63).bind fun t64 =>
  cl (k_chans_Room x1 t64 h31) fun t65 h32 =>
  (eqP (some (.int .i64)) none false .eql t65 (AV.int .i64 0)).bind fun t66 =>
  condE t66 (
  (ldA 4 h32 t7).bind fun t70 =>
  cl (k_sched_Table_partners x0 x1 x2 t70 h32) fun t71 h33 =>
  some (t71, h33)) (
  some ((AV.sl none 0 (.ex 0)), h32)))))))
def T42 : Tab := (91, p4 k_sched_Table_ways) :: T41
/- 56: (*gantline/sched.Table).Ways -/
def k_sched_Table_Ways_b0 (x0 : AV) (x1 : AV) (x2 : AV) (t55 : AV) (t58 : AV) (q12 : AV) (q59 : AV) (h17 : Heap) : OutV :=
  (binP .lss q59 t58).bind fun t60 =>
  condE t60 (
  (iaS 4 t55 q59).bind fun t61 =>
  (ldA 4 h17 t61).bind fun t62 =>
  mk Heap.new (some (Blk.cells true [(AV.int .i64 0), (AV.bool false), (AV.int .i64 0), (AV.bool false)], fun i => AV.ptr (some (i, 0)))) h17 fun t14 h18 =>
  cl (stP 4 h18 t14 t62) fun u_19 h20 =>
  (ldA 4 h20 t14).bind fun t67 =>
  cl (k_sched_Table_ways x0 x1 x2 t67 h20) fun t68 h21 =>
  cl (appendA h21 3 24 q12 t68) fun t69 h22 =>
  (binP .add q59 (AV.int .i64 1)).bind fun t70 =>
  some (.normal, [t69, t70], h22)) (
  some ((.exit 0), [q12, q59], h17))
def k_sched_Table_Ways_L0 (x0 : AV) (x1 : AV) (x2 : AV) (t55 : AV) (t58 : AV) (q12 : AV) (q59 : AV) (h17 : Heap) : OutV := loopN (fun us g => k_sched_Table_Ways_b0 x0 x1 x2 t55 t58 (us.getD 0 .bot) (us.getD 1 .bot) g) [q12, q59] h17
def k_sched_Table_Ways (x0 : AV) (x1 : AV) (x2 : AV) (h : Heap) : Option (AV × Heap) :=
  (nilV x0).bind fun t16 =>
  (faP 6 t16).bind fun t17 =>
  (ldS h t17).bind fun t18 =>
  (lkP (fdA (.int .i64)) (AV.ptr none) false h t18 x2).bind fun t20 =>
  (eqP (some (.pointer 0)) none false .eql t20 (AV.ptr none)).bind fun t22 =>
  condE t22 (
  some ((AV.sl none 0 (.ex 0)), h)) (
  (nilV x0).bind fun t26 =>
  (faP 0 t26).bind fun t27 =>
  (ldA 6 h t27).bind fun t28 =>
  cl (k_frame_Stack_At t20 t28 h) fun t29 h0 =>
  (extractV 0 t29).bind fun t30 =>
  (extractV 1 t29).bind fun t31 =>
  mk Heap.new (some (Blk.cells true [(AV.int .i64 0), (AV.int .i64 0), (AV.int .i64 0), (AV.int .i64 0), (AV.int .i64 0)], fun i => AV.ptr (some (i, 0)))) h0 fun t8 h1 =>
  cl (stP 5 h1 t8 t30) fun u h2 =>
  (unA .not t31).bind fun t33 =>
  condE t33 (
  some ((AV.sl none 0 (.ex 0)), h2)) (
  (faP 0 t8).bind fun t34 =>
  (ldS h2 t34).bind fun t35 =>
  (eqP (some (.int .i64)) none false .neq t35 (AV.int .i64 38)).bind fun t36 =>
  gQ (gdW t36 true) h2 ((faP 0 t8).bind fun t38 =>
  some (t38, h2)) fun t38_3 h4 =>
  gQ (gdW t36 true) h4 ((ldS h4 t38_3).bind fun t39 =>
  some (t39, h4)) fun t39_5 h6 =>
  gQ (gdW t36 true) h6 ((eqP (some (.int .i64)) none false .neq t39_5 (AV.int .i64 39)).bind fun t40 =>
  some (t40, h6)) fun t40_7 h8 =>
  (pickP t36 t40_7 (AV.bool false)).bind fun t41 =>
  gQ (gdW t41 true) h8 ((faP 0 t8).bind fun t43 =>
  some (t43, h8)) fun t43_9 h10 =>
  gQ (gdW t41 true) h10 ((ldS h10 t43_9).bind fun t44 =>
  some (t44, h10)) fun t44_11 h12 =>
  gQ (gdW t41 true) h12 ((eqP (some (.int .i64)) none false .neq t44_11 (AV.int .i64 41)).bind fun t45 =>
  some (t45, h12)) fun t45_13 h14 =>
  (pickP t41 t45_13 (AV.bool false)).bind fun t46 =>
  condE t46 (
  (bldS [(0, 1), (1, 1), (2, 1)] [(AV.int .i64 0), (AV.int .i64 0), (AV.int .i64 0)] [(0, (AV.int .i64 (-1))), (1, (AV.int .i64 0)), (2, (AV.int .i64 (-1)))]).bind fun t47 =>
  mk Heap.new (bsP 3 [(AV.int .i64 0), (AV.int .i64 0), (AV.int .i64 0)] 1 [(0, t47)]) h14 fun t48 h15 =>
  some (t48, h15)) (
  (ldA 5 h14 t8).bind fun t53 =>
  cl (k_sched_Table_offers x0 x1 t20 t53 h14) fun t54 h16 =>
  (extractV 0 t54).bind fun t55 =>
  (extractV 1 t54).bind fun t56 =>
  (lnL t55).bind fun t58 =>
  lp (k_sched_Table_Ways_L0 x0 x1 x2 t55 t58 (AV.sl none 0 (.ex 0)) (AV.int .i64 0) h16) fun e vs h23 =>
  thenK (if e = .exit 0 then .normal else e) (
  (lnL (vs.getD 0 .bot)).bind fun t72 =>
  (eqP (some (.int .i64)) none false .eql t72 (AV.int .i64 0)).bind fun t73 =>
  gQ (gdW t73 true) h23 (some (t56, h23)) fun t75 h24 =>
  gQ (gdW t73 true) h24 ((eqP (some (.int .i64)) none false .neq t75 (AV.int .i64 (-1))).bind fun t76 =>
  some (t76, h24)) fun t76_25 h26 =>
  (pickP t73 t76_25 (AV.bool false)).bind fun t77 =>
  condE t77 (
  (bldS [(0, 1), (1, 1), (2, 1)] [(AV.int .i64 0), (AV.int .i64 0), (AV.int .i64 0)] [(0, t56), (1, (AV.int .i64 0)), (2, (AV.int .i64 (-1)))]).bind fun t79 =>
  mk Heap.new (bsP 3 [(AV.int .i64 0), (AV.int .i64 0), (AV.int .i64 0)] 1 [(0, t79)]) h26 fun t80 h29 =>
  some (t80, h29)) (
  some ((vs.getD 0 .bot), h26))) (fun e_30 => endE e_30 (some ((AV.sl none 0 (.ex 0)), h23))))))
def T43 : Tab := (56, p3 k_sched_Table_Ways) :: T42
/- 93: (*gantline/sched.Table).Enabled$1 -/
def k_sched_Table_Enabled_1 (x0 : AV) (x1 : AV) (x2 : AV) (h : Heap) : Option (AV × Heap) :=
  (ldS h x1).bind fun t5 =>
  (ldS h x2).bind fun t6 =>
  cl (k_sched_Table_Ways t5 t6 x0 h) fun t8 h0 =>
  (lnL t8).bind fun t9 =>
  (eqP (some (.int .i64)) none false .eql t9 (AV.int .i64 0)).bind fun t10 =>
  some (t10, h0)
def T44 : Tab := (93, p3 k_sched_Table_Enabled_1) :: T43
/- 17: gantline/gantlinelaw16.module -/
def k_law16_module (h : Heap) : Option (AV × Heap) := bodyK Tryz.prog (lookT T44) ann 17 [] h
def T45 : Tab := (17, p0 k_law16_module) :: T44
/- 23: gantline/arena.New -/
def k_arena_New_b0 (t18 : AV) (t23 : AV) (q24 : AV) (h6 : Heap) : OutV :=
  (binP .lss q24 t23).bind fun t25 =>
  condE t25 (
  (nilV t18).bind fun t28 =>
  (faP 1 t28).bind fun t29 =>
  (ldS h6 t29).bind fun t30 =>
  (iaS 3 t30 q24).bind fun t32 =>
  (faP 0 t32).bind fun t33 =>
  cl (stP 1 h6 t33 (AV.int .i64 (-1))) fun u h7 =>
  (binP .add q24 (AV.int .i64 1)).bind fun t34 =>
  some (.normal, [t34], h7)) (
  some ((.exit 0), [q24], h6))
def k_arena_New_L0 (t18 : AV) (t23 : AV) (q24 : AV) (h6 : Heap) : OutV := loopN (fun us g => k_arena_New_b0 t18 t23 (us.getD 0 .bot) g) [q24] h6
def k_arena_New (x0 : AV) (h : Heap) : Option (AV × Heap) :=
  (binP .lss x0 (AV.int .i64 8)).bind fun t7 =>
  gQ (gdW t7 false) h (some (x0, h)) fun t9 h0 =>
  gQ (gdW t7 false) h0 ((binP .gtr t9 (AV.int .i64 512)).bind fun t10 =>
  some (t10, h0)) fun t10_1 h2 =>
  (pickP t7 (AV.bool true) t10_1).bind fun t11 =>
  condE t11 (
  some (AV.tup [(AV.ptr none), (AV.int .i64 1)], h2)) (
  (binP .mul x0 (AV.int .i64 64)).bind fun t13 =>
  cl (mkAt Heap.put (msP 1 8 [(AV.int .i64 0)] t13 t13) (h2.next + 0) (hpN h2 3)) fun t14 h3 =>
  cl (mkAt Heap.put (msP 3 24 [(AV.int .i64 0), (AV.int .u64 0), (AV.int .u64 0)] x0 x0) (h2.next + 1) h3) fun t16 h4 =>
  (bldS [(0, 1), (1, 1)] [(AV.sl none 0 (.ex 0)), (AV.sl none 0 (.ex 0))] [(0, t14), (1, t16)]).bind fun t17 =>
  cl (mkAt Heap.put (bxP t17) (h2.next + 2) h4) fun t18 h5 =>
  chk [(hpN h2 3)] [] (
  (nilV t18).bind fun t20 =>
  (faP 1 t20).bind fun t21 =>
  (ldS h5 t21).bind fun t22 =>
  (lnL t22).bind fun t23 =>
  lp (k_arena_New_L0 t18 t23 (AV.int .i64 0) h5) fun e vs h8 =>
  thenK (if e = .exit 0 then .normal else e) (
  some (AV.tup [t18, (AV.int .i64 0)], h8)) (fun e_9 => endE e_9 (some (AV.tup [(AV.ptr none), (AV.int .i64 0)], h8)))))
def T46 : Tab := (23, p1 k_arena_New) :: T45
/- 24: gantline/head.New -/
def k_head_New (h : Heap) : Option (AV × Heap) :=
  mk Heap.new (some (Blk.mp [], fun i => AV.mp (some i))) h fun t1 h0 =>
  (bldS [(0, 1), (1, 1)] [(AV.sl none 0 (.ex 0)), (AV.mp none)] [(1, t1)]).bind fun t2 =>
  mk Heap.new (bxP t2) h0 fun t3 h1 =>
  some (t3, h1)
def T47 : Tab := (24, p0 k_head_New) :: T46
/- 63: (*gantline/arena.Arena).Spans -/
def k_arena_Arena_Spans (x0 : AV) (h : Heap) : Option (AV × Heap) :=
  (nilV x0).bind fun t4 =>
  (faP 1 t4).bind fun t5 =>
  (ldS h t5).bind fun t6 =>
  (lnL t6).bind fun t7 =>
  some (t7, h)
def T48 : Tab := (63, p1 k_arena_Arena_Spans) :: T47
/- 27: gantline/alloc.New -/
def k_alloc_New (x0 : AV) (h : Heap) : Option (AV × Heap) :=
  cl (k_arena_Arena_Spans x0 h) fun t5 h0 =>
  mk Heap.new (msP 1 1 [(AV.bool false)] t5 t5) h0 fun t6 h1 =>
  (bldS [(0, 1), (1, 1)] [(AV.ptr none), (AV.sl none 0 (.ex 0))] [(0, x0), (1, t6)]).bind fun t7 =>
  mk Heap.new (bxP t7) h1 fun t8 h2 =>
  some (t8, h2)
def T49 : Tab := (27, p1 k_alloc_New) :: T48
/- 62: gantline/grey.New -/
def k_grey_New (h : Heap) : Option (AV × Heap) :=
  (bldS [(0, 1)] [(AV.sl none 0 (.ex 0))] []).bind fun t1 =>
  mk Heap.new (bxP t1) h fun t2 h0 =>
  some (t2, h0)
def T50 : Tab := (62, p0 k_grey_New) :: T49
/- 25: gantline/mark.New -/
def k_mark_New (x0 : AV) (x1 : AV) (h : Heap) : Option (AV × Heap) :=
  cl (k_grey_New h) fun t7 h0 =>
  (bldS [(0, 1), (1, 1), (2, 1)] [(AV.ptr none), (AV.ptr none), (AV.ptr none)] [(0, x0), (1, x1), (2, t7)]).bind fun t8 =>
  mk Heap.new (bxP t8) h0 fun t9 h1 =>
  some (t9, h1)
def T51 : Tab := (25, p2 k_mark_New) :: T50
/- 84: gantline/cycle.New -/
def k_cycle_New (x0 : AV) (h : Heap) : Option (AV × Heap) :=
  cl (k_arena_New x0 h) fun t9 h0 =>
  (extractV 0 t9).bind fun t10 =>
  (extractV 1 t9).bind fun t11 =>
  (eqP (some (.int .i64)) none false .neq t11 (AV.int .i64 0)).bind fun t13 =>
  condE t13 (
  some (AV.tup [(AV.ptr none), t11], h0)) (
  cl (k_head_New h0) fun t15 h1 =>
  cl (k_alloc_New t10 h1) fun t19 h2 =>
  cl (k_mark_New t10 t15 h2) fun t22 h3 =>
  mk Heap.new (some (Blk.mp [], fun i => AV.mp (some i))) h3 fun t23 h4 =>
  (bldS [(0, 1), (1, 1), (2, 1), (3, 1), (4, 1), (5, 1), (6, 1), (7, 1)] [(AV.ptr none), (AV.ptr none), (AV.ptr none), (AV.ptr none), (AV.int .i64 0), (AV.mp none), (AV.int .i64 0), (AV.int .i64 0)] [(0, t10), (1, t15), (2, t19), (3, t22), (5, t23), (7, (AV.int .i64 64))]).bind fun t24 =>
  mk Heap.new (bxP t24) h4 fun t25 h5 =>
  some (AV.tup [t25, (AV.int .i64 0)], h5))
def T52 : Tab := (84, p1 k_cycle_New) :: T51
/- 64: gantline/head.Good -/
def k_head_Good_j0 (t1 : AV) (q25 : AV) (h22 : Heap) : Option (AV × Heap) :=
  condE q25 (
  (faP 1 t1).bind fun t28 =>
  (ldS h22 t28).bind fun t29 =>
  (eqP (some (.int .i64)) none false .eql t29 (AV.int .i64 0)).bind fun t30 =>
  gQ (gdW t30 true) h22 ((faP 2 t1).bind fun t32 =>
  some (t32, h22)) fun t32_23 h24 =>
  gQ (gdW t30 true) h24 ((ldS h24 t32_23).bind fun t33 =>
  some (t33, h24)) fun t33_25 h26 =>
  gQ (gdW t30 true) h26 ((binP .leq t33_25 (AV.int .u64 1)).bind fun t34 =>
  some (t34, h26)) fun t34_27 h28 =>
  (pickP t30 t34_27 (AV.bool false)).bind fun t35 =>
  some (t35, h28)) (
  some ((AV.bool false), h22))
def k_head_Good_j1 (t1 : AV) (t4 : AV) (q5 : AV) (h1 : Heap) : Option (AV × Heap) :=
  condE q5 (
  (faP 1 t1).bind fun t8 =>
  (ldS h1 t8).bind fun t9 =>
  (binP .geq t9 (AV.int .i64 0)).bind fun t10 =>
  gQ (gdW t10 true) h1 ((faP 1 t1).bind fun t12 =>
  some (t12, h1)) fun t12_2 h3 =>
  gQ (gdW t10 true) h3 ((ldS h3 t12_2).bind fun t13 =>
  some (t13, h3)) fun t13_4 h5 =>
  gQ (gdW t10 true) h5 ((binP .leq t13_4 (AV.int .i64 63)).bind fun t14 =>
  some (t14, h5)) fun t14_6 h7 =>
  (pickP t10 t14_6 (AV.bool false)).bind fun t15 =>
  gQ (gdW t15 true) h7 ((faP 2 t1).bind fun t17 =>
  some (t17, h7)) fun t17_8 h9 =>
  gQ (gdW t15 true) h9 ((ldS h9 t17_8).bind fun t18 =>
  some (t18, h9)) fun t18_10 h11 =>
  gQ (gdW t15 true) h11 ((faP 1 t1).bind fun t19 =>
  some (t19, h11)) fun t19_12 h13 =>
  gQ (gdW t15 true) h13 ((ldS h13 t19_12).bind fun t20 =>
  some (t20, h13)) fun t20_14 h15 =>
  gQ (gdW t15 true) h15 ((cvI .u64 t20_14).bind fun t21 =>
  some (t21, h15)) fun t21_16 h17 =>
  gQ (gdW t15 true) h17 ((binP .shr t18_10 t21_16).bind fun t22 =>
  some (t22, h17)) fun t22_18 h19 =>
  gQ (gdW t15 true) h19 ((eqP (some (.int .u64)) none false .eql t22_18 (AV.int .u64 0)).bind fun t23 =>
  some (t23, h19)) fun t23_20 h21 =>
  (pickP t15 t23_20 (AV.bool false)).bind fun t24 =>
  some (t24, h21)) (
  (eqP (some (.int .i64)) none false .eql t4 (AV.int .i64 1)).bind fun t26 =>
  condE t26 (
  k_head_Good_j0 t1 t26 h1) (
  (eqP (some (.int .i64)) none false .eql t4 (AV.int .i64 3)).bind fun t27 =>
  k_head_Good_j0 t1 t27 h1))
def k_head_Good (x0 : AV) (h : Heap) : Option (AV × Heap) :=
  mk Heap.new (bxP x0) h fun t1 h0 =>
  (faP 0 t1).bind fun t3 =>
  (ldS h0 t3).bind fun t4 =>
  (eqP (some (.int .i64)) none false .eql t4 (AV.int .i64 0)).bind fun t6 =>
  condE t6 (
  k_head_Good_j1 t1 t4 t6 h0) (
  (eqP (some (.int .i64)) none false .eql t4 (AV.int .i64 2)).bind fun t7 =>
  k_head_Good_j1 t1 t4 t7 h0)
def T53 : Tab := (64, p1 k_head_Good) :: T52
/- 30: (*gantline/head.Table).Number -/
def k_head_Table_Number (x0 : AV) (x1 : AV) (h : Heap) : Option (AV × Heap) :=
  mk Heap.new (bxP x1) h fun t3 h0 =>
  (ldA 3 h0 t3).bind fun t8 =>
  cl (k_head_Good t8 h0) fun t9 h1 =>
  (unA .not t9).bind fun t10 =>
  condE t10 (
  some (AV.tup [(AV.int .i64 0), (AV.int .i64 1)], h1)) (
  (nilV x0).bind fun t13 =>
  (faP 1 t13).bind fun t14 =>
  (ldS h1 t14).bind fun t15 =>
  (ldA 3 h1 t3).bind fun t16 =>
  (lkP (fdS [(0, (.int .i64)), (1, (.int .i64)), (2, (.int .u64))]) (AV.int .i64 0) true h1 t15 t16).bind fun t17 =>
  (extractV 0 t17).bind fun t18 =>
  (extractV 1 t17).bind fun t19 =>
  chk [h1] [] (
  condE t19 (
  some (AV.tup [t18, (AV.int .i64 0)], h1)) (
  (nilV x0).bind fun t23 =>
  (faP 0 t23).bind fun t24 =>
  (ldS h1 t24).bind fun t25 =>
  (lnL t25).bind fun t26 =>
  (eqP (some (.int .i64)) none false .eql t26 (AV.int .i64 65536)).bind fun t27 =>
  condE t27 (
  some (AV.tup [(AV.int .i64 0), (AV.int .i64 2)], h1)) (
  (nilV x0).bind fun t29 =>
  (faP 1 t29).bind fun t30 =>
  (ldS h1 t30).bind fun t31 =>
  (ldA 3 h1 t3).bind fun t32 =>
  (nilV x0).bind fun t34 =>
  (faP 0 t34).bind fun t35 =>
  (ldS h1 t35).bind fun t36 =>
  (lnL t36).bind fun t37 =>
  cl (muP (ptS [(0, (.int .i64)), (1, (.int .i64)), (2, (.int .u64))]) h1 t31 t32 t37) fun u h2 =>
  chk [h1, h2] [] (
  (nilV x0).bind fun t40 =>
  (faP 0 t40).bind fun t41 =>
  (ldS (hpN h2 1) t41).bind fun t42 =>
  (ldA 3 (hpN h2 1) t3).bind fun t43 =>
  cl (mkAt Heap.put (bsP 3 [(AV.int .i64 0), (AV.int .i64 0), (AV.int .u64 0)] 1 [(0, t43)]) (h2.next + 0) (hpN h2 1)) fun t44 h3 =>
  cl (appendA h3 3 24 t42 t44) fun t45 h4 =>
  (nilV x0).bind fun t46 =>
  (faP 0 t46).bind fun t47 =>
  cl (stP 1 h4 t47 t45) fun u_5 h6 =>
  chk [(hpN h2 1), h4, h6] [] (
  (nilV x0).bind fun t49 =>
  (faP 0 t49).bind fun t50 =>
  (ldS h6 t50).bind fun t51 =>
  (lnL t51).bind fun t52 =>
  (binP .sub t52 (AV.int .i64 1)).bind fun t53 =>
  some (AV.tup [t53, (AV.int .i64 0)], h6)))))))
def T54 : Tab := (30, p2 k_head_Table_Number) :: T53
/- 86: slices.Clone[[]gantline/head.Shape,gantline/head.Shape] -/
def k_slices_Clone_head_Shape_head_Shape (x0 : AV) (h : Heap) : Option (AV × Heap) :=
  (eqP (some (.slice 0)) none false .eql x0 (AV.sl none 0 (.ex 0))).bind fun t4 =>
  condE t4 (
  some ((AV.sl none 0 (.ex 0)), h)) (
  mk Heap.new (bsP 3 [(AV.int .i64 0), (AV.int .i64 0), (AV.int .u64 0)] 0 []) h fun t5 h0 =>
  cl (appendA h0 3 24 t5 x0) fun t7 h1 =>
  some (t7, h1))
def T55 : Tab := (86, p1 k_slices_Clone_head_Shape_head_Shape) :: T54
/- 54: gantline/heap.New -/
def k_heap_New_b0 (x1 : AV) (t16 : AV) (t25 : AV) (q4 : AV) (q5 : AV) (q26 : AV) (h2 : Heap) : OutV :=
  (binP .lss q26 t25).bind fun t27 =>
  condE t27 (
  (iaS 3 x1 q26).bind fun t28 =>
  (ldA 3 h2 t28).bind fun t29 =>
  mk Heap.new (some (Blk.cells true [(AV.int .i64 0), (AV.int .i64 0), (AV.int .u64 0)], fun i => AV.ptr (some (i, 0)))) h2 fun t10 h3 =>
  cl (stP 3 h3 t10 t29) fun u h4 =>
  cl (k_cycle_Cycle_Table t16 h4) fun t32 h5 =>
  clC (rdC (fun g => ldA 3 g t10) h5 0 1 []) fun t33 cs =>
  cl (k_head_Table_Number t32 t33 h5) fun t34 h6 =>
  (extractV 0 t34).bind fun t35 =>
  (extractV 1 t34).bind fun t36 =>
  chk [h4, h5, h6] cs (
  (eqP (some (.int .i64)) none false .neq t36 (AV.int .i64 0)).bind fun t38 =>
  condE t38 (
  some (.ret, [(AV.ptr none), (AV.int .i64 1), q26], h6)) (
  (binP .add q26 (AV.int .i64 1)).bind fun t39 =>
  some (.normal, [q4, q5, t39], h6)))) (
  some ((.exit 0), [q4, q5, q26], h2))
def k_heap_New_L0 (x1 : AV) (t16 : AV) (t25 : AV) (q4 : AV) (q5 : AV) (q26 : AV) (h2 : Heap) : OutV := loopN (fun us g => k_heap_New_b0 x1 t16 t25 (us.getD 0 .bot) (us.getD 1 .bot) (us.getD 2 .bot) g) [q4, q5, q26] h2
def k_heap_New (x0 : AV) (x1 : AV) (h : Heap) : Option (AV × Heap) :=
  cl (k_cycle_New x0 h) fun t15 h0 =>
  (extractV 0 t15).bind fun t16 =>
  (extractV 1 t15).bind fun t17 =>
  (eqP (some (.int .i64)) none false .neq t17 (AV.int .i64 0)).bind fun t19 =>
  condE t19 (
  some (AV.tup [(AV.ptr none), t17], h0)) (
  (bldS [(0, 1), (1, 1), (2, 1)] [(AV.ptr none), (AV.sl none 0 (.ex 0)), (AV.int .i64 0)] [(0, t16)]).bind fun t22 =>
  mk Heap.new (bxP t22) h0 fun t23 h1 =>
  (lnL x1).bind fun t25 =>
  lp (k_heap_New_L0 x1 t16 t25 (AV.ptr none) (AV.int .i64 0) (AV.int .i64 0) h1) fun e vs h7 =>
  thenK (if e = .exit 0 then .normal else e) (
  cl (k_slices_Clone_head_Shape_head_Shape x1 h7) fun t42 h8 =>
  (nilV t23).bind fun t43 =>
  (faP 1 t43).bind fun t44 =>
  cl (stP 1 h8 t44 t42) fun u_9 h10 =>
  some (AV.tup [t23, (AV.int .i64 0)], h10)) (fun e_11 => endE e_11 (some (AV.tup [(vs.getD 0 .bot), (vs.getD 1 .bot)], h7))))
def T56 : Tab := (54, p2 k_heap_New) :: T55
/- 16: gantline/sched.New -/
def k_sched_New (x0 : AV) (h : Heap) : Option (AV × Heap) :=
  mk Heap.new (bxP x0) h fun t1 h0 =>
  (ldA 6 h0 t1).bind fun t3 =>
  mk Heap.new (some (Blk.mp [], fun i => AV.mp (some i))) h0 fun t4 h1 =>
  (bldS [(0, 6), (6, 1), (7, 1)] [(AV.sl none 0 (.ex 0)), (AV.sl none 0 (.ex 0)), (AV.sl none 0 (.ex 0)), (AV.sl none 0 (.ex 0)), (AV.sl none 0 (.ex 0)), (AV.int .i64 0), (AV.mp none), (AV.int .i64 0)] [(0, t3), (1, t4)]).bind fun t5 =>
  mk Heap.new (bxP t5) h1 fun t6 h2 =>
  some (t6, h2)
def T57 : Tab := (16, p1 k_sched_New) :: T56
/- 65: gantline/geom.Class -/
def k_geom_Class_b0 (x0 : AV) (q2 : AV) (q4 : AV) (h0 : Heap) : OutV :=
  (binP .lss q4 (AV.int .i64 6)).bind fun t5 =>
  condE t5 (
  (binP .geq x0 (AV.int .i64 1)).bind fun t8 =>
  gQ (gdW t8 true) h0 (some (x0, h0)) fun t10 h1 =>
  gQ (gdW t8 true) h1 (some (q4, h1)) fun t11 h2 =>
  gQ (gdW t8 true) h2 (cl (k_geom_Words t11 h2) fun t12 h3 =>
  some (t12, h3)) fun t12_4 h5 =>
  gQ (gdW t8 true) h5 ((binP .leq t10 t12_4).bind fun t13 =>
  some (t13, h5)) fun t13_6 h7 =>
  (pickP t8 t13_6 (AV.bool false)).bind fun t14 =>
  condE t14 (
  some (.ret, [q4, q4], h7)) (
  (binP .add q4 (AV.int .i64 1)).bind fun t16 =>
  some (.normal, [q2, t16], h7))) (
  some ((.exit 0), [q2, q4], h0))
def k_geom_Class_L0 (x0 : AV) (q2 : AV) (q4 : AV) (h0 : Heap) : OutV := loopN (fun us g => k_geom_Class_b0 x0 (us.getD 0 .bot) (us.getD 1 .bot) g) [q2, q4] h0
def k_geom_Class (x0 : AV) (h : Heap) : Option (AV × Heap) :=
  lp (k_geom_Class_L0 x0 (AV.int .i64 0) (AV.int .i64 0) h) fun e vs h8 =>
  thenK (if e = .exit 0 then .normal else e) (
  some ((AV.int .i64 (-1)), h8)) (fun e_9 => endE e_9 (some ((vs.getD 0 .bot), h8)))
def T58 : Tab := (65, p1 k_geom_Class) :: T57
/- 155: math/bits.OnesCount64 -/
def k_mbits_OnesCount64 (x0 : AV) (h : Heap) : Option (AV × Heap) :=
  (binP .shr x0 (AV.int .u64 1)).bind fun t4 =>
  (binP .and t4 (AV.int .u64 6148914691236517205)).bind fun t5 =>
  (binP .and x0 (AV.int .u64 6148914691236517205)).bind fun t7 =>
  (binP .add t5 t7).bind fun t8 =>
  (binP .shr t8 (AV.int .u64 2)).bind fun t10 =>
  (binP .and t10 (AV.int .u64 3689348814741910323)).bind fun t11 =>
  (binP .and t8 (AV.int .u64 3689348814741910323)).bind fun t13 =>
  (binP .add t11 t13).bind fun t14 =>
  (binP .shr t14 (AV.int .u64 4)).bind fun t16 =>
  (binP .add t16 t14).bind fun t18 =>
  (binP .and t18 (AV.int .u64 1085102592571150095)).bind fun t19 =>
  (binP .shr t19 (AV.int .u64 8)).bind fun t22 =>
  (binP .add t19 t22).bind fun t23 =>
  (binP .shr t23 (AV.int .u64 16)).bind fun t26 =>
  (binP .add t23 t26).bind fun t27 =>
  (binP .shr t27 (AV.int .u64 32)).bind fun t30 =>
  (binP .add t27 t30).bind fun t31 =>
  (cvI .i64 t31).bind fun t33 =>
  (binP .and t33 (AV.int .i64 127)).bind fun t34 =>
  some (t34, h)
def T59 : Tab := (155, p1 k_mbits_OnesCount64) :: T58
/- 124: gantline/bits.Ones -/
def k_bits_Ones (x0 : AV) (h : Heap) : Option (AV × Heap) :=
  cl (k_mbits_OnesCount64 x0 h) fun t4 h0 =>
  some (t4, h0)
def T60 : Tab := (124, p1 k_bits_Ones) :: T59
/- 98: (*gantline/arena.Arena).Sweep -/
def k_arena_Arena_Sweep (x0 : AV) (x1 : AV) (h : Heap) : Option (AV × Heap) :=
  cl (k_arena_Arena_Class x0 x1 h) fun t9 h0 =>
  (eqP (some (.int .i64)) none false .eql t9 (AV.int .i64 (-1))).bind fun t10 =>
  condE t10 (
  some ((AV.int .i64 0), h0)) (
  (nilV x0).bind fun t12 =>
  (faP 1 t12).bind fun t13 =>
  (ldS h0 t13).bind fun t14 =>
  (iaS 3 t14 x1).bind fun t16 =>
  (nilV t16).bind fun t18 =>
  (faP 1 t18).bind fun t19 =>
  (ldS h0 t19).bind fun t20 =>
  (nilV t16).bind fun t22 =>
  (faP 2 t22).bind fun t23 =>
  (ldS h0 t23).bind fun t24 =>
  (binP .andNot t20 t24).bind fun t25 =>
  cl (k_bits_Ones t25 h0) fun t26 h1 =>
  chk [h0, h1] [] (
  (nilV t16).bind fun t28 =>
  (faP 1 t28).bind fun t29 =>
  (ldS h1 t29).bind fun t30 =>
  (nilV t16).bind fun t32 =>
  (faP 2 t32).bind fun t33 =>
  (ldS h1 t33).bind fun t34 =>
  (binP .and t30 t34).bind fun t35 =>
  (nilV t16).bind fun t36 =>
  (faP 1 t36).bind fun t37 =>
  cl (stP 1 h1 t37 t35) fun u h2 =>
  chk [h1, h2] [] (
  (nilV t16).bind fun t39 =>
  (faP 1 t39).bind fun t40 =>
  (ldS h2 t40).bind fun t41 =>
  (eqP (some (.int .u64)) none false .eql t41 (AV.int .u64 0)).bind fun t42 =>
  condE t42 (
  (bldS [(0, 1), (1, 1), (2, 1)] [(AV.int .i64 0), (AV.int .u64 0), (AV.int .u64 0)] [(0, (AV.int .i64 (-1)))]).bind fun t44 =>
  (nilV t16).bind fun t45 =>
  cl (stP 3 h2 t45 t44) fun u_4 h5 =>
  some (t26, h5)) (
  some (t26, h2)))))
def T61 : Tab := (98, p2 k_arena_Arena_Sweep) :: T60
/- 66: (*gantline/alloc.Alloc).sweep -/
def k_alloc_Alloc_sweep (x0 : AV) (x1 : AV) (h : Heap) : Option (AV × Heap) :=
  (nilV x0).bind fun t5 =>
  (faP 0 t5).bind fun t6 =>
  (ldS h t6).bind fun t7 =>
  cl (k_arena_Arena_Sweep t7 x1 h) fun t9 h0 =>
  (nilV x0).bind fun t11 =>
  (faP 1 t11).bind fun t12 =>
  (ldS h0 t12).bind fun t13 =>
  (iaS 1 t13 x1).bind fun t15 =>
  cl (stP 1 h0 t15 (AV.bool false)) fun u h1 =>
  some (AV.tup [], h1)
def T62 : Tab := (66, p2 k_alloc_Alloc_sweep) :: T61
/- 67: (*gantline/arena.Arena).Taken -/
def k_arena_Arena_Taken (x0 : AV) (x1 : AV) (h : Heap) : Option (AV × Heap) :=
  cl (k_arena_Arena_Class x0 x1 h) fun t7 h0 =>
  (eqP (some (.int .i64)) none false .eql t7 (AV.int .i64 (-1))).bind fun t8 =>
  condE t8 (
  some ((AV.int .u64 0), h0)) (
  (nilV x0).bind fun t10 =>
  (faP 1 t10).bind fun t11 =>
  (ldS h0 t11).bind fun t12 =>
  (iaS 3 t12 x1).bind fun t14 =>
  (faP 1 t14).bind fun t15 =>
  (ldS h0 t15).bind fun t16 =>
  some (t16, h0))
def T63 : Tab := (67, p2 k_arena_Arena_Taken) :: T62
/- 99: gantline/geom.Places -/
def k_geom_Places (x0 : AV) (h : Heap) : Option (AV × Heap) :=
  cl (k_geom_Words x0 h) fun t4 h0 =>
  (eqP (some (.int .i64)) none false .eql t4 (AV.int .i64 0)).bind fun t5 =>
  condE t5 (
  some ((AV.int .i64 0), h0)) (
  cl (k_geom_Words x0 h0) fun t7 h1 =>
  (binP .quo (AV.int .i64 64) t7).bind fun t8 =>
  some (t8, h1))
def T64 : Tab := (99, p1 k_geom_Places) :: T63
/- 51: gantline/bits.With -/
def k_bits_With (x0 : AV) (x1 : AV) (x2 : AV) (x3 : AV) (h : Heap) : Option (AV × Heap) :=
  cl (k_bits_within x1 x2 h) fun t11 h0 =>
  (unA .not t11).bind fun t12 =>
  condE t12 (
  some (x0, h0)) (
  cl (k_bits_mask x2 h0) fun t16 h1 =>
  (cvI .u64 x1).bind fun t18 =>
  (binP .shl t16 t18).bind fun t19 =>
  (binP .andNot x0 t19).bind fun t20 =>
  cl (k_bits_mask x2 h1) fun t23 h2 =>
  (binP .and x3 t23).bind fun t24 =>
  (cvI .u64 x1).bind fun t26 =>
  (binP .shl t24 t26).bind fun t27 =>
  (binP .or t20 t27).bind fun t28 =>
  some (t28, h2))
def T65 : Tab := (51, p4 k_bits_With) :: T64
/- 68: gantline/geom.Full -/
def k_geom_Full (x0 : AV) (h : Heap) : Option (AV × Heap) :=
  cl (k_geom_Places x0 h) fun t4 h0 =>
  cl (k_bits_With (AV.int .u64 0) (AV.int .i64 0) t4 (AV.int .u64 18446744073709551615) h0) fun t5 h1 =>
  some (t5, h1)
def T66 : Tab := (68, p1 k_geom_Full) :: T65
/- 125: math/bits.TrailingZeros64 -/
def k_mbits_TrailingZeros64 (x0 : AV) (h : Heap) : Option (AV × Heap) :=
  (eqP (some (.int .u64)) none false .eql x0 (AV.int .u64 0)).bind fun t4 =>
  condE t4 (
  some ((AV.int .i64 64), h)) (
  (unA .neg x0).bind fun t7 =>
  (binP .and x0 t7).bind fun t8 =>
  (binP .mul t8 (AV.int .u64 285870213051353865)).bind fun t9 =>
  (binP .shr t9 (AV.int .u64 58)).bind fun t10 =>
  (iaA 64 1 (AV.ptr (some (0, 0))) t10).bind fun t11 =>
  (ldS h t11).bind fun t12 =>
  (cvI .i64 t12).bind fun t13 =>
  some (t13, h))
def T67 : Tab := (125, p1 k_mbits_TrailingZeros64) :: T66
/- 100: gantline/bits.First -/
def k_bits_First (x0 : AV) (h : Heap) : Option (AV × Heap) :=
  (unA .xor x0).bind fun t4 =>
  cl (k_mbits_TrailingZeros64 t4 h) fun t5 h0 =>
  some (t5, h0)
def T68 : Tab := (100, p1 k_bits_First) :: T67
/- 101: gantline/geom.Addr -/
def k_geom_Addr (x0 : AV) (x1 : AV) (x2 : AV) (h : Heap) : Option (AV × Heap) :=
  (binP .lss x0 (AV.int .i64 1)).bind fun t8 =>
  gQ (gdW t8 false) h (some (x0, h)) fun t10 h0 =>
  gQ (gdW t8 false) h0 ((binP .geq t10 (AV.int .i64 512)).bind fun t11 =>
  some (t11, h0)) fun t11_1 h2 =>
  (pickP t8 (AV.bool true) t11_1).bind fun t12 =>
  gQ (gdW t12 false) h2 (some (x1, h2)) fun t14 h3 =>
  gQ (gdW t12 false) h3 ((binP .lss t14 (AV.int .i64 0)).bind fun t15 =>
  some (t15, h3)) fun t15_4 h5 =>
  (pickP t12 (AV.bool true) t15_4).bind fun t16 =>
  gQ (gdW t16 false) h5 (some (x1, h5)) fun t18 h6 =>
  gQ (gdW t16 false) h6 (some (x2, h6)) fun t19 h7 =>
  gQ (gdW t16 false) h7 (cl (k_geom_Places t19 h7) fun t20 h8 =>
  some (t20, h8)) fun t20_9 h10 =>
  gQ (gdW t16 false) h10 ((binP .geq t18 t20_9).bind fun t21 =>
  some (t21, h10)) fun t21_11 h12 =>
  (pickP t16 (AV.bool true) t21_11).bind fun t22 =>
  condE t22 (
  some ((AV.int .i64 0), h12)) (
  (binP .mul x0 (AV.int .i64 64)).bind fun t24 =>
  cl (k_geom_Words x2 h12) fun t27 h13 =>
  (binP .mul x1 t27).bind fun t28 =>
  (binP .add t24 t28).bind fun t29 =>
  some (t29, h13))
def T69 : Tab := (101, p3 k_geom_Addr) :: T68
/- 69: (*gantline/arena.Arena).Take -/
def k_arena_Arena_Take (x0 : AV) (x1 : AV) (h : Heap) : Option (AV × Heap) :=
  cl (k_arena_Arena_Class x0 x1 h) fun t12 h0 =>
  (eqP (some (.int .i64)) none false .eql t12 (AV.int .i64 (-1))).bind fun t14 =>
  condE t14 (
  some (AV.tup [(AV.int .i64 0), (AV.int .i64 4)], h0)) (
  (nilV x0).bind fun t16 =>
  (faP 1 t16).bind fun t17 =>
  (ldS h0 t17).bind fun t18 =>
  (iaS 3 t18 x1).bind fun t20 =>
  (nilV t20).bind fun t22 =>
  (faP 1 t22).bind fun t23 =>
  (ldS h0 t23).bind fun t24 =>
  cl (k_bits_First t24 h0) fun t25 h1 =>
  cl (k_geom_Places t12 h1) fun t28 h2 =>
  (binP .geq t25 t28).bind fun t29 =>
  condE t29 (
  some (AV.tup [(AV.int .i64 0), (AV.int .i64 5)], h2)) (
  (nilV t20).bind fun t31 =>
  (faP 1 t31).bind fun t32 =>
  (ldS h2 t32).bind fun t33 =>
  (cvI .u64 t25).bind fun t35 =>
  (binP .shl (AV.int .u64 1) t35).bind fun t36 =>
  (binP .or t33 t36).bind fun t37 =>
  (nilV t20).bind fun t38 =>
  (faP 1 t38).bind fun t39 =>
  cl (stP 1 h2 t39 t37) fun u h3 =>
  (nilV t20).bind fun t41 =>
  (faP 2 t41).bind fun t42 =>
  (ldS h3 t42).bind fun t43 =>
  (cvI .u64 t25).bind fun t45 =>
  (binP .shl (AV.int .u64 1) t45).bind fun t46 =>
  (binP .andNot t43 t46).bind fun t47 =>
  (nilV t20).bind fun t48 =>
  (faP 2 t48).bind fun t49 =>
  cl (stP 1 h3 t49 t47) fun u_4 h5 =>
  cl (k_geom_Addr x1 t25 t12 h5) fun t53 h6 =>
  (nilV x0).bind fun t55 =>
  (faP 0 t55).bind fun t56 =>
  clC (rdC (fun g => ldS g t56) h6 0 1 []) fun t57 cs =>
  cl (k_geom_Words t12 h6) fun t61 h7 =>
  (binP .add t53 t61).bind fun t62 =>
  (slcP 1 t57 (some t53) (some t62) none).bind fun t63 =>
  cl (clL 1 [(AV.int .i64 0)] h7 t63) fun u_8 h9 =>
  chk [h6, h7, h9] cs (
  some (AV.tup [t53, (AV.int .i64 0)], h9))))
def T70 : Tab := (69, p2 k_arena_Arena_Take) :: T69
/- 102: (*gantline/arena.Arena).Set -/
def k_arena_Arena_Set (x0 : AV) (x1 : AV) (x2 : AV) (h : Heap) : Option (AV × Heap) :=
  cl (k_arena_Arena_has x0 x1 h) fun t10 h0 =>
  (unA .not t10).bind fun t11 =>
  gQ (gdW t11 false) h0 (some (x2, h0)) fun t13 h1 =>
  gQ (gdW t11 false) h1 (cl (k_geom_Words t13 h1) fun t14 h2 =>
  some (t14, h2)) fun t14_3 h4 =>
  gQ (gdW t11 false) h4 ((eqP (some (.int .i64)) none false .eql t14_3 (AV.int .i64 0)).bind fun t15 =>
  some (t15, h4)) fun t15_5 h6 =>
  (pickP t11 (AV.bool true) t15_5).bind fun t16 =>
  condE t16 (
  some ((AV.int .i64 1), h6)) (
  (nilV x0).bind fun t19 =>
  (faP 1 t19).bind fun t20 =>
  (ldS h6 t20).bind fun t21 =>
  (iaS 3 t21 x1).bind fun t23 =>
  (faP 0 t23).bind fun t24 =>
  (ldS h6 t24).bind fun t25 =>
  (eqP (some (.int .i64)) none false .neq t25 (AV.int .i64 (-1))).bind fun t26 =>
  condE t26 (
  some ((AV.int .i64 5), h6)) (
  (nilV x0).bind fun t28 =>
  (faP 1 t28).bind fun t29 =>
  (ldS h6 t29).bind fun t30 =>
  (bldS [(0, 1), (1, 1), (2, 1)] [(AV.int .i64 0), (AV.int .u64 0), (AV.int .u64 0)] [(0, x2)]).bind fun t33 =>
  (iaS 3 t30 x1).bind fun t34 =>
  cl (stP 3 h6 t34 t33) fun u h7 =>
  some ((AV.int .i64 0), h7)))
def T71 : Tab := (102, p3 k_arena_Arena_Set) :: T70
/- 70: (*gantline/alloc.Alloc).begin -/
def k_alloc_Alloc_begin (x0 : AV) (x1 : AV) (x2 : AV) (h : Heap) : Option (AV × Heap) :=
  (nilV x0).bind fun t9 =>
  (faP 1 t9).bind fun t10 =>
  (ldS h t10).bind fun t11 =>
  (iaS 1 t11 x1).bind fun t13 =>
  cl (stP 1 h t13 (AV.bool false)) fun u h0 =>
  (nilV x0).bind fun t15 =>
  (faP 0 t15).bind fun t16 =>
  (ldS h0 t16).bind fun t17 =>
  cl (k_arena_Arena_Set t17 x1 x2 h0) fun t20 h1 =>
  (nilV x0).bind fun t22 =>
  (faP 0 t22).bind fun t23 =>
  (ldS h1 t23).bind fun t24 =>
  cl (k_arena_Arena_Take t24 x1 h1) fun t26 h2 =>
  (extractV 0 t26).bind fun t27 =>
  (extractV 1 t26).bind fun t28 =>
  some (AV.tup [t27, t28], h2)
def T72 : Tab := (70, p3 k_alloc_Alloc_begin) :: T71
/- 32: (*gantline/alloc.Alloc).Take -/
def k_alloc_Alloc_Take_j0 (x0 : AV) (t12 : AV) (q4 : AV) (q5 : AV) (q20 : AV) (h10 : Heap) : OutV :=
  (nilV x0).bind fun t42 =>
  (faP 0 t42).bind fun t43 =>
  (ldS h10 t43).bind fun t44 =>
  cl (k_arena_Arena_Class t44 q20 h10) fun t46 h11 =>
  (eqP (some (.int .i64)) none false .eql t46 t12).bind fun t48 =>
  gQ (gdW t48 true) h11 (some (x0, h11)) fun t50 h12 =>
  gQ (gdW t48 true) h12 ((nilV t50).bind fun t51 =>
  some (t51, h12)) fun t51_13 h14 =>
  gQ (gdW t48 true) h14 ((faP 0 t51_13).bind fun t52 =>
  some (t52, h14)) fun t52_15 h16 =>
  gQ (gdW t48 true) h16 ((ldS h16 t52_15).bind fun t53 =>
  some (t53, h16)) fun t53_17 h18 =>
  gQ (gdW t48 true) h18 (some (q20, h18)) fun t54 h19 =>
  gQ (gdW t48 true) h19 (cl (k_arena_Arena_Taken t53_17 t54 h19) fun t55 h20 =>
  some (t55, h20)) fun t55_21 h22 =>
  gQ (gdW t48 true) h22 (some (t12, h22)) fun t56 h23 =>
  gQ (gdW t48 true) h23 (cl (k_geom_Full t56 h23) fun t57 h24 =>
  some (t57, h24)) fun t57_25 h26 =>
  gQ (gdW t48 true) h26 ((eqP (some (.int .u64)) none false .neq t55_21 t57_25).bind fun t58 =>
  some (t58, h26)) fun t58_27 h28 =>
  (pickP t48 t58_27 (AV.bool false)).bind fun t59 =>
  condE t59 (
  (nilV x0).bind fun t61 =>
  (faP 0 t61).bind fun t62 =>
  (ldS h28 t62).bind fun t63 =>
  cl (k_arena_Arena_Take t63 q20 h28) fun t65 h29 =>
  (extractV 0 t65).bind fun t66 =>
  (extractV 1 t65).bind fun t67 =>
  some (.ret, [t66, t67, q20], h29)) (
  (binP .add q20 (AV.int .i64 1)).bind fun t68_30 =>
  some (.normal, [q4, q5, t68_30], h28))
def k_alloc_Alloc_Take_b0 (x0 : AV) (t12 : AV) (t19 : AV) (q4 : AV) (q5 : AV) (q20 : AV) (h1 : Heap) : OutV :=
  (binP .lss q20 t19).bind fun t21 =>
  condE t21 (
  (nilV x0).bind fun t24 =>
  (faP 0 t24).bind fun t25 =>
  (ldS h1 t25).bind fun t26 =>
  cl (k_arena_Arena_Class t26 q20 h1) fun t28 h5 =>
  (eqP (some (.int .i64)) none false .neq t28 t12).bind fun t30 =>
  condE t30 (
  (binP .add q20 (AV.int .i64 1)).bind fun t68_6 =>
  some (.normal, [q4, q5, t68_6], h5)) (
  (nilV x0).bind fun t32 =>
  (faP 1 t32).bind fun t33 =>
  (ldS h5 t33).bind fun t34 =>
  (iaS 1 t34 q20).bind fun t36 =>
  (ldS h5 t36).bind fun t37 =>
  condE t37 (
  cl (k_alloc_Alloc_sweep x0 q20 h5) fun t40 h31 =>
  k_alloc_Alloc_Take_j0 x0 t12 q4 q5 q20 h31) (
  k_alloc_Alloc_Take_j0 x0 t12 q4 q5 q20 h5))) (
  some ((.exit 0), [q4, q5, q20], h1))
def k_alloc_Alloc_Take_L0 (x0 : AV) (t12 : AV) (t19 : AV) (q4 : AV) (q5 : AV) (q20 : AV) (h1 : Heap) : OutV := loopN (fun us g => k_alloc_Alloc_Take_b0 x0 t12 t19 (us.getD 0 .bot) (us.getD 1 .bot) (us.getD 2 .bot) g) [q4, q5, q20] h1
def k_alloc_Alloc_Take_b1 (x0 : AV) (t12 : AV) (q4_33 : AV) (q5_34 : AV) (q8 : AV) (h35 : Heap) : OutV :=
  (nilV x0).bind fun t71 =>
  (faP 1 t71).bind fun t72 =>
  (ldS h35 t72).bind fun t73 =>
  (lnL t73).bind fun t74 =>
  (binP .lss q8 t74).bind fun t75 =>
  condE t75 (
  (nilV x0).bind fun t79 =>
  (faP 0 t79).bind fun t80 =>
  (ldS h35 t80).bind fun t81 =>
  cl (k_arena_Arena_Class t81 q8 h35) fun t83 h36 =>
  (eqP (some (.int .i64)) none false .eql t83 (AV.int .i64 (-1))).bind fun t84 =>
  condE t84 (
  cl (k_alloc_Alloc_begin x0 q8 t12 h36) fun t88 h37 =>
  (extractV 0 t88).bind fun t89 =>
  (extractV 1 t88).bind fun t90 =>
  some (.ret, [t89, t90, q8], h37)) (
  (binP .add q8 (AV.int .i64 1)).bind fun t77 =>
  some (.normal, [q4_33, q5_34, t77], h36))) (
  some ((.exit 2), [q4_33, q5_34, q8], h35))
def k_alloc_Alloc_Take_L1 (x0 : AV) (t12 : AV) (q4_33 : AV) (q5_34 : AV) (q8 : AV) (h35 : Heap) : OutV := loopN (fun us g => k_alloc_Alloc_Take_b1 x0 t12 (us.getD 0 .bot) (us.getD 1 .bot) (us.getD 2 .bot) g) [q4_33, q5_34, q8] h35
def k_alloc_Alloc_Take_j1 (q96 : AV) (q4_44 : AV) (q5_45 : AV) (h46 : Heap) : OutV :=
  (binP .add q96 (AV.int .i64 1)).bind fun t118 =>
  some (.normal, [q4_44, q5_45, t118], h46)
def k_alloc_Alloc_Take_b2 (x0 : AV) (t12 : AV) (t94 : AV) (t95 : AV) (q4_41 : AV) (q5_42 : AV) (q96 : AV) (h43 : Heap) : OutV :=
  (binP .lss q96 t95).bind fun t97 =>
  condE t97 (
  (iaS 1 t94 q96).bind fun t99 =>
  (ldS h43 t99).bind fun t100 =>
  condE t100 (
  cl (k_alloc_Alloc_sweep x0 q96 h43) fun t104 h66 =>
  (nilV x0).bind fun t106 =>
  (faP 0 t106).bind fun t107 =>
  (ldS h66 t107).bind fun t108 =>
  cl (k_arena_Arena_Class t108 q96 h66) fun t110 h67 =>
  (eqP (some (.int .i64)) none false .eql t110 (AV.int .i64 (-1))).bind fun t111 =>
  condE t111 (
  cl (k_alloc_Alloc_begin x0 q96 t12 h67) fun t115 h68 =>
  (extractV 0 t115).bind fun t116 =>
  (extractV 1 t115).bind fun t117 =>
  some (.ret, [t116, t117, q96], h68)) (
  k_alloc_Alloc_Take_j1 q96 q4_41 q5_42 h67)) (
  k_alloc_Alloc_Take_j1 q96 q4_41 q5_42 h43)) (
  some ((.exit 4), [q4_41, q5_42, q96], h43))
def k_alloc_Alloc_Take_L2 (x0 : AV) (t12 : AV) (t94 : AV) (t95 : AV) (q4_41 : AV) (q5_42 : AV) (q96 : AV) (h43 : Heap) : OutV := loopN (fun us g => k_alloc_Alloc_Take_b2 x0 t12 t94 t95 (us.getD 0 .bot) (us.getD 1 .bot) (us.getD 2 .bot) g) [q4_41, q5_42, q96] h43
def k_alloc_Alloc_Take (x0 : AV) (x1 : AV) (h : Heap) : Option (AV × Heap) :=
  cl (k_geom_Class x1 h) fun t12 h0 =>
  (eqP (some (.int .i64)) none false .eql t12 (AV.int .i64 (-1))).bind fun t14 =>
  condE t14 (
  some (AV.tup [(AV.int .i64 0), (AV.int .i64 1)], h0)) (
  (nilV x0).bind fun t16 =>
  (faP 1 t16).bind fun t17 =>
  (ldS h0 t17).bind fun t18 =>
  (lnL t18).bind fun t19 =>
  lp (k_alloc_Alloc_Take_L0 x0 t12 t19 (AV.int .i64 0) (AV.int .i64 0) (AV.int .i64 0) h0) fun e vs h32 =>
  thenK (if e = .exit 0 then .normal else e) (
  lp (k_alloc_Alloc_Take_L1 x0 t12 (vs.getD 0 .bot) (vs.getD 1 .bot) (AV.int .i64 1) h32) fun e_38 vs_39 h40 =>
  thenK (if e_38 = .exit 2 then .normal else e_38) (
  (nilV x0).bind fun t92 =>
  (faP 1 t92).bind fun t93 =>
  (ldS h40 t93).bind fun t94 =>
  (lnL t94).bind fun t95 =>
  lp (k_alloc_Alloc_Take_L2 x0 t12 t94 t95 (vs_39.getD 0 .bot) (vs_39.getD 1 .bot) (AV.int .i64 0) h40) fun e_69 vs_70 h71 =>
  thenK (if e_69 = .exit 4 then .normal else e_69) (
  some (AV.tup [(AV.int .i64 0), (AV.int .i64 5)], h71)) (fun e_72 => endE e_72 (some (AV.tup [(vs_70.getD 0 .bot), (vs_70.getD 1 .bot)], h71)))) (fun e_73 => endE e_73 (some (AV.tup [(vs_39.getD 0 .bot), (vs_39.getD 1 .bot)], h40)))) (fun e_74 => endE e_74 (some (AV.tup [(vs.getD 0 .bot), (vs.getD 1 .bot)], h32))))
def T73 : Tab := (32, p2 k_alloc_Alloc_Take) :: T72
/- 138: (*gantline/cycle.Cycle).shades -/
def k_cycle_Cycle_shades (x0 : AV) (h : Heap) : Option (AV × Heap) :=
  (nilV x0).bind fun t4 =>
  (faP 4 t4).bind fun t5 =>
  (ldS h t5).bind fun t6 =>
  (eqP (some (.int .i64)) none false .eql t6 (AV.int .i64 1)).bind fun t7 =>
  gQ (gdW t7 false) h (some (x0, h)) fun t9 h0 =>
  gQ (gdW t7 false) h0 ((nilV t9).bind fun t10 =>
  some (t10, h0)) fun t10_1 h2 =>
  gQ (gdW t7 false) h2 ((faP 4 t10_1).bind fun t11 =>
  some (t11, h2)) fun t11_3 h4 =>
  gQ (gdW t7 false) h4 ((ldS h4 t11_3).bind fun t12 =>
  some (t12, h4)) fun t12_5 h6 =>
  gQ (gdW t7 false) h6 ((eqP (some (.int .i64)) none false .eql t12_5 (AV.int .i64 2)).bind fun t13 =>
  some (t13, h6)) fun t13_7 h8 =>
  (pickP t7 (AV.bool true) t13_7).bind fun t14 =>
  some (t14, h8)
def T74 : Tab := (138, p1 k_cycle_Cycle_shades) :: T73
/- 36: (*gantline/arena.Arena).Mark -/
def k_arena_Arena_Mark (x0 : AV) (x1 : AV) (h : Heap) : Option (AV × Heap) :=
  cl (k_arena_Arena_find x0 x1 h) fun t10 h0 =>
  (extractV 0 t10).bind fun t11 =>
  (extractV 1 t10).bind fun t12 =>
  (eqP (some (.pointer 0)) none false .eql t11 (AV.ptr none)).bind fun t14 =>
  gQ (gdW t14 false) h0 (some (t11, h0)) fun t16 h1 =>
  gQ (gdW t14 false) h1 ((nilV t16).bind fun t17 =>
  some (t17, h1)) fun t17_2 h3 =>
  gQ (gdW t14 false) h3 ((faP 2 t17_2).bind fun t18 =>
  some (t18, h3)) fun t18_4 h5 =>
  gQ (gdW t14 false) h5 ((ldS h5 t18_4).bind fun t19 =>
  some (t19, h5)) fun t19_6 h7 =>
  gQ (gdW t14 false) h7 (some (t12, h7)) fun t20 h8 =>
  gQ (gdW t14 false) h8 ((binP .and t19_6 t20).bind fun t21 =>
  some (t21, h8)) fun t21_9 h10 =>
  gQ (gdW t14 false) h10 ((eqP (some (.int .u64)) none false .neq t21_9 (AV.int .u64 0)).bind fun t22 =>
  some (t22, h10)) fun t22_11 h12 =>
  (pickP t14 (AV.bool true) t22_11).bind fun t23 =>
  condE t23 (
  some ((AV.bool false), h12)) (
  (nilV t11).bind fun t25 =>
  (faP 2 t25).bind fun t26 =>
  (ldS h12 t26).bind fun t27 =>
  (binP .or t27 t12).bind fun t29 =>
  (nilV t11).bind fun t30 =>
  (faP 2 t30).bind fun t31 =>
  cl (stP 1 h12 t31 t29) fun u h13 =>
  some ((AV.bool true), h13))
def T75 : Tab := (36, p2 k_arena_Arena_Mark) :: T74
/- 111: (*gantline/cycle.Cycle).Take -/
def k_cycle_Cycle_Take (x0 : AV) (x1 : AV) (h : Heap) : Option (AV × Heap) :=
  (nilV x0).bind fun t10 =>
  (faP 2 t10).bind fun t11 =>
  (ldS h t11).bind fun t12 =>
  cl (k_alloc_Alloc_Take t12 x1 h) fun t14 h0 =>
  (extractV 0 t14).bind fun t15 =>
  (extractV 1 t14).bind fun t16 =>
  (eqP (some (.int .i64)) none false .eql t16 (AV.int .i64 0)).bind fun t18 =>
  gQ (gdW t18 true) h0 (some (x0, h0)) fun t20 h1 =>
  gQ (gdW t18 true) h1 (cl (k_cycle_Cycle_shades t20 h1) fun t21 h2 =>
  some (t21, h2)) fun t21_3 h4 =>
  (pickP t18 t21_3 (AV.bool false)).bind fun t22 =>
  condE t22 (
  (nilV x0).bind fun t24 =>
  (faP 0 t24).bind fun t25 =>
  (ldS h4 t25).bind fun t26 =>
  cl (k_arena_Arena_Mark t26 t15 h4) fun t28 h6 =>
  some (AV.tup [t15, t16], h6)) (
  some (AV.tup [t15, t16], h4))
def T76 : Tab := (111, p2 k_cycle_Cycle_Take) :: T75
/- 176: slices.Clone[[]int,int] -/
def k_slices_Clone_int_int (x0 : AV) (h : Heap) : Option (AV × Heap) :=
  (eqP (some (.slice 0)) none false .eql x0 (AV.sl none 0 (.ex 0))).bind fun t4 =>
  condE t4 (
  some ((AV.sl none 0 (.ex 0)), h)) (
  mk Heap.new (bsP 1 [(AV.int .i64 0)] 0 []) h fun t5 h0 =>
  cl (appendA h0 1 8 t5 x0) fun t7 h1 =>
  some (t7, h1))
def T77 : Tab := (176, p1 k_slices_Clone_int_int) :: T76
/- 121: slices.IndexFunc[[]int,int] -/
def k_slices_IndexFunc_int_int_b0 (x0 : AV) (x1 : AV) (t7 : AV) (q4 : AV) (q8 : AV) (h0 : Heap) : OutV :=
  (binP .lss q8 t7).bind fun t9 =>
  condE t9 (
  (iaS 1 x0 q8).bind fun t14 =>
  (ldS h0 t14).bind fun t15 =>
  clF (lookT T77) (cvP x1 [t15]) h0 fun t16 h1 =>
  condE t16 (
  some (.ret, [q8, q8], h1)) (
  (binP .add q8 (AV.int .i64 1)).bind fun t18 =>
  some (.normal, [q4, t18], h1))) (
  some ((.exit 0), [q4, q8], h0))
def k_slices_IndexFunc_int_int_L0 (x0 : AV) (x1 : AV) (t7 : AV) (q4 : AV) (q8 : AV) (h0 : Heap) : OutV := loopN (fun us g => k_slices_IndexFunc_int_int_b0 x0 x1 t7 (us.getD 0 .bot) (us.getD 1 .bot) g) [q4, q8] h0
def k_slices_IndexFunc_int_int (x0 : AV) (x1 : AV) (h : Heap) : Option (AV × Heap) :=
  (lnL x0).bind fun t7 =>
  lp (k_slices_IndexFunc_int_int_L0 x0 x1 t7 (AV.int .i64 0) (AV.int .i64 0) h) fun e vs h2 =>
  thenK (if e = .exit 0 then .normal else e) (
  some ((AV.int .i64 (-1)), h2)) (fun e_3 => endE e_3 (some ((vs.getD 0 .bot), h2)))
def T78 : Tab := (121, p2 k_slices_IndexFunc_int_int) :: T77
/- 92: slices.DeleteFunc[[]int,int] -/
def k_slices_DeleteFunc_int_int_b0 (x0 : AV) (x1 : AV) (q5 : AV) (q6 : AV) (h1 : Heap) : OutV :=
  (lnL x0).bind fun t18 =>
  (binP .lss q6 t18).bind fun t19 =>
  condE t19 (
  (iaS 1 x0 q6).bind fun t24 =>
  (ldS h1 t24).bind fun t25 =>
  clF (lookT T78) (cvP x1 [t25]) h1 fun t28 h4 =>
  (unA .not t28).bind fun t29 =>
  condE t29 (
  (iaS 1 x0 q5).bind fun t33 =>
  cl (stP 1 h4 t33 t25) fun u h14 =>
  (binP .add q5 (AV.int .i64 1)).bind fun t35 =>
  (binP .add q6 (AV.int .i64 1)).bind fun t21_15 =>
  some (.normal, [t35, t21_15], h14)) (
  (binP .add q6 (AV.int .i64 1)).bind fun t21_16 =>
  some (.normal, [q5, t21_16], h4))) (
  some ((.exit 0), [q5, q6], h1))
def k_slices_DeleteFunc_int_int_L0 (x0 : AV) (x1 : AV) (q5 : AV) (q6 : AV) (h1 : Heap) : OutV := loopN (fun us g => k_slices_DeleteFunc_int_int_b0 x0 x1 (us.getD 0 .bot) (us.getD 1 .bot) g) [q5, q6] h1
def k_slices_DeleteFunc_int_int (x0 : AV) (x1 : AV) (h : Heap) : Option (AV × Heap) :=
  cl (k_slices_IndexFunc_int_int x0 x1 h) fun t10 h0 =>
  (eqP (some (.int .i64)) none false .eql t10 (AV.int .i64 (-1))).bind fun t12 =>
  condE t12 (
  some (x0, h0)) (
  (binP .add t10 (AV.int .i64 1)).bind fun t15 =>
  lp (k_slices_DeleteFunc_int_int_L0 x0 x1 t10 t15 h0) fun e vs h17 =>
  thenK (if e = .exit 0 then .normal else e) (
  (slcP 1 x0 (some (vs.getD 0 .bot)) none none).bind fun t38 =>
  cl (clL 1 [(AV.int .i64 0)] h17 t38) fun u_18 h19 =>
  (slcP 1 x0 none (some (vs.getD 0 .bot)) none).bind fun t41 =>
  some (t41, h19)) (fun e_20 => endE e_20 (some ((AV.sl none 0 (.ex 0)), h17))))
def T79 : Tab := (92, p2 k_slices_DeleteFunc_int_int) :: T78
/- 178: slices.Min[[]int,int] -/
def k_slices_Min_int_int_b0 (x0 : AV) (q3 : AV) (q4 : AV) (h1 : Heap) : OutV :=
  (lnL x0).bind fun t14 =>
  (binP .lss q4 t14).bind fun t15 =>
  condE t15 (
  (iaS 1 x0 q4).bind fun t21 =>
  (ldS h1 t21).bind fun t22 =>
  (minP q3 t22).bind fun t23 =>
  (binP .add q4 (AV.int .i64 1)).bind fun t17 =>
  some (.normal, [t23, t17], h1)) (
  some ((.exit 0), [q3, q4], h1))
def k_slices_Min_int_int_L0 (x0 : AV) (q3 : AV) (q4 : AV) (h1 : Heap) : OutV := loopN (fun us g => k_slices_Min_int_int_b0 x0 (us.getD 0 .bot) (us.getD 1 .bot) g) [q3, q4] h1
def k_slices_Min_int_int_j0 (x0 : AV) (h0 : Heap) : Option (AV × Heap) :=
  (iaS 1 x0 (AV.int .i64 0)).bind fun t10 =>
  (ldS h0 t10).bind fun t11 =>
  lp (k_slices_Min_int_int_L0 x0 t11 (AV.int .i64 1) h0) fun e vs h2 =>
  thenK (if e = .exit 0 then .normal else e) (
  some ((vs.getD 0 .bot), h2)) (fun e_3 => endE e_3 (some ((AV.int .i64 0), h2)))
def k_slices_Min_int_int (x0 : AV) (h : Heap) : Option (AV × Heap) :=
  (lnL x0).bind fun t6 =>
  (binP .lss t6 (AV.int .i64 1)).bind fun t7 =>
  condE t7 (
  none) (
  k_slices_Min_int_int_j0 x0 h)
def T80 : Tab := (178, p1 k_slices_Min_int_int) :: T79
/- 162: (*gantline/cycle.Cycle).next -/
def k_cycle_Cycle_next (x0 : AV) (x1 : AV) (h : Heap) : Option (AV × Heap) :=
  clF (lookT T80) (ivP [(118, 206)] x1 []) h fun t8 h0 =>
  cl (k_slices_Clone_int_int t8 h0) fun t9 h1 =>
  cl (k_slices_DeleteFunc_int_int t9 (AV.fn 177 [x0] []) h1) fun t12 h2 =>
  (lnL t12).bind fun t14 =>
  (eqP (some (.int .i64)) none false .eql t14 (AV.int .i64 0)).bind fun t15 =>
  condE t15 (
  some (AV.tup [(AV.int .i64 0), (AV.bool false)], h2)) (
  cl (k_slices_Min_int_int t12 h2) fun t17 h3 =>
  some (AV.tup [t17, (AV.bool true)], h3))
def T81 : Tab := (162, p2 k_cycle_Cycle_next) :: T80
/- 181: slices.Index[[]int,int] -/
def k_slices_Index_int_int_b0 (x0 : AV) (x1 : AV) (t7 : AV) (q4 : AV) (q8 : AV) (h0 : Heap) : OutV :=
  (binP .lss q8 t7).bind fun t9 =>
  condE t9 (
  (iaS 1 x0 q8).bind fun t14 =>
  (ldS h0 t14).bind fun t15 =>
  (eqP (some (.int .i64)) none false .eql x1 t15).bind fun t16 =>
  condE t16 (
  some (.ret, [q8, q8], h0)) (
  (binP .add q8 (AV.int .i64 1)).bind fun t18 =>
  some (.normal, [q4, t18], h0))) (
  some ((.exit 0), [q4, q8], h0))
def k_slices_Index_int_int_L0 (x0 : AV) (x1 : AV) (t7 : AV) (q4 : AV) (q8 : AV) (h0 : Heap) : OutV := loopN (fun us g => k_slices_Index_int_int_b0 x0 x1 t7 (us.getD 0 .bot) (us.getD 1 .bot) g) [q4, q8] h0
def k_slices_Index_int_int (x0 : AV) (x1 : AV) (h : Heap) : Option (AV × Heap) :=
  (lnL x0).bind fun t7 =>
  lp (k_slices_Index_int_int_L0 x0 x1 t7 (AV.int .i64 0) (AV.int .i64 0) h) fun e vs h1 =>
  thenK (if e = .exit 0 then .normal else e) (
  some ((AV.int .i64 (-1)), h1)) (fun e_2 => endE e_2 (some ((vs.getD 0 .bot), h1)))
def T82 : Tab := (181, p2 k_slices_Index_int_int) :: T81
/- 179: slices.Contains[[]int,int] -/
def k_slices_Contains_int_int (x0 : AV) (x1 : AV) (h : Heap) : Option (AV × Heap) :=
  cl (k_slices_Index_int_int x0 x1 h) fun t7 h0 =>
  (binP .geq t7 (AV.int .i64 0)).bind fun t8 =>
  some (t8, h0)
def T83 : Tab := (179, p2 k_slices_Contains_int_int) :: T82
/- 37: (*gantline/grey.Queue).Add -/
def k_grey_Queue_Add (x0 : AV) (x1 : AV) (h : Heap) : Option (AV × Heap) :=
  (nilV x0).bind fun t6 =>
  (faP 0 t6).bind fun t7 =>
  (ldS h t7).bind fun t8 =>
  mk Heap.new (bsP 1 [(AV.int .i64 0)] 1 [(0, x1)]) h fun t10 h0 =>
  cl (appendA h0 1 8 t8 t10) fun t11 h1 =>
  (nilV x0).bind fun t12 =>
  (faP 0 t12).bind fun t13 =>
  cl (stP 1 h1 t13 t11) fun u h2 =>
  some (AV.tup [], h2)
def T84 : Tab := (37, p2 k_grey_Queue_Add) :: T83
/- 9: (*gantline/mark.Marker).Shade -/
def k_mark_Marker_Shade (x0 : AV) (x1 : AV) (h : Heap) : Option (AV × Heap) :=
  (nilV x0).bind fun t6 =>
  (faP 0 t6).bind fun t7 =>
  (ldS h t7).bind fun t8 =>
  cl (k_arena_Arena_Mark t8 x1 h) fun t10 h0 =>
  (unA .not t10).bind fun t11 =>
  condE t11 (
  some ((AV.bool false), h0)) (
  (nilV x0).bind fun t13 =>
  (faP 2 t13).bind fun t14 =>
  (ldS h0 t14).bind fun t15 =>
  cl (k_grey_Queue_Add t15 x1 h0) fun t17 h1 =>
  some ((AV.bool true), h1))
def T85 : Tab := (9, p2 k_mark_Marker_Shade) :: T84
/- 168: (*gantline/cycle.Cycle).shade -/
def k_cycle_Cycle_shade_b0 (x0 : AV) (x1 : AV) (t7 : AV) (q8 : AV) (h0 : Heap) : OutV :=
  (binP .lss q8 t7).bind fun t9 =>
  condE t9 (
  (iaS 1 x1 q8).bind fun t10 =>
  (ldS h0 t10).bind fun t11 =>
  (nilV x0).bind fun t13 =>
  (faP 3 t13).bind fun t14 =>
  (ldS h0 t14).bind fun t15 =>
  cl (k_mark_Marker_Shade t15 t11 h0) fun t17 h1 =>
  (binP .add q8 (AV.int .i64 1)).bind fun t18 =>
  some (.normal, [t18], h1)) (
  some ((.exit 0), [q8], h0))
def k_cycle_Cycle_shade_L0 (x0 : AV) (x1 : AV) (t7 : AV) (q8 : AV) (h0 : Heap) : OutV := loopN (fun us g => k_cycle_Cycle_shade_b0 x0 x1 t7 (us.getD 0 .bot) g) [q8] h0
def k_cycle_Cycle_shade (x0 : AV) (x1 : AV) (h : Heap) : Option (AV × Heap) :=
  (lnL x1).bind fun t7 =>
  lp (k_cycle_Cycle_shade_L0 x0 x1 t7 (AV.int .i64 0) h) fun e vs h2 =>
  endE (if e = .exit 0 then .normal else e) (some (AV.tup [], h2))
def T86 : Tab := (168, p2 k_cycle_Cycle_shade) :: T85
/- 163: (*gantline/cycle.Cycle).Scan -/
def k_cycle_Cycle_Scan (x0 : AV) (x1 : AV) (x2 : AV) (h : Heap) : Option (AV × Heap) :=
  cl (k_cycle_Cycle_shades x0 h) fun t8 h0 =>
  (unA .not t8).bind fun t9 =>
  gQ (gdW t9 false) h0 (some (x0, h0)) fun t11 h1 =>
  gQ (gdW t9 false) h1 ((nilV t11).bind fun t12 =>
  some (t12, h1)) fun t12_2 h3 =>
  gQ (gdW t9 false) h3 ((faP 5 t12_2).bind fun t13 =>
  some (t13, h3)) fun t13_4 h5 =>
  gQ (gdW t9 false) h5 ((ldS h5 t13_4).bind fun t14 =>
  some (t14, h5)) fun t14_6 h7 =>
  gQ (gdW t9 false) h7 (some (x2, h7)) fun t15 h8 =>
  gQ (gdW t9 false) h8 ((lkP (fdA (.int .i64)) (AV.bool false) false h8 t14_6 t15).bind fun t16 =>
  some (t16, h8)) fun t16_9 h10 =>
  (pickP t9 (AV.bool true) t16_9).bind fun t17 =>
  gQ (gdW t17 false) h10 (some (x1, h10)) fun t19 h11 =>
  gQ (gdW t17 false) h11 (clF (lookT T86) (ivP [(118, 206)] t19 []) h11 fun t20 h12 =>
  some (t20, h12)) fun t20_13 h14 =>
  gQ (gdW t17 false) h14 (some (x2, h14)) fun t21 h15 =>
  gQ (gdW t17 false) h15 (cl (k_slices_Contains_int_int t20_13 t21 h15) fun t22 h16 =>
  some (t22, h16)) fun t22_17 h18 =>
  gQ (gdW t17 false) h18 ((unA .not t22_17).bind fun t23 =>
  some (t23, h18)) fun t23_19 h20 =>
  (pickP t17 (AV.bool true) t23_19).bind fun t24 =>
  condE t24 (
  some ((AV.bool false), h20)) (
  clF (lookT T86) (ivP [(48, 21), (118, 205)] x1 [x2]) h20 fun t28 h21 =>
  cl (k_cycle_Cycle_shade x0 t28 h21) fun t29 h22 =>
  (nilV x0).bind fun t31 =>
  (faP 5 t31).bind fun t32 =>
  (ldS h22 t32).bind fun t33 =>
  cl (muP (ptA (.int .i64)) h22 t33 x2 (AV.bool true)) fun u h23 =>
  some ((AV.bool true), h23))
def T87 : Tab := (163, p3 k_cycle_Cycle_Scan) :: T86
/- 35: (*gantline/grey.Queue).Next -/
def k_grey_Queue_Next (x0 : AV) (h : Heap) : Option (AV × Heap) :=
  (nilV x0).bind fun t6 =>
  (faP 0 t6).bind fun t7 =>
  (ldS h t7).bind fun t8 =>
  (lnL t8).bind fun t9 =>
  (eqP (some (.int .i64)) none false .eql t9 (AV.int .i64 0)).bind fun t10 =>
  condE t10 (
  some (AV.tup [(AV.int .i64 0), (AV.bool false)], h)) (
  (nilV x0).bind fun t12 =>
  (faP 0 t12).bind fun t13 =>
  (ldS h t13).bind fun t14 =>
  (iaS 1 t14 (AV.int .i64 0)).bind fun t15 =>
  (ldS h t15).bind fun t16 =>
  (nilV x0).bind fun t19 =>
  (faP 0 t19).bind fun t20 =>
  (ldS h t20).bind fun t21 =>
  (slcP 1 t21 (some (AV.int .i64 1)) none none).bind fun t22 =>
  (nilV x0).bind fun t23 =>
  (faP 0 t23).bind fun t24 =>
  cl (stP 1 h t24 t22) fun u h0 =>
  some (AV.tup [t16, (AV.bool true)], h0))
def T88 : Tab := (35, p1 k_grey_Queue_Next) :: T87
/- 44: (gantline/head.Shape).Holds -/
def k_head_Shape_Holds_j0 (x1 : AV) (t3 : AV) (t20 : AV) (q21 : AV) (h10 : Heap) : Option (AV × Heap) :=
  condE q21 (
  (faP 2 t3).bind fun t24 =>
  (ldS h10 t24).bind fun t25 =>
  (cvI .u64 x1).bind fun t27 =>
  (binP .shr t25 t27).bind fun t28 =>
  (binP .and t28 (AV.int .u64 1)).bind fun t29 =>
  (eqP (some (.int .u64)) none false .eql t29 (AV.int .u64 1)).bind fun t30 =>
  some (t30, h10)) (
  (eqP (some (.int .i64)) none false .eql t20 (AV.int .i64 1)).bind fun t32 =>
  condE t32 (
  (faP 2 t3).bind fun t33 =>
  (ldS h10 t33).bind fun t34 =>
  (binP .and t34 (AV.int .u64 1)).bind fun t35 =>
  (eqP (some (.int .u64)) none false .eql t35 (AV.int .u64 1)).bind fun t36 =>
  some (t36, h10)) (
  (eqP (some (.int .i64)) none false .eql t20 (AV.int .i64 3)).bind fun t38 =>
  condE t38 (
  (faP 2 t3).bind fun t39 =>
  (ldS h10 t39).bind fun t40 =>
  (binP .and t40 (AV.int .u64 1)).bind fun t41 =>
  (eqP (some (.int .u64)) none false .eql t41 (AV.int .u64 1)).bind fun t42 =>
  gQ (gdW t42 true) h10 (some (x1, h10)) fun t44 h11 =>
  gQ (gdW t42 true) h11 ((binP .geq t44 (AV.int .i64 4)).bind fun t45 =>
  some (t45, h11)) fun t45_12 h13 =>
  (pickP t42 t45_12 (AV.bool false)).bind fun t46 =>
  some (t46, h13)) (
  some ((AV.bool false), h10))))
def k_head_Shape_Holds (x0 : AV) (x1 : AV) (x2 : AV) (h : Heap) : Option (AV × Heap) :=
  mk Heap.new (bxP x0) h fun t3 h0 =>
  (binP .lss x1 (AV.int .i64 0)).bind fun t8 =>
  gQ (gdW t8 false) h0 (some (x2, h0)) fun t10 h1 =>
  gQ (gdW t8 false) h1 ((binP .lss t10 (AV.int .i64 2)).bind fun t11 =>
  some (t11, h1)) fun t11_2 h3 =>
  (pickP t8 (AV.bool true) t11_2).bind fun t12 =>
  gQ (gdW t12 false) h3 (some (x1, h3)) fun t14 h4 =>
  gQ (gdW t12 false) h4 (some (x2, h4)) fun t15 h5 =>
  gQ (gdW t12 false) h5 ((binP .sub t15 (AV.int .i64 2)).bind fun t16 =>
  some (t16, h5)) fun t16_6 h7 =>
  gQ (gdW t12 false) h7 ((binP .gtr t14 t16_6).bind fun t17 =>
  some (t17, h7)) fun t17_8 h9 =>
  (pickP t12 (AV.bool true) t17_8).bind fun t18 =>
  condE t18 (
  some ((AV.bool false), h9)) (
  (faP 0 t3).bind fun t19 =>
  (ldS h9 t19).bind fun t20 =>
  (eqP (some (.int .i64)) none false .eql t20 (AV.int .i64 0)).bind fun t22 =>
  condE t22 (
  k_head_Shape_Holds_j0 x1 t3 t20 t22 h9) (
  (eqP (some (.int .i64)) none false .eql t20 (AV.int .i64 2)).bind fun t23 =>
  k_head_Shape_Holds_j0 x1 t3 t20 t23 h9))
def T89 : Tab := (44, p3 k_head_Shape_Holds) :: T88
/- 10: (*gantline/mark.Marker).Fields -/
def k_mark_Marker_Fields_b0 (x0 : AV) (x1 : AV) (t7 : AV) (t8 : AV) (t58 : AV) (q9 : AV) (q59 : AV) (h18 : Heap) : OutV :=
  (binP .lss q59 t58).bind fun t60 =>
  condE t60 (
  (nilV x0).bind fun t64 =>
  (faP 0 t64).bind fun t65 =>
  (ldS h18 t65).bind fun t66 =>
  (binP .add q59 (AV.int .i64 1)).bind fun t69 =>
  cl (k_arena_Arena_Read t66 x1 t69 h18) fun t70 h21 =>
  (extractV 0 t70).bind fun t71 =>
  (extractV 1 t70).bind fun t72 =>
  (ldA 3 h21 t8).bind fun t73 =>
  (faP 0 t7).bind fun t75 =>
  (ldS h21 t75).bind fun t76 =>
  cl (k_head_Shape_Holds t73 q59 t76 h21) fun t77 h22 =>
  gQ (gdW t77 true) h22 (some (t71, h22)) fun t79 h23 =>
  gQ (gdW t77 true) h23 ((eqP (some (.int .i64)) none false .neq t79 (AV.int .i64 0)).bind fun t80 =>
  some (t80, h23)) fun t80_24 h25 =>
  (pickP t77 t80_24 (AV.bool false)).bind fun t81 =>
  condE t81 (
  mk Heap.new (bsP 1 [(AV.int .i64 0)] 1 [(0, t71)]) h25 fun t84 h33 =>
  cl (appendA h33 1 8 q9 t84) fun t85 h34 =>
  (binP .add q59 (AV.int .i64 1)).bind fun t86_35 =>
  some (.normal, [t85, t86_35], h34)) (
  (binP .add q59 (AV.int .i64 1)).bind fun t86_36 =>
  some (.normal, [q9, t86_36], h25))) (
  some ((.exit 0), [q9, q59], h18))
def k_mark_Marker_Fields_L0 (x0 : AV) (x1 : AV) (t7 : AV) (t8 : AV) (t58 : AV) (q9 : AV) (q59 : AV) (h18 : Heap) : OutV := loopN (fun us g => k_mark_Marker_Fields_b0 x0 x1 t7 t8 t58 (us.getD 0 .bot) (us.getD 1 .bot) g) [q9, q59] h18
def k_mark_Marker_Fields (x0 : AV) (x1 : AV) (h : Heap) : Option (AV × Heap) :=
  (nilV x0).bind fun t15 =>
  (faP 0 t15).bind fun t16 =>
  (ldS h t16).bind fun t17 =>
  cl (k_arena_Arena_Read t17 x1 (AV.int .i64 0) h) fun t19 h0 =>
  (extractV 0 t19).bind fun t20 =>
  (extractV 1 t19).bind fun t21 =>
  (eqP (some (.int .i64)) none false .neq t21 (AV.int .i64 0)).bind fun t23 =>
  condE t23 (
  some ((AV.sl none 0 (.ex 0)), h0)) (
  cl (k_head_Unpack t20 h0) fun t26 h1 =>
  (extractV 0 t26).bind fun t27 =>
  (extractV 1 t26).bind fun t28 =>
  mk Heap.new (some (Blk.cells true [(AV.int .i64 0), (AV.int .i64 0), (AV.int .i64 0)], fun i => AV.ptr (some (i, 0)))) h1 fun t7 h2 =>
  cl (stP 3 h2 t7 t27) fun u h3 =>
  (eqP (some (.int .i64)) none false .neq t28 (AV.int .i64 0)).bind fun t30 =>
  (gV (gdW t30 false) (faP 0 t7) (.tup [])).bind fun t32 =>
  clC (gV (gdW t30 false) (rdC (fun g => ldS g t32) h3 0 3 []) (.tup [], [])) fun t33 cs =>
  (gV (gdW t30 false) (some x0) (.tup [])).bind fun t34 =>
  (gV (gdW t30 false) (nilV t34) (.tup [])).bind fun t35 =>
  (gV (gdW t30 false) (faP 0 t35) (.tup [])).bind fun t36 =>
  clC (gV (gdW t30 false) (rdC (fun g => ldS g t36) h3 0 1 cs) (.tup [], cs)) fun t37 cs_4 =>
  (gV (gdW t30 false) (some x1) (.tup [])).bind fun t38 =>
  gQ (gdW t30 false) h3 (cl (k_geom_Span t38 h3) fun t39 h5 =>
  some (t39, h5)) fun t39_6 h7 =>
  gQ (gdW t30 false) h7 (cl (k_arena_Arena_Class t37 t39_6 h7) fun t40 h8 =>
  some (t40, h8)) fun t40_9 h10 =>
  gQ (gdW t30 false) h10 (cl (k_geom_Words t40_9 h10) fun t41 h11 =>
  some (t41, h11)) fun t41_12 h13 =>
  (gV (gdW t30 false) (binP .gtr t33 t41_12) (.tup [])).bind fun t42 =>
  (pickP t30 (AV.bool true) t42).bind fun t43 =>
  chk [h3, h7, h10, h13] cs_4 (
  condE t43 (
  some ((AV.sl none 0 (.ex 0)), h13)) (
  (nilV x0).bind fun t46 =>
  (faP 1 t46).bind fun t47 =>
  (ldS (hpN h13 1) t47).bind fun t48 =>
  (faP 2 t7).bind fun t49 =>
  (ldS (hpN h13 1) t49).bind fun t50 =>
  cl (k_head_Table_Shape t48 t50 (hpN h13 1)) fun t51 h14 =>
  (extractV 0 t51).bind fun t52 =>
  (extractV 1 t51).bind fun t53 =>
  cl (mkAt Heap.put (some (Blk.cells true [(AV.int .i64 0), (AV.int .i64 0), (AV.int .u64 0)], fun i => AV.ptr (some (i, 0)))) (h13.next + 0) h14) fun t8 h15 =>
  cl (stP 3 h15 t8 t52) fun u_16 h17 =>
  chk [(hpN h13 1), h14, h17] [] (
  (eqP (some (.int .i64)) none false .neq t53 (AV.int .i64 0)).bind fun t55 =>
  condE t55 (
  some ((AV.sl none 0 (.ex 0)), h17)) (
  (faP 0 t7).bind fun t56 =>
  (ldS h17 t56).bind fun t57 =>
  (binP .sub t57 (AV.int .i64 1)).bind fun t58 =>
  lp (k_mark_Marker_Fields_L0 x0 x1 t7 t8 t58 (AV.sl none 0 (.ex 0)) (AV.int .i64 0) h17) fun e vs h37 =>
  thenK (if e = .exit 0 then .normal else e) (
  some ((vs.getD 0 .bot), h37)) (fun e_38 => endE e_38 (some ((AV.sl none 0 (.ex 0)), h37))))))))
def T90 : Tab := (10, p2 k_mark_Marker_Fields) :: T89
/- 8: (*gantline/mark.Marker).Step -/
def k_mark_Marker_Step_b0 (x0 : AV) (t19 : AV) (t20 : AV) (q21 : AV) (h2 : Heap) : OutV :=
  (binP .lss q21 t20).bind fun t22 =>
  condE t22 (
  (iaS 1 t19 q21).bind fun t23 =>
  (ldS h2 t23).bind fun t24 =>
  cl (k_mark_Marker_Shade x0 t24 h2) fun t27 h3 =>
  (binP .add q21 (AV.int .i64 1)).bind fun t28 =>
  some (.normal, [t28], h3)) (
  some ((.exit 0), [q21], h2))
def k_mark_Marker_Step_L0 (x0 : AV) (t19 : AV) (t20 : AV) (q21 : AV) (h2 : Heap) : OutV := loopN (fun us g => k_mark_Marker_Step_b0 x0 t19 t20 (us.getD 0 .bot) g) [q21] h2
def k_mark_Marker_Step (x0 : AV) (h : Heap) : Option (AV × Heap) :=
  (nilV x0).bind fun t9 =>
  (faP 2 t9).bind fun t10 =>
  (ldS h t10).bind fun t11 =>
  cl (k_grey_Queue_Next t11 h) fun t12 h0 =>
  (extractV 0 t12).bind fun t13 =>
  (extractV 1 t12).bind fun t14 =>
  (unA .not t14).bind fun t16 =>
  condE t16 (
  some ((AV.bool false), h0)) (
  cl (k_mark_Marker_Fields x0 t13 h0) fun t19 h1 =>
  (lnL t19).bind fun t20 =>
  lp (k_mark_Marker_Step_L0 x0 t19 t20 (AV.int .i64 0) h1) fun e vs h4 =>
  thenK (if e = .exit 0 then .normal else e) (
  some ((AV.bool true), h4)) (fun e_5 => endE e_5 (some ((AV.bool false), h4))))
def T91 : Tab := (8, p1 k_mark_Marker_Step) :: T90
/- 164: (*gantline/alloc.Alloc).Stale -/
def k_alloc_Alloc_Stale_b0 (x0 : AV) (t7 : AV) (q8 : AV) (h0 : Heap) : OutV :=
  (binP .lss q8 t7).bind fun t9 =>
  condE t9 (
  (nilV x0).bind fun t12 =>
  (faP 1 t12).bind fun t13 =>
  clC (rdC (fun g => ldS g t13) h0 0 1 []) fun t14 cs =>
  (nilV x0).bind fun t17 =>
  (faP 0 t17).bind fun t18 =>
  (ldS h0 t18).bind fun t19 =>
  cl (k_arena_Arena_Class t19 q8 h0) fun t21 h1 =>
  (eqP (some (.int .i64)) none false .neq t21 (AV.int .i64 (-1))).bind fun t22 =>
  (iaS 1 t14 q8).bind fun t23 =>
  cl (stP 1 h1 t23 t22) fun u h2 =>
  chk [h0, h1, h2] cs (
  (binP .add q8 (AV.int .i64 1)).bind fun t24 =>
  some (.normal, [t24], h2))) (
  some ((.exit 0), [q8], h0))
def k_alloc_Alloc_Stale_L0 (x0 : AV) (t7 : AV) (q8 : AV) (h0 : Heap) : OutV := loopN (fun us g => k_alloc_Alloc_Stale_b0 x0 t7 (us.getD 0 .bot) g) [q8] h0
def k_alloc_Alloc_Stale (x0 : AV) (h : Heap) : Option (AV × Heap) :=
  (nilV x0).bind fun t4 =>
  (faP 1 t4).bind fun t5 =>
  (ldS h t5).bind fun t6 =>
  (lnL t6).bind fun t7 =>
  lp (k_alloc_Alloc_Stale_L0 x0 t7 (AV.int .i64 0) h) fun e vs h3 =>
  endE (if e = .exit 0 then .normal else e) (some (AV.tup [], h3))
def T92 : Tab := (164, p1 k_alloc_Alloc_Stale) :: T91
/- 165: (*gantline/alloc.Alloc).SweepOne -/
def k_alloc_Alloc_SweepOne_b0 (x0 : AV) (t8 : AV) (t9 : AV) (q2 : AV) (q10 : AV) (h0 : Heap) : OutV :=
  (binP .lss q10 t9).bind fun t11 =>
  condE t11 (
  (iaS 1 t8 q10).bind fun t13 =>
  (ldS h0 t13).bind fun t14 =>
  condE t14 (
  cl (k_alloc_Alloc_sweep x0 q10 h0) fun t18 h1 =>
  some (.ret, [(AV.bool true), q10], h1)) (
  (binP .add q10 (AV.int .i64 1)).bind fun t19 =>
  some (.normal, [q2, t19], h0))) (
  some ((.exit 0), [q2, q10], h0))
def k_alloc_Alloc_SweepOne_L0 (x0 : AV) (t8 : AV) (t9 : AV) (q2 : AV) (q10 : AV) (h0 : Heap) : OutV := loopN (fun us g => k_alloc_Alloc_SweepOne_b0 x0 t8 t9 (us.getD 0 .bot) (us.getD 1 .bot) g) [q2, q10] h0
def k_alloc_Alloc_SweepOne (x0 : AV) (h : Heap) : Option (AV × Heap) :=
  (nilV x0).bind fun t6 =>
  (faP 1 t6).bind fun t7 =>
  (ldS h t7).bind fun t8 =>
  (lnL t8).bind fun t9 =>
  lp (k_alloc_Alloc_SweepOne_L0 x0 t8 t9 (AV.bool false) (AV.int .i64 0) h) fun e vs h2 =>
  thenK (if e = .exit 0 then .normal else e) (
  some ((AV.bool false), h2)) (fun e_3 => endE e_3 (some ((vs.getD 0 .bot), h2)))
def T93 : Tab := (165, p1 k_alloc_Alloc_SweepOne) :: T92
/- 166: (*gantline/alloc.Alloc).Used -/
def k_alloc_Alloc_Used_b0 (x0 : AV) (t9 : AV) (q3 : AV) (q10 : AV) (h0 : Heap) : OutV :=
  (binP .lss q10 t9).bind fun t11 =>
  condE t11 (
  (nilV x0).bind fun t15 =>
  (faP 0 t15).bind fun t16 =>
  (ldS h0 t16).bind fun t17 =>
  cl (k_arena_Arena_Taken t17 q10 h0) fun t19 h1 =>
  cl (k_bits_Ones t19 h1) fun t20 h2 =>
  (nilV x0).bind fun t22 =>
  (faP 0 t22).bind fun t23 =>
  clC (rdC (fun g => ldS g t23) h2 0 2 []) fun t24 cs =>
  cl (k_arena_Arena_Class t24 q10 h2) fun t26 h3 =>
  cl (k_geom_Words t26 h3) fun t27 h4 =>
  (binP .mul t20 t27).bind fun t28 =>
  (binP .add q3 t28).bind fun t29 =>
  chk [h0, h1, h2, h3, h4] cs (
  (binP .add q10 (AV.int .i64 1)).bind fun t30 =>
  some (.normal, [t29, t30], h4))) (
  some ((.exit 0), [q3, q10], h0))
def k_alloc_Alloc_Used_L0 (x0 : AV) (t9 : AV) (q3 : AV) (q10 : AV) (h0 : Heap) : OutV := loopN (fun us g => k_alloc_Alloc_Used_b0 x0 t9 (us.getD 0 .bot) (us.getD 1 .bot) g) [q3, q10] h0
def k_alloc_Alloc_Used (x0 : AV) (h : Heap) : Option (AV × Heap) :=
  (nilV x0).bind fun t6 =>
  (faP 1 t6).bind fun t7 =>
  (ldS h t7).bind fun t8 =>
  (lnL t8).bind fun t9 =>
  lp (k_alloc_Alloc_Used_L0 x0 t9 (AV.int .i64 0) (AV.int .i64 0) h) fun e vs h5 =>
  thenK (if e = .exit 0 then .normal else e) (
  some ((vs.getD 0 .bot), h5)) (fun e_6 => endE e_6 (some ((AV.int .i64 0), h5)))
def T94 : Tab := (166, p1 k_alloc_Alloc_Used) :: T93
/- 139: (*gantline/cycle.Cycle).Step -/
def k_cycle_Cycle_Step (x0 : AV) (x1 : AV) (h : Heap) : Option (AV × Heap) :=
  (nilV x0).bind fun t10 =>
  (faP 4 t10).bind fun t11 =>
  (ldS h t11).bind fun t12 =>
  (eqP (some (.int .i64)) none false .eql t12 (AV.int .i64 1)).bind fun t14 =>
  condE t14 (
  cl (k_cycle_Cycle_next x0 x1 h) fun t18 h73 =>
  (extractV 0 t18).bind fun t19 =>
  (extractV 1 t18).bind fun t20 =>
  condE t20 (
  cl (k_cycle_Cycle_Scan x0 x1 t19 h73) fun t25 h82 =>
  some ((AV.bool true), h82)) (
  (nilV x0).bind fun t27 =>
  (faP 4 t27).bind fun t28 =>
  cl (stP 1 h73 t28 (AV.int .i64 2)) fun u h83 =>
  some ((AV.bool true), h83))) (
  (eqP (some (.int .i64)) none false .eql t12 (AV.int .i64 2)).bind fun t30 =>
  condE t30 (
  (nilV x0).bind fun t32 =>
  (faP 3 t32).bind fun t33 =>
  (ldS h t33).bind fun t34 =>
  cl (k_mark_Marker_Step t34 h) fun t35 h138 =>
  condE t35 (
  some ((AV.bool true), h138)) (
  cl (k_cycle_Cycle_next x0 x1 h138) fun t39 h139 =>
  (extractV 0 t39).bind fun t40 =>
  (extractV 1 t39).bind fun t41 =>
  condE t41 (
  (nilV x0).bind fun t44 =>
  (faP 4 t44).bind fun t45 =>
  cl (stP 1 h139 t45 (AV.int .i64 1)) fun u_152 h153 =>
  some ((AV.bool true), h153)) (
  (nilV x0).bind fun t47 =>
  (faP 4 t47).bind fun t48 =>
  cl (stP 1 h139 t48 (AV.int .i64 3)) fun u_154 h155 =>
  (nilV x0).bind fun t50 =>
  (faP 2 t50).bind fun t51 =>
  (ldS h155 t51).bind fun t52 =>
  cl (k_alloc_Alloc_Stale t52 h155) fun t53 h156 =>
  some ((AV.bool true), h156)))) (
  (eqP (some (.int .i64)) none false .eql t12 (AV.int .i64 3)).bind fun t55 =>
  condE t55 (
  (nilV x0).bind fun t57 =>
  (faP 2 t57).bind fun t58 =>
  (ldS h t58).bind fun t59 =>
  cl (k_alloc_Alloc_SweepOne t59 h) fun t60 h184 =>
  (unA .not t60).bind fun t61 =>
  condE t61 (
  (nilV x0).bind fun t63 =>
  (faP 4 t63).bind fun t64 =>
  cl (stP 1 h184 t64 (AV.int .i64 0)) fun u_205 h206 =>
  (nilV x0).bind fun t66 =>
  (faP 6 t66).bind fun t67 =>
  (ldS h206 t67).bind fun t68 =>
  (binP .add t68 (AV.int .i64 1)).bind fun t69 =>
  (nilV x0).bind fun t70 =>
  (faP 6 t70).bind fun t71 =>
  cl (stP 1 h206 t71 t69) fun u_207 h208 =>
  (nilV x0).bind fun t74 =>
  (faP 2 t74).bind fun t75 =>
  (ldS h208 t75).bind fun t76 =>
  cl (k_alloc_Alloc_Used t76 h208) fun t77 h209 =>
  (maxP t77 (AV.int .i64 64)).bind fun t78 =>
  (nilV x0).bind fun t79 =>
  (faP 7 t79).bind fun t80 =>
  cl (stP 1 h209 t80 t78) fun u_210 h211 =>
  some ((AV.bool true), h211)) (
  some ((AV.bool true), h184))) (
  some ((AV.bool false), h))))
def T95 : Tab := (139, p2 k_cycle_Cycle_Step) :: T94
/- 167: (*gantline/arena.Arena).Clear -/
def k_arena_Arena_Clear_b0 (x0 : AV) (t7 : AV) (q8 : AV) (h0 : Heap) : OutV :=
  (binP .lss q8 t7).bind fun t9 =>
  condE t9 (
  (nilV x0).bind fun t12 =>
  (faP 1 t12).bind fun t13 =>
  (ldS h0 t13).bind fun t14 =>
  (iaS 3 t14 q8).bind fun t16 =>
  (faP 2 t16).bind fun t17 =>
  cl (stP 1 h0 t17 (AV.int .u64 0)) fun u h1 =>
  (binP .add q8 (AV.int .i64 1)).bind fun t18 =>
  some (.normal, [t18], h1)) (
  some ((.exit 0), [q8], h0))
def k_arena_Arena_Clear_L0 (x0 : AV) (t7 : AV) (q8 : AV) (h0 : Heap) : OutV := loopN (fun us g => k_arena_Arena_Clear_b0 x0 t7 (us.getD 0 .bot) g) [q8] h0
def k_arena_Arena_Clear (x0 : AV) (h : Heap) : Option (AV × Heap) :=
  (nilV x0).bind fun t4 =>
  (faP 1 t4).bind fun t5 =>
  (ldS h t5).bind fun t6 =>
  (lnL t6).bind fun t7 =>
  lp (k_arena_Arena_Clear_L0 x0 t7 (AV.int .i64 0) h) fun e vs h2 =>
  endE (if e = .exit 0 then .normal else e) (some (AV.tup [], h2))
def T96 : Tab := (167, p1 k_arena_Arena_Clear) :: T95
/- 140: (*gantline/cycle.Cycle).Start -/
def k_cycle_Cycle_Start (x0 : AV) (x1 : AV) (h : Heap) : Option (AV × Heap) :=
  (nilV x0).bind fun t6 =>
  (faP 4 t6).bind fun t7 =>
  (ldS h t7).bind fun t8 =>
  (eqP (some (.int .i64)) none false .neq t8 (AV.int .i64 0)).bind fun t9 =>
  condE t9 (
  some ((AV.bool false), h)) (
  (nilV x0).bind fun t11 =>
  (faP 0 t11).bind fun t12 =>
  (ldS h t12).bind fun t13 =>
  cl (k_arena_Arena_Clear t13 h) fun t14 h0 =>
  (nilV x0).bind fun t16 =>
  (faP 4 t16).bind fun t17 =>
  cl (stP 1 h0 t17 (AV.int .i64 1)) fun u h1 =>
  (nilV x0).bind fun t19 =>
  (faP 5 t19).bind fun t20 =>
  (ldS h1 t20).bind fun t21 =>
  cl (clM h1 t21) fun u_2 h3 =>
  clF (lookT T96) (ivP [(118, 204)] x1 []) h3 fun t24 h4 =>
  cl (k_cycle_Cycle_shade x0 t24 h4) fun t25 h5 =>
  some ((AV.bool true), h5))
def T97 : Tab := (140, p2 k_cycle_Cycle_Start) :: T96
/- 112: (*gantline/cycle.Cycle).Whole -/
def k_cycle_Cycle_Whole_b0 (x0 : AV) (x1 : AV) (h0 : Heap) : OutV :=
  cl (k_cycle_Cycle_Step x0 x1 h0) fun t6 h1 =>
  condE t6 (
  some (.normal, [], h1)) (
  some ((.exit 0), [], h1))
def k_cycle_Cycle_Whole_L0 (x0 : AV) (x1 : AV) (h0 : Heap) : OutV := loopN (fun us g => k_cycle_Cycle_Whole_b0 x0 x1 g) [] h0
def k_cycle_Cycle_Whole_b1 (x0 : AV) (x1 : AV) (h4 : Heap) : OutV :=
  cl (k_cycle_Cycle_Step x0 x1 h4) fun t12 h5 =>
  condE t12 (
  some (.normal, [], h5)) (
  some ((.exit 2), [], h5))
def k_cycle_Cycle_Whole_L1 (x0 : AV) (x1 : AV) (h4 : Heap) : OutV := loopN (fun us g => k_cycle_Cycle_Whole_b1 x0 x1 g) [] h4
def k_cycle_Cycle_Whole (x0 : AV) (x1 : AV) (h : Heap) : Option (AV × Heap) :=
  lp (k_cycle_Cycle_Whole_L0 x0 x1 h) fun e vs h2 =>
  thenK (if e = .exit 0 then .normal else e) (
  cl (k_cycle_Cycle_Start x0 x1 h2) fun t9 h3 =>
  lp (k_cycle_Cycle_Whole_L1 x0 x1 h3) fun e_6 vs_7 h8 =>
  endE (if e_6 = .exit 2 then .normal else e_6) (some (AV.tup [], h8))) (fun e_9 => endE e_9 (some (AV.tup [], h2)))
def T98 : Tab := (112, p2 k_cycle_Cycle_Whole) :: T97
/- 13: gantline/head.Pack -/
def k_head_Pack (x0 : AV) (h : Heap) : Option (AV × Heap) :=
  mk Heap.new (bxP x0) h fun t1 h0 =>
  (ldA 3 h0 t1).bind fun t5 =>
  cl (k_head_may t5 h0) fun t6 h1 =>
  (unA .not t6).bind fun t7 =>
  condE t7 (
  some (AV.tup [(AV.int .i64 0), (AV.int .i64 1)], h1)) (
  (faP 0 t1).bind fun t8 =>
  (ldS h1 t8).bind fun t9 =>
  (cvI .u64 t9).bind fun t10 =>
  (faP 1 t1).bind fun t11 =>
  (ldS h1 t11).bind fun t12 =>
  (cvI .u64 t12).bind fun t13 =>
  cl (k_bits_With t10 (AV.int .i64 7) (AV.int .i64 3) t13 h1) fun t14 h2 =>
  (faP 2 t1).bind fun t16 =>
  (ldS h2 t16).bind fun t17 =>
  (cvI .u64 t17).bind fun t18 =>
  cl (k_bits_With t14 (AV.int .i64 10) (AV.int .i64 16) t18 h2) fun t19 h3 =>
  (cvI .i64 t19).bind fun t20 =>
  some (AV.tup [t20, (AV.int .i64 0)], h3))
def T99 : Tab := (13, p1 k_head_Pack) :: T98
/- 52: (*gantline/arena.Arena).Write -/
def k_arena_Arena_Write (x0 : AV) (x1 : AV) (x2 : AV) (x3 : AV) (h : Heap) : Option (AV × Heap) :=
  cl (k_arena_Arena_word x0 x1 x2 h) fun t13 h0 =>
  (eqP (some (.pointer 0)) none false .eql t13 (AV.ptr none)).bind fun t15 =>
  condE t15 (
  some ((AV.int .i64 1), h0)) (
  (nilV t13).bind fun t18 =>
  cl (stP 1 h0 t18 x3) fun u h1 =>
  some ((AV.int .i64 0), h1))
def T100 : Tab := (52, p4 k_arena_Arena_Write) :: T99
/- 87: (*gantline/heap.Heap).Make -/
def k_heap_Heap_Make_j0 (x0 : AV) (x2 : AV) (t10 : AV) (q11 : AV) (q12 : AV) (h21 : Heap) : Option (AV × Heap) :=
  (eqP (some (.int .i64)) none false .neq q12 (AV.int .i64 0)).bind fun t76 =>
  condE t76 (
  some (AV.tup [(AV.int .i64 0), q12], h21)) (
  (nilV x0).bind fun t80 =>
  (faP 0 t80).bind fun t81 =>
  (ldS h21 t81).bind fun t82 =>
  cl (k_cycle_Cycle_Table t82 h21) fun t83 h22 =>
  clC (rdC (fun g => ldA 3 g t10) h22 0 1 []) fun t84 cs =>
  cl (k_head_Table_Number t83 t84 h22) fun t85 h23 =>
  (extractV 0 t85).bind fun t86 =>
  (extractV 1 t85).bind fun t87 =>
  chk [h21, h22, h23] cs (
  (faP 0 t10).bind fun t90 =>
  (ldS h23 t90).bind fun t91 =>
  (bldS [(0, 1), (1, 1), (2, 1)] [(AV.int .i64 0), (AV.int .i64 0), (AV.int .i64 0)] [(0, x2), (1, t91), (2, t86)]).bind fun t93 =>
  cl (k_head_Pack t93 h23) fun t94 h24 =>
  (extractV 0 t94).bind fun t95 =>
  (extractV 1 t94).bind fun t96 =>
  (eqP (some (.int .i64)) none false .neq t96 (AV.int .i64 0)).bind fun t98 =>
  condE t98 (
  some (AV.tup [(AV.int .i64 0), t96], h24)) (
  (nilV x0).bind fun t101 =>
  (faP 0 t101).bind fun t102 =>
  (ldS h24 t102).bind fun t103 =>
  cl (k_cycle_Cycle_Arena t103 h24) fun t104 h25 =>
  cl (k_arena_Arena_Write t104 q11 (AV.int .i64 0) t95 h25) fun t107 h26 =>
  some (AV.tup [q11, (AV.int .i64 0)], h26))))
def k_heap_Heap_Make (x0 : AV) (x1 : AV) (x2 : AV) (x3 : AV) (h : Heap) : Option (AV × Heap) :=
  (binP .lss x1 (AV.int .i64 0)).bind fun t17 =>
  gQ (gdW t17 false) h (some (x1, h)) fun t19 h0 =>
  gQ (gdW t17 false) h0 (some (x0, h0)) fun t20 h1 =>
  gQ (gdW t17 false) h1 ((nilV t20).bind fun t21 =>
  some (t21, h1)) fun t21_2 h3 =>
  gQ (gdW t17 false) h3 ((faP 1 t21_2).bind fun t22 =>
  some (t22, h3)) fun t22_4 h5 =>
  gQ (gdW t17 false) h5 ((ldS h5 t22_4).bind fun t23 =>
  some (t23, h5)) fun t23_6 h7 =>
  gQ (gdW t17 false) h7 ((lnL t23_6).bind fun t24 =>
  some (t24, h7)) fun t24_8 h9 =>
  gQ (gdW t17 false) h9 ((binP .geq t19 t24_8).bind fun t25 =>
  some (t25, h9)) fun t25_10 h11 =>
  (pickP t17 (AV.bool true) t25_10).bind fun t26 =>
  gQ (gdW t26 false) h11 (some (x2, h11)) fun t28 h12 =>
  gQ (gdW t26 false) h12 ((binP .lss t28 (AV.int .i64 1)).bind fun t29 =>
  some (t29, h12)) fun t29_13 h14 =>
  (pickP t26 (AV.bool true) t29_13).bind fun t30 =>
  gQ (gdW t30 false) h14 (some (x2, h14)) fun t32 h15 =>
  gQ (gdW t30 false) h15 ((binP .gtr t32 (AV.int .i64 64)).bind fun t33 =>
  some (t33, h15)) fun t33_16 h17 =>
  (pickP t30 (AV.bool true) t33_16).bind fun t34 =>
  condE t34 (
  some (AV.tup [(AV.int .i64 0), (AV.int .i64 1)], h17)) (
  (nilV x0).bind fun t36 =>
  (faP 1 t36).bind fun t37 =>
  (ldS h17 t37).bind fun t38 =>
  (iaS 3 t38 x1).bind fun t40 =>
  (ldA 3 h17 t40).bind fun t41 =>
  mk Heap.new (some (Blk.cells true [(AV.int .i64 0), (AV.int .i64 0), (AV.int .u64 0)], fun i => AV.ptr (some (i, 0)))) h17 fun t10 h18 =>
  cl (stP 3 h18 t10 t41) fun u h19 =>
  (nilV x0).bind fun t44 =>
  (faP 0 t44).bind fun t45 =>
  (ldS h19 t45).bind fun t46 =>
  cl (k_cycle_Cycle_Take t46 x2 h19) fun t48 h20 =>
  (extractV 0 t48).bind fun t49 =>
  (extractV 1 t48).bind fun t50 =>
  (eqP (some (.int .i64)) none false .eql t50 (AV.int .i64 5)).bind fun t52 =>
  condE t52 (
  (nilV x0).bind fun t54 =>
  (faP 0 t54).bind fun t55 =>
  (ldS h20 t55).bind fun t56 =>
  cl (k_cycle_Cycle_Whole t56 x3 h20) fun t58 h27 =>
  (nilV x0).bind fun t60 =>
  (faP 2 t60).bind fun t61 =>
  (ldS h27 t61).bind fun t62 =>
  (binP .add t62 (AV.int .i64 1)).bind fun t63 =>
  (nilV x0).bind fun t64 =>
  (faP 2 t64).bind fun t65 =>
  cl (stP 1 h27 t65 t63) fun u_28 h29 =>
  (nilV x0).bind fun t68 =>
  (faP 0 t68).bind fun t69 =>
  (ldS h29 t69).bind fun t70 =>
  cl (k_cycle_Cycle_Take t70 x2 h29) fun t72 h30 =>
  (extractV 0 t72).bind fun t73 =>
  (extractV 1 t72).bind fun t74 =>
  k_heap_Heap_Make_j0 x0 x2 t10 t73 t74 h30) (
  k_heap_Heap_Make_j0 x0 x2 t10 t49 t50 h20))
def T101 : Tab := (87, p4 k_heap_Heap_Make) :: T100
/- 88: gantline/chans.set -/
def k_chans_set (x0 : AV) (x1 : AV) (x2 : AV) (x3 : AV) (h : Heap) : Option (AV × Heap) :=
  cl (k_heap_Heap_Cycle x0 h) fun t9 h0 =>
  cl (k_cycle_Cycle_Arena t9 h0) fun t10 h1 =>
  (binP .add x2 (AV.int .i64 1)).bind fun t13 =>
  cl (k_arena_Arena_Write t10 x1 t13 x3 h1) fun t15 h2 =>
  some (AV.tup [], h2)
def T102 : Tab := (88, p4 k_chans_set) :: T101
/- 55: gantline/chans.Make -/
def k_chans_Make (x0 : AV) (x1 : AV) (x2 : AV) (x3 : AV) (h : Heap) : Option (AV × Heap) :=
  (binP .lss x2 (AV.int .i64 0)).bind fun t14 =>
  gQ (gdW t14 false) h (some (x2, h)) fun t16 h0 =>
  gQ (gdW t14 false) h0 ((binP .gtr t16 (AV.int .i64 59)).bind fun t17 =>
  some (t17, h0)) fun t17_1 h2 =>
  (pickP t14 (AV.bool true) t17_1).bind fun t18 =>
  condE t18 (
  some (AV.tup [(AV.int .i64 0), (AV.int .i64 5), (AV.int .i64 0)], h2)) (
  (binP .add x2 (AV.int .i64 5)).bind fun t23 =>
  cl (k_heap_Heap_Make x0 x1 t23 x3 h2) fun t25 h3 =>
  (extractV 0 t25).bind fun t26 =>
  (extractV 1 t25).bind fun t27 =>
  (eqP (some (.int .i64)) none false .neq t27 (AV.int .i64 0)).bind fun t29 =>
  condE t29 (
  some (AV.tup [(AV.int .i64 0), (AV.int .i64 0), t27], h3)) (
  cl (k_chans_set x0 t26 (AV.int .i64 0) x2 h3) fun t34 h4 =>
  some (AV.tup [t26, (AV.int .i64 0), (AV.int .i64 0)], h4)))
def T103 : Tab := (55, p4 k_chans_Make) :: T102
/- 94: gantline/frame.begin -/
def k_frame_begin (x0 : AV) (x1 : AV) (x2 : AV) (h : Heap) : Option (AV × Heap) :=
  mk Heap.new (bxP x0) h fun t3 h0 =>
  mk Heap.new (some (Blk.cells true [(AV.int .i64 0), (AV.int .i64 0), (AV.sl none 0 (.ex 0))], fun i => AV.ptr (some (i, 0)))) h0 fun t6 h1 =>
  (binP .lss x1 (AV.int .i64 0)).bind fun t11 =>
  gQ (gdW t11 false) h1 (some (x1, h1)) fun t13 h2 =>
  gQ (gdW t11 false) h2 ((faP 4 t3).bind fun t14 =>
  some (t14, h2)) fun t14_3 h4 =>
  gQ (gdW t11 false) h4 ((ldS h4 t14_3).bind fun t15 =>
  some (t15, h4)) fun t15_5 h6 =>
  gQ (gdW t11 false) h6 ((lnL t15_5).bind fun t16 =>
  some (t16, h6)) fun t16_7 h8 =>
  gQ (gdW t11 false) h8 ((binP .geq t13 t16_7).bind fun t17 =>
  some (t17, h8)) fun t17_9 h10 =>
  (pickP t11 (AV.bool true) t17_9).bind fun t18 =>
  condE t18 (
  (bldS [(0, 1), (1, 1), (2, 1)] [(AV.int .i64 0), (AV.int .i64 0), (AV.sl none 0 (.ex 0))] []).bind fun t19 =>
  cl (stP 3 h10 t6 t19) fun u h11 =>
  (ldA 3 h11 t6).bind fun t =>
  some (AV.tup [t, (AV.int .i64 1)], h11)) (
  (faP 4 t3).bind fun t20 =>
  (ldS h10 t20).bind fun t21 =>
  (iaS 7 t21 x1).bind fun t23 =>
  (ldA 7 h10 t23).bind fun t24 =>
  mk Heap.new (some (Blk.cells true [(AV.int .i64 0), (AV.int .i64 0), (AV.int .i64 0), (AV.int .i64 0), (AV.sl none 0 (.ex 0)), (AV.sl none 0 (.ex 0)), (AV.sl none 0 (.ex 0))], fun i => AV.ptr (some (i, 0)))) h10 fun t8 h12 =>
  cl (stP 7 h12 t8 t24) fun u_13 h14 =>
  (lnL x2).bind fun t26 =>
  (faP 0 t8).bind fun t27 =>
  (ldS h14 t27).bind fun t28 =>
  (faP 1 t8).bind fun t29 =>
  (ldS h14 t29).bind fun t30 =>
  (binP .add t28 t30).bind fun t31 =>
  (eqP (some (.int .i64)) none false .neq t26 t31).bind fun t32 =>
  gQ (gdW t32 false) h14 (some (x2, h14)) fun t34 h15 =>
  gQ (gdW t32 false) h15 ((lnL t34).bind fun t35 =>
  some (t35, h15)) fun t35_16 h17 =>
  gQ (gdW t32 false) h17 ((faP 2 t8).bind fun t36 =>
  some (t36, h17)) fun t36_18 h19 =>
  gQ (gdW t32 false) h19 ((ldS h19 t36_18).bind fun t37 =>
  some (t37, h19)) fun t37_20 h21 =>
  gQ (gdW t32 false) h21 ((binP .gtr t35_16 t37_20).bind fun t38 =>
  some (t38, h21)) fun t38_22 h23 =>
  (pickP t32 (AV.bool true) t38_22).bind fun t39 =>
  gQ (gdW t39 false) h23 ((faP 2 t8).bind fun t41 =>
  some (t41, h23)) fun t41_24 h25 =>
  gQ (gdW t39 false) h25 ((ldS h25 t41_24).bind fun t42 =>
  some (t42, h25)) fun t42_26 h27 =>
  gQ (gdW t39 false) h27 ((binP .gtr t42_26 (AV.int .i64 64)).bind fun t43 =>
  some (t43, h27)) fun t43_28 h29 =>
  (pickP t39 (AV.bool true) t43_28).bind fun t44 =>
  condE t44 (
  (bldS [(0, 1), (1, 1), (2, 1)] [(AV.int .i64 0), (AV.int .i64 0), (AV.sl none 0 (.ex 0))] []).bind fun t45 =>
  cl (stP 3 h29 t6 t45) fun u_30 h31 =>
  (ldA 3 h31 t6).bind fun t_32 =>
  some (AV.tup [t_32, (AV.int .i64 1)], h31)) (
  (faP 2 t8).bind fun t46 =>
  (ldS h29 t46).bind fun t47 =>
  mk Heap.new (msP 1 8 [(AV.int .i64 0)] t47 t47) h29 fun t48 h33 =>
  cl (cpP 1 h33 t48 x2) fun t51 h34 =>
  (bldS [(0, 1), (1, 1), (2, 1)] [(AV.int .i64 0), (AV.int .i64 0), (AV.sl none 0 (.ex 0))] [(0, x1), (2, t48)]).bind fun t54 =>
  cl (stP 3 h34 t6 t54) fun u_35 h36 =>
  (ldA 3 h36 t6).bind fun t_37 =>
  some (AV.tup [t_37, (AV.int .i64 0)], h36)))
def T104 : Tab := (94, p3 k_frame_begin) :: T103
/- 59: gantline/frame.New -/
def k_frame_New (x0 : AV) (x1 : AV) (x2 : AV) (h : Heap) : Option (AV × Heap) :=
  mk Heap.new (bxP x0) h fun t3 h0 =>
  (ldA 6 h0 t3).bind fun t11 =>
  cl (k_frame_begin t11 x1 x2 h0) fun t14 h1 =>
  (extractV 0 t14).bind fun t15 =>
  (extractV 1 t14).bind fun t16 =>
  mk Heap.new (some (Blk.cells true [(AV.int .i64 0), (AV.int .i64 0), (AV.sl none 0 (.ex 0))], fun i => AV.ptr (some (i, 0)))) h1 fun t8 h2 =>
  cl (stP 3 h2 t8 t15) fun u h3 =>
  (eqP (some (.int .i64)) none false .neq t16 (AV.int .i64 0)).bind fun t18 =>
  condE t18 (
  some (AV.tup [(AV.ptr none), t16], h3)) (
  (ldA 3 h3 t8).bind fun t20 =>
  mk Heap.new (bsP 3 [(AV.int .i64 0), (AV.int .i64 0), (AV.sl none 0 (.ex 0))] 1 [(0, t20)]) h3 fun t21 h4 =>
  (bldS [(0, 1)] [(AV.sl none 0 (.ex 0))] [(0, t21)]).bind fun t22 =>
  mk Heap.new (bxP t22) h4 fun t23 h5 =>
  some (AV.tup [t23, (AV.int .i64 0)], h5))
def T105 : Tab := (59, p3 k_frame_New) :: T104
/- 18: (*gantline/sched.Table).Add -/
def k_sched_Table_Add (x0 : AV) (x1 : AV) (x2 : AV) (h : Heap) : Option (AV × Heap) :=
  (nilV x0).bind fun t11 =>
  (faP 6 t11).bind fun t12 =>
  (ldS h t12).bind fun t13 =>
  (lnM h t13).bind fun t14 =>
  (binP .geq t14 (AV.int .i64 64)).bind fun t15 =>
  condE t15 (
  some (AV.tup [(AV.int .i64 0), (AV.int .i64 2)], h)) (
  (nilV x0).bind fun t18 =>
  (faP 0 t18).bind fun t19 =>
  (ldA 6 h t19).bind fun t20 =>
  cl (k_frame_New t20 x1 x2 h) fun t23 h0 =>
  (extractV 0 t23).bind fun t24 =>
  (extractV 1 t23).bind fun t25 =>
  (eqP (some (.int .i64)) none false .neq t25 (AV.int .i64 0)).bind fun t27 =>
  condE t27 (
  some (AV.tup [(AV.int .i64 0), t25], h0)) (
  (nilV x0).bind fun t30 =>
  (faP 7 t30).bind fun t31 =>
  (ldS h0 t31).bind fun t32 =>
  (binP .add t32 (AV.int .i64 1)).bind fun t33 =>
  (nilV x0).bind fun t34 =>
  (faP 7 t34).bind fun t35 =>
  cl (stP 1 h0 t35 t33) fun u h1 =>
  (nilV x0).bind fun t37 =>
  (faP 6 t37).bind fun t38 =>
  (ldS h1 t38).bind fun t39 =>
  (nilV x0).bind fun t41 =>
  (faP 7 t41).bind fun t42 =>
  (ldS h1 t42).bind fun t43 =>
  cl (muP (ptA (.int .i64)) h1 t39 t43 t24) fun u_2 h3 =>
  chk [h1, h3] [] (
  (nilV x0).bind fun t46 =>
  (faP 7 t46).bind fun t47 =>
  (ldS h3 t47).bind fun t48 =>
  some (AV.tup [t48, (AV.int .i64 0)], h3))))
def T106 : Tab := (18, p3 k_sched_Table_Add) :: T105
/- 57: (*gantline/sched.Table).Enabled -/
def k_sched_Table_Enabled (x0 : AV) (x1 : AV) (h : Heap) : Option (AV × Heap) :=
  mk Heap.new (bxP x0) h fun t2 h0 =>
  mk Heap.new (bxP x1) h0 fun t3 h1 =>
  (ldS h1 t2).bind fun t5 =>
  cl (k_sched_Table_IDs t5 h1) fun t6 h2 =>
  cl (k_slices_DeleteFunc_int_int t6 (AV.fn 93 [] [t2, t3]) h2) fun t8 h3 =>
  some (t8, h3)
def T107 : Tab := (57, p2 k_sched_Table_Enabled) :: T106
/- 19: (*gantline/sched.Table).Drop -/
def k_sched_Table_Drop (x0 : AV) (x1 : AV) (h : Heap) : Option (AV × Heap) :=
  (nilV x0).bind fun t5 =>
  (faP 6 t5).bind fun t6 =>
  (ldS h t6).bind fun t7 =>
  cl (dlP (dlA (.int .i64)) h t7 x1) fun u h0 =>
  some (AV.tup [], h0)
def T108 : Tab := (19, p2 k_sched_Table_Drop) :: T107
/- 58: gantline/gantlineref17.Ints -/
def k_ref17_Ints_b0 (x0 : AV) (x1 : AV) (q4 : AV) (q5 : AV) (h0 : Heap) : OutV :=
  (lnL x0).bind fun t13 =>
  (binP .lss q5 t13).bind fun t14 =>
  condE t14 (
  (iaS 1 x0 q5).bind fun t19 =>
  (ldS h0 t19).bind fun t20 =>
  (iaS 1 x1 q5).bind fun t23 =>
  (ldS h0 t23).bind fun t24 =>
  (eqP (some (.int .i64)) none false .neq t20 t24).bind fun t25 =>
  chk [h0] [] (
  condE t25 (
  some (.ret, [(AV.bool false), q5], h0)) (
  (binP .add q5 (AV.int .i64 1)).bind fun t16 =>
  some (.normal, [q4, t16], h0)))) (
  some ((.exit 0), [q4, q5], h0))
def k_ref17_Ints_L0 (x0 : AV) (x1 : AV) (q4 : AV) (q5 : AV) (h0 : Heap) : OutV := loopN (fun us g => k_ref17_Ints_b0 x0 x1 (us.getD 0 .bot) (us.getD 1 .bot) g) [q4, q5] h0
def k_ref17_Ints (x0 : AV) (x1 : AV) (h : Heap) : Option (AV × Heap) :=
  (lnL x0).bind fun t7 =>
  (lnL x1).bind fun t9 =>
  (eqP (some (.int .i64)) none false .neq t7 t9).bind fun t10 =>
  condE t10 (
  some ((AV.bool false), h)) (
  lp (k_ref17_Ints_L0 x0 x1 (AV.bool false) (AV.int .i64 0) h) fun e vs h1 =>
  thenK (if e = .exit 0 then .normal else e) (
  some ((AV.bool true), h1)) (fun e_2 => endE e_2 (some ((vs.getD 0 .bot), h1))))
def T109 : Tab := (58, p2 k_ref17_Ints) :: T108
/- 15: gantline/gantlinelaw16.awake -/
def k_law16_awake (h : Heap) : Option (AV × Heap) :=
  cl (k_law16_module h) fun t16 h0 =>
  (fvS 0 t16).bind fun t17 =>
  cl (k_heap_New (AV.int .i64 8) t17 h0) fun t18 h1 =>
  (extractV 0 t18).bind fun t19 =>
  (extractV 1 t18).bind fun t20 =>
  cl (k_law16_module h1) fun t21 h2 =>
  cl (k_sched_New t21 h2) fun t22 h3 =>
  (eqP (some (.int .i64)) none false .neq t20 (AV.int .i64 0)).bind fun t24 =>
  gQ (gdW t24 false) h3 (some (t19, h3)) fun t26 h4 =>
  gQ (gdW t24 false) h4 ((eqP (some (.pointer 0)) none false .eql t26 (AV.ptr none)).bind fun t27 =>
  some (t27, h4)) fun t27_5 h6 =>
  (pickP t24 (AV.bool true) t27_5).bind fun t28 =>
  gQ (gdW t28 false) h6 (some (t22, h6)) fun t30 h7 =>
  gQ (gdW t28 false) h7 ((eqP (some (.pointer 0)) none false .eql t30 (AV.ptr none)).bind fun t31 =>
  some (t31, h7)) fun t31_8 h9 =>
  (pickP t28 (AV.bool true) t31_8).bind fun t32 =>
  condE t32 (
  some ((AV.bool false), h9)) (
  (bldS [(0, 1)] [(AV.sl none 0 (.ex 0))] []).bind fun t35 =>
  mk Heap.new (bxP t35) h9 fun t36 h10 =>
  cl (k_chans_Make t19 (AV.int .i64 0) (AV.int .i64 0) (AV.ifc 118 t36) h10) fun t38 h11 =>
  (extractV 0 t38).bind fun t39 =>
  (extractV 1 t38).bind fun t40 =>
  (extractV 2 t38).bind fun t41 =>
  mk Heap.new (bsP 1 [(AV.int .i64 0)] 3 [(0, t39), (1, t39), (2, (AV.int .i64 0))]) h11 fun t46 h12 =>
  cl (k_sched_Table_Add t22 (AV.int .i64 2) t46 h12) fun t47 h13 =>
  (extractV 0 t47).bind fun t48 =>
  (extractV 1 t47).bind fun t49 =>
  cl (k_sched_Table_Ways t22 t19 t48 h13) fun t53 h14 =>
  (lnL t53).bind fun t54 =>
  mk Heap.new (bsP 1 [(AV.int .i64 0)] 3 [(0, t39), (1, t39), (2, (AV.int .i64 5))]) h14 fun t59 h15 =>
  cl (k_sched_Table_Add t22 (AV.int .i64 1) t59 h15) fun t60 h16 =>
  (extractV 0 t60).bind fun t61 =>
  (extractV 1 t60).bind fun t62 =>
  cl (k_sched_Table_Ways t22 t19 t48 h16) fun t66 h17 =>
  cl (k_sched_Table_Enabled t22 t19 h17) fun t69 h18 =>
  cl (k_sched_Table_Stack t22 t48 h18) fun t72 h19 =>
  cl (k_sched_Table_Drop t22 t48 h19) fun t75 h20 =>
  (eqP (some (.int .i64)) none false .eql t49 (AV.int .i64 0)).bind fun t77 =>
  gQ (gdW t77 true) h20 (some (t48, h20)) fun t79 h21 =>
  gQ (gdW t77 true) h21 ((eqP (some (.int .i64)) none false .eql t79 (AV.int .i64 1)).bind fun t80 =>
  some (t80, h21)) fun t80_22 h23 =>
  (pickP t77 t80_22 (AV.bool false)).bind fun t81 =>
  gQ (gdW t81 true) h23 (some (t54, h23)) fun t83 h24 =>
  gQ (gdW t81 true) h24 ((eqP (some (.int .i64)) none false .eql t83 (AV.int .i64 0)).bind fun t84 =>
  some (t84, h24)) fun t84_25 h26 =>
  (pickP t81 t84_25 (AV.bool false)).bind fun t85 =>
  gQ (gdW t85 true) h26 (some (t62, h26)) fun t87 h27 =>
  gQ (gdW t85 true) h27 ((eqP (some (.int .i64)) none false .eql t87 (AV.int .i64 0)).bind fun t88 =>
  some (t88, h27)) fun t88_28 h29 =>
  (pickP t85 t88_28 (AV.bool false)).bind fun t89 =>
  gQ (gdW t89 true) h29 (some (t61, h29)) fun t91 h30 =>
  gQ (gdW t89 true) h30 ((eqP (some (.int .i64)) none false .eql t91 (AV.int .i64 2)).bind fun t92 =>
  some (t92, h30)) fun t92_31 h32 =>
  (pickP t89 t92_31 (AV.bool false)).bind fun t93 =>
  gQ (gdW t93 true) h32 (some (t66, h32)) fun t95 h33 =>
  gQ (gdW t93 true) h33 ((lnL t95).bind fun t96 =>
  some (t96, h33)) fun t96_34 h35 =>
  gQ (gdW t93 true) h35 ((eqP (some (.int .i64)) none false .eql t96_34 (AV.int .i64 1)).bind fun t97 =>
  some (t97, h35)) fun t97_36 h37 =>
  (pickP t93 t97_36 (AV.bool false)).bind fun t98 =>
  gQ (gdW t98 true) h37 (some (t66, h37)) fun t100 h38 =>
  gQ (gdW t98 true) h38 ((iaS 3 t100 (AV.int .i64 0)).bind fun t101 =>
  some (t101, h38)) fun t101_39 h40 =>
  gQ (gdW t98 true) h40 ((ldA 3 h40 t101_39).bind fun t102 =>
  some (t102, h40)) fun t102_41 h42 =>
  gQ (gdW t98 true) h42 ((bldS [(0, 1), (1, 1), (2, 1)] [(AV.int .i64 0), (AV.int .i64 0), (AV.int .i64 0)] [(0, (AV.int .i64 (-1))), (1, (AV.int .i64 2)), (2, (AV.int .i64 (-1)))]).bind fun t103 =>
  some (t103, h42)) fun t103_43 h44 =>
  gQ (gdW t98 true) h44 ((eqP (some (.struct #[])) (some [(0, (.int .i64)), (1, (.int .i64)), (2, (.int .i64))]) false .eql t102_41 t103_43).bind fun t104 =>
  some (t104, h44)) fun t104_45 h46 =>
  (pickP t98 t104_45 (AV.bool false)).bind fun t105 =>
  gQ (gdW t105 true) h46 (some (t69, h46)) fun t107 h47 =>
  gQ (gdW t105 true) h47 ((lnL t107).bind fun t108 =>
  some (t108, h47)) fun t108_48 h49 =>
  gQ (gdW t105 true) h49 ((eqP (some (.int .i64)) none false .eql t108_48 (AV.int .i64 2)).bind fun t109 =>
  some (t109, h49)) fun t109_50 h51 =>
  (pickP t105 t109_50 (AV.bool false)).bind fun t110 =>
  gQ (gdW t110 true) h51 (some (t72, h51)) fun t112 h52 =>
  gQ (gdW t110 true) h52 ((eqP (some (.pointer 0)) none false .neq t112 (AV.ptr none)).bind fun t113 =>
  some (t113, h52)) fun t113_53 h54 =>
  (pickP t110 t113_53 (AV.bool false)).bind fun t114 =>
  gQ (gdW t114 true) h54 (some (t22, h54)) fun t116 h55 =>
  gQ (gdW t114 true) h55 (some (t48, h55)) fun t117 h56 =>
  gQ (gdW t114 true) h56 (cl (k_sched_Table_Stack t116 t117 h56) fun t118 h57 =>
  some (t118, h57)) fun t118_58 h59 =>
  gQ (gdW t114 true) h59 ((eqP (some (.pointer 0)) none false .eql t118_58 (AV.ptr none)).bind fun t119 =>
  some (t119, h59)) fun t119_60 h61 =>
  (pickP t114 t119_60 (AV.bool false)).bind fun t120 =>
  gQ (gdW t120 true) h61 (some (t22, h61)) fun t122 h62 =>
  gQ (gdW t120 true) h62 (cl (k_sched_Table_IDs t122 h62) fun t123 h63 =>
  some (t123, h63)) fun t123_64 h65 =>
  gQ (gdW t120 true) h65 (mk Heap.new (bsP 1 [(AV.int .i64 0)] 1 [(0, (AV.int .i64 2))]) h65 fun t124 h66 =>
  some (t124, h66)) fun t124_67 h68 =>
  gQ (gdW t120 true) h68 (cl (k_ref17_Ints t123_64 t124_67 h68) fun t125 h69 =>
  some (t125, h69)) fun t125_70 h71 =>
  (pickP t120 t125_70 (AV.bool false)).bind fun t126 =>
  gQ (gdW t126 true) h71 (some (t22, h71)) fun t128 h72 =>
  gQ (gdW t126 true) h72 (some (t19, h72)) fun t129 h73 =>
  gQ (gdW t126 true) h73 (cl (k_sched_Table_Enabled t128 t129 h73) fun t130 h74 =>
  some (t130, h74)) fun t130_75 h76 =>
  gQ (gdW t126 true) h76 ((lnL t130_75).bind fun t131 =>
  some (t131, h76)) fun t131_77 h78 =>
  gQ (gdW t126 true) h78 ((eqP (some (.int .i64)) none false .eql t131_77 (AV.int .i64 0)).bind fun t132 =>
  some (t132, h78)) fun t132_79 h80 =>
  (pickP t126 t132_79 (AV.bool false)).bind fun t133 =>
  some (t133, h80))
def T110 : Tab := (15, p0 k_law16_awake) :: T109
/- 5: gantline/gantlinelaw16.SchedKnown -/
def k_law16_SchedKnown_b0 (t14 : AV) (q6 : AV) (h5 : Heap) : OutV :=
  (binP .lss q6 (AV.int .i64 64)).bind fun t26 =>
  condE t26 (
  mk Heap.new (msP 1 8 [(AV.int .i64 0)] (AV.int .i64 3) (AV.int .i64 3)) h5 fun t30 h6 =>
  cl (k_sched_Table_Add t14 (AV.int .i64 0) t30 h6) fun t31 h7 =>
  (binP .add q6 (AV.int .i64 1)).bind fun t28 =>
  some (.normal, [t28], h7)) (
  some ((.exit 0), [q6], h5))
def k_law16_SchedKnown_L0 (t14 : AV) (q6 : AV) (h5 : Heap) : OutV := loopN (fun us g => k_law16_SchedKnown_b0 t14 (us.getD 0 .bot) g) [q6] h5
def k_law16_SchedKnown (h : Heap) : Option (AV × Heap) :=
  cl (k_law16_awake h) fun t11 h0 =>
  (unA .not t11).bind fun t12 =>
  condE t12 (
  some ((AV.bool false), h0)) (
  cl (k_law16_module h0) fun t13 h1 =>
  cl (k_sched_New t13 h1) fun t14 h2 =>
  cl (k_sched_Table_Add t14 (AV.int .i64 9) (AV.sl none 0 (.ex 0)) h2) fun t17 h3 =>
  (extractV 0 t17).bind fun t18 =>
  (extractV 1 t17).bind fun t19 =>
  cl (k_sched_Table_Add t14 (AV.int .i64 0) (AV.sl none 0 (.ex 0)) h3) fun t22 h4 =>
  (extractV 0 t22).bind fun t23 =>
  (extractV 1 t22).bind fun t24 =>
  lp (k_law16_SchedKnown_L0 t14 (AV.int .i64 0) h4) fun e vs h8 =>
  thenK (if e = .exit 0 then .normal else e) (
  mk Heap.new (msP 1 8 [(AV.int .i64 0)] (AV.int .i64 3) (AV.int .i64 3)) h8 fun t34 h9 =>
  cl (k_sched_Table_Add t14 (AV.int .i64 0) t34 h9) fun t35 h10 =>
  (extractV 0 t35).bind fun t36 =>
  (extractV 1 t35).bind fun t37 =>
  cl (k_sched_Table_Drop t14 (AV.int .i64 3) h10) fun t39 h11 =>
  mk Heap.new (msP 1 8 [(AV.int .i64 0)] (AV.int .i64 3) (AV.int .i64 3)) h11 fun t42 h12 =>
  cl (k_sched_Table_Add t14 (AV.int .i64 0) t42 h12) fun t43 h13 =>
  (extractV 0 t43).bind fun t44 =>
  (extractV 1 t43).bind fun t45 =>
  (eqP (some (.int .i64)) none false .eql t19 (AV.int .i64 1)).bind fun t47 =>
  gQ (gdW t47 true) h13 (some (t24, h13)) fun t49 h14 =>
  gQ (gdW t47 true) h14 ((eqP (some (.int .i64)) none false .eql t49 (AV.int .i64 1)).bind fun t50 =>
  some (t50, h14)) fun t50_15 h16 =>
  (pickP t47 t50_15 (AV.bool false)).bind fun t51 =>
  gQ (gdW t51 true) h16 (some (t37, h16)) fun t53 h17 =>
  gQ (gdW t51 true) h17 ((eqP (some (.int .i64)) none false .eql t53 (AV.int .i64 2)).bind fun t54 =>
  some (t54, h17)) fun t54_18 h19 =>
  (pickP t51 t54_18 (AV.bool false)).bind fun t55 =>
  gQ (gdW t55 true) h19 (some (t45, h19)) fun t57 h20 =>
  gQ (gdW t55 true) h20 ((eqP (some (.int .i64)) none false .eql t57 (AV.int .i64 0)).bind fun t58 =>
  some (t58, h20)) fun t58_21 h22 =>
  (pickP t55 t58_21 (AV.bool false)).bind fun t59 =>
  gQ (gdW t59 true) h22 (some (t44, h22)) fun t61 h23 =>
  gQ (gdW t59 true) h23 ((eqP (some (.int .i64)) none false .eql t61 (AV.int .i64 65)).bind fun t62 =>
  some (t62, h23)) fun t62_24 h25 =>
  (pickP t59 t62_24 (AV.bool false)).bind fun t63 =>
  gQ (gdW t63 true) h25 (some (t14, h25)) fun t65 h26 =>
  gQ (gdW t63 true) h26 (cl (k_sched_Table_IDs t65 h26) fun t66 h27 =>
  some (t66, h27)) fun t66_28 h29 =>
  gQ (gdW t63 true) h29 ((lnL t66_28).bind fun t67 =>
  some (t67, h29)) fun t67_30 h31 =>
  gQ (gdW t63 true) h31 ((eqP (some (.int .i64)) none false .eql t67_30 (AV.int .i64 64)).bind fun t68 =>
  some (t68, h31)) fun t68_32 h33 =>
  (pickP t63 t68_32 (AV.bool false)).bind fun t69 =>
  gQ (gdW t69 true) h33 (some (t14, h33)) fun t71 h34 =>
  gQ (gdW t69 true) h34 (cl (k_sched_Table_Stack t71 (AV.int .i64 3) h34) fun t72 h35 =>
  some (t72, h35)) fun t72_36 h37 =>
  gQ (gdW t69 true) h37 ((eqP (some (.pointer 0)) none false .eql t72_36 (AV.ptr none)).bind fun t73 =>
  some (t73, h37)) fun t73_38 h39 =>
  (pickP t69 t73_38 (AV.bool false)).bind fun t74 =>
  some (t74, h39)) (fun e_40 => endE e_40 (some ((AV.bool false), h8))))
def T111 : Tab := (5, p0 k_law16_SchedKnown) :: T110
end
end Go.Ab.F