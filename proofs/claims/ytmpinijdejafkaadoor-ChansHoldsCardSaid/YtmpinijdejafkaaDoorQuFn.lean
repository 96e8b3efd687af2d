/- PRINTED by Gen.lean: the program's functions on the abstract machine's values and heaps. -/
import Derived.Test.YtmpinijdejafkaaDoorAbS
import Derived.Test.YtmpinijdejafkaaDoorAbQ
namespace Go.Ab.F
open Go Go.Ab
set_option linter.all false
noncomputable section
def T0 : Tab := []
/- 136: (*gantline/gantlinelaw14.nobody).Stacks -/
def k_law14_nobody_Stacks (x0 : AV) (h : Heap) : Option (AV × Heap) :=
  some ((AV.sl none 0 (.ex 0)), h)
def T1 : Tab := (136, p1 k_law14_nobody_Stacks) :: T0
/- 140: (*gantline/gantlinelaw15.holder).Stacks -/
def k_law15_holder_Stacks (x0 : AV) (h : Heap) : Option (AV × Heap) :=
  some ((AV.sl none 0 (.ex 0)), h)
def T2 : Tab := (140, p1 k_law15_holder_Stacks) :: T1
/- 103: (*gantline/cycle.Cycle).Black -/
def k_cycle_Cycle_Black (x0 : AV) (x1 : AV) (h : Heap) : Option (AV × Heap) :=
  (nilV x0).bind fun t6 =>
  (faP 5 t6).bind fun t7 =>
  (ldS h t7).bind fun t8 =>
  (lkP (fdA (.int .i64)) (AV.bool false) false h t8 x1).bind fun t10 =>
  some (t10, h)
def T3 : Tab := (103, p2 k_cycle_Cycle_Black) :: T2
/- 135: (*gantline/gantlinelaw14.nobody).Stack -/
def k_law14_nobody_Stack (x0 : AV) (x1 : AV) (h : Heap) : Option (AV × Heap) :=
  some ((AV.sl none 0 (.ex 0)), h)
def T4 : Tab := (135, p2 k_law14_nobody_Stack) :: T3
/- 139: (*gantline/gantlinelaw15.holder).Stack -/
def k_law15_holder_Stack (x0 : AV) (x1 : AV) (h : Heap) : Option (AV × Heap) :=
  some ((AV.sl none 0 (.ex 0)), h)
def T5 : Tab := (139, p2 k_law15_holder_Stack) :: T4
/- 134: (*gantline/gantlinelaw14.nobody).Globals -/
def k_law14_nobody_Globals (x0 : AV) (h : Heap) : Option (AV × Heap) :=
  mk Heap.new (bsP 1 [(AV.int .i64 0)] 0 []) h fun t3 h0 =>
  (nilV x0).bind fun t5 =>
  (faP 0 t5).bind fun t6 =>
  (ldS h0 t6).bind fun t7 =>
  cl (appendA h0 1 8 t3 t7) fun t8 h1 =>
  some (t8, h1)
def T6 : Tab := (134, p1 k_law14_nobody_Globals) :: T5
/- 138: (*gantline/gantlinelaw15.holder).Globals -/
def k_law15_holder_Globals (x0 : AV) (h : Heap) : Option (AV × Heap) :=
  mk Heap.new (bsP 1 [(AV.int .i64 0)] 0 []) h fun t3 h0 =>
  (nilV x0).bind fun t5 =>
  (faP 0 t5).bind fun t6 =>
  (ldS h0 t6).bind fun t7 =>
  cl (appendA h0 1 8 t3 t7) fun t8 h1 =>
  some (t8, h1)
def T7 : Tab := (138, p1 k_law15_holder_Globals) :: T6
/- 10: gantline/gantlinelaw14.shapes -/
def k_law14_shapes (h : Heap) : Option (AV × Heap) :=
  (bldS [(0, 1), (1, 1), (2, 1)] [(AV.int .i64 0), (AV.int .i64 0), (AV.int .u64 0)] [(1, (AV.int .i64 2)), (2, (AV.int .u64 2))]).bind fun t1 =>
  (bldS [(0, 1), (1, 1), (2, 1)] [(AV.int .i64 0), (AV.int .i64 0), (AV.int .u64 0)] [(0, (AV.int .i64 1))]).bind fun t2 =>
  (bldS [(0, 1), (1, 1), (2, 1)] [(AV.int .i64 0), (AV.int .i64 0), (AV.int .u64 0)] [(0, (AV.int .i64 1)), (2, (AV.int .u64 1))]).bind fun t3 =>
  mk Heap.new (bsP 3 [(AV.int .i64 0), (AV.int .i64 0), (AV.int .u64 0)] 3 [(0, t1), (1, t2), (2, t3)]) h fun t4 h0 =>
  some (t4, h0)
def T8 : Tab := (10, p0 k_law14_shapes) :: T7
/- 66: gantline/arena.New -/
def k_arena_New_b0 (t18 : AV) (t23 : AV) (q24 : AV) (h6 : Heap) : OutV :=
  (binP .lss q24 t23).bind fun t25 =>
  condE t25 (
  (nilV t18).bind fun t28 =>
  (faP 1 t28).bind fun t29 =>
  (ldS h6 t29).bind fun t30 =>
  (iaS 3 t30 q24).bind fun t32 =>
  (faP 0 t32).bind fun t33 =>
  cl (stP 1 h6 t33 (AV.int .i64 (-1))) fun u h7 =>
  (binP .add q24 (AV.int .i64 1)).bind fun t34 =>
  some (.normal, [t34], h7)) (
  some ((.exit 0), [q24], h6))
def k_arena_New_L0 (t18 : AV) (t23 : AV) (q24 : AV) (h6 : Heap) : OutV := loopN (fun us g => k_arena_New_b0 t18 t23 (us.getD 0 .bot) g) [q24] h6
def k_arena_New (x0 : AV) (h : Heap) : Option (AV × Heap) :=
  (binP .lss x0 (AV.int .i64 8)).bind fun t7 =>
  gQ (gdW t7 false) h (some (x0, h)) fun t9 h0 =>
  gQ (gdW t7 false) h0 ((binP .gtr t9 (AV.int .i64 512)).bind fun t10 =>
  some (t10, h0)) fun t10_1 h2 =>
  (pickP t7 (AV.bool true) t10_1).bind fun t11 =>
  condE t11 (
  some (AV.tup [(AV.ptr none), (AV.int .i64 1)], h2)) (
  (binP .mul x0 (AV.int .i64 64)).bind fun t13 =>
  cl (mkAt Heap.put (msP 1 8 [(AV.int .i64 0)] t13 t13) (h2.next + 0) (hpN h2 3)) fun t14 h3 =>
  cl (mkAt Heap.put (msP 3 24 [(AV.int .i64 0), (AV.int .u64 0), (AV.int .u64 0)] x0 x0) (h2.next + 1) h3) fun t16 h4 =>
  (bldS [(0, 1), (1, 1)] [(AV.sl none 0 (.ex 0)), (AV.sl none 0 (.ex 0))] [(0, t14), (1, t16)]).bind fun t17 =>
  cl (mkAt Heap.put (bxP t17) (h2.next + 2) h4) fun t18 h5 =>
  chk [(hpN h2 3)] [] (
  (nilV t18).bind fun t20 =>
  (faP 1 t20).bind fun t21 =>
  (ldS h5 t21).bind fun t22 =>
  (lnL t22).bind fun t23 =>
  lp (k_arena_New_L0 t18 t23 (AV.int .i64 0) h5) fun e vs h8 =>
  thenK (if e = .exit 0 then .normal else e) (
  some (AV.tup [t18, (AV.int .i64 0)], h8)) (fun e_9 => endE e_9 (some (AV.tup [(AV.ptr none), (AV.int .i64 0)], h8)))))
def T9 : Tab := (66, p1 k_arena_New) :: T8
/- 67: gantline/head.New -/
def k_head_New (h : Heap) : Option (AV × Heap) :=
  mk Heap.new (some (Blk.mp [], fun i => AV.mp (some i))) h fun t1 h0 =>
  (bldS [(0, 1), (1, 1)] [(AV.sl none 0 (.ex 0)), (AV.mp none)] [(1, t1)]).bind fun t2 =>
  mk Heap.new (bxP t2) h0 fun t3 h1 =>
  some (t3, h1)
def T10 : Tab := (67, p0 k_head_New) :: T9
/- 90: (*gantline/arena.Arena).Spans -/
def k_arena_Arena_Spans (x0 : AV) (h : Heap) : Option (AV × Heap) :=
  (nilV x0).bind fun t4 =>
  (faP 1 t4).bind fun t5 =>
  (ldS h t5).bind fun t6 =>
  (lnL t6).bind fun t7 =>
  some (t7, h)
def T11 : Tab := (90, p1 k_arena_Arena_Spans) :: T10
/- 68: gantline/alloc.New -/
def k_alloc_New (x0 : AV) (h : Heap) : Option (AV × Heap) :=
  cl (k_arena_Arena_Spans x0 h) fun t5 h0 =>
  mk Heap.new (msP 1 1 [(AV.bool false)] t5 t5) h0 fun t6 h1 =>
  (bldS [(0, 1), (1, 1)] [(AV.ptr none), (AV.sl none 0 (.ex 0))] [(0, x0), (1, t6)]).bind fun t7 =>
  mk Heap.new (bxP t7) h1 fun t8 h2 =>
  some (t8, h2)
def T12 : Tab := (68, p1 k_alloc_New) :: T11
/- 91: gantline/grey.New -/
def k_grey_New (h : Heap) : Option (AV × Heap) :=
  (bldS [(0, 1)] [(AV.sl none 0 (.ex 0))] []).bind fun t1 =>
  mk Heap.new (bxP t1) h fun t2 h0 =>
  some (t2, h0)
def T13 : Tab := (91, p0 k_grey_New) :: T12
/- 69: gantline/mark.New -/
def k_mark_New (x0 : AV) (x1 : AV) (h : Heap) : Option (AV × Heap) :=
  cl (k_grey_New h) fun t7 h0 =>
  (bldS [(0, 1), (1, 1), (2, 1)] [(AV.ptr none), (AV.ptr none), (AV.ptr none)] [(0, x0), (1, x1), (2, t7)]).bind fun t8 =>
  mk Heap.new (bxP t8) h0 fun t9 h1 =>
  some (t9, h1)
def T14 : Tab := (69, p2 k_mark_New) :: T13
/- 40: gantline/cycle.New -/
def k_cycle_New (x0 : AV) (h : Heap) : Option (AV × Heap) :=
  cl (k_arena_New x0 h) fun t9 h0 =>
  (extractV 0 t9).bind fun t10 =>
  (extractV 1 t9).bind fun t11 =>
  (eqP (some (.int .i64)) none false .neq t11 (AV.int .i64 0)).bind fun t13 =>
  condE t13 (
  some (AV.tup [(AV.ptr none), t11], h0)) (
  cl (k_head_New h0) fun t15 h1 =>
  cl (k_alloc_New t10 h1) fun t19 h2 =>
  cl (k_mark_New t10 t15 h2) fun t22 h3 =>
  mk Heap.new (some (Blk.mp [], fun i => AV.mp (some i))) h3 fun t23 h4 =>
  (bldS [(0, 1), (1, 1), (2, 1), (3, 1), (4, 1), (5, 1), (6, 1), (7, 1)] [(AV.ptr none), (AV.ptr none), (AV.ptr none), (AV.ptr none), (AV.int .i64 0), (AV.mp none), (AV.int .i64 0), (AV.int .i64 0)] [(0, t10), (1, t15), (2, t19), (3, t22), (5, t23), (7, (AV.int .i64 64))]).bind fun t24 =>
  mk Heap.new (bxP t24) h4 fun t25 h5 =>
  some (AV.tup [t25, (AV.int .i64 0)], h5))
def T15 : Tab := (40, p1 k_cycle_New) :: T14
/- 41: (*gantline/cycle.Cycle).Table -/
def k_cycle_Cycle_Table (x0 : AV) (h : Heap) : Option (AV × Heap) :=
  (nilV x0).bind fun t4 =>
  (faP 1 t4).bind fun t5 =>
  (ldS h t5).bind fun t6 =>
  some (t6, h)
def T16 : Tab := (41, p1 k_cycle_Cycle_Table) :: T15
/- 47: gantline/head.Good -/
def k_head_Good_j0 (t1 : AV) (q25 : AV) (h22 : Heap) : Option (AV × Heap) :=
  condE q25 (
  (faP 1 t1).bind fun t28 =>
  (ldS h22 t28).bind fun t29 =>
  (eqP (some (.int .i64)) none false .eql t29 (AV.int .i64 0)).bind fun t30 =>
  gQ (gdW t30 true) h22 ((faP 2 t1).bind fun t32 =>
  some (t32, h22)) fun t32_23 h24 =>
  gQ (gdW t30 true) h24 ((ldS h24 t32_23).bind fun t33 =>
  some (t33, h24)) fun t33_25 h26 =>
  gQ (gdW t30 true) h26 ((binP .leq t33_25 (AV.int .u64 1)).bind fun t34 =>
  some (t34, h26)) fun t34_27 h28 =>
  (pickP t30 t34_27 (AV.bool false)).bind fun t35 =>
  some (t35, h28)) (
  some ((AV.bool false), h22))
def k_head_Good_j1 (t1 : AV) (t4 : AV) (q5 : AV) (h1 : Heap) : Option (AV × Heap) :=
  condE q5 (
  (faP 1 t1).bind fun t8 =>
  (ldS h1 t8).bind fun t9 =>
  (binP .geq t9 (AV.int .i64 0)).bind fun t10 =>
  gQ (gdW t10 true) h1 ((faP 1 t1).bind fun t12 =>
  some (t12, h1)) fun t12_2 h3 =>
  gQ (gdW t10 true) h3 ((ldS h3 t12_2).bind fun t13 =>
  some (t13, h3)) fun t13_4 h5 =>
  gQ (gdW t10 true) h5 ((binP .leq t13_4 (AV.int .i64 63)).bind fun t14 =>
  some (t14, h5)) fun t14_6 h7 =>
  (pickP t10 t14_6 (AV.bool false)).bind fun t15 =>
  gQ (gdW t15 true) h7 ((faP 2 t1).bind fun t17 =>
  some (t17, h7)) fun t17_8 h9 =>
  gQ (gdW t15 true) h9 ((ldS h9 t17_8).bind fun t18 =>
  some (t18, h9)) fun t18_10 h11 =>
  gQ (gdW t15 true) h11 ((faP 1 t1).bind fun t19 =>
  some (t19, h11)) fun t19_12 h13 =>
  gQ (gdW t15 true) h13 ((ldS h13 t19_12).bind fun t20 =>
  some (t20, h13)) fun t20_14 h15 =>
  gQ (gdW t15 true) h15 ((cvI .u64 t20_14).bind fun t21 =>
  some (t21, h15)) fun t21_16 h17 =>
  gQ (gdW t15 true) h17 ((binP .shr t18_10 t21_16).bind fun t22 =>
  some (t22, h17)) fun t22_18 h19 =>
  gQ (gdW t15 true) h19 ((eqP (some (.int .u64)) none false .eql t22_18 (AV.int .u64 0)).bind fun t23 =>
  some (t23, h19)) fun t23_20 h21 =>
  (pickP t15 t23_20 (AV.bool false)).bind fun t24 =>
  some (t24, h21)) (
  (eqP (some (.int .i64)) none false .eql t4 (AV.int .i64 1)).bind fun t26 =>
  condE t26 (
  k_head_Good_j0 t1 t26 h1) (
  (eqP (some (.int .i64)) none false .eql t4 (AV.int .i64 3)).bind fun t27 =>
  k_head_Good_j0 t1 t27 h1))
def k_head_Good (x0 : AV) (h : Heap) : Option (AV × Heap) :=
  mk Heap.new (bxP x0) h fun t1 h0 =>
  (faP 0 t1).bind fun t3 =>
  (ldS h0 t3).bind fun t4 =>
  (eqP (some (.int .i64)) none false .eql t4 (AV.int .i64 0)).bind fun t6 =>
  condE t6 (
  k_head_Good_j1 t1 t4 t6 h0) (
  (eqP (some (.int .i64)) none false .eql t4 (AV.int .i64 2)).bind fun t7 =>
  k_head_Good_j1 t1 t4 t7 h0)
def T17 : Tab := (47, p1 k_head_Good) :: T16
/- 42: (*gantline/head.Table).Number -/
def k_head_Table_Number (x0 : AV) (x1 : AV) (h : Heap) : Option (AV × Heap) :=
  mk Heap.new (bxP x1) h fun t3 h0 =>
  (ldA 3 h0 t3).bind fun t8 =>
  cl (k_head_Good t8 h0) fun t9 h1 =>
  (unA .not t9).bind fun t10 =>
  condE t10 (
  some (AV.tup [(AV.int .i64 0), (AV.int .i64 1)], h1)) (
  (nilV x0).bind fun t13 =>
  (faP 1 t13).bind fun t14 =>
  (ldS h1 t14).bind fun t15 =>
  (ldA 3 h1 t3).bind fun t16 =>
  (lkP (fdS [(0, (.int .i64)), (1, (.int .i64)), (2, (.int .u64))]) (AV.int .i64 0) true h1 t15 t16).bind fun t17 =>
  (extractV 0 t17).bind fun t18 =>
  (extractV 1 t17).bind fun t19 =>
  chk [h1] [] (
  condE t19 (
  some (AV.tup [t18, (AV.int .i64 0)], h1)) (
  (nilV x0).bind fun t23 =>
  (faP 0 t23).bind fun t24 =>
  (ldS h1 t24).bind fun t25 =>
  (lnL t25).bind fun t26 =>
  (eqP (some (.int .i64)) none false .eql t26 (AV.int .i64 65536)).bind fun t27 =>
  condE t27 (
  some (AV.tup [(AV.int .i64 0), (AV.int .i64 2)], h1)) (
  (nilV x0).bind fun t29 =>
  (faP 1 t29).bind fun t30 =>
  (ldS h1 t30).bind fun t31 =>
  (ldA 3 h1 t3).bind fun t32 =>
  (nilV x0).bind fun t34 =>
  (faP 0 t34).bind fun t35 =>
  (ldS h1 t35).bind fun t36 =>
  (lnL t36).bind fun t37 =>
  cl (muP (ptS [(0, (.int .i64)), (1, (.int .i64)), (2, (.int .u64))]) h1 t31 t32 t37) fun u h2 =>
  chk [h1, h2] [] (
  (nilV x0).bind fun t40 =>
  (faP 0 t40).bind fun t41 =>
  (ldS (hpN h2 1) t41).bind fun t42 =>
  (ldA 3 (hpN h2 1) t3).bind fun t43 =>
  cl (mkAt Heap.put (bsP 3 [(AV.int .i64 0), (AV.int .i64 0), (AV.int .u64 0)] 1 [(0, t43)]) (h2.next + 0) (hpN h2 1)) fun t44 h3 =>
  cl (appendA h3 3 24 t42 t44) fun t45 h4 =>
  (nilV x0).bind fun t46 =>
  (faP 0 t46).bind fun t47 =>
  cl (stP 1 h4 t47 t45) fun u_5 h6 =>
  chk [(hpN h2 1), h4, h6] [] (
  (nilV x0).bind fun t49 =>
  (faP 0 t49).bind fun t50 =>
  (ldS h6 t50).bind fun t51 =>
  (lnL t51).bind fun t52 =>
  (binP .sub t52 (AV.int .i64 1)).bind fun t53 =>
  some (AV.tup [t53, (AV.int .i64 0)], h6)))))))
def T18 : Tab := (42, p2 k_head_Table_Number) :: T17
/- 43: slices.Clone[[]gantline/head.Shape,gantline/head.Shape] -/
def k_slices_Clone_head_Shape_head_Shape (x0 : AV) (h : Heap) : Option (AV × Heap) :=
  (eqP (some (.slice 0)) none false .eql x0 (AV.sl none 0 (.ex 0))).bind fun t4 =>
  condE t4 (
  some ((AV.sl none 0 (.ex 0)), h)) (
  mk Heap.new (bsP 3 [(AV.int .i64 0), (AV.int .i64 0), (AV.int .u64 0)] 0 []) h fun t5 h0 =>
  cl (appendA h0 3 24 t5 x0) fun t7 h1 =>
  some (t7, h1))
def T19 : Tab := (43, p1 k_slices_Clone_head_Shape_head_Shape) :: T18
/- 11: gantline/heap.New -/
def k_heap_New_b0 (x1 : AV) (t16 : AV) (t25 : AV) (q4 : AV) (q5 : AV) (q26 : AV) (h2 : Heap) : OutV :=
  (binP .lss q26 t25).bind fun t27 =>
  condE t27 (
  (iaS 3 x1 q26).bind fun t28 =>
  (ldA 3 h2 t28).bind fun t29 =>
  mk Heap.new (some (Blk.cells true [(AV.int .i64 0), (AV.int .i64 0), (AV.int .u64 0)], fun i => AV.ptr (some (i, 0)))) h2 fun t10 h3 =>
  cl (stP 3 h3 t10 t29) fun u h4 =>
  cl (k_cycle_Cycle_Table t16 h4) fun t32 h5 =>
  clC (rdC (fun g => ldA 3 g t10) h5 0 1 []) fun t33 cs =>
  cl (k_head_Table_Number t32 t33 h5) fun t34 h6 =>
  (extractV 0 t34).bind fun t35 =>
  (extractV 1 t34).bind fun t36 =>
  chk [h4, h5, h6] cs (
  (eqP (some (.int .i64)) none false .neq t36 (AV.int .i64 0)).bind fun t38 =>
  condE t38 (
  some (.ret, [(AV.ptr none), (AV.int .i64 1), q26], h6)) (
  (binP .add q26 (AV.int .i64 1)).bind fun t39 =>
  some (.normal, [q4, q5, t39], h6)))) (
  some ((.exit 0), [q4, q5, q26], h2))
def k_heap_New_L0 (x1 : AV) (t16 : AV) (t25 : AV) (q4 : AV) (q5 : AV) (q26 : AV) (h2 : Heap) : OutV := loopN (fun us g => k_heap_New_b0 x1 t16 t25 (us.getD 0 .bot) (us.getD 1 .bot) (us.getD 2 .bot) g) [q4, q5, q26] h2
def k_heap_New (x0 : AV) (x1 : AV) (h : Heap) : Option (AV × Heap) :=
  cl (k_cycle_New x0 h) fun t15 h0 =>
  (extractV 0 t15).bind fun t16 =>
  (extractV 1 t15).bind fun t17 =>
  (eqP (some (.int .i64)) none false .neq t17 (AV.int .i64 0)).bind fun t19 =>
  condE t19 (
  some (AV.tup [(AV.ptr none), t17], h0)) (
  (bldS [(0, 1), (1, 1), (2, 1)] [(AV.ptr none), (AV.sl none 0 (.ex 0)), (AV.int .i64 0)] [(0, t16)]).bind fun t22 =>
  mk Heap.new (bxP t22) h0 fun t23 h1 =>
  (lnL x1).bind fun t25 =>
  lp (k_heap_New_L0 x1 t16 t25 (AV.ptr none) (AV.int .i64 0) (AV.int .i64 0) h1) fun e vs h7 =>
  thenK (if e = .exit 0 then .normal else e) (
  cl (k_slices_Clone_head_Shape_head_Shape x1 h7) fun t42 h8 =>
  (nilV t23).bind fun t43 =>
  (faP 1 t43).bind fun t44 =>
  cl (stP 1 h8 t44 t42) fun u_9 h10 =>
  some (AV.tup [t23, (AV.int .i64 0)], h10)) (fun e_11 => endE e_11 (some (AV.tup [(vs.getD 0 .bot), (vs.getD 1 .bot)], h7))))
def T20 : Tab := (11, p2 k_heap_New) :: T19
/- 23: (*gantline/heap.Heap).Cycle -/
def k_heap_Heap_Cycle (x0 : AV) (h : Heap) : Option (AV × Heap) :=
  (nilV x0).bind fun t4 =>
  (faP 0 t4).bind fun t5 =>
  (ldS h t5).bind fun t6 =>
  some (t6, h)
def T21 : Tab := (23, p1 k_heap_Heap_Cycle) :: T20
/- 99: gantline/geom.Words -/
def k_geom_Words (x0 : AV) (h : Heap) : Option (AV × Heap) :=
  (binP .lss x0 (AV.int .i64 0)).bind fun t4 =>
  gQ (gdW t4 false) h (some (x0, h)) fun t6 h0 =>
  gQ (gdW t4 false) h0 ((binP .geq t6 (AV.int .i64 6)).bind fun t7 =>
  some (t7, h0)) fun t7_1 h2 =>
  (pickP t4 (AV.bool true) t7_1).bind fun t8 =>
  condE t8 (
  some ((AV.int .i64 0), h2)) (
  (cvI .u64 x0).bind fun t10 =>
  (binP .shl (AV.int .i64 2) t10).bind fun t11 =>
  some (t11, h2))
def T22 : Tab := (99, p1 k_geom_Words) :: T21
/- 92: gantline/geom.Class -/
def k_geom_Class_b0 (x0 : AV) (q2 : AV) (q4 : AV) (h0 : Heap) : OutV :=
  (binP .lss q4 (AV.int .i64 6)).bind fun t5 =>
  condE t5 (
  (binP .geq x0 (AV.int .i64 1)).bind fun t8 =>
  gQ (gdW t8 true) h0 (some (x0, h0)) fun t10 h1 =>
  gQ (gdW t8 true) h1 (some (q4, h1)) fun t11 h2 =>
  gQ (gdW t8 true) h2 (cl (k_geom_Words t11 h2) fun t12 h3 =>
  some (t12, h3)) fun t12_4 h5 =>
  gQ (gdW t8 true) h5 ((binP .leq t10 t12_4).bind fun t13 =>
  some (t13, h5)) fun t13_6 h7 =>
  (pickP t8 t13_6 (AV.bool false)).bind fun t14 =>
  condE t14 (
  some (.ret, [q4, q4], h7)) (
  (binP .add q4 (AV.int .i64 1)).bind fun t16 =>
  some (.normal, [q2, t16], h7))) (
  some ((.exit 0), [q2, q4], h0))
def k_geom_Class_L0 (x0 : AV) (q2 : AV) (q4 : AV) (h0 : Heap) : OutV := loopN (fun us g => k_geom_Class_b0 x0 (us.getD 0 .bot) (us.getD 1 .bot) g) [q2, q4] h0
def k_geom_Class (x0 : AV) (h : Heap) : Option (AV × Heap) :=
  lp (k_geom_Class_L0 x0 (AV.int .i64 0) (AV.int .i64 0) h) fun e vs h8 =>
  thenK (if e = .exit 0 then .normal else e) (
  some ((AV.int .i64 (-1)), h8)) (fun e_9 => endE e_9 (some ((vs.getD 0 .bot), h8)))
def T23 : Tab := (92, p1 k_geom_Class) :: T22
/- 86: (*gantline/arena.Arena).has -/
def k_arena_Arena_has (x0 : AV) (x1 : AV) (h : Heap) : Option (AV × Heap) :=
  (binP .geq x1 (AV.int .i64 1)).bind fun t6 =>
  gQ (gdW t6 true) h (some (x1, h)) fun t8 h0 =>
  gQ (gdW t6 true) h0 (some (x0, h0)) fun t9 h1 =>
  gQ (gdW t6 true) h1 ((nilV t9).bind fun t10 =>
  some (t10, h1)) fun t10_2 h3 =>
  gQ (gdW t6 true) h3 ((faP 1 t10_2).bind fun t11 =>
  some (t11, h3)) fun t11_4 h5 =>
  gQ (gdW t6 true) h5 ((ldS h5 t11_4).bind fun t12 =>
  some (t12, h5)) fun t12_6 h7 =>
  gQ (gdW t6 true) h7 ((lnL t12_6).bind fun t13 =>
  some (t13, h7)) fun t13_8 h9 =>
  gQ (gdW t6 true) h9 ((binP .lss t8 t13_8).bind fun t14 =>
  some (t14, h9)) fun t14_10 h11 =>
  (pickP t6 t14_10 (AV.bool false)).bind fun t15 =>
  some (t15, h11)
def T24 : Tab := (86, p2 k_arena_Arena_has) :: T23
/- 63: (*gantline/arena.Arena).Class -/
def k_arena_Arena_Class (x0 : AV) (x1 : AV) (h : Heap) : Option (AV × Heap) :=
  cl (k_arena_Arena_has x0 x1 h) fun t7 h0 =>
  (unA .not t7).bind fun t8 =>
  condE t8 (
  some ((AV.int .i64 (-1)), h0)) (
  (nilV x0).bind fun t10 =>
  (faP 1 t10).bind fun t11 =>
  (ldS h0 t11).bind fun t12 =>
  (iaS 3 t12 x1).bind fun t14 =>
  (faP 0 t14).bind fun t15 =>
  (ldS h0 t15).bind fun t16 =>
  some (t16, h0))
def T25 : Tab := (63, p2 k_arena_Arena_Class) :: T24
/- 116: math/bits.OnesCount64 -/
def k_mbits_OnesCount64 (x0 : AV) (h : Heap) : Option (AV × Heap) :=
  (binP .shr x0 (AV.int .u64 1)).bind fun t4 =>
  (binP .and t4 (AV.int .u64 6148914691236517205)).bind fun t5 =>
  (binP .and x0 (AV.int .u64 6148914691236517205)).bind fun t7 =>
  (binP .add t5 t7).bind fun t8 =>
  (binP .shr t8 (AV.int .u64 2)).bind fun t10 =>
  (binP .and t10 (AV.int .u64 3689348814741910323)).bind fun t11 =>
  (binP .and t8 (AV.int .u64 3689348814741910323)).bind fun t13 =>
  (binP .add t11 t13).bind fun t14 =>
  (binP .shr t14 (AV.int .u64 4)).bind fun t16 =>
  (binP .add t16 t14).bind fun t18 =>
  (binP .and t18 (AV.int .u64 1085102592571150095)).bind fun t19 =>
  (binP .shr t19 (AV.int .u64 8)).bind fun t22 =>
  (binP .add t19 t22).bind fun t23 =>
  (binP .shr t23 (AV.int .u64 16)).bind fun t26 =>
  (binP .add t23 t26).bind fun t27 =>
  (binP .shr t27 (AV.int .u64 32)).bind fun t30 =>
  (binP .add t27 t30).bind fun t31 =>
  (cvI .i64 t31).bind fun t33 =>
  (binP .and t33 (AV.int .i64 127)).bind fun t34 =>
  some (t34, h)
def T26 : Tab := (116, p1 k_mbits_OnesCount64) :: T25
/- 108: gantline/bits.Ones -/
def k_bits_Ones (x0 : AV) (h : Heap) : Option (AV × Heap) :=
  cl (k_mbits_OnesCount64 x0 h) fun t4 h0 =>
  some (t4, h0)
def T27 : Tab := (108, p1 k_bits_Ones) :: T26
/- 109: (*gantline/arena.Arena).Sweep -/
def k_arena_Arena_Sweep (x0 : AV) (x1 : AV) (h : Heap) : Option (AV × Heap) :=
  cl (k_arena_Arena_Class x0 x1 h) fun t9 h0 =>
  (eqP (some (.int .i64)) none false .eql t9 (AV.int .i64 (-1))).bind fun t10 =>
  condE t10 (
  some ((AV.int .i64 0), h0)) (
  (nilV x0).bind fun t12 =>
  (faP 1 t12).bind fun t13 =>
  (ldS h0 t13).bind fun t14 =>
  (iaS 3 t14 x1).bind fun t16 =>
  (nilV t16).bind fun t18 =>
  (faP 1 t18).bind fun t19 =>
  (ldS h0 t19).bind fun t20 =>
  (nilV t16).bind fun t22 =>
  (faP 2 t22).bind fun t23 =>
  (ldS h0 t23).bind fun t24 =>
  (binP .andNot t20 t24).bind fun t25 =>
  cl (k_bits_Ones t25 h0) fun t26 h1 =>
  chk [h0, h1] [] (
  (nilV t16).bind fun t28 =>
  (faP 1 t28).bind fun t29 =>
  (ldS h1 t29).bind fun t30 =>
  (nilV t16).bind fun t32 =>
  (faP 2 t32).bind fun t33 =>
  (ldS h1 t33).bind fun t34 =>
  (binP .and t30 t34).bind fun t35 =>
  (nilV t16).bind fun t36 =>
  (faP 1 t36).bind fun t37 =>
  cl (stP 1 h1 t37 t35) fun u h2 =>
  chk [h1, h2] [] (
  (nilV t16).bind fun t39 =>
  (faP 1 t39).bind fun t40 =>
  (ldS h2 t40).bind fun t41 =>
  (eqP (some (.int .u64)) none false .eql t41 (AV.int .u64 0)).bind fun t42 =>
  condE t42 (
  (bldS [(0, 1), (1, 1), (2, 1)] [(AV.int .i64 0), (AV.int .u64 0), (AV.int .u64 0)] [(0, (AV.int .i64 (-1)))]).bind fun t44 =>
  (nilV t16).bind fun t45 =>
  cl (stP 3 h2 t45 t44) fun u_4 h5 =>
  some (t26, h5)) (
  some (t26, h2)))))
def T28 : Tab := (109, p2 k_arena_Arena_Sweep) :: T27
/- 93: (*gantline/alloc.Alloc).sweep -/
def k_alloc_Alloc_sweep (x0 : AV) (x1 : AV) (h : Heap) : Option (AV × Heap) :=
  (nilV x0).bind fun t5 =>
  (faP 0 t5).bind fun t6 =>
  (ldS h t6).bind fun t7 =>
  cl (k_arena_Arena_Sweep t7 x1 h) fun t9 h0 =>
  (nilV x0).bind fun t11 =>
  (faP 1 t11).bind fun t12 =>
  (ldS h0 t12).bind fun t13 =>
  (iaS 1 t13 x1).bind fun t15 =>
  cl (stP 1 h0 t15 (AV.bool false)) fun u h1 =>
  some (AV.tup [], h1)
def T29 : Tab := (93, p2 k_alloc_Alloc_sweep) :: T28
/- 36: (*gantline/arena.Arena).Taken -/
def k_arena_Arena_Taken (x0 : AV) (x1 : AV) (h : Heap) : Option (AV × Heap) :=
  cl (k_arena_Arena_Class x0 x1 h) fun t7 h0 =>
  (eqP (some (.int .i64)) none false .eql t7 (AV.int .i64 (-1))).bind fun t8 =>
  condE t8 (
  some ((AV.int .u64 0), h0)) (
  (nilV x0).bind fun t10 =>
  (faP 1 t10).bind fun t11 =>
  (ldS h0 t11).bind fun t12 =>
  (iaS 3 t12 x1).bind fun t14 =>
  (faP 1 t14).bind fun t15 =>
  (ldS h0 t15).bind fun t16 =>
  some (t16, h0))
def T30 : Tab := (36, p2 k_arena_Arena_Taken) :: T29
/- 110: gantline/geom.Places -/
def k_geom_Places (x0 : AV) (h : Heap) : Option (AV × Heap) :=
  cl (k_geom_Words x0 h) fun t4 h0 =>
  (eqP (some (.int .i64)) none false .eql t4 (AV.int .i64 0)).bind fun t5 =>
  condE t5 (
  some ((AV.int .i64 0), h0)) (
  cl (k_geom_Words x0 h0) fun t7 h1 =>
  (binP .quo (AV.int .i64 64) t7).bind fun t8 =>
  some (t8, h1))
def T31 : Tab := (110, p1 k_geom_Places) :: T30
/- 97: gantline/bits.within -/
def k_bits_within (x0 : AV) (x1 : AV) (h : Heap) : Option (AV × Heap) :=
  (binP .geq x0 (AV.int .i64 0)).bind fun t6 =>
  gQ (gdW t6 true) h (some (x1, h)) fun t8 h0 =>
  gQ (gdW t6 true) h0 ((binP .geq t8 (AV.int .i64 0)).bind fun t9 =>
  some (t9, h0)) fun t9_1 h2 =>
  (pickP t6 t9_1 (AV.bool false)).bind fun t10 =>
  gQ (gdW t10 true) h2 (some (x1, h2)) fun t12 h3 =>
  gQ (gdW t10 true) h3 ((binP .leq t12 (AV.int .i64 64)).bind fun t13 =>
  some (t13, h3)) fun t13_4 h5 =>
  (pickP t10 t13_4 (AV.bool false)).bind fun t14 =>
  gQ (gdW t14 true) h5 (some (x0, h5)) fun t16 h6 =>
  gQ (gdW t14 true) h6 (some (x1, h6)) fun t17 h7 =>
  gQ (gdW t14 true) h7 ((binP .sub (AV.int .i64 64) t17).bind fun t18 =>
  some (t18, h7)) fun t18_8 h9 =>
  gQ (gdW t14 true) h9 ((binP .leq t16 t18_8).bind fun t19 =>
  some (t19, h9)) fun t19_10 h11 =>
  (pickP t14 t19_10 (AV.bool false)).bind fun t20 =>
  some (t20, h11)
def T32 : Tab := (97, p2 k_bits_within) :: T31
/- 98: gantline/bits.mask -/
def k_bits_mask (x0 : AV) (h : Heap) : Option (AV × Heap) :=
  (cvI .u64 x0).bind fun t4 =>
  (binP .shl (AV.int .u64 1) t4).bind fun t5 =>
  (binP .sub t5 (AV.int .u64 1)).bind fun t6 =>
  some (t6, h)
def T33 : Tab := (98, p1 k_bits_mask) :: T32
/- 74: gantline/bits.With -/
def k_bits_With (x0 : AV) (x1 : AV) (x2 : AV) (x3 : AV) (h : Heap) : Option (AV × Heap) :=
  cl (k_bits_within x1 x2 h) fun t11 h0 =>
  (unA .not t11).bind fun t12 =>
  condE t12 (
  some (x0, h0)) (
  cl (k_bits_mask x2 h0) fun t16 h1 =>
  (cvI .u64 x1).bind fun t18 =>
  (binP .shl t16 t18).bind fun t19 =>
  (binP .andNot x0 t19).bind fun t20 =>
  cl (k_bits_mask x2 h1) fun t23 h2 =>
  (binP .and x3 t23).bind fun t24 =>
  (cvI .u64 x1).bind fun t26 =>
  (binP .shl t24 t26).bind fun t27 =>
  (binP .or t20 t27).bind fun t28 =>
  some (t28, h2))
def T34 : Tab := (74, p4 k_bits_With) :: T33
/- 94: gantline/geom.Full -/
def k_geom_Full (x0 : AV) (h : Heap) : Option (AV × Heap) :=
  cl (k_geom_Places x0 h) fun t4 h0 =>
  cl (k_bits_With (AV.int .u64 0) (AV.int .i64 0) t4 (AV.int .u64 18446744073709551615) h0) fun t5 h1 =>
  some (t5, h1)
def T35 : Tab := (94, p1 k_geom_Full) :: T34
/- 117: math/bits.TrailingZeros64 -/
def k_mbits_TrailingZeros64 (x0 : AV) (h : Heap) : Option (AV × Heap) :=
  (eqP (some (.int .u64)) none false .eql x0 (AV.int .u64 0)).bind fun t4 =>
  condE t4 (
  some ((AV.int .i64 64), h)) (
  (unA .neg x0).bind fun t7 =>
  (binP .and x0 t7).bind fun t8 =>
  (binP .mul t8 (AV.int .u64 285870213051353865)).bind fun t9 =>
  (binP .shr t9 (AV.int .u64 58)).bind fun t10 =>
  (iaA 64 1 (AV.ptr (some (0, 0))) t10).bind fun t11 =>
  (ldS h t11).bind fun t12 =>
  (cvI .i64 t12).bind fun t13 =>
  some (t13, h))
def T36 : Tab := (117, p1 k_mbits_TrailingZeros64) :: T35
/- 111: gantline/bits.First -/
def k_bits_First (x0 : AV) (h : Heap) : Option (AV × Heap) :=
  (unA .xor x0).bind fun t4 =>
  cl (k_mbits_TrailingZeros64 t4 h) fun t5 h0 =>
  some (t5, h0)
def T37 : Tab := (111, p1 k_bits_First) :: T36
/- 112: gantline/geom.Addr -/
def k_geom_Addr (x0 : AV) (x1 : AV) (x2 : AV) (h : Heap) : Option (AV × Heap) :=
  (binP .lss x0 (AV.int .i64 1)).bind fun t8 =>
  gQ (gdW t8 false) h (some (x0, h)) fun t10 h0 =>
  gQ (gdW t8 false) h0 ((binP .geq t10 (AV.int .i64 512)).bind fun t11 =>
  some (t11, h0)) fun t11_1 h2 =>
  (pickP t8 (AV.bool true) t11_1).bind fun t12 =>
  gQ (gdW t12 false) h2 (some (x1, h2)) fun t14 h3 =>
  gQ (gdW t12 false) h3 ((binP .lss t14 (AV.int .i64 0)).bind fun t15 =>
  some (t15, h3)) fun t15_4 h5 =>
  (pickP t12 (AV.bool true) t15_4).bind fun t16 =>
  gQ (gdW t16 false) h5 (some (x1, h5)) fun t18 h6 =>
  gQ (gdW t16 false) h6 (some (x2, h6)) fun t19 h7 =>
  gQ (gdW t16 false) h7 (cl (k_geom_Places t19 h7) fun t20 h8 =>
  some (t20, h8)) fun t20_9 h10 =>
  gQ (gdW t16 false) h10 ((binP .geq t18 t20_9).bind fun t21 =>
  some (t21, h10)) fun t21_11 h12 =>
  (pickP t16 (AV.bool true) t21_11).bind fun t22 =>
  condE t22 (
  some ((AV.int .i64 0), h12)) (
  (binP .mul x0 (AV.int .i64 64)).bind fun t24 =>
  cl (k_geom_Words x2 h12) fun t27 h13 =>
  (binP .mul x1 t27).bind fun t28 =>
  (binP .add t24 t28).bind fun t29 =>
  some (t29, h13))
def T38 : Tab := (112, p3 k_geom_Addr) :: T37
/- 95: (*gantline/arena.Arena).Take -/
def k_arena_Arena_Take (x0 : AV) (x1 : AV) (h : Heap) : Option (AV × Heap) :=
  cl (k_arena_Arena_Class x0 x1 h) fun t12 h0 =>
  (eqP (some (.int .i64)) none false .eql t12 (AV.int .i64 (-1))).bind fun t14 =>
  condE t14 (
  some (AV.tup [(AV.int .i64 0), (AV.int .i64 4)], h0)) (
  (nilV x0).bind fun t16 =>
  (faP 1 t16).bind fun t17 =>
  (ldS h0 t17).bind fun t18 =>
  (iaS 3 t18 x1).bind fun t20 =>
  (nilV t20).bind fun t22 =>
  (faP 1 t22).bind fun t23 =>
  (ldS h0 t23).bind fun t24 =>
  cl (k_bits_First t24 h0) fun t25 h1 =>
  cl (k_geom_Places t12 h1) fun t28 h2 =>
  (binP .geq t25 t28).bind fun t29 =>
  condE t29 (
  some (AV.tup [(AV.int .i64 0), (AV.int .i64 5)], h2)) (
  (nilV t20).bind fun t31 =>
  (faP 1 t31).bind fun t32 =>
  (ldS h2 t32).bind fun t33 =>
  (cvI .u64 t25).bind fun t35 =>
  (binP .shl (AV.int .u64 1) t35).bind fun t36 =>
  (binP .or t33 t36).bind fun t37 =>
  (nilV t20).bind fun t38 =>
  (faP 1 t38).bind fun t39 =>
  cl (stP 1 h2 t39 t37) fun u h3 =>
  (nilV t20).bind fun t41 =>
  (faP 2 t41).bind fun t42 =>
  (ldS h3 t42).bind fun t43 =>
  (cvI .u64 t25).bind fun t45 =>
  (binP .shl (AV.int .u64 1) t45).bind fun t46 =>
  (binP .andNot t43 t46).bind fun t47 =>
  (nilV t20).bind fun t48 =>
  (faP 2 t48).bind fun t49 =>
  cl (stP 1 h3 t49 t47) fun u_4 h5 =>
  cl (k_geom_Addr x1 t25 t12 h5) fun t53 h6 =>
  (nilV x0).bind fun t55 =>
  (faP 0 t55).bind fun t56 =>
  clC (rdC (fun g => ldS g t56) h6 0 1 []) fun t57 cs =>
  cl (k_geom_Words t12 h6) fun t61 h7 =>
  (binP .add t53 t61).bind fun t62 =>
  (slcP 1 t57 (some t53) (some t62) none).bind fun t63 =>
  cl (clL 1 [(AV.int .i64 0)] h7 t63) fun u_8 h9 =>
  chk [h6, h7, h9] cs (
  some (AV.tup [t53, (AV.int .i64 0)], h9))))
def T39 : Tab := (95, p2 k_arena_Arena_Take) :: T38
/- 113: (*gantline/arena.Arena).Set -/
def k_arena_Arena_Set (x0 : AV) (x1 : AV) (x2 : AV) (h : Heap) : Option (AV × Heap) :=
  cl (k_arena_Arena_has x0 x1 h) fun t10 h0 =>
  (unA .not t10).bind fun t11 =>
  gQ (gdW t11 false) h0 (some (x2, h0)) fun t13 h1 =>
  gQ (gdW t11 false) h1 (cl (k_geom_Words t13 h1) fun t14 h2 =>
  some (t14, h2)) fun t14_3 h4 =>
  gQ (gdW t11 false) h4 ((eqP (some (.int .i64)) none false .eql t14_3 (AV.int .i64 0)).bind fun t15 =>
  some (t15, h4)) fun t15_5 h6 =>
  (pickP t11 (AV.bool true) t15_5).bind fun t16 =>
  condE t16 (
  some ((AV.int .i64 1), h6)) (
  (nilV x0).bind fun t19 =>
  (faP 1 t19).bind fun t20 =>
  (ldS h6 t20).bind fun t21 =>
  (iaS 3 t21 x1).bind fun t23 =>
  (faP 0 t23).bind fun t24 =>
  (ldS h6 t24).bind fun t25 =>
  (eqP (some (.int .i64)) none false .neq t25 (AV.int .i64 (-1))).bind fun t26 =>
  condE t26 (
  some ((AV.int .i64 5), h6)) (
  (nilV x0).bind fun t28 =>
  (faP 1 t28).bind fun t29 =>
  (ldS h6 t29).bind fun t30 =>
  (bldS [(0, 1), (1, 1), (2, 1)] [(AV.int .i64 0), (AV.int .u64 0), (AV.int .u64 0)] [(0, x2)]).bind fun t33 =>
  (iaS 3 t30 x1).bind fun t34 =>
  cl (stP 3 h6 t34 t33) fun u h7 =>
  some ((AV.int .i64 0), h7)))
def T40 : Tab := (113, p3 k_arena_Arena_Set) :: T39
/- 96: (*gantline/alloc.Alloc).begin -/
def k_alloc_Alloc_begin (x0 : AV) (x1 : AV) (x2 : AV) (h : Heap) : Option (AV × Heap) :=
  (nilV x0).bind fun t9 =>
  (faP 1 t9).bind fun t10 =>
  (ldS h t10).bind fun t11 =>
  (iaS 1 t11 x1).bind fun t13 =>
  cl (stP 1 h t13 (AV.bool false)) fun u h0 =>
  (nilV x0).bind fun t15 =>
  (faP 0 t15).bind fun t16 =>
  (ldS h0 t16).bind fun t17 =>
  cl (k_arena_Arena_Set t17 x1 x2 h0) fun t20 h1 =>
  (nilV x0).bind fun t22 =>
  (faP 0 t22).bind fun t23 =>
  (ldS h1 t23).bind fun t24 =>
  cl (k_arena_Arena_Take t24 x1 h1) fun t26 h2 =>
  (extractV 0 t26).bind fun t27 =>
  (extractV 1 t26).bind fun t28 =>
  some (AV.tup [t27, t28], h2)
def T41 : Tab := (96, p3 k_alloc_Alloc_begin) :: T40
/- 70: (*gantline/alloc.Alloc).Take -/
def k_alloc_Alloc_Take_j0 (x0 : AV) (t12 : AV) (q4 : AV) (q5 : AV) (q20 : AV) (h10 : Heap) : OutV :=
  (nilV x0).bind fun t42 =>
  (faP 0 t42).bind fun t43 =>
  (ldS h10 t43).bind fun t44 =>
  cl (k_arena_Arena_Class t44 q20 h10) fun t46 h11 =>
  (eqP (some (.int .i64)) none false .eql t46 t12).bind fun t48 =>
  gQ (gdW t48 true) h11 (some (x0, h11)) fun t50 h12 =>
  gQ (gdW t48 true) h12 ((nilV t50).bind fun t51 =>
  some (t51, h12)) fun t51_13 h14 =>
  gQ (gdW t48 true) h14 ((faP 0 t51_13).bind fun t52 =>
  some (t52, h14)) fun t52_15 h16 =>
  gQ (gdW t48 true) h16 ((ldS h16 t52_15).bind fun t53 =>
  some (t53, h16)) fun t53_17 h18 =>
  gQ (gdW t48 true) h18 (some (q20, h18)) fun t54 h19 =>
  gQ (gdW t48 true) h19 (cl (k_arena_Arena_Taken t53_17 t54 h19) fun t55 h20 =>
  some (t55, h20)) fun t55_21 h22 =>
  gQ (gdW t48 true) h22 (some (t12, h22)) fun t56 h23 =>
  gQ (gdW t48 true) h23 (cl (k_geom_Full t56 h23) fun t57 h24 =>
  some (t57, h24)) fun t57_25 h26 =>
  gQ (gdW t48 true) h26 ((eqP (some (.int .u64)) none false .neq t55_21 t57_25).bind fun t58 =>
  some (t58, h26)) fun t58_27 h28 =>
  (pickP t48 t58_27 (AV.bool false)).bind fun t59 =>
  condE t59 (
  (nilV x0).bind fun t61 =>
  (faP 0 t61).bind fun t62 =>
  (ldS h28 t62).bind fun t63 =>
  cl (k_arena_Arena_Take t63 q20 h28) fun t65 h29 =>
  (extractV 0 t65).bind fun t66 =>
  (extractV 1 t65).bind fun t67 =>
  some (.ret, [t66, t67, q20], h29)) (
  (binP .add q20 (AV.int .i64 1)).bind fun t68_30 =>
  some (.normal, [q4, q5, t68_30], h28))
def k_alloc_Alloc_Take_b0 (x0 : AV) (t12 : AV) (t19 : AV) (q4 : AV) (q5 : AV) (q20 : AV) (h1 : Heap) : OutV :=
  (binP .lss q20 t19).bind fun t21 =>
  condE t21 (
  (nilV x0).bind fun t24 =>
  (faP 0 t24).bind fun t25 =>
  (ldS h1 t25).bind fun t26 =>
  cl (k_arena_Arena_Class t26 q20 h1) fun t28 h5 =>
  (eqP (some (.int .i64)) none false .neq t28 t12).bind fun t30 =>
  condE t30 (
  (binP .add q20 (AV.int .i64 1)).bind fun t68_6 =>
  some (.normal, [q4, q5, t68_6], h5)) (
  (nilV x0).bind fun t32 =>
  (faP 1 t32).bind fun t33 =>
  (ldS h5 t33).bind fun t34 =>
  (iaS 1 t34 q20).bind fun t36 =>
  (ldS h5 t36).bind fun t37 =>
  condE t37 (
  cl (k_alloc_Alloc_sweep x0 q20 h5) fun t40 h31 =>
  k_alloc_Alloc_Take_j0 x0 t12 q4 q5 q20 h31) (
  k_alloc_Alloc_Take_j0 x0 t12 q4 q5 q20 h5))) (
  some ((.exit 0), [q4, q5, q20], h1))
def k_alloc_Alloc_Take_L0 (x0 : AV) (t12 : AV) (t19 : AV) (q4 : AV) (q5 : AV) (q20 : AV) (h1 : Heap) : OutV := loopN (fun us g => k_alloc_Alloc_Take_b0 x0 t12 t19 (us.getD 0 .bot) (us.getD 1 .bot) (us.getD 2 .bot) g) [q4, q5, q20] h1
def k_alloc_Alloc_Take_b1 (x0 : AV) (t12 : AV) (q4_33 : AV) (q5_34 : AV) (q8 : AV) (h35 : Heap) : OutV :=
  (nilV x0).bind fun t71 =>
  (faP 1 t71).bind fun t72 =>
  (ldS h35 t72).bind fun t73 =>
  (lnL t73).bind fun t74 =>
  (binP .lss q8 t74).bind fun t75 =>
  condE t75 (
  (nilV x0).bind fun t79 =>
  (faP 0 t79).bind fun t80 =>
  (ldS h35 t80).bind fun t81 =>
  cl (k_arena_Arena_Class t81 q8 h35) fun t83 h36 =>
  (eqP (some (.int .i64)) none false .eql t83 (AV.int .i64 (-1))).bind fun t84 =>
  condE t84 (
  cl (k_alloc_Alloc_begin x0 q8 t12 h36) fun t88 h37 =>
  (extractV 0 t88).bind fun t89 =>
  (extractV 1 t88).bind fun t90 =>
  some (.ret, [t89, t90, q8], h37)) (
  (binP .add q8 (AV.int .i64 1)).bind fun t77 =>
  some (.normal, [q4_33, q5_34, t77], h36))) (
  some ((.exit 2), [q4_33, q5_34, q8], h35))
def k_alloc_Alloc_Take_L1 (x0 : AV) (t12 : AV) (q4_33 : AV) (q5_34 : AV) (q8 : AV) (h35 : Heap) : OutV := loopN (fun us g => k_alloc_Alloc_Take_b1 x0 t12 (us.getD 0 .bot) (us.getD 1 .bot) (us.getD 2 .bot) g) [q4_33, q5_34, q8] h35
def k_alloc_Alloc_Take_j1 (q96 : AV) (q4_44 : AV) (q5_45 : AV) (h46 : Heap) : OutV :=
  (binP .add q96 (AV.int .i64 1)).bind fun t118 =>
  some (.normal, [q4_44, q5_45, t118], h46)
def k_alloc_Alloc_Take_b2 (x0 : AV) (t12 : AV) (t94 : AV) (t95 : AV) (q4_41 : AV) (q5_42 : AV) (q96 : AV) (h43 : Heap) : OutV :=
  (binP .lss q96 t95).bind fun t97 =>
  condE t97 (
  (iaS 1 t94 q96).bind fun t99 =>
  (ldS h43 t99).bind fun t100 =>
  condE t100 (
  cl (k_alloc_Alloc_sweep x0 q96 h43) fun t104 h66 =>
  (nilV x0).bind fun t106 =>
  (faP 0 t106).bind fun t107 =>
  (ldS h66 t107).bind fun t108 =>
  cl (k_arena_Arena_Class t108 q96 h66) fun t110 h67 =>
  (eqP (some (.int .i64)) none false .eql t110 (AV.int .i64 (-1))).bind fun t111 =>
  condE t111 (
  cl (k_alloc_Alloc_begin x0 q96 t12 h67) fun t115 h68 =>
  (extractV 0 t115).bind fun t116 =>
  (extractV 1 t115).bind fun t117 =>
  some (.ret, [t116, t117, q96], h68)) (
  k_alloc_Alloc_Take_j1 q96 q4_41 q5_42 h67)) (
  k_alloc_Alloc_Take_j1 q96 q4_41 q5_42 h43)) (
  some ((.exit 4), [q4_41, q5_42, q96], h43))
def k_alloc_Alloc_Take_L2 (x0 : AV) (t12 : AV) (t94 : AV) (t95 : AV) (q4_41 : AV) (q5_42 : AV) (q96 : AV) (h43 : Heap) : OutV := loopN (fun us g => k_alloc_Alloc_Take_b2 x0 t12 t94 t95 (us.getD 0 .bot) (us.getD 1 .bot) (us.getD 2 .bot) g) [q4_41, q5_42, q96] h43
def k_alloc_Alloc_Take (x0 : AV) (x1 : AV) (h : Heap) : Option (AV × Heap) :=
  cl (k_geom_Class x1 h) fun t12 h0 =>
  (eqP (some (.int .i64)) none false .eql t12 (AV.int .i64 (-1))).bind fun t14 =>
  condE t14 (
  some (AV.tup [(AV.int .i64 0), (AV.int .i64 1)], h0)) (
  (nilV x0).bind fun t16 =>
  (faP 1 t16).bind fun t17 =>
  (ldS h0 t17).bind fun t18 =>
  (lnL t18).bind fun t19 =>
  lp (k_alloc_Alloc_Take_L0 x0 t12 t19 (AV.int .i64 0) (AV.int .i64 0) (AV.int .i64 0) h0) fun e vs h32 =>
  thenK (if e = .exit 0 then .normal else e) (
  lp (k_alloc_Alloc_Take_L1 x0 t12 (vs.getD 0 .bot) (vs.getD 1 .bot) (AV.int .i64 1) h32) fun e_38 vs_39 h40 =>
  thenK (if e_38 = .exit 2 then .normal else e_38) (
  (nilV x0).bind fun t92 =>
  (faP 1 t92).bind fun t93 =>
  (ldS h40 t93).bind fun t94 =>
  (lnL t94).bind fun t95 =>
  lp (k_alloc_Alloc_Take_L2 x0 t12 t94 t95 (vs_39.getD 0 .bot) (vs_39.getD 1 .bot) (AV.int .i64 0) h40) fun e_69 vs_70 h71 =>
  thenK (if e_69 = .exit 4 then .normal else e_69) (
  some (AV.tup [(AV.int .i64 0), (AV.int .i64 5)], h71)) (fun e_72 => endE e_72 (some (AV.tup [(vs_70.getD 0 .bot), (vs_70.getD 1 .bot)], h71)))) (fun e_73 => endE e_73 (some (AV.tup [(vs_39.getD 0 .bot), (vs_39.getD 1 .bot)], h40)))) (fun e_74 => endE e_74 (some (AV.tup [(vs.getD 0 .bot), (vs.getD 1 .bot)], h32))))
def T42 : Tab := (70, p2 k_alloc_Alloc_Take) :: T41
/- 71: (*gantline/cycle.Cycle).shades -/
def k_cycle_Cycle_shades (x0 : AV) (h : Heap) : Option (AV × Heap) :=
  (nilV x0).bind fun t4 =>
  (faP 4 t4).bind fun t5 =>
  (ldS h t5).bind fun t6 =>
  (eqP (some (.int .i64)) none false .eql t6 (AV.int .i64 1)).bind fun t7 =>
  gQ (gdW t7 false) h (some (x0, h)) fun t9 h0 =>
  gQ (gdW t7 false) h0 ((nilV t9).bind fun t10 =>
  some (t10, h0)) fun t10_1 h2 =>
  gQ (gdW t7 false) h2 ((faP 4 t10_1).bind fun t11 =>
  some (t11, h2)) fun t11_3 h4 =>
  gQ (gdW t7 false) h4 ((ldS h4 t11_3).bind fun t12 =>
  some (t12, h4)) fun t12_5 h6 =>
  gQ (gdW t7 false) h6 ((eqP (some (.int .i64)) none false .eql t12_5 (AV.int .i64 2)).bind fun t13 =>
  some (t13, h6)) fun t13_7 h8 =>
  (pickP t7 (AV.bool true) t13_7).bind fun t14 =>
  some (t14, h8)
def T43 : Tab := (71, p1 k_cycle_Cycle_shades) :: T42
/- 87: gantline/geom.Span -/
def k_geom_Span (x0 : AV) (h : Heap) : Option (AV × Heap) :=
  (binP .lss x0 (AV.int .i64 0)).bind fun t4 =>
  gQ (gdW t4 false) h (some (x0, h)) fun t6 h0 =>
  gQ (gdW t4 false) h0 ((binP .geq t6 (AV.int .i64 32768)).bind fun t7 =>
  some (t7, h0)) fun t7_1 h2 =>
  (pickP t4 (AV.bool true) t7_1).bind fun t8 =>
  condE t8 (
  some ((AV.int .i64 (-1)), h2)) (
  (binP .quo x0 (AV.int .i64 64)).bind fun t10 =>
  some (t10, h2))
def T44 : Tab := (87, p1 k_geom_Span) :: T43
/- 88: gantline/geom.Place -/
def k_geom_Place (x0 : AV) (x1 : AV) (h : Heap) : Option (AV × Heap) :=
  cl (k_geom_Words x1 h) fun t7 h0 =>
  (eqP (some (.int .i64)) none false .eql t7 (AV.int .i64 0)).bind fun t8 =>
  gQ (gdW t8 false) h0 (some (x0, h0)) fun t10 h1 =>
  gQ (gdW t8 false) h1 (cl (k_geom_Span t10 h1) fun t11 h2 =>
  some (t11, h2)) fun t11_3 h4 =>
  gQ (gdW t8 false) h4 ((eqP (some (.int .i64)) none false .eql t11_3 (AV.int .i64 (-1))).bind fun t12 =>
  some (t12, h4)) fun t12_5 h6 =>
  (pickP t8 (AV.bool true) t12_5).bind fun t13 =>
  condE t13 (
  some ((AV.int .i64 (-1)), h6)) (
  (binP .rem x0 (AV.int .i64 64)).bind fun t15 =>
  cl (k_geom_Words x1 h6) fun t18 h7 =>
  (binP .rem t15 t18).bind fun t19 =>
  (eqP (some (.int .i64)) none false .neq t19 (AV.int .i64 0)).bind fun t20 =>
  condE t20 (
  some ((AV.int .i64 (-1)), h7)) (
  cl (k_geom_Words x1 h7) fun t23 h8 =>
  (binP .quo t15 t23).bind fun t24 =>
  some (t24, h8)))
def T45 : Tab := (88, p2 k_geom_Place) :: T44
/- 64: (*gantline/arena.Arena).find -/
def k_arena_Arena_find (x0 : AV) (x1 : AV) (h : Heap) : Option (AV × Heap) :=
  cl (k_geom_Span x1 h) fun t10 h0 =>
  cl (k_arena_Arena_Class x0 t10 h0) fun t13 h1 =>
  cl (k_geom_Place x1 t13 h1) fun t16 h2 =>
  (binP .lss t16 (AV.int .i64 0)).bind fun t18 =>
  gQ (gdW t18 false) h2 (some (x0, h2)) fun t20 h3 =>
  gQ (gdW t18 false) h3 ((nilV t20).bind fun t21 =>
  some (t21, h3)) fun t21_4 h5 =>
  gQ (gdW t18 false) h5 ((faP 1 t21_4).bind fun t22 =>
  some (t22, h5)) fun t22_6 h7 =>
  gQ (gdW t18 false) h7 ((ldS h7 t22_6).bind fun t23 =>
  some (t23, h7)) fun t23_8 h9 =>
  gQ (gdW t18 false) h9 (some (t10, h9)) fun t24 h10 =>
  gQ (gdW t18 false) h10 ((iaS 3 t23_8 t24).bind fun t25 =>
  some (t25, h10)) fun t25_11 h12 =>
  gQ (gdW t18 false) h12 ((faP 1 t25_11).bind fun t26 =>
  some (t26, h12)) fun t26_13 h14 =>
  gQ (gdW t18 false) h14 ((ldS h14 t26_13).bind fun t27 =>
  some (t27, h14)) fun t27_15 h16 =>
  gQ (gdW t18 false) h16 (some (t16, h16)) fun t28 h17 =>
  gQ (gdW t18 false) h17 ((cvI .u64 t28).bind fun t29 =>
  some (t29, h17)) fun t29_18 h19 =>
  gQ (gdW t18 false) h19 ((binP .shr t27_15 t29_18).bind fun t30 =>
  some (t30, h19)) fun t30_20 h21 =>
  gQ (gdW t18 false) h21 ((binP .and t30_20 (AV.int .u64 1)).bind fun t31 =>
  some (t31, h21)) fun t31_22 h23 =>
  gQ (gdW t18 false) h23 ((eqP (some (.int .u64)) none false .eql t31_22 (AV.int .u64 0)).bind fun t32 =>
  some (t32, h23)) fun t32_24 h25 =>
  (pickP t18 (AV.bool true) t32_24).bind fun t33 =>
  condE t33 (
  some (AV.tup [(AV.ptr none), (AV.int .u64 0)], h25)) (
  (nilV x0).bind fun t35 =>
  (faP 1 t35).bind fun t36 =>
  (ldS h25 t36).bind fun t37 =>
  (iaS 3 t37 t10).bind fun t39 =>
  (cvI .u64 t16).bind fun t41 =>
  (binP .shl (AV.int .u64 1) t41).bind fun t42 =>
  some (AV.tup [t39, t42], h25))
def T46 : Tab := (64, p2 k_arena_Arena_find) :: T45
/- 72: (*gantline/arena.Arena).Mark -/
def k_arena_Arena_Mark (x0 : AV) (x1 : AV) (h : Heap) : Option (AV × Heap) :=
  cl (k_arena_Arena_find x0 x1 h) fun t10 h0 =>
  (extractV 0 t10).bind fun t11 =>
  (extractV 1 t10).bind fun t12 =>
  (eqP (some (.pointer 0)) none false .eql t11 (AV.ptr none)).bind fun t14 =>
  gQ (gdW t14 false) h0 (some (t11, h0)) fun t16 h1 =>
  gQ (gdW t14 false) h1 ((nilV t16).bind fun t17 =>
  some (t17, h1)) fun t17_2 h3 =>
  gQ (gdW t14 false) h3 ((faP 2 t17_2).bind fun t18 =>
  some (t18, h3)) fun t18_4 h5 =>
  gQ (gdW t14 false) h5 ((ldS h5 t18_4).bind fun t19 =>
  some (t19, h5)) fun t19_6 h7 =>
  gQ (gdW t14 false) h7 (some (t12, h7)) fun t20 h8 =>
  gQ (gdW t14 false) h8 ((binP .and t19_6 t20).bind fun t21 =>
  some (t21, h8)) fun t21_9 h10 =>
  gQ (gdW t14 false) h10 ((eqP (some (.int .u64)) none false .neq t21_9 (AV.int .u64 0)).bind fun t22 =>
  some (t22, h10)) fun t22_11 h12 =>
  (pickP t14 (AV.bool true) t22_11).bind fun t23 =>
  condE t23 (
  some ((AV.bool false), h12)) (
  (nilV t11).bind fun t25 =>
  (faP 2 t25).bind fun t26 =>
  (ldS h12 t26).bind fun t27 =>
  (binP .or t27 t12).bind fun t29 =>
  (nilV t11).bind fun t30 =>
  (faP 2 t30).bind fun t31 =>
  cl (stP 1 h12 t31 t29) fun u h13 =>
  some ((AV.bool true), h13))
def T47 : Tab := (72, p2 k_arena_Arena_Mark) :: T46
/- 44: (*gantline/cycle.Cycle).Take -/
def k_cycle_Cycle_Take (x0 : AV) (x1 : AV) (h : Heap) : Option (AV × Heap) :=
  (nilV x0).bind fun t10 =>
  (faP 2 t10).bind fun t11 =>
  (ldS h t11).bind fun t12 =>
  cl (k_alloc_Alloc_Take t12 x1 h) fun t14 h0 =>
  (extractV 0 t14).bind fun t15 =>
  (extractV 1 t14).bind fun t16 =>
  (eqP (some (.int .i64)) none false .eql t16 (AV.int .i64 0)).bind fun t18 =>
  gQ (gdW t18 true) h0 (some (x0, h0)) fun t20 h1 =>
  gQ (gdW t18 true) h1 (cl (k_cycle_Cycle_shades t20 h1) fun t21 h2 =>
  some (t21, h2)) fun t21_3 h4 =>
  (pickP t18 t21_3 (AV.bool false)).bind fun t22 =>
  condE t22 (
  (nilV x0).bind fun t24 =>
  (faP 0 t24).bind fun t25 =>
  (ldS h4 t25).bind fun t26 =>
  cl (k_arena_Arena_Mark t26 t15 h4) fun t28 h6 =>
  some (AV.tup [t15, t16], h6)) (
  some (AV.tup [t15, t16], h4))
def T48 : Tab := (44, p2 k_cycle_Cycle_Take) :: T47
/- 102: slices.Clone[[]int,int] -/
def k_slices_Clone_int_int (x0 : AV) (h : Heap) : Option (AV × Heap) :=
  (eqP (some (.slice 0)) none false .eql x0 (AV.sl none 0 (.ex 0))).bind fun t4 =>
  condE t4 (
  some ((AV.sl none 0 (.ex 0)), h)) (
  mk Heap.new (bsP 1 [(AV.int .i64 0)] 0 []) h fun t5 h0 =>
  cl (appendA h0 1 8 t5 x0) fun t7 h1 =>
  some (t7, h1))
def T49 : Tab := (102, p1 k_slices_Clone_int_int) :: T48
/- 114: slices.IndexFunc[[]int,int] -/
def k_slices_IndexFunc_int_int_b0 (x0 : AV) (x1 : AV) (t7 : AV) (q4 : AV) (q8 : AV) (h0 : Heap) : OutV :=
  (binP .lss q8 t7).bind fun t9 =>
  condE t9 (
  (iaS 1 x0 q8).bind fun t14 =>
  (ldS h0 t14).bind fun t15 =>
  clF (lookT T49) (cvP x1 [t15]) h0 fun t16 h1 =>
  condE t16 (
  some (.ret, [q8, q8], h1)) (
  (binP .add q8 (AV.int .i64 1)).bind fun t18 =>
  some (.normal, [q4, t18], h1))) (
  some ((.exit 0), [q4, q8], h0))
def k_slices_IndexFunc_int_int_L0 (x0 : AV) (x1 : AV) (t7 : AV) (q4 : AV) (q8 : AV) (h0 : Heap) : OutV := loopN (fun us g => k_slices_IndexFunc_int_int_b0 x0 x1 t7 (us.getD 0 .bot) (us.getD 1 .bot) g) [q4, q8] h0
def k_slices_IndexFunc_int_int (x0 : AV) (x1 : AV) (h : Heap) : Option (AV × Heap) :=
  (lnL x0).bind fun t7 =>
  lp (k_slices_IndexFunc_int_int_L0 x0 x1 t7 (AV.int .i64 0) (AV.int .i64 0) h) fun e vs h2 =>
  thenK (if e = .exit 0 then .normal else e) (
  some ((AV.int .i64 (-1)), h2)) (fun e_3 => endE e_3 (some ((vs.getD 0 .bot), h2)))
def T50 : Tab := (114, p2 k_slices_IndexFunc_int_int) :: T49
/- 101: slices.DeleteFunc[[]int,int] -/
def k_slices_DeleteFunc_int_int_b0 (x0 : AV) (x1 : AV) (q5 : AV) (q6 : AV) (h1 : Heap) : OutV :=
  (lnL x0).bind fun t18 =>
  (binP .lss q6 t18).bind fun t19 =>
  condE t19 (
  (iaS 1 x0 q6).bind fun t24 =>
  (ldS h1 t24).bind fun t25 =>
  clF (lookT T50) (cvP x1 [t25]) h1 fun t28 h4 =>
  (unA .not t28).bind fun t29 =>
  condE t29 (
  (iaS 1 x0 q5).bind fun t33 =>
  cl (stP 1 h4 t33 t25) fun u h14 =>
  (binP .add q5 (AV.int .i64 1)).bind fun t35 =>
  (binP .add q6 (AV.int .i64 1)).bind fun t21_15 =>
  some (.normal, [t35, t21_15], h14)) (
  (binP .add q6 (AV.int .i64 1)).bind fun t21_16 =>
  some (.normal, [q5, t21_16], h4))) (
  some ((.exit 0), [q5, q6], h1))
def k_slices_DeleteFunc_int_int_L0 (x0 : AV) (x1 : AV) (q5 : AV) (q6 : AV) (h1 : Heap) : OutV := loopN (fun us g => k_slices_DeleteFunc_int_int_b0 x0 x1 (us.getD 0 .bot) (us.getD 1 .bot) g) [q5, q6] h1
def k_slices_DeleteFunc_int_int (x0 : AV) (x1 : AV) (h : Heap) : Option (AV × Heap) :=
  cl (k_slices_IndexFunc_int_int x0 x1 h) fun t10 h0 =>
  (eqP (some (.int .i64)) none false .eql t10 (AV.int .i64 (-1))).bind fun t12 =>
  condE t12 (
  some (x0, h0)) (
  (binP .add t10 (AV.int .i64 1)).bind fun t15 =>
  lp (k_slices_DeleteFunc_int_int_L0 x0 x1 t10 t15 h0) fun e vs h17 =>
  thenK (if e = .exit 0 then .normal else e) (
  (slcP 1 x0 (some (vs.getD 0 .bot)) none none).bind fun t38 =>
  cl (clL 1 [(AV.int .i64 0)] h17 t38) fun u_18 h19 =>
  (slcP 1 x0 none (some (vs.getD 0 .bot)) none).bind fun t41 =>
  some (t41, h19)) (fun e_20 => endE e_20 (some ((AV.sl none 0 (.ex 0)), h17))))
def T51 : Tab := (101, p2 k_slices_DeleteFunc_int_int) :: T50
/- 104: slices.Min[[]int,int] -/
def k_slices_Min_int_int_b0 (x0 : AV) (q3 : AV) (q4 : AV) (h1 : Heap) : OutV :=
  (lnL x0).bind fun t14 =>
  (binP .lss q4 t14).bind fun t15 =>
  condE t15 (
  (iaS 1 x0 q4).bind fun t21 =>
  (ldS h1 t21).bind fun t22 =>
  (minP q3 t22).bind fun t23 =>
  (binP .add q4 (AV.int .i64 1)).bind fun t17 =>
  some (.normal, [t23, t17], h1)) (
  some ((.exit 0), [q3, q4], h1))
def k_slices_Min_int_int_L0 (x0 : AV) (q3 : AV) (q4 : AV) (h1 : Heap) : OutV := loopN (fun us g => k_slices_Min_int_int_b0 x0 (us.getD 0 .bot) (us.getD 1 .bot) g) [q3, q4] h1
def k_slices_Min_int_int_j0 (x0 : AV) (h0 : Heap) : Option (AV × Heap) :=
  (iaS 1 x0 (AV.int .i64 0)).bind fun t10 =>
  (ldS h0 t10).bind fun t11 =>
  lp (k_slices_Min_int_int_L0 x0 t11 (AV.int .i64 1) h0) fun e vs h2 =>
  thenK (if e = .exit 0 then .normal else e) (
  some ((vs.getD 0 .bot), h2)) (fun e_3 => endE e_3 (some ((AV.int .i64 0), h2)))
def k_slices_Min_int_int (x0 : AV) (h : Heap) : Option (AV × Heap) :=
  (lnL x0).bind fun t6 =>
  (binP .lss t6 (AV.int .i64 1)).bind fun t7 =>
  condE t7 (
  none) (
  k_slices_Min_int_int_j0 x0 h)
def T52 : Tab := (104, p1 k_slices_Min_int_int) :: T51
/- 78: (*gantline/cycle.Cycle).next -/
def k_cycle_Cycle_next (x0 : AV) (x1 : AV) (h : Heap) : Option (AV × Heap) :=
  clF (lookT T52) (ivP [(30, 136), (66, 140)] x1 []) h fun t8 h0 =>
  cl (k_slices_Clone_int_int t8 h0) fun t9 h1 =>
  cl (k_slices_DeleteFunc_int_int t9 (AV.fn 103 [x0] []) h1) fun t12 h2 =>
  (lnL t12).bind fun t14 =>
  (eqP (some (.int .i64)) none false .eql t14 (AV.int .i64 0)).bind fun t15 =>
  condE t15 (
  some (AV.tup [(AV.int .i64 0), (AV.bool false)], h2)) (
  cl (k_slices_Min_int_int t12 h2) fun t17 h3 =>
  some (AV.tup [t17, (AV.bool true)], h3))
def T53 : Tab := (78, p2 k_cycle_Cycle_next) :: T52
/- 115: slices.Index[[]int,int] -/
def k_slices_Index_int_int_b0 (x0 : AV) (x1 : AV) (t7 : AV) (q4 : AV) (q8 : AV) (h0 : Heap) : OutV :=
  (binP .lss q8 t7).bind fun t9 =>
  condE t9 (
  (iaS 1 x0 q8).bind fun t14 =>
  (ldS h0 t14).bind fun t15 =>
  (eqP (some (.int .i64)) none false .eql x1 t15).bind fun t16 =>
  condE t16 (
  some (.ret, [q8, q8], h0)) (
  (binP .add q8 (AV.int .i64 1)).bind fun t18 =>
  some (.normal, [q4, t18], h0))) (
  some ((.exit 0), [q4, q8], h0))
def k_slices_Index_int_int_L0 (x0 : AV) (x1 : AV) (t7 : AV) (q4 : AV) (q8 : AV) (h0 : Heap) : OutV := loopN (fun us g => k_slices_Index_int_int_b0 x0 x1 t7 (us.getD 0 .bot) (us.getD 1 .bot) g) [q4, q8] h0
def k_slices_Index_int_int (x0 : AV) (x1 : AV) (h : Heap) : Option (AV × Heap) :=
  (lnL x0).bind fun t7 =>
  lp (k_slices_Index_int_int_L0 x0 x1 t7 (AV.int .i64 0) (AV.int .i64 0) h) fun e vs h1 =>
  thenK (if e = .exit 0 then .normal else e) (
  some ((AV.int .i64 (-1)), h1)) (fun e_2 => endE e_2 (some ((vs.getD 0 .bot), h1)))
def T54 : Tab := (115, p2 k_slices_Index_int_int) :: T53
/- 105: slices.Contains[[]int,int] -/
def k_slices_Contains_int_int (x0 : AV) (x1 : AV) (h : Heap) : Option (AV × Heap) :=
  cl (k_slices_Index_int_int x0 x1 h) fun t7 h0 =>
  (binP .geq t7 (AV.int .i64 0)).bind fun t8 =>
  some (t8, h0)
def T55 : Tab := (105, p2 k_slices_Contains_int_int) :: T54
/- 100: (*gantline/grey.Queue).Add -/
def k_grey_Queue_Add (x0 : AV) (x1 : AV) (h : Heap) : Option (AV × Heap) :=
  (nilV x0).bind fun t6 =>
  (faP 0 t6).bind fun t7 =>
  (ldS h t7).bind fun t8 =>
  mk Heap.new (bsP 1 [(AV.int .i64 0)] 1 [(0, x1)]) h fun t10 h0 =>
  cl (appendA h0 1 8 t8 t10) fun t11 h1 =>
  (nilV x0).bind fun t12 =>
  (faP 0 t12).bind fun t13 =>
  cl (stP 1 h1 t13 t11) fun u h2 =>
  some (AV.tup [], h2)
def T56 : Tab := (100, p2 k_grey_Queue_Add) :: T55
/- 77: (*gantline/mark.Marker).Shade -/
def k_mark_Marker_Shade (x0 : AV) (x1 : AV) (h : Heap) : Option (AV × Heap) :=
  (nilV x0).bind fun t6 =>
  (faP 0 t6).bind fun t7 =>
  (ldS h t7).bind fun t8 =>
  cl (k_arena_Arena_Mark t8 x1 h) fun t10 h0 =>
  (unA .not t10).bind fun t11 =>
  condE t11 (
  some ((AV.bool false), h0)) (
  (nilV x0).bind fun t13 =>
  (faP 2 t13).bind fun t14 =>
  (ldS h0 t14).bind fun t15 =>
  cl (k_grey_Queue_Add t15 x1 h0) fun t17 h1 =>
  some ((AV.bool true), h1))
def T57 : Tab := (77, p2 k_mark_Marker_Shade) :: T56
/- 85: (*gantline/cycle.Cycle).shade -/
def k_cycle_Cycle_shade_b0 (x0 : AV) (x1 : AV) (t7 : AV) (q8 : AV) (h0 : Heap) : OutV :=
  (binP .lss q8 t7).bind fun t9 =>
  condE t9 (
  (iaS 1 x1 q8).bind fun t10 =>
  (ldS h0 t10).bind fun t11 =>
  (nilV x0).bind fun t13 =>
  (faP 3 t13).bind fun t14 =>
  (ldS h0 t14).bind fun t15 =>
  cl (k_mark_Marker_Shade t15 t11 h0) fun t17 h1 =>
  (binP .add q8 (AV.int .i64 1)).bind fun t18 =>
  some (.normal, [t18], h1)) (
  some ((.exit 0), [q8], h0))
def k_cycle_Cycle_shade_L0 (x0 : AV) (x1 : AV) (t7 : AV) (q8 : AV) (h0 : Heap) : OutV := loopN (fun us g => k_cycle_Cycle_shade_b0 x0 x1 t7 (us.getD 0 .bot) g) [q8] h0
def k_cycle_Cycle_shade (x0 : AV) (x1 : AV) (h : Heap) : Option (AV × Heap) :=
  (lnL x1).bind fun t7 =>
  lp (k_cycle_Cycle_shade_L0 x0 x1 t7 (AV.int .i64 0) h) fun e vs h2 =>
  endE (if e = .exit 0 then .normal else e) (some (AV.tup [], h2))
def T58 : Tab := (85, p2 k_cycle_Cycle_shade) :: T57
/- 79: (*gantline/cycle.Cycle).Scan -/
def k_cycle_Cycle_Scan (x0 : AV) (x1 : AV) (x2 : AV) (h : Heap) : Option (AV × Heap) :=
  cl (k_cycle_Cycle_shades x0 h) fun t8 h0 =>
  (unA .not t8).bind fun t9 =>
  gQ (gdW t9 false) h0 (some (x0, h0)) fun t11 h1 =>
  gQ (gdW t9 false) h1 ((nilV t11).bind fun t12 =>
  some (t12, h1)) fun t12_2 h3 =>
  gQ (gdW t9 false) h3 ((faP 5 t12_2).bind fun t13 =>
  some (t13, h3)) fun t13_4 h5 =>
  gQ (gdW t9 false) h5 ((ldS h5 t13_4).bind fun t14 =>
  some (t14, h5)) fun t14_6 h7 =>
  gQ (gdW t9 false) h7 (some (x2, h7)) fun t15 h8 =>
  gQ (gdW t9 false) h8 ((lkP (fdA (.int .i64)) (AV.bool false) false h8 t14_6 t15).bind fun t16 =>
  some (t16, h8)) fun t16_9 h10 =>
  (pickP t9 (AV.bool true) t16_9).bind fun t17 =>
  gQ (gdW t17 false) h10 (some (x1, h10)) fun t19 h11 =>
  gQ (gdW t17 false) h11 (clF (lookT T58) (ivP [(30, 136), (66, 140)] t19 []) h11 fun t20 h12 =>
  some (t20, h12)) fun t20_13 h14 =>
  gQ (gdW t17 false) h14 (some (x2, h14)) fun t21 h15 =>
  gQ (gdW t17 false) h15 (cl (k_slices_Contains_int_int t20_13 t21 h15) fun t22 h16 =>
  some (t22, h16)) fun t22_17 h18 =>
  gQ (gdW t17 false) h18 ((unA .not t22_17).bind fun t23 =>
  some (t23, h18)) fun t23_19 h20 =>
  (pickP t17 (AV.bool true) t23_19).bind fun t24 =>
  condE t24 (
  some ((AV.bool false), h20)) (
  clF (lookT T58) (ivP [(30, 135), (66, 139)] x1 [x2]) h20 fun t28 h21 =>
  cl (k_cycle_Cycle_shade x0 t28 h21) fun t29 h22 =>
  (nilV x0).bind fun t31 =>
  (faP 5 t31).bind fun t32 =>
  (ldS h22 t32).bind fun t33 =>
  cl (muP (ptA (.int .i64)) h22 t33 x2 (AV.bool true)) fun u h23 =>
  some ((AV.bool true), h23))
def T59 : Tab := (79, p3 k_cycle_Cycle_Scan) :: T58
/- 106: (*gantline/grey.Queue).Next -/
def k_grey_Queue_Next (x0 : AV) (h : Heap) : Option (AV × Heap) :=
  (nilV x0).bind fun t6 =>
  (faP 0 t6).bind fun t7 =>
  (ldS h t7).bind fun t8 =>
  (lnL t8).bind fun t9 =>
  (eqP (some (.int .i64)) none false .eql t9 (AV.int .i64 0)).bind fun t10 =>
  condE t10 (
  some (AV.tup [(AV.int .i64 0), (AV.bool false)], h)) (
  (nilV x0).bind fun t12 =>
  (faP 0 t12).bind fun t13 =>
  (ldS h t13).bind fun t14 =>
  (iaS 1 t14 (AV.int .i64 0)).bind fun t15 =>
  (ldS h t15).bind fun t16 =>
  (nilV x0).bind fun t19 =>
  (faP 0 t19).bind fun t20 =>
  (ldS h t20).bind fun t21 =>
  (slcP 1 t21 (some (AV.int .i64 1)) none none).bind fun t22 =>
  (nilV x0).bind fun t23 =>
  (faP 0 t23).bind fun t24 =>
  cl (stP 1 h t24 t22) fun u h0 =>
  some (AV.tup [t16, (AV.bool true)], h0))
def T60 : Tab := (106, p1 k_grey_Queue_Next) :: T59
/- 75: (*gantline/arena.Arena).word -/
def k_arena_Arena_word (x0 : AV) (x1 : AV) (x2 : AV) (h : Heap) : Option (AV × Heap) :=
  cl (k_arena_Arena_find x0 x1 h) fun t12 h0 =>
  (extractV 0 t12).bind fun t13 =>
  (extractV 1 t12).bind fun t14 =>
  (eqP (some (.pointer 0)) none false .eql t13 (AV.ptr none)).bind fun t16 =>
  gQ (gdW t16 false) h0 (some (x2, h0)) fun t18 h1 =>
  gQ (gdW t16 false) h1 ((binP .lss t18 (AV.int .i64 0)).bind fun t19 =>
  some (t19, h1)) fun t19_2 h3 =>
  (pickP t16 (AV.bool true) t19_2).bind fun t20 =>
  gQ (gdW t20 false) h3 (some (x2, h3)) fun t22 h4 =>
  gQ (gdW t20 false) h4 (some (t13, h4)) fun t23 h5 =>
  gQ (gdW t20 false) h5 ((nilV t23).bind fun t24 =>
  some (t24, h5)) fun t24_6 h7 =>
  gQ (gdW t20 false) h7 ((faP 0 t24_6).bind fun t25 =>
  some (t25, h7)) fun t25_8 h9 =>
  gQ (gdW t20 false) h9 ((ldS h9 t25_8).bind fun t26 =>
  some (t26, h9)) fun t26_10 h11 =>
  gQ (gdW t20 false) h11 (cl (k_geom_Words t26_10 h11) fun t27 h12 =>
  some (t27, h12)) fun t27_13 h14 =>
  gQ (gdW t20 false) h14 ((binP .geq t22 t27_13).bind fun t28 =>
  some (t28, h14)) fun t28_15 h16 =>
  (pickP t20 (AV.bool true) t28_15).bind fun t29 =>
  condE t29 (
  some ((AV.ptr none), h16)) (
  (nilV x0).bind fun t31 =>
  (faP 0 t31).bind fun t32 =>
  (ldS h16 t32).bind fun t33 =>
  (binP .add x1 x2).bind fun t36 =>
  (iaS 1 t33 t36).bind fun t37 =>
  some (t37, h16))
def T61 : Tab := (75, p3 k_arena_Arena_word) :: T60
/- 50: (*gantline/arena.Arena).Read -/
def k_arena_Arena_Read (x0 : AV) (x1 : AV) (x2 : AV) (h : Heap) : Option (AV × Heap) :=
  cl (k_arena_Arena_word x0 x1 x2 h) fun t12 h0 =>
  (eqP (some (.pointer 0)) none false .eql t12 (AV.ptr none)).bind fun t14 =>
  condE t14 (
  some (AV.tup [(AV.int .i64 0), (AV.int .i64 1)], h0)) (
  (nilV t12).bind fun t16 =>
  (ldS h0 t16).bind fun t17 =>
  some (AV.tup [t17, (AV.int .i64 0)], h0))
def T62 : Tab := (50, p3 k_arena_Arena_Read) :: T61
/- 76: gantline/bits.Field -/
def k_bits_Field (x0 : AV) (x1 : AV) (x2 : AV) (h : Heap) : Option (AV × Heap) :=
  cl (k_bits_within x1 x2 h) fun t9 h0 =>
  (unA .not t9).bind fun t10 =>
  condE t10 (
  some ((AV.int .u64 0), h0)) (
  (cvI .u64 x1).bind fun t13 =>
  (binP .shr x0 t13).bind fun t14 =>
  cl (k_bits_mask x2 h0) fun t16 h1 =>
  (binP .and t14 t16).bind fun t17 =>
  some (t17, h1))
def T63 : Tab := (76, p3 k_bits_Field) :: T62
/- 73: gantline/head.may -/
def k_head_may (x0 : AV) (h : Heap) : Option (AV × Heap) :=
  mk Heap.new (bxP x0) h fun t1 h0 =>
  (faP 0 t1).bind fun t3 =>
  (ldS h0 t3).bind fun t4 =>
  (binP .geq t4 (AV.int .i64 1)).bind fun t5 =>
  gQ (gdW t5 true) h0 ((faP 0 t1).bind fun t7 =>
  some (t7, h0)) fun t7_1 h2 =>
  gQ (gdW t5 true) h2 ((ldS h2 t7_1).bind fun t8 =>
  some (t8, h2)) fun t8_3 h4 =>
  gQ (gdW t5 true) h4 ((binP .leq t8_3 (AV.int .i64 64)).bind fun t9 =>
  some (t9, h4)) fun t9_5 h6 =>
  (pickP t5 t9_5 (AV.bool false)).bind fun t10 =>
  gQ (gdW t10 true) h6 ((faP 1 t1).bind fun t12 =>
  some (t12, h6)) fun t12_7 h8 =>
  gQ (gdW t10 true) h8 ((ldS h8 t12_7).bind fun t13 =>
  some (t13, h8)) fun t13_9 h10 =>
  gQ (gdW t10 true) h10 ((binP .geq t13_9 (AV.int .i64 0)).bind fun t14 =>
  some (t14, h10)) fun t14_11 h12 =>
  (pickP t10 t14_11 (AV.bool false)).bind fun t15 =>
  gQ (gdW t15 true) h12 ((faP 1 t1).bind fun t17 =>
  some (t17, h12)) fun t17_13 h14 =>
  gQ (gdW t15 true) h14 ((ldS h14 t17_13).bind fun t18 =>
  some (t18, h14)) fun t18_15 h16 =>
  gQ (gdW t15 true) h16 ((binP .leq t18_15 (AV.int .i64 3)).bind fun t19 =>
  some (t19, h16)) fun t19_17 h18 =>
  (pickP t15 t19_17 (AV.bool false)).bind fun t20 =>
  gQ (gdW t20 true) h18 ((faP 2 t1).bind fun t22 =>
  some (t22, h18)) fun t22_19 h20 =>
  gQ (gdW t20 true) h20 ((ldS h20 t22_19).bind fun t23 =>
  some (t23, h20)) fun t23_21 h22 =>
  gQ (gdW t20 true) h22 ((binP .geq t23_21 (AV.int .i64 0)).bind fun t24 =>
  some (t24, h22)) fun t24_23 h24 =>
  (pickP t20 t24_23 (AV.bool false)).bind fun t25 =>
  gQ (gdW t25 true) h24 ((faP 2 t1).bind fun t27 =>
  some (t27, h24)) fun t27_25 h26 =>
  gQ (gdW t25 true) h26 ((ldS h26 t27_25).bind fun t28 =>
  some (t28, h26)) fun t28_27 h28 =>
  gQ (gdW t25 true) h28 ((binP .lss t28_27 (AV.int .i64 65536)).bind fun t29 =>
  some (t29, h28)) fun t29_29 h30 =>
  (pickP t25 t29_29 (AV.bool false)).bind fun t30 =>
  some (t30, h30)
def T64 : Tab := (73, p1 k_head_may) :: T63
/- 51: gantline/head.Unpack -/
def k_head_Unpack (x0 : AV) (h : Heap) : Option (AV × Heap) :=
  mk Heap.new (some (Blk.cells true [(AV.int .i64 0), (AV.int .i64 0), (AV.int .i64 0)], fun i => AV.ptr (some (i, 0)))) h fun t2 h0 =>
  (cvI .u64 x0).bind fun t7 =>
  cl (k_bits_Field t7 (AV.int .i64 0) (AV.int .i64 7) h0) fun t9 h1 =>
  (cvI .i64 t9).bind fun t10 =>
  cl (k_bits_Field t7 (AV.int .i64 7) (AV.int .i64 3) h1) fun t12 h2 =>
  (cvI .i64 t12).bind fun t13 =>
  cl (k_bits_Field t7 (AV.int .i64 10) (AV.int .i64 16) h2) fun t15 h3 =>
  (cvI .i64 t15).bind fun t16 =>
  (bldS [(0, 1), (1, 1), (2, 1)] [(AV.int .i64 0), (AV.int .i64 0), (AV.int .i64 0)] [(0, t10), (1, t13), (2, t16)]).bind fun t17 =>
  mk Heap.new (some (Blk.cells true [(AV.int .i64 0), (AV.int .i64 0), (AV.int .i64 0)], fun i => AV.ptr (some (i, 0)))) h3 fun t5 h4 =>
  cl (stP 3 h4 t5 t17) fun u h5 =>
  (binP .shr t7 (AV.int .u64 26)).bind fun t19 =>
  (eqP (some (.int .u64)) none false .neq t19 (AV.int .u64 0)).bind fun t20 =>
  gQ (gdW t20 false) h5 ((ldA 3 h5 t5).bind fun t22 =>
  some (t22, h5)) fun t22_6 h7 =>
  gQ (gdW t20 false) h7 (cl (k_head_may t22_6 h7) fun t23 h8 =>
  some (t23, h8)) fun t23_9 h10 =>
  gQ (gdW t20 false) h10 ((unA .not t23_9).bind fun t24 =>
  some (t24, h10)) fun t24_11 h12 =>
  (pickP t20 (AV.bool true) t24_11).bind fun t25 =>
  condE t25 (
  (bldS [(0, 1), (1, 1), (2, 1)] [(AV.int .i64 0), (AV.int .i64 0), (AV.int .i64 0)] []).bind fun t26 =>
  cl (stP 3 h12 t2 t26) fun u_13 h14 =>
  (ldA 3 h14 t2).bind fun t =>
  some (AV.tup [t, (AV.int .i64 3)], h14)) (
  (ldA 3 h12 t5).bind fun t27 =>
  cl (stP 3 h12 t2 t27) fun u_15 h16 =>
  (ldA 3 h16 t2).bind fun t_17 =>
  some (AV.tup [t_17, (AV.int .i64 0)], h16))
def T65 : Tab := (51, p1 k_head_Unpack) :: T64
/- 52: (*gantline/head.Table).Shape -/
def k_head_Table_Shape (x0 : AV) (x1 : AV) (h : Heap) : Option (AV × Heap) :=
  mk Heap.new (some (Blk.cells true [(AV.int .i64 0), (AV.int .i64 0), (AV.int .u64 0)], fun i => AV.ptr (some (i, 0)))) h fun t4 h0 =>
  (binP .lss x1 (AV.int .i64 0)).bind fun t7 =>
  gQ (gdW t7 false) h0 (some (x1, h0)) fun t9 h1 =>
  gQ (gdW t7 false) h1 (some (x0, h1)) fun t10 h2 =>
  gQ (gdW t7 false) h2 ((nilV t10).bind fun t11 =>
  some (t11, h2)) fun t11_3 h4 =>
  gQ (gdW t7 false) h4 ((faP 0 t11_3).bind fun t12 =>
  some (t12, h4)) fun t12_5 h6 =>
  gQ (gdW t7 false) h6 ((ldS h6 t12_5).bind fun t13 =>
  some (t13, h6)) fun t13_7 h8 =>
  gQ (gdW t7 false) h8 ((lnL t13_7).bind fun t14 =>
  some (t14, h8)) fun t14_9 h10 =>
  gQ (gdW t7 false) h10 ((binP .geq t9 t14_9).bind fun t15 =>
  some (t15, h10)) fun t15_11 h12 =>
  (pickP t7 (AV.bool true) t15_11).bind fun t16 =>
  condE t16 (
  (bldS [(0, 1), (1, 1), (2, 1)] [(AV.int .i64 0), (AV.int .i64 0), (AV.int .u64 0)] []).bind fun t17 =>
  cl (stP 3 h12 t4 t17) fun u h13 =>
  (ldA 3 h13 t4).bind fun t =>
  some (AV.tup [t, (AV.int .i64 4)], h13)) (
  (nilV x0).bind fun t19 =>
  (faP 0 t19).bind fun t20 =>
  (ldS h12 t20).bind fun t21 =>
  (iaS 3 t21 x1).bind fun t23 =>
  (ldA 3 h12 t23).bind fun t24 =>
  cl (stP 3 h12 t4 t24) fun u_14 h15 =>
  (ldA 3 h15 t4).bind fun t_16 =>
  some (AV.tup [t_16, (AV.int .i64 0)], h15))
def T66 : Tab := (52, p2 k_head_Table_Shape) :: T65
/- 89: (gantline/head.Shape).Holds -/
def k_head_Shape_Holds_j0 (x1 : AV) (t3 : AV) (t20 : AV) (q21 : AV) (h10 : Heap) : Option (AV × Heap) :=
  condE q21 (
  (faP 2 t3).bind fun t24 =>
  (ldS h10 t24).bind fun t25 =>
  (cvI .u64 x1).bind fun t27 =>
  (binP .shr t25 t27).bind fun t28 =>
  (binP .and t28 (AV.int .u64 1)).bind fun t29 =>
  (eqP (some (.int .u64)) none false .eql t29 (AV.int .u64 1)).bind fun t30 =>
  some (t30, h10)) (
  (eqP (some (.int .i64)) none false .eql t20 (AV.int .i64 1)).bind fun t32 =>
  condE t32 (
  (faP 2 t3).bind fun t33 =>
  (ldS h10 t33).bind fun t34 =>
  (binP .and t34 (AV.int .u64 1)).bind fun t35 =>
  (eqP (some (.int .u64)) none false .eql t35 (AV.int .u64 1)).bind fun t36 =>
  some (t36, h10)) (
  (eqP (some (.int .i64)) none false .eql t20 (AV.int .i64 3)).bind fun t38 =>
  condE t38 (
  (faP 2 t3).bind fun t39 =>
  (ldS h10 t39).bind fun t40 =>
  (binP .and t40 (AV.int .u64 1)).bind fun t41 =>
  (eqP (some (.int .u64)) none false .eql t41 (AV.int .u64 1)).bind fun t42 =>
  gQ (gdW t42 true) h10 (some (x1, h10)) fun t44 h11 =>
  gQ (gdW t42 true) h11 ((binP .geq t44 (AV.int .i64 4)).bind fun t45 =>
  some (t45, h11)) fun t45_12 h13 =>
  (pickP t42 t45_12 (AV.bool false)).bind fun t46 =>
  some (t46, h13)) (
  some ((AV.bool false), h10))))
def k_head_Shape_Holds (x0 : AV) (x1 : AV) (x2 : AV) (h : Heap) : Option (AV × Heap) :=
  mk Heap.new (bxP x0) h fun t3 h0 =>
  (binP .lss x1 (AV.int .i64 0)).bind fun t8 =>
  gQ (gdW t8 false) h0 (some (x2, h0)) fun t10 h1 =>
  gQ (gdW t8 false) h1 ((binP .lss t10 (AV.int .i64 2)).bind fun t11 =>
  some (t11, h1)) fun t11_2 h3 =>
  (pickP t8 (AV.bool true) t11_2).bind fun t12 =>
  gQ (gdW t12 false) h3 (some (x1, h3)) fun t14 h4 =>
  gQ (gdW t12 false) h4 (some (x2, h4)) fun t15 h5 =>
  gQ (gdW t12 false) h5 ((binP .sub t15 (AV.int .i64 2)).bind fun t16 =>
  some (t16, h5)) fun t16_6 h7 =>
  gQ (gdW t12 false) h7 ((binP .gtr t14 t16_6).bind fun t17 =>
  some (t17, h7)) fun t17_8 h9 =>
  (pickP t12 (AV.bool true) t17_8).bind fun t18 =>
  condE t18 (
  some ((AV.bool false), h9)) (
  (faP 0 t3).bind fun t19 =>
  (ldS h9 t19).bind fun t20 =>
  (eqP (some (.int .i64)) none false .eql t20 (AV.int .i64 0)).bind fun t22 =>
  condE t22 (
  k_head_Shape_Holds_j0 x1 t3 t20 t22 h9) (
  (eqP (some (.int .i64)) none false .eql t20 (AV.int .i64 2)).bind fun t23 =>
  k_head_Shape_Holds_j0 x1 t3 t20 t23 h9))
def T67 : Tab := (89, p3 k_head_Shape_Holds) :: T66
/- 107: (*gantline/mark.Marker).Fields -/
def k_mark_Marker_Fields_b0 (x0 : AV) (x1 : AV) (t7 : AV) (t8 : AV) (t58 : AV) (q9 : AV) (q59 : AV) (h18 : Heap) : OutV :=
  (binP .lss q59 t58).bind fun t60 =>
  condE t60 (
  (nilV x0).bind fun t64 =>
  (faP 0 t64).bind fun t65 =>
  (ldS h18 t65).bind fun t66 =>
  (binP .add q59 (AV.int .i64 1)).bind fun t69 =>
  cl (k_arena_Arena_Read t66 x1 t69 h18) fun t70 h21 =>
  (extractV 0 t70).bind fun t71 =>
  (extractV 1 t70).bind fun t72 =>
  (ldA 3 h21 t8).bind fun t73 =>
  (faP 0 t7).bind fun t75 =>
  (ldS h21 t75).bind fun t76 =>
  cl (k_head_Shape_Holds t73 q59 t76 h21) fun t77 h22 =>
  gQ (gdW t77 true) h22 (some (t71, h22)) fun t79 h23 =>
  gQ (gdW t77 true) h23 ((eqP (some (.int .i64)) none false .neq t79 (AV.int .i64 0)).bind fun t80 =>
  some (t80, h23)) fun t80_24 h25 =>
  (pickP t77 t80_24 (AV.bool false)).bind fun t81 =>
  condE t81 (
  mk Heap.new (bsP 1 [(AV.int .i64 0)] 1 [(0, t71)]) h25 fun t84 h33 =>
  cl (appendA h33 1 8 q9 t84) fun t85 h34 =>
  (binP .add q59 (AV.int .i64 1)).bind fun t86_35 =>
  some (.normal, [t85, t86_35], h34)) (
  (binP .add q59 (AV.int .i64 1)).bind fun t86_36 =>
  some (.normal, [q9, t86_36], h25))) (
  some ((.exit 0), [q9, q59], h18))
def k_mark_Marker_Fields_L0 (x0 : AV) (x1 : AV) (t7 : AV) (t8 : AV) (t58 : AV) (q9 : AV) (q59 : AV) (h18 : Heap) : OutV := loopN (fun us g => k_mark_Marker_Fields_b0 x0 x1 t7 t8 t58 (us.getD 0 .bot) (us.getD 1 .bot) g) [q9, q59] h18
def k_mark_Marker_Fields (x0 : AV) (x1 : AV) (h : Heap) : Option (AV × Heap) :=
  (nilV x0).bind fun t15 =>
  (faP 0 t15).bind fun t16 =>
  (ldS h t16).bind fun t17 =>
  cl (k_arena_Arena_Read t17 x1 (AV.int .i64 0) h) fun t19 h0 =>
  (extractV 0 t19).bind fun t20 =>
  (extractV 1 t19).bind fun t21 =>
  (eqP (some (.int .i64)) none false .neq t21 (AV.int .i64 0)).bind fun t23 =>
  condE t23 (
  some ((AV.sl none 0 (.ex 0)), h0)) (
  cl (k_head_Unpack t20 h0) fun t26 h1 =>
  (extractV 0 t26).bind fun t27 =>
  (extractV 1 t26).bind fun t28 =>
  mk Heap.new (some (Blk.cells true [(AV.int .i64 0), (AV.int .i64 0), (AV.int .i64 0)], fun i => AV.ptr (some (i, 0)))) h1 fun t7 h2 =>
  cl (stP 3 h2 t7 t27) fun u h3 =>
  (eqP (some (.int .i64)) none false .neq t28 (AV.int .i64 0)).bind fun t30 =>
  (gV (gdW t30 false) (faP 0 t7) (.tup [])).bind fun t32 =>
  clC (gV (gdW t30 false) (rdC (fun g => ldS g t32) h3 0 3 []) (.tup [], [])) fun t33 cs =>
  (gV (gdW t30 false) (some x0) (.tup [])).bind fun t34 =>
  (gV (gdW t30 false) (nilV t34) (.tup [])).bind fun t35 =>
  (gV (gdW t30 false) (faP 0 t35) (.tup [])).bind fun t36 =>
  clC (gV (gdW t30 false) (rdC (fun g => ldS g t36) h3 0 1 cs) (.tup [], cs)) fun t37 cs_4 =>
  (gV (gdW t30 false) (some x1) (.tup [])).bind fun t38 =>
  gQ (gdW t30 false) h3 (cl (k_geom_Span t38 h3) fun t39 h5 =>
  some (t39, h5)) fun t39_6 h7 =>
  gQ (gdW t30 false) h7 (cl (k_arena_Arena_Class t37 t39_6 h7) fun t40 h8 =>
  some (t40, h8)) fun t40_9 h10 =>
  gQ (gdW t30 false) h10 (cl (k_geom_Words t40_9 h10) fun t41 h11 =>
  some (t41, h11)) fun t41_12 h13 =>
  (gV (gdW t30 false) (binP .gtr t33 t41_12) (.tup [])).bind fun t42 =>
  (pickP t30 (AV.bool true) t42).bind fun t43 =>
  chk [h3, h7, h10, h13] cs_4 (
  condE t43 (
  some ((AV.sl none 0 (.ex 0)), h13)) (
  (nilV x0).bind fun t46 =>
  (faP 1 t46).bind fun t47 =>
  (ldS (hpN h13 1) t47).bind fun t48 =>
  (faP 2 t7).bind fun t49 =>
  (ldS (hpN h13 1) t49).bind fun t50 =>
  cl (k_head_Table_Shape t48 t50 (hpN h13 1)) fun t51 h14 =>
  (extractV 0 t51).bind fun t52 =>
  (extractV 1 t51).bind fun t53 =>
  cl (mkAt Heap.put (some (Blk.cells true [(AV.int .i64 0), (AV.int .i64 0), (AV.int .u64 0)], fun i => AV.ptr (some (i, 0)))) (h13.next + 0) h14) fun t8 h15 =>
  cl (stP 3 h15 t8 t52) fun u_16 h17 =>
  chk [(hpN h13 1), h14, h17] [] (
  (eqP (some (.int .i64)) none false .neq t53 (AV.int .i64 0)).bind fun t55 =>
  condE t55 (
  some ((AV.sl none 0 (.ex 0)), h17)) (
  (faP 0 t7).bind fun t56 =>
  (ldS h17 t56).bind fun t57 =>
  (binP .sub t57 (AV.int .i64 1)).bind fun t58 =>
  lp (k_mark_Marker_Fields_L0 x0 x1 t7 t8 t58 (AV.sl none 0 (.ex 0)) (AV.int .i64 0) h17) fun e vs h37 =>
  thenK (if e = .exit 0 then .normal else e) (
  some ((vs.getD 0 .bot), h37)) (fun e_38 => endE e_38 (some ((AV.sl none 0 (.ex 0)), h37))))))))
def T68 : Tab := (107, p2 k_mark_Marker_Fields) :: T67
/- 80: (*gantline/mark.Marker).Step -/
def k_mark_Marker_Step_b0 (x0 : AV) (t19 : AV) (t20 : AV) (q21 : AV) (h2 : Heap) : OutV :=
  (binP .lss q21 t20).bind fun t22 =>
  condE t22 (
  (iaS 1 t19 q21).bind fun t23 =>
  (ldS h2 t23).bind fun t24 =>
  cl (k_mark_Marker_Shade x0 t24 h2) fun t27 h3 =>
  (binP .add q21 (AV.int .i64 1)).bind fun t28 =>
  some (.normal, [t28], h3)) (
  some ((.exit 0), [q21], h2))
def k_mark_Marker_Step_L0 (x0 : AV) (t19 : AV) (t20 : AV) (q21 : AV) (h2 : Heap) : OutV := loopN (fun us g => k_mark_Marker_Step_b0 x0 t19 t20 (us.getD 0 .bot) g) [q21] h2
def k_mark_Marker_Step (x0 : AV) (h : Heap) : Option (AV × Heap) :=
  (nilV x0).bind fun t9 =>
  (faP 2 t9).bind fun t10 =>
  (ldS h t10).bind fun t11 =>
  cl (k_grey_Queue_Next t11 h) fun t12 h0 =>
  (extractV 0 t12).bind fun t13 =>
  (extractV 1 t12).bind fun t14 =>
  (unA .not t14).bind fun t16 =>
  condE t16 (
  some ((AV.bool false), h0)) (
  cl (k_mark_Marker_Fields x0 t13 h0) fun t19 h1 =>
  (lnL t19).bind fun t20 =>
  lp (k_mark_Marker_Step_L0 x0 t19 t20 (AV.int .i64 0) h1) fun e vs h4 =>
  thenK (if e = .exit 0 then .normal else e) (
  some ((AV.bool true), h4)) (fun e_5 => endE e_5 (some ((AV.bool false), h4))))
def T69 : Tab := (80, p1 k_mark_Marker_Step) :: T68
/- 81: (*gantline/alloc.Alloc).Stale -/
def k_alloc_Alloc_Stale_b0 (x0 : AV) (t7 : AV) (q8 : AV) (h0 : Heap) : OutV :=
  (binP .lss q8 t7).bind fun t9 =>
  condE t9 (
  (nilV x0).bind fun t12 =>
  (faP 1 t12).bind fun t13 =>
  clC (rdC (fun g => ldS g t13) h0 0 1 []) fun t14 cs =>
  (nilV x0).bind fun t17 =>
  (faP 0 t17).bind fun t18 =>
  (ldS h0 t18).bind fun t19 =>
  cl (k_arena_Arena_Class t19 q8 h0) fun t21 h1 =>
  (eqP (some (.int .i64)) none false .neq t21 (AV.int .i64 (-1))).bind fun t22 =>
  (iaS 1 t14 q8).bind fun t23 =>
  cl (stP 1 h1 t23 t22) fun u h2 =>
  chk [h0, h1, h2] cs (
  (binP .add q8 (AV.int .i64 1)).bind fun t24 =>
  some (.normal, [t24], h2))) (
  some ((.exit 0), [q8], h0))
def k_alloc_Alloc_Stale_L0 (x0 : AV) (t7 : AV) (q8 : AV) (h0 : Heap) : OutV := loopN (fun us g => k_alloc_Alloc_Stale_b0 x0 t7 (us.getD 0 .bot) g) [q8] h0
def k_alloc_Alloc_Stale (x0 : AV) (h : Heap) : Option (AV × Heap) :=
  (nilV x0).bind fun t4 =>
  (faP 1 t4).bind fun t5 =>
  (ldS h t5).bind fun t6 =>
  (lnL t6).bind fun t7 =>
  lp (k_alloc_Alloc_Stale_L0 x0 t7 (AV.int .i64 0) h) fun e vs h3 =>
  endE (if e = .exit 0 then .normal else e) (some (AV.tup [], h3))
def T70 : Tab := (81, p1 k_alloc_Alloc_Stale) :: T69
/- 82: (*gantline/alloc.Alloc).SweepOne -/
def k_alloc_Alloc_SweepOne_b0 (x0 : AV) (t8 : AV) (t9 : AV) (q2 : AV) (q10 : AV) (h0 : Heap) : OutV :=
  (binP .lss q10 t9).bind fun t11 =>
  condE t11 (
  (iaS 1 t8 q10).bind fun t13 =>
  (ldS h0 t13).bind fun t14 =>
  condE t14 (
  cl (k_alloc_Alloc_sweep x0 q10 h0) fun t18 h1 =>
  some (.ret, [(AV.bool true), q10], h1)) (
  (binP .add q10 (AV.int .i64 1)).bind fun t19 =>
  some (.normal, [q2, t19], h0))) (
  some ((.exit 0), [q2, q10], h0))
def k_alloc_Alloc_SweepOne_L0 (x0 : AV) (t8 : AV) (t9 : AV) (q2 : AV) (q10 : AV) (h0 : Heap) : OutV := loopN (fun us g => k_alloc_Alloc_SweepOne_b0 x0 t8 t9 (us.getD 0 .bot) (us.getD 1 .bot) g) [q2, q10] h0
def k_alloc_Alloc_SweepOne (x0 : AV) (h : Heap) : Option (AV × Heap) :=
  (nilV x0).bind fun t6 =>
  (faP 1 t6).bind fun t7 =>
  (ldS h t7).bind fun t8 =>
  (lnL t8).bind fun t9 =>
  lp (k_alloc_Alloc_SweepOne_L0 x0 t8 t9 (AV.bool false) (AV.int .i64 0) h) fun e vs h2 =>
  thenK (if e = .exit 0 then .normal else e) (
  some ((AV.bool false), h2)) (fun e_3 => endE e_3 (some ((vs.getD 0 .bot), h2)))
def T71 : Tab := (82, p1 k_alloc_Alloc_SweepOne) :: T70
/- 83: (*gantline/alloc.Alloc).Used -/
def k_alloc_Alloc_Used_b0 (x0 : AV) (t9 : AV) (q3 : AV) (q10 : AV) (h0 : Heap) : OutV :=
  (binP .lss q10 t9).bind fun t11 =>
  condE t11 (
  (nilV x0).bind fun t15 =>
  (faP 0 t15).bind fun t16 =>
  (ldS h0 t16).bind fun t17 =>
  cl (k_arena_Arena_Taken t17 q10 h0) fun t19 h1 =>
  cl (k_bits_Ones t19 h1) fun t20 h2 =>
  (nilV x0).bind fun t22 =>
  (faP 0 t22).bind fun t23 =>
  clC (rdC (fun g => ldS g t23) h2 0 2 []) fun t24 cs =>
  cl (k_arena_Arena_Class t24 q10 h2) fun t26 h3 =>
  cl (k_geom_Words t26 h3) fun t27 h4 =>
  (binP .mul t20 t27).bind fun t28 =>
  (binP .add q3 t28).bind fun t29 =>
  chk [h0, h1, h2, h3, h4] cs (
  (binP .add q10 (AV.int .i64 1)).bind fun t30 =>
  some (.normal, [t29, t30], h4))) (
  some ((.exit 0), [q3, q10], h0))
def k_alloc_Alloc_Used_L0 (x0 : AV) (t9 : AV) (q3 : AV) (q10 : AV) (h0 : Heap) : OutV := loopN (fun us g => k_alloc_Alloc_Used_b0 x0 t9 (us.getD 0 .bot) (us.getD 1 .bot) g) [q3, q10] h0
def k_alloc_Alloc_Used (x0 : AV) (h : Heap) : Option (AV × Heap) :=
  (nilV x0).bind fun t6 =>
  (faP 1 t6).bind fun t7 =>
  (ldS h t7).bind fun t8 =>
  (lnL t8).bind fun t9 =>
  lp (k_alloc_Alloc_Used_L0 x0 t9 (AV.int .i64 0) (AV.int .i64 0) h) fun e vs h5 =>
  thenK (if e = .exit 0 then .normal else e) (
  some ((vs.getD 0 .bot), h5)) (fun e_6 => endE e_6 (some ((AV.int .i64 0), h5)))
def T72 : Tab := (83, p1 k_alloc_Alloc_Used) :: T71
/- 61: (*gantline/cycle.Cycle).Step -/
def k_cycle_Cycle_Step (x0 : AV) (x1 : AV) (h : Heap) : Option (AV × Heap) :=
  (nilV x0).bind fun t10 =>
  (faP 4 t10).bind fun t11 =>
  (ldS h t11).bind fun t12 =>
  (eqP (some (.int .i64)) none false .eql t12 (AV.int .i64 1)).bind fun t14 =>
  condE t14 (
  cl (k_cycle_Cycle_next x0 x1 h) fun t18 h73 =>
  (extractV 0 t18).bind fun t19 =>
  (extractV 1 t18).bind fun t20 =>
  condE t20 (
  cl (k_cycle_Cycle_Scan x0 x1 t19 h73) fun t25 h82 =>
  some ((AV.bool true), h82)) (
  (nilV x0).bind fun t27 =>
  (faP 4 t27).bind fun t28 =>
  cl (stP 1 h73 t28 (AV.int .i64 2)) fun u h83 =>
  some ((AV.bool true), h83))) (
  (eqP (some (.int .i64)) none false .eql t12 (AV.int .i64 2)).bind fun t30 =>
  condE t30 (
  (nilV x0).bind fun t32 =>
  (faP 3 t32).bind fun t33 =>
  (ldS h t33).bind fun t34 =>
  cl (k_mark_Marker_Step t34 h) fun t35 h138 =>
  condE t35 (
  some ((AV.bool true), h138)) (
  cl (k_cycle_Cycle_next x0 x1 h138) fun t39 h139 =>
  (extractV 0 t39).bind fun t40 =>
  (extractV 1 t39).bind fun t41 =>
  condE t41 (
  (nilV x0).bind fun t44 =>
  (faP 4 t44).bind fun t45 =>
  cl (stP 1 h139 t45 (AV.int .i64 1)) fun u_152 h153 =>
  some ((AV.bool true), h153)) (
  (nilV x0).bind fun t47 =>
  (faP 4 t47).bind fun t48 =>
  cl (stP 1 h139 t48 (AV.int .i64 3)) fun u_154 h155 =>
  (nilV x0).bind fun t50 =>
  (faP 2 t50).bind fun t51 =>
  (ldS h155 t51).bind fun t52 =>
  cl (k_alloc_Alloc_Stale t52 h155) fun t53 h156 =>
  some ((AV.bool true), h156)))) (
  (eqP (some (.int .i64)) none false .eql t12 (AV.int .i64 3)).bind fun t55 =>
  condE t55 (
  (nilV x0).bind fun t57 =>
  (faP 2 t57).bind fun t58 =>
  (ldS h t58).bind fun t59 =>
  cl (k_alloc_Alloc_SweepOne t59 h) fun t60 h184 =>
  (unA .not t60).bind fun t61 =>
  condE t61 (
  (nilV x0).bind fun t63 =>
  (faP 4 t63).bind fun t64 =>
  cl (stP 1 h184 t64 (AV.int .i64 0)) fun u_205 h206 =>
  (nilV x0).bind fun t66 =>
  (faP 6 t66).bind fun t67 =>
  (ldS h206 t67).bind fun t68 =>
  (binP .add t68 (AV.int .i64 1)).bind fun t69 =>
  (nilV x0).bind fun t70 =>
  (faP 6 t70).bind fun t71 =>
  cl (stP 1 h206 t71 t69) fun u_207 h208 =>
  (nilV x0).bind fun t74 =>
  (faP 2 t74).bind fun t75 =>
  (ldS h208 t75).bind fun t76 =>
  cl (k_alloc_Alloc_Used t76 h208) fun t77 h209 =>
  (maxP t77 (AV.int .i64 64)).bind fun t78 =>
  (nilV x0).bind fun t79 =>
  (faP 7 t79).bind fun t80 =>
  cl (stP 1 h209 t80 t78) fun u_210 h211 =>
  some ((AV.bool true), h211)) (
  some ((AV.bool true), h184))) (
  some ((AV.bool false), h))))
def T73 : Tab := (61, p2 k_cycle_Cycle_Step) :: T72
/- 84: (*gantline/arena.Arena).Clear -/
def k_arena_Arena_Clear_b0 (x0 : AV) (t7 : AV) (q8 : AV) (h0 : Heap) : OutV :=
  (binP .lss q8 t7).bind fun t9 =>
  condE t9 (
  (nilV x0).bind fun t12 =>
  (faP 1 t12).bind fun t13 =>
  (ldS h0 t13).bind fun t14 =>
  (iaS 3 t14 q8).bind fun t16 =>
  (faP 2 t16).bind fun t17 =>
  cl (stP 1 h0 t17 (AV.int .u64 0)) fun u h1 =>
  (binP .add q8 (AV.int .i64 1)).bind fun t18 =>
  some (.normal, [t18], h1)) (
  some ((.exit 0), [q8], h0))
def k_arena_Arena_Clear_L0 (x0 : AV) (t7 : AV) (q8 : AV) (h0 : Heap) : OutV := loopN (fun us g => k_arena_Arena_Clear_b0 x0 t7 (us.getD 0 .bot) g) [q8] h0
def k_arena_Arena_Clear (x0 : AV) (h : Heap) : Option (AV × Heap) :=
  (nilV x0).bind fun t4 =>
  (faP 1 t4).bind fun t5 =>
  (ldS h t5).bind fun t6 =>
  (lnL t6).bind fun t7 =>
  lp (k_arena_Arena_Clear_L0 x0 t7 (AV.int .i64 0) h) fun e vs h2 =>
  endE (if e = .exit 0 then .normal else e) (some (AV.tup [], h2))
def T74 : Tab := (84, p1 k_arena_Arena_Clear) :: T73
/- 62: (*gantline/cycle.Cycle).Start -/
def k_cycle_Cycle_Start (x0 : AV) (x1 : AV) (h : Heap) : Option (AV × Heap) :=
  (nilV x0).bind fun t6 =>
  (faP 4 t6).bind fun t7 =>
  (ldS h t7).bind fun t8 =>
  (eqP (some (.int .i64)) none false .neq t8 (AV.int .i64 0)).bind fun t9 =>
  condE t9 (
  some ((AV.bool false), h)) (
  (nilV x0).bind fun t11 =>
  (faP 0 t11).bind fun t12 =>
  (ldS h t12).bind fun t13 =>
  cl (k_arena_Arena_Clear t13 h) fun t14 h0 =>
  (nilV x0).bind fun t16 =>
  (faP 4 t16).bind fun t17 =>
  cl (stP 1 h0 t17 (AV.int .i64 1)) fun u h1 =>
  (nilV x0).bind fun t19 =>
  (faP 5 t19).bind fun t20 =>
  (ldS h1 t20).bind fun t21 =>
  cl (clM h1 t21) fun u_2 h3 =>
  clF (lookT T74) (ivP [(30, 134), (66, 138)] x1 []) h3 fun t24 h4 =>
  cl (k_cycle_Cycle_shade x0 t24 h4) fun t25 h5 =>
  some ((AV.bool true), h5))
def T75 : Tab := (62, p2 k_cycle_Cycle_Start) :: T74
/- 34: (*gantline/cycle.Cycle).Whole -/
def k_cycle_Cycle_Whole_b0 (x0 : AV) (x1 : AV) (h0 : Heap) : OutV :=
  cl (k_cycle_Cycle_Step x0 x1 h0) fun t6 h1 =>
  condE t6 (
  some (.normal, [], h1)) (
  some ((.exit 0), [], h1))
def k_cycle_Cycle_Whole_L0 (x0 : AV) (x1 : AV) (h0 : Heap) : OutV := loopN (fun us g => k_cycle_Cycle_Whole_b0 x0 x1 g) [] h0
def k_cycle_Cycle_Whole_b1 (x0 : AV) (x1 : AV) (h4 : Heap) : OutV :=
  cl (k_cycle_Cycle_Step x0 x1 h4) fun t12 h5 =>
  condE t12 (
  some (.normal, [], h5)) (
  some ((.exit 2), [], h5))
def k_cycle_Cycle_Whole_L1 (x0 : AV) (x1 : AV) (h4 : Heap) : OutV := loopN (fun us g => k_cycle_Cycle_Whole_b1 x0 x1 g) [] h4
def k_cycle_Cycle_Whole (x0 : AV) (x1 : AV) (h : Heap) : Option (AV × Heap) :=
  lp (k_cycle_Cycle_Whole_L0 x0 x1 h) fun e vs h2 =>
  thenK (if e = .exit 0 then .normal else e) (
  cl (k_cycle_Cycle_Start x0 x1 h2) fun t9 h3 =>
  lp (k_cycle_Cycle_Whole_L1 x0 x1 h3) fun e_6 vs_7 h8 =>
  endE (if e_6 = .exit 2 then .normal else e_6) (some (AV.tup [], h8))) (fun e_9 => endE e_9 (some (AV.tup [], h2)))
def T76 : Tab := (34, p2 k_cycle_Cycle_Whole) :: T75
/- 45: gantline/head.Pack -/
def k_head_Pack (x0 : AV) (h : Heap) : Option (AV × Heap) :=
  mk Heap.new (bxP x0) h fun t1 h0 =>
  (ldA 3 h0 t1).bind fun t5 =>
  cl (k_head_may t5 h0) fun t6 h1 =>
  (unA .not t6).bind fun t7 =>
  condE t7 (
  some (AV.tup [(AV.int .i64 0), (AV.int .i64 1)], h1)) (
  (faP 0 t1).bind fun t8 =>
  (ldS h1 t8).bind fun t9 =>
  (cvI .u64 t9).bind fun t10 =>
  (faP 1 t1).bind fun t11 =>
  (ldS h1 t11).bind fun t12 =>
  (cvI .u64 t12).bind fun t13 =>
  cl (k_bits_With t10 (AV.int .i64 7) (AV.int .i64 3) t13 h1) fun t14 h2 =>
  (faP 2 t1).bind fun t16 =>
  (ldS h2 t16).bind fun t17 =>
  (cvI .u64 t17).bind fun t18 =>
  cl (k_bits_With t14 (AV.int .i64 10) (AV.int .i64 16) t18 h2) fun t19 h3 =>
  (cvI .i64 t19).bind fun t20 =>
  some (AV.tup [t20, (AV.int .i64 0)], h3))
def T77 : Tab := (45, p1 k_head_Pack) :: T76
/- 35: (*gantline/cycle.Cycle).Arena -/
def k_cycle_Cycle_Arena (x0 : AV) (h : Heap) : Option (AV × Heap) :=
  (nilV x0).bind fun t4 =>
  (faP 0 t4).bind fun t5 =>
  (ldS h t5).bind fun t6 =>
  some (t6, h)
def T78 : Tab := (35, p1 k_cycle_Cycle_Arena) :: T77
/- 46: (*gantline/arena.Arena).Write -/
def k_arena_Arena_Write (x0 : AV) (x1 : AV) (x2 : AV) (x3 : AV) (h : Heap) : Option (AV × Heap) :=
  cl (k_arena_Arena_word x0 x1 x2 h) fun t13 h0 =>
  (eqP (some (.pointer 0)) none false .eql t13 (AV.ptr none)).bind fun t15 =>
  condE t15 (
  some ((AV.int .i64 1), h0)) (
  (nilV t13).bind fun t18 =>
  cl (stP 1 h0 t18 x3) fun u h1 =>
  some ((AV.int .i64 0), h1))
def T79 : Tab := (46, p4 k_arena_Arena_Write) :: T78
/- 12: (*gantline/heap.Heap).Make -/
def k_heap_Heap_Make_j0 (x0 : AV) (x2 : AV) (t10 : AV) (q11 : AV) (q12 : AV) (h21 : Heap) : Option (AV × Heap) :=
  (eqP (some (.int .i64)) none false .neq q12 (AV.int .i64 0)).bind fun t76 =>
  condE t76 (
  some (AV.tup [(AV.int .i64 0), q12], h21)) (
  (nilV x0).bind fun t80 =>
  (faP 0 t80).bind fun t81 =>
  (ldS h21 t81).bind fun t82 =>
  cl (k_cycle_Cycle_Table t82 h21) fun t83 h22 =>
  clC (rdC (fun g => ldA 3 g t10) h22 0 1 []) fun t84 cs =>
  cl (k_head_Table_Number t83 t84 h22) fun t85 h23 =>
  (extractV 0 t85).bind fun t86 =>
  (extractV 1 t85).bind fun t87 =>
  chk [h21, h22, h23] cs (
  (faP 0 t10).bind fun t90 =>
  (ldS h23 t90).bind fun t91 =>
  (bldS [(0, 1), (1, 1), (2, 1)] [(AV.int .i64 0), (AV.int .i64 0), (AV.int .i64 0)] [(0, x2), (1, t91), (2, t86)]).bind fun t93 =>
  cl (k_head_Pack t93 h23) fun t94 h24 =>
  (extractV 0 t94).bind fun t95 =>
  (extractV 1 t94).bind fun t96 =>
  (eqP (some (.int .i64)) none false .neq t96 (AV.int .i64 0)).bind fun t98 =>
  condE t98 (
  some (AV.tup [(AV.int .i64 0), t96], h24)) (
  (nilV x0).bind fun t101 =>
  (faP 0 t101).bind fun t102 =>
  (ldS h24 t102).bind fun t103 =>
  cl (k_cycle_Cycle_Arena t103 h24) fun t104 h25 =>
  cl (k_arena_Arena_Write t104 q11 (AV.int .i64 0) t95 h25) fun t107 h26 =>
  some (AV.tup [q11, (AV.int .i64 0)], h26))))
def k_heap_Heap_Make (x0 : AV) (x1 : AV) (x2 : AV) (x3 : AV) (h : Heap) : Option (AV × Heap) :=
  (binP .lss x1 (AV.int .i64 0)).bind fun t17 =>
  gQ (gdW t17 false) h (some (x1, h)) fun t19 h0 =>
  gQ (gdW t17 false) h0 (some (x0, h0)) fun t20 h1 =>
  gQ (gdW t17 false) h1 ((nilV t20).bind fun t21 =>
  some (t21, h1)) fun t21_2 h3 =>
  gQ (gdW t17 false) h3 ((faP 1 t21_2).bind fun t22 =>
  some (t22, h3)) fun t22_4 h5 =>
  gQ (gdW t17 false) h5 ((ldS h5 t22_4).bind fun t23 =>
  some (t23, h5)) fun t23_6 h7 =>
  gQ (gdW t17 false) h7 ((lnL t23_6).bind fun t24 =>
  some (t24, h7)) fun t24_8 h9 =>
  gQ (gdW t17 false) h9 ((binP .geq t19 t24_8).bind fun t25 =>
  some (t25, h9)) fun t25_10 h11 =>
  (pickP t17 (AV.bool true) t25_10).bind fun t26 =>
  gQ (gdW t26 false) h11 (some (x2, h11)) fun t28 h12 =>
  gQ (gdW t26 false) h12 ((binP .lss t28 (AV.int .i64 1)).bind fun t29 =>
  some (t29, h12)) fun t29_13 h14 =>
  (pickP t26 (AV.bool true) t29_13).bind fun t30 =>
  gQ (gdW t30 false) h14 (some (x2, h14)) fun t32 h15 =>
  gQ (gdW t30 false) h15 ((binP .gtr t32 (AV.int .i64 64)).bind fun t33 =>
  some (t33, h15)) fun t33_16 h17 =>
  (pickP t30 (AV.bool true) t33_16).bind fun t34 =>
  condE t34 (
  some (AV.tup [(AV.int .i64 0), (AV.int .i64 1)], h17)) (
  (nilV x0).bind fun t36 =>
  (faP 1 t36).bind fun t37 =>
  (ldS h17 t37).bind fun t38 =>
  (iaS 3 t38 x1).bind fun t40 =>
  (ldA 3 h17 t40).bind fun t41 =>
  mk Heap.new (some (Blk.cells true [(AV.int .i64 0), (AV.int .i64 0), (AV.int .u64 0)], fun i => AV.ptr (some (i, 0)))) h17 fun t10 h18 =>
  cl (stP 3 h18 t10 t41) fun u h19 =>
  (nilV x0).bind fun t44 =>
  (faP 0 t44).bind fun t45 =>
  (ldS h19 t45).bind fun t46 =>
  cl (k_cycle_Cycle_Take t46 x2 h19) fun t48 h20 =>
  (extractV 0 t48).bind fun t49 =>
  (extractV 1 t48).bind fun t50 =>
  (eqP (some (.int .i64)) none false .eql t50 (AV.int .i64 5)).bind fun t52 =>
  condE t52 (
  (nilV x0).bind fun t54 =>
  (faP 0 t54).bind fun t55 =>
  (ldS h20 t55).bind fun t56 =>
  cl (k_cycle_Cycle_Whole t56 x3 h20) fun t58 h27 =>
  (nilV x0).bind fun t60 =>
  (faP 2 t60).bind fun t61 =>
  (ldS h27 t61).bind fun t62 =>
  (binP .add t62 (AV.int .i64 1)).bind fun t63 =>
  (nilV x0).bind fun t64 =>
  (faP 2 t64).bind fun t65 =>
  cl (stP 1 h27 t65 t63) fun u_28 h29 =>
  (nilV x0).bind fun t68 =>
  (faP 0 t68).bind fun t69 =>
  (ldS h29 t69).bind fun t70 =>
  cl (k_cycle_Cycle_Take t70 x2 h29) fun t72 h30 =>
  (extractV 0 t72).bind fun t73 =>
  (extractV 1 t72).bind fun t74 =>
  k_heap_Heap_Make_j0 x0 x2 t10 t73 t74 h30) (
  k_heap_Heap_Make_j0 x0 x2 t10 t49 t50 h20))
def T80 : Tab := (12, p4 k_heap_Heap_Make) :: T79
/- 16: (*gantline/heap.Heap).Of -/
def k_heap_Heap_Of (x0 : AV) (x1 : AV) (h : Heap) : Option (AV × Heap) :=
  mk Heap.new (some (Blk.cells true [(AV.int .i64 0), (AV.int .i64 0), (AV.int .i64 0)], fun i => AV.ptr (some (i, 0)))) h fun t4 h0 =>
  mk Heap.new (some (Blk.cells true [(AV.int .i64 0), (AV.int .i64 0), (AV.int .u64 0)], fun i => AV.ptr (some (i, 0)))) h0 fun t5 h1 =>
  (nilV x0).bind fun t13 =>
  (faP 0 t13).bind fun t14 =>
  (ldS h1 t14).bind fun t15 =>
  cl (k_cycle_Cycle_Arena t15 h1) fun t16 h2 =>
  cl (k_arena_Arena_Read t16 x1 (AV.int .i64 0) h2) fun t18 h3 =>
  (extractV 0 t18).bind fun t19 =>
  (extractV 1 t18).bind fun t20 =>
  (eqP (some (.int .i64)) none false .neq t20 (AV.int .i64 0)).bind fun t22 =>
  condE t22 (
  (bldS [(0, 1), (1, 1), (2, 1)] [(AV.int .i64 0), (AV.int .i64 0), (AV.int .i64 0)] []).bind fun t23 =>
  (bldS [(0, 1), (1, 1), (2, 1)] [(AV.int .i64 0), (AV.int .i64 0), (AV.int .u64 0)] []).bind fun t24 =>
  cl (stP 3 h3 t4 t23) fun u h4 =>
  cl (stP 3 h4 t5 t24) fun u_5 h6 =>
  (ldA 3 h6 t4).bind fun t =>
  (ldA 3 h6 t5).bind fun t_7 =>
  some (AV.tup [t, t_7, (AV.bool false)], h6)) (
  cl (k_head_Unpack t19 h3) fun t27 h8 =>
  (extractV 0 t27).bind fun t28 =>
  (extractV 1 t27).bind fun t29 =>
  mk Heap.new (some (Blk.cells true [(AV.int .i64 0), (AV.int .i64 0), (AV.int .i64 0)], fun i => AV.ptr (some (i, 0)))) h8 fun t9 h9 =>
  cl (stP 3 h9 t9 t28) fun u_10 h11 =>
  (eqP (some (.int .i64)) none false .neq t29 (AV.int .i64 0)).bind fun t31 =>
  condE t31 (
  (bldS [(0, 1), (1, 1), (2, 1)] [(AV.int .i64 0), (AV.int .i64 0), (AV.int .i64 0)] []).bind fun t32 =>
  (bldS [(0, 1), (1, 1), (2, 1)] [(AV.int .i64 0), (AV.int .i64 0), (AV.int .u64 0)] []).bind fun t33 =>
  cl (stP 3 h11 t4 t32) fun u_12 h13 =>
  cl (stP 3 h13 t5 t33) fun u_14 h15 =>
  (ldA 3 h15 t4).bind fun t_16 =>
  (ldA 3 h15 t5).bind fun t_17 =>
  some (AV.tup [t_16, t_17, (AV.bool false)], h15)) (
  (nilV x0).bind fun t36 =>
  (faP 0 t36).bind fun t37 =>
  (ldS (hpN h11 1) t37).bind fun t38 =>
  cl (k_cycle_Cycle_Table t38 (hpN h11 1)) fun t39 h18 =>
  (faP 2 t9).bind fun t40 =>
  clC (rdC (fun g => ldS g t40) h18 0 1 []) fun t41 cs =>
  cl (k_head_Table_Shape t39 t41 h18) fun t42 h19 =>
  (extractV 0 t42).bind fun t43 =>
  (extractV 1 t42).bind fun t44 =>
  cl (mkAt Heap.put (some (Blk.cells true [(AV.int .i64 0), (AV.int .i64 0), (AV.int .u64 0)], fun i => AV.ptr (some (i, 0)))) (h11.next + 0) h19) fun t10 h20 =>
  cl (stP 3 h20 t10 t43) fun u_21 h22 =>
  chk [(hpN h11 1), h18, h19, h22] cs (
  (eqP (some (.int .i64)) none false .neq t44 (AV.int .i64 0)).bind fun t46 =>
  condE t46 (
  (bldS [(0, 1), (1, 1), (2, 1)] [(AV.int .i64 0), (AV.int .i64 0), (AV.int .i64 0)] []).bind fun t47 =>
  (bldS [(0, 1), (1, 1), (2, 1)] [(AV.int .i64 0), (AV.int .i64 0), (AV.int .u64 0)] []).bind fun t48 =>
  cl (stP 3 h22 t4 t47) fun u_23 h24 =>
  cl (stP 3 h24 t5 t48) fun u_25 h26 =>
  (ldA 3 h26 t4).bind fun t_27 =>
  (ldA 3 h26 t5).bind fun t_28 =>
  some (AV.tup [t_27, t_28, (AV.bool false)], h26)) (
  (ldA 3 h22 t9).bind fun t49 =>
  clC (rdC (fun g => ldA 3 g t10) h22 0 1 []) fun t50 cs_29 =>
  cl (stP 3 h22 t4 t49) fun u_30 h31 =>
  cl (stP 3 h31 t5 t50) fun u_32 h33 =>
  chk [h22, h31, h33] cs_29 (
  (ldA 3 h33 t4).bind fun t_34 =>
  (ldA 3 h33 t5).bind fun t_35 =>
  some (AV.tup [t_34, t_35, (AV.bool true)], h33))))))
def T81 : Tab := (16, p2 k_heap_Heap_Of) :: T80
/- 65: (*gantline/heap.Heap).field -/
def k_heap_Heap_field (x0 : AV) (x1 : AV) (x2 : AV) (x3 : AV) (h : Heap) : Option (AV × Heap) :=
  cl (k_heap_Heap_Of x0 x1 h) fun t15 h0 =>
  (extractV 0 t15).bind fun t16 =>
  (extractV 1 t15).bind fun t17 =>
  (extractV 2 t15).bind fun t18 =>
  mk Heap.new (some (Blk.cells true [(AV.int .i64 0), (AV.int .i64 0), (AV.int .i64 0)], fun i => AV.ptr (some (i, 0)))) h0 fun t9 h1 =>
  mk Heap.new (some (Blk.cells true [(AV.int .i64 0), (AV.int .i64 0), (AV.int .u64 0)], fun i => AV.ptr (some (i, 0)))) h1 fun t10 h2 =>
  cl (stP 3 h2 t9 t16) fun u h3 =>
  cl (stP 3 h3 t10 t17) fun u_4 h5 =>
  gQ (gdW t18 true) h5 ((faP 1 t9).bind fun t21 =>
  some (t21, h5)) fun t21_6 h7 =>
  gQ (gdW t18 true) h7 ((ldS h7 t21_6).bind fun t22 =>
  some (t22, h7)) fun t22_8 h9 =>
  gQ (gdW t18 true) h9 ((eqP (some (.int .i64)) none false .eql t22_8 (AV.int .i64 0)).bind fun t23 =>
  some (t23, h9)) fun t23_10 h11 =>
  (pickP t18 t23_10 (AV.bool false)).bind fun t24 =>
  gQ (gdW t24 true) h11 (some (x2, h11)) fun t26 h12 =>
  gQ (gdW t24 true) h12 ((binP .geq t26 (AV.int .i64 0)).bind fun t27 =>
  some (t27, h12)) fun t27_13 h14 =>
  (pickP t24 t27_13 (AV.bool false)).bind fun t28 =>
  gQ (gdW t28 true) h14 (some (x2, h14)) fun t30 h15 =>
  gQ (gdW t28 true) h15 ((faP 1 t10).bind fun t31 =>
  some (t31, h15)) fun t31_16 h17 =>
  gQ (gdW t28 true) h17 ((ldS h17 t31_16).bind fun t32 =>
  some (t32, h17)) fun t32_18 h19 =>
  gQ (gdW t28 true) h19 ((binP .lss t30 t32_18).bind fun t33 =>
  some (t33, h19)) fun t33_20 h21 =>
  (pickP t28 t33_20 (AV.bool false)).bind fun t34 =>
  gQ (gdW t34 true) h21 (some (x2, h21)) fun t36 h22 =>
  gQ (gdW t34 true) h22 ((faP 0 t9).bind fun t37 =>
  some (t37, h22)) fun t37_23 h24 =>
  gQ (gdW t34 true) h24 ((ldS h24 t37_23).bind fun t38 =>
  some (t38, h24)) fun t38_25 h26 =>
  gQ (gdW t34 true) h26 ((binP .sub t38_25 (AV.int .i64 1)).bind fun t39 =>
  some (t39, h26)) fun t39_27 h28 =>
  gQ (gdW t34 true) h28 ((binP .lss t36 t39_27).bind fun t40 =>
  some (t40, h28)) fun t40_29 h30 =>
  (pickP t34 t40_29 (AV.bool false)).bind fun t41 =>
  gQ (gdW t41 true) h30 ((ldA 3 h30 t10).bind fun t43 =>
  some (t43, h30)) fun t43_31 h32 =>
  gQ (gdW t41 true) h32 (some (x2, h32)) fun t44 h33 =>
  gQ (gdW t41 true) h33 ((faP 0 t9).bind fun t45 =>
  some (t45, h33)) fun t45_34 h35 =>
  gQ (gdW t41 true) h35 ((ldS h35 t45_34).bind fun t46 =>
  some (t46, h35)) fun t46_36 h37 =>
  gQ (gdW t41 true) h37 (cl (k_head_Shape_Holds t43_31 t44 t46_36 h37) fun t47 h38 =>
  some (t47, h38)) fun t47_39 h40 =>
  gQ (gdW t41 true) h40 (some (x3, h40)) fun t48 h41 =>
  gQ (gdW t41 true) h41 ((eqP (some .bool) none false .eql t47_39 t48).bind fun t49 =>
  some (t49, h41)) fun t49_42 h43 =>
  (pickP t41 t49_42 (AV.bool false)).bind fun t50 =>
  some (t50, h43)
def T82 : Tab := (65, p4 k_heap_Heap_field) :: T81
/- 38: (*gantline/heap.Heap).Get -/
def k_heap_Heap_Get (x0 : AV) (x1 : AV) (x2 : AV) (x3 : AV) (h : Heap) : Option (AV × Heap) :=
  cl (k_heap_Heap_field x0 x1 x2 x3 h) fun t16 h0 =>
  (unA .not t16).bind fun t17 =>
  condE t17 (
  some (AV.tup [(AV.int .i64 0), (AV.int .i64 1)], h0)) (
  (nilV x0).bind fun t20 =>
  (faP 0 t20).bind fun t21 =>
  (ldS h0 t21).bind fun t22 =>
  cl (k_cycle_Cycle_Arena t22 h0) fun t23 h1 =>
  (binP .add x2 (AV.int .i64 1)).bind fun t26 =>
  cl (k_arena_Arena_Read t23 x1 t26 h1) fun t27 h2 =>
  (extractV 0 t27).bind fun t28 =>
  (extractV 1 t27).bind fun t29 =>
  some (AV.tup [t28, (AV.int .i64 0)], h2))
def T83 : Tab := (38, p4 k_heap_Heap_Get) :: T82
/- 60: (*gantline/cycle.Cycle).Barrier -/
def k_cycle_Cycle_Barrier (x0 : AV) (x1 : AV) (x2 : AV) (x3 : AV) (h : Heap) : Option (AV × Heap) :=
  cl (k_cycle_Cycle_shades x0 h) fun t9 h0 =>
  (unA .not t9).bind fun t10 =>
  condE t10 (
  some (AV.tup [], h0)) (
  (nilV x0).bind fun t12 =>
  (faP 3 t12).bind fun t13 =>
  (ldS h0 t13).bind fun t14 =>
  cl (k_mark_Marker_Shade t14 x1 h0) fun t16 h1 =>
  (nilV x0).bind fun t18 =>
  (faP 5 t18).bind fun t19 =>
  (ldS h1 t19).bind fun t20 =>
  (lkP (fdA (.int .i64)) (AV.bool false) false h1 t20 x3).bind fun t22 =>
  (unA .not t22).bind fun t23 =>
  condE t23 (
  (nilV x0).bind fun t25 =>
  (faP 3 t25).bind fun t26 =>
  (ldS h1 t26).bind fun t27 =>
  cl (k_mark_Marker_Shade t27 x2 h1) fun t29 h3 =>
  some (AV.tup [], h3)) (
  some (AV.tup [], h1)))
def T84 : Tab := (60, p4 k_cycle_Cycle_Barrier) :: T83
/- 54: (*gantline/heap.Heap).write -/
def k_heap_Heap_write_j0 (x0 : AV) (x1 : AV) (x2 : AV) (x3 : AV) (h0 : Heap) : Option (AV × Heap) :=
  (nilV x0).bind fun t36 =>
  (faP 0 t36).bind fun t37 =>
  (ldS h0 t37).bind fun t38 =>
  cl (k_cycle_Cycle_Arena t38 h0) fun t39 h1 =>
  (binP .add x2 (AV.int .i64 1)).bind fun t42 =>
  cl (k_arena_Arena_Write t39 x1 t42 x3 h1) fun t44 h2 =>
  some (AV.tup [], h2)
def k_heap_Heap_write (x0 : AV) (x1 : AV) (x2 : AV) (x3 : AV) (x4 : AV) (x5 : AV) (h : Heap) : Option (AV × Heap) :=
  condE x4 (
  (nilV x0).bind fun t17 =>
  (faP 0 t17).bind fun t18 =>
  (ldS h t18).bind fun t19 =>
  cl (k_cycle_Cycle_Arena t19 h) fun t20 h3 =>
  (binP .add x2 (AV.int .i64 1)).bind fun t23 =>
  cl (k_arena_Arena_Read t20 x1 t23 h3) fun t24 h4 =>
  (extractV 0 t24).bind fun t25 =>
  (extractV 1 t24).bind fun t26 =>
  (nilV x0).bind fun t28 =>
  (faP 0 t28).bind fun t29 =>
  (ldS h4 t29).bind fun t30 =>
  cl (k_cycle_Cycle_Barrier t30 t25 x3 x5 h4) fun t34 h5 =>
  k_heap_Heap_write_j0 x0 x1 x2 x3 h5) (
  k_heap_Heap_write_j0 x0 x1 x2 x3 h)
def T85 : Tab := (54, p6 k_heap_Heap_write) :: T84
/- 39: (*gantline/heap.Heap).Set -/
def k_heap_Heap_Set (x0 : AV) (x1 : AV) (x2 : AV) (x3 : AV) (x4 : AV) (x5 : AV) (x6 : AV) (h : Heap) : Option (AV × Heap) :=
  cl (k_heap_Heap_field x0 x1 x2 x4 h) fun t19 h0 =>
  (unA .not t19).bind fun t20 =>
  condE t20 (
  some ((AV.int .i64 1), h0)) (
  gQ (gdW x4 true) h0 (some (x5, h0)) fun t27 h1 =>
  (pickP x4 t27 (AV.bool false)).bind fun t28 =>
  cl (k_heap_Heap_write x0 x1 x2 x3 t28 x6 h1) fun t30 h2 =>
  some ((AV.int .i64 0), h2))
def T86 : Tab := (39, p7 k_heap_Heap_Set) :: T85
/- 53: (*gantline/heap.Heap).element -/
def k_heap_Heap_element (x0 : AV) (x1 : AV) (x2 : AV) (x3 : AV) (h : Heap) : Option (AV × Heap) :=
  cl (k_heap_Heap_Of x0 x1 h) fun t15 h0 =>
  (extractV 0 t15).bind fun t16 =>
  (extractV 1 t15).bind fun t17 =>
  (extractV 2 t15).bind fun t18 =>
  mk Heap.new (some (Blk.cells true [(AV.int .i64 0), (AV.int .i64 0), (AV.int .i64 0)], fun i => AV.ptr (some (i, 0)))) h0 fun t9 h1 =>
  mk Heap.new (some (Blk.cells true [(AV.int .i64 0), (AV.int .i64 0), (AV.int .u64 0)], fun i => AV.ptr (some (i, 0)))) h1 fun t10 h2 =>
  cl (stP 3 h2 t9 t16) fun u h3 =>
  cl (stP 3 h3 t10 t17) fun u_4 h5 =>
  (unA .not t18).bind fun t21 =>
  gQ (gdW t21 false) h5 ((faP 1 t9).bind fun t23 =>
  some (t23, h5)) fun t23_6 h7 =>
  gQ (gdW t21 false) h7 ((ldS h7 t23_6).bind fun t24 =>
  some (t24, h7)) fun t24_8 h9 =>
  gQ (gdW t21 false) h9 ((eqP (some (.int .i64)) none false .neq t24_8 (AV.int .i64 1)).bind fun t25 =>
  some (t25, h9)) fun t25_10 h11 =>
  (pickP t21 (AV.bool true) t25_10).bind fun t26 =>
  gQ (gdW t26 false) h11 ((faP 2 t10).bind fun t28 =>
  some (t28, h11)) fun t28_12 h13 =>
  gQ (gdW t26 false) h13 ((ldS h13 t28_12).bind fun t29 =>
  some (t29, h13)) fun t29_14 h15 =>
  gQ (gdW t26 false) h15 ((binP .and t29_14 (AV.int .u64 1)).bind fun t30 =>
  some (t30, h15)) fun t30_16 h17 =>
  gQ (gdW t26 false) h17 ((eqP (some (.int .u64)) none false .eql t30_16 (AV.int .u64 1)).bind fun t31 =>
  some (t31, h17)) fun t31_18 h19 =>
  gQ (gdW t26 false) h19 (some (x3, h19)) fun t32 h20 =>
  gQ (gdW t26 false) h20 ((eqP (some .bool) none false .neq t31_18 t32).bind fun t33 =>
  some (t33, h20)) fun t33_21 h22 =>
  (pickP t26 (AV.bool true) t33_21).bind fun t34 =>
  condE t34 (
  some ((AV.int .i64 1), h22)) (
  (binP .lss x2 (AV.int .i64 0)).bind fun t37 =>
  gQ (gdW t37 false) h22 (some (x2, h22)) fun t39 h23 =>
  gQ (gdW t37 false) h23 ((faP 0 t9).bind fun t40 =>
  some (t40, h23)) fun t40_24 h25 =>
  gQ (gdW t37 false) h25 ((ldS h25 t40_24).bind fun t41 =>
  some (t41, h25)) fun t41_26 h27 =>
  gQ (gdW t37 false) h27 ((binP .sub t41_26 (AV.int .i64 1)).bind fun t42 =>
  some (t42, h27)) fun t42_28 h29 =>
  gQ (gdW t37 false) h29 ((binP .geq t39 t42_28).bind fun t43 =>
  some (t43, h29)) fun t43_30 h31 =>
  (pickP t37 (AV.bool true) t43_30).bind fun t44 =>
  condE t44 (
  some ((AV.int .i64 2), h31)) (
  some ((AV.int .i64 0), h31)))
def T87 : Tab := (53, p4 k_heap_Heap_element) :: T86
/- 19: (*gantline/heap.Heap).Put -/
def k_heap_Heap_Put (x0 : AV) (x1 : AV) (x2 : AV) (x3 : AV) (x4 : AV) (x5 : AV) (x6 : AV) (h : Heap) : Option (AV × Heap) :=
  cl (k_heap_Heap_element x0 x1 x2 x4 h) fun t20 h0 =>
  (eqP (some (.int .i64)) none false .neq t20 (AV.int .i64 0)).bind fun t22 =>
  condE t22 (
  some (t20, h0)) (
  gQ (gdW x4 true) h0 (some (x5, h0)) fun t30 h1 =>
  (pickP x4 t30 (AV.bool false)).bind fun t31 =>
  cl (k_heap_Heap_write x0 x1 x2 x3 t31 x6 h1) fun t33 h2 =>
  some ((AV.int .i64 0), h2))
def T88 : Tab := (19, p7 k_heap_Heap_Put) :: T87
/- 20: (*gantline/heap.Heap).At -/
def k_heap_Heap_At (x0 : AV) (x1 : AV) (x2 : AV) (x3 : AV) (h : Heap) : Option (AV × Heap) :=
  cl (k_heap_Heap_element x0 x1 x2 x3 h) fun t17 h0 =>
  (eqP (some (.int .i64)) none false .neq t17 (AV.int .i64 0)).bind fun t19 =>
  condE t19 (
  some (AV.tup [(AV.int .i64 0), t17], h0)) (
  (nilV x0).bind fun t23 =>
  (faP 0 t23).bind fun t24 =>
  (ldS h0 t24).bind fun t25 =>
  cl (k_cycle_Cycle_Arena t25 h0) fun t26 h1 =>
  (binP .add x2 (AV.int .i64 1)).bind fun t29 =>
  cl (k_arena_Arena_Read t26 x1 t29 h1) fun t30 h2 =>
  (extractV 0 t30).bind fun t31 =>
  (extractV 1 t30).bind fun t32 =>
  some (AV.tup [t31, (AV.int .i64 0)], h2))
def T89 : Tab := (20, p4 k_heap_Heap_At) :: T88
/- 18: (*gantline/heap.Heap).Len -/
def k_heap_Heap_Len (x0 : AV) (x1 : AV) (h : Heap) : Option (AV × Heap) :=
  cl (k_heap_Heap_Of x0 x1 h) fun t12 h0 =>
  (extractV 0 t12).bind fun t13 =>
  (extractV 1 t12).bind fun t14 =>
  (extractV 2 t12).bind fun t15 =>
  mk Heap.new (some (Blk.cells true [(AV.int .i64 0), (AV.int .i64 0), (AV.int .i64 0)], fun i => AV.ptr (some (i, 0)))) h0 fun t6 h1 =>
  mk Heap.new (some (Blk.cells true [(AV.int .i64 0), (AV.int .i64 0), (AV.int .u64 0)], fun i => AV.ptr (some (i, 0)))) h1 fun t7 h2 =>
  cl (stP 3 h2 t6 t13) fun u h3 =>
  cl (stP 3 h3 t7 t14) fun u_4 h5 =>
  (unA .not t15).bind fun t17 =>
  gQ (gdW t17 false) h5 ((faP 1 t6).bind fun t19 =>
  some (t19, h5)) fun t19_6 h7 =>
  gQ (gdW t17 false) h7 ((ldS h7 t19_6).bind fun t20 =>
  some (t20, h7)) fun t20_8 h9 =>
  gQ (gdW t17 false) h9 ((eqP (some (.int .i64)) none false .neq t20_8 (AV.int .i64 1)).bind fun t21 =>
  some (t21, h9)) fun t21_10 h11 =>
  (pickP t17 (AV.bool true) t21_10).bind fun t22 =>
  condE t22 (
  some (AV.tup [(AV.int .i64 0), (AV.int .i64 1)], h11)) (
  (faP 0 t6).bind fun t23 =>
  (ldS h11 t23).bind fun t24 =>
  (binP .sub t24 (AV.int .i64 1)).bind fun t25 =>
  some (AV.tup [t25, (AV.int .i64 0)], h11))
def T90 : Tab := (18, p2 k_heap_Heap_Len) :: T89
/- 48: slices.Index[[]gantline/head.Shape,gantline/head.Shape] -/
def k_slices_Index_head_Shape_head_Shape_b0 (x0 : AV) (t3 : AV) (t7 : AV) (q4 : AV) (q8 : AV) (h1 : Heap) : OutV :=
  (binP .lss q8 t7).bind fun t9 =>
  condE t9 (
  (ldA 3 h1 t3).bind fun t11 =>
  (iaS 3 x0 q8).bind fun t14 =>
  (ldA 3 h1 t14).bind fun t15 =>
  (eqP (some (.struct #[])) (some [(0, (.int .i64)), (1, (.int .i64)), (2, (.int .u64))]) false .eql t11 t15).bind fun t16 =>
  chk [h1] [] (
  condE t16 (
  some (.ret, [q8, q8], h1)) (
  (binP .add q8 (AV.int .i64 1)).bind fun t18 =>
  some (.normal, [q4, t18], h1)))) (
  some ((.exit 0), [q4, q8], h1))
def k_slices_Index_head_Shape_head_Shape_L0 (x0 : AV) (t3 : AV) (t7 : AV) (q4 : AV) (q8 : AV) (h1 : Heap) : OutV := loopN (fun us g => k_slices_Index_head_Shape_head_Shape_b0 x0 t3 t7 (us.getD 0 .bot) (us.getD 1 .bot) g) [q4, q8] h1
def k_slices_Index_head_Shape_head_Shape (x0 : AV) (x1 : AV) (h : Heap) : Option (AV × Heap) :=
  mk Heap.new (bxP x1) h fun t3 h0 =>
  (lnL x0).bind fun t7 =>
  lp (k_slices_Index_head_Shape_head_Shape_L0 x0 t3 t7 (AV.int .i64 0) (AV.int .i64 0) h0) fun e vs h2 =>
  thenK (if e = .exit 0 then .normal else e) (
  some ((AV.int .i64 (-1)), h2)) (fun e_3 => endE e_3 (some ((vs.getD 0 .bot), h2)))
def T91 : Tab := (48, p2 k_slices_Index_head_Shape_head_Shape) :: T90
/- 13: (*gantline/heap.Heap).Add -/
def k_heap_Heap_Add (x0 : AV) (x1 : AV) (h : Heap) : Option (AV × Heap) :=
  mk Heap.new (bxP x1) h fun t3 h0 =>
  (ldA 3 h0 t3).bind fun t9 =>
  cl (k_head_Good t9 h0) fun t10 h1 =>
  (unA .not t10).bind fun t11 =>
  condE t11 (
  some (AV.tup [(AV.int .i64 0), (AV.int .i64 1)], h1)) (
  (nilV x0).bind fun t13 =>
  (faP 1 t13).bind fun t14 =>
  (ldS h1 t14).bind fun t15 =>
  (ldA 3 h1 t3).bind fun t16 =>
  cl (k_slices_Index_head_Shape_head_Shape t15 t16 h1) fun t17 h2 =>
  chk [h1, h2] [] (
  (binP .geq t17 (AV.int .i64 0)).bind fun t19 =>
  condE t19 (
  some (AV.tup [t17, (AV.int .i64 0)], h2)) (
  (nilV x0).bind fun t23 =>
  (faP 0 t23).bind fun t24 =>
  (ldS h2 t24).bind fun t25 =>
  cl (k_cycle_Cycle_Table t25 h2) fun t26 h3 =>
  clC (rdC (fun g => ldA 3 g t3) h3 0 1 []) fun t27 cs =>
  cl (k_head_Table_Number t26 t27 h3) fun t28 h4 =>
  (extractV 0 t28).bind fun t29 =>
  (extractV 1 t28).bind fun t30 =>
  chk [h2, h3, h4] cs (
  (eqP (some (.int .i64)) none false .neq t30 (AV.int .i64 0)).bind fun t32 =>
  condE t32 (
  some (AV.tup [(AV.int .i64 0), t30], h4)) (
  (nilV x0).bind fun t36 =>
  (faP 1 t36).bind fun t37 =>
  (ldS (hpN h4 1) t37).bind fun t38 =>
  (ldA 3 (hpN h4 1) t3).bind fun t39 =>
  cl (mkAt Heap.put (bsP 3 [(AV.int .i64 0), (AV.int .i64 0), (AV.int .u64 0)] 1 [(0, t39)]) (h4.next + 0) (hpN h4 1)) fun t40 h5 =>
  cl (appendA h5 3 24 t38 t40) fun t41 h6 =>
  (nilV x0).bind fun t42 =>
  (faP 1 t42).bind fun t43 =>
  cl (stP 1 h6 t43 t41) fun u h7 =>
  chk [(hpN h4 1), h6, h7] [] (
  (nilV x0).bind fun t45 =>
  (faP 1 t45).bind fun t46 =>
  (ldS h7 t46).bind fun t47 =>
  (lnL t47).bind fun t48 =>
  (binP .sub t48 (AV.int .i64 1)).bind fun t49 =>
  some (AV.tup [t49, (AV.int .i64 0)], h7)))))))
def T92 : Tab := (13, p2 k_heap_Heap_Add) :: T91
/- 17: (*gantline/heap.Heap).Forced -/
def k_heap_Heap_Forced (x0 : AV) (h : Heap) : Option (AV × Heap) :=
  (nilV x0).bind fun t4 =>
  (faP 2 t4).bind fun t5 =>
  (ldS h t5).bind fun t6 =>
  some (t6, h)
def T93 : Tab := (17, p1 k_heap_Heap_Forced) :: T92
/- 9: gantline/gantlinelaw14.awake -/
def k_law14_awakeR (h : Heap) : Option (AV × Heap) :=
  cl (k_law14_shapes h) fun t24 h0 =>
  cl (k_heap_New (AV.int .i64 8) t24 h0) fun t25 h1 =>
  (extractV 0 t25).bind fun t26 =>
  (extractV 1 t25).bind fun t27 =>
  (eqP (some (.int .i64)) none false .neq t27 (AV.int .i64 0)).bind fun t29 =>
  gQ (gdW t29 false) h1 (some (t26, h1)) fun t31 h2 =>
  gQ (gdW t29 false) h2 ((eqP (some (.pointer 0)) none false .eql t31 (AV.ptr none)).bind fun t32 =>
  some (t32, h2)) fun t32_3 h4 =>
  (pickP t29 (AV.bool true) t32_3).bind fun t33 =>
  gQ (gdW t33 false) h4 (some (t26, h4)) fun t35 h5 =>
  gQ (gdW t33 false) h5 (cl (k_heap_Heap_Cycle t35 h5) fun t36 h6 =>
  some (t36, h6)) fun t36_7 h8 =>
  gQ (gdW t33 false) h8 ((eqP (some (.pointer 0)) none false .eql t36_7 (AV.ptr none)).bind fun t37 =>
  some (t37, h8)) fun t37_9 h10 =>
  (pickP t33 (AV.bool true) t37_9).bind fun t38 =>
  condE t38 (
  some ((AV.bool false), h10)) (
  (bldS [(0, 1)] [(AV.sl none 0 (.ex 0))] []).bind fun t39 =>
  mk Heap.new (bxP t39) h10 fun t40 h11 =>
  cl (k_heap_Heap_Make t26 (AV.int .i64 0) (AV.int .i64 3) (AV.ifc 30 t40) h11) fun t45 h12 =>
  (extractV 0 t45).bind fun t46 =>
  (extractV 1 t45).bind fun t47 =>
  cl (k_heap_Heap_Make t26 (AV.int .i64 1) (AV.int .i64 4) (AV.ifc 30 t40) h12) fun t52 h13 =>
  (extractV 0 t52).bind fun t53 =>
  (extractV 1 t52).bind fun t54 =>
  cl (k_heap_Heap_Get t26 t46 (AV.int .i64 1) (AV.bool true) h13) fun t58 h14 =>
  (extractV 0 t58).bind fun t59 =>
  (extractV 1 t58).bind fun t60 =>
  cl (k_heap_Heap_Set t26 t46 (AV.int .i64 0) (AV.int .i64 9) (AV.bool false) (AV.bool true) (AV.int .i64 1) h14) fun t63 h15 =>
  cl (k_heap_Heap_Get t26 t46 (AV.int .i64 0) (AV.bool false) h15) fun t67 h16 =>
  (extractV 0 t67).bind fun t68 =>
  (extractV 1 t67).bind fun t69 =>
  cl (k_heap_Heap_Put t26 t53 (AV.int .i64 2) (AV.int .i64 5) (AV.bool false) (AV.bool true) (AV.int .i64 1) h16) fun t72 h17 =>
  cl (k_heap_Heap_At t26 t53 (AV.int .i64 2) (AV.bool false) h17) fun t76 h18 =>
  (extractV 0 t76).bind fun t77 =>
  (extractV 1 t76).bind fun t78 =>
  cl (k_heap_Heap_Len t26 t53 h18) fun t82 h19 =>
  (extractV 0 t82).bind fun t83 =>
  (extractV 1 t82).bind fun t84 =>
  cl (k_heap_Heap_Of t26 t46 h19) fun t88 h20 =>
  (extractV 0 t88).bind fun t89 =>
  (extractV 1 t88).bind fun t90 =>
  (extractV 2 t88).bind fun t91 =>
  mk Heap.new (some (Blk.cells true [(AV.int .i64 0), (AV.int .i64 0), (AV.int .i64 0)], fun i => AV.ptr (some (i, 0)))) h20 fun t18 h21 =>
  mk Heap.new (some (Blk.cells true [(AV.int .i64 0), (AV.int .i64 0), (AV.int .u64 0)], fun i => AV.ptr (some (i, 0)))) h21 fun t19 h22 =>
  cl (stP 3 h22 t18 t89) fun u h23 =>
  cl (stP 3 h23 t19 t90) fun u_24 h25 =>
  (bldS [(0, 1), (1, 1), (2, 1)] [(AV.int .i64 0), (AV.int .i64 0), (AV.int .u64 0)] [(0, (AV.int .i64 1))]).bind fun t94 =>
  cl (k_heap_Heap_Add t26 t94 h25) fun t95 h26 =>
  (extractV 0 t95).bind fun t96 =>
  (extractV 1 t95).bind fun t97 =>
  (eqP (some (.int .i64)) none false .eql t47 (AV.int .i64 0)).bind fun t99 =>
  (gV (gdW t99 true) (some t54) (.tup [])).bind fun t101 =>
  (gV (gdW t99 true) (eqP (some (.int .i64)) none false .eql t101 (AV.int .i64 0)) (.tup [])).bind fun t102 =>
  (pickP t99 t102 (AV.bool false)).bind fun t103 =>
  (gV (gdW t103 true) (some t46) (.tup [])).bind fun t105 =>
  (gV (gdW t103 true) (eqP (some (.int .i64)) none false .neq t105 (AV.int .i64 0)) (.tup [])).bind fun t106 =>
  (pickP t103 t106 (AV.bool false)).bind fun t107 =>
  (gV (gdW t107 true) (some t53) (.tup [])).bind fun t109 =>
  (gV (gdW t107 true) (eqP (some (.int .i64)) none false .neq t109 (AV.int .i64 0)) (.tup [])).bind fun t110 =>
  (pickP t107 t110 (AV.bool false)).bind fun t111 =>
  (gV (gdW t111 true) (some t59) (.tup [])).bind fun t113 =>
  (gV (gdW t111 true) (eqP (some (.int .i64)) none false .eql t113 (AV.int .i64 0)) (.tup [])).bind fun t114 =>
  (pickP t111 t114 (AV.bool false)).bind fun t115 =>
  (gV (gdW t115 true) (some t60) (.tup [])).bind fun t117 =>
  (gV (gdW t115 true) (eqP (some (.int .i64)) none false .eql t117 (AV.int .i64 0)) (.tup [])).bind fun t118 =>
  (pickP t115 t118 (AV.bool false)).bind fun t119 =>
  (gV (gdW t119 true) (some t63) (.tup [])).bind fun t121 =>
  (gV (gdW t119 true) (eqP (some (.int .i64)) none false .eql t121 (AV.int .i64 0)) (.tup [])).bind fun t122 =>
  (pickP t119 t122 (AV.bool false)).bind fun t123 =>
  (gV (gdW t123 true) (some t68) (.tup [])).bind fun t125 =>
  (gV (gdW t123 true) (eqP (some (.int .i64)) none false .eql t125 (AV.int .i64 9)) (.tup [])).bind fun t126 =>
  (pickP t123 t126 (AV.bool false)).bind fun t127 =>
  (gV (gdW t127 true) (some t69) (.tup [])).bind fun t129 =>
  (gV (gdW t127 true) (eqP (some (.int .i64)) none false .eql t129 (AV.int .i64 0)) (.tup [])).bind fun t130 =>
  (pickP t127 t130 (AV.bool false)).bind fun t131 =>
  (gV (gdW t131 true) (some t72) (.tup [])).bind fun t133 =>
  (gV (gdW t131 true) (eqP (some (.int .i64)) none false .eql t133 (AV.int .i64 0)) (.tup [])).bind fun t134 =>
  (pickP t131 t134 (AV.bool false)).bind fun t135 =>
  (gV (gdW t135 true) (some t77) (.tup [])).bind fun t137 =>
  (gV (gdW t135 true) (eqP (some (.int .i64)) none false .eql t137 (AV.int .i64 5)) (.tup [])).bind fun t138 =>
  (pickP t135 t138 (AV.bool false)).bind fun t139 =>
  (gV (gdW t139 true) (some t78) (.tup [])).bind fun t141 =>
  (gV (gdW t139 true) (eqP (some (.int .i64)) none false .eql t141 (AV.int .i64 0)) (.tup [])).bind fun t142 =>
  (pickP t139 t142 (AV.bool false)).bind fun t143 =>
  (gV (gdW t143 true) (some t83) (.tup [])).bind fun t145 =>
  (gV (gdW t143 true) (eqP (some (.int .i64)) none false .eql t145 (AV.int .i64 3)) (.tup [])).bind fun t146 =>
  (pickP t143 t146 (AV.bool false)).bind fun t147 =>
  (gV (gdW t147 true) (some t84) (.tup [])).bind fun t149 =>
  (gV (gdW t147 true) (eqP (some (.int .i64)) none false .eql t149 (AV.int .i64 0)) (.tup [])).bind fun t150 =>
  (pickP t147 t150 (AV.bool false)).bind fun t151 =>
  (gV (gdW t151 true) (some t91) (.tup [])).bind fun t153 =>
  (pickP t151 t153 (AV.bool false)).bind fun t154 =>
  (gV (gdW t154 true) (ldA 3 h26 t18) (.tup [])).bind fun t156 =>
  (gV (gdW t154 true) (bldS [(0, 1), (1, 1), (2, 1)] [(AV.int .i64 0), (AV.int .i64 0), (AV.int .i64 0)] [(0, (AV.int .i64 3))]) (.tup [])).bind fun t157 =>
  (gV (gdW t154 true) (eqP (some (.struct #[])) (some [(0, (.int .i64)), (1, (.int .i64)), (2, (.int .i64))]) false .eql t156 t157) (.tup [])).bind fun t158 =>
  (pickP t154 t158 (AV.bool false)).bind fun t159 =>
  clC (gV (gdW t159 true) (rdC (fun g => ldA 3 g t19) h26 0 1 []) (.tup [], [])) fun t161 cs =>
  gQ (gdW t159 true) h26 (cl (k_law14_shapes h26) fun t162 h27 =>
  some (t162, h27)) fun t162_28 h29 =>
  (gV (gdW t159 true) (iaS 3 t162_28 (AV.int .i64 0)) (.tup [])).bind fun t163 =>
  (gV (gdW t159 true) (ldA 3 h29 t163) (.tup [])).bind fun t164 =>
  (gV (gdW t159 true) (eqP (some (.struct #[])) (some [(0, (.int .i64)), (1, (.int .i64)), (2, (.int .u64))]) false .eql t161 t164) (.tup [])).bind fun t165 =>
  (pickP t159 t165 (AV.bool false)).bind fun t166 =>
  (gV (gdW t166 true) (some t96) (.tup [])).bind fun t168 =>
  (gV (gdW t166 true) (eqP (some (.int .i64)) none false .eql t168 (AV.int .i64 1)) (.tup [])).bind fun t169 =>
  (pickP t166 t169 (AV.bool false)).bind fun t170 =>
  (gV (gdW t170 true) (some t97) (.tup [])).bind fun t172 =>
  (gV (gdW t170 true) (eqP (some (.int .i64)) none false .eql t172 (AV.int .i64 0)) (.tup [])).bind fun t173 =>
  (pickP t170 t173 (AV.bool false)).bind fun t174 =>
  (gV (gdW t174 true) (some t26) (.tup [])).bind fun t176 =>
  gQ (gdW t174 true) h29 (cl (k_heap_Heap_Forced t176 h29) fun t177 h30 =>
  some (t177, h30)) fun t177_31 h32 =>
  (gV (gdW t174 true) (eqP (some (.int .i64)) none false .eql t177_31 (AV.int .i64 0)) (.tup [])).bind fun t178 =>
  (pickP t174 t178 (AV.bool false)).bind fun t179 =>
  chk [h26, h29, h32] cs (
  some (t179, h32)))
def k_law14_awake : Heap → Option (AV × Heap) := quiet hQ1
def T94 : Tab := (9, p0 k_law14_awake) :: T93
/- 49: gantline/gantlineref1.Bit -/
def k_ref1_Bit (x0 : AV) (x1 : AV) (h : Heap) : Option (AV × Heap) :=
  (binP .geq x1 (AV.int .i64 0)).bind fun t6 =>
  gQ (gdW t6 true) h (some (x1, h)) fun t8 h0 =>
  gQ (gdW t6 true) h0 ((binP .lss t8 (AV.int .i64 64)).bind fun t9 =>
  some (t9, h0)) fun t9_1 h2 =>
  (pickP t6 t9_1 (AV.bool false)).bind fun t10 =>
  gQ (gdW t10 true) h2 (some (x0, h2)) fun t12 h3 =>
  gQ (gdW t10 true) h3 (some (x1, h3)) fun t13 h4 =>
  gQ (gdW t10 true) h4 ((cvI .u64 t13).bind fun t14 =>
  some (t14, h4)) fun t14_5 h6 =>
  gQ (gdW t10 true) h6 ((binP .shr t12 t14_5).bind fun t15 =>
  some (t15, h6)) fun t15_7 h8 =>
  gQ (gdW t10 true) h8 ((binP .and t15_7 (AV.int .u64 1)).bind fun t16 =>
  some (t16, h8)) fun t16_9 h10 =>
  gQ (gdW t10 true) h10 ((eqP (some (.int .u64)) none false .eql t16_9 (AV.int .u64 1)).bind fun t17 =>
  some (t17, h10)) fun t17_11 h12 =>
  (pickP t10 t17_11 (AV.bool false)).bind fun t18 =>
  some (t18, h12)
def T95 : Tab := (49, p2 k_ref1_Bit) :: T94
/- 14: gantline/gantlineref1.GoodShape -/
def k_ref1_GoodShape_b0 (t1 : AV) (q2 : AV) (q3 : AV) (h8 : Heap) : OutV :=
  (binP .lss q3 (AV.int .i64 64)).bind fun t20 =>
  condE t20 (
  (faP 2 t1).bind fun t23 =>
  (ldS h8 t23).bind fun t24 =>
  cl (k_ref1_Bit t24 q3 h8) fun t26 h9 =>
  condE t26 (
  some (.ret, [(AV.bool false), q3], h9)) (
  (binP .add q3 (AV.int .i64 1)).bind fun t22 =>
  some (.normal, [q2, t22], h9))) (
  some ((.exit 1), [q2, q3], h8))
def k_ref1_GoodShape_L0 (t1 : AV) (q2 : AV) (q3 : AV) (h8 : Heap) : OutV := loopN (fun us g => k_ref1_GoodShape_b0 t1 (us.getD 0 .bot) (us.getD 1 .bot) g) [q2, q3] h8
def k_ref1_GoodShape_j0 (t1 : AV) (q27 : AV) (h13 : Heap) : Option (AV × Heap) :=
  condE q27 (
  (faP 1 t1).bind fun t30 =>
  (ldS h13 t30).bind fun t31 =>
  (eqP (some (.int .i64)) none false .eql t31 (AV.int .i64 0)).bind fun t32 =>
  gQ (gdW t32 true) h13 ((faP 2 t1).bind fun t34 =>
  some (t34, h13)) fun t34_14 h15 =>
  gQ (gdW t32 true) h15 ((ldS h15 t34_14).bind fun t35 =>
  some (t35, h15)) fun t35_16 h17 =>
  gQ (gdW t32 true) h17 ((binP .leq t35_16 (AV.int .u64 1)).bind fun t36 =>
  some (t36, h17)) fun t36_18 h19 =>
  (pickP t32 t36_18 (AV.bool false)).bind fun t37 =>
  some (t37, h19)) (
  some ((AV.bool false), h13))
def k_ref1_GoodShape_j1 (t1 : AV) (t5 : AV) (q6 : AV) (h1 : Heap) : Option (AV × Heap) :=
  condE q6 (
  (faP 1 t1).bind fun t9 =>
  (ldS h1 t9).bind fun t10 =>
  (binP .lss t10 (AV.int .i64 0)).bind fun t11 =>
  gQ (gdW t11 false) h1 ((faP 1 t1).bind fun t13 =>
  some (t13, h1)) fun t13_2 h3 =>
  gQ (gdW t11 false) h3 ((ldS h3 t13_2).bind fun t14 =>
  some (t14, h3)) fun t14_4 h5 =>
  gQ (gdW t11 false) h5 ((binP .gtr t14_4 (AV.int .i64 63)).bind fun t15 =>
  some (t15, h5)) fun t15_6 h7 =>
  (pickP t11 (AV.bool true) t15_6).bind fun t16 =>
  condE t16 (
  some ((AV.bool false), h7)) (
  (faP 1 t1).bind fun t17 =>
  (ldS h7 t17).bind fun t18 =>
  lp (k_ref1_GoodShape_L0 t1 (AV.bool false) t18 h7) fun e vs h10 =>
  thenK (if e = .exit 1 then .normal else e) (
  some ((AV.bool true), h10)) (fun e_11 => thenK (if e_11 = .exit 0 then .normal else e_11) (
  some ((AV.bool false), h10)) (fun e_12 => endE e_12 (some ((vs.getD 0 .bot), h10)))))) (
  (eqP (some (.int .i64)) none false .eql t5 (AV.int .i64 1)).bind fun t28 =>
  condE t28 (
  k_ref1_GoodShape_j0 t1 t28 h1) (
  (eqP (some (.int .i64)) none false .eql t5 (AV.int .i64 3)).bind fun t29 =>
  k_ref1_GoodShape_j0 t1 t29 h1))
def k_ref1_GoodShape (x0 : AV) (h : Heap) : Option (AV × Heap) :=
  mk Heap.new (bxP x0) h fun t1 h0 =>
  (faP 0 t1).bind fun t4 =>
  (ldS h0 t4).bind fun t5 =>
  (eqP (some (.int .i64)) none false .eql t5 (AV.int .i64 0)).bind fun t7 =>
  condE t7 (
  k_ref1_GoodShape_j1 t1 t5 t7 h0) (
  (eqP (some (.int .i64)) none false .eql t5 (AV.int .i64 2)).bind fun t8 =>
  k_ref1_GoodShape_j1 t1 t5 t8 h0)
def T96 : Tab := (14, p1 k_ref1_GoodShape) :: T95
/- 15: gantline/gantlinelaw14.played -/
def k_law14_played_b0 (x1 : AV) (q7 : AV) (q8_7 : AV) (q9 : AV) (h8 : Heap) : OutV :=
  (lnL x1).bind fun t40 =>
  (binP .lss q9 t40).bind fun t41 =>
  gQ (gdW t41 true) h8 (some (q8_7, h8)) fun t43 h9 =>
  gQ (gdW t41 true) h9 ((binP .lss t43 (AV.int .i64 0)).bind fun t44 =>
  some (t44, h9)) fun t44_10 h11 =>
  (pickP t41 t44_10 (AV.bool false)).bind fun t45 =>
  condE t45 (
  (iaS 6 x1 q9).bind fun t50 =>
  (faP 0 t50).bind fun t51 =>
  (ldS h11 t51).bind fun t52 =>
  (eqP (some (.int .i64)) none false .eql t52 q7).bind fun t54 =>
  condE t54 (
  (binP .add q9 (AV.int .i64 1)).bind fun t47_18 =>
  some (.normal, [q9, t47_18], h11)) (
  (binP .add q9 (AV.int .i64 1)).bind fun t47_19 =>
  some (.normal, [q8_7, t47_19], h11))) (
  some ((.exit 0), [q8_7, q9], h11))
def k_law14_played_L0 (x1 : AV) (q7 : AV) (q8_7 : AV) (q9 : AV) (h8 : Heap) : OutV := loopN (fun us g => k_law14_played_b0 x1 q7 (us.getD 0 .bot) (us.getD 1 .bot) g) [q8_7, q9] h8
def k_law14_played_j0 (x1 : AV) (t5 : AV) (vs : List AV) (q10 : AV) (q11 : AV) (q15 : AV) (q16 : AV) (h23 : Heap) : Option (AV × Heap) :=
  (eqP (some (.int .i64)) none false .neq q16 q10).bind fun t234 =>
  condE t234 (
  some ((AV.bool false), h23)) (
  (eqP (some (.int .i64)) none false .neq q10 (AV.int .i64 0)).bind fun t236 =>
  condE t236 (
  (eqP (some (.int .i64)) none false .eql q15 (AV.int .i64 0)).bind fun t238 =>
  some (t238, h23)) (
  (faP 0 t5).bind fun t239 =>
  (ldS h23 t239).bind fun t240 =>
  (eqP (some (.int .i64)) none false .eql t240 (AV.int .i64 2)).bind fun t241 =>
  gQ (gdW t241 false) h23 ((faP 0 t5).bind fun t243 =>
  some (t243, h23)) fun t243_24 h25 =>
  gQ (gdW t241 false) h25 ((ldS h25 t243_24).bind fun t244 =>
  some (t244, h25)) fun t244_26 h27 =>
  gQ (gdW t241 false) h27 ((eqP (some (.int .i64)) none false .eql t244_26 (AV.int .i64 4)).bind fun t245 =>
  some (t245, h27)) fun t245_28 h29 =>
  (pickP t241 (AV.bool true) t245_28).bind fun t246 =>
  condE t246 (
  (iaS 6 x1 (vs.getD 0 .bot)).bind fun t249 =>
  (faP 5 t249).bind fun t250 =>
  (ldS h29 t250).bind fun t251 =>
  (faP 5 t5).bind fun t253 =>
  (ldS h29 t253).bind fun t254 =>
  (iaS 1 t251 q11).bind fun t255 =>
  cl (stP 1 h29 t255 t254) fun u h30 =>
  chk [h29, h30] [] (
  some ((AV.bool true), h30))) (
  (iaS 6 x1 (vs.getD 0 .bot)).bind fun t259 =>
  (faP 5 t259).bind fun t260 =>
  (ldS h29 t260).bind fun t261 =>
  (iaS 1 t261 q11).bind fun t263 =>
  (ldS h29 t263).bind fun t264 =>
  (eqP (some (.int .i64)) none false .eql q15 t264).bind fun t265 =>
  some (t265, h29))))
def k_law14_played_j1 (x0 : AV) (x1 : AV) (t5 : AV) (q7 : AV) (vs : List AV) (q10 : AV) (q11 : AV) (h21 : Heap) : Option (AV × Heap) :=
  (faP 0 t5).bind fun t165 =>
  (ldS h21 t165).bind fun t166 =>
  (eqP (some (.int .i64)) none false .eql t166 (AV.int .i64 1)).bind fun t174 =>
  condE t174 (
  (faP 4 t5).bind fun t178 =>
  (ldS h21 t178).bind fun t179 =>
  (binP .and t179 (AV.int .i64 127)).bind fun t180 =>
  (faP 6 t5).bind fun t181 =>
  (ldS h21 t181).bind fun t182 =>
  cl (k_heap_Heap_Get x0 q7 t180 t182 h21) fun t183 h98 =>
  (extractV 0 t183).bind fun t184 =>
  (extractV 1 t183).bind fun t185 =>
  (faP 4 t5).bind fun t186 =>
  (ldS h98 t186).bind fun t187 =>
  (faP 4 t5).bind fun t188 =>
  (ldS h98 t188).bind fun t189 =>
  (binP .and t189 (AV.int .i64 127)).bind fun t190 =>
  (eqP (some (.int .i64)) none false .neq t187 t190).bind fun t191 =>
  condE t191 (
  some ((AV.bool true), h98)) (
  k_law14_played_j0 x1 t5 vs q10 q11 t184 t185 h98)) (
  (eqP (some (.int .i64)) none false .eql t166 (AV.int .i64 2)).bind fun t193 =>
  condE t193 (
  (faP 4 t5).bind fun t194 =>
  (ldS h21 t194).bind fun t195 =>
  (faP 4 t5).bind fun t196 =>
  (ldS h21 t196).bind fun t197 =>
  (binP .and t197 (AV.int .i64 127)).bind fun t198 =>
  (eqP (some (.int .i64)) none false .neq t195 t198).bind fun t199 =>
  condE t199 (
  some ((AV.bool true), h21)) (
  (faP 4 t5).bind fun t202 =>
  (ldS h21 t202).bind fun t203 =>
  (faP 5 t5).bind fun t204 =>
  (ldS h21 t204).bind fun t205 =>
  (faP 6 t5).bind fun t206 =>
  (ldS h21 t206).bind fun t207 =>
  cl (k_heap_Heap_Set x0 q7 t203 t205 t207 (AV.bool true) (AV.int .i64 1) h21) fun t208 h147 =>
  k_law14_played_j0 x1 t5 vs q10 q11 (AV.int .i64 0) t208 h147)) (
  (eqP (some (.int .i64)) none false .eql t166 (AV.int .i64 3)).bind fun t210 =>
  condE t210 (
  (faP 4 t5).bind fun t214 =>
  (ldS h21 t214).bind fun t215 =>
  (faP 6 t5).bind fun t216 =>
  (ldS h21 t216).bind fun t217 =>
  cl (k_heap_Heap_At x0 q7 t215 t217 h21) fun t218 h178 =>
  (extractV 0 t218).bind fun t219 =>
  (extractV 1 t218).bind fun t220 =>
  k_law14_played_j0 x1 t5 vs q10 q11 t219 t220 h178) (
  (eqP (some (.int .i64)) none false .eql t166 (AV.int .i64 4)).bind fun t222 =>
  condE t222 (
  (faP 4 t5).bind fun t225 =>
  (ldS h21 t225).bind fun t226 =>
  (faP 5 t5).bind fun t227 =>
  (ldS h21 t227).bind fun t228 =>
  (faP 6 t5).bind fun t229 =>
  (ldS h21 t229).bind fun t230 =>
  cl (k_heap_Heap_Put x0 q7 t226 t228 t230 (AV.bool true) (AV.int .i64 1) h21) fun t231 h196 =>
  k_law14_played_j0 x1 t5 vs q10 q11 (AV.int .i64 0) t231 h196) (
  cl (k_heap_Heap_Len x0 q7 h21) fun t170 h197 =>
  (extractV 0 t170).bind fun t171 =>
  (extractV 1 t170).bind fun t172 =>
  k_law14_played_j0 x1 t5 vs q10 q11 (AV.int .i64 0) t172 h197))))
def k_law14_played_j2 (x0 : AV) (x1 : AV) (t5 : AV) (q7 : AV) (vs : List AV) (q10_426 : AV) (h427 : Heap) : Option (AV × Heap) :=
  (faP 4 t5).bind fun t106 =>
  (ldS h427 t106).bind fun t107 =>
  (binP .and t107 (AV.int .i64 63)).bind fun t108 =>
  k_law14_played_j1 x0 x1 t5 q7 vs q10_426 t108 h427
def k_law14_played_j3 (x0 : AV) (x1 : AV) (t5 : AV) (q8 : AV) (q7 : AV) (h6 : Heap) : Option (AV × Heap) :=
  lp (k_law14_played_L0 x1 q7 q8 (AV.int .i64 0) h6) fun e vs h20 =>
  thenK (if e = .exit 0 then .normal else e) (
  (binP .lss (vs.getD 0 .bot) (AV.int .i64 0)).bind fun t60 =>
  condE t60 (
  k_law14_played_j1 x0 x1 t5 q7 vs (AV.int .i64 1) (AV.int .i64 (-1)) h20) (
  (faP 0 t5).bind fun t62 =>
  (ldS h20 t62).bind fun t63 =>
  (binP .leq t63 (AV.int .i64 2)).bind fun t64 =>
  condE t64 (
  (iaS 6 x1 (vs.getD 0 .bot)).bind fun t67 =>
  (faP 1 t67).bind fun t68 =>
  (ldA 3 h20 t68).bind fun t69 =>
  mk Heap.new (some (Blk.cells true [(AV.int .i64 0), (AV.int .i64 0), (AV.int .u64 0)], fun i => AV.ptr (some (i, 0)))) h20 fun t12 h420 =>
  cl (stP 3 h420 t12 t69) fun u_421 h422 =>
  (faP 0 t12).bind fun t70 =>
  (ldS h422 t70).bind fun t71 =>
  (eqP (some (.int .i64)) none false .neq t71 (AV.int .i64 0)).bind fun t72 =>
  (gV (gdW t72 false) (faP 4 t5) (.tup [])).bind fun t74 =>
  (gV (gdW t72 false) (ldS h422 t74) (.tup [])).bind fun t75 =>
  (gV (gdW t72 false) (binP .lss t75 (AV.int .i64 0)) (.tup [])).bind fun t76 =>
  (pickP t72 (AV.bool true) t76).bind fun t77 =>
  (gV (gdW t77 false) (faP 4 t5) (.tup [])).bind fun t79 =>
  (gV (gdW t77 false) (ldS h422 t79) (.tup [])).bind fun t80 =>
  (gV (gdW t77 false) (faP 1 t12) (.tup [])).bind fun t81 =>
  (gV (gdW t77 false) (ldS h422 t81) (.tup [])).bind fun t82 =>
  (gV (gdW t77 false) (binP .geq t80 t82) (.tup [])).bind fun t83 =>
  (pickP t77 (AV.bool true) t83).bind fun t84 =>
  (gV (gdW t84 false) (faP 4 t5) (.tup [])).bind fun t86 =>
  (gV (gdW t84 false) (ldS h422 t86) (.tup [])).bind fun t87 =>
  (gV (gdW t84 false) (some x1) (.tup [])).bind fun t88 =>
  (gV (gdW t84 false) (some (vs.getD 0 .bot)) (.tup [])).bind fun t89 =>
  (gV (gdW t84 false) (iaS 6 t88 t89) (.tup [])).bind fun t90 =>
  (gV (gdW t84 false) (faP 4 t90) (.tup [])).bind fun t91 =>
  (gV (gdW t84 false) (ldS h422 t91) (.tup [])).bind fun t92 =>
  (gV (gdW t84 false) (binP .sub t92 (AV.int .i64 2)) (.tup [])).bind fun t93 =>
  (gV (gdW t84 false) (binP .gtr t87 t93) (.tup [])).bind fun t94 =>
  (pickP t84 (AV.bool true) t94).bind fun t95 =>
  (gV (gdW t95 false) (faP 2 t12) (.tup [])).bind fun t97 =>
  (gV (gdW t95 false) (ldS h422 t97) (.tup [])).bind fun t98 =>
  (gV (gdW t95 false) (faP 4 t5) (.tup [])).bind fun t99 =>
  (gV (gdW t95 false) (ldS h422 t99) (.tup [])).bind fun t100 =>
  gQ (gdW t95 false) h422 (cl (k_ref1_Bit t98 t100 h422) fun t101 h423 =>
  some (t101, h423)) fun t101_424 h425 =>
  (gV (gdW t95 false) (faP 6 t5) (.tup [])).bind fun t102 =>
  clC (gV (gdW t95 false) (rdC (fun g => ldS g t102) h425 0 1 []) (.tup [], [])) fun t103 cs =>
  (gV (gdW t95 false) (eqP (some .bool) none false .neq t101_424 t103) (.tup [])).bind fun t104 =>
  (pickP t95 (AV.bool true) t104).bind fun t105 =>
  chk [h422, h425] cs (
  condE t105 (
  k_law14_played_j2 x0 x1 t5 q7 vs (AV.int .i64 1) h425) (
  k_law14_played_j2 x0 x1 t5 q7 vs (AV.int .i64 0) h425))) (
  (iaS 6 x1 (vs.getD 0 .bot)).bind fun t112 =>
  (faP 1 t112).bind fun t113 =>
  (faP 0 t113).bind fun t114 =>
  (ldS h20 t114).bind fun t115 =>
  (eqP (some (.int .i64)) none false .neq t115 (AV.int .i64 1)).bind fun t116 =>
  condE t116 (
  k_law14_played_j1 x0 x1 t5 q7 vs (AV.int .i64 1) (AV.int .i64 (-1)) h20) (
  (faP 0 t5).bind fun t118 =>
  (ldS h20 t118).bind fun t119 =>
  (eqP (some (.int .i64)) none false .eql t119 (AV.int .i64 5)).bind fun t120 =>
  condE t120 (
  cl (k_heap_Heap_Len x0 q7 h20) fun t124 h536 =>
  (extractV 0 t124).bind fun t125 =>
  (extractV 1 t124).bind fun t126 =>
  (eqP (some (.int .i64)) none false .eql t126 (AV.int .i64 0)).bind fun t128 =>
  gQ (gdW t128 true) h536 (some (t125, h536)) fun t130 h537 =>
  gQ (gdW t128 true) h537 (some (x1, h537)) fun t131 h538 =>
  gQ (gdW t128 true) h538 (some ((vs.getD 0 .bot), h538)) fun t132 h539 =>
  gQ (gdW t128 true) h539 ((iaS 6 t131 t132).bind fun t133 =>
  some (t133, h539)) fun t133_540 h541 =>
  gQ (gdW t128 true) h541 ((faP 4 t133_540).bind fun t134 =>
  some (t134, h541)) fun t134_542 h543 =>
  gQ (gdW t128 true) h543 ((ldS h543 t134_542).bind fun t135 =>
  some (t135, h543)) fun t135_544 h545 =>
  gQ (gdW t128 true) h545 ((binP .sub t135_544 (AV.int .i64 1)).bind fun t136 =>
  some (t136, h545)) fun t136_546 h547 =>
  gQ (gdW t128 true) h547 ((eqP (some (.int .i64)) none false .eql t130 t136_546).bind fun t137 =>
  some (t137, h547)) fun t137_548 h549 =>
  (pickP t128 t137_548 (AV.bool false)).bind fun t138 =>
  some (t138, h549)) (
  (iaS 6 x1 (vs.getD 0 .bot)).bind fun t142 =>
  (faP 1 t142).bind fun t143 =>
  (faP 2 t143).bind fun t144 =>
  (ldS h20 t144).bind fun t145 =>
  (eqP (some (.int .u64)) none false .eql t145 (AV.int .u64 1)).bind fun t146 =>
  (faP 6 t5).bind fun t147 =>
  (ldS h20 t147).bind fun t148 =>
  (eqP (some .bool) none false .neq t146 t148).bind fun t149 =>
  chk [h20] [] (
  condE t149 (
  k_law14_played_j1 x0 x1 t5 q7 vs (AV.int .i64 1) (AV.int .i64 (-1)) h20) (
  (faP 4 t5).bind fun t151 =>
  (ldS h20 t151).bind fun t152 =>
  (binP .lss t152 (AV.int .i64 0)).bind fun t153 =>
  (gV (gdW t153 false) (faP 4 t5) (.tup [])).bind fun t155 =>
  (gV (gdW t153 false) (ldS h20 t155) (.tup [])).bind fun t156 =>
  (gV (gdW t153 false) (some x1) (.tup [])).bind fun t157 =>
  (gV (gdW t153 false) (some (vs.getD 0 .bot)) (.tup [])).bind fun t158 =>
  (gV (gdW t153 false) (iaS 6 t157 t158) (.tup [])).bind fun t159 =>
  (gV (gdW t153 false) (faP 4 t159) (.tup [])).bind fun t160 =>
  (gV (gdW t153 false) (ldS h20 t160) (.tup [])).bind fun t161 =>
  (gV (gdW t153 false) (binP .sub t161 (AV.int .i64 2)) (.tup [])).bind fun t162 =>
  (gV (gdW t153 false) (binP .gtr t156 t162) (.tup [])).bind fun t163 =>
  (pickP t153 (AV.bool true) t163).bind fun t164 =>
  chk [h20] [] (
  condE t164 (
  k_law14_played_j1 x0 x1 t5 q7 vs (AV.int .i64 2) (AV.int .i64 (-1)) h20) (
  (faP 4 t5).bind fun t56 =>
  (ldS h20 t56).bind fun t57 =>
  k_law14_played_j1 x0 x1 t5 q7 vs (AV.int .i64 0) t57 h20))))))))) (fun e_575 => endE e_575 (some ((AV.bool false), h20)))
def k_law14_played (x0 : AV) (x1 : AV) (x2 : AV) (h : Heap) : Option (AV × Heap) :=
  mk Heap.new (bxP x2) h fun t5 h0 =>
  (faP 5 t5).bind fun t17 =>
  (ldS h0 t17).bind fun t18 =>
  (faP 7 t5).bind fun t19 =>
  (ldS h0 t19).bind fun t20 =>
  (unA .not t20).bind fun t21 =>
  gQ (gdW t21 true) h0 (some (x1, h0)) fun t23 h1 =>
  gQ (gdW t21 true) h1 ((lnL t23).bind fun t24 =>
  some (t24, h1)) fun t24_2 h3 =>
  gQ (gdW t21 true) h3 ((binP .gtr t24_2 (AV.int .i64 0)).bind fun t25 =>
  some (t25, h3)) fun t25_4 h5 =>
  (pickP t21 t25_4 (AV.bool false)).bind fun t26 =>
  condE t26 (
  (faP 3 t5).bind fun t27 =>
  (ldS h5 t27).bind fun t28 =>
  (binP .and t28 (AV.int .i64 65535)).bind fun t29 =>
  (lnL x1).bind fun t31 =>
  (binP .rem t29 t31).bind fun t32 =>
  (iaS 6 x1 t32).bind fun t35 =>
  (faP 0 t35).bind fun t36 =>
  (ldS h5 t36).bind fun t37 =>
  k_law14_played_j3 x0 x1 t5 t32 t37 h5) (
  k_law14_played_j3 x0 x1 t5 (AV.int .i64 (-1)) t18 h5)
def T97 : Tab := (15, p3 k_law14_played) :: T96
/- 3: gantline/gantlinelaw14.HeapPlays -/
def k_law14_HeapPlays_j0 (q8 : AV) (q2_5 : AV) (q7_6 : AV) (q3_7 : AV) (h8 : Heap) : OutV :=
  (binP .add q8 (AV.int .i64 1)).bind fun t39 =>
  some (.normal, [q2_5, q3_7, q7_6, t39], h8)
def k_law14_HeapPlays_b0 (q3 : AV) (t9 : AV) (q14_393 : AV) (h394 : Heap) : OutV :=
  (lnL q3).bind fun t155 =>
  (binP .lss q14_393 t155).bind fun t156 =>
  (gV (gdW t156 true) (some q3) (.tup [])).bind fun t158 =>
  (gV (gdW t156 true) (some q14_393) (.tup [])).bind fun t159 =>
  (gV (gdW t156 true) (iaS 3 t158 t159) (.tup [])).bind fun t160 =>
  (gV (gdW t156 true) (ldA 3 h394 t160) (.tup [])).bind fun t161 =>
  (gV (gdW t156 true) (faP 8 t9) (.tup [])).bind fun t162 =>
  (gV (gdW t156 true) (ldA 3 h394 t162) (.tup [])).bind fun t163 =>
  (gV (gdW t156 true) (eqP (some (.struct #[])) (some [(0, (.int .i64)), (1, (.int .i64)), (2, (.int .u64))]) false .neq t161 t163) (.tup [])).bind fun t164 =>
  (pickP t156 t164 (AV.bool false)).bind fun t165 =>
  chk [h394] [] (
  condE t165 (
  (binP .add q14_393 (AV.int .i64 1)).bind fun t167 =>
  some (.normal, [t167], h394)) (
  some ((.exit 3), [q14_393], h394)))
def k_law14_HeapPlays_L0 (q3 : AV) (t9 : AV) (q14_393 : AV) (h394 : Heap) : OutV := loopN (fun us g => k_law14_HeapPlays_b0 q3 t9 (us.getD 0 .bot) g) [q14_393] h394
def k_law14_HeapPlays_j1 (q2 : AV) (q7 : AV) (q8 : AV) (t137 : AV) (t138 : AV) (vs : List AV) (q3_401 : AV) (h402 : Heap) : OutV :=
  (eqP (some (.int .i64)) none false .neq t138 (AV.int .i64 0)).bind fun t178 =>
  gQ (gdW t178 false) h402 (some (t137, h402)) fun t180 h403 =>
  gQ (gdW t178 false) h403 (some ((vs.getD 0 .bot), h403)) fun t181 h404 =>
  gQ (gdW t178 false) h404 ((eqP (some (.int .i64)) none false .neq t180 t181).bind fun t182 =>
  some (t182, h404)) fun t182_405 h406 =>
  (pickP t178 (AV.bool true) t182_405).bind fun t183 =>
  condE t183 (
  some (.ret, [(AV.bool false), q3_401, q7, q8], h406)) (
  k_law14_HeapPlays_j0 q8 q2 q7 q3_401 h406)
def k_law14_HeapPlays_b1 (x0 : AV) (t28 : AV) (t33 : AV) (q2 : AV) (q3 : AV) (q7 : AV) (q8 : AV) (h4 : Heap) : OutV :=
  (lnL x0).bind fun t36 =>
  (binP .lss q8 t36).bind fun t37 =>
  condE t37 (
  (iaS 11 x0 q8).bind fun t42 =>
  (ldA 11 h4 t42).bind fun t43 =>
  mk Heap.new (some (Blk.cells true [(AV.int .i64 0), (AV.int .i64 0), (AV.int .i64 0), (AV.int .i64 0), (AV.int .i64 0), (AV.int .i64 0), (AV.bool false), (AV.bool false), (AV.int .i64 0), (AV.int .i64 0), (AV.int .u64 0)], fun i => AV.ptr (some (i, 0)))) h4 fun t9 h9 =>
  cl (stP 11 h9 t9 t43) fun u h10 =>
  (faP 0 t9).bind fun t44 =>
  (ldS h10 t44).bind fun t45 =>
  (binP .lss t45 (AV.int .i64 0)).bind fun t46 =>
  gQ (gdW t46 false) h10 ((faP 0 t9).bind fun t48 =>
  some (t48, h10)) fun t48_11 h12 =>
  gQ (gdW t46 false) h12 ((ldS h12 t48_11).bind fun t49 =>
  some (t49, h12)) fun t49_13 h14 =>
  gQ (gdW t46 false) h14 ((binP .gtr t49_13 (AV.int .i64 6)).bind fun t50 =>
  some (t50, h14)) fun t50_15 h16 =>
  (pickP t46 (AV.bool true) t50_15).bind fun t51 =>
  condE t51 (
  k_law14_HeapPlays_j0 q8 q2 q7 q3 h16) (
  (faP 0 t9).bind fun t52 =>
  (ldS h16 t52).bind fun t53 =>
  (eqP (some (.int .i64)) none false .eql t53 (AV.int .i64 0)).bind fun t60 =>
  condE t60 (
  (faP 1 t9).bind fun t63 =>
  (ldS h16 t63).bind fun t64 =>
  (faP 2 t9).bind fun t65 =>
  (ldS h16 t65).bind fun t66 =>
  cl (k_heap_Heap_Make t28 t64 t66 (AV.ifc 30 t33) h16) fun t69 h293 =>
  (extractV 0 t69).bind fun t70 =>
  (extractV 1 t69).bind fun t71 =>
  (faP 1 t9).bind fun t72 =>
  (ldS h293 t72).bind fun t73 =>
  (binP .lss t73 (AV.int .i64 0)).bind fun t74 =>
  gQ (gdW t74 false) h293 ((faP 1 t9).bind fun t76 =>
  some (t76, h293)) fun t76_294 h295 =>
  gQ (gdW t74 false) h295 ((ldS h295 t76_294).bind fun t77 =>
  some (t77, h295)) fun t77_296 h297 =>
  gQ (gdW t74 false) h297 (some (q3, h297)) fun t78 h298 =>
  gQ (gdW t74 false) h298 ((lnL t78).bind fun t79 =>
  some (t79, h298)) fun t79_299 h300 =>
  gQ (gdW t74 false) h300 ((binP .geq t77_296 t79_299).bind fun t80 =>
  some (t80, h300)) fun t80_301 h302 =>
  (pickP t74 (AV.bool true) t80_301).bind fun t81 =>
  gQ (gdW t81 false) h302 ((faP 2 t9).bind fun t83 =>
  some (t83, h302)) fun t83_303 h304 =>
  gQ (gdW t81 false) h304 ((ldS h304 t83_303).bind fun t84 =>
  some (t84, h304)) fun t84_305 h306 =>
  gQ (gdW t81 false) h306 ((binP .lss t84_305 (AV.int .i64 1)).bind fun t85 =>
  some (t85, h306)) fun t85_307 h308 =>
  (pickP t81 (AV.bool true) t85_307).bind fun t86 =>
  gQ (gdW t86 false) h308 ((faP 2 t9).bind fun t88 =>
  some (t88, h308)) fun t88_309 h310 =>
  gQ (gdW t86 false) h310 ((ldS h310 t88_309).bind fun t89 =>
  some (t89, h310)) fun t89_311 h312 =>
  gQ (gdW t86 false) h312 ((binP .gtr t89_311 (AV.int .i64 64)).bind fun t90 =>
  some (t90, h312)) fun t90_313 h314 =>
  (pickP t86 (AV.bool true) t90_313).bind fun t91 =>
  condE t91 (
  (eqP (some (.int .i64)) none false .neq t71 (AV.int .i64 1)).bind fun t93 =>
  gQ (gdW t93 false) h314 (some (t70, h314)) fun t95 h315 =>
  gQ (gdW t93 false) h315 ((eqP (some (.int .i64)) none false .neq t95 (AV.int .i64 0)).bind fun t96 =>
  some (t96, h315)) fun t96_316 h317 =>
  (pickP t93 (AV.bool true) t96_316).bind fun t97 =>
  condE t97 (
  some (.ret, [(AV.bool false), q3, q7, q8], h317)) (
  k_law14_HeapPlays_j0 q8 q2 q7 q3 h317)) (
  (eqP (some (.int .i64)) none false .neq t71 (AV.int .i64 0)).bind fun t99 =>
  gQ (gdW t99 false) h314 (some (t70, h314)) fun t101 h318 =>
  gQ (gdW t99 false) h318 ((eqP (some (.int .i64)) none false .eql t101 (AV.int .i64 0)).bind fun t102 =>
  some (t102, h318)) fun t102_319 h320 =>
  (pickP t99 (AV.bool true) t102_319).bind fun t103 =>
  condE t103 (
  some (.ret, [(AV.bool false), q3, q7, q8], h320)) (
  (nilV t33).bind fun t106 =>
  (faP 0 t106).bind fun t107 =>
  (ldS h320 t107).bind fun t108 =>
  mk Heap.new (bsP 1 [(AV.int .i64 0)] 1 [(0, t70)]) h320 fun t110 h321 =>
  cl (appendA h321 1 8 t108 t110) fun t111 h322 =>
  (nilV t33).bind fun t112 =>
  (faP 0 t112).bind fun t113 =>
  cl (stP 1 h322 t113 t111) fun u_323 h324 =>
  (faP 1 t9).bind fun t117 =>
  (ldS (hpN h324 2) t117).bind fun t118 =>
  (iaS 3 q3 t118).bind fun t119 =>
  (ldA 3 (hpN h324 2) t119).bind fun t120 =>
  (faP 2 t9).bind fun t121 =>
  (ldS (hpN h324 2) t121).bind fun t122 =>
  (faP 2 t9).bind fun t123 =>
  (ldS (hpN h324 2) t123).bind fun t124 =>
  (binP .sub t124 (AV.int .i64 1)).bind fun t125 =>
  cl (mkAt Heap.put (msP 1 8 [(AV.int .i64 0)] t125 t125) (h324.next + 0) (hpN h324 2)) fun t126 h325 =>
  (bldS [(0, 1), (1, 3), (4, 1), (5, 1)] [(AV.int .i64 0), (AV.int .i64 0), (AV.int .i64 0), (AV.int .u64 0), (AV.int .i64 0), (AV.sl none 0 (.ex 0))] [(0, t70), (1, t120), (2, t122), (3, t126)]).bind fun t127 =>
  cl (mkAt Heap.put (bsP 6 [(AV.int .i64 0), (AV.int .i64 0), (AV.int .i64 0), (AV.int .u64 0), (AV.int .i64 0), (AV.sl none 0 (.ex 0))] 1 [(0, t127)]) (h324.next + 1) h325) fun t128 h326 =>
  cl (appendA h326 6 64 q7 t128) fun t129 h327 =>
  chk [(hpN h324 2), h327] [] (
  k_law14_HeapPlays_j0 q8 q2 t129 q3 h327)))) (
  (eqP (some (.int .i64)) none false .eql t53 (AV.int .i64 6)).bind fun t131 =>
  condE t131 (
  (faP 8 t9).bind fun t134 =>
  (ldA 3 h16 t134).bind fun t135 =>
  cl (k_heap_Heap_Add t28 t135 h16) fun t136 h391 =>
  (extractV 0 t136).bind fun t137 =>
  (extractV 1 t136).bind fun t138 =>
  (faP 8 t9).bind fun t139 =>
  (faP 0 t139).bind fun t140 =>
  (ldS h391 t140).bind fun t141 =>
  (faP 8 t9).bind fun t142 =>
  (faP 1 t142).bind fun t143 =>
  (ldS h391 t143).bind fun t144 =>
  (faP 8 t9).bind fun t145 =>
  (faP 2 t145).bind fun t146 =>
  (ldS h391 t146).bind fun t147 =>
  (bldS [(0, 1), (1, 1), (2, 1)] [(AV.int .i64 0), (AV.int .i64 0), (AV.int .u64 0)] [(0, t141), (1, t144), (2, t147)]).bind fun t148 =>
  cl (k_ref1_GoodShape t148 h391) fun t149 h392 =>
  (unA .not t149).bind fun t150 =>
  condE t150 (
  (eqP (some (.int .i64)) none false .neq t138 (AV.int .i64 1)).bind fun t152 =>
  condE t152 (
  some (.ret, [(AV.bool false), q3, q7, q8], h392)) (
  k_law14_HeapPlays_j0 q8 q2 q7 q3 h392)) (
  lp (k_law14_HeapPlays_L0 q3 t9 (AV.int .i64 0) h392) fun e vs h395 =>
  thenK (if e = .exit 3 then .normal else e) (
  (lnL q3).bind fun t170 =>
  (eqP (some (.int .i64)) none false .eql (vs.getD 0 .bot) t170).bind fun t171 =>
  condE t171 (
  (faP 8 t9).bind fun t173 =>
  (ldA 3 h395 t173).bind fun t174 =>
  mk Heap.new (bsP 3 [(AV.int .i64 0), (AV.int .i64 0), (AV.int .u64 0)] 1 [(0, t174)]) h395 fun t175 h407 =>
  cl (appendA h407 3 24 q3 t175) fun t176 h408 =>
  k_law14_HeapPlays_j1 q2 q7 q8 t137 t138 vs t176 h408) (
  k_law14_HeapPlays_j1 q2 q7 q8 t137 t138 vs q3 h395)) (fun e_409 => thenK (if (if e_409 = .exit 2 then .normal else e_409) = .exit 1 then .normal else (if e_409 = .exit 2 then .normal else e_409)) (
  (binP .add q8 (AV.int .i64 1)).bind fun t39_410 =>
  some (.normal, [q2, q3, q7, t39_410], h395)) (fun e_411 => some (e_411, [q2, q3, q7, q8], h395))))) (
  (ldA 11 h16 t9).bind fun t56 =>
  cl (k_law14_played t28 q7 t56 h16) fun t57 h412 =>
  (unA .not t57).bind fun t58 =>
  condE t58 (
  some (.ret, [(AV.bool false), q3, q7, q8], h412)) (
  k_law14_HeapPlays_j0 q8 q2 q7 q3 h412))))) (
  some ((.exit 0), [q2, q3, q7, q8], h4))
def k_law14_HeapPlays_L1 (x0 : AV) (t28 : AV) (t33 : AV) (q2 : AV) (q3 : AV) (q7 : AV) (q8 : AV) (h4 : Heap) : OutV := loopN (fun us g => k_law14_HeapPlays_b1 x0 t28 t33 (us.getD 0 .bot) (us.getD 1 .bot) (us.getD 2 .bot) (us.getD 3 .bot) g) [q2, q3, q7, q8] h4
def k_law14_HeapPlays_b2 (t28 : AV) (vs_414 : List AV) (q2_416 : AV) (q15 : AV) (h417 : Heap) : OutV :=
  (lnL (vs_414.getD 2 .bot)).bind fun t186 =>
  (binP .lss q15 t186).bind fun t187 =>
  condE t187 (
  (iaS 6 (vs_414.getD 2 .bot) q15).bind fun t194 =>
  (faP 0 t194).bind fun t195 =>
  (ldS h417 t195).bind fun t196 =>
  cl (k_heap_Heap_Of t28 t196 h417) fun t197 h418 =>
  (extractV 0 t197).bind fun t198 =>
  (extractV 1 t197).bind fun t199 =>
  (extractV 2 t197).bind fun t200 =>
  mk Heap.new (some (Blk.cells true [(AV.int .i64 0), (AV.int .i64 0), (AV.int .i64 0)], fun i => AV.ptr (some (i, 0)))) h418 fun t16 h419 =>
  mk Heap.new (some (Blk.cells true [(AV.int .i64 0), (AV.int .i64 0), (AV.int .u64 0)], fun i => AV.ptr (some (i, 0)))) h419 fun t17 h420 =>
  cl (stP 3 h420 t16 t198) fun u_421 h422 =>
  cl (stP 3 h422 t17 t199) fun u_423 h424 =>
  (unA .not t200).bind fun t202 =>
  (gV (gdW t202 false) (ldA 3 h424 t17) (.tup [])).bind fun t204 =>
  (gV (gdW t202 false) (some (vs_414.getD 2 .bot)) (.tup [])).bind fun t205 =>
  (gV (gdW t202 false) (some q15) (.tup [])).bind fun t206 =>
  (gV (gdW t202 false) (iaS 6 t205 t206) (.tup [])).bind fun t207 =>
  (gV (gdW t202 false) (faP 1 t207) (.tup [])).bind fun t208 =>
  (gV (gdW t202 false) (ldA 3 h424 t208) (.tup [])).bind fun t209 =>
  (gV (gdW t202 false) (eqP (some (.struct #[])) (some [(0, (.int .i64)), (1, (.int .i64)), (2, (.int .u64))]) false .neq t204 t209) (.tup [])).bind fun t210 =>
  (pickP t202 (AV.bool true) t210).bind fun t211 =>
  (gV (gdW t211 false) (faP 0 t16) (.tup [])).bind fun t213 =>
  (gV (gdW t211 false) (ldS h424 t213) (.tup [])).bind fun t214 =>
  (gV (gdW t211 false) (some (vs_414.getD 2 .bot)) (.tup [])).bind fun t215 =>
  (gV (gdW t211 false) (some q15) (.tup [])).bind fun t216 =>
  (gV (gdW t211 false) (iaS 6 t215 t216) (.tup [])).bind fun t217 =>
  (gV (gdW t211 false) (faP 4 t217) (.tup [])).bind fun t218 =>
  (gV (gdW t211 false) (ldS h424 t218) (.tup [])).bind fun t219 =>
  (gV (gdW t211 false) (eqP (some (.int .i64)) none false .neq t214 t219) (.tup [])).bind fun t220 =>
  (pickP t211 (AV.bool true) t220).bind fun t221 =>
  (gV (gdW t221 false) (faP 1 t16) (.tup [])).bind fun t223 =>
  (gV (gdW t221 false) (ldS h424 t223) (.tup [])).bind fun t224 =>
  (gV (gdW t221 false) (some (vs_414.getD 2 .bot)) (.tup [])).bind fun t225 =>
  (gV (gdW t221 false) (some q15) (.tup [])).bind fun t226 =>
  (gV (gdW t221 false) (iaS 6 t225 t226) (.tup [])).bind fun t227 =>
  (gV (gdW t221 false) (faP 1 t227) (.tup [])).bind fun t228 =>
  (gV (gdW t221 false) (faP 0 t228) (.tup [])).bind fun t229 =>
  (gV (gdW t221 false) (ldS h424 t229) (.tup [])).bind fun t230 =>
  (gV (gdW t221 false) (eqP (some (.int .i64)) none false .neq t224 t230) (.tup [])).bind fun t231 =>
  (pickP t221 (AV.bool true) t231).bind fun t232 =>
  chk [h424] [] (
  condE t232 (
  some (.ret, [(AV.bool false), q15], h424)) (
  (binP .add q15 (AV.int .i64 1)).bind fun t189 =>
  some (.normal, [q2_416, t189], h424)))) (
  some ((.exit 5), [q2_416, q15], h417))
def k_law14_HeapPlays_L2 (t28 : AV) (vs_414 : List AV) (q2_416 : AV) (q15 : AV) (h417 : Heap) : OutV := loopN (fun us g => k_law14_HeapPlays_b2 t28 vs_414 (us.getD 0 .bot) (us.getD 1 .bot) g) [q2_416, q15] h417
def k_law14_HeapPlays (x0 : AV) (h : Heap) : Option (AV × Heap) :=
  cl (k_law14_awake h) fun t19 h0 =>
  (unA .not t19).bind fun t20 =>
  condE t20 (
  some ((AV.bool false), h0)) (
  (lnL x0).bind fun t22 =>
  (binP .gtr t22 (AV.int .i64 60)).bind fun t23 =>
  condE t23 (
  some ((AV.bool true), h0)) (
  cl (k_law14_shapes h0) fun t24 h1 =>
  cl (k_heap_New (AV.int .i64 100) t24 h1) fun t27 h2 =>
  (extractV 0 t27).bind fun t28 =>
  (extractV 1 t27).bind fun t29 =>
  (eqP (some (.int .i64)) none false .neq t29 (AV.int .i64 0)).bind fun t31 =>
  condE t31 (
  some ((AV.bool false), h2)) (
  (bldS [(0, 1)] [(AV.sl none 0 (.ex 0))] []).bind fun t32 =>
  mk Heap.new (bxP t32) h2 fun t33 h3 =>
  lp (k_law14_HeapPlays_L1 x0 t28 t33 (AV.bool false) t24 (AV.sl none 0 (.ex 0)) (AV.int .i64 0) h3) fun e_413 vs_414 h415 =>
  thenK (if e_413 = .exit 0 then .normal else e_413) (
  lp (k_law14_HeapPlays_L2 t28 vs_414 (vs_414.getD 0 .bot) (AV.int .i64 0) h415) fun e_425 vs_426 h427 =>
  thenK (if e_425 = .exit 5 then .normal else e_425) (
  cl (k_heap_Heap_Forced t28 h427) fun t234 h428 =>
  (eqP (some (.int .i64)) none false .eql t234 (AV.int .i64 0)).bind fun t235 =>
  some (t235, h428)) (fun e_429 => endE e_429 (some ((vs_426.getD 0 .bot), h427)))) (fun e_430 => endE e_430 (some ((vs_414.getD 0 .bot), h415))))))
def T98 : Tab := (3, p1 k_law14_HeapPlays) :: T97
/- 4: gantline/gantlinelaw14.HeapBounds -/
def k_law14_HeapBounds_j0 (q6 : AV) (q14 : AV) (t84 : AV) (t85 : AV) (q17 : AV) (h23 : Heap) : OutV :=
  (eqP (some (.int .i64)) none false .neq t85 (AV.int .i64 0)).bind fun t91 =>
  gQ (gdW t91 false) h23 (some (t84, h23)) fun t93 h24 =>
  gQ (gdW t91 false) h24 (some (q17, h24)) fun t94 h25 =>
  gQ (gdW t91 false) h25 ((eqP (some (.int .i64)) none false .neq t93 t94).bind fun t95 =>
  some (t95, h25)) fun t95_26 h27 =>
  (pickP t91 (AV.bool true) t95_26).bind fun t96 =>
  condE t96 (
  some (.ret, [(AV.bool false), q14], h27)) (
  (binP .add q14 (AV.int .i64 1)).bind fun t78 =>
  some (.normal, [q6, t78], h27))
def k_law14_HeapBounds_b0 (x0 : AV) (x1 : AV) (x2 : AV) (t29 : AV) (t41 : AV) (q6 : AV) (q14 : AV) (h21 : Heap) : OutV :=
  (binP .lss q14 x0).bind fun t76 =>
  condE t76 (
  cl (k_heap_Heap_At t29 t41 q14 (AV.bool false) h21) fun t83 h22 =>
  (extractV 0 t83).bind fun t84 =>
  (extractV 1 t83).bind fun t85 =>
  (eqP (some (.int .i64)) none false .eql q14 x1).bind fun t88 =>
  condE t88 (
  k_law14_HeapBounds_j0 q6 q14 t84 t85 x2 h22) (
  k_law14_HeapBounds_j0 q6 q14 t84 t85 (AV.int .i64 0) h22)) (
  some ((.exit 0), [q6, q14], h21))
def k_law14_HeapBounds_L0 (x0 : AV) (x1 : AV) (x2 : AV) (t29 : AV) (t41 : AV) (q6 : AV) (q14 : AV) (h21 : Heap) : OutV := loopN (fun us g => k_law14_HeapBounds_b0 x0 x1 x2 t29 t41 (us.getD 0 .bot) (us.getD 1 .bot) g) [q6, q14] h21
def k_law14_HeapBounds (x0 : AV) (x1 : AV) (x2 : AV) (h : Heap) : Option (AV × Heap) :=
  cl (k_law14_awake h) fun t18 h0 =>
  (unA .not t18).bind fun t19 =>
  condE t19 (
  some ((AV.bool false), h0)) (
  (binP .lss x0 (AV.int .i64 0)).bind fun t21 =>
  gQ (gdW t21 false) h0 (some (x0, h0)) fun t23 h1 =>
  gQ (gdW t21 false) h1 ((binP .gtr t23 (AV.int .i64 63)).bind fun t24 =>
  some (t24, h1)) fun t24_2 h3 =>
  (pickP t21 (AV.bool true) t24_2).bind fun t25 =>
  condE t25 (
  some ((AV.bool true), h3)) (
  cl (k_law14_shapes h3) fun t27 h4 =>
  cl (k_heap_New (AV.int .i64 8) t27 h4) fun t28 h5 =>
  (extractV 0 t28).bind fun t29 =>
  (extractV 1 t28).bind fun t30 =>
  (eqP (some (.int .i64)) none false .neq t30 (AV.int .i64 0)).bind fun t32 =>
  condE t32 (
  some ((AV.bool false), h5)) (
  (binP .add x0 (AV.int .i64 1)).bind fun t36 =>
  (bldS [(0, 1)] [(AV.sl none 0 (.ex 0))] []).bind fun t37 =>
  mk Heap.new (bxP t37) h5 fun t38 h6 =>
  cl (k_heap_Heap_Make t29 (AV.int .i64 1) t36 (AV.ifc 30 t38) h6) fun t40 h7 =>
  (extractV 0 t40).bind fun t41 =>
  (extractV 1 t40).bind fun t42 =>
  cl (k_heap_Heap_Len t29 t41 h7) fun t46 h8 =>
  (extractV 0 t46).bind fun t47 =>
  (extractV 1 t46).bind fun t48 =>
  (eqP (some (.int .i64)) none false .neq t42 (AV.int .i64 0)).bind fun t50 =>
  gQ (gdW t50 false) h8 (some (t48, h8)) fun t52 h9 =>
  gQ (gdW t50 false) h9 ((eqP (some (.int .i64)) none false .neq t52 (AV.int .i64 0)).bind fun t53 =>
  some (t53, h9)) fun t53_10 h11 =>
  (pickP t50 (AV.bool true) t53_10).bind fun t54 =>
  gQ (gdW t54 false) h11 (some (t47, h11)) fun t56 h12 =>
  gQ (gdW t54 false) h12 (some (x0, h12)) fun t57 h13 =>
  gQ (gdW t54 false) h13 ((eqP (some (.int .i64)) none false .neq t56 t57).bind fun t58 =>
  some (t58, h13)) fun t58_14 h15 =>
  (pickP t54 (AV.bool true) t58_14).bind fun t59 =>
  condE t59 (
  some ((AV.bool false), h15)) (
  cl (k_heap_Heap_Put t29 t41 x1 x2 (AV.bool false) (AV.bool true) (AV.int .i64 1) h15) fun t64 h16 =>
  (binP .lss x1 (AV.int .i64 0)).bind fun t66 =>
  gQ (gdW t66 false) h16 (some (x1, h16)) fun t68 h17 =>
  gQ (gdW t66 false) h17 (some (x0, h17)) fun t69 h18 =>
  gQ (gdW t66 false) h18 ((binP .geq t68 t69).bind fun t70 =>
  some (t70, h18)) fun t70_19 h20 =>
  (pickP t66 (AV.bool true) t70_19).bind fun t71 =>
  condE t71 (
  (eqP (some (.int .i64)) none false .eql t64 (AV.int .i64 2)).bind fun t73 =>
  some (t73, h20)) (
  lp (k_law14_HeapBounds_L0 x0 x1 x2 t29 t41 (AV.bool false) (AV.int .i64 0) h20) fun e vs h28 =>
  thenK (if e = .exit 0 then .normal else e) (
  (eqP (some (.int .i64)) none false .eql t64 (AV.int .i64 0)).bind fun t98 =>
  some (t98, h28)) (fun e_29 => endE e_29 (some ((vs.getD 0 .bot), h28))))))))
def T99 : Tab := (4, p3 k_law14_HeapBounds) :: T98
/- 55: gantline/gantlineref1.Words -/
def k_ref1_Words (x0 : AV) (h : Heap) : Option (AV × Heap) :=
  (binP .lss x0 (AV.int .i64 0)).bind fun t4 =>
  gQ (gdW t4 false) h (some (x0, h)) fun t6 h0 =>
  gQ (gdW t4 false) h0 ((binP .gtr t6 (AV.int .i64 5)).bind fun t7 =>
  some (t7, h0)) fun t7_1 h2 =>
  (pickP t4 (AV.bool true) t7_1).bind fun t8 =>
  condE t8 (
  some ((AV.int .i64 0), h2)) (
  mk Heap.new (bsP 1 [(AV.int .i64 0)] 6 [(0, (AV.int .i64 2)), (1, (AV.int .i64 4)), (2, (AV.int .i64 8)), (3, (AV.int .i64 16)), (4, (AV.int .i64 32)), (5, (AV.int .i64 64))]) h2 fun t9 h3 =>
  (iaS 1 t9 x0).bind fun t11 =>
  (ldS h3 t11).bind fun t12 =>
  some (t12, h3))
def T100 : Tab := (55, p1 k_ref1_Words) :: T99
/- 22: gantline/gantlineref1.Class -/
def k_ref1_Class_b0 (x0 : AV) (q2 : AV) (q3 : AV) (h0 : Heap) : OutV :=
  (binP .lss q3 (AV.int .i64 6)).bind fun t5 =>
  gQ (gdW t5 true) h0 (some (x0, h0)) fun t7 h1 =>
  gQ (gdW t5 true) h1 ((binP .geq t7 (AV.int .i64 1)).bind fun t8 =>
  some (t8, h1)) fun t8_2 h3 =>
  (pickP t5 t8_2 (AV.bool false)).bind fun t9 =>
  condE t9 (
  cl (k_ref1_Words q3 h3) fun t13 h4 =>
  (binP .geq t13 x0).bind fun t15 =>
  condE t15 (
  some (.ret, [q3, q3], h4)) (
  (binP .add q3 (AV.int .i64 1)).bind fun t11 =>
  some (.normal, [q2, t11], h4))) (
  some ((.exit 0), [q2, q3], h3))
def k_ref1_Class_L0 (x0 : AV) (q2 : AV) (q3 : AV) (h0 : Heap) : OutV := loopN (fun us g => k_ref1_Class_b0 x0 (us.getD 0 .bot) (us.getD 1 .bot) g) [q2, q3] h0
def k_ref1_Class (x0 : AV) (h : Heap) : Option (AV × Heap) :=
  lp (k_ref1_Class_L0 x0 (AV.int .i64 0) (AV.int .i64 0) h) fun e vs h5 =>
  thenK (if e = .exit 0 then .normal else e) (
  some ((AV.int .i64 (-1)), h5)) (fun e_6 => endE e_6 (some ((vs.getD 0 .bot), h5)))
def T101 : Tab := (22, p1 k_ref1_Class) :: T100
/- 21: gantline/gantlineref1.Places -/
def k_ref1_Places (x0 : AV) (h : Heap) : Option (AV × Heap) :=
  (binP .lss x0 (AV.int .i64 0)).bind fun t4 =>
  gQ (gdW t4 false) h (some (x0, h)) fun t6 h0 =>
  gQ (gdW t4 false) h0 ((binP .gtr t6 (AV.int .i64 5)).bind fun t7 =>
  some (t7, h0)) fun t7_1 h2 =>
  (pickP t4 (AV.bool true) t7_1).bind fun t8 =>
  condE t8 (
  some ((AV.int .i64 0), h2)) (
  cl (k_ref1_Words x0 h2) fun t10 h3 =>
  (binP .quo (AV.int .i64 64) t10).bind fun t11 =>
  some (t11, h3))
def T102 : Tab := (21, p1 k_ref1_Places) :: T101
/- 24: (*gantline/cycle.Cycle).Done -/
def k_cycle_Cycle_Done (x0 : AV) (h : Heap) : Option (AV × Heap) :=
  (nilV x0).bind fun t4 =>
  (faP 6 t4).bind fun t5 =>
  (ldS h t5).bind fun t6 =>
  some (t6, h)
def T103 : Tab := (24, p1 k_cycle_Cycle_Done) :: T102
/- 5: gantline/gantlinelaw14.HeapForced -/
def k_law14_HeapForced_j0 (q11 : AV) (q6_20 : AV) (q10_21 : AV) (h22 : Heap) : OutV :=
  (binP .add q11 (AV.int .i64 1)).bind fun t55 =>
  some (.normal, [q6_20, q10_21, t55], h22)
def k_law14_HeapForced_b0 (x0 : AV) (x1 : AV) (x2 : AV) (t45 : AV) (t50 : AV) (q6 : AV) (q10 : AV) (q11 : AV) (h19 : Heap) : OutV :=
  (binP .lss q11 x0).bind fun t53 =>
  condE t53 (
  cl (k_heap_Heap_Make t45 (AV.int .i64 1) x2 (AV.ifc 30 t50) h19) fun t61 h23 =>
  (extractV 0 t61).bind fun t62 =>
  (extractV 1 t61).bind fun t63 =>
  (eqP (some (.int .i64)) none false .neq t63 (AV.int .i64 0)).bind fun t65 =>
  condE t65 (
  cl (k_ref1_Class x2 h23) fun t67 h24 =>
  cl (k_ref1_Places t67 h24) fun t68 h25 =>
  (binP .mul (AV.int .i64 7) t68).bind fun t69 =>
  (eqP (some (.int .i64)) none false .eql t63 (AV.int .i64 5)).bind fun t71 =>
  gQ (gdW t71 true) h25 (some (t62, h25)) fun t73 h26 =>
  gQ (gdW t71 true) h26 ((eqP (some (.int .i64)) none false .eql t73 (AV.int .i64 0)).bind fun t74 =>
  some (t74, h26)) fun t74_27 h28 =>
  (pickP t71 t74_27 (AV.bool false)).bind fun t75 =>
  gQ (gdW t75 true) h28 (some (t50, h28)) fun t77 h29 =>
  gQ (gdW t75 true) h29 ((nilV t77).bind fun t78 =>
  some (t78, h29)) fun t78_30 h31 =>
  gQ (gdW t75 true) h31 ((faP 0 t78_30).bind fun t79 =>
  some (t79, h31)) fun t79_32 h33 =>
  gQ (gdW t75 true) h33 ((ldS h33 t79_32).bind fun t80 =>
  some (t80, h33)) fun t80_34 h35 =>
  gQ (gdW t75 true) h35 ((lnL t80_34).bind fun t81 =>
  some (t81, h35)) fun t81_36 h37 =>
  gQ (gdW t75 true) h37 (some (t69, h37)) fun t82 h38 =>
  gQ (gdW t75 true) h38 ((eqP (some (.int .i64)) none false .eql t81_36 t82).bind fun t83 =>
  some (t83, h38)) fun t83_39 h40 =>
  (pickP t75 t83_39 (AV.bool false)).bind fun t84 =>
  gQ (gdW t84 true) h40 (some (t45, h40)) fun t86 h41 =>
  gQ (gdW t84 true) h41 (cl (k_heap_Heap_Forced t86 h41) fun t87 h42 =>
  some (t87, h42)) fun t87_43 h44 =>
  gQ (gdW t84 true) h44 ((binP .geq t87_43 (AV.int .i64 1)).bind fun t88 =>
  some (t88, h44)) fun t88_45 h46 =>
  (pickP t84 t88_45 (AV.bool false)).bind fun t89 =>
  some (.ret, [t89, q10, q11], h46)) (
  (binP .add q10 (AV.int .i64 1)).bind fun t91 =>
  (binP .rem q11 x1).bind fun t94 =>
  (eqP (some (.int .i64)) none false .eql t94 (AV.int .i64 0)).bind fun t95 =>
  condE t95 (
  (nilV t50).bind fun t98 =>
  (faP 0 t98).bind fun t99 =>
  (ldS h23 t99).bind fun t100 =>
  mk Heap.new (bsP 1 [(AV.int .i64 0)] 1 [(0, t62)]) h23 fun t102 h62 =>
  cl (appendA h62 1 8 t100 t102) fun t103 h63 =>
  (nilV t50).bind fun t104 =>
  (faP 0 t104).bind fun t105 =>
  cl (stP 1 h63 t105 t103) fun u h64 =>
  cl (k_heap_Heap_Put t45 t62 (AV.int .i64 0) q11 (AV.bool false) (AV.bool true) (AV.int .i64 1) h64) fun t109 h65 =>
  k_law14_HeapForced_j0 q11 q6 t91 h65) (
  k_law14_HeapForced_j0 q11 q6 t91 h23))) (
  some ((.exit 0), [q6, q10, q11], h19))
def k_law14_HeapForced_L0 (x0 : AV) (x1 : AV) (x2 : AV) (t45 : AV) (t50 : AV) (q6 : AV) (q10 : AV) (q11 : AV) (h19 : Heap) : OutV := loopN (fun us g => k_law14_HeapForced_b0 x0 x1 x2 t45 t50 (us.getD 0 .bot) (us.getD 1 .bot) (us.getD 2 .bot) g) [q6, q10, q11] h19
def k_law14_HeapForced_b1 (x1 : AV) (t45 : AV) (t50 : AV) (q6_67 : AV) (q15 : AV) (h68 : Heap) : OutV :=
  (nilV t50).bind fun t112 =>
  (faP 0 t112).bind fun t113 =>
  (ldS h68 t113).bind fun t114 =>
  (lnL t114).bind fun t115 =>
  (binP .lss q15 t115).bind fun t116 =>
  condE t116 (
  (nilV t50).bind fun t122 =>
  (faP 0 t122).bind fun t123 =>
  (ldS h68 t123).bind fun t124 =>
  (iaS 1 t124 q15).bind fun t126 =>
  (ldS h68 t126).bind fun t127 =>
  cl (k_heap_Heap_At t45 t127 (AV.int .i64 0) (AV.bool false) h68) fun t128 h69 =>
  (extractV 0 t128).bind fun t129 =>
  (extractV 1 t128).bind fun t130 =>
  (eqP (some (.int .i64)) none false .neq t130 (AV.int .i64 0)).bind fun t132 =>
  gQ (gdW t132 false) h69 (some (t129, h69)) fun t134 h70 =>
  gQ (gdW t132 false) h70 (some (q15, h70)) fun t135 h71 =>
  gQ (gdW t132 false) h71 (some (x1, h71)) fun t136 h72 =>
  gQ (gdW t132 false) h72 ((binP .mul t135 t136).bind fun t137 =>
  some (t137, h72)) fun t137_73 h74 =>
  gQ (gdW t132 false) h74 ((eqP (some (.int .i64)) none false .neq t134 t137_73).bind fun t138 =>
  some (t138, h74)) fun t138_75 h76 =>
  (pickP t132 (AV.bool true) t138_75).bind fun t139 =>
  condE t139 (
  some (.ret, [(AV.bool false), q15], h76)) (
  (binP .add q15 (AV.int .i64 1)).bind fun t118 =>
  some (.normal, [q6_67, t118], h76))) (
  some ((.exit 2), [q6_67, q15], h68))
def k_law14_HeapForced_L1 (x1 : AV) (t45 : AV) (t50 : AV) (q6_67 : AV) (q15 : AV) (h68 : Heap) : OutV := loopN (fun us g => k_law14_HeapForced_b1 x1 t45 t50 (us.getD 0 .bot) (us.getD 1 .bot) g) [q6_67, q15] h68
def k_law14_HeapForced (x0 : AV) (x1 : AV) (x2 : AV) (h : Heap) : Option (AV × Heap) :=
  cl (k_law14_awake h) fun t18 h0 =>
  (unA .not t18).bind fun t19 =>
  condE t19 (
  some ((AV.bool false), h0)) (
  (binP .lss x0 (AV.int .i64 1)).bind fun t21 =>
  gQ (gdW t21 false) h0 (some (x0, h0)) fun t23 h1 =>
  gQ (gdW t21 false) h1 ((binP .gtr t23 (AV.int .i64 400)).bind fun t24 =>
  some (t24, h1)) fun t24_2 h3 =>
  (pickP t21 (AV.bool true) t24_2).bind fun t25 =>
  gQ (gdW t25 false) h3 (some (x1, h3)) fun t27 h4 =>
  gQ (gdW t25 false) h4 ((binP .lss t27 (AV.int .i64 1)).bind fun t28 =>
  some (t28, h4)) fun t28_5 h6 =>
  (pickP t25 (AV.bool true) t28_5).bind fun t29 =>
  gQ (gdW t29 false) h6 (some (x1, h6)) fun t31 h7 =>
  gQ (gdW t29 false) h7 ((binP .gtr t31 (AV.int .i64 50)).bind fun t32 =>
  some (t32, h7)) fun t32_8 h9 =>
  (pickP t29 (AV.bool true) t32_8).bind fun t33 =>
  gQ (gdW t33 false) h9 (some (x2, h9)) fun t35 h10 =>
  gQ (gdW t33 false) h10 ((binP .lss t35 (AV.int .i64 2)).bind fun t36 =>
  some (t36, h10)) fun t36_11 h12 =>
  (pickP t33 (AV.bool true) t36_11).bind fun t37 =>
  gQ (gdW t37 false) h12 (some (x2, h12)) fun t39 h13 =>
  gQ (gdW t37 false) h13 ((binP .gtr t39 (AV.int .i64 64)).bind fun t40 =>
  some (t40, h13)) fun t40_14 h15 =>
  (pickP t37 (AV.bool true) t40_14).bind fun t41 =>
  condE t41 (
  some ((AV.bool true), h15)) (
  cl (k_law14_shapes h15) fun t43 h16 =>
  cl (k_heap_New (AV.int .i64 8) t43 h16) fun t44 h17 =>
  (extractV 0 t44).bind fun t45 =>
  (extractV 1 t44).bind fun t46 =>
  (eqP (some (.int .i64)) none false .neq t46 (AV.int .i64 0)).bind fun t48 =>
  condE t48 (
  some ((AV.bool false), h17)) (
  (bldS [(0, 1)] [(AV.sl none 0 (.ex 0))] []).bind fun t49 =>
  mk Heap.new (bxP t49) h17 fun t50 h18 =>
  lp (k_law14_HeapForced_L0 x0 x1 x2 t45 t50 (AV.bool false) (AV.int .i64 0) (AV.int .i64 0) h18) fun e vs h66 =>
  thenK (if e = .exit 0 then .normal else e) (
  lp (k_law14_HeapForced_L1 x1 t45 t50 (vs.getD 0 .bot) (AV.int .i64 0) h66) fun e_77 vs_78 h79 =>
  thenK (if e_77 = .exit 2 then .normal else e_77) (
  (eqP (some (.int .i64)) none false .eql (vs.getD 1 .bot) x0).bind fun t142 =>
  gQ (gdW t142 true) h79 (some (t45, h79)) fun t144 h80 =>
  gQ (gdW t142 true) h80 (cl (k_heap_Heap_Cycle t144 h80) fun t145 h81 =>
  some (t145, h81)) fun t145_82 h83 =>
  gQ (gdW t142 true) h83 (cl (k_cycle_Cycle_Done t145_82 h83) fun t146 h84 =>
  some (t146, h84)) fun t146_85 h86 =>
  gQ (gdW t142 true) h86 (some (t45, h86)) fun t147 h87 =>
  gQ (gdW t142 true) h87 (cl (k_heap_Heap_Forced t147 h87) fun t148 h88 =>
  some (t148, h88)) fun t148_89 h90 =>
  gQ (gdW t142 true) h90 ((eqP (some (.int .i64)) none false .eql t146_85 t148_89).bind fun t149 =>
  some (t149, h90)) fun t149_91 h92 =>
  (pickP t142 t149_91 (AV.bool false)).bind fun t150 =>
  some (t150, h92)) (fun e_93 => endE e_93 (some ((vs_78.getD 0 .bot), h79)))) (fun e_94 => endE e_94 (some ((vs.getD 0 .bot), h66))))))
def T104 : Tab := (5, p3 k_law14_HeapForced) :: T103
/- 26: gantline/gantlinelaw15.shapes -/
def k_law15_shapes (h : Heap) : Option (AV × Heap) :=
  (bldS [(0, 1), (1, 1), (2, 1)] [(AV.int .i64 0), (AV.int .i64 0), (AV.int .u64 0)] [(0, (AV.int .i64 3))]).bind fun t1 =>
  (bldS [(0, 1), (1, 1), (2, 1)] [(AV.int .i64 0), (AV.int .i64 0), (AV.int .u64 0)] [(0, (AV.int .i64 3)), (2, (AV.int .u64 1))]).bind fun t2 =>
  (bldS [(0, 1), (1, 1), (2, 1)] [(AV.int .i64 0), (AV.int .i64 0), (AV.int .u64 0)] []).bind fun t3 =>
  mk Heap.new (bsP 3 [(AV.int .i64 0), (AV.int .i64 0), (AV.int .u64 0)] 3 [(0, t1), (1, t2), (2, t3)]) h fun t4 h0 =>
  some (t4, h0)
def T105 : Tab := (26, p0 k_law15_shapes) :: T104
/- 57: gantline/chans.set -/
def k_chans_set (x0 : AV) (x1 : AV) (x2 : AV) (x3 : AV) (h : Heap) : Option (AV × Heap) :=
  cl (k_heap_Heap_Cycle x0 h) fun t9 h0 =>
  cl (k_cycle_Cycle_Arena t9 h0) fun t10 h1 =>
  (binP .add x2 (AV.int .i64 1)).bind fun t13 =>
  cl (k_arena_Arena_Write t10 x1 t13 x3 h1) fun t15 h2 =>
  some (AV.tup [], h2)
def T106 : Tab := (57, p4 k_chans_set) :: T105
/- 27: gantline/chans.Make -/
def k_chans_Make (x0 : AV) (x1 : AV) (x2 : AV) (x3 : AV) (h : Heap) : Option (AV × Heap) :=
  (binP .lss x2 (AV.int .i64 0)).bind fun t14 =>
  gQ (gdW t14 false) h (some (x2, h)) fun t16 h0 =>
  gQ (gdW t14 false) h0 ((binP .gtr t16 (AV.int .i64 59)).bind fun t17 =>
  some (t17, h0)) fun t17_1 h2 =>
  (pickP t14 (AV.bool true) t17_1).bind fun t18 =>
  condE t18 (
  some (AV.tup [(AV.int .i64 0), (AV.int .i64 5), (AV.int .i64 0)], h2)) (
  (binP .add x2 (AV.int .i64 5)).bind fun t23 =>
  cl (k_heap_Heap_Make x0 x1 t23 x3 h2) fun t25 h3 =>
  (extractV 0 t25).bind fun t26 =>
  (extractV 1 t25).bind fun t27 =>
  (eqP (some (.int .i64)) none false .neq t27 (AV.int .i64 0)).bind fun t29 =>
  condE t29 (
  some (AV.tup [(AV.int .i64 0), (AV.int .i64 0), t27], h3)) (
  cl (k_chans_set x0 t26 (AV.int .i64 0) x2 h3) fun t34 h4 =>
  some (AV.tup [t26, (AV.int .i64 0), (AV.int .i64 0)], h4)))
def T107 : Tab := (27, p4 k_chans_Make) :: T106
/- 58: gantline/chans.is -/
def k_chans_is (x0 : AV) (x1 : AV) (h : Heap) : Option (AV × Heap) :=
  cl (k_heap_Heap_Of x0 x1 h) fun t11 h0 =>
  (extractV 0 t11).bind fun t12 =>
  (extractV 1 t11).bind fun t13 =>
  (extractV 2 t11).bind fun t14 =>
  mk Heap.new (some (Blk.cells true [(AV.int .i64 0), (AV.int .i64 0), (AV.int .i64 0)], fun i => AV.ptr (some (i, 0)))) h0 fun t6 h1 =>
  mk Heap.new (some (Blk.cells true [(AV.int .i64 0), (AV.int .i64 0), (AV.int .u64 0)], fun i => AV.ptr (some (i, 0)))) h1 fun t7 h2 =>
  cl (stP 3 h2 t6 t12) fun u h3 =>
  cl (stP 3 h3 t7 t13) fun u_4 h5 =>
  (gV (gdW t14 true) (faP 1 t6) (.tup [])).bind fun t17 =>
  (gV (gdW t14 true) (ldS h5 t17) (.tup [])).bind fun t18 =>
  (gV (gdW t14 true) (eqP (some (.int .i64)) none false .eql t18 (AV.int .i64 3)) (.tup [])).bind fun t19 =>
  (pickP t14 t19 (AV.bool false)).bind fun t20 =>
  (faP 2 t7).bind fun t21 =>
  (ldS h5 t21).bind fun t22 =>
  (binP .and t22 (AV.int .u64 1)).bind fun t23 =>
  (eqP (some (.int .u64)) none false .eql t23 (AV.int .u64 1)).bind fun t24 =>
  chk [h5] [] (
  some (AV.tup [t20, t24], h5))
def T108 : Tab := (58, p2 k_chans_is) :: T107
/- 59: gantline/chans.get -/
def k_chans_get (x0 : AV) (x1 : AV) (x2 : AV) (h : Heap) : Option (AV × Heap) :=
  cl (k_heap_Heap_Cycle x0 h) fun t11 h0 =>
  cl (k_cycle_Cycle_Arena t11 h0) fun t12 h1 =>
  (binP .add x2 (AV.int .i64 1)).bind fun t15 =>
  cl (k_arena_Arena_Read t12 x1 t15 h1) fun t16 h2 =>
  (extractV 0 t16).bind fun t17 =>
  (extractV 1 t16).bind fun t18 =>
  some (t17, h2)
def T109 : Tab := (59, p3 k_chans_get) :: T108
/- 33: gantline/chans.Closed -/
def k_chans_Closed (x0 : AV) (x1 : AV) (h : Heap) : Option (AV × Heap) :=
  cl (k_chans_is x0 x1 h) fun t10 h0 =>
  (extractV 0 t10).bind fun t11 =>
  (extractV 1 t10).bind fun t12 =>
  (unA .not t11).bind fun t14 =>
  gQ (gdW t14 false) h0 (some (x0, h0)) fun t16 h1 =>
  gQ (gdW t14 false) h1 (some (x1, h1)) fun t17 h2 =>
  gQ (gdW t14 false) h2 (cl (k_chans_get t16 t17 (AV.int .i64 3) h2) fun t18 h3 =>
  some (t18, h3)) fun t18_4 h5 =>
  gQ (gdW t14 false) h5 ((eqP (some (.int .i64)) none false .neq t18_4 (AV.int .i64 0)).bind fun t19 =>
  some (t19, h5)) fun t19_6 h7 =>
  (pickP t14 (AV.bool true) t19_6).bind fun t20 =>
  some (t20, h7)
def T110 : Tab := (33, p2 k_chans_Closed) :: T109
/- 32: gantline/chans.Count -/
def k_chans_Count (x0 : AV) (x1 : AV) (h : Heap) : Option (AV × Heap) :=
  cl (k_chans_is x0 x1 h) fun t10 h0 =>
  (extractV 0 t10).bind fun t11 =>
  (extractV 1 t10).bind fun t12 =>
  (unA .not t11).bind fun t14 =>
  condE t14 (
  some ((AV.int .i64 0), h0)) (
  cl (k_chans_get x0 x1 (AV.int .i64 1) h0) fun t17 h1 =>
  some (t17, h1))
def T111 : Tab := (32, p2 k_chans_Count) :: T110
/- 28: gantline/chans.Room -/
def k_chans_Room (x0 : AV) (x1 : AV) (h : Heap) : Option (AV × Heap) :=
  cl (k_chans_is x0 x1 h) fun t10 h0 =>
  (extractV 0 t10).bind fun t11 =>
  (extractV 1 t10).bind fun t12 =>
  (unA .not t11).bind fun t14 =>
  condE t14 (
  some ((AV.int .i64 0), h0)) (
  cl (k_chans_get x0 x1 (AV.int .i64 0) h0) fun t17 h1 =>
  some (t17, h1))
def T112 : Tab := (28, p2 k_chans_Room) :: T111
/- 29: gantline/chans.Push -/
def k_chans_Push_j0 (x0 : AV) (x1 : AV) (x2 : AV) (t35 : AV) (h17 : Heap) : Option (AV × Heap) :=
  cl (k_chans_set x0 x1 t35 x2 h17) fun t56 h18 =>
  cl (k_chans_Count x0 x1 h18) fun t61 h19 =>
  (binP .add t61 (AV.int .i64 1)).bind fun t62 =>
  cl (k_chans_set x0 x1 (AV.int .i64 1) t62 h19) fun t63 h20 =>
  some ((AV.bool true), h20)
def k_chans_Push (x0 : AV) (x1 : AV) (x2 : AV) (x3 : AV) (h : Heap) : Option (AV × Heap) :=
  cl (k_chans_Closed x0 x1 h) fun t14 h0 =>
  gQ (gdW t14 false) h0 (some (x0, h0)) fun t16 h1 =>
  gQ (gdW t14 false) h1 (some (x1, h1)) fun t17 h2 =>
  gQ (gdW t14 false) h2 (cl (k_chans_Count t16 t17 h2) fun t18 h3 =>
  some (t18, h3)) fun t18_4 h5 =>
  gQ (gdW t14 false) h5 (some (x0, h5)) fun t19 h6 =>
  gQ (gdW t14 false) h6 (some (x1, h6)) fun t20 h7 =>
  gQ (gdW t14 false) h7 (cl (k_chans_Room t19 t20 h7) fun t21 h8 =>
  some (t21, h8)) fun t21_9 h10 =>
  gQ (gdW t14 false) h10 ((binP .geq t18_4 t21_9).bind fun t22 =>
  some (t22, h10)) fun t22_11 h12 =>
  (pickP t14 (AV.bool true) t22_11).bind fun t23 =>
  condE t23 (
  some ((AV.bool false), h12)) (
  cl (k_chans_get x0 x1 (AV.int .i64 2) h12) fun t26 h13 =>
  cl (k_chans_Count x0 x1 h13) fun t29 h14 =>
  (binP .add t26 t29).bind fun t30 =>
  cl (k_chans_Room x0 x1 h14) fun t33 h15 =>
  (binP .rem t30 t33).bind fun t34 =>
  (binP .add (AV.int .i64 4) t34).bind fun t35 =>
  cl (k_chans_is x0 x1 h15) fun t39 h16 =>
  (extractV 0 t39).bind fun t40 =>
  (extractV 1 t39).bind fun t41 =>
  condE t41 (
  cl (k_heap_Heap_Cycle x0 h16) fun t44 h21 =>
  cl (k_chans_get x0 x1 t35 h21) fun t48 h22 =>
  cl (k_cycle_Cycle_Barrier t44 t48 x2 x3 h22) fun t51 h23 =>
  k_chans_Push_j0 x0 x1 x2 t35 h23) (
  k_chans_Push_j0 x0 x1 x2 t35 h16))
def T113 : Tab := (29, p4 k_chans_Push) :: T112
/- 30: gantline/chans.Pop -/
def k_chans_Pop_j0 (x0 : AV) (x1 : AV) (t23 : AV) (t29 : AV) (t33 : AV) (h12 : Heap) : Option (AV × Heap) :=
  cl (k_chans_set x0 x1 t29 (AV.int .i64 0) h12) fun t48 h13 =>
  (binP .add t23 (AV.int .i64 1)).bind fun t52 =>
  cl (k_chans_Room x0 x1 h13) fun t55 h14 =>
  (binP .rem t52 t55).bind fun t56 =>
  cl (k_chans_set x0 x1 (AV.int .i64 2) t56 h14) fun t57 h15 =>
  cl (k_chans_Count x0 x1 h15) fun t62 h16 =>
  (binP .sub t62 (AV.int .i64 1)).bind fun t63 =>
  cl (k_chans_set x0 x1 (AV.int .i64 1) t63 h16) fun t64 h17 =>
  some (AV.tup [t33, (AV.bool true)], h17)
def k_chans_Pop (x0 : AV) (x1 : AV) (h : Heap) : Option (AV × Heap) :=
  cl (k_chans_Count x0 x1 h) fun t13 h0 =>
  (binP .lss t13 (AV.int .i64 1)).bind fun t14 =>
  gQ (gdW t14 false) h0 (some (x0, h0)) fun t16 h1 =>
  gQ (gdW t14 false) h1 (some (x1, h1)) fun t17 h2 =>
  gQ (gdW t14 false) h2 (cl (k_chans_Room t16 t17 h2) fun t18 h3 =>
  some (t18, h3)) fun t18_4 h5 =>
  gQ (gdW t14 false) h5 ((binP .lss t18_4 (AV.int .i64 1)).bind fun t19 =>
  some (t19, h5)) fun t19_6 h7 =>
  (pickP t14 (AV.bool true) t19_6).bind fun t20 =>
  condE t20 (
  some (AV.tup [(AV.int .i64 0), (AV.bool false)], h7)) (
  cl (k_chans_get x0 x1 (AV.int .i64 2) h7) fun t23 h8 =>
  cl (k_chans_Room x0 x1 h8) fun t27 h9 =>
  (binP .rem t23 t27).bind fun t28 =>
  (binP .add (AV.int .i64 4) t28).bind fun t29 =>
  cl (k_chans_get x0 x1 t29 h9) fun t33 h10 =>
  cl (k_chans_is x0 x1 h10) fun t37 h11 =>
  (extractV 0 t37).bind fun t38 =>
  (extractV 1 t37).bind fun t39 =>
  condE t39 (
  cl (k_heap_Heap_Cycle x0 h11) fun t42 h18 =>
  cl (k_cycle_Cycle_Barrier t42 t33 (AV.int .i64 0) (AV.int .i64 (-1)) h18) fun t44 h19 =>
  k_chans_Pop_j0 x0 x1 t23 t29 t33 h19) (
  k_chans_Pop_j0 x0 x1 t23 t29 t33 h11))
def T114 : Tab := (30, p2 k_chans_Pop) :: T113
/- 31: gantline/chans.Close -/
def k_chans_Close (x0 : AV) (x1 : AV) (h : Heap) : Option (AV × Heap) :=
  cl (k_chans_Closed x0 x1 h) fun t7 h0 =>
  condE t7 (
  some ((AV.bool false), h0)) (
  cl (k_chans_set x0 x1 (AV.int .i64 3) (AV.int .i64 1) h0) fun t10 h1 =>
  some ((AV.bool true), h1))
def T115 : Tab := (31, p2 k_chans_Close) :: T114
/- 56: gantline/chans.Is -/
def k_chans_Is (x0 : AV) (x1 : AV) (x2 : AV) (h : Heap) : Option (AV × Heap) :=
  cl (k_chans_is x0 x1 h) fun t12 h0 =>
  (extractV 0 t12).bind fun t13 =>
  (extractV 1 t12).bind fun t14 =>
  gQ (gdW t13 true) h0 (some (t14, h0)) fun t17 h1 =>
  gQ (gdW t13 true) h1 (some (x2, h1)) fun t18 h2 =>
  gQ (gdW t13 true) h2 ((eqP (some .bool) none false .eql t17 t18).bind fun t19 =>
  some (t19, h2)) fun t19_3 h4 =>
  (pickP t13 t19_3 (AV.bool false)).bind fun t20 =>
  some (t20, h4)
def T116 : Tab := (56, p3 k_chans_Is) :: T115
/- 25: gantline/gantlinelaw15.awake -/
def k_law15_awakeR (h : Heap) : Option (AV × Heap) :=
  cl (k_law15_shapes h) fun t13 h0 =>
  cl (k_heap_New (AV.int .i64 8) t13 h0) fun t14 h1 =>
  (extractV 0 t14).bind fun t15 =>
  (extractV 1 t14).bind fun t16 =>
  (eqP (some (.int .i64)) none false .neq t16 (AV.int .i64 0)).bind fun t18 =>
  gQ (gdW t18 false) h1 (some (t15, h1)) fun t20 h2 =>
  gQ (gdW t18 false) h2 ((eqP (some (.pointer 0)) none false .eql t20 (AV.ptr none)).bind fun t21 =>
  some (t21, h2)) fun t21_3 h4 =>
  (pickP t18 (AV.bool true) t21_3).bind fun t22 =>
  condE t22 (
  some ((AV.bool false), h4)) (
  (bldS [(0, 1)] [(AV.sl none 0 (.ex 0))] []).bind fun t25 =>
  mk Heap.new (bxP t25) h4 fun t26 h5 =>
  cl (k_chans_Make t15 (AV.int .i64 0) (AV.int .i64 1) (AV.ifc 66 t26) h5) fun t28 h6 =>
  (extractV 0 t28).bind fun t29 =>
  (extractV 1 t28).bind fun t30 =>
  (extractV 2 t28).bind fun t31 =>
  cl (k_chans_Push t15 t29 (AV.int .i64 7) (AV.int .i64 1) h6) fun t34 h7 =>
  cl (k_chans_Push t15 t29 (AV.int .i64 8) (AV.int .i64 1) h7) fun t37 h8 =>
  cl (k_chans_Count t15 t29 h8) fun t40 h9 =>
  cl (k_chans_Pop t15 t29 h9) fun t44 h10 =>
  (extractV 0 t44).bind fun t45 =>
  (extractV 1 t44).bind fun t46 =>
  cl (k_chans_Close t15 t29 h10) fun t49 h11 =>
  (eqP (some (.int .i64)) none false .eql t30 (AV.int .i64 0)).bind fun t51 =>
  gQ (gdW t51 true) h11 (some (t31, h11)) fun t53 h12 =>
  gQ (gdW t51 true) h12 ((eqP (some (.int .i64)) none false .eql t53 (AV.int .i64 0)).bind fun t54 =>
  some (t54, h12)) fun t54_13 h14 =>
  (pickP t51 t54_13 (AV.bool false)).bind fun t55 =>
  gQ (gdW t55 true) h14 (some (t34, h14)) fun t57 h15 =>
  (pickP t55 t57 (AV.bool false)).bind fun t58 =>
  gQ (gdW t58 true) h15 (some (t37, h15)) fun t60 h16 =>
  gQ (gdW t58 true) h16 ((unA .not t60).bind fun t61 =>
  some (t61, h16)) fun t61_17 h18 =>
  (pickP t58 t61_17 (AV.bool false)).bind fun t62 =>
  gQ (gdW t62 true) h18 (some (t40, h18)) fun t64 h19 =>
  gQ (gdW t62 true) h19 ((eqP (some (.int .i64)) none false .eql t64 (AV.int .i64 1)).bind fun t65 =>
  some (t65, h19)) fun t65_20 h21 =>
  (pickP t62 t65_20 (AV.bool false)).bind fun t66 =>
  gQ (gdW t66 true) h21 (some (t46, h21)) fun t68 h22 =>
  (pickP t66 t68 (AV.bool false)).bind fun t69 =>
  gQ (gdW t69 true) h22 (some (t45, h22)) fun t71 h23 =>
  gQ (gdW t69 true) h23 ((eqP (some (.int .i64)) none false .eql t71 (AV.int .i64 7)).bind fun t72 =>
  some (t72, h23)) fun t72_24 h25 =>
  (pickP t69 t72_24 (AV.bool false)).bind fun t73 =>
  gQ (gdW t73 true) h25 (some (t49, h25)) fun t75 h26 =>
  (pickP t73 t75 (AV.bool false)).bind fun t76 =>
  gQ (gdW t76 true) h26 (some (t15, h26)) fun t78 h27 =>
  gQ (gdW t76 true) h27 (some (t29, h27)) fun t79 h28 =>
  gQ (gdW t76 true) h28 (cl (k_chans_Closed t78 t79 h28) fun t80 h29 =>
  some (t80, h29)) fun t80_30 h31 =>
  (pickP t76 t80_30 (AV.bool false)).bind fun t81 =>
  gQ (gdW t81 true) h31 (some (t15, h31)) fun t83 h32 =>
  gQ (gdW t81 true) h32 (some (t29, h32)) fun t84 h33 =>
  gQ (gdW t81 true) h33 (cl (k_chans_Close t83 t84 h33) fun t85 h34 =>
  some (t85, h34)) fun t85_35 h36 =>
  gQ (gdW t81 true) h36 ((unA .not t85_35).bind fun t86 =>
  some (t86, h36)) fun t86_37 h38 =>
  (pickP t81 t86_37 (AV.bool false)).bind fun t87 =>
  gQ (gdW t87 true) h38 (some (t15, h38)) fun t89 h39 =>
  gQ (gdW t87 true) h39 (some (t29, h39)) fun t90 h40 =>
  gQ (gdW t87 true) h40 (cl (k_chans_Room t89 t90 h40) fun t91 h41 =>
  some (t91, h41)) fun t91_42 h43 =>
  gQ (gdW t87 true) h43 ((eqP (some (.int .i64)) none false .eql t91_42 (AV.int .i64 1)).bind fun t92 =>
  some (t92, h43)) fun t92_44 h45 =>
  (pickP t87 t92_44 (AV.bool false)).bind fun t93 =>
  gQ (gdW t93 true) h45 (some (t15, h45)) fun t95 h46 =>
  gQ (gdW t93 true) h46 (some (t29, h46)) fun t96 h47 =>
  gQ (gdW t93 true) h47 (cl (k_chans_Is t95 t96 (AV.bool false) h47) fun t97 h48 =>
  some (t97, h48)) fun t97_49 h50 =>
  (pickP t93 t97_49 (AV.bool false)).bind fun t98 =>
  gQ (gdW t98 true) h50 (some (t15, h50)) fun t100 h51 =>
  gQ (gdW t98 true) h51 (some (t29, h51)) fun t101 h52 =>
  gQ (gdW t98 true) h52 (cl (k_chans_Is t100 t101 (AV.bool true) h52) fun t102 h53 =>
  some (t102, h53)) fun t102_54 h55 =>
  gQ (gdW t98 true) h55 ((unA .not t102_54).bind fun t103 =>
  some (t103, h55)) fun t103_56 h57 =>
  (pickP t98 t103_56 (AV.bool false)).bind fun t104 =>
  some (t104, h57))
def k_law15_awake : Heap → Option (AV × Heap) := quiet hQ1
def T117 : Tab := (25, p0 k_law15_awake) :: T116
/- 6: gantline/gantlinelaw15.ChansPlays -/
def k_law15_ChansPlays_j0 (t45 : AV) (q8 : AV) (q9 : AV) (q11 : AV) (t64 : AV) (q4_25 : AV) (h26 : Heap) : OutV :=
  mk Heap.new (bsP 1 [(AV.int .i64 0)] 1 [(0, t64)]) h26 fun t103 h27 =>
  cl (appendA h27 1 8 q8 t103) fun t104 h28 =>
  mk Heap.new (bsP 1 [(AV.sl none 0 (.ex 0))] 1 [(0, (AV.sl none 0 (.ex 0)))]) h28 fun t106 h29 =>
  cl (appendA h29 1 24 q9 t106) fun t107 h30 =>
  (nilV t45).bind fun t110 =>
  (faP 0 t110).bind fun t111 =>
  (ldS h30 t111).bind fun t112 =>
  mk Heap.new (bsP 1 [(AV.int .i64 0)] 1 [(0, t64)]) h30 fun t114 h31 =>
  cl (appendA h31 1 8 t112 t114) fun t115 h32 =>
  (nilV t45).bind fun t116 =>
  (faP 0 t116).bind fun t117 =>
  cl (stP 1 h32 t117 t115) fun u h33 =>
  (binP .add q11 (AV.int .i64 1)).bind fun t54 =>
  some (.normal, [q4_25, t104, t107, t54], h33)
def k_law15_ChansPlays_b0 (x0 : AV) (t40 : AV) (t45 : AV) (q4 : AV) (q8 : AV) (q9 : AV) (q11 : AV) (h15 : Heap) : OutV :=
  (lnL x0).bind fun t51 =>
  (binP .lss q11 t51).bind fun t52 =>
  condE t52 (
  (iaS 1 x0 q11).bind fun t59 =>
  (ldS h15 t59).bind fun t60 =>
  cl (k_chans_Make t40 (AV.int .i64 0) t60 (AV.ifc 66 t45) h15) fun t63 h16 =>
  (extractV 0 t63).bind fun t64 =>
  (extractV 1 t63).bind fun t65 =>
  (extractV 2 t63).bind fun t66 =>
  (iaS 1 x0 q11).bind fun t69 =>
  (ldS h16 t69).bind fun t70 =>
  (binP .lss t70 (AV.int .i64 0)).bind fun t71 =>
  gQ (gdW t71 false) h16 (some (x0, h16)) fun t73 h17 =>
  gQ (gdW t71 false) h17 (some (q11, h17)) fun t74 h18 =>
  gQ (gdW t71 false) h18 ((iaS 1 t73 t74).bind fun t75 =>
  some (t75, h18)) fun t75_19 h20 =>
  gQ (gdW t71 false) h20 ((ldS h20 t75_19).bind fun t76 =>
  some (t76, h20)) fun t76_21 h22 =>
  gQ (gdW t71 false) h22 ((binP .gtr t76_21 (AV.int .i64 59)).bind fun t77 =>
  some (t77, h22)) fun t77_23 h24 =>
  (pickP t71 (AV.bool true) t77_23).bind fun t78 =>
  condE t78 (
  (eqP (some (.int .i64)) none false .neq t65 (AV.int .i64 5)).bind fun t80 =>
  gQ (gdW t80 false) h24 (some (t64, h24)) fun t82 h34 =>
  gQ (gdW t80 false) h34 ((eqP (some (.int .i64)) none false .neq t82 (AV.int .i64 0)).bind fun t83 =>
  some (t83, h34)) fun t83_35 h36 =>
  (pickP t80 (AV.bool true) t83_35).bind fun t84 =>
  condE t84 (
  some (.ret, [(AV.bool false), q8, q9, q11], h36)) (
  k_law15_ChansPlays_j0 t45 q8 q9 q11 t64 q4 h36)) (
  (eqP (some (.int .i64)) none false .neq t65 (AV.int .i64 0)).bind fun t86 =>
  (gV (gdW t86 false) (some t66) (.tup [])).bind fun t88 =>
  (gV (gdW t86 false) (eqP (some (.int .i64)) none false .neq t88 (AV.int .i64 0)) (.tup [])).bind fun t89 =>
  (pickP t86 (AV.bool true) t89).bind fun t90 =>
  (gV (gdW t90 false) (some t40) (.tup [])).bind fun t92 =>
  (gV (gdW t90 false) (some t64) (.tup [])).bind fun t93 =>
  gQ (gdW t90 false) h24 (cl (k_chans_Room t92 t93 h24) fun t94 h37 =>
  some (t94, h37)) fun t94_38 h39 =>
  (gV (gdW t90 false) (some x0) (.tup [])).bind fun t95 =>
  (gV (gdW t90 false) (some q11) (.tup [])).bind fun t96 =>
  (gV (gdW t90 false) (iaS 1 t95 t96) (.tup [])).bind fun t97 =>
  clC (gV (gdW t90 false) (rdC (fun g => ldS g t97) h39 0 1 []) (.tup [], [])) fun t98 cs =>
  (gV (gdW t90 false) (eqP (some (.int .i64)) none false .neq t94_38 t98) (.tup [])).bind fun t99 =>
  (pickP t90 (AV.bool true) t99).bind fun t100 =>
  chk [h24, h39] cs (
  condE t100 (
  some (.ret, [(AV.bool false), q8, q9, q11], h39)) (
  k_law15_ChansPlays_j0 t45 q8 q9 q11 t64 q4 h39)))) (
  some ((.exit 0), [q4, q8, q9, q11], h15))
def k_law15_ChansPlays_L0 (x0 : AV) (t40 : AV) (t45 : AV) (q4 : AV) (q8 : AV) (q9 : AV) (q11 : AV) (h15 : Heap) : OutV := loopN (fun us g => k_law15_ChansPlays_b0 x0 t40 t45 (us.getD 0 .bot) (us.getD 1 .bot) (us.getD 2 .bot) (us.getD 3 .bot) g) [q4, q8, q9, q11] h15
def k_law15_ChansPlays_j1 (t40 : AV) (t48 : AV) (vs : List AV) (q15 : AV) (t133 : AV) (t137 : AV) (q4_46 : AV) (h47 : Heap) : OutV :=
  cl (k_chans_Count t40 t137 h47) fun t246 h48 =>
  (iaS 1 (vs.getD 2 .bot) t133).bind fun t249 =>
  clC (rdC (fun g => ldS g t249) h48 0 1 []) fun t250 cs_49 =>
  (lnL t250).bind fun t251 =>
  (eqP (some (.int .i64)) none false .neq t246 t251).bind fun t252 =>
  (gV (gdW t252 false) (some t40) (.tup [])).bind fun t254 =>
  (gV (gdW t252 false) (some t137) (.tup [])).bind fun t255 =>
  gQ (gdW t252 false) h48 (cl (k_chans_Closed t254 t255 h48) fun t256 h50 =>
  some (t256, h50)) fun t256_51 h52 =>
  (gV (gdW t252 false) (some t137) (.tup [])).bind fun t257 =>
  (gV (gdW t252 false) (eqP (some (.int .i64)) none false .eql t257 (AV.int .i64 0)) (.tup [])).bind fun t258 =>
  (gV (gdW t252 false) (some t258) (.tup [])).bind fun t259 =>
  (gV (gdW t259 false) (some t48) (.tup [])).bind fun t260 =>
  (gV (gdW t259 false) (some t133) (.tup [])).bind fun t261 =>
  (gV (gdW t259 false) (iaS 1 t260 t261) (.tup [])).bind fun t262 =>
  (gV (gdW t259 false) (ldS h52 t262) (.tup [])).bind fun t263 =>
  (gV (gdW t252 false) (pickP t259 (AV.bool true) t263) (.tup [])).bind fun t264 =>
  (gV (gdW t252 false) (eqP (some .bool) none false .neq t256_51 t264) (.tup [])).bind fun t265 =>
  (pickP t252 (AV.bool true) t265).bind fun t266 =>
  chk [h47, h48, h52] cs_49 (
  condE t266 (
  some (.ret, [(AV.bool false), q15], h52)) (
  (binP .add q15 (AV.int .i64 1)).bind fun t123 =>
  some (.normal, [q4_46, t123], h52)))
def k_law15_ChansPlays_b1 (x0 : AV) (x1 : AV) (t40 : AV) (t48 : AV) (vs : List AV) (q4_41 : AV) (q15 : AV) (h42 : Heap) : OutV :=
  (lnL x1).bind fun t120 =>
  (binP .lss q15 t120).bind fun t121 =>
  condE t121 (
  (iaS 3 x1 q15).bind fun t126 =>
  (ldA 3 h42 t126).bind fun t127 =>
  mk Heap.new (some (Blk.cells true [(AV.int .i64 0), (AV.int .i64 0), (AV.int .i64 0)], fun i => AV.ptr (some (i, 0)))) h42 fun t16 h43 =>
  cl (stP 3 h43 t16 t127) fun u_44 h45 =>
  (faP 1 t16).bind fun t128 =>
  (ldS h45 t128).bind fun t129 =>
  (binP .and t129 (AV.int .i64 65535)).bind fun t130 =>
  (lnL (vs.getD 1 .bot)).bind fun t132 =>
  (binP .rem t130 t132).bind fun t133 =>
  (iaS 1 (vs.getD 1 .bot) t133).bind fun t136 =>
  (ldS h45 t136).bind fun t137 =>
  (faP 0 t16).bind fun t138 =>
  (ldS h45 t138).bind fun t139 =>
  (eqP (some (.int .i64)) none false .eql t139 (AV.int .i64 0)).bind fun t157 =>
  condE t157 (
  (eqP (some (.int .i64)) none false .neq t137 (AV.int .i64 0)).bind fun t159 =>
  (gV (gdW t159 true) (some t48) (.tup [])).bind fun t161 =>
  (gV (gdW t159 true) (some t133) (.tup [])).bind fun t162 =>
  (gV (gdW t159 true) (iaS 1 t161 t162) (.tup [])).bind fun t163 =>
  (gV (gdW t159 true) (ldS h45 t163) (.tup [])).bind fun t164 =>
  (gV (gdW t159 true) (unA .not t164) (.tup [])).bind fun t165 =>
  (pickP t159 t165 (AV.bool false)).bind fun t166 =>
  (gV (gdW t166 true) (some (vs.getD 2 .bot)) (.tup [])).bind fun t168 =>
  (gV (gdW t166 true) (some t133) (.tup [])).bind fun t169 =>
  (gV (gdW t166 true) (iaS 1 t168 t169) (.tup [])).bind fun t170 =>
  (gV (gdW t166 true) (ldS h45 t170) (.tup [])).bind fun t171 =>
  (gV (gdW t166 true) (lnL t171) (.tup [])).bind fun t172 =>
  (gV (gdW t166 true) (some x0) (.tup [])).bind fun t173 =>
  (gV (gdW t166 true) (some t133) (.tup [])).bind fun t174 =>
  (gV (gdW t166 true) (iaS 1 t173 t174) (.tup [])).bind fun t175 =>
  (gV (gdW t166 true) (ldS h45 t175) (.tup [])).bind fun t176 =>
  (gV (gdW t166 true) (binP .lss t172 t176) (.tup [])).bind fun t177 =>
  (pickP t166 t177 (AV.bool false)).bind fun t178 =>
  chk [h45] [] (
  (faP 2 t16).bind fun t181 =>
  (ldS h45 t181).bind fun t182 =>
  cl (k_chans_Push t40 t137 t182 (AV.int .i64 1) h45) fun t183 h160 =>
  (eqP (some .bool) none false .neq t183 t178).bind fun t185 =>
  condE t185 (
  some (.ret, [(AV.bool false), q15], h160)) (
  condE t178 (
  (iaS 1 (vs.getD 2 .bot) t133).bind fun t191 =>
  (ldS (hpN h160 1) t191).bind fun t192 =>
  (faP 2 t16).bind fun t193 =>
  (ldS (hpN h160 1) t193).bind fun t194 =>
  cl (mkAt Heap.put (bsP 1 [(AV.int .i64 0)] 1 [(0, t194)]) (h160.next + 0) (hpN h160 1)) fun t195 h173 =>
  cl (appendA h173 1 8 t192 t195) fun t196 h174 =>
  (iaS 1 (vs.getD 2 .bot) t133).bind fun t197 =>
  cl (stP 1 h174 t197 t196) fun u_175 h176 =>
  chk [(hpN h160 1), h174, h176] [] (
  k_law15_ChansPlays_j1 t40 t48 vs q15 t133 t137 q4_41 h176)) (
  k_law15_ChansPlays_j1 t40 t48 vs q15 t133 t137 q4_41 h160)))) (
  (eqP (some (.int .i64)) none false .eql t139 (AV.int .i64 1)).bind fun t199 =>
  condE t199 (
  cl (k_chans_Pop t40 t137 h45) fun t203 h241 =>
  (extractV 0 t203).bind fun t204 =>
  (extractV 1 t203).bind fun t205 =>
  (iaS 1 (vs.getD 2 .bot) t133).bind fun t209 =>
  (ldS h241 t209).bind fun t210 =>
  (lnL t210).bind fun t211 =>
  (binP .gtr t211 (AV.int .i64 0)).bind fun t212 =>
  (eqP (some .bool) none false .neq t205 t212).bind fun t213 =>
  gQ (gdW t213 false) h241 (some (t205, h241)) fun t215 h242 =>
  gQ (gdW t213 false) h242 ((unA .not t215).bind fun t216 =>
  some (t216, h242)) fun t216_243 h244 =>
  gQ (gdW t213 false) h244 (some (t216_243, h244)) fun t217 h245 =>
  gQ (gdW t217 true) h245 (some (t204, h245)) fun t218 h246 =>
  gQ (gdW t217 true) h246 ((eqP (some (.int .i64)) none false .neq t218 (AV.int .i64 0)).bind fun t219 =>
  some (t219, h246)) fun t219_247 h248 =>
  gQ (gdW t213 false) h248 ((pickP t217 t219_247 (AV.bool false)).bind fun t220 =>
  some (t220, h248)) fun t220_249 h250 =>
  (pickP t213 (AV.bool true) t220_249).bind fun t221 =>
  gQ (gdW t221 false) h250 (some (t205, h250)) fun t223 h251 =>
  gQ (gdW t221 false) h251 (some (t223, h251)) fun t224 h252 =>
  gQ (gdW t224 true) h252 (some (t204, h252)) fun t225 h253 =>
  gQ (gdW t224 true) h253 (some ((vs.getD 2 .bot), h253)) fun t226 h254 =>
  gQ (gdW t224 true) h254 (some (t133, h254)) fun t227 h255 =>
  gQ (gdW t224 true) h255 ((iaS 1 t226 t227).bind fun t228 =>
  some (t228, h255)) fun t228_256 h257 =>
  gQ (gdW t224 true) h257 ((ldS h257 t228_256).bind fun t229 =>
  some (t229, h257)) fun t229_258 h259 =>
  gQ (gdW t224 true) h259 ((iaS 1 t229_258 (AV.int .i64 0)).bind fun t230 =>
  some (t230, h259)) fun t230_260 h261 =>
  gQ (gdW t224 true) h261 ((ldS h261 t230_260).bind fun t231 =>
  some (t231, h261)) fun t231_262 h263 =>
  gQ (gdW t224 true) h263 ((eqP (some (.int .i64)) none false .neq t225 t231_262).bind fun t232 =>
  some (t232, h263)) fun t232_264 h265 =>
  gQ (gdW t221 false) h265 ((pickP t224 t232_264 (AV.bool false)).bind fun t233 =>
  some (t233, h265)) fun t233_266 h267 =>
  (pickP t221 (AV.bool true) t233_266).bind fun t234 =>
  condE t234 (
  some (.ret, [(AV.bool false), q15], h267)) (
  condE t205 (
  (iaS 1 (vs.getD 2 .bot) t133).bind fun t240 =>
  (ldS h267 t240).bind fun t241 =>
  (slcP 1 t241 (some (AV.int .i64 1)) none none).bind fun t242 =>
  (iaS 1 (vs.getD 2 .bot) t133).bind fun t243 =>
  cl (stP 1 h267 t243 t242) fun u_277 h278 =>
  k_law15_ChansPlays_j1 t40 t48 vs q15 t133 t137 q4_41 h278) (
  k_law15_ChansPlays_j1 t40 t48 vs q15 t133 t137 q4_41 h267))) (
  cl (k_chans_Close t40 t137 h45) fun t142 h279 =>
  (eqP (some (.int .i64)) none false .neq t137 (AV.int .i64 0)).bind fun t144 =>
  gQ (gdW t144 true) h279 (some (t48, h279)) fun t146 h280 =>
  gQ (gdW t144 true) h280 (some (t133, h280)) fun t147 h281 =>
  gQ (gdW t144 true) h281 ((iaS 1 t146 t147).bind fun t148 =>
  some (t148, h281)) fun t148_282 h283 =>
  gQ (gdW t144 true) h283 ((ldS h283 t148_282).bind fun t149 =>
  some (t149, h283)) fun t149_284 h285 =>
  gQ (gdW t144 true) h285 ((unA .not t149_284).bind fun t150 =>
  some (t150, h285)) fun t150_286 h287 =>
  (pickP t144 t150_286 (AV.bool false)).bind fun t151 =>
  (eqP (some .bool) none false .neq t142 t151).bind fun t152 =>
  condE t152 (
  some (.ret, [(AV.bool false), q15], h287)) (
  (iaS 1 t48 t133).bind fun t155 =>
  cl (stP 1 h287 t155 (AV.bool true)) fun u_288 h289 =>
  k_law15_ChansPlays_j1 t40 t48 vs q15 t133 t137 q4_41 h289)))) (
  some ((.exit 2), [q4_41, q15], h42))
def k_law15_ChansPlays_L1 (x0 : AV) (x1 : AV) (t40 : AV) (t48 : AV) (vs : List AV) (q4_41 : AV) (q15 : AV) (h42 : Heap) : OutV := loopN (fun us g => k_law15_ChansPlays_b1 x0 x1 t40 t48 vs (us.getD 0 .bot) (us.getD 1 .bot) g) [q4_41, q15] h42
def k_law15_ChansPlays (x0 : AV) (x1 : AV) (h : Heap) : Option (AV × Heap) :=
  cl (k_law15_awake h) fun t22 h0 =>
  (unA .not t22).bind fun t23 =>
  condE t23 (
  some ((AV.bool false), h0)) (
  (lnL x0).bind fun t25 =>
  (binP .gtr t25 (AV.int .i64 8)).bind fun t26 =>
  gQ (gdW t26 false) h0 (some (x0, h0)) fun t28 h1 =>
  gQ (gdW t26 false) h1 ((lnL t28).bind fun t29 =>
  some (t29, h1)) fun t29_2 h3 =>
  gQ (gdW t26 false) h3 ((eqP (some (.int .i64)) none false .eql t29_2 (AV.int .i64 0)).bind fun t30 =>
  some (t30, h3)) fun t30_4 h5 =>
  (pickP t26 (AV.bool true) t30_4).bind fun t31 =>
  gQ (gdW t31 false) h5 (some (x1, h5)) fun t33 h6 =>
  gQ (gdW t31 false) h6 ((lnL t33).bind fun t34 =>
  some (t34, h6)) fun t34_7 h8 =>
  gQ (gdW t31 false) h8 ((binP .gtr t34_7 (AV.int .i64 150)).bind fun t35 =>
  some (t35, h8)) fun t35_9 h10 =>
  (pickP t31 (AV.bool true) t35_9).bind fun t36 =>
  condE t36 (
  some ((AV.bool true), h10)) (
  cl (k_law15_shapes h10) fun t38 h11 =>
  cl (k_heap_New (AV.int .i64 40) t38 h11) fun t39 h12 =>
  (extractV 0 t39).bind fun t40 =>
  (extractV 1 t39).bind fun t41 =>
  (eqP (some (.int .i64)) none false .neq t41 (AV.int .i64 0)).bind fun t43 =>
  condE t43 (
  some ((AV.bool false), h12)) (
  (bldS [(0, 1)] [(AV.sl none 0 (.ex 0))] []).bind fun t44 =>
  mk Heap.new (bxP t44) h12 fun t45 h13 =>
  (lnL x0).bind fun t47 =>
  mk Heap.new (msP 1 1 [(AV.bool false)] t47 t47) h13 fun t48 h14 =>
  lp (k_law15_ChansPlays_L0 x0 t40 t45 (AV.bool false) (AV.sl none 0 (.ex 0)) (AV.sl none 0 (.ex 0)) (AV.int .i64 0) h14) fun e vs h40 =>
  thenK (if e = .exit 0 then .normal else e) (
  lp (k_law15_ChansPlays_L1 x0 x1 t40 t48 vs (vs.getD 0 .bot) (AV.int .i64 0) h40) fun e_290 vs_291 h292 =>
  thenK (if e_290 = .exit 2 then .normal else e_290) (
  some ((AV.bool true), h292)) (fun e_293 => endE e_293 (some ((vs_291.getD 0 .bot), h292)))) (fun e_294 => endE e_294 (some ((vs.getD 0 .bot), h40))))))
def T118 : Tab := (6, p2 k_law15_ChansPlays) :: T117
/- 7: gantline/gantlinelaw15.ChansRing -/
def k_law15_ChansRing_j0 (q12 : AV) (q6_25 : AV) (q11_26 : AV) (h27 : Heap) : OutV :=
  (binP .add q12 (AV.int .i64 1)).bind fun t67 =>
  some (.normal, [q6_25, q11_26, t67], h27)
def k_law15_ChansRing_b0 (x1 : AV) (x2 : AV) (t43 : AV) (t54 : AV) (q6 : AV) (q11 : AV) (q12 : AV) (h24 : Heap) : OutV :=
  (binP .lss q12 x1).bind fun t65 =>
  condE t65 (
  (binP .mul (AV.int .i64 3) q12).bind fun t71 =>
  cl (k_chans_Push t43 t54 t71 (AV.int .i64 1) h24) fun t72 h28 =>
  (unA .not t72).bind fun t73 =>
  condE t73 (
  some (.ret, [(AV.bool false), q11, q12], h28)) (
  (binP .sub q12 q11).bind fun t76 =>
  (binP .add t76 (AV.int .i64 1)).bind fun t77 =>
  (binP .geq t77 x2).bind fun t79 =>
  condE t79 (
  cl (k_chans_Pop t43 t54 h28) fun t83 h50 =>
  (extractV 0 t83).bind fun t84 =>
  (extractV 1 t83).bind fun t85 =>
  (unA .not t85).bind fun t87 =>
  gQ (gdW t87 false) h50 (some (t84, h50)) fun t89 h51 =>
  gQ (gdW t87 false) h51 (some (q11, h51)) fun t90 h52 =>
  gQ (gdW t87 false) h52 ((binP .mul (AV.int .i64 3) t90).bind fun t91 =>
  some (t91, h52)) fun t91_53 h54 =>
  gQ (gdW t87 false) h54 ((eqP (some (.int .i64)) none false .neq t89 t91_53).bind fun t92 =>
  some (t92, h54)) fun t92_55 h56 =>
  (pickP t87 (AV.bool true) t92_55).bind fun t93 =>
  condE t93 (
  some (.ret, [(AV.bool false), q11, q12], h56)) (
  (binP .add q11 (AV.int .i64 1)).bind fun t95 =>
  k_law15_ChansRing_j0 q12 q6 t95 h56)) (
  k_law15_ChansRing_j0 q12 q6 q11 h28))) (
  some ((.exit 0), [q6, q11, q12], h24))
def k_law15_ChansRing_L0 (x1 : AV) (x2 : AV) (t43 : AV) (t54 : AV) (q6 : AV) (q11 : AV) (q12 : AV) (h24 : Heap) : OutV := loopN (fun us g => k_law15_ChansRing_b0 x1 x2 t43 t54 (us.getD 0 .bot) (us.getD 1 .bot) (us.getD 2 .bot) g) [q6, q11, q12] h24
def k_law15_ChansRing (x0 : AV) (x1 : AV) (x2 : AV) (h : Heap) : Option (AV × Heap) :=
  cl (k_law15_awake h) fun t15 h0 =>
  (unA .not t15).bind fun t16 =>
  condE t16 (
  some ((AV.bool false), h0)) (
  (binP .lss x0 (AV.int .i64 1)).bind fun t18 =>
  gQ (gdW t18 false) h0 (some (x0, h0)) fun t20 h1 =>
  gQ (gdW t18 false) h1 ((binP .gtr t20 (AV.int .i64 59)).bind fun t21 =>
  some (t21, h1)) fun t21_2 h3 =>
  (pickP t18 (AV.bool true) t21_2).bind fun t22 =>
  gQ (gdW t22 false) h3 (some (x1, h3)) fun t24 h4 =>
  gQ (gdW t22 false) h4 ((binP .lss t24 (AV.int .i64 0)).bind fun t25 =>
  some (t25, h4)) fun t25_5 h6 =>
  (pickP t22 (AV.bool true) t25_5).bind fun t26 =>
  gQ (gdW t26 false) h6 (some (x1, h6)) fun t28 h7 =>
  gQ (gdW t26 false) h7 ((binP .gtr t28 (AV.int .i64 300)).bind fun t29 =>
  some (t29, h7)) fun t29_8 h9 =>
  (pickP t26 (AV.bool true) t29_8).bind fun t30 =>
  gQ (gdW t30 false) h9 (some (x2, h9)) fun t32 h10 =>
  gQ (gdW t30 false) h10 ((binP .lss t32 (AV.int .i64 1)).bind fun t33 =>
  some (t33, h10)) fun t33_11 h12 =>
  (pickP t30 (AV.bool true) t33_11).bind fun t34 =>
  gQ (gdW t34 false) h12 (some (x2, h12)) fun t36 h13 =>
  gQ (gdW t34 false) h13 (some (x0, h13)) fun t37 h14 =>
  gQ (gdW t34 false) h14 ((binP .gtr t36 t37).bind fun t38 =>
  some (t38, h14)) fun t38_15 h16 =>
  (pickP t34 (AV.bool true) t38_15).bind fun t39 =>
  condE t39 (
  some ((AV.bool true), h16)) (
  cl (k_law15_shapes h16) fun t41 h17 =>
  cl (k_heap_New (AV.int .i64 8) t41 h17) fun t42 h18 =>
  (extractV 0 t42).bind fun t43 =>
  (extractV 1 t42).bind fun t44 =>
  (eqP (some (.int .i64)) none false .neq t44 (AV.int .i64 0)).bind fun t46 =>
  condE t46 (
  some ((AV.bool false), h18)) (
  (bldS [(0, 1)] [(AV.sl none 0 (.ex 0))] []).bind fun t50 =>
  mk Heap.new (bxP t50) h18 fun t51 h19 =>
  cl (k_chans_Make t43 (AV.int .i64 0) x0 (AV.ifc 66 t51) h19) fun t53 h20 =>
  (extractV 0 t53).bind fun t54 =>
  (extractV 1 t53).bind fun t55 =>
  (extractV 2 t53).bind fun t56 =>
  (eqP (some (.int .i64)) none false .neq t55 (AV.int .i64 0)).bind fun t58 =>
  gQ (gdW t58 false) h20 (some (t56, h20)) fun t60 h21 =>
  gQ (gdW t58 false) h21 ((eqP (some (.int .i64)) none false .neq t60 (AV.int .i64 0)).bind fun t61 =>
  some (t61, h21)) fun t61_22 h23 =>
  (pickP t58 (AV.bool true) t61_22).bind fun t62 =>
  condE t62 (
  some ((AV.bool false), h23)) (
  lp (k_law15_ChansRing_L0 x1 x2 t43 t54 (AV.bool false) (AV.int .i64 0) (AV.int .i64 0) h23) fun e vs h57 =>
  thenK (if e = .exit 0 then .normal else e) (
  cl (k_chans_Count t43 t54 h57) fun t98 h58 =>
  (binP .sub x1 (vs.getD 1 .bot)).bind fun t101 =>
  (eqP (some (.int .i64)) none false .eql t98 t101).bind fun t102 =>
  some (t102, h58)) (fun e_59 => endE e_59 (some ((vs.getD 0 .bot), h57)))))))
def T119 : Tab := (7, p3 k_law15_ChansRing) :: T118
/- 37: (*gantline/arena.Arena).Is -/
def k_arena_Arena_Is (x0 : AV) (x1 : AV) (h : Heap) : Option (AV × Heap) :=
  cl (k_arena_Arena_find x0 x1 h) fun t10 h0 =>
  (extractV 0 t10).bind fun t11 =>
  (extractV 1 t10).bind fun t12 =>
  (eqP (some (.pointer 0)) none false .neq t11 (AV.ptr none)).bind fun t14 =>
  some (t14, h0)
def T120 : Tab := (37, p2 k_arena_Arena_Is) :: T119
/- 8: gantline/gantlinelaw15.ChansHolds -/
def k_law15_ChansHolds_b0 (t36 : AV) (q10_20 : AV) (q4_22 : AV) (q19 : AV) (h23 : Heap) : OutV :=
  (lnL q10_20).bind fun t147 =>
  (binP .lss q19 t147).bind fun t148 =>
  condE t148 (
  cl (k_heap_Heap_Cycle t36 h23) fun t152 h24 =>
  cl (k_cycle_Cycle_Arena t152 h24) fun t153 h25 =>
  (iaS 1 q10_20 q19).bind fun t156 =>
  clC (rdC (fun g => ldS g t156) h25 0 2 []) fun t157 cs =>
  cl (k_arena_Arena_Is t153 t157 h25) fun t158 h26 =>
  (unA .not t158).bind fun t159 =>
  chk [h23, h24, h25, h26] cs (
  condE t159 (
  some (.ret, [(AV.bool false), q19], h26)) (
  (binP .add q19 (AV.int .i64 1)).bind fun t150 =>
  some (.normal, [q4_22, t150], h26)))) (
  some ((.exit 7), [q4_22, q19], h23))
def k_law15_ChansHolds_L0 (t36 : AV) (q10_20 : AV) (q4_22 : AV) (q19 : AV) (h23 : Heap) : OutV := loopN (fun us g => k_law15_ChansHolds_b0 t36 q10_20 (us.getD 0 .bot) (us.getD 1 .bot) g) [q4_22, q19] h23
def k_law15_ChansHolds_j0 (t36 : AV) (q11 : AV) (q4_19 : AV) (q10_20 : AV) (h21 : Heap) : OutV :=
  lp (k_law15_ChansHolds_L0 t36 q10_20 q4_19 (AV.int .i64 0) h21) fun e vs h27 =>
  thenK (if (if e = .exit 7 then .normal else e) = .exit 1 then .normal else (if e = .exit 7 then .normal else e)) (
  (binP .add q11 (AV.int .i64 1)).bind fun t67 =>
  some (.normal, [(vs.getD 0 .bot), q10_20, t67], h27)) (fun e_28 => some (e_28, [(vs.getD 0 .bot), q10_20, q11], h27))
def k_law15_ChansHolds_b1 (q16_203 : AV) (q18_204 : AV) (h205 : Heap) : OutV :=
  (eqP (some (.int .u64)) none false .neq q18_204 (AV.int .u64 0)).bind fun t88 =>
  condE t88 (
  (binP .add q16_203 (AV.int .i64 1)).bind fun t94 =>
  (binP .sub q18_204 (AV.int .u64 1)).bind fun t91 =>
  (binP .and q18_204 t91).bind fun t92 =>
  some (.normal, [t94, t92], h205)) (
  some ((.exit 5), [q16_203, q18_204], h205))
def k_law15_ChansHolds_L1 (q16_203 : AV) (q18_204 : AV) (h205 : Heap) : OutV := loopN (fun us g => k_law15_ChansHolds_b1 (us.getD 0 .bot) (us.getD 1 .bot) g) [q16_203, q18_204] h205
def k_law15_ChansHolds_b2 (t36 : AV) (q16_197 : AV) (q17_198 : AV) (h199 : Heap) : OutV :=
  (binP .lss q17_198 (AV.int .i64 20)).bind fun t79 =>
  condE t79 (
  cl (k_heap_Heap_Cycle t36 h199) fun t83 h200 =>
  cl (k_cycle_Cycle_Arena t83 h200) fun t84 h201 =>
  cl (k_arena_Arena_Taken t84 q17_198 h201) fun t86 h202 =>
  lp (k_law15_ChansHolds_L1 q16_197 t86 h202) fun e_206 vs_207 h208 =>
  thenK (if (if e_206 = .exit 5 then .normal else e_206) = .exit 4 then .normal else (if e_206 = .exit 5 then .normal else e_206)) (
  (binP .add q17_198 (AV.int .i64 1)).bind fun t81 =>
  some (.normal, [(vs_207.getD 0 .bot), t81], h208)) (fun e_209 => some (e_209, [(vs_207.getD 0 .bot), q17_198], h208))) (
  some ((.exit 3), [q16_197, q17_198], h199))
def k_law15_ChansHolds_L2 (t36 : AV) (q16_197 : AV) (q17_198 : AV) (h199 : Heap) : OutV := loopN (fun us g => k_law15_ChansHolds_b2 t36 (us.getD 0 .bot) (us.getD 1 .bot) g) [q16_197, q17_198] h199
def k_law15_ChansHolds_b3 (t36 : AV) (q10 : AV) (q4_214 : AV) (q19_215 : AV) (h216 : Heap) : OutV :=
  (lnL q10).bind fun t147_217 =>
  (binP .lss q19_215 t147_217).bind fun t148_218 =>
  condE t148_218 (
  cl (k_heap_Heap_Cycle t36 h216) fun t152_219 h220 =>
  cl (k_cycle_Cycle_Arena t152_219 h220) fun t153_221 h222 =>
  (iaS 1 q10 q19_215).bind fun t156_223 =>
  clC (rdC (fun g => ldS g t156_223) h222 0 2 []) fun t157_224 cs_225 =>
  cl (k_arena_Arena_Is t153_221 t157_224 h222) fun t158_226 h227 =>
  (unA .not t158_226).bind fun t159_228 =>
  chk [h216, h220, h222, h227] cs_225 (
  condE t159_228 (
  some (.ret, [(AV.bool false), q19_215], h227)) (
  (binP .add q19_215 (AV.int .i64 1)).bind fun t150_229 =>
  some (.normal, [q4_214, t150_229], h227)))) (
  some ((.exit 7), [q4_214, q19_215], h216))
def k_law15_ChansHolds_L3 (t36 : AV) (q10 : AV) (q4_214 : AV) (q19_215 : AV) (h216 : Heap) : OutV := loopN (fun us g => k_law15_ChansHolds_b3 t36 q10 (us.getD 0 .bot) (us.getD 1 .bot) g) [q4_214, q19_215] h216
def k_law15_ChansHolds_b4 (x1 : AV) (t36 : AV) (t41 : AV) (t48 : AV) (q4 : AV) (q10 : AV) (q11 : AV) (h18 : Heap) : OutV :=
  (lnL x1).bind fun t64 =>
  (binP .lss q11 t64).bind fun t65 =>
  condE t65 (
  (iaS 3 x1 q11).bind fun t70 =>
  (faP 0 t70).bind fun t71 =>
  (ldS h18 t71).bind fun t72 =>
  (eqP (some (.int .i64)) none false .eql t72 (AV.int .i64 0)).bind fun t101 =>
  condE t101 (
  cl (k_heap_Heap_Make t36 (AV.int .i64 2) (AV.int .i64 1) (AV.ifc 66 t41) h18) fun t106 h109 =>
  (extractV 0 t106).bind fun t107 =>
  (extractV 1 t106).bind fun t108 =>
  (eqP (some (.int .i64)) none false .neq t108 (AV.int .i64 0)).bind fun t110 =>
  condE t110 (
  some (.ret, [(AV.bool false), q10, q11], h109)) (
  cl (k_chans_Push t36 t48 t107 (AV.int .i64 1) h109) fun t114 h110 =>
  condE t114 (
  mk Heap.new (bsP 1 [(AV.int .i64 0)] 1 [(0, t107)]) h110 fun t117 h117 =>
  cl (appendA h117 1 8 q10 t117) fun t118 h118 =>
  k_law15_ChansHolds_j0 t36 q11 q4 t118 h118) (
  k_law15_ChansHolds_j0 t36 q11 q4 q10 h110))) (
  (eqP (some (.int .i64)) none false .eql t72 (AV.int .i64 1)).bind fun t120 =>
  condE t120 (
  cl (k_chans_Pop t36 t48 h18) fun t124 h178 =>
  (extractV 0 t124).bind fun t125 =>
  (extractV 1 t124).bind fun t126 =>
  (lnL q10).bind fun t129 =>
  (binP .gtr t129 (AV.int .i64 0)).bind fun t130 =>
  (eqP (some .bool) none false .neq t126 t130).bind fun t131 =>
  gQ (gdW t131 false) h178 (some (t126, h178)) fun t133 h179 =>
  gQ (gdW t131 false) h179 (some (t133, h179)) fun t134 h180 =>
  gQ (gdW t134 true) h180 (some (t125, h180)) fun t135 h181 =>
  gQ (gdW t134 true) h181 (some (q10, h181)) fun t136 h182 =>
  gQ (gdW t134 true) h182 ((iaS 1 t136 (AV.int .i64 0)).bind fun t137 =>
  some (t137, h182)) fun t137_183 h184 =>
  gQ (gdW t134 true) h184 ((ldS h184 t137_183).bind fun t138 =>
  some (t138, h184)) fun t138_185 h186 =>
  gQ (gdW t134 true) h186 ((eqP (some (.int .i64)) none false .neq t135 t138_185).bind fun t139 =>
  some (t139, h186)) fun t139_187 h188 =>
  gQ (gdW t131 false) h188 ((pickP t134 t139_187 (AV.bool false)).bind fun t140 =>
  some (t140, h188)) fun t140_189 h190 =>
  (pickP t131 (AV.bool true) t140_189).bind fun t141 =>
  condE t141 (
  some (.ret, [(AV.bool false), q10, q11], h190)) (
  condE t126 (
  (slcP 1 q10 (some (AV.int .i64 1)) none none).bind fun t144 =>
  k_law15_ChansHolds_j0 t36 q11 q4 t144 h190) (
  k_law15_ChansHolds_j0 t36 q11 q4 q10 h190))) (
  cl (k_heap_Heap_Cycle t36 h18) fun t74 h195 =>
  cl (k_cycle_Cycle_Whole t74 (AV.ifc 66 t41) h195) fun t77 h196 =>
  lp (k_law15_ChansHolds_L2 t36 (AV.int .i64 0) (AV.int .i64 1) h196) fun e_210 vs_211 h212 =>
  thenK (if e_210 = .exit 3 then .normal else e_210) (
  (lnL q10).bind fun t97 =>
  (binP .add (AV.int .i64 1) t97).bind fun t98 =>
  (eqP (some (.int .i64)) none false .neq (vs_211.getD 0 .bot) t98).bind fun t99 =>
  condE t99 (
  some (.ret, [(AV.bool false), q10, q11], h212)) (
  k_law15_ChansHolds_j0 t36 q11 q4 q10 h212)) (fun e_213 => thenK (if e_213 = .exit 2 then .normal else e_213) (
  lp (k_law15_ChansHolds_L3 t36 q10 q4 (AV.int .i64 0) h212) fun e_230 vs_231 h232 =>
  thenK (if (if e_230 = .exit 7 then .normal else e_230) = .exit 1 then .normal else (if e_230 = .exit 7 then .normal else e_230)) (
  (binP .add q11 (AV.int .i64 1)).bind fun t67_233 =>
  some (.normal, [(vs_231.getD 0 .bot), q10, t67_233], h232)) (fun e_234 => some (e_234, [(vs_231.getD 0 .bot), q10, q11], h232))) (fun e_235 => thenK (if e_235 = .exit 1 then .normal else e_235) (
  (binP .add q11 (AV.int .i64 1)).bind fun t67_236 =>
  some (.normal, [q4, q10, t67_236], h212)) (fun e_237 => some (e_237, [q4, q10, q11], h212))))))) (
  some ((.exit 0), [q4, q10, q11], h18))
def k_law15_ChansHolds_L4 (x1 : AV) (t36 : AV) (t41 : AV) (t48 : AV) (q4 : AV) (q10 : AV) (q11 : AV) (h18 : Heap) : OutV := loopN (fun us g => k_law15_ChansHolds_b4 x1 t36 t41 t48 (us.getD 0 .bot) (us.getD 1 .bot) (us.getD 2 .bot) g) [q4, q10, q11] h18
def k_law15_ChansHolds (x0 : AV) (x1 : AV) (h : Heap) : Option (AV × Heap) :=
  cl (k_law15_awake h) fun t20 h0 =>
  (unA .not t20).bind fun t21 =>
  condE t21 (
  some ((AV.bool false), h0)) (
  (binP .lss x0 (AV.int .i64 1)).bind fun t23 =>
  gQ (gdW t23 false) h0 (some (x0, h0)) fun t25 h1 =>
  gQ (gdW t23 false) h1 ((binP .gtr t25 (AV.int .i64 40)).bind fun t26 =>
  some (t26, h1)) fun t26_2 h3 =>
  (pickP t23 (AV.bool true) t26_2).bind fun t27 =>
  gQ (gdW t27 false) h3 (some (x1, h3)) fun t29 h4 =>
  gQ (gdW t27 false) h4 ((lnL t29).bind fun t30 =>
  some (t30, h4)) fun t30_5 h6 =>
  gQ (gdW t27 false) h6 ((binP .gtr t30_5 (AV.int .i64 100)).bind fun t31 =>
  some (t31, h6)) fun t31_7 h8 =>
  (pickP t27 (AV.bool true) t31_7).bind fun t32 =>
  condE t32 (
  some ((AV.bool true), h8)) (
  cl (k_law15_shapes h8) fun t34 h9 =>
  cl (k_heap_New (AV.int .i64 20) t34 h9) fun t35 h10 =>
  (extractV 0 t35).bind fun t36 =>
  (extractV 1 t35).bind fun t37 =>
  (eqP (some (.int .i64)) none false .neq t37 (AV.int .i64 0)).bind fun t39 =>
  condE t39 (
  some ((AV.bool false), h10)) (
  (bldS [(0, 1)] [(AV.sl none 0 (.ex 0))] []).bind fun t40 =>
  mk Heap.new (bxP t40) h10 fun t41 h11 =>
  cl (k_chans_Make t36 (AV.int .i64 1) x0 (AV.ifc 66 t41) h11) fun t47 h12 =>
  (extractV 0 t47).bind fun t48 =>
  (extractV 1 t47).bind fun t49 =>
  (extractV 2 t47).bind fun t50 =>
  (eqP (some (.int .i64)) none false .neq t49 (AV.int .i64 0)).bind fun t52 =>
  gQ (gdW t52 false) h12 (some (t50, h12)) fun t54 h13 =>
  gQ (gdW t52 false) h13 ((eqP (some (.int .i64)) none false .neq t54 (AV.int .i64 0)).bind fun t55 =>
  some (t55, h13)) fun t55_14 h15 =>
  (pickP t52 (AV.bool true) t55_14).bind fun t56 =>
  condE t56 (
  some ((AV.bool false), h15)) (
  mk Heap.new (bsP 1 [(AV.int .i64 0)] 1 [(0, t48)]) h15 fun t59 h16 =>
  (nilV t41).bind fun t60 =>
  (faP 0 t60).bind fun t61 =>
  cl (stP 1 h16 t61 t59) fun u h17 =>
  lp (k_law15_ChansHolds_L4 x1 t36 t41 t48 (AV.bool false) (AV.sl none 0 (.ex 0)) (AV.int .i64 0) h17) fun e_238 vs_239 h240 =>
  thenK (if e_238 = .exit 0 then .normal else e_238) (
  some ((AV.bool true), h240)) (fun e_241 => endE e_241 (some ((vs_239.getD 0 .bot), h240)))))))
def T121 : Tab := (8, p2 k_law15_ChansHolds) :: T120
end
end Go.Ab.F