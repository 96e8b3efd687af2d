/- PRINTED by Gen.lean: the program's functions on the abstract machine's values and heaps. -/
import Derived.Test.YthhfnocfegapbaaGreatDoorAbS
import Derived.Test.YthhfnocfegapbaaGreatDoorAbQ
import Derived.Test.YthhfnocfegapbaaGreatDoorAbKeys
namespace Go.Ab.F
open Go Go.Ab
set_option linter.all false
noncomputable section
def T0 : Tab := []
/- 24: gantline/arena.New -/
def k_arena_New_b0 (t18 : AV) (t23 : AV) (q24 : AV) (h6 : Heap) : OutV :=
  (binP .lss q24 t23).bind fun t25 =>
  condE t25 (
  (nilV t18).bind fun t28 =>
  (faP 1 t28).bind fun t29 =>
  (ldS h6 t29).bind fun t30 =>
  (iaS 3 t30 q24).bind fun t32 =>
  (faP 0 t32).bind fun t33 =>
  cl (stP 1 h6 t33 (AV.int .i64 (-1))) fun u h7 =>
  (binP .add q24 (AV.int .i64 1)).bind fun t34 =>
  some (.normal, [t34], h7)) (
  some ((.exit 0), [q24], h6))
def k_arena_New_L0 (t18 : AV) (t23 : AV) (q24 : AV) (h6 : Heap) : OutV := loopN (fun us g => k_arena_New_b0 t18 t23 (us.getD 0 .bot) g) [q24] h6
def k_arena_New (x0 : AV) (h : Heap) : Option (AV × Heap) :=
  (binP .lss x0 (AV.int .i64 8)).bind fun t7 =>
  gQ (gdW t7 false) h (some (x0, h)) fun t9 h0 =>
  gQ (gdW t7 false) h0 ((binP .gtr t9 (AV.int .i64 512)).bind fun t10 =>
  some (t10, h0)) fun t10_1 h2 =>
  (pickP t7 (AV.bool true) t10_1).bind fun t11 =>
  condE t11 (
  some (AV.tup [(AV.ptr none), (AV.int .i64 1)], h2)) (
  (binP .mul x0 (AV.int .i64 64)).bind fun t13 =>
  cl (mkAt Heap.put (msP 1 8 [(AV.int .i64 0)] t13 t13) (h2.next + 0) (hpN h2 3)) fun t14 h3 =>
  cl (mkAt Heap.put (msP 3 24 [(AV.int .i64 0), (AV.int .u64 0), (AV.int .u64 0)] x0 x0) (h2.next + 1) h3) fun t16 h4 =>
  (bldS [(0, 1), (1, 1)] [(AV.sl none 0 (.ex 0)), (AV.sl none 0 (.ex 0))] [(0, t14), (1, t16)]).bind fun t17 =>
  cl (mkAt Heap.put (bxP t17) (h2.next + 2) h4) fun t18 h5 =>
  chk [(hpN h2 3)] [] (
  (nilV t18).bind fun t20 =>
  (faP 1 t20).bind fun t21 =>
  (ldS h5 t21).bind fun t22 =>
  (lnL t22).bind fun t23 =>
  lp (k_arena_New_L0 t18 t23 (AV.int .i64 0) h5) fun e vs h8 =>
  thenK (if e = .exit 0 then .normal else e) (
  some (AV.tup [t18, (AV.int .i64 0)], h8)) (fun e_9 => endE e_9 (some (AV.tup [(AV.ptr none), (AV.int .i64 0)], h8)))))
def T1 : Tab := (24, p1 k_arena_New) :: T0
/- 25: gantline/head.New -/
def k_head_New (h : Heap) : Option (AV × Heap) :=
  mk Heap.new (some (Blk.mp [], fun i => AV.mp (some i))) h fun t1 h0 =>
  (bldS [(0, 1), (1, 1)] [(AV.sl none 0 (.ex 0)), (AV.mp none)] [(1, t1)]).bind fun t2 =>
  mk Heap.new (bxP t2) h0 fun t3 h1 =>
  some (t3, h1)
def T2 : Tab := (25, p0 k_head_New) :: T1
/- 59: gantline/grey.New -/
def k_grey_New (h : Heap) : Option (AV × Heap) :=
  (bldS [(0, 1)] [(AV.sl none 0 (.ex 0))] []).bind fun t1 =>
  mk Heap.new (bxP t1) h fun t2 h0 =>
  some (t2, h0)
def T3 : Tab := (59, p0 k_grey_New) :: T2
/- 26: gantline/mark.New -/
def k_mark_New (x0 : AV) (x1 : AV) (h : Heap) : Option (AV × Heap) :=
  cl (k_grey_New h) fun t7 h0 =>
  (bldS [(0, 1), (1, 1), (2, 1)] [(AV.ptr none), (AV.ptr none), (AV.ptr none)] [(0, x0), (1, x1), (2, t7)]).bind fun t8 =>
  mk Heap.new (bxP t8) h0 fun t9 h1 =>
  some (t9, h1)
def T4 : Tab := (26, p2 k_mark_New) :: T3
/- 27: gantline/gantlineref4.NewArena -/
def k_ref4_NewArena_b0 (x0 : AV) (t6 : AV) (q4 : AV) (h1 : Heap) : OutV :=
  (binP .lss q4 x0).bind fun t9 =>
  condE t9 (
  (nilV t6).bind fun t14 =>
  (faP 0 t14).bind fun t15 =>
  (ldS h1 t15).bind fun t16 =>
  mk Heap.new (bsP 1 [(AV.int .i64 0)] 1 [(0, (AV.int .i64 (-1)))]) h1 fun t17 h2 =>
  cl (appendA h2 1 8 t16 t17) fun t18 h3 =>
  (nilV t6).bind fun t19 =>
  (faP 0 t19).bind fun t20 =>
  cl (stP 1 h3 t20 t18) fun u h4 =>
  (binP .add q4 (AV.int .i64 1)).bind fun t11 =>
  some (.normal, [t11], h4)) (
  some ((.exit 0), [q4], h1))
def k_ref4_NewArena_L0 (x0 : AV) (t6 : AV) (q4 : AV) (h1 : Heap) : OutV := loopN (fun us g => k_ref4_NewArena_b0 x0 t6 (us.getD 0 .bot) g) [q4] h1
def k_ref4_NewArena (x0 : AV) (h : Heap) : Option (AV × Heap) :=
  (bldS [(0, 1), (1, 1)] [(AV.sl none 0 (.ex 0)), (AV.sl none 0 (.ex 0))] []).bind fun t5 =>
  mk Heap.new (bxP t5) h fun t6 h0 =>
  lp (k_ref4_NewArena_L0 x0 t6 (AV.int .i64 0) h0) fun e vs h5 =>
  thenK (if e = .exit 0 then .normal else e) (
  some (t6, h5)) (fun e_6 => endE e_6 (some ((AV.ptr none), h5)))
def T5 : Tab := (27, p1 k_ref4_NewArena) :: T4
/- 60: (*gantline/arena.Arena).Spans -/
def k_arena_Arena_Spans (x0 : AV) (h : Heap) : Option (AV × Heap) :=
  (nilV x0).bind fun t4 =>
  (faP 1 t4).bind fun t5 =>
  (ldS h t5).bind fun t6 =>
  (lnL t6).bind fun t7 =>
  some (t7, h)
def T6 : Tab := (60, p1 k_arena_Arena_Spans) :: T5
/- 28: gantline/alloc.New -/
def k_alloc_New (x0 : AV) (h : Heap) : Option (AV × Heap) :=
  cl (k_arena_Arena_Spans x0 h) fun t5 h0 =>
  mk Heap.new (msP 1 1 [(AV.bool false)] t5 t5) h0 fun t6 h1 =>
  (bldS [(0, 1), (1, 1)] [(AV.ptr none), (AV.sl none 0 (.ex 0))] [(0, x0), (1, t6)]).bind fun t7 =>
  mk Heap.new (bxP t7) h1 fun t8 h2 =>
  some (t8, h2)
def T7 : Tab := (28, p1 k_alloc_New) :: T6
/- 29: gantline/gantlineref4.NewAlloc -/
def k_ref4_NewAlloc (x0 : AV) (h : Heap) : Option (AV × Heap) :=
  (nilV x0).bind fun t5 =>
  (faP 0 t5).bind fun t6 =>
  (ldS h t6).bind fun t7 =>
  (lnL t7).bind fun t8 =>
  mk Heap.new (msP 1 1 [(AV.bool false)] t8 t8) h fun t9 h0 =>
  (bldS [(0, 1), (1, 1)] [(AV.ptr none), (AV.sl none 0 (.ex 0))] [(0, x0), (1, t9)]).bind fun t10 =>
  mk Heap.new (bxP t10) h0 fun t11 h1 =>
  some (t11, h1)
def T8 : Tab := (29, p1 k_ref4_NewAlloc) :: T7
/- 30: gantline/gantlinelaw7.shapes -/
def k_law7_shapes (h : Heap) : Option (AV × Heap) :=
  (bldS [(0, 1), (1, 1), (2, 1)] [(AV.int .i64 0), (AV.int .i64 0), (AV.int .u64 0)] []).bind fun t1 =>
  (bldS [(0, 1), (1, 1), (2, 1)] [(AV.int .i64 0), (AV.int .i64 0), (AV.int .u64 0)] [(1, (AV.int .i64 1)), (2, (AV.int .u64 1))]).bind fun t2 =>
  (bldS [(0, 1), (1, 1), (2, 1)] [(AV.int .i64 0), (AV.int .i64 0), (AV.int .u64 0)] [(1, (AV.int .i64 2)), (2, (AV.int .u64 2))]).bind fun t3 =>
  (bldS [(0, 1), (1, 1), (2, 1)] [(AV.int .i64 0), (AV.int .i64 0), (AV.int .u64 0)] [(1, (AV.int .i64 3)), (2, (AV.int .u64 5))]).bind fun t4 =>
  (bldS [(0, 1), (1, 1), (2, 1)] [(AV.int .i64 0), (AV.int .i64 0), (AV.int .u64 0)] [(0, (AV.int .i64 1)), (2, (AV.int .u64 1))]).bind fun t5 =>
  (bldS [(0, 1), (1, 1), (2, 1)] [(AV.int .i64 0), (AV.int .i64 0), (AV.int .u64 0)] [(0, (AV.int .i64 1))]).bind fun t6 =>
  mk Heap.new (bsP 3 [(AV.int .i64 0), (AV.int .i64 0), (AV.int .u64 0)] 6 [(0, t1), (1, t2), (2, t3), (3, t4), (4, t5), (5, t6)]) h fun t7 h0 =>
  some (t7, h0)
def T9 : Tab := (30, p0 k_law7_shapes) :: T8
/- 61: gantline/head.Good -/
def k_head_Good_j0 (t1 : AV) (q25 : AV) (h22 : Heap) : Option (AV × Heap) :=
  condE q25 (
  (faP 1 t1).bind fun t28 =>
  (ldS h22 t28).bind fun t29 =>
  (eqP (some (.int .i64)) none false .eql t29 (AV.int .i64 0)).bind fun t30 =>
  gQ (gdW t30 true) h22 ((faP 2 t1).bind fun t32 =>
  some (t32, h22)) fun t32_23 h24 =>
  gQ (gdW t30 true) h24 ((ldS h24 t32_23).bind fun t33 =>
  some (t33, h24)) fun t33_25 h26 =>
  gQ (gdW t30 true) h26 ((binP .leq t33_25 (AV.int .u64 1)).bind fun t34 =>
  some (t34, h26)) fun t34_27 h28 =>
  (pickP t30 t34_27 (AV.bool false)).bind fun t35 =>
  some (t35, h28)) (
  some ((AV.bool false), h22))
def k_head_Good_j1 (t1 : AV) (t4 : AV) (q5 : AV) (h1 : Heap) : Option (AV × Heap) :=
  condE q5 (
  (faP 1 t1).bind fun t8 =>
  (ldS h1 t8).bind fun t9 =>
  (binP .geq t9 (AV.int .i64 0)).bind fun t10 =>
  gQ (gdW t10 true) h1 ((faP 1 t1).bind fun t12 =>
  some (t12, h1)) fun t12_2 h3 =>
  gQ (gdW t10 true) h3 ((ldS h3 t12_2).bind fun t13 =>
  some (t13, h3)) fun t13_4 h5 =>
  gQ (gdW t10 true) h5 ((binP .leq t13_4 (AV.int .i64 63)).bind fun t14 =>
  some (t14, h5)) fun t14_6 h7 =>
  (pickP t10 t14_6 (AV.bool false)).bind fun t15 =>
  gQ (gdW t15 true) h7 ((faP 2 t1).bind fun t17 =>
  some (t17, h7)) fun t17_8 h9 =>
  gQ (gdW t15 true) h9 ((ldS h9 t17_8).bind fun t18 =>
  some (t18, h9)) fun t18_10 h11 =>
  gQ (gdW t15 true) h11 ((faP 1 t1).bind fun t19 =>
  some (t19, h11)) fun t19_12 h13 =>
  gQ (gdW t15 true) h13 ((ldS h13 t19_12).bind fun t20 =>
  some (t20, h13)) fun t20_14 h15 =>
  gQ (gdW t15 true) h15 ((cvI .u64 t20_14).bind fun t21 =>
  some (t21, h15)) fun t21_16 h17 =>
  gQ (gdW t15 true) h17 ((binP .shr t18_10 t21_16).bind fun t22 =>
  some (t22, h17)) fun t22_18 h19 =>
  gQ (gdW t15 true) h19 ((eqP (some (.int .u64)) none false .eql t22_18 (AV.int .u64 0)).bind fun t23 =>
  some (t23, h19)) fun t23_20 h21 =>
  (pickP t15 t23_20 (AV.bool false)).bind fun t24 =>
  some (t24, h21)) (
  (eqP (some (.int .i64)) none false .eql t4 (AV.int .i64 1)).bind fun t26 =>
  condE t26 (
  k_head_Good_j0 t1 t26 h1) (
  (eqP (some (.int .i64)) none false .eql t4 (AV.int .i64 3)).bind fun t27 =>
  k_head_Good_j0 t1 t27 h1))
def k_head_Good (x0 : AV) (h : Heap) : Option (AV × Heap) :=
  mk Heap.new (bxP x0) h fun t1 h0 =>
  (faP 0 t1).bind fun t3 =>
  (ldS h0 t3).bind fun t4 =>
  (eqP (some (.int .i64)) none false .eql t4 (AV.int .i64 0)).bind fun t6 =>
  condE t6 (
  k_head_Good_j1 t1 t4 t6 h0) (
  (eqP (some (.int .i64)) none false .eql t4 (AV.int .i64 2)).bind fun t7 =>
  k_head_Good_j1 t1 t4 t7 h0)
def T10 : Tab := (61, p1 k_head_Good) :: T9
/- 31: (*gantline/head.Table).Number -/
def k_head_Table_Number (x0 : AV) (x1 : AV) (h : Heap) : Option (AV × Heap) :=
  mk Heap.new (bxP x1) h fun t3 h0 =>
  (ldA 3 h0 t3).bind fun t8 =>
  cl (k_head_Good t8 h0) fun t9 h1 =>
  (unA .not t9).bind fun t10 =>
  condE t10 (
  some (AV.tup [(AV.int .i64 0), (AV.int .i64 1)], h1)) (
  (nilV x0).bind fun t13 =>
  (faP 1 t13).bind fun t14 =>
  (ldS h1 t14).bind fun t15 =>
  (ldA 3 h1 t3).bind fun t16 =>
  (lkP (fdS [(0, (.int .i64)), (1, (.int .i64)), (2, (.int .u64))]) (AV.int .i64 0) true h1 t15 t16).bind fun t17 =>
  (extractV 0 t17).bind fun t18 =>
  (extractV 1 t17).bind fun t19 =>
  chk [h1] [] (
  condE t19 (
  some (AV.tup [t18, (AV.int .i64 0)], h1)) (
  (nilV x0).bind fun t23 =>
  (faP 0 t23).bind fun t24 =>
  (ldS h1 t24).bind fun t25 =>
  (lnL t25).bind fun t26 =>
  (eqP (some (.int .i64)) none false .eql t26 (AV.int .i64 65536)).bind fun t27 =>
  condE t27 (
  some (AV.tup [(AV.int .i64 0), (AV.int .i64 2)], h1)) (
  (nilV x0).bind fun t29 =>
  (faP 1 t29).bind fun t30 =>
  (ldS h1 t30).bind fun t31 =>
  (ldA 3 h1 t3).bind fun t32 =>
  (nilV x0).bind fun t34 =>
  (faP 0 t34).bind fun t35 =>
  (ldS h1 t35).bind fun t36 =>
  (lnL t36).bind fun t37 =>
  cl (muP (ptS [(0, (.int .i64)), (1, (.int .i64)), (2, (.int .u64))]) h1 t31 t32 t37) fun u h2 =>
  chk [h1, h2] [] (
  (nilV x0).bind fun t40 =>
  (faP 0 t40).bind fun t41 =>
  (ldS (hpN h2 1) t41).bind fun t42 =>
  (ldA 3 (hpN h2 1) t3).bind fun t43 =>
  cl (mkAt Heap.put (bsP 3 [(AV.int .i64 0), (AV.int .i64 0), (AV.int .u64 0)] 1 [(0, t43)]) (h2.next + 0) (hpN h2 1)) fun t44 h3 =>
  cl (appendA h3 3 24 t42 t44) fun t45 h4 =>
  (nilV x0).bind fun t46 =>
  (faP 0 t46).bind fun t47 =>
  cl (stP 1 h4 t47 t45) fun u_5 h6 =>
  chk [(hpN h2 1), h4, h6] [] (
  (nilV x0).bind fun t49 =>
  (faP 0 t49).bind fun t50 =>
  (ldS h6 t50).bind fun t51 =>
  (lnL t51).bind fun t52 =>
  (binP .sub t52 (AV.int .i64 1)).bind fun t53 =>
  some (AV.tup [t53, (AV.int .i64 0)], h6)))))))
def T11 : Tab := (31, p2 k_head_Table_Number) :: T10
/- 32: (*gantline/gantlineref4.Marker).Number -/
def k_ref4_Marker_Number_b0 (x0 : AV) (t3 : AV) (q4 : AV) (q5 : AV) (h1 : Heap) : OutV :=
  (nilV x0).bind fun t8 =>
  (faP 1 t8).bind fun t9 =>
  (ldS h1 t9).bind fun t10 =>
  (lnL t10).bind fun t11 =>
  (binP .lss q5 t11).bind fun t12 =>
  condE t12 (
  (nilV x0).bind fun t16 =>
  (faP 1 t16).bind fun t17 =>
  (ldS h1 t17).bind fun t18 =>
  (iaS 3 t18 q5).bind fun t20 =>
  (ldA 3 h1 t20).bind fun t21 =>
  (ldA 3 h1 t3).bind fun t22 =>
  (eqP (some (.struct #[])) (some [(0, (.int .i64)), (1, (.int .i64)), (2, (.int .u64))]) false .eql t21 t22).bind fun t23 =>
  chk [h1] [] (
  condE t23 (
  some (.ret, [q5, q5], h1)) (
  (binP .add q5 (AV.int .i64 1)).bind fun t14 =>
  some (.normal, [q4, t14], h1)))) (
  some ((.exit 0), [q4, q5], h1))
def k_ref4_Marker_Number_L0 (x0 : AV) (t3 : AV) (q4 : AV) (q5 : AV) (h1 : Heap) : OutV := loopN (fun us g => k_ref4_Marker_Number_b0 x0 t3 (us.getD 0 .bot) (us.getD 1 .bot) g) [q4, q5] h1
def k_ref4_Marker_Number (x0 : AV) (x1 : AV) (h : Heap) : Option (AV × Heap) :=
  mk Heap.new (bxP x1) h fun t3 h0 =>
  lp (k_ref4_Marker_Number_L0 x0 t3 (AV.int .i64 0) (AV.int .i64 0) h0) fun e vs h2 =>
  thenK (if e = .exit 0 then .normal else e) (
  (nilV x0).bind fun t27 =>
  (faP 1 t27).bind fun t28 =>
  (ldS (hpN h2 1) t28).bind fun t29 =>
  (ldA 3 (hpN h2 1) t3).bind fun t30 =>
  cl (mkAt Heap.put (bsP 3 [(AV.int .i64 0), (AV.int .i64 0), (AV.int .u64 0)] 1 [(0, t30)]) (h2.next + 0) (hpN h2 1)) fun t31 h3 =>
  cl (appendA h3 3 24 t29 t31) fun t32 h4 =>
  (nilV x0).bind fun t33 =>
  (faP 1 t33).bind fun t34 =>
  cl (stP 1 h4 t34 t32) fun u h5 =>
  chk [(hpN h2 1), h4, h5] [] (
  (nilV x0).bind fun t36 =>
  (faP 1 t36).bind fun t37 =>
  (ldS h5 t37).bind fun t38 =>
  (lnL t38).bind fun t39 =>
  (binP .sub t39 (AV.int .i64 1)).bind fun t40 =>
  some (t40, h5))) (fun e_6 => endE e_6 (some ((vs.getD 0 .bot), h2)))
def T12 : Tab := (32, p2 k_ref4_Marker_Number) :: T11
/- 34: gantline/gantlinelaw7.size -/
def k_law7_size (x0 : AV) (h : Heap) : Option (AV × Heap) :=
  mk Heap.new (bxP x0) h fun t1 h0 =>
  (faP 0 t1).bind fun t5 =>
  (ldS h0 t5).bind fun t6 =>
  (binP .and t6 (AV.int .i64 7)).bind fun t7 =>
  (binP .rem t7 (AV.int .i64 6)).bind fun t8 =>
  (binP .lss t8 (AV.int .i64 4)).bind fun t10 =>
  condE t10 (
  (binP .add t8 (AV.int .i64 1)).bind fun t12 =>
  some (t12, h0)) (
  (faP 1 t1).bind fun t13 =>
  (ldS h0 t13).bind fun t14 =>
  (binP .and t14 (AV.int .i64 63)).bind fun t15 =>
  (binP .lss t15 (AV.int .i64 1)).bind fun t17 =>
  condE t17 (
  some ((AV.int .i64 1), h0)) (
  some (t15, h0)))
def T13 : Tab := (34, p1 k_law7_size) :: T12
/- 43: gantline/geom.Words -/
def k_geom_Words (x0 : AV) (h : Heap) : Option (AV × Heap) :=
  (binP .lss x0 (AV.int .i64 0)).bind fun t4 =>
  gQ (gdW t4 false) h (some (x0, h)) fun t6 h0 =>
  gQ (gdW t4 false) h0 ((binP .geq t6 (AV.int .i64 6)).bind fun t7 =>
  some (t7, h0)) fun t7_1 h2 =>
  (pickP t4 (AV.bool true) t7_1).bind fun t8 =>
  condE t8 (
  some ((AV.int .i64 0), h2)) (
  (cvI .u64 x0).bind fun t10 =>
  (binP .shl (AV.int .i64 2) t10).bind fun t11 =>
  some (t11, h2))
def T14 : Tab := (43, p1 k_geom_Words) :: T13
/- 62: gantline/geom.Class -/
def k_geom_Class_b0 (x0 : AV) (q2 : AV) (q4 : AV) (h0 : Heap) : OutV :=
  (binP .lss q4 (AV.int .i64 6)).bind fun t5 =>
  condE t5 (
  (binP .geq x0 (AV.int .i64 1)).bind fun t8 =>
  gQ (gdW t8 true) h0 (some (x0, h0)) fun t10 h1 =>
  gQ (gdW t8 true) h1 (some (q4, h1)) fun t11 h2 =>
  gQ (gdW t8 true) h2 (cl (k_geom_Words t11 h2) fun t12 h3 =>
  some (t12, h3)) fun t12_4 h5 =>
  gQ (gdW t8 true) h5 ((binP .leq t10 t12_4).bind fun t13 =>
  some (t13, h5)) fun t13_6 h7 =>
  (pickP t8 t13_6 (AV.bool false)).bind fun t14 =>
  condE t14 (
  some (.ret, [q4, q4], h7)) (
  (binP .add q4 (AV.int .i64 1)).bind fun t16 =>
  some (.normal, [q2, t16], h7))) (
  some ((.exit 0), [q2, q4], h0))
def k_geom_Class_L0 (x0 : AV) (q2 : AV) (q4 : AV) (h0 : Heap) : OutV := loopN (fun us g => k_geom_Class_b0 x0 (us.getD 0 .bot) (us.getD 1 .bot) g) [q2, q4] h0
def k_geom_Class (x0 : AV) (h : Heap) : Option (AV × Heap) :=
  lp (k_geom_Class_L0 x0 (AV.int .i64 0) (AV.int .i64 0) h) fun e vs h8 =>
  thenK (if e = .exit 0 then .normal else e) (
  some ((AV.int .i64 (-1)), h8)) (fun e_9 => endE e_9 (some ((vs.getD 0 .bot), h8)))
def T15 : Tab := (62, p1 k_geom_Class) :: T14
/- 76: (*gantline/arena.Arena).has -/
def k_arena_Arena_has (x0 : AV) (x1 : AV) (h : Heap) : Option (AV × Heap) :=
  (binP .geq x1 (AV.int .i64 1)).bind fun t6 =>
  gQ (gdW t6 true) h (some (x1, h)) fun t8 h0 =>
  gQ (gdW t6 true) h0 (some (x0, h0)) fun t9 h1 =>
  gQ (gdW t6 true) h1 ((nilV t9).bind fun t10 =>
  some (t10, h1)) fun t10_2 h3 =>
  gQ (gdW t6 true) h3 ((faP 1 t10_2).bind fun t11 =>
  some (t11, h3)) fun t11_4 h5 =>
  gQ (gdW t6 true) h5 ((ldS h5 t11_4).bind fun t12 =>
  some (t12, h5)) fun t12_6 h7 =>
  gQ (gdW t6 true) h7 ((lnL t12_6).bind fun t13 =>
  some (t13, h7)) fun t13_8 h9 =>
  gQ (gdW t6 true) h9 ((binP .lss t8 t13_8).bind fun t14 =>
  some (t14, h9)) fun t14_10 h11 =>
  (pickP t6 t14_10 (AV.bool false)).bind fun t15 =>
  some (t15, h11)
def T16 : Tab := (76, p2 k_arena_Arena_has) :: T15
/- 44: (*gantline/arena.Arena).Class -/
def k_arena_Arena_Class (x0 : AV) (x1 : AV) (h : Heap) : Option (AV × Heap) :=
  cl (k_arena_Arena_has x0 x1 h) fun t7 h0 =>
  (unA .not t7).bind fun t8 =>
  condE t8 (
  some ((AV.int .i64 (-1)), h0)) (
  (nilV x0).bind fun t10 =>
  (faP 1 t10).bind fun t11 =>
  (ldS h0 t11).bind fun t12 =>
  (iaS 3 t12 x1).bind fun t14 =>
  (faP 0 t14).bind fun t15 =>
  (ldS h0 t15).bind fun t16 =>
  some (t16, h0))
def T17 : Tab := (44, p2 k_arena_Arena_Class) :: T16
/- 109: math/bits.OnesCount64 -/
def k_mbits_OnesCount64 (x0 : AV) (h : Heap) : Option (AV × Heap) :=
  (binP .shr x0 (AV.int .u64 1)).bind fun t4 =>
  (binP .and t4 (AV.int .u64 6148914691236517205)).bind fun t5 =>
  (binP .and x0 (AV.int .u64 6148914691236517205)).bind fun t7 =>
  (binP .add t5 t7).bind fun t8 =>
  (binP .shr t8 (AV.int .u64 2)).bind fun t10 =>
  (binP .and t10 (AV.int .u64 3689348814741910323)).bind fun t11 =>
  (binP .and t8 (AV.int .u64 3689348814741910323)).bind fun t13 =>
  (binP .add t11 t13).bind fun t14 =>
  (binP .shr t14 (AV.int .u64 4)).bind fun t16 =>
  (binP .add t16 t14).bind fun t18 =>
  (binP .and t18 (AV.int .u64 1085102592571150095)).bind fun t19 =>
  (binP .shr t19 (AV.int .u64 8)).bind fun t22 =>
  (binP .add t19 t22).bind fun t23 =>
  (binP .shr t23 (AV.int .u64 16)).bind fun t26 =>
  (binP .add t23 t26).bind fun t27 =>
  (binP .shr t27 (AV.int .u64 32)).bind fun t30 =>
  (binP .add t27 t30).bind fun t31 =>
  (cvI .i64 t31).bind fun t33 =>
  (binP .and t33 (AV.int .i64 127)).bind fun t34 =>
  some (t34, h)
def T18 : Tab := (109, p1 k_mbits_OnesCount64) :: T17
/- 96: gantline/bits.Ones -/
def k_bits_Ones (x0 : AV) (h : Heap) : Option (AV × Heap) :=
  cl (k_mbits_OnesCount64 x0 h) fun t4 h0 =>
  some (t4, h0)
def T19 : Tab := (96, p1 k_bits_Ones) :: T18
/- 83: (*gantline/arena.Arena).Sweep -/
def k_arena_Arena_Sweep (x0 : AV) (x1 : AV) (h : Heap) : Option (AV × Heap) :=
  cl (k_arena_Arena_Class x0 x1 h) fun t9 h0 =>
  (eqP (some (.int .i64)) none false .eql t9 (AV.int .i64 (-1))).bind fun t10 =>
  condE t10 (
  some ((AV.int .i64 0), h0)) (
  (nilV x0).bind fun t12 =>
  (faP 1 t12).bind fun t13 =>
  (ldS h0 t13).bind fun t14 =>
  (iaS 3 t14 x1).bind fun t16 =>
  (nilV t16).bind fun t18 =>
  (faP 1 t18).bind fun t19 =>
  (ldS h0 t19).bind fun t20 =>
  (nilV t16).bind fun t22 =>
  (faP 2 t22).bind fun t23 =>
  (ldS h0 t23).bind fun t24 =>
  (binP .andNot t20 t24).bind fun t25 =>
  cl (k_bits_Ones t25 h0) fun t26 h1 =>
  chk [h0, h1] [] (
  (nilV t16).bind fun t28 =>
  (faP 1 t28).bind fun t29 =>
  (ldS h1 t29).bind fun t30 =>
  (nilV t16).bind fun t32 =>
  (faP 2 t32).bind fun t33 =>
  (ldS h1 t33).bind fun t34 =>
  (binP .and t30 t34).bind fun t35 =>
  (nilV t16).bind fun t36 =>
  (faP 1 t36).bind fun t37 =>
  cl (stP 1 h1 t37 t35) fun u h2 =>
  chk [h1, h2] [] (
  (nilV t16).bind fun t39 =>
  (faP 1 t39).bind fun t40 =>
  (ldS h2 t40).bind fun t41 =>
  (eqP (some (.int .u64)) none false .eql t41 (AV.int .u64 0)).bind fun t42 =>
  condE t42 (
  (bldS [(0, 1), (1, 1), (2, 1)] [(AV.int .i64 0), (AV.int .u64 0), (AV.int .u64 0)] [(0, (AV.int .i64 (-1)))]).bind fun t44 =>
  (nilV t16).bind fun t45 =>
  cl (stP 3 h2 t45 t44) fun u_4 h5 =>
  some (t26, h5)) (
  some (t26, h2)))))
def T20 : Tab := (83, p2 k_arena_Arena_Sweep) :: T19
/- 63: (*gantline/alloc.Alloc).sweep -/
def k_alloc_Alloc_sweep (x0 : AV) (x1 : AV) (h : Heap) : Option (AV × Heap) :=
  (nilV x0).bind fun t5 =>
  (faP 0 t5).bind fun t6 =>
  (ldS h t6).bind fun t7 =>
  cl (k_arena_Arena_Sweep t7 x1 h) fun t9 h0 =>
  (nilV x0).bind fun t11 =>
  (faP 1 t11).bind fun t12 =>
  (ldS h0 t12).bind fun t13 =>
  (iaS 1 t13 x1).bind fun t15 =>
  cl (stP 1 h0 t15 (AV.bool false)) fun u h1 =>
  some (AV.tup [], h1)
def T21 : Tab := (63, p2 k_alloc_Alloc_sweep) :: T20
/- 64: (*gantline/arena.Arena).Taken -/
def k_arena_Arena_Taken (x0 : AV) (x1 : AV) (h : Heap) : Option (AV × Heap) :=
  cl (k_arena_Arena_Class x0 x1 h) fun t7 h0 =>
  (eqP (some (.int .i64)) none false .eql t7 (AV.int .i64 (-1))).bind fun t8 =>
  condE t8 (
  some ((AV.int .u64 0), h0)) (
  (nilV x0).bind fun t10 =>
  (faP 1 t10).bind fun t11 =>
  (ldS h0 t11).bind fun t12 =>
  (iaS 3 t12 x1).bind fun t14 =>
  (faP 1 t14).bind fun t15 =>
  (ldS h0 t15).bind fun t16 =>
  some (t16, h0))
def T22 : Tab := (64, p2 k_arena_Arena_Taken) :: T21
/- 84: gantline/geom.Places -/
def k_geom_Places (x0 : AV) (h : Heap) : Option (AV × Heap) :=
  cl (k_geom_Words x0 h) fun t4 h0 =>
  (eqP (some (.int .i64)) none false .eql t4 (AV.int .i64 0)).bind fun t5 =>
  condE t5 (
  some ((AV.int .i64 0), h0)) (
  cl (k_geom_Words x0 h0) fun t7 h1 =>
  (binP .quo (AV.int .i64 64) t7).bind fun t8 =>
  some (t8, h1))
def T23 : Tab := (84, p1 k_geom_Places) :: T22
/- 91: gantline/bits.within -/
def k_bits_within (x0 : AV) (x1 : AV) (h : Heap) : Option (AV × Heap) :=
  (binP .geq x0 (AV.int .i64 0)).bind fun t6 =>
  gQ (gdW t6 true) h (some (x1, h)) fun t8 h0 =>
  gQ (gdW t6 true) h0 ((binP .geq t8 (AV.int .i64 0)).bind fun t9 =>
  some (t9, h0)) fun t9_1 h2 =>
  (pickP t6 t9_1 (AV.bool false)).bind fun t10 =>
  gQ (gdW t10 true) h2 (some (x1, h2)) fun t12 h3 =>
  gQ (gdW t10 true) h3 ((binP .leq t12 (AV.int .i64 64)).bind fun t13 =>
  some (t13, h3)) fun t13_4 h5 =>
  (pickP t10 t13_4 (AV.bool false)).bind fun t14 =>
  gQ (gdW t14 true) h5 (some (x0, h5)) fun t16 h6 =>
  gQ (gdW t14 true) h6 (some (x1, h6)) fun t17 h7 =>
  gQ (gdW t14 true) h7 ((binP .sub (AV.int .i64 64) t17).bind fun t18 =>
  some (t18, h7)) fun t18_8 h9 =>
  gQ (gdW t14 true) h9 ((binP .leq t16 t18_8).bind fun t19 =>
  some (t19, h9)) fun t19_10 h11 =>
  (pickP t14 t19_10 (AV.bool false)).bind fun t20 =>
  some (t20, h11)
def T24 : Tab := (91, p2 k_bits_within) :: T23
/- 92: gantline/bits.mask -/
def k_bits_mask (x0 : AV) (h : Heap) : Option (AV × Heap) :=
  (cvI .u64 x0).bind fun t4 =>
  (binP .shl (AV.int .u64 1) t4).bind fun t5 =>
  (binP .sub t5 (AV.int .u64 1)).bind fun t6 =>
  some (t6, h)
def T25 : Tab := (92, p1 k_bits_mask) :: T24
/- 73: gantline/bits.With -/
def k_bits_With (x0 : AV) (x1 : AV) (x2 : AV) (x3 : AV) (h : Heap) : Option (AV × Heap) :=
  cl (k_bits_within x1 x2 h) fun t11 h0 =>
  (unA .not t11).bind fun t12 =>
  condE t12 (
  some (x0, h0)) (
  cl (k_bits_mask x2 h0) fun t16 h1 =>
  (cvI .u64 x1).bind fun t18 =>
  (binP .shl t16 t18).bind fun t19 =>
  (binP .andNot x0 t19).bind fun t20 =>
  cl (k_bits_mask x2 h1) fun t23 h2 =>
  (binP .and x3 t23).bind fun t24 =>
  (cvI .u64 x1).bind fun t26 =>
  (binP .shl t24 t26).bind fun t27 =>
  (binP .or t20 t27).bind fun t28 =>
  some (t28, h2))
def T26 : Tab := (73, p4 k_bits_With) :: T25
/- 65: gantline/geom.Full -/
def k_geom_Full (x0 : AV) (h : Heap) : Option (AV × Heap) :=
  cl (k_geom_Places x0 h) fun t4 h0 =>
  cl (k_bits_With (AV.int .u64 0) (AV.int .i64 0) t4 (AV.int .u64 18446744073709551615) h0) fun t5 h1 =>
  some (t5, h1)
def T27 : Tab := (65, p1 k_geom_Full) :: T26
/- 97: math/bits.TrailingZeros64 -/
def k_mbits_TrailingZeros64 (x0 : AV) (h : Heap) : Option (AV × Heap) :=
  (eqP (some (.int .u64)) none false .eql x0 (AV.int .u64 0)).bind fun t4 =>
  condE t4 (
  some ((AV.int .i64 64), h)) (
  (unA .neg x0).bind fun t7 =>
  (binP .and x0 t7).bind fun t8 =>
  (binP .mul t8 (AV.int .u64 285870213051353865)).bind fun t9 =>
  (binP .shr t9 (AV.int .u64 58)).bind fun t10 =>
  (iaA 64 1 (AV.ptr (some (0, 0))) t10).bind fun t11 =>
  (ldS h t11).bind fun t12 =>
  (cvI .i64 t12).bind fun t13 =>
  some (t13, h))
def T28 : Tab := (97, p1 k_mbits_TrailingZeros64) :: T27
/- 85: gantline/bits.First -/
def k_bits_First (x0 : AV) (h : Heap) : Option (AV × Heap) :=
  (unA .xor x0).bind fun t4 =>
  cl (k_mbits_TrailingZeros64 t4 h) fun t5 h0 =>
  some (t5, h0)
def T29 : Tab := (85, p1 k_bits_First) :: T28
/- 86: gantline/geom.Addr -/
def k_geom_Addr (x0 : AV) (x1 : AV) (x2 : AV) (h : Heap) : Option (AV × Heap) :=
  (binP .lss x0 (AV.int .i64 1)).bind fun t8 =>
  gQ (gdW t8 false) h (some (x0, h)) fun t10 h0 =>
  gQ (gdW t8 false) h0 ((binP .geq t10 (AV.int .i64 512)).bind fun t11 =>
  some (t11, h0)) fun t11_1 h2 =>
  (pickP t8 (AV.bool true) t11_1).bind fun t12 =>
  gQ (gdW t12 false) h2 (some (x1, h2)) fun t14 h3 =>
  gQ (gdW t12 false) h3 ((binP .lss t14 (AV.int .i64 0)).bind fun t15 =>
  some (t15, h3)) fun t15_4 h5 =>
  (pickP t12 (AV.bool true) t15_4).bind fun t16 =>
  gQ (gdW t16 false) h5 (some (x1, h5)) fun t18 h6 =>
  gQ (gdW t16 false) h6 (some (x2, h6)) fun t19 h7 =>
  gQ (gdW t16 false) h7 (cl (k_geom_Places t19 h7) fun t20 h8 =>
  some (t20, h8)) fun t20_9 h10 =>
  gQ (gdW t16 false) h10 ((binP .geq t18 t20_9).bind fun t21 =>
  some (t21, h10)) fun t21_11 h12 =>
  (pickP t16 (AV.bool true) t21_11).bind fun t22 =>
  condE t22 (
  some ((AV.int .i64 0), h12)) (
  (binP .mul x0 (AV.int .i64 64)).bind fun t24 =>
  cl (k_geom_Words x2 h12) fun t27 h13 =>
  (binP .mul x1 t27).bind fun t28 =>
  (binP .add t24 t28).bind fun t29 =>
  some (t29, h13))
def T30 : Tab := (86, p3 k_geom_Addr) :: T29
/- 66: (*gantline/arena.Arena).Take -/
def k_arena_Arena_Take (x0 : AV) (x1 : AV) (h : Heap) : Option (AV × Heap) :=
  cl (k_arena_Arena_Class x0 x1 h) fun t12 h0 =>
  (eqP (some (.int .i64)) none false .eql t12 (AV.int .i64 (-1))).bind fun t14 =>
  condE t14 (
  some (AV.tup [(AV.int .i64 0), (AV.int .i64 4)], h0)) (
  (nilV x0).bind fun t16 =>
  (faP 1 t16).bind fun t17 =>
  (ldS h0 t17).bind fun t18 =>
  (iaS 3 t18 x1).bind fun t20 =>
  (nilV t20).bind fun t22 =>
  (faP 1 t22).bind fun t23 =>
  (ldS h0 t23).bind fun t24 =>
  cl (k_bits_First t24 h0) fun t25 h1 =>
  cl (k_geom_Places t12 h1) fun t28 h2 =>
  (binP .geq t25 t28).bind fun t29 =>
  condE t29 (
  some (AV.tup [(AV.int .i64 0), (AV.int .i64 5)], h2)) (
  (nilV t20).bind fun t31 =>
  (faP 1 t31).bind fun t32 =>
  (ldS h2 t32).bind fun t33 =>
  (cvI .u64 t25).bind fun t35 =>
  (binP .shl (AV.int .u64 1) t35).bind fun t36 =>
  (binP .or t33 t36).bind fun t37 =>
  (nilV t20).bind fun t38 =>
  (faP 1 t38).bind fun t39 =>
  cl (stP 1 h2 t39 t37) fun u h3 =>
  (nilV t20).bind fun t41 =>
  (faP 2 t41).bind fun t42 =>
  (ldS h3 t42).bind fun t43 =>
  (cvI .u64 t25).bind fun t45 =>
  (binP .shl (AV.int .u64 1) t45).bind fun t46 =>
  (binP .andNot t43 t46).bind fun t47 =>
  (nilV t20).bind fun t48 =>
  (faP 2 t48).bind fun t49 =>
  cl (stP 1 h3 t49 t47) fun u_4 h5 =>
  cl (k_geom_Addr x1 t25 t12 h5) fun t53 h6 =>
  (nilV x0).bind fun t55 =>
  (faP 0 t55).bind fun t56 =>
  clC (rdC (fun g => ldS g t56) h6 0 1 []) fun t57 cs =>
  cl (k_geom_Words t12 h6) fun t61 h7 =>
  (binP .add t53 t61).bind fun t62 =>
  (slcP 1 t57 (some t53) (some t62) none).bind fun t63 =>
  cl (clL 1 [(AV.int .i64 0)] h7 t63) fun u_8 h9 =>
  chk [h6, h7, h9] cs (
  some (AV.tup [t53, (AV.int .i64 0)], h9))))
def T31 : Tab := (66, p2 k_arena_Arena_Take) :: T30
/- 87: (*gantline/arena.Arena).Set -/
def k_arena_Arena_Set (x0 : AV) (x1 : AV) (x2 : AV) (h : Heap) : Option (AV × Heap) :=
  cl (k_arena_Arena_has x0 x1 h) fun t10 h0 =>
  (unA .not t10).bind fun t11 =>
  gQ (gdW t11 false) h0 (some (x2, h0)) fun t13 h1 =>
  gQ (gdW t11 false) h1 (cl (k_geom_Words t13 h1) fun t14 h2 =>
  some (t14, h2)) fun t14_3 h4 =>
  gQ (gdW t11 false) h4 ((eqP (some (.int .i64)) none false .eql t14_3 (AV.int .i64 0)).bind fun t15 =>
  some (t15, h4)) fun t15_5 h6 =>
  (pickP t11 (AV.bool true) t15_5).bind fun t16 =>
  condE t16 (
  some ((AV.int .i64 1), h6)) (
  (nilV x0).bind fun t19 =>
  (faP 1 t19).bind fun t20 =>
  (ldS h6 t20).bind fun t21 =>
  (iaS 3 t21 x1).bind fun t23 =>
  (faP 0 t23).bind fun t24 =>
  (ldS h6 t24).bind fun t25 =>
  (eqP (some (.int .i64)) none false .neq t25 (AV.int .i64 (-1))).bind fun t26 =>
  condE t26 (
  some ((AV.int .i64 5), h6)) (
  (nilV x0).bind fun t28 =>
  (faP 1 t28).bind fun t29 =>
  (ldS h6 t29).bind fun t30 =>
  (bldS [(0, 1), (1, 1), (2, 1)] [(AV.int .i64 0), (AV.int .u64 0), (AV.int .u64 0)] [(0, x2)]).bind fun t33 =>
  (iaS 3 t30 x1).bind fun t34 =>
  cl (stP 3 h6 t34 t33) fun u h7 =>
  some ((AV.int .i64 0), h7)))
def T32 : Tab := (87, p3 k_arena_Arena_Set) :: T31
/- 67: (*gantline/alloc.Alloc).begin -/
def k_alloc_Alloc_begin (x0 : AV) (x1 : AV) (x2 : AV) (h : Heap) : Option (AV × Heap) :=
  (nilV x0).bind fun t9 =>
  (faP 1 t9).bind fun t10 =>
  (ldS h t10).bind fun t11 =>
  (iaS 1 t11 x1).bind fun t13 =>
  cl (stP 1 h t13 (AV.bool false)) fun u h0 =>
  (nilV x0).bind fun t15 =>
  (faP 0 t15).bind fun t16 =>
  (ldS h0 t16).bind fun t17 =>
  cl (k_arena_Arena_Set t17 x1 x2 h0) fun t20 h1 =>
  (nilV x0).bind fun t22 =>
  (faP 0 t22).bind fun t23 =>
  (ldS h1 t23).bind fun t24 =>
  cl (k_arena_Arena_Take t24 x1 h1) fun t26 h2 =>
  (extractV 0 t26).bind fun t27 =>
  (extractV 1 t26).bind fun t28 =>
  some (AV.tup [t27, t28], h2)
def T33 : Tab := (67, p3 k_alloc_Alloc_begin) :: T32
/- 33: (*gantline/alloc.Alloc).Take -/
def k_alloc_Alloc_Take_j0 (x0 : AV) (t12 : AV) (q4 : AV) (q5 : AV) (q20 : AV) (h10 : Heap) : OutV :=
  (nilV x0).bind fun t42 =>
  (faP 0 t42).bind fun t43 =>
  (ldS h10 t43).bind fun t44 =>
  cl (k_arena_Arena_Class t44 q20 h10) fun t46 h11 =>
  (eqP (some (.int .i64)) none false .eql t46 t12).bind fun t48 =>
  gQ (gdW t48 true) h11 (some (x0, h11)) fun t50 h12 =>
  gQ (gdW t48 true) h12 ((nilV t50).bind fun t51 =>
  some (t51, h12)) fun t51_13 h14 =>
  gQ (gdW t48 true) h14 ((faP 0 t51_13).bind fun t52 =>
  some (t52, h14)) fun t52_15 h16 =>
  gQ (gdW t48 true) h16 ((ldS h16 t52_15).bind fun t53 =>
  some (t53, h16)) fun t53_17 h18 =>
  gQ (gdW t48 true) h18 (some (q20, h18)) fun t54 h19 =>
  gQ (gdW t48 true) h19 (cl (k_arena_Arena_Taken t53_17 t54 h19) fun t55 h20 =>
  some (t55, h20)) fun t55_21 h22 =>
  gQ (gdW t48 true) h22 (some (t12, h22)) fun t56 h23 =>
  gQ (gdW t48 true) h23 (cl (k_geom_Full t56 h23) fun t57 h24 =>
  some (t57, h24)) fun t57_25 h26 =>
  gQ (gdW t48 true) h26 ((eqP (some (.int .u64)) none false .neq t55_21 t57_25).bind fun t58 =>
  some (t58, h26)) fun t58_27 h28 =>
  (pickP t48 t58_27 (AV.bool false)).bind fun t59 =>
  condE t59 (
  (nilV x0).bind fun t61 =>
  (faP 0 t61).bind fun t62 =>
  (ldS h28 t62).bind fun t63 =>
  cl (k_arena_Arena_Take t63 q20 h28) fun t65 h29 =>
  (extractV 0 t65).bind fun t66 =>
  (extractV 1 t65).bind fun t67 =>
  some (.ret, [t66, t67, q20], h29)) (
  (binP .add q20 (AV.int .i64 1)).bind fun t68_30 =>
  some (.normal, [q4, q5, t68_30], h28))
def k_alloc_Alloc_Take_b0 (x0 : AV) (t12 : AV) (t19 : AV) (q4 : AV) (q5 : AV) (q20 : AV) (h1 : Heap) : OutV :=
  (binP .lss q20 t19).bind fun t21 =>
  condE t21 (
  (nilV x0).bind fun t24 =>
  (faP 0 t24).bind fun t25 =>
  (ldS h1 t25).bind fun t26 =>
  cl (k_arena_Arena_Class t26 q20 h1) fun t28 h5 =>
  (eqP (some (.int .i64)) none false .neq t28 t12).bind fun t30 =>
  condE t30 (
  (binP .add q20 (AV.int .i64 1)).bind fun t68_6 =>
  some (.normal, [q4, q5, t68_6], h5)) (
  (nilV x0).bind fun t32 =>
  (faP 1 t32).bind fun t33 =>
  (ldS h5 t33).bind fun t34 =>
  (iaS 1 t34 q20).bind fun t36 =>
  (ldS h5 t36).bind fun t37 =>
  condE t37 (
  cl (k_alloc_Alloc_sweep x0 q20 h5) fun t40 h31 =>
  k_alloc_Alloc_Take_j0 x0 t12 q4 q5 q20 h31) (
  k_alloc_Alloc_Take_j0 x0 t12 q4 q5 q20 h5))) (
  some ((.exit 0), [q4, q5, q20], h1))
def k_alloc_Alloc_Take_L0 (x0 : AV) (t12 : AV) (t19 : AV) (q4 : AV) (q5 : AV) (q20 : AV) (h1 : Heap) : OutV := loopN (fun us g => k_alloc_Alloc_Take_b0 x0 t12 t19 (us.getD 0 .bot) (us.getD 1 .bot) (us.getD 2 .bot) g) [q4, q5, q20] h1
def k_alloc_Alloc_Take_b1 (x0 : AV) (t12 : AV) (q4_33 : AV) (q5_34 : AV) (q8 : AV) (h35 : Heap) : OutV :=
  (nilV x0).bind fun t71 =>
  (faP 1 t71).bind fun t72 =>
  (ldS h35 t72).bind fun t73 =>
  (lnL t73).bind fun t74 =>
  (binP .lss q8 t74).bind fun t75 =>
  condE t75 (
  (nilV x0).bind fun t79 =>
  (faP 0 t79).bind fun t80 =>
  (ldS h35 t80).bind fun t81 =>
  cl (k_arena_Arena_Class t81 q8 h35) fun t83 h36 =>
  (eqP (some (.int .i64)) none false .eql t83 (AV.int .i64 (-1))).bind fun t84 =>
  condE t84 (
  cl (k_alloc_Alloc_begin x0 q8 t12 h36) fun t88 h37 =>
  (extractV 0 t88).bind fun t89 =>
  (extractV 1 t88).bind fun t90 =>
  some (.ret, [t89, t90, q8], h37)) (
  (binP .add q8 (AV.int .i64 1)).bind fun t77 =>
  some (.normal, [q4_33, q5_34, t77], h36))) (
  some ((.exit 2), [q4_33, q5_34, q8], h35))
def k_alloc_Alloc_Take_L1 (x0 : AV) (t12 : AV) (q4_33 : AV) (q5_34 : AV) (q8 : AV) (h35 : Heap) : OutV := loopN (fun us g => k_alloc_Alloc_Take_b1 x0 t12 (us.getD 0 .bot) (us.getD 1 .bot) (us.getD 2 .bot) g) [q4_33, q5_34, q8] h35
def k_alloc_Alloc_Take_j1 (q96 : AV) (q4_44 : AV) (q5_45 : AV) (h46 : Heap) : OutV :=
  (binP .add q96 (AV.int .i64 1)).bind fun t118 =>
  some (.normal, [q4_44, q5_45, t118], h46)
def k_alloc_Alloc_Take_b2 (x0 : AV) (t12 : AV) (t94 : AV) (t95 : AV) (q4_41 : AV) (q5_42 : AV) (q96 : AV) (h43 : Heap) : OutV :=
  (binP .lss q96 t95).bind fun t97 =>
  condE t97 (
  (iaS 1 t94 q96).bind fun t99 =>
  (ldS h43 t99).bind fun t100 =>
  condE t100 (
  cl (k_alloc_Alloc_sweep x0 q96 h43) fun t104 h66 =>
  (nilV x0).bind fun t106 =>
  (faP 0 t106).bind fun t107 =>
  (ldS h66 t107).bind fun t108 =>
  cl (k_arena_Arena_Class t108 q96 h66) fun t110 h67 =>
  (eqP (some (.int .i64)) none false .eql t110 (AV.int .i64 (-1))).bind fun t111 =>
  condE t111 (
  cl (k_alloc_Alloc_begin x0 q96 t12 h67) fun t115 h68 =>
  (extractV 0 t115).bind fun t116 =>
  (extractV 1 t115).bind fun t117 =>
  some (.ret, [t116, t117, q96], h68)) (
  k_alloc_Alloc_Take_j1 q96 q4_41 q5_42 h67)) (
  k_alloc_Alloc_Take_j1 q96 q4_41 q5_42 h43)) (
  some ((.exit 4), [q4_41, q5_42, q96], h43))
def k_alloc_Alloc_Take_L2 (x0 : AV) (t12 : AV) (t94 : AV) (t95 : AV) (q4_41 : AV) (q5_42 : AV) (q96 : AV) (h43 : Heap) : OutV := loopN (fun us g => k_alloc_Alloc_Take_b2 x0 t12 t94 t95 (us.getD 0 .bot) (us.getD 1 .bot) (us.getD 2 .bot) g) [q4_41, q5_42, q96] h43
def k_alloc_Alloc_Take (x0 : AV) (x1 : AV) (h : Heap) : Option (AV × Heap) :=
  cl (k_geom_Class x1 h) fun t12 h0 =>
  (eqP (some (.int .i64)) none false .eql t12 (AV.int .i64 (-1))).bind fun t14 =>
  condE t14 (
  some (AV.tup [(AV.int .i64 0), (AV.int .i64 1)], h0)) (
  (nilV x0).bind fun t16 =>
  (faP 1 t16).bind fun t17 =>
  (ldS h0 t17).bind fun t18 =>
  (lnL t18).bind fun t19 =>
  lp (k_alloc_Alloc_Take_L0 x0 t12 t19 (AV.int .i64 0) (AV.int .i64 0) (AV.int .i64 0) h0) fun e vs h32 =>
  thenK (if e = .exit 0 then .normal else e) (
  lp (k_alloc_Alloc_Take_L1 x0 t12 (vs.getD 0 .bot) (vs.getD 1 .bot) (AV.int .i64 1) h32) fun e_38 vs_39 h40 =>
  thenK (if e_38 = .exit 2 then .normal else e_38) (
  (nilV x0).bind fun t92 =>
  (faP 1 t92).bind fun t93 =>
  (ldS h40 t93).bind fun t94 =>
  (lnL t94).bind fun t95 =>
  lp (k_alloc_Alloc_Take_L2 x0 t12 t94 t95 (vs_39.getD 0 .bot) (vs_39.getD 1 .bot) (AV.int .i64 0) h40) fun e_69 vs_70 h71 =>
  thenK (if e_69 = .exit 4 then .normal else e_69) (
  some (AV.tup [(AV.int .i64 0), (AV.int .i64 5)], h71)) (fun e_72 => endE e_72 (some (AV.tup [(vs_70.getD 0 .bot), (vs_70.getD 1 .bot)], h71)))) (fun e_73 => endE e_73 (some (AV.tup [(vs_39.getD 0 .bot), (vs_39.getD 1 .bot)], h40)))) (fun e_74 => endE e_74 (some (AV.tup [(vs.getD 0 .bot), (vs.getD 1 .bot)], h32))))
def T34 : Tab := (33, p2 k_alloc_Alloc_Take) :: T33
/- 81: gantline/gantlineref1.Words -/
def k_ref1_Words (x0 : AV) (h : Heap) : Option (AV × Heap) :=
  (binP .lss x0 (AV.int .i64 0)).bind fun t4 =>
  gQ (gdW t4 false) h (some (x0, h)) fun t6 h0 =>
  gQ (gdW t4 false) h0 ((binP .gtr t6 (AV.int .i64 5)).bind fun t7 =>
  some (t7, h0)) fun t7_1 h2 =>
  (pickP t4 (AV.bool true) t7_1).bind fun t8 =>
  condE t8 (
  some ((AV.int .i64 0), h2)) (
  mk Heap.new (bsP 1 [(AV.int .i64 0)] 6 [(0, (AV.int .i64 2)), (1, (AV.int .i64 4)), (2, (AV.int .i64 8)), (3, (AV.int .i64 16)), (4, (AV.int .i64 32)), (5, (AV.int .i64 64))]) h2 fun t9 h3 =>
  (iaS 1 t9 x0).bind fun t11 =>
  (ldS h3 t11).bind fun t12 =>
  some (t12, h3))
def T35 : Tab := (81, p1 k_ref1_Words) :: T34
/- 68: gantline/gantlineref1.Class -/
def k_ref1_Class_b0 (x0 : AV) (q2 : AV) (q3 : AV) (h0 : Heap) : OutV :=
  (binP .lss q3 (AV.int .i64 6)).bind fun t5 =>
  gQ (gdW t5 true) h0 (some (x0, h0)) fun t7 h1 =>
  gQ (gdW t5 true) h1 ((binP .geq t7 (AV.int .i64 1)).bind fun t8 =>
  some (t8, h1)) fun t8_2 h3 =>
  (pickP t5 t8_2 (AV.bool false)).bind fun t9 =>
  condE t9 (
  cl (k_ref1_Words q3 h3) fun t13 h4 =>
  (binP .geq t13 x0).bind fun t15 =>
  condE t15 (
  some (.ret, [q3, q3], h4)) (
  (binP .add q3 (AV.int .i64 1)).bind fun t11 =>
  some (.normal, [q2, t11], h4))) (
  some ((.exit 0), [q2, q3], h3))
def k_ref1_Class_L0 (x0 : AV) (q2 : AV) (q3 : AV) (h0 : Heap) : OutV := loopN (fun us g => k_ref1_Class_b0 x0 (us.getD 0 .bot) (us.getD 1 .bot) g) [q2, q3] h0
def k_ref1_Class (x0 : AV) (h : Heap) : Option (AV × Heap) :=
  lp (k_ref1_Class_L0 x0 (AV.int .i64 0) (AV.int .i64 0) h) fun e vs h5 =>
  thenK (if e = .exit 0 then .normal else e) (
  some ((AV.int .i64 (-1)), h5)) (fun e_6 => endE e_6 (some ((vs.getD 0 .bot), h5)))
def T36 : Tab := (68, p1 k_ref1_Class) :: T35
/- 55: gantline/gantlineref1.Span -/
def k_ref1_Span (x0 : AV) (h : Heap) : Option (AV × Heap) :=
  (binP .lss x0 (AV.int .i64 0)).bind fun t4 =>
  gQ (gdW t4 false) h (some (x0, h)) fun t6 h0 =>
  gQ (gdW t4 false) h0 ((binP .geq t6 (AV.int .i64 32768)).bind fun t7 =>
  some (t7, h0)) fun t7_1 h2 =>
  (pickP t4 (AV.bool true) t7_1).bind fun t8 =>
  condE t8 (
  some ((AV.int .i64 (-1)), h2)) (
  (binP .quo x0 (AV.int .i64 64)).bind fun t10 =>
  some (t10, h2))
def T37 : Tab := (55, p1 k_ref1_Span) :: T36
/- 88: (*gantline/gantlineref4.Arena).Sweep -/
def k_ref4_Arena_Sweep_j0 (q8 : AV) (q6_1 : AV) (q7_2 : AV) (q5_3 : AV) (h4 : Heap) : OutV :=
  (binP .add q8 (AV.int .i64 1)).bind fun t26 =>
  some (.normal, [q5_3, q6_1, q7_2, t26], h4)
def k_ref4_Arena_Sweep_j1 (x0 : AV) (q5 : AV) (q6 : AV) (q8 : AV) (q7_24 : AV) (h25 : Heap) : OutV :=
  (nilV x0).bind fun t57 =>
  (faP 1 t57).bind fun t58 =>
  (ldS h25 t58).bind fun t59 =>
  (iaS 3 t59 q8).bind fun t61 =>
  (ldA 3 h25 t61).bind fun t62 =>
  mk Heap.new (bsP 3 [(AV.int .i64 0), (AV.sl none 0 (.ex 0)), (AV.bool false)] 1 [(0, t62)]) h25 fun t63 h26 =>
  cl (appendA h26 3 40 q5 t63) fun t64 h27 =>
  k_ref4_Arena_Sweep_j0 q8 q6 q7_24 t64 h27
def k_ref4_Arena_Sweep_b0 (x0 : AV) (x1 : AV) (q5 : AV) (q6 : AV) (q7 : AV) (q8 : AV) (h0 : Heap) : OutV :=
  (nilV x0).bind fun t20 =>
  (faP 1 t20).bind fun t21 =>
  (ldS h0 t21).bind fun t22 =>
  (lnL t22).bind fun t23 =>
  (binP .lss q8 t23).bind fun t24 =>
  condE t24 (
  (nilV x0).bind fun t28 =>
  (faP 1 t28).bind fun t29 =>
  (ldS h0 t29).bind fun t30 =>
  (iaS 3 t30 q8).bind fun t32 =>
  (faP 0 t32).bind fun t33 =>
  (ldS h0 t33).bind fun t34 =>
  cl (k_ref1_Span t34 h0) fun t35 h5 =>
  (eqP (some (.int .i64)) none false .eql t35 x1).bind fun t37 =>
  gQ (gdW t37 true) h5 (some (x0, h5)) fun t40 h6 =>
  gQ (gdW t37 true) h6 ((nilV t40).bind fun t41 =>
  some (t41, h6)) fun t41_7 h8 =>
  gQ (gdW t37 true) h8 ((faP 1 t41_7).bind fun t42 =>
  some (t42, h8)) fun t42_9 h10 =>
  gQ (gdW t37 true) h10 ((ldS h10 t42_9).bind fun t43 =>
  some (t43, h10)) fun t43_11 h12 =>
  gQ (gdW t37 true) h12 (some (q8, h12)) fun t44 h13 =>
  gQ (gdW t37 true) h13 ((iaS 3 t43_11 t44).bind fun t45 =>
  some (t45, h13)) fun t45_14 h15 =>
  gQ (gdW t37 true) h15 ((faP 2 t45_14).bind fun t46 =>
  some (t46, h15)) fun t46_16 h17 =>
  gQ (gdW t37 true) h17 ((ldS h17 t46_16).bind fun t47 =>
  some (t47, h17)) fun t47_18 h19 =>
  gQ (gdW t37 true) h19 ((unA .not t47_18).bind fun t48 =>
  some (t48, h19)) fun t48_20 h21 =>
  (pickP t37 t48_20 (AV.bool false)).bind fun t49 =>
  condE t49 (
  (binP .add q6 (AV.int .i64 1)).bind fun t51 =>
  k_ref4_Arena_Sweep_j0 q8 t51 q7 q5 h21) (
  condE t37 (
  (binP .add q7 (AV.int .i64 1)).bind fun t54 =>
  k_ref4_Arena_Sweep_j1 x0 q5 q6 q8 t54 h21) (
  k_ref4_Arena_Sweep_j1 x0 q5 q6 q8 q7 h21))) (
  some ((.exit 0), [q5, q6, q7, q8], h0))
def k_ref4_Arena_Sweep_L0 (x0 : AV) (x1 : AV) (q5 : AV) (q6 : AV) (q7 : AV) (q8 : AV) (h0 : Heap) : OutV := loopN (fun us g => k_ref4_Arena_Sweep_b0 x0 x1 (us.getD 0 .bot) (us.getD 1 .bot) (us.getD 2 .bot) (us.getD 3 .bot) g) [q5, q6, q7, q8] h0
def k_ref4_Arena_Sweep (x0 : AV) (x1 : AV) (h : Heap) : Option (AV × Heap) :=
  (nilV x0).bind fun t11 =>
  (faP 0 t11).bind fun t12 =>
  (ldS h t12).bind fun t13 =>
  (iaS 1 t13 x1).bind fun t15 =>
  (ldS h t15).bind fun t16 =>
  (binP .lss t16 (AV.int .i64 0)).bind fun t17 =>
  condE t17 (
  some ((AV.int .i64 0), h)) (
  lp (k_ref4_Arena_Sweep_L0 x0 x1 (AV.sl none 0 (.ex 0)) (AV.int .i64 0) (AV.int .i64 0) (AV.int .i64 0) h) fun e vs h28 =>
  thenK (if e = .exit 0 then .normal else e) (
  (nilV x0).bind fun t67 =>
  (faP 1 t67).bind fun t68 =>
  cl (stP 1 h28 t68 (vs.getD 0 .bot)) fun u h29 =>
  (eqP (some (.int .i64)) none false .eql (vs.getD 2 .bot) (AV.int .i64 0)).bind fun t70 =>
  condE t70 (
  (nilV x0).bind fun t72 =>
  (faP 0 t72).bind fun t73 =>
  (ldS h29 t73).bind fun t74 =>
  (iaS 1 t74 x1).bind fun t76 =>
  cl (stP 1 h29 t76 (AV.int .i64 (-1))) fun u_31 h32 =>
  some ((vs.getD 1 .bot), h32)) (
  some ((vs.getD 1 .bot), h29))) (fun e_33 => endE e_33 (some ((AV.int .i64 0), h28))))
def T38 : Tab := (88, p2 k_ref4_Arena_Sweep) :: T37
/- 69: (*gantline/gantlineref4.Alloc).sweep -/
def k_ref4_Alloc_sweep (x0 : AV) (x1 : AV) (h : Heap) : Option (AV × Heap) :=
  (nilV x0).bind fun t6 =>
  (faP 1 t6).bind fun t7 =>
  (ldS h t7).bind fun t8 =>
  (iaS 1 t8 x1).bind fun t10 =>
  (ldS h t10).bind fun t11 =>
  (unA .not t11).bind fun t12 =>
  condE t12 (
  some ((AV.bool false), h)) (
  (nilV x0).bind fun t14 =>
  (faP 1 t14).bind fun t15 =>
  (ldS h t15).bind fun t16 =>
  (iaS 1 t16 x1).bind fun t18 =>
  cl (stP 1 h t18 (AV.bool false)) fun u h0 =>
  (nilV x0).bind fun t20 =>
  (faP 0 t20).bind fun t21 =>
  (ldS h0 t21).bind fun t22 =>
  cl (k_ref4_Arena_Sweep t22 x1 h0) fun t24 h1 =>
  some ((AV.bool true), h1))
def T39 : Tab := (69, p2 k_ref4_Alloc_sweep) :: T38
/- 89: gantline/gantlineref1.Places -/
def k_ref1_Places (x0 : AV) (h : Heap) : Option (AV × Heap) :=
  (binP .lss x0 (AV.int .i64 0)).bind fun t4 =>
  gQ (gdW t4 false) h (some (x0, h)) fun t6 h0 =>
  gQ (gdW t4 false) h0 ((binP .gtr t6 (AV.int .i64 5)).bind fun t7 =>
  some (t7, h0)) fun t7_1 h2 =>
  (pickP t4 (AV.bool true) t7_1).bind fun t8 =>
  condE t8 (
  some ((AV.int .i64 0), h2)) (
  cl (k_ref1_Words x0 h2) fun t10 h3 =>
  (binP .quo (AV.int .i64 64) t10).bind fun t11 =>
  some (t11, h3))
def T40 : Tab := (89, p1 k_ref1_Places) :: T39
/- 90: gantline/gantlineref1.Addr -/
def k_ref1_Addr (x0 : AV) (x1 : AV) (x2 : AV) (h : Heap) : Option (AV × Heap) :=
  (binP .lss x0 (AV.int .i64 1)).bind fun t8 =>
  gQ (gdW t8 false) h (some (x0, h)) fun t10 h0 =>
  gQ (gdW t8 false) h0 ((binP .gtr t10 (AV.int .i64 511)).bind fun t11 =>
  some (t11, h0)) fun t11_1 h2 =>
  (pickP t8 (AV.bool true) t11_1).bind fun t12 =>
  gQ (gdW t12 false) h2 (some (x1, h2)) fun t14 h3 =>
  gQ (gdW t12 false) h3 ((binP .lss t14 (AV.int .i64 0)).bind fun t15 =>
  some (t15, h3)) fun t15_4 h5 =>
  (pickP t12 (AV.bool true) t15_4).bind fun t16 =>
  gQ (gdW t16 false) h5 (some (x1, h5)) fun t18 h6 =>
  gQ (gdW t16 false) h6 (some (x2, h6)) fun t19 h7 =>
  gQ (gdW t16 false) h7 (cl (k_ref1_Places t19 h7) fun t20 h8 =>
  some (t20, h8)) fun t20_9 h10 =>
  gQ (gdW t16 false) h10 ((binP .geq t18 t20_9).bind fun t21 =>
  some (t21, h10)) fun t21_11 h12 =>
  (pickP t16 (AV.bool true) t21_11).bind fun t22 =>
  condE t22 (
  some ((AV.int .i64 0), h12)) (
  (binP .mul (AV.int .i64 64) x0).bind fun t24 =>
  cl (k_ref1_Words x2 h12) fun t27 h13 =>
  (binP .mul x1 t27).bind fun t28 =>
  (binP .add t24 t28).bind fun t29 =>
  some (t29, h13))
def T41 : Tab := (90, p3 k_ref1_Addr) :: T40
/- 38: (*gantline/gantlineref4.Arena).Find -/
def k_ref4_Arena_Find_b0 (x0 : AV) (x1 : AV) (q4 : AV) (q5 : AV) (h0 : Heap) : OutV :=
  (nilV x0).bind fun t8 =>
  (faP 1 t8).bind fun t9 =>
  (ldS h0 t9).bind fun t10 =>
  (lnL t10).bind fun t11 =>
  (binP .lss q5 t11).bind fun t12 =>
  condE t12 (
  (nilV x0).bind fun t16 =>
  (faP 1 t16).bind fun t17 =>
  (ldS h0 t17).bind fun t18 =>
  (iaS 3 t18 q5).bind fun t20 =>
  (faP 0 t20).bind fun t21 =>
  (ldS h0 t21).bind fun t22 =>
  (eqP (some (.int .i64)) none false .eql t22 x1).bind fun t24 =>
  condE t24 (
  some (.ret, [q5, q5], h0)) (
  (binP .add q5 (AV.int .i64 1)).bind fun t14 =>
  some (.normal, [q4, t14], h0))) (
  some ((.exit 0), [q4, q5], h0))
def k_ref4_Arena_Find_L0 (x0 : AV) (x1 : AV) (q4 : AV) (q5 : AV) (h0 : Heap) : OutV := loopN (fun us g => k_ref4_Arena_Find_b0 x0 x1 (us.getD 0 .bot) (us.getD 1 .bot) g) [q4, q5] h0
def k_ref4_Arena_Find (x0 : AV) (x1 : AV) (h : Heap) : Option (AV × Heap) :=
  lp (k_ref4_Arena_Find_L0 x0 x1 (AV.int .i64 0) (AV.int .i64 0) h) fun e vs h1 =>
  thenK (if e = .exit 0 then .normal else e) (
  some ((AV.int .i64 (-1)), h1)) (fun e_2 => endE e_2 (some ((vs.getD 0 .bot), h1)))
def T42 : Tab := (38, p2 k_ref4_Arena_Find) :: T41
/- 70: (*gantline/gantlineref4.Arena).Take -/
def k_ref4_Arena_Take_b0 (x0 : AV) (t26 : AV) (q8 : AV) (h4 : Heap) : OutV :=
  (nilV x0).bind fun t33 =>
  (faP 1 t33).bind fun t34 =>
  (ldS h4 t34).bind fun t35 =>
  (lnL t35).bind fun t36 =>
  (binP .lss q8 t36).bind fun t37 =>
  gQ (gdW t37 true) h4 (some (x0, h4)) fun t39 h5 =>
  gQ (gdW t37 true) h5 ((nilV t39).bind fun t40 =>
  some (t40, h5)) fun t40_6 h7 =>
  gQ (gdW t37 true) h7 ((faP 1 t40_6).bind fun t41 =>
  some (t41, h7)) fun t41_8 h9 =>
  gQ (gdW t37 true) h9 ((ldS h9 t41_8).bind fun t42 =>
  some (t42, h9)) fun t42_10 h11 =>
  gQ (gdW t37 true) h11 (some (q8, h11)) fun t43 h12 =>
  gQ (gdW t37 true) h12 ((iaS 3 t42_10 t43).bind fun t44 =>
  some (t44, h12)) fun t44_13 h14 =>
  gQ (gdW t37 true) h14 ((faP 0 t44_13).bind fun t45 =>
  some (t45, h14)) fun t45_15 h16 =>
  gQ (gdW t37 true) h16 ((ldS h16 t45_15).bind fun t46 =>
  some (t46, h16)) fun t46_17 h18 =>
  gQ (gdW t37 true) h18 (some (t26, h18)) fun t47 h19 =>
  gQ (gdW t37 true) h19 ((binP .lss t46_17 t47).bind fun t48 =>
  some (t48, h19)) fun t48_20 h21 =>
  (pickP t37 t48_20 (AV.bool false)).bind fun t49 =>
  condE t49 (
  (binP .add q8 (AV.int .i64 1)).bind fun t51 =>
  some (.normal, [t51], h21)) (
  some ((.exit 2), [q8], h21))
def k_ref4_Arena_Take_L0 (x0 : AV) (t26 : AV) (q8 : AV) (h4 : Heap) : OutV := loopN (fun us g => k_ref4_Arena_Take_b0 x0 t26 (us.getD 0 .bot) g) [q8] h4
def k_ref4_Arena_Take_b1 (x0 : AV) (x1 : AV) (t16 : AV) (q4 : AV) (q6 : AV) (h0 : Heap) : OutV :=
  cl (k_ref1_Places t16 h0) fun t19 h1 =>
  (binP .lss q6 t19).bind fun t20 =>
  condE t20 (
  cl (k_ref1_Addr x1 q6 t16 h1) fun t26 h2 =>
  cl (k_ref4_Arena_Find x0 t26 h2) fun t29 h3 =>
  (binP .lss t29 (AV.int .i64 0)).bind fun t30 =>
  condE t30 (
  lp (k_ref4_Arena_Take_L0 x0 t26 (AV.int .i64 0) h3) fun e vs h22 =>
  thenK (if e = .exit 2 then .normal else e) (
  mk Heap.new (bsP 3 [(AV.int .i64 0), (AV.sl none 0 (.ex 0)), (AV.bool false)] 0 []) h22 fun t52 h23 =>
  (nilV x0).bind fun t54 =>
  (faP 1 t54).bind fun t55 =>
  (ldS h23 t55).bind fun t56 =>
  (slcP 3 t56 none (some (vs.getD 0 .bot)) none).bind fun t58 =>
  cl (appendA h23 3 40 t52 t58) fun t59 h24 =>
  cl (k_ref1_Words t16 h24) fun t63 h25 =>
  mk Heap.new (msP 1 8 [(AV.int .i64 0)] t63 t63) h25 fun t64 h26 =>
  (bldS [(0, 1), (1, 1), (2, 1)] [(AV.int .i64 0), (AV.sl none 0 (.ex 0)), (AV.bool false)] [(0, t26), (1, t64)]).bind fun t65 =>
  mk Heap.new (bsP 3 [(AV.int .i64 0), (AV.sl none 0 (.ex 0)), (AV.bool false)] 1 [(0, t65)]) h26 fun t66 h27 =>
  cl (appendA h27 3 40 t59 t66) fun t67 h28 =>
  (nilV x0).bind fun t71 =>
  (faP 1 t71).bind fun t72 =>
  (ldS h28 t72).bind fun t73 =>
  (slcP 3 t73 (some (vs.getD 0 .bot)) none none).bind fun t75 =>
  cl (appendA h28 3 40 t67 t75) fun t76 h29 =>
  (nilV x0).bind fun t77 =>
  (faP 1 t77).bind fun t78 =>
  cl (stP 1 h29 t78 t76) fun u h30 =>
  some (.ret, [t26, q6], h30)) (fun e_31 => thenK (if e_31 = .exit 1 then .normal else e_31) (
  (binP .add q6 (AV.int .i64 1)).bind fun t22 =>
  some (.normal, [q4, t22], h22)) (fun e_32 => some (e_32, [q4, q6], h22)))) (
  (binP .add q6 (AV.int .i64 1)).bind fun t22_33 =>
  some (.normal, [q4, t22_33], h3))) (
  some ((.exit 0), [q4, q6], h1))
def k_ref4_Arena_Take_L1 (x0 : AV) (x1 : AV) (t16 : AV) (q4 : AV) (q6 : AV) (h0 : Heap) : OutV := loopN (fun us g => k_ref4_Arena_Take_b1 x0 x1 t16 (us.getD 0 .bot) (us.getD 1 .bot) g) [q4, q6] h0
def k_ref4_Arena_Take (x0 : AV) (x1 : AV) (h : Heap) : Option (AV × Heap) :=
  (nilV x0).bind fun t11 =>
  (faP 0 t11).bind fun t12 =>
  (ldS h t12).bind fun t13 =>
  (iaS 1 t13 x1).bind fun t15 =>
  (ldS h t15).bind fun t16 =>
  lp (k_ref4_Arena_Take_L1 x0 x1 t16 (AV.int .i64 0) (AV.int .i64 0) h) fun e_34 vs_35 h36 =>
  thenK (if e_34 = .exit 0 then .normal else e_34) (
  some ((AV.int .i64 0), h36)) (fun e_37 => endE e_37 (some ((vs_35.getD 0 .bot), h36)))
def T43 : Tab := (70, p2 k_ref4_Arena_Take) :: T42
/- 71: (*gantline/gantlineref4.Alloc).give -/
def k_ref4_Alloc_give (x0 : AV) (x1 : AV) (x2 : AV) (h : Heap) : Option (AV × Heap) :=
  (nilV x0).bind fun t8 =>
  (faP 0 t8).bind fun t9 =>
  (ldS h t9).bind fun t10 =>
  (nilV t10).bind fun t11 =>
  (faP 0 t11).bind fun t12 =>
  (ldS h t12).bind fun t13 =>
  (iaS 1 t13 x1).bind fun t16 =>
  cl (stP 1 h t16 x2) fun u h0 =>
  (nilV x0).bind fun t18 =>
  (faP 1 t18).bind fun t19 =>
  (ldS h0 t19).bind fun t20 =>
  (iaS 1 t20 x1).bind fun t22 =>
  cl (stP 1 h0 t22 (AV.bool false)) fun u_1 h2 =>
  (nilV x0).bind fun t24 =>
  (faP 0 t24).bind fun t25 =>
  (ldS h2 t25).bind fun t26 =>
  cl (k_ref4_Arena_Take t26 x1 h2) fun t28 h3 =>
  some (t28, h3)
def T44 : Tab := (71, p3 k_ref4_Alloc_give) :: T43
/- 35: (*gantline/gantlineref4.Alloc).Take -/
def k_ref4_Alloc_Take_b0 (x0 : AV) (t11 : AV) (q4 : AV) (q6 : AV) (h1 : Heap) : OutV :=
  (nilV x0).bind fun t14 =>
  (faP 0 t14).bind fun t15 =>
  (ldS h1 t15).bind fun t16 =>
  (nilV t16).bind fun t17 =>
  (faP 0 t17).bind fun t18 =>
  (ldS h1 t18).bind fun t19 =>
  (lnL t19).bind fun t20 =>
  (binP .lss q6 t20).bind fun t21 =>
  condE t21 (
  (nilV x0).bind fun t25 =>
  (faP 0 t25).bind fun t26 =>
  (ldS h1 t26).bind fun t27 =>
  (nilV t27).bind fun t28 =>
  (faP 0 t28).bind fun t29 =>
  (ldS h1 t29).bind fun t30 =>
  (iaS 1 t30 q6).bind fun t32 =>
  (ldS h1 t32).bind fun t33 =>
  (eqP (some (.int .i64)) none false .neq t33 t11).bind fun t35 =>
  condE t35 (
  (binP .add q6 (AV.int .i64 1)).bind fun t23_4 =>
  some (.normal, [q4, t23_4], h1)) (
  cl (k_ref4_Alloc_sweep x0 q6 h1) fun t38 h5 =>
  (nilV x0).bind fun t40 =>
  (faP 0 t40).bind fun t41 =>
  (ldS h5 t41).bind fun t42 =>
  (nilV t42).bind fun t43 =>
  (faP 0 t43).bind fun t44 =>
  (ldS h5 t44).bind fun t45 =>
  (iaS 1 t45 q6).bind fun t47 =>
  (ldS h5 t47).bind fun t48 =>
  (eqP (some (.int .i64)) none false .eql t48 t11).bind fun t50 =>
  condE t50 (
  (nilV x0).bind fun t52 =>
  (faP 0 t52).bind fun t53 =>
  (ldS h5 t53).bind fun t54 =>
  cl (k_ref4_Arena_Take t54 q6 h5) fun t56 h19 =>
  (eqP (some (.int .i64)) none false .neq t56 (AV.int .i64 0)).bind fun t58 =>
  condE t58 (
  some (.ret, [t56, q6], h19)) (
  (binP .add q6 (AV.int .i64 1)).bind fun t23_20 =>
  some (.normal, [q4, t23_20], h19))) (
  (binP .add q6 (AV.int .i64 1)).bind fun t23_21 =>
  some (.normal, [q4, t23_21], h5)))) (
  some ((.exit 0), [q4, q6], h1))
def k_ref4_Alloc_Take_L0 (x0 : AV) (t11 : AV) (q4 : AV) (q6 : AV) (h1 : Heap) : OutV := loopN (fun us g => k_ref4_Alloc_Take_b0 x0 t11 (us.getD 0 .bot) (us.getD 1 .bot) g) [q4, q6] h1
def k_ref4_Alloc_Take_b1 (x0 : AV) (t11 : AV) (q4_23 : AV) (q8 : AV) (h24 : Heap) : OutV :=
  (nilV x0).bind fun t62 =>
  (faP 0 t62).bind fun t63 =>
  (ldS h24 t63).bind fun t64 =>
  (nilV t64).bind fun t65 =>
  (faP 0 t65).bind fun t66 =>
  (ldS h24 t66).bind fun t67 =>
  (lnL t67).bind fun t68 =>
  (binP .lss q8 t68).bind fun t69 =>
  condE t69 (
  (nilV x0).bind fun t73 =>
  (faP 0 t73).bind fun t74 =>
  (ldS h24 t74).bind fun t75 =>
  (nilV t75).bind fun t76 =>
  (faP 0 t76).bind fun t77 =>
  (ldS h24 t77).bind fun t78 =>
  (iaS 1 t78 q8).bind fun t80 =>
  (ldS h24 t80).bind fun t81 =>
  (binP .lss t81 (AV.int .i64 0)).bind fun t82 =>
  condE t82 (
  cl (k_ref4_Alloc_give x0 q8 t11 h24) fun t86 h25 =>
  some (.ret, [t86, q8], h25)) (
  (binP .add q8 (AV.int .i64 1)).bind fun t71 =>
  some (.normal, [q4_23, t71], h24))) (
  some ((.exit 2), [q4_23, q8], h24))
def k_ref4_Alloc_Take_L1 (x0 : AV) (t11 : AV) (q4_23 : AV) (q8 : AV) (h24 : Heap) : OutV := loopN (fun us g => k_ref4_Alloc_Take_b1 x0 t11 (us.getD 0 .bot) (us.getD 1 .bot) g) [q4_23, q8] h24
def k_ref4_Alloc_Take_b2 (x0 : AV) (t11 : AV) (q4_29 : AV) (q9 : AV) (h30 : Heap) : OutV :=
  (nilV x0).bind fun t89 =>
  (faP 0 t89).bind fun t90 =>
  (ldS h30 t90).bind fun t91 =>
  (nilV t91).bind fun t92 =>
  (faP 0 t92).bind fun t93 =>
  (ldS h30 t93).bind fun t94 =>
  (lnL t94).bind fun t95 =>
  (binP .lss q9 t95).bind fun t96 =>
  condE t96 (
  cl (k_ref4_Alloc_sweep x0 q9 h30) fun t101 h31 =>
  gQ (gdW t101 true) h31 (some (x0, h31)) fun t103 h32 =>
  gQ (gdW t101 true) h32 ((nilV t103).bind fun t104 =>
  some (t104, h32)) fun t104_33 h34 =>
  gQ (gdW t101 true) h34 ((faP 0 t104_33).bind fun t105 =>
  some (t105, h34)) fun t105_35 h36 =>
  gQ (gdW t101 true) h36 ((ldS h36 t105_35).bind fun t106 =>
  some (t106, h36)) fun t106_37 h38 =>
  gQ (gdW t101 true) h38 ((nilV t106_37).bind fun t107 =>
  some (t107, h38)) fun t107_39 h40 =>
  gQ (gdW t101 true) h40 ((faP 0 t107_39).bind fun t108 =>
  some (t108, h40)) fun t108_41 h42 =>
  gQ (gdW t101 true) h42 ((ldS h42 t108_41).bind fun t109 =>
  some (t109, h42)) fun t109_43 h44 =>
  gQ (gdW t101 true) h44 (some (q9, h44)) fun t110 h45 =>
  gQ (gdW t101 true) h45 ((iaS 1 t109_43 t110).bind fun t111 =>
  some (t111, h45)) fun t111_46 h47 =>
  gQ (gdW t101 true) h47 ((ldS h47 t111_46).bind fun t112 =>
  some (t112, h47)) fun t112_48 h49 =>
  gQ (gdW t101 true) h49 ((binP .lss t112_48 (AV.int .i64 0)).bind fun t113 =>
  some (t113, h49)) fun t113_50 h51 =>
  (pickP t101 t113_50 (AV.bool false)).bind fun t114 =>
  condE t114 (
  cl (k_ref4_Alloc_give x0 q9 t11 h51) fun t118 h52 =>
  some (.ret, [t118, q9], h52)) (
  (binP .add q9 (AV.int .i64 1)).bind fun t98 =>
  some (.normal, [q4_29, t98], h51))) (
  some ((.exit 4), [q4_29, q9], h30))
def k_ref4_Alloc_Take_L2 (x0 : AV) (t11 : AV) (q4_29 : AV) (q9 : AV) (h30 : Heap) : OutV := loopN (fun us g => k_ref4_Alloc_Take_b2 x0 t11 (us.getD 0 .bot) (us.getD 1 .bot) g) [q4_29, q9] h30
def k_ref4_Alloc_Take (x0 : AV) (x1 : AV) (h : Heap) : Option (AV × Heap) :=
  cl (k_ref1_Class x1 h) fun t11 h0 =>
  lp (k_ref4_Alloc_Take_L0 x0 t11 (AV.int .i64 0) (AV.int .i64 1) h0) fun e vs h22 =>
  thenK (if e = .exit 0 then .normal else e) (
  lp (k_ref4_Alloc_Take_L1 x0 t11 (vs.getD 0 .bot) (AV.int .i64 1) h22) fun e_26 vs_27 h28 =>
  thenK (if e_26 = .exit 2 then .normal else e_26) (
  lp (k_ref4_Alloc_Take_L2 x0 t11 (vs_27.getD 0 .bot) (AV.int .i64 1) h28) fun e_53 vs_54 h55 =>
  thenK (if e_53 = .exit 4 then .normal else e_53) (
  some ((AV.int .i64 0), h55)) (fun e_56 => endE e_56 (some ((vs_54.getD 0 .bot), h55)))) (fun e_57 => endE e_57 (some ((vs_27.getD 0 .bot), h28)))) (fun e_58 => endE e_58 (some ((vs.getD 0 .bot), h22)))
def T45 : Tab := (35, p2 k_ref4_Alloc_Take) :: T44
/- 72: gantline/head.may -/
def k_head_may (x0 : AV) (h : Heap) : Option (AV × Heap) :=
  mk Heap.new (bxP x0) h fun t1 h0 =>
  (faP 0 t1).bind fun t3 =>
  (ldS h0 t3).bind fun t4 =>
  (binP .geq t4 (AV.int .i64 1)).bind fun t5 =>
  gQ (gdW t5 true) h0 ((faP 0 t1).bind fun t7 =>
  some (t7, h0)) fun t7_1 h2 =>
  gQ (gdW t5 true) h2 ((ldS h2 t7_1).bind fun t8 =>
  some (t8, h2)) fun t8_3 h4 =>
  gQ (gdW t5 true) h4 ((binP .leq t8_3 (AV.int .i64 64)).bind fun t9 =>
  some (t9, h4)) fun t9_5 h6 =>
  (pickP t5 t9_5 (AV.bool false)).bind fun t10 =>
  gQ (gdW t10 true) h6 ((faP 1 t1).bind fun t12 =>
  some (t12, h6)) fun t12_7 h8 =>
  gQ (gdW t10 true) h8 ((ldS h8 t12_7).bind fun t13 =>
  some (t13, h8)) fun t13_9 h10 =>
  gQ (gdW t10 true) h10 ((binP .geq t13_9 (AV.int .i64 0)).bind fun t14 =>
  some (t14, h10)) fun t14_11 h12 =>
  (pickP t10 t14_11 (AV.bool false)).bind fun t15 =>
  gQ (gdW t15 true) h12 ((faP 1 t1).bind fun t17 =>
  some (t17, h12)) fun t17_13 h14 =>
  gQ (gdW t15 true) h14 ((ldS h14 t17_13).bind fun t18 =>
  some (t18, h14)) fun t18_15 h16 =>
  gQ (gdW t15 true) h16 ((binP .leq t18_15 (AV.int .i64 3)).bind fun t19 =>
  some (t19, h16)) fun t19_17 h18 =>
  (pickP t15 t19_17 (AV.bool false)).bind fun t20 =>
  gQ (gdW t20 true) h18 ((faP 2 t1).bind fun t22 =>
  some (t22, h18)) fun t22_19 h20 =>
  gQ (gdW t20 true) h20 ((ldS h20 t22_19).bind fun t23 =>
  some (t23, h20)) fun t23_21 h22 =>
  gQ (gdW t20 true) h22 ((binP .geq t23_21 (AV.int .i64 0)).bind fun t24 =>
  some (t24, h22)) fun t24_23 h24 =>
  (pickP t20 t24_23 (AV.bool false)).bind fun t25 =>
  gQ (gdW t25 true) h24 ((faP 2 t1).bind fun t27 =>
  some (t27, h24)) fun t27_25 h26 =>
  gQ (gdW t25 true) h26 ((ldS h26 t27_25).bind fun t28 =>
  some (t28, h26)) fun t28_27 h28 =>
  gQ (gdW t25 true) h28 ((binP .lss t28_27 (AV.int .i64 65536)).bind fun t29 =>
  some (t29, h28)) fun t29_29 h30 =>
  (pickP t25 t29_29 (AV.bool false)).bind fun t30 =>
  some (t30, h30)
def T46 : Tab := (72, p1 k_head_may) :: T45
/- 36: gantline/head.Pack -/
def k_head_Pack (x0 : AV) (h : Heap) : Option (AV × Heap) :=
  mk Heap.new (bxP x0) h fun t1 h0 =>
  (ldA 3 h0 t1).bind fun t5 =>
  cl (k_head_may t5 h0) fun t6 h1 =>
  (unA .not t6).bind fun t7 =>
  condE t7 (
  some (AV.tup [(AV.int .i64 0), (AV.int .i64 1)], h1)) (
  (faP 0 t1).bind fun t8 =>
  (ldS h1 t8).bind fun t9 =>
  (cvI .u64 t9).bind fun t10 =>
  (faP 1 t1).bind fun t11 =>
  (ldS h1 t11).bind fun t12 =>
  (cvI .u64 t12).bind fun t13 =>
  cl (k_bits_With t10 (AV.int .i64 7) (AV.int .i64 3) t13 h1) fun t14 h2 =>
  (faP 2 t1).bind fun t16 =>
  (ldS h2 t16).bind fun t17 =>
  (cvI .u64 t17).bind fun t18 =>
  cl (k_bits_With t14 (AV.int .i64 10) (AV.int .i64 16) t18 h2) fun t19 h3 =>
  (cvI .i64 t19).bind fun t20 =>
  some (AV.tup [t20, (AV.int .i64 0)], h3))
def T47 : Tab := (36, p1 k_head_Pack) :: T46
/- 45: gantline/geom.Span -/
def k_geom_Span (x0 : AV) (h : Heap) : Option (AV × Heap) :=
  (binP .lss x0 (AV.int .i64 0)).bind fun t4 =>
  gQ (gdW t4 false) h (some (x0, h)) fun t6 h0 =>
  gQ (gdW t4 false) h0 ((binP .geq t6 (AV.int .i64 32768)).bind fun t7 =>
  some (t7, h0)) fun t7_1 h2 =>
  (pickP t4 (AV.bool true) t7_1).bind fun t8 =>
  condE t8 (
  some ((AV.int .i64 (-1)), h2)) (
  (binP .quo x0 (AV.int .i64 64)).bind fun t10 =>
  some (t10, h2))
def T48 : Tab := (45, p1 k_geom_Span) :: T47
/- 82: gantline/geom.Place -/
def k_geom_Place (x0 : AV) (x1 : AV) (h : Heap) : Option (AV × Heap) :=
  cl (k_geom_Words x1 h) fun t7 h0 =>
  (eqP (some (.int .i64)) none false .eql t7 (AV.int .i64 0)).bind fun t8 =>
  gQ (gdW t8 false) h0 (some (x0, h0)) fun t10 h1 =>
  gQ (gdW t8 false) h1 (cl (k_geom_Span t10 h1) fun t11 h2 =>
  some (t11, h2)) fun t11_3 h4 =>
  gQ (gdW t8 false) h4 ((eqP (some (.int .i64)) none false .eql t11_3 (AV.int .i64 (-1))).bind fun t12 =>
  some (t12, h4)) fun t12_5 h6 =>
  (pickP t8 (AV.bool true) t12_5).bind fun t13 =>
  condE t13 (
  some ((AV.int .i64 (-1)), h6)) (
  (binP .rem x0 (AV.int .i64 64)).bind fun t15 =>
  cl (k_geom_Words x1 h6) fun t18 h7 =>
  (binP .rem t15 t18).bind fun t19 =>
  (eqP (some (.int .i64)) none false .neq t19 (AV.int .i64 0)).bind fun t20 =>
  condE t20 (
  some ((AV.int .i64 (-1)), h7)) (
  cl (k_geom_Words x1 h7) fun t23 h8 =>
  (binP .quo t15 t23).bind fun t24 =>
  some (t24, h8)))
def T49 : Tab := (82, p2 k_geom_Place) :: T48
/- 57: (*gantline/arena.Arena).find -/
def k_arena_Arena_find (x0 : AV) (x1 : AV) (h : Heap) : Option (AV × Heap) :=
  cl (k_geom_Span x1 h) fun t10 h0 =>
  cl (k_arena_Arena_Class x0 t10 h0) fun t13 h1 =>
  cl (k_geom_Place x1 t13 h1) fun t16 h2 =>
  (binP .lss t16 (AV.int .i64 0)).bind fun t18 =>
  gQ (gdW t18 false) h2 (some (x0, h2)) fun t20 h3 =>
  gQ (gdW t18 false) h3 ((nilV t20).bind fun t21 =>
  some (t21, h3)) fun t21_4 h5 =>
  gQ (gdW t18 false) h5 ((faP 1 t21_4).bind fun t22 =>
  some (t22, h5)) fun t22_6 h7 =>
  gQ (gdW t18 false) h7 ((ldS h7 t22_6).bind fun t23 =>
  some (t23, h7)) fun t23_8 h9 =>
  gQ (gdW t18 false) h9 (some (t10, h9)) fun t24 h10 =>
  gQ (gdW t18 false) h10 ((iaS 3 t23_8 t24).bind fun t25 =>
  some (t25, h10)) fun t25_11 h12 =>
  gQ (gdW t18 false) h12 ((faP 1 t25_11).bind fun t26 =>
  some (t26, h12)) fun t26_13 h14 =>
  gQ (gdW t18 false) h14 ((ldS h14 t26_13).bind fun t27 =>
  some (t27, h14)) fun t27_15 h16 =>
  gQ (gdW t18 false) h16 (some (t16, h16)) fun t28 h17 =>
  gQ (gdW t18 false) h17 ((cvI .u64 t28).bind fun t29 =>
  some (t29, h17)) fun t29_18 h19 =>
  gQ (gdW t18 false) h19 ((binP .shr t27_15 t29_18).bind fun t30 =>
  some (t30, h19)) fun t30_20 h21 =>
  gQ (gdW t18 false) h21 ((binP .and t30_20 (AV.int .u64 1)).bind fun t31 =>
  some (t31, h21)) fun t31_22 h23 =>
  gQ (gdW t18 false) h23 ((eqP (some (.int .u64)) none false .eql t31_22 (AV.int .u64 0)).bind fun t32 =>
  some (t32, h23)) fun t32_24 h25 =>
  (pickP t18 (AV.bool true) t32_24).bind fun t33 =>
  condE t33 (
  some (AV.tup [(AV.ptr none), (AV.int .u64 0)], h25)) (
  (nilV x0).bind fun t35 =>
  (faP 1 t35).bind fun t36 =>
  (ldS h25 t36).bind fun t37 =>
  (iaS 3 t37 t10).bind fun t39 =>
  (cvI .u64 t16).bind fun t41 =>
  (binP .shl (AV.int .u64 1) t41).bind fun t42 =>
  some (AV.tup [t39, t42], h25))
def T50 : Tab := (57, p2 k_arena_Arena_find) :: T49
/- 74: (*gantline/arena.Arena).word -/
def k_arena_Arena_word (x0 : AV) (x1 : AV) (x2 : AV) (h : Heap) : Option (AV × Heap) :=
  cl (k_arena_Arena_find x0 x1 h) fun t12 h0 =>
  (extractV 0 t12).bind fun t13 =>
  (extractV 1 t12).bind fun t14 =>
  (eqP (some (.pointer 0)) none false .eql t13 (AV.ptr none)).bind fun t16 =>
  gQ (gdW t16 false) h0 (some (x2, h0)) fun t18 h1 =>
  gQ (gdW t16 false) h1 ((binP .lss t18 (AV.int .i64 0)).bind fun t19 =>
  some (t19, h1)) fun t19_2 h3 =>
  (pickP t16 (AV.bool true) t19_2).bind fun t20 =>
  gQ (gdW t20 false) h3 (some (x2, h3)) fun t22 h4 =>
  gQ (gdW t20 false) h4 (some (t13, h4)) fun t23 h5 =>
  gQ (gdW t20 false) h5 ((nilV t23).bind fun t24 =>
  some (t24, h5)) fun t24_6 h7 =>
  gQ (gdW t20 false) h7 ((faP 0 t24_6).bind fun t25 =>
  some (t25, h7)) fun t25_8 h9 =>
  gQ (gdW t20 false) h9 ((ldS h9 t25_8).bind fun t26 =>
  some (t26, h9)) fun t26_10 h11 =>
  gQ (gdW t20 false) h11 (cl (k_geom_Words t26_10 h11) fun t27 h12 =>
  some (t27, h12)) fun t27_13 h14 =>
  gQ (gdW t20 false) h14 ((binP .geq t22 t27_13).bind fun t28 =>
  some (t28, h14)) fun t28_15 h16 =>
  (pickP t20 (AV.bool true) t28_15).bind fun t29 =>
  condE t29 (
  some ((AV.ptr none), h16)) (
  (nilV x0).bind fun t31 =>
  (faP 0 t31).bind fun t32 =>
  (ldS h16 t32).bind fun t33 =>
  (binP .add x1 x2).bind fun t36 =>
  (iaS 1 t33 t36).bind fun t37 =>
  some (t37, h16))
def T51 : Tab := (74, p3 k_arena_Arena_word) :: T50
/- 37: (*gantline/arena.Arena).Write -/
def k_arena_Arena_Write (x0 : AV) (x1 : AV) (x2 : AV) (x3 : AV) (h : Heap) : Option (AV × Heap) :=
  cl (k_arena_Arena_word x0 x1 x2 h) fun t13 h0 =>
  (eqP (some (.pointer 0)) none false .eql t13 (AV.ptr none)).bind fun t15 =>
  condE t15 (
  some ((AV.int .i64 1), h0)) (
  (nilV t13).bind fun t18 =>
  cl (stP 1 h0 t18 x3) fun u h1 =>
  some ((AV.int .i64 0), h1))
def T52 : Tab := (37, p4 k_arena_Arena_Write) :: T51
/- 8: gantline/gantlinelaw7.put -/
def k_law7_put (x0 : AV) (x1 : AV) (x2 : AV) (x3 : AV) (x4 : AV) (h : Heap) : Option (AV × Heap) :=
  cl (k_arena_Arena_Write x0 x2 x3 x4 h) fun t15 h0 =>
  cl (k_ref4_Arena_Find x1 x2 h0) fun t18 h1 =>
  (binP .geq t18 (AV.int .i64 0)).bind fun t20 =>
  condE t20 (
  (nilV x1).bind fun t22 =>
  (faP 1 t22).bind fun t23 =>
  (ldS h1 t23).bind fun t24 =>
  (iaS 3 t24 t18).bind fun t26 =>
  (faP 1 t26).bind fun t27 =>
  (ldS h1 t27).bind fun t28 =>
  (iaS 1 t28 x3).bind fun t31 =>
  cl (stP 1 h1 t31 x4) fun u h3 =>
  some (AV.tup [], h3)) (
  some (AV.tup [], h1))
def T53 : Tab := (8, p5 k_law7_put) :: T52
/- 7: gantline/gantlinelaw7.world -/
def k_law7_world_b0 (t39 : AV) (t46 : AV) (t54 : AV) (q16 : AV) (h11 : Heap) : OutV :=
  (lnL t54).bind fun t57 =>
  (binP .lss q16 t57).bind fun t58 =>
  condE t58 (
  (iaS 3 t54 q16).bind fun t64 =>
  (ldA 3 h11 t64).bind fun t65 =>
  cl (k_head_Table_Number t39 t65 h11) fun t66 h12 =>
  (iaS 3 t54 q16).bind fun t70 =>
  (faP 0 t70).bind fun t71 =>
  (ldS h12 t71).bind fun t72 =>
  (iaS 3 t54 q16).bind fun t75 =>
  (faP 1 t75).bind fun t76 =>
  (ldS h12 t76).bind fun t77 =>
  (iaS 3 t54 q16).bind fun t80 =>
  (faP 2 t80).bind fun t81 =>
  (ldS h12 t81).bind fun t82 =>
  (bldS [(0, 1), (1, 1), (2, 1)] [(AV.int .i64 0), (AV.int .i64 0), (AV.int .u64 0)] [(0, t72), (1, t77), (2, t82)]).bind fun t83 =>
  cl (k_ref4_Marker_Number t46 t83 h12) fun t84 h13 =>
  chk [h12, h13] [] (
  (binP .add q16 (AV.int .i64 1)).bind fun t60 =>
  some (.normal, [t60], h13))) (
  some ((.exit 0), [q16], h11))
def k_law7_world_L0 (t39 : AV) (t46 : AV) (t54 : AV) (q16 : AV) (h11 : Heap) : OutV := loopN (fun us g => k_law7_world_b0 t39 t46 t54 (us.getD 0 .bot) g) [q16] h11
def k_law7_world_j0 (q4 : AV) (q5 : AV) (q6 : AV) (q7 : AV) (q17 : AV) (q18 : AV) (q19 : AV) (h20 : Heap) : OutV :=
  mk Heap.new (bsP 1 [(AV.int .i64 0)] 1 [(0, q19)]) h20 fun t115 h21 =>
  cl (appendA h21 1 8 q17 t115) fun t116 h22 =>
  (binP .add q18 (AV.int .i64 1)).bind fun t90 =>
  some (.normal, [q4, q5, q6, q7, t116, t90], h22)
def k_law7_world_b1 (x1 : AV) (t48 : AV) (t53 : AV) (q4 : AV) (q5 : AV) (q6 : AV) (q7 : AV) (q17 : AV) (q18 : AV) (h15 : Heap) : OutV :=
  (lnL x1).bind fun t87 =>
  (binP .lss q18 t87).bind fun t88 =>
  condE t88 (
  (iaS 3 x1 q18).bind fun t95 =>
  (ldA 3 h15 t95).bind fun t96 =>
  cl (k_law7_size t96 h15) fun t97 h16 =>
  cl (k_alloc_Alloc_Take t48 t97 h16) fun t98 h17 =>
  (extractV 0 t98).bind fun t99 =>
  (extractV 1 t98).bind fun t100 =>
  (iaS 3 x1 q18).bind fun t104 =>
  (ldA 3 h17 t104).bind fun t105 =>
  cl (k_law7_size t105 h17) fun t106 h18 =>
  cl (k_ref4_Alloc_Take t53 t106 h18) fun t107 h19 =>
  (eqP (some (.int .i64)) none false .neq t99 t107).bind fun t110 =>
  condE t110 (
  some (.ret, [(AV.ptr none), (AV.ptr none), (AV.ptr none), (AV.sl none 0 (.ex 0)), q17, q18], h19)) (
  (eqP (some (.int .i64)) none false .neq t100 (AV.int .i64 0)).bind fun t112 =>
  condE t112 (
  k_law7_world_j0 q4 q5 q6 q7 q17 q18 (AV.int .i64 0) h19) (
  k_law7_world_j0 q4 q5 q6 q7 q17 q18 t99 h19))) (
  some ((.exit 2), [q4, q5, q6, q7, q17, q18], h15))
def k_law7_world_L1 (x1 : AV) (t48 : AV) (t53 : AV) (q4 : AV) (q5 : AV) (q6 : AV) (q7 : AV) (q17 : AV) (q18 : AV) (h15 : Heap) : OutV := loopN (fun us g => k_law7_world_b1 x1 t48 t53 (us.getD 0 .bot) (us.getD 1 .bot) (us.getD 2 .bot) (us.getD 3 .bot) (us.getD 4 .bot) (us.getD 5 .bot) g) [q4, q5, q6, q7, q17, q18] h15
def k_law7_world_j1 (t31 : AV) (t46 : AV) (vs_24 : List AV) (q22 : AV) (q26_32 : AV) (q27_77 : AV) (h78 : Heap) : OutV :=
  (nilV t46).bind fun t225 =>
  (faP 0 t225).bind fun t226 =>
  (ldS h78 t226).bind fun t227 =>
  (iaS 1 (vs_24.getD 4 .bot) q22).bind fun t230 =>
  (ldS h78 t230).bind fun t231 =>
  (binP .add (AV.int .i64 1) q26_32).bind fun t233 =>
  cl (k_law7_put t31 t227 t231 t233 q27_77 h78) fun t235 h79 =>
  chk [h78, h79] [] (
  (binP .add q26_32 (AV.int .i64 1)).bind fun t181 =>
  some (.normal, [t181], h79))
def k_law7_world_b2 (x1 : AV) (t31 : AV) (t46 : AV) (vs_24 : List AV) (q22 : AV) (q26_32 : AV) (h33 : Heap) : OutV :=
  (iaS 3 x1 q22).bind fun t165 =>
  (faP 2 t165).bind fun t166 =>
  (ldS h33 t166).bind fun t167 =>
  (lnL t167).bind fun t168 =>
  (binP .lss q26_32 t168).bind fun t169 =>
  gQ (gdW t169 true) h33 (some (q26_32, h33)) fun t171 h34 =>
  gQ (gdW t169 true) h34 (some (x1, h34)) fun t172 h35 =>
  gQ (gdW t169 true) h35 (some (q22, h35)) fun t173 h36 =>
  gQ (gdW t169 true) h36 ((iaS 3 t172 t173).bind fun t174 =>
  some (t174, h36)) fun t174_37 h38 =>
  gQ (gdW t169 true) h38 ((ldA 3 h38 t174_37).bind fun t175 =>
  some (t175, h38)) fun t175_39 h40 =>
  gQ (gdW t169 true) h40 (cl (k_law7_size t175_39 h40) fun t176 h41 =>
  some (t176, h41)) fun t176_42 h43 =>
  gQ (gdW t169 true) h43 ((binP .sub t176_42 (AV.int .i64 1)).bind fun t177 =>
  some (t177, h43)) fun t177_44 h45 =>
  gQ (gdW t169 true) h45 ((binP .lss t171 t177_44).bind fun t178 =>
  some (t178, h45)) fun t178_46 h47 =>
  (pickP t169 t178_46 (AV.bool false)).bind fun t179 =>
  condE t179 (
  (iaS 3 x1 q22).bind fun t184 =>
  (faP 2 t184).bind fun t185 =>
  (ldS h47 t185).bind fun t186 =>
  (iaS 1 t186 q26_32).bind fun t188 =>
  (ldS h47 t188).bind fun t189 =>
  (iaS 3 x1 q22).bind fun t192 =>
  (faP 2 t192).bind fun t193 =>
  (ldS h47 t193).bind fun t194 =>
  (iaS 1 t194 q26_32).bind fun t196 =>
  (ldS h47 t196).bind fun t197 =>
  (binP .geq t197 (AV.int .i64 0)).bind fun t198 =>
  gQ (gdW t198 true) h47 (some (x1, h47)) fun t200 h48 =>
  gQ (gdW t198 true) h48 (some (q22, h48)) fun t201 h49 =>
  gQ (gdW t198 true) h49 ((iaS 3 t200 t201).bind fun t202 =>
  some (t202, h49)) fun t202_50 h51 =>
  gQ (gdW t198 true) h51 ((faP 2 t202_50).bind fun t203 =>
  some (t203, h51)) fun t203_52 h53 =>
  gQ (gdW t198 true) h53 ((ldS h53 t203_52).bind fun t204 =>
  some (t204, h53)) fun t204_54 h55 =>
  gQ (gdW t198 true) h55 (some (q26_32, h55)) fun t205 h56 =>
  gQ (gdW t198 true) h56 ((iaS 1 t204_54 t205).bind fun t206 =>
  some (t206, h56)) fun t206_57 h58 =>
  gQ (gdW t198 true) h58 ((ldS h58 t206_57).bind fun t207 =>
  some (t207, h58)) fun t207_59 h60 =>
  gQ (gdW t198 true) h60 (some ((vs_24.getD 4 .bot), h60)) fun t208 h61 =>
  gQ (gdW t198 true) h61 ((lnL t208).bind fun t209 =>
  some (t209, h61)) fun t209_62 h63 =>
  gQ (gdW t198 true) h63 ((binP .lss t207_59 t209_62).bind fun t210 =>
  some (t210, h63)) fun t210_64 h65 =>
  (pickP t198 t210_64 (AV.bool false)).bind fun t211 =>
  condE t211 (
  (iaS 3 x1 q22).bind fun t215 =>
  (faP 2 t215).bind fun t216 =>
  (ldS h65 t216).bind fun t217 =>
  (iaS 1 t217 q26_32).bind fun t219 =>
  (ldS h65 t219).bind fun t220 =>
  (iaS 1 (vs_24.getD 4 .bot) t220).bind fun t221 =>
  (ldS h65 t221).bind fun t222 =>
  k_law7_world_j1 t31 t46 vs_24 q22 q26_32 t222 h65) (
  k_law7_world_j1 t31 t46 vs_24 q22 q26_32 t189 h65)) (
  some ((.exit 6), [q26_32], h47))
def k_law7_world_L2 (x1 : AV) (t31 : AV) (t46 : AV) (vs_24 : List AV) (q22 : AV) (q26_32 : AV) (h33 : Heap) : OutV := loopN (fun us g => k_law7_world_b2 x1 t31 t46 vs_24 q22 (us.getD 0 .bot) g) [q26_32] h33
def k_law7_world_b3 (x1 : AV) (t31 : AV) (t46 : AV) (t54 : AV) (vs_24 : List AV) (q22 : AV) (h26 : Heap) : OutV :=
  (lnL x1).bind fun t119 =>
  (binP .lss q22 t119).bind fun t120 =>
  condE t120 (
  (iaS 1 (vs_24.getD 4 .bot) q22).bind fun t125 =>
  (ldS h26 t125).bind fun t126 =>
  (eqP (some (.int .i64)) none false .eql t126 (AV.int .i64 0)).bind fun t127 =>
  condE t127 (
  (binP .add q22 (AV.int .i64 1)).bind fun t122_28 =>
  some (.normal, [t122_28], h26)) (
  (iaS 3 x1 q22).bind fun t130 =>
  (faP 0 t130).bind fun t131 =>
  (ldS h26 t131).bind fun t132 =>
  (binP .and t132 (AV.int .i64 7)).bind fun t133 =>
  (binP .rem t133 (AV.int .i64 6)).bind fun t134 =>
  (iaS 3 x1 q22).bind fun t138 =>
  (ldA 3 h26 t138).bind fun t139 =>
  cl (k_law7_size t139 h26) fun t140 h29 =>
  (iaS 3 t54 t134).bind fun t143 =>
  (faP 0 t143).bind fun t144 =>
  clC (rdC (fun g => ldS g t144) h29 0 1 []) fun t145 cs =>
  (bldS [(0, 1), (1, 1), (2, 1)] [(AV.int .i64 0), (AV.int .i64 0), (AV.int .i64 0)] [(0, t140), (1, t145), (2, t134)]).bind fun t147 =>
  cl (k_head_Pack t147 h29) fun t148 h30 =>
  (extractV 0 t148).bind fun t149 =>
  (extractV 1 t148).bind fun t150 =>
  chk [h26, h29, h30] cs (
  (nilV t46).bind fun t153 =>
  (faP 0 t153).bind fun t154 =>
  (ldS h30 t154).bind fun t155 =>
  (iaS 1 (vs_24.getD 4 .bot) q22).bind fun t158 =>
  (ldS h30 t158).bind fun t159 =>
  cl (k_law7_put t31 t155 t159 (AV.int .i64 0) t149 h30) fun t161 h31 =>
  chk [h30, h31] [] (
  lp (k_law7_world_L2 x1 t31 t46 vs_24 q22 (AV.int .i64 0) h31) fun e_80 vs_81 h82 =>
  thenK (if (if e_80 = .exit 6 then .normal else e_80) = .exit 5 then .normal else (if e_80 = .exit 6 then .normal else e_80)) (
  (binP .add q22 (AV.int .i64 1)).bind fun t122_83 =>
  some (.normal, [t122_83], h82)) (fun e_84 => some (e_84, [q22], h82)))))) (
  some ((.exit 4), [q22], h26))
def k_law7_world_L3 (x1 : AV) (t31 : AV) (t46 : AV) (t54 : AV) (vs_24 : List AV) (q22 : AV) (h26 : Heap) : OutV := loopN (fun us g => k_law7_world_b3 x1 t31 t46 t54 vs_24 (us.getD 0 .bot) g) [q22] h26
def k_law7_world (x0 : AV) (x1 : AV) (h : Heap) : Option (AV × Heap) :=
  cl (k_arena_New x0 h) fun t30 h0 =>
  (extractV 0 t30).bind fun t31 =>
  (extractV 1 t30).bind fun t32 =>
  (eqP (some (.int .i64)) none false .neq t32 (AV.int .i64 0)).bind fun t34 =>
  gQ (gdW t34 false) h0 (some (t31, h0)) fun t36 h1 =>
  gQ (gdW t34 false) h1 ((eqP (some (.pointer 0)) none false .eql t36 (AV.ptr none)).bind fun t37 =>
  some (t37, h1)) fun t37_2 h3 =>
  (pickP t34 (AV.bool true) t37_2).bind fun t38 =>
  condE t38 (
  some (AV.tup [(AV.ptr none), (AV.ptr none), (AV.ptr none), (AV.sl none 0 (.ex 0))], h3)) (
  cl (k_head_New h3) fun t39 h4 =>
  cl (k_mark_New t31 t39 h4) fun t42 h5 =>
  cl (k_ref4_NewArena x0 h5) fun t44 h6 =>
  (bldS [(0, 1), (1, 1), (2, 1)] [(AV.ptr none), (AV.sl none 0 (.ex 0)), (AV.sl none 0 (.ex 0))] [(0, t44)]).bind fun t45 =>
  mk Heap.new (bxP t45) h6 fun t46 h7 =>
  cl (k_alloc_New t31 h7) fun t48 h8 =>
  (nilV t46).bind fun t50 =>
  (faP 0 t50).bind fun t51 =>
  (ldS h8 t51).bind fun t52 =>
  cl (k_ref4_NewAlloc t52 h8) fun t53 h9 =>
  cl (k_law7_shapes h9) fun t54 h10 =>
  lp (k_law7_world_L0 t39 t46 t54 (AV.int .i64 0) h10) fun e vs h14 =>
  thenK (if e = .exit 0 then .normal else e) (
  lp (k_law7_world_L1 x1 t48 t53 (AV.ptr none) (AV.ptr none) (AV.ptr none) (AV.sl none 0 (.ex 0)) (AV.sl none 0 (.ex 0)) (AV.int .i64 0) h14) fun e_23 vs_24 h25 =>
  thenK (if e_23 = .exit 2 then .normal else e_23) (
  lp (k_law7_world_L3 x1 t31 t46 t54 vs_24 (AV.int .i64 0) h25) fun e_85 vs_86 h87 =>
  thenK (if e_85 = .exit 4 then .normal else e_85) (
  some (AV.tup [t42, t46, t31, (vs_24.getD 4 .bot)], h87)) (fun e_88 => endE e_88 (some (AV.tup [(vs_24.getD 0 .bot), (vs_24.getD 1 .bot), (vs_24.getD 2 .bot), (vs_24.getD 3 .bot)], h87)))) (fun e_89 => endE e_89 (some (AV.tup [(vs_24.getD 0 .bot), (vs_24.getD 1 .bot), (vs_24.getD 2 .bot), (vs_24.getD 3 .bot)], h25)))) (fun e_90 => endE e_90 (some (AV.tup [(AV.ptr none), (AV.ptr none), (AV.ptr none), (AV.sl none 0 (.ex 0))], h14))))
def T54 : Tab := (7, p2 k_law7_world) :: T53
/- 41: (*gantline/arena.Arena).Read -/
def k_arena_Arena_Read (x0 : AV) (x1 : AV) (x2 : AV) (h : Heap) : Option (AV × Heap) :=
  cl (k_arena_Arena_word x0 x1 x2 h) fun t12 h0 =>
  (eqP (some (.pointer 0)) none false .eql t12 (AV.ptr none)).bind fun t14 =>
  condE t14 (
  some (AV.tup [(AV.int .i64 0), (AV.int .i64 1)], h0)) (
  (nilV t12).bind fun t16 =>
  (ldS h0 t16).bind fun t17 =>
  some (AV.tup [t17, (AV.int .i64 0)], h0))
def T55 : Tab := (41, p3 k_arena_Arena_Read) :: T54
/- 75: gantline/bits.Field -/
def k_bits_Field (x0 : AV) (x1 : AV) (x2 : AV) (h : Heap) : Option (AV × Heap) :=
  cl (k_bits_within x1 x2 h) fun t9 h0 =>
  (unA .not t9).bind fun t10 =>
  condE t10 (
  some ((AV.int .u64 0), h0)) (
  (cvI .u64 x1).bind fun t13 =>
  (binP .shr x0 t13).bind fun t14 =>
  cl (k_bits_mask x2 h0) fun t16 h1 =>
  (binP .and t14 t16).bind fun t17 =>
  some (t17, h1))
def T56 : Tab := (75, p3 k_bits_Field) :: T55
/- 42: gantline/head.Unpack -/
def k_head_Unpack (x0 : AV) (h : Heap) : Option (AV × Heap) :=
  mk Heap.new (some (Blk.cells true [(AV.int .i64 0), (AV.int .i64 0), (AV.int .i64 0)], fun i => AV.ptr (some (i, 0)))) h fun t2 h0 =>
  (cvI .u64 x0).bind fun t7 =>
  cl (k_bits_Field t7 (AV.int .i64 0) (AV.int .i64 7) h0) fun t9 h1 =>
  (cvI .i64 t9).bind fun t10 =>
  cl (k_bits_Field t7 (AV.int .i64 7) (AV.int .i64 3) h1) fun t12 h2 =>
  (cvI .i64 t12).bind fun t13 =>
  cl (k_bits_Field t7 (AV.int .i64 10) (AV.int .i64 16) h2) fun t15 h3 =>
  (cvI .i64 t15).bind fun t16 =>
  (bldS [(0, 1), (1, 1), (2, 1)] [(AV.int .i64 0), (AV.int .i64 0), (AV.int .i64 0)] [(0, t10), (1, t13), (2, t16)]).bind fun t17 =>
  mk Heap.new (some (Blk.cells true [(AV.int .i64 0), (AV.int .i64 0), (AV.int .i64 0)], fun i => AV.ptr (some (i, 0)))) h3 fun t5 h4 =>
  cl (stP 3 h4 t5 t17) fun u h5 =>
  (binP .shr t7 (AV.int .u64 26)).bind fun t19 =>
  (eqP (some (.int .u64)) none false .neq t19 (AV.int .u64 0)).bind fun t20 =>
  gQ (gdW t20 false) h5 ((ldA 3 h5 t5).bind fun t22 =>
  some (t22, h5)) fun t22_6 h7 =>
  gQ (gdW t20 false) h7 (cl (k_head_may t22_6 h7) fun t23 h8 =>
  some (t23, h8)) fun t23_9 h10 =>
  gQ (gdW t20 false) h10 ((unA .not t23_9).bind fun t24 =>
  some (t24, h10)) fun t24_11 h12 =>
  (pickP t20 (AV.bool true) t24_11).bind fun t25 =>
  condE t25 (
  (bldS [(0, 1), (1, 1), (2, 1)] [(AV.int .i64 0), (AV.int .i64 0), (AV.int .i64 0)] []).bind fun t26 =>
  cl (stP 3 h12 t2 t26) fun u_13 h14 =>
  (ldA 3 h14 t2).bind fun t =>
  some (AV.tup [t, (AV.int .i64 3)], h14)) (
  (ldA 3 h12 t5).bind fun t27 =>
  cl (stP 3 h12 t2 t27) fun u_15 h16 =>
  (ldA 3 h16 t2).bind fun t_17 =>
  some (AV.tup [t_17, (AV.int .i64 0)], h16))
def T57 : Tab := (42, p1 k_head_Unpack) :: T56
/- 46: (*gantline/head.Table).Shape -/
def k_head_Table_Shape (x0 : AV) (x1 : AV) (h : Heap) : Option (AV × Heap) :=
  mk Heap.new (some (Blk.cells true [(AV.int .i64 0), (AV.int .i64 0), (AV.int .u64 0)], fun i => AV.ptr (some (i, 0)))) h fun t4 h0 =>
  (binP .lss x1 (AV.int .i64 0)).bind fun t7 =>
  gQ (gdW t7 false) h0 (some (x1, h0)) fun t9 h1 =>
  gQ (gdW t7 false) h1 (some (x0, h1)) fun t10 h2 =>
  gQ (gdW t7 false) h2 ((nilV t10).bind fun t11 =>
  some (t11, h2)) fun t11_3 h4 =>
  gQ (gdW t7 false) h4 ((faP 0 t11_3).bind fun t12 =>
  some (t12, h4)) fun t12_5 h6 =>
  gQ (gdW t7 false) h6 ((ldS h6 t12_5).bind fun t13 =>
  some (t13, h6)) fun t13_7 h8 =>
  gQ (gdW t7 false) h8 ((lnL t13_7).bind fun t14 =>
  some (t14, h8)) fun t14_9 h10 =>
  gQ (gdW t7 false) h10 ((binP .geq t9 t14_9).bind fun t15 =>
  some (t15, h10)) fun t15_11 h12 =>
  (pickP t7 (AV.bool true) t15_11).bind fun t16 =>
  condE t16 (
  (bldS [(0, 1), (1, 1), (2, 1)] [(AV.int .i64 0), (AV.int .i64 0), (AV.int .u64 0)] []).bind fun t17 =>
  cl (stP 3 h12 t4 t17) fun u h13 =>
  (ldA 3 h13 t4).bind fun t =>
  some (AV.tup [t, (AV.int .i64 4)], h13)) (
  (nilV x0).bind fun t19 =>
  (faP 0 t19).bind fun t20 =>
  (ldS h12 t20).bind fun t21 =>
  (iaS 3 t21 x1).bind fun t23 =>
  (ldA 3 h12 t23).bind fun t24 =>
  cl (stP 3 h12 t4 t24) fun u_14 h15 =>
  (ldA 3 h15 t4).bind fun t_16 =>
  some (AV.tup [t_16, (AV.int .i64 0)], h15))
def T58 : Tab := (46, p2 k_head_Table_Shape) :: T57
/- 47: (gantline/head.Shape).Holds -/
def k_head_Shape_Holds_j0 (x1 : AV) (t3 : AV) (t20 : AV) (q21 : AV) (h10 : Heap) : Option (AV × Heap) :=
  condE q21 (
  (faP 2 t3).bind fun t24 =>
  (ldS h10 t24).bind fun t25 =>
  (cvI .u64 x1).bind fun t27 =>
  (binP .shr t25 t27).bind fun t28 =>
  (binP .and t28 (AV.int .u64 1)).bind fun t29 =>
  (eqP (some (.int .u64)) none false .eql t29 (AV.int .u64 1)).bind fun t30 =>
  some (t30, h10)) (
  (eqP (some (.int .i64)) none false .eql t20 (AV.int .i64 1)).bind fun t32 =>
  condE t32 (
  (faP 2 t3).bind fun t33 =>
  (ldS h10 t33).bind fun t34 =>
  (binP .and t34 (AV.int .u64 1)).bind fun t35 =>
  (eqP (some (.int .u64)) none false .eql t35 (AV.int .u64 1)).bind fun t36 =>
  some (t36, h10)) (
  (eqP (some (.int .i64)) none false .eql t20 (AV.int .i64 3)).bind fun t38 =>
  condE t38 (
  (faP 2 t3).bind fun t39 =>
  (ldS h10 t39).bind fun t40 =>
  (binP .and t40 (AV.int .u64 1)).bind fun t41 =>
  (eqP (some (.int .u64)) none false .eql t41 (AV.int .u64 1)).bind fun t42 =>
  gQ (gdW t42 true) h10 (some (x1, h10)) fun t44 h11 =>
  gQ (gdW t42 true) h11 ((binP .geq t44 (AV.int .i64 4)).bind fun t45 =>
  some (t45, h11)) fun t45_12 h13 =>
  (pickP t42 t45_12 (AV.bool false)).bind fun t46 =>
  some (t46, h13)) (
  some ((AV.bool false), h10))))
def k_head_Shape_Holds (x0 : AV) (x1 : AV) (x2 : AV) (h : Heap) : Option (AV × Heap) :=
  mk Heap.new (bxP x0) h fun t3 h0 =>
  (binP .lss x1 (AV.int .i64 0)).bind fun t8 =>
  gQ (gdW t8 false) h0 (some (x2, h0)) fun t10 h1 =>
  gQ (gdW t8 false) h1 ((binP .lss t10 (AV.int .i64 2)).bind fun t11 =>
  some (t11, h1)) fun t11_2 h3 =>
  (pickP t8 (AV.bool true) t11_2).bind fun t12 =>
  gQ (gdW t12 false) h3 (some (x1, h3)) fun t14 h4 =>
  gQ (gdW t12 false) h4 (some (x2, h4)) fun t15 h5 =>
  gQ (gdW t12 false) h5 ((binP .sub t15 (AV.int .i64 2)).bind fun t16 =>
  some (t16, h5)) fun t16_6 h7 =>
  gQ (gdW t12 false) h7 ((binP .gtr t14 t16_6).bind fun t17 =>
  some (t17, h7)) fun t17_8 h9 =>
  (pickP t12 (AV.bool true) t17_8).bind fun t18 =>
  condE t18 (
  some ((AV.bool false), h9)) (
  (faP 0 t3).bind fun t19 =>
  (ldS h9 t19).bind fun t20 =>
  (eqP (some (.int .i64)) none false .eql t20 (AV.int .i64 0)).bind fun t22 =>
  condE t22 (
  k_head_Shape_Holds_j0 x1 t3 t20 t22 h9) (
  (eqP (some (.int .i64)) none false .eql t20 (AV.int .i64 2)).bind fun t23 =>
  k_head_Shape_Holds_j0 x1 t3 t20 t23 h9))
def T59 : Tab := (47, p3 k_head_Shape_Holds) :: T58
/- 12: (*gantline/mark.Marker).Fields -/
def k_mark_Marker_Fields_b0 (x0 : AV) (x1 : AV) (t7 : AV) (t8 : AV) (t58 : AV) (q9 : AV) (q59 : AV) (h18 : Heap) : OutV :=
  (binP .lss q59 t58).bind fun t60 =>
  condE t60 (
  (nilV x0).bind fun t64 =>
  (faP 0 t64).bind fun t65 =>
  (ldS h18 t65).bind fun t66 =>
  (binP .add q59 (AV.int .i64 1)).bind fun t69 =>
  cl (k_arena_Arena_Read t66 x1 t69 h18) fun t70 h21 =>
  (extractV 0 t70).bind fun t71 =>
  (extractV 1 t70).bind fun t72 =>
  (ldA 3 h21 t8).bind fun t73 =>
  (faP 0 t7).bind fun t75 =>
  (ldS h21 t75).bind fun t76 =>
  cl (k_head_Shape_Holds t73 q59 t76 h21) fun t77 h22 =>
  gQ (gdW t77 true) h22 (some (t71, h22)) fun t79 h23 =>
  gQ (gdW t77 true) h23 ((eqP (some (.int .i64)) none false .neq t79 (AV.int .i64 0)).bind fun t80 =>
  some (t80, h23)) fun t80_24 h25 =>
  (pickP t77 t80_24 (AV.bool false)).bind fun t81 =>
  condE t81 (
  mk Heap.new (bsP 1 [(AV.int .i64 0)] 1 [(0, t71)]) h25 fun t84 h33 =>
  cl (appendA h33 1 8 q9 t84) fun t85 h34 =>
  (binP .add q59 (AV.int .i64 1)).bind fun t86_35 =>
  some (.normal, [t85, t86_35], h34)) (
  (binP .add q59 (AV.int .i64 1)).bind fun t86_36 =>
  some (.normal, [q9, t86_36], h25))) (
  some ((.exit 0), [q9, q59], h18))
def k_mark_Marker_Fields_L0 (x0 : AV) (x1 : AV) (t7 : AV) (t8 : AV) (t58 : AV) (q9 : AV) (q59 : AV) (h18 : Heap) : OutV := loopN (fun us g => k_mark_Marker_Fields_b0 x0 x1 t7 t8 t58 (us.getD 0 .bot) (us.getD 1 .bot) g) [q9, q59] h18
def k_mark_Marker_Fields (x0 : AV) (x1 : AV) (h : Heap) : Option (AV × Heap) :=
  (nilV x0).bind fun t15 =>
  (faP 0 t15).bind fun t16 =>
  (ldS h t16).bind fun t17 =>
  cl (k_arena_Arena_Read t17 x1 (AV.int .i64 0) h) fun t19 h0 =>
  (extractV 0 t19).bind fun t20 =>
  (extractV 1 t19).bind fun t21 =>
  (eqP (some (.int .i64)) none false .neq t21 (AV.int .i64 0)).bind fun t23 =>
  condE t23 (
  some ((AV.sl none 0 (.ex 0)), h0)) (
  cl (k_head_Unpack t20 h0) fun t26 h1 =>
  (extractV 0 t26).bind fun t27 =>
  (extractV 1 t26).bind fun t28 =>
  mk Heap.new (some (Blk.cells true [(AV.int .i64 0), (AV.int .i64 0), (AV.int .i64 0)], fun i => AV.ptr (some (i, 0)))) h1 fun t7 h2 =>
  cl (stP 3 h2 t7 t27) fun u h3 =>
  (eqP (some (.int .i64)) none false .neq t28 (AV.int .i64 0)).bind fun t30 =>
  (gV (gdW t30 false) (faP 0 t7) (.tup [])).bind fun t32 =>
  clC (gV (gdW t30 false) (rdC (fun g => ldS g t32) h3 0 3 []) (.tup [], [])) fun t33 cs =>
  (gV (gdW t30 false) (some x0) (.tup [])).bind fun t34 =>
  (gV (gdW t30 false) (nilV t34) (.tup [])).bind fun t35 =>
  (gV (gdW t30 false) (faP 0 t35) (.tup [])).bind fun t36 =>
  clC (gV (gdW t30 false) (rdC (fun g => ldS g t36) h3 0 1 cs) (.tup [], cs)) fun t37 cs_4 =>
  (gV (gdW t30 false) (some x1) (.tup [])).bind fun t38 =>
  gQ (gdW t30 false) h3 (cl (k_geom_Span t38 h3) fun t39 h5 =>
  some (t39, h5)) fun t39_6 h7 =>
  gQ (gdW t30 false) h7 (cl (k_arena_Arena_Class t37 t39_6 h7) fun t40 h8 =>
  some (t40, h8)) fun t40_9 h10 =>
  gQ (gdW t30 false) h10 (cl (k_geom_Words t40_9 h10) fun t41 h11 =>
  some (t41, h11)) fun t41_12 h13 =>
  (gV (gdW t30 false) (binP .gtr t33 t41_12) (.tup [])).bind fun t42 =>
  (pickP t30 (AV.bool true) t42).bind fun t43 =>
  chk [h3, h7, h10, h13] cs_4 (
  condE t43 (
  some ((AV.sl none 0 (.ex 0)), h13)) (
  (nilV x0).bind fun t46 =>
  (faP 1 t46).bind fun t47 =>
  (ldS (hpN h13 1) t47).bind fun t48 =>
  (faP 2 t7).bind fun t49 =>
  (ldS (hpN h13 1) t49).bind fun t50 =>
  cl (k_head_Table_Shape t48 t50 (hpN h13 1)) fun t51 h14 =>
  (extractV 0 t51).bind fun t52 =>
  (extractV 1 t51).bind fun t53 =>
  cl (mkAt Heap.put (some (Blk.cells true [(AV.int .i64 0), (AV.int .i64 0), (AV.int .u64 0)], fun i => AV.ptr (some (i, 0)))) (h13.next + 0) h14) fun t8 h15 =>
  cl (stP 3 h15 t8 t52) fun u_16 h17 =>
  chk [(hpN h13 1), h14, h17] [] (
  (eqP (some (.int .i64)) none false .neq t53 (AV.int .i64 0)).bind fun t55 =>
  condE t55 (
  some ((AV.sl none 0 (.ex 0)), h17)) (
  (faP 0 t7).bind fun t56 =>
  (ldS h17 t56).bind fun t57 =>
  (binP .sub t57 (AV.int .i64 1)).bind fun t58 =>
  lp (k_mark_Marker_Fields_L0 x0 x1 t7 t8 t58 (AV.sl none 0 (.ex 0)) (AV.int .i64 0) h17) fun e vs h37 =>
  thenK (if e = .exit 0 then .normal else e) (
  some ((vs.getD 0 .bot), h37)) (fun e_38 => endE e_38 (some ((AV.sl none 0 (.ex 0)), h37))))))))
def T60 : Tab := (12, p2 k_mark_Marker_Fields) :: T59
/- 50: slices.Clone[[]int64,int64] -/
def k_slices_Clone_int64_int64 (x0 : AV) (h : Heap) : Option (AV × Heap) :=
  (eqP (some (.slice 0)) none false .eql x0 (AV.sl none 0 (.ex 0))).bind fun t4 =>
  condE t4 (
  some ((AV.sl none 0 (.ex 0)), h)) (
  mk Heap.new (bsP 1 [(AV.int .i64 0)] 0 []) h fun t5 h0 =>
  cl (appendA h0 1 8 t5 x0) fun t7 h1 =>
  some (t7, h1))
def T61 : Tab := (50, p1 k_slices_Clone_int64_int64) :: T60
/- 22: (*gantline/arena.Arena).Is -/
def k_arena_Arena_Is (x0 : AV) (x1 : AV) (h : Heap) : Option (AV × Heap) :=
  cl (k_arena_Arena_find x0 x1 h) fun t10 h0 =>
  (extractV 0 t10).bind fun t11 =>
  (extractV 1 t10).bind fun t12 =>
  (eqP (some (.pointer 0)) none false .neq t11 (AV.ptr none)).bind fun t14 =>
  some (t14, h0)
def T62 : Tab := (22, p2 k_arena_Arena_Is) :: T61
/- 52: maps.Keys[map[int64]bool,int64,bool] -/
def k_maps_Keys_map_int64_bool_int64_bool (a : AV) (h : Heap) : Option (AV × Heap) := keysV 80 a h
def T63 : Tab := (52, p1 k_maps_Keys_map_int64_bool_int64_bool) :: T62
/- 51: slices.Sorted[int64] -/
def k_slices_Sorted_int64 (a : AV) (h : Heap) : Option (AV × Heap) := sortedV 80 a h
def T64 : Tab := (51, p1 k_slices_Sorted_int64) :: T63
/- 14: (*gantline/mark.Marker).Reach -/
def k_mark_Marker_Reach_b0 (x0 : AV) (t8 : AV) (q6 : AV) (h2 : Heap) : OutV :=
  (lnL q6).bind fun t12 =>
  (binP .gtr t12 (AV.int .i64 0)).bind fun t13 =>
  condE t13 (
  (iaS 1 q6 (AV.int .i64 0)).bind fun t15 =>
  (ldS h2 t15).bind fun t16 =>
  (slcP 1 q6 (some (AV.int .i64 1)) none none).bind fun t18 =>
  (lkP (fdA (.int .i64)) (AV.bool false) false h2 t8 t16).bind fun t21 =>
  (unA .not t21).bind fun t22 =>
  gQ (gdW t22 true) h2 (some (x0, h2)) fun t24 h5 =>
  gQ (gdW t22 true) h5 ((nilV t24).bind fun t25 =>
  some (t25, h5)) fun t25_6 h7 =>
  gQ (gdW t22 true) h7 ((faP 0 t25_6).bind fun t26 =>
  some (t26, h7)) fun t26_8 h9 =>
  gQ (gdW t22 true) h9 ((ldS h9 t26_8).bind fun t27 =>
  some (t27, h9)) fun t27_10 h11 =>
  gQ (gdW t22 true) h11 (some (t16, h11)) fun t28 h12 =>
  gQ (gdW t22 true) h12 (cl (k_arena_Arena_Is t27_10 t28 h12) fun t29 h13 =>
  some (t29, h13)) fun t29_14 h15 =>
  (pickP t22 t29_14 (AV.bool false)).bind fun t30 =>
  condE t30 (
  cl (muP (ptA (.int .i64)) h15 t8 t16 (AV.bool true)) fun u h25 =>
  cl (k_mark_Marker_Fields x0 t16 h25) fun t36 h26 =>
  cl (appendA h26 1 8 t18 t36) fun t37 h27 =>
  some (.normal, [t37], h27)) (
  some (.normal, [t18], h15))) (
  some ((.exit 0), [q6], h2))
def k_mark_Marker_Reach_L0 (x0 : AV) (t8 : AV) (q6 : AV) (h2 : Heap) : OutV := loopN (fun us g => k_mark_Marker_Reach_b0 x0 t8 (us.getD 0 .bot) g) [q6] h2
def k_mark_Marker_Reach (x0 : AV) (x1 : AV) (h : Heap) : Option (AV × Heap) :=
  mk Heap.new (some (Blk.mp [], fun i => AV.mp (some i))) h fun t8 h0 =>
  cl (k_slices_Clone_int64_int64 x1 h0) fun t10 h1 =>
  lp (k_mark_Marker_Reach_L0 x0 t8 t10 h1) fun e vs h28 =>
  thenK (if e = .exit 0 then .normal else e) (
  cl (k_maps_Keys_map_int64_bool_int64_bool t8 h28) fun t39 h29 =>
  cl (k_slices_Sorted_int64 t39 h29) fun t40 h30 =>
  some (t40, h30)) (fun e_31 => endE e_31 (some ((AV.sl none 0 (.ex 0)), h28)))
def T65 : Tab := (14, p2 k_mark_Marker_Reach) :: T64
/- 21: (*gantline/arena.Arena).Mark -/
def k_arena_Arena_Mark (x0 : AV) (x1 : AV) (h : Heap) : Option (AV × Heap) :=
  cl (k_arena_Arena_find x0 x1 h) fun t10 h0 =>
  (extractV 0 t10).bind fun t11 =>
  (extractV 1 t10).bind fun t12 =>
  (eqP (some (.pointer 0)) none false .eql t11 (AV.ptr none)).bind fun t14 =>
  gQ (gdW t14 false) h0 (some (t11, h0)) fun t16 h1 =>
  gQ (gdW t14 false) h1 ((nilV t16).bind fun t17 =>
  some (t17, h1)) fun t17_2 h3 =>
  gQ (gdW t14 false) h3 ((faP 2 t17_2).bind fun t18 =>
  some (t18, h3)) fun t18_4 h5 =>
  gQ (gdW t14 false) h5 ((ldS h5 t18_4).bind fun t19 =>
  some (t19, h5)) fun t19_6 h7 =>
  gQ (gdW t14 false) h7 (some (t12, h7)) fun t20 h8 =>
  gQ (gdW t14 false) h8 ((binP .and t19_6 t20).bind fun t21 =>
  some (t21, h8)) fun t21_9 h10 =>
  gQ (gdW t14 false) h10 ((eqP (some (.int .u64)) none false .neq t21_9 (AV.int .u64 0)).bind fun t22 =>
  some (t22, h10)) fun t22_11 h12 =>
  (pickP t14 (AV.bool true) t22_11).bind fun t23 =>
  condE t23 (
  some ((AV.bool false), h12)) (
  (nilV t11).bind fun t25 =>
  (faP 2 t25).bind fun t26 =>
  (ldS h12 t26).bind fun t27 =>
  (binP .or t27 t12).bind fun t29 =>
  (nilV t11).bind fun t30 =>
  (faP 2 t30).bind fun t31 =>
  cl (stP 1 h12 t31 t29) fun u h13 =>
  some ((AV.bool true), h13))
def T66 : Tab := (21, p2 k_arena_Arena_Mark) :: T65
/- 39: (*gantline/grey.Queue).Add -/
def k_grey_Queue_Add (x0 : AV) (x1 : AV) (h : Heap) : Option (AV × Heap) :=
  (nilV x0).bind fun t6 =>
  (faP 0 t6).bind fun t7 =>
  (ldS h t7).bind fun t8 =>
  mk Heap.new (bsP 1 [(AV.int .i64 0)] 1 [(0, x1)]) h fun t10 h0 =>
  cl (appendA h0 1 8 t8 t10) fun t11 h1 =>
  (nilV x0).bind fun t12 =>
  (faP 0 t12).bind fun t13 =>
  cl (stP 1 h1 t13 t11) fun u h2 =>
  some (AV.tup [], h2)
def T67 : Tab := (39, p2 k_grey_Queue_Add) :: T66
/- 9: (*gantline/mark.Marker).Shade -/
def k_mark_Marker_Shade (x0 : AV) (x1 : AV) (h : Heap) : Option (AV × Heap) :=
  (nilV x0).bind fun t6 =>
  (faP 0 t6).bind fun t7 =>
  (ldS h t7).bind fun t8 =>
  cl (k_arena_Arena_Mark t8 x1 h) fun t10 h0 =>
  (unA .not t10).bind fun t11 =>
  condE t11 (
  some ((AV.bool false), h0)) (
  (nilV x0).bind fun t13 =>
  (faP 2 t13).bind fun t14 =>
  (ldS h0 t14).bind fun t15 =>
  cl (k_grey_Queue_Add t15 x1 h0) fun t17 h1 =>
  some ((AV.bool true), h1))
def T68 : Tab := (9, p2 k_mark_Marker_Shade) :: T67
/- 53: (*gantline/grey.Queue).Next -/
def k_grey_Queue_Next (x0 : AV) (h : Heap) : Option (AV × Heap) :=
  (nilV x0).bind fun t6 =>
  (faP 0 t6).bind fun t7 =>
  (ldS h t7).bind fun t8 =>
  (lnL t8).bind fun t9 =>
  (eqP (some (.int .i64)) none false .eql t9 (AV.int .i64 0)).bind fun t10 =>
  condE t10 (
  some (AV.tup [(AV.int .i64 0), (AV.bool false)], h)) (
  (nilV x0).bind fun t12 =>
  (faP 0 t12).bind fun t13 =>
  (ldS h t13).bind fun t14 =>
  (iaS 1 t14 (AV.int .i64 0)).bind fun t15 =>
  (ldS h t15).bind fun t16 =>
  (nilV x0).bind fun t19 =>
  (faP 0 t19).bind fun t20 =>
  (ldS h t20).bind fun t21 =>
  (slcP 1 t21 (some (AV.int .i64 1)) none none).bind fun t22 =>
  (nilV x0).bind fun t23 =>
  (faP 0 t23).bind fun t24 =>
  cl (stP 1 h t24 t22) fun u h0 =>
  some (AV.tup [t16, (AV.bool true)], h0))
def T69 : Tab := (53, p1 k_grey_Queue_Next) :: T68
/- 16: (*gantline/mark.Marker).Step -/
def k_mark_Marker_Step_b0 (x0 : AV) (t19 : AV) (t20 : AV) (q21 : AV) (h2 : Heap) : OutV :=
  (binP .lss q21 t20).bind fun t22 =>
  condE t22 (
  (iaS 1 t19 q21).bind fun t23 =>
  (ldS h2 t23).bind fun t24 =>
  cl (k_mark_Marker_Shade x0 t24 h2) fun t27 h3 =>
  (binP .add q21 (AV.int .i64 1)).bind fun t28 =>
  some (.normal, [t28], h3)) (
  some ((.exit 0), [q21], h2))
def k_mark_Marker_Step_L0 (x0 : AV) (t19 : AV) (t20 : AV) (q21 : AV) (h2 : Heap) : OutV := loopN (fun us g => k_mark_Marker_Step_b0 x0 t19 t20 (us.getD 0 .bot) g) [q21] h2
def k_mark_Marker_Step (x0 : AV) (h : Heap) : Option (AV × Heap) :=
  (nilV x0).bind fun t9 =>
  (faP 2 t9).bind fun t10 =>
  (ldS h t10).bind fun t11 =>
  cl (k_grey_Queue_Next t11 h) fun t12 h0 =>
  (extractV 0 t12).bind fun t13 =>
  (extractV 1 t12).bind fun t14 =>
  (unA .not t14).bind fun t16 =>
  condE t16 (
  some ((AV.bool false), h0)) (
  cl (k_mark_Marker_Fields x0 t13 h0) fun t19 h1 =>
  (lnL t19).bind fun t20 =>
  lp (k_mark_Marker_Step_L0 x0 t19 t20 (AV.int .i64 0) h1) fun e vs h4 =>
  thenK (if e = .exit 0 then .normal else e) (
  some ((AV.bool true), h4)) (fun e_5 => endE e_5 (some ((AV.bool false), h4))))
def T70 : Tab := (16, p1 k_mark_Marker_Step) :: T69
/- 54: (*gantline/grey.Queue).Len -/
def k_grey_Queue_Len (x0 : AV) (h : Heap) : Option (AV × Heap) :=
  (nilV x0).bind fun t4 =>
  (faP 0 t4).bind fun t5 =>
  (ldS h t5).bind fun t6 =>
  (lnL t6).bind fun t7 =>
  some (t7, h)
def T71 : Tab := (54, p1 k_grey_Queue_Len) :: T70
/- 18: (*gantline/mark.Marker).Left -/
def k_mark_Marker_Left (x0 : AV) (h : Heap) : Option (AV × Heap) :=
  (nilV x0).bind fun t4 =>
  (faP 2 t4).bind fun t5 =>
  (ldS h t5).bind fun t6 =>
  cl (k_grey_Queue_Len t6 h) fun t7 h0 =>
  some (t7, h0)
def T72 : Tab := (18, p1 k_mark_Marker_Left) :: T71
/- 20: (*gantline/arena.Arena).Marked -/
def k_arena_Arena_Marked (x0 : AV) (x1 : AV) (h : Heap) : Option (AV × Heap) :=
  cl (k_arena_Arena_Class x0 x1 h) fun t7 h0 =>
  (eqP (some (.int .i64)) none false .eql t7 (AV.int .i64 (-1))).bind fun t8 =>
  condE t8 (
  some ((AV.int .u64 0), h0)) (
  (nilV x0).bind fun t10 =>
  (faP 1 t10).bind fun t11 =>
  (ldS h0 t11).bind fun t12 =>
  (iaS 3 t12 x1).bind fun t14 =>
  (faP 2 t14).bind fun t15 =>
  (ldS h0 t15).bind fun t16 =>
  some (t16, h0))
def T73 : Tab := (20, p2 k_arena_Arena_Marked) :: T72
/- 6: gantline/gantlinelaw7.awake -/
def k_law7_awakeR (h : Heap) : Option (AV × Heap) :=
  mk Heap.new (bsP 1 [(AV.int .i64 0)] 1 [(0, (AV.int .i64 1))]) h fun t10 h0 =>
  (bldS [(0, 1), (1, 1), (2, 1)] [(AV.int .i64 0), (AV.int .i64 0), (AV.sl none 0 (.ex 0))] [(0, (AV.int .i64 1)), (2, t10)]).bind fun t11 =>
  (bldS [(0, 1), (1, 1), (2, 1)] [(AV.int .i64 0), (AV.int .i64 0), (AV.sl none 0 (.ex 0))] [(0, (AV.int .i64 0))]).bind fun t12 =>
  mk Heap.new (bsP 3 [(AV.int .i64 0), (AV.int .i64 0), (AV.sl none 0 (.ex 0))] 2 [(0, t11), (1, t12)]) h0 fun t13 h1 =>
  cl (k_law7_world (AV.int .i64 8) t13 h1) fun t14 h2 =>
  (extractV 0 t14).bind fun t15 =>
  (extractV 1 t14).bind fun t16 =>
  (extractV 2 t14).bind fun t17 =>
  (extractV 3 t14).bind fun t18 =>
  (eqP (some (.pointer 0)) none false .eql t15 (AV.ptr none)).bind fun t20 =>
  gQ (gdW t20 false) h2 (some (t18, h2)) fun t22 h3 =>
  gQ (gdW t20 false) h3 ((lnL t22).bind fun t23 =>
  some (t23, h3)) fun t23_4 h5 =>
  gQ (gdW t20 false) h5 ((eqP (some (.int .i64)) none false .neq t23_4 (AV.int .i64 2)).bind fun t24 =>
  some (t24, h5)) fun t24_6 h7 =>
  (pickP t20 (AV.bool true) t24_6).bind fun t25 =>
  condE t25 (
  some ((AV.bool false), h7)) (
  (iaS 1 t18 (AV.int .i64 0)).bind fun t28 =>
  (ldS h7 t28).bind fun t29 =>
  cl (k_mark_Marker_Fields t15 t29 h7) fun t30 h8 =>
  (iaS 1 t18 (AV.int .i64 0)).bind fun t33 =>
  (ldS h8 t33).bind fun t34 =>
  mk Heap.new (bsP 1 [(AV.int .i64 0)] 1 [(0, t34)]) h8 fun t35 h9 =>
  cl (k_mark_Marker_Reach t15 t35 h9) fun t36 h10 =>
  (iaS 1 t18 (AV.int .i64 0)).bind fun t39 =>
  (ldS h10 t39).bind fun t40 =>
  cl (k_mark_Marker_Shade t15 t40 h10) fun t41 h11 =>
  cl (k_mark_Marker_Step t15 h11) fun t43 h12 =>
  (lnL t30).bind fun t45 =>
  (eqP (some (.int .i64)) none false .eql t45 (AV.int .i64 1)).bind fun t46 =>
  (gV (gdW t46 true) (some t30) (.tup [])).bind fun t48 =>
  (gV (gdW t46 true) (iaS 1 t48 (AV.int .i64 0)) (.tup [])).bind fun t49 =>
  (gV (gdW t46 true) (ldS h12 t49) (.tup [])).bind fun t50 =>
  (gV (gdW t46 true) (some t18) (.tup [])).bind fun t51 =>
  (gV (gdW t46 true) (iaS 1 t51 (AV.int .i64 1)) (.tup [])).bind fun t52 =>
  (gV (gdW t46 true) (ldS h12 t52) (.tup [])).bind fun t53 =>
  (gV (gdW t46 true) (eqP (some (.int .i64)) none false .eql t50 t53) (.tup [])).bind fun t54 =>
  (pickP t46 t54 (AV.bool false)).bind fun t55 =>
  (gV (gdW t55 true) (some t36) (.tup [])).bind fun t57 =>
  (gV (gdW t55 true) (lnL t57) (.tup [])).bind fun t58 =>
  (gV (gdW t55 true) (eqP (some (.int .i64)) none false .eql t58 (AV.int .i64 2)) (.tup [])).bind fun t59 =>
  (pickP t55 t59 (AV.bool false)).bind fun t60 =>
  (gV (gdW t60 true) (some t41) (.tup [])).bind fun t62 =>
  (pickP t60 t62 (AV.bool false)).bind fun t63 =>
  (gV (gdW t63 true) (some t43) (.tup [])).bind fun t65 =>
  (pickP t63 t65 (AV.bool false)).bind fun t66 =>
  (gV (gdW t66 true) (some t15) (.tup [])).bind fun t68 =>
  gQ (gdW t66 true) h12 (cl (k_mark_Marker_Left t68 h12) fun t69 h13 =>
  some (t69, h13)) fun t69_14 h15 =>
  (gV (gdW t66 true) (eqP (some (.int .i64)) none false .eql t69_14 (AV.int .i64 1)) (.tup [])).bind fun t70 =>
  (pickP t66 t70 (AV.bool false)).bind fun t71 =>
  (gV (gdW t71 true) (some t15) (.tup [])).bind fun t73 =>
  (gV (gdW t71 true) (some t18) (.tup [])).bind fun t74 =>
  (gV (gdW t71 true) (iaS 1 t74 (AV.int .i64 1)) (.tup [])).bind fun t75 =>
  (gV (gdW t71 true) (ldS h15 t75) (.tup [])).bind fun t76 =>
  gQ (gdW t71 true) h15 (cl (k_mark_Marker_Shade t73 t76 h15) fun t77 h16 =>
  some (t77, h16)) fun t77_17 h18 =>
  (gV (gdW t71 true) (unA .not t77_17) (.tup [])).bind fun t78 =>
  (pickP t71 t78 (AV.bool false)).bind fun t79 =>
  (gV (gdW t79 true) (some t17) (.tup [])).bind fun t81 =>
  gQ (gdW t79 true) h18 (cl (k_arena_Arena_Marked t81 (AV.int .i64 1) h18) fun t82 h19 =>
  some (t82, h19)) fun t82_20 h21 =>
  (gV (gdW t79 true) (eqP (some (.int .u64)) none false .neq t82_20 (AV.int .u64 0)) (.tup [])).bind fun t83 =>
  (pickP t79 t83 (AV.bool false)).bind fun t84 =>
  chk [h12, h15, h18, h21] [] (
  some (t84, h21)))
def k_law7_awake : Heap → Option (AV × Heap) := quiet hQ1
def T74 : Tab := (6, p0 k_law7_awake) :: T73
/- 40: (*gantline/gantlineref4.Arena).Mark -/
def k_ref4_Arena_Mark (x0 : AV) (x1 : AV) (h : Heap) : Option (AV × Heap) :=
  cl (k_ref4_Arena_Find x0 x1 h) fun t8 h0 =>
  (binP .lss t8 (AV.int .i64 0)).bind fun t10 =>
  gQ (gdW t10 false) h0 (some (x0, h0)) fun t12 h1 =>
  gQ (gdW t10 false) h1 ((nilV t12).bind fun t13 =>
  some (t13, h1)) fun t13_2 h3 =>
  gQ (gdW t10 false) h3 ((faP 1 t13_2).bind fun t14 =>
  some (t14, h3)) fun t14_4 h5 =>
  gQ (gdW t10 false) h5 ((ldS h5 t14_4).bind fun t15 =>
  some (t15, h5)) fun t15_6 h7 =>
  gQ (gdW t10 false) h7 (some (t8, h7)) fun t16 h8 =>
  gQ (gdW t10 false) h8 ((iaS 3 t15_6 t16).bind fun t17 =>
  some (t17, h8)) fun t17_9 h10 =>
  gQ (gdW t10 false) h10 ((faP 2 t17_9).bind fun t18 =>
  some (t18, h10)) fun t18_11 h12 =>
  gQ (gdW t10 false) h12 ((ldS h12 t18_11).bind fun t19 =>
  some (t19, h12)) fun t19_13 h14 =>
  (pickP t10 (AV.bool true) t19_13).bind fun t20 =>
  condE t20 (
  some ((AV.bool false), h14)) (
  (nilV x0).bind fun t22 =>
  (faP 1 t22).bind fun t23 =>
  (ldS h14 t23).bind fun t24 =>
  (iaS 3 t24 t8).bind fun t26 =>
  (faP 2 t26).bind fun t27 =>
  cl (stP 1 h14 t27 (AV.bool true)) fun u h15 =>
  some ((AV.bool true), h15))
def T75 : Tab := (40, p2 k_ref4_Arena_Mark) :: T74
/- 10: (*gantline/gantlineref4.Marker).Shade -/
def k_ref4_Marker_Shade (x0 : AV) (x1 : AV) (h : Heap) : Option (AV × Heap) :=
  (nilV x0).bind fun t6 =>
  (faP 0 t6).bind fun t7 =>
  (ldS h t7).bind fun t8 =>
  cl (k_ref4_Arena_Mark t8 x1 h) fun t10 h0 =>
  (unA .not t10).bind fun t11 =>
  condE t11 (
  some ((AV.bool false), h0)) (
  (nilV x0).bind fun t14 =>
  (faP 2 t14).bind fun t15 =>
  (ldS h0 t15).bind fun t16 =>
  mk Heap.new (bsP 1 [(AV.int .i64 0)] 1 [(0, x1)]) h0 fun t18 h1 =>
  cl (appendA h1 1 8 t16 t18) fun t19 h2 =>
  (nilV x0).bind fun t20 =>
  (faP 2 t20).bind fun t21 =>
  cl (stP 1 h2 t21 t19) fun u h3 =>
  some ((AV.bool true), h3))
def T76 : Tab := (10, p2 k_ref4_Marker_Shade) :: T75
/- 77: gantline/gantlineref1.Pack -/
def k_ref1_Pack (x0 : AV) (x1 : AV) (x2 : AV) (h : Heap) : Option (AV × Heap) :=
  (binP .lss x0 (AV.int .i64 1)).bind fun t9 =>
  gQ (gdW t9 false) h (some (x0, h)) fun t11 h0 =>
  gQ (gdW t9 false) h0 ((binP .gtr t11 (AV.int .i64 64)).bind fun t12 =>
  some (t12, h0)) fun t12_1 h2 =>
  (pickP t9 (AV.bool true) t12_1).bind fun t13 =>
  gQ (gdW t13 false) h2 (some (x1, h2)) fun t15 h3 =>
  gQ (gdW t13 false) h3 ((binP .lss t15 (AV.int .i64 0)).bind fun t16 =>
  some (t16, h3)) fun t16_4 h5 =>
  (pickP t13 (AV.bool true) t16_4).bind fun t17 =>
  gQ (gdW t17 false) h5 (some (x1, h5)) fun t19 h6 =>
  gQ (gdW t17 false) h6 ((binP .gtr t19 (AV.int .i64 3)).bind fun t20 =>
  some (t20, h6)) fun t20_7 h8 =>
  (pickP t17 (AV.bool true) t20_7).bind fun t21 =>
  gQ (gdW t21 false) h8 (some (x2, h8)) fun t23 h9 =>
  gQ (gdW t21 false) h9 ((binP .lss t23 (AV.int .i64 0)).bind fun t24 =>
  some (t24, h9)) fun t24_10 h11 =>
  (pickP t21 (AV.bool true) t24_10).bind fun t25 =>
  gQ (gdW t25 false) h11 (some (x2, h11)) fun t27 h12 =>
  gQ (gdW t25 false) h12 ((binP .gtr t27 (AV.int .i64 65535)).bind fun t28 =>
  some (t28, h12)) fun t28_13 h14 =>
  (pickP t25 (AV.bool true) t28_13).bind fun t29 =>
  condE t29 (
  some (AV.tup [(AV.int .i64 0), (AV.bool false)], h14)) (
  (binP .mul (AV.int .i64 128) x1).bind fun t32 =>
  (binP .add x0 t32).bind fun t33 =>
  (binP .mul (AV.int .i64 1024) x2).bind fun t35 =>
  (binP .add t33 t35).bind fun t36 =>
  some (AV.tup [t36, (AV.bool true)], h14))
def T77 : Tab := (77, p3 k_ref1_Pack) :: T76
/- 48: gantline/gantlineref1.Unpack -/
def k_ref1_Unpack (x0 : AV) (h : Heap) : Option (AV × Heap) :=
  (binP .lss x0 (AV.int .i64 0)).bind fun t12 =>
  condE t12 (
  some (AV.tup [(AV.int .i64 0), (AV.int .i64 0), (AV.int .i64 0), (AV.bool false)], h)) (
  (binP .rem x0 (AV.int .i64 128)).bind fun t14 =>
  (binP .quo x0 (AV.int .i64 128)).bind fun t16 =>
  (binP .rem t16 (AV.int .i64 8)).bind fun t17 =>
  (binP .quo x0 (AV.int .i64 1024)).bind fun t19 =>
  (binP .geq x0 (AV.int .i64 67108864)).bind fun t21 =>
  condE t21 (
  some (AV.tup [(AV.int .i64 0), (AV.int .i64 0), (AV.int .i64 0), (AV.bool false)], h)) (
  cl (k_ref1_Pack t14 t17 t19 h) fun t26 h0 =>
  (extractV 0 t26).bind fun t27 =>
  (extractV 1 t26).bind fun t28 =>
  (unA .not t28).bind fun t30 =>
  condE t30 (
  some (AV.tup [(AV.int .i64 0), (AV.int .i64 0), (AV.int .i64 0), (AV.bool false)], h0)) (
  some (AV.tup [t14, t17, t19, (AV.bool true)], h0))))
def T78 : Tab := (48, p1 k_ref1_Unpack) :: T77
/- 58: gantline/gantlineref1.Bit -/
def k_ref1_Bit (x0 : AV) (x1 : AV) (h : Heap) : Option (AV × Heap) :=
  (binP .geq x1 (AV.int .i64 0)).bind fun t6 =>
  gQ (gdW t6 true) h (some (x1, h)) fun t8 h0 =>
  gQ (gdW t6 true) h0 ((binP .lss t8 (AV.int .i64 64)).bind fun t9 =>
  some (t9, h0)) fun t9_1 h2 =>
  (pickP t6 t9_1 (AV.bool false)).bind fun t10 =>
  gQ (gdW t10 true) h2 (some (x0, h2)) fun t12 h3 =>
  gQ (gdW t10 true) h3 (some (x1, h3)) fun t13 h4 =>
  gQ (gdW t10 true) h4 ((cvI .u64 t13).bind fun t14 =>
  some (t14, h4)) fun t14_5 h6 =>
  gQ (gdW t10 true) h6 ((binP .shr t12 t14_5).bind fun t15 =>
  some (t15, h6)) fun t15_7 h8 =>
  gQ (gdW t10 true) h8 ((binP .and t15_7 (AV.int .u64 1)).bind fun t16 =>
  some (t16, h8)) fun t16_9 h10 =>
  gQ (gdW t10 true) h10 ((eqP (some (.int .u64)) none false .eql t16_9 (AV.int .u64 1)).bind fun t17 =>
  some (t17, h10)) fun t17_11 h12 =>
  (pickP t10 t17_11 (AV.bool false)).bind fun t18 =>
  some (t18, h12)
def T79 : Tab := (58, p2 k_ref1_Bit) :: T78
/- 49: gantline/gantlineref1.Holds -/
def k_ref1_Holds (x0 : AV) (x1 : AV) (x2 : AV) (h : Heap) : Option (AV × Heap) :=
  mk Heap.new (bxP x0) h fun t3 h0 =>
  (binP .lss x1 (AV.int .i64 0)).bind fun t8 =>
  gQ (gdW t8 false) h0 (some (x2, h0)) fun t10 h1 =>
  gQ (gdW t8 false) h1 ((binP .lss t10 (AV.int .i64 2)).bind fun t11 =>
  some (t11, h1)) fun t11_2 h3 =>
  (pickP t8 (AV.bool true) t11_2).bind fun t12 =>
  gQ (gdW t12 false) h3 (some (x1, h3)) fun t14 h4 =>
  gQ (gdW t12 false) h4 (some (x2, h4)) fun t15 h5 =>
  gQ (gdW t12 false) h5 ((binP .sub t15 (AV.int .i64 2)).bind fun t16 =>
  some (t16, h5)) fun t16_6 h7 =>
  gQ (gdW t12 false) h7 ((binP .gtr t14 t16_6).bind fun t17 =>
  some (t17, h7)) fun t17_8 h9 =>
  (pickP t12 (AV.bool true) t17_8).bind fun t18 =>
  condE t18 (
  some ((AV.bool false), h9)) (
  (faP 0 t3).bind fun t19 =>
  (ldS h9 t19).bind fun t20 =>
  (eqP (some (.int .i64)) none false .eql t20 (AV.int .i64 1)).bind fun t22 =>
  condE t22 (
  (faP 2 t3).bind fun t23 =>
  (ldS h9 t23).bind fun t24 =>
  cl (k_ref1_Bit t24 (AV.int .i64 0) h9) fun t25 h10 =>
  some (t25, h10)) (
  (eqP (some (.int .i64)) none false .eql t20 (AV.int .i64 3)).bind fun t27 =>
  condE t27 (
  (binP .geq x1 (AV.int .i64 4)).bind fun t29 =>
  gQ (gdW t29 true) h9 ((faP 2 t3).bind fun t31 =>
  some (t31, h9)) fun t31_11 h12 =>
  gQ (gdW t29 true) h12 ((ldS h12 t31_11).bind fun t32 =>
  some (t32, h12)) fun t32_13 h14 =>
  gQ (gdW t29 true) h14 (cl (k_ref1_Bit t32_13 (AV.int .i64 0) h14) fun t33 h15 =>
  some (t33, h15)) fun t33_16 h17 =>
  (pickP t29 t33_16 (AV.bool false)).bind fun t34 =>
  some (t34, h17)) (
  (faP 2 t3).bind fun t35 =>
  (ldS h9 t35).bind fun t36 =>
  cl (k_ref1_Bit t36 x1 h9) fun t38 h18 =>
  some (t38, h18))))
def T80 : Tab := (49, p3 k_ref1_Holds) :: T79
/- 13: (*gantline/gantlineref4.Marker).Fields -/
def k_ref4_Marker_Fields_j0 (q12 : AV) (q11_42 : AV) (h43 : Heap) : OutV :=
  (binP .add q12 (AV.int .i64 1)).bind fun t63_44 =>
  some (.normal, [q11_42, t63_44], h43)
def k_ref4_Marker_Fields_b0 (x0 : AV) (t31 : AV) (t37 : AV) (t39 : AV) (q11 : AV) (q12 : AV) (h20 : Heap) : OutV :=
  (binP .sub t37 (AV.int .i64 1)).bind fun t60 =>
  (binP .lss q12 t60).bind fun t61 =>
  condE t61 (
  (nilV x0).bind fun t65 =>
  (faP 1 t65).bind fun t66 =>
  (ldS h20 t66).bind fun t67 =>
  (iaS 3 t67 t39).bind fun t69 =>
  (ldA 3 h20 t69).bind fun t70 =>
  cl (k_ref1_Holds t70 q12 t37 h20) fun t73 h23 =>
  gQ (gdW t73 true) h23 (some (t31, h23)) fun t75 h24 =>
  gQ (gdW t73 true) h24 (some (q12, h24)) fun t76 h25 =>
  gQ (gdW t73 true) h25 ((binP .add (AV.int .i64 1) t76).bind fun t77 =>
  some (t77, h25)) fun t77_26 h27 =>
  gQ (gdW t73 true) h27 ((iaS 1 t75 t77_26).bind fun t78 =>
  some (t78, h27)) fun t78_28 h29 =>
  gQ (gdW t73 true) h29 ((ldS h29 t78_28).bind fun t79 =>
  some (t79, h29)) fun t79_30 h31 =>
  gQ (gdW t73 true) h31 ((eqP (some (.int .i64)) none false .neq t79_30 (AV.int .i64 0)).bind fun t80 =>
  some (t80, h31)) fun t80_32 h33 =>
  (pickP t73 t80_32 (AV.bool false)).bind fun t81 =>
  condE t81 (
  (binP .add (AV.int .i64 1) q12).bind fun t85 =>
  (iaS 1 t31 t85).bind fun t86 =>
  (ldS h33 t86).bind fun t87 =>
  mk Heap.new (bsP 1 [(AV.int .i64 0)] 1 [(0, t87)]) h33 fun t88 h45 =>
  cl (appendA h45 1 8 q11 t88) fun t89 h46 =>
  k_ref4_Marker_Fields_j0 q12 t89 h46) (
  k_ref4_Marker_Fields_j0 q12 q11 h33)) (
  some ((.exit 0), [q11, q12], h20))
def k_ref4_Marker_Fields_L0 (x0 : AV) (t31 : AV) (t37 : AV) (t39 : AV) (q11 : AV) (q12 : AV) (h20 : Heap) : OutV := loopN (fun us g => k_ref4_Marker_Fields_b0 x0 t31 t37 t39 (us.getD 0 .bot) (us.getD 1 .bot) g) [q11, q12] h20
def k_ref4_Marker_Fields (x0 : AV) (x1 : AV) (h : Heap) : Option (AV × Heap) :=
  (nilV x0).bind fun t14 =>
  (faP 0 t14).bind fun t15 =>
  (ldS h t15).bind fun t16 =>
  cl (k_ref4_Arena_Find t16 x1 h) fun t18 h0 =>
  (binP .lss t18 (AV.int .i64 0)).bind fun t20 =>
  condE t20 (
  some ((AV.sl none 0 (.ex 0)), h0)) (
  (nilV x0).bind fun t22 =>
  (faP 0 t22).bind fun t23 =>
  (ldS h0 t23).bind fun t24 =>
  (nilV t24).bind fun t25 =>
  (faP 1 t25).bind fun t26 =>
  (ldS h0 t26).bind fun t27 =>
  (iaS 3 t27 t18).bind fun t29 =>
  (faP 1 t29).bind fun t30 =>
  (ldS h0 t30).bind fun t31 =>
  (iaS 1 t31 (AV.int .i64 0)).bind fun t34 =>
  (ldS h0 t34).bind fun t35 =>
  cl (k_ref1_Unpack t35 h0) fun t36 h1 =>
  (extractV 0 t36).bind fun t37 =>
  (extractV 1 t36).bind fun t38 =>
  (extractV 2 t36).bind fun t39 =>
  (extractV 3 t36).bind fun t40 =>
  (unA .not t40).bind fun t42 =>
  gQ (gdW t42 false) h1 (some (t39, h1)) fun t44 h2 =>
  gQ (gdW t42 false) h2 (some (x0, h2)) fun t45 h3 =>
  gQ (gdW t42 false) h3 ((nilV t45).bind fun t46 =>
  some (t46, h3)) fun t46_4 h5 =>
  gQ (gdW t42 false) h5 ((faP 1 t46_4).bind fun t47 =>
  some (t47, h5)) fun t47_6 h7 =>
  gQ (gdW t42 false) h7 ((ldS h7 t47_6).bind fun t48 =>
  some (t48, h7)) fun t48_8 h9 =>
  gQ (gdW t42 false) h9 ((lnL t48_8).bind fun t49 =>
  some (t49, h9)) fun t49_10 h11 =>
  gQ (gdW t42 false) h11 ((binP .geq t44 t49_10).bind fun t50 =>
  some (t50, h11)) fun t50_12 h13 =>
  (pickP t42 (AV.bool true) t50_12).bind fun t51 =>
  gQ (gdW t51 false) h13 (some (t37, h13)) fun t53 h14 =>
  gQ (gdW t51 false) h14 (some (t31, h14)) fun t54 h15 =>
  gQ (gdW t51 false) h15 ((lnL t54).bind fun t55 =>
  some (t55, h15)) fun t55_16 h17 =>
  gQ (gdW t51 false) h17 ((binP .gtr t53 t55_16).bind fun t56 =>
  some (t56, h17)) fun t56_18 h19 =>
  (pickP t51 (AV.bool true) t56_18).bind fun t57 =>
  condE t57 (
  some ((AV.sl none 0 (.ex 0)), h19)) (
  lp (k_ref4_Marker_Fields_L0 x0 t31 t37 t39 (AV.sl none 0 (.ex 0)) (AV.int .i64 0) h19) fun e vs h47 =>
  thenK (if e = .exit 0 then .normal else e) (
  some ((vs.getD 0 .bot), h47)) (fun e_48 => endE e_48 (some ((AV.sl none 0 (.ex 0)), h47)))))
def T81 : Tab := (13, p2 k_ref4_Marker_Fields) :: T80
/- 11: gantline/gantlineref17.Nums -/
def k_ref17_Nums_b0 (x0 : AV) (x1 : AV) (q4 : AV) (q5 : AV) (h0 : Heap) : OutV :=
  (lnL x0).bind fun t13 =>
  (binP .lss q5 t13).bind fun t14 =>
  condE t14 (
  (iaS 1 x0 q5).bind fun t19 =>
  (ldS h0 t19).bind fun t20 =>
  (iaS 1 x1 q5).bind fun t23 =>
  (ldS h0 t23).bind fun t24 =>
  (eqP (some (.int .i64)) none false .neq t20 t24).bind fun t25 =>
  chk [h0] [] (
  condE t25 (
  some (.ret, [(AV.bool false), q5], h0)) (
  (binP .add q5 (AV.int .i64 1)).bind fun t16 =>
  some (.normal, [q4, t16], h0)))) (
  some ((.exit 0), [q4, q5], h0))
def k_ref17_Nums_L0 (x0 : AV) (x1 : AV) (q4 : AV) (q5 : AV) (h0 : Heap) : OutV := loopN (fun us g => k_ref17_Nums_b0 x0 x1 (us.getD 0 .bot) (us.getD 1 .bot) g) [q4, q5] h0
def k_ref17_Nums (x0 : AV) (x1 : AV) (h : Heap) : Option (AV × Heap) :=
  (lnL x0).bind fun t7 =>
  (lnL x1).bind fun t9 =>
  (eqP (some (.int .i64)) none false .neq t7 t9).bind fun t10 =>
  condE t10 (
  some ((AV.bool false), h)) (
  lp (k_ref17_Nums_L0 x0 x1 (AV.bool false) (AV.int .i64 0) h) fun e vs h1 =>
  thenK (if e = .exit 0 then .normal else e) (
  some ((AV.bool true), h1)) (fun e_2 => endE e_2 (some ((vs.getD 0 .bot), h1))))
def T82 : Tab := (11, p2 k_ref17_Nums) :: T81
/- 15: (*gantline/gantlineref4.Marker).Reach -/
def k_ref4_Marker_Reach_b0 (x0 : AV) (x1 : AV) (t23 : AV) (q6 : AV) (h1 : Heap) : OutV :=
  (lnL x1).bind fun t26 =>
  (binP .lss q6 t26).bind fun t27 =>
  condE t27 (
  (nilV x0).bind fun t31 =>
  (faP 0 t31).bind fun t32 =>
  (ldS h1 t32).bind fun t33 =>
  (iaS 1 x1 q6).bind fun t36 =>
  (ldS h1 t36).bind fun t37 =>
  cl (k_ref4_Arena_Find t33 t37 h1) fun t38 h3 =>
  chk [h1, h3] [] (
  (binP .geq t38 (AV.int .i64 0)).bind fun t40 =>
  condE t40 (
  (iaS 1 t23 t38).bind fun t43 =>
  cl (stP 1 h3 t43 (AV.bool true)) fun u h9 =>
  (binP .add q6 (AV.int .i64 1)).bind fun t29_10 =>
  some (.normal, [t29_10], h9)) (
  (binP .add q6 (AV.int .i64 1)).bind fun t29_11 =>
  some (.normal, [t29_11], h3)))) (
  some ((.exit 0), [q6], h1))
def k_ref4_Marker_Reach_L0 (x0 : AV) (x1 : AV) (t23 : AV) (q6 : AV) (h1 : Heap) : OutV := loopN (fun us g => k_ref4_Marker_Reach_b0 x0 x1 t23 (us.getD 0 .bot) g) [q6] h1
def k_ref4_Marker_Reach_j0 (q11_21 : AV) (q8_59 : AV) (h60 : Heap) : OutV :=
  (binP .add q11_21 (AV.int .i64 1)).bind fun t74_61 =>
  some (.normal, [q8_59, t74_61], h60)
def k_ref4_Marker_Reach_b1 (x0 : AV) (t23 : AV) (t68 : AV) (q8_20 : AV) (q11_21 : AV) (h22 : Heap) : OutV :=
  (lnL t68).bind fun t71 =>
  (binP .lss q11_21 t71).bind fun t72 =>
  condE t72 (
  (nilV x0).bind fun t76 =>
  (faP 0 t76).bind fun t77 =>
  (ldS h22 t77).bind fun t78 =>
  (iaS 1 t68 q11_21).bind fun t81 =>
  (ldS h22 t81).bind fun t82 =>
  cl (k_ref4_Arena_Find t78 t82 h22) fun t83 h47 =>
  chk [h22, h47] [] (
  (binP .geq t83 (AV.int .i64 0)).bind fun t85 =>
  gQ (gdW t85 true) h47 (some (t23, h47)) fun t87 h48 =>
  gQ (gdW t85 true) h48 (some (t83, h48)) fun t88 h49 =>
  gQ (gdW t85 true) h49 ((iaS 1 t87 t88).bind fun t89 =>
  some (t89, h49)) fun t89_50 h51 =>
  gQ (gdW t85 true) h51 ((ldS h51 t89_50).bind fun t90 =>
  some (t90, h51)) fun t90_52 h53 =>
  gQ (gdW t85 true) h53 ((unA .not t90_52).bind fun t91 =>
  some (t91, h53)) fun t91_54 h55 =>
  (pickP t85 t91_54 (AV.bool false)).bind fun t92 =>
  condE t92 (
  (iaS 1 t23 t83).bind fun t95 =>
  cl (stP 1 h55 t95 (AV.bool true)) fun u_62 h63 =>
  k_ref4_Marker_Reach_j0 q11_21 (AV.bool true) h63) (
  k_ref4_Marker_Reach_j0 q11_21 q8_20 h55))) (
  some ((.exit 6), [q8_20, q11_21], h22))
def k_ref4_Marker_Reach_L1 (x0 : AV) (t23 : AV) (t68 : AV) (q8_20 : AV) (q11_21 : AV) (h22 : Heap) : OutV := loopN (fun us g => k_ref4_Marker_Reach_b1 x0 t23 t68 (us.getD 0 .bot) (us.getD 1 .bot) g) [q8_20, q11_21] h22
def k_ref4_Marker_Reach_b2 (x0 : AV) (t23 : AV) (q8_14 : AV) (q9 : AV) (h15 : Heap) : OutV :=
  (lnL t23).bind fun t47 =>
  (binP .lss q9 t47).bind fun t48 =>
  condE t48 (
  (iaS 1 t23 q9).bind fun t53 =>
  (ldS h15 t53).bind fun t54 =>
  (unA .not t54).bind fun t55 =>
  condE t55 (
  (binP .add q9 (AV.int .i64 1)).bind fun t50_18 =>
  some (.normal, [q8_14, t50_18], h15)) (
  (nilV x0).bind fun t58 =>
  (faP 0 t58).bind fun t59 =>
  (ldS h15 t59).bind fun t60 =>
  (nilV t60).bind fun t61 =>
  (faP 1 t61).bind fun t62 =>
  (ldS h15 t62).bind fun t63 =>
  (iaS 3 t63 q9).bind fun t65 =>
  (faP 0 t65).bind fun t66 =>
  (ldS h15 t66).bind fun t67 =>
  cl (k_ref4_Marker_Fields x0 t67 h15) fun t68 h19 =>
  lp (k_ref4_Marker_Reach_L1 x0 t23 t68 q8_14 (AV.int .i64 0) h19) fun e_64 vs_65 h66 =>
  thenK (if (if e_64 = .exit 6 then .normal else e_64) = .exit 5 then .normal else (if e_64 = .exit 6 then .normal else e_64)) (
  (binP .add q9 (AV.int .i64 1)).bind fun t50_67 =>
  some (.normal, [(vs_65.getD 0 .bot), t50_67], h66)) (fun e_68 => some (e_68, [(vs_65.getD 0 .bot), q9], h66)))) (
  some ((.exit 4), [q8_14, q9], h15))
def k_ref4_Marker_Reach_L2 (x0 : AV) (t23 : AV) (q8_14 : AV) (q9 : AV) (h15 : Heap) : OutV := loopN (fun us g => k_ref4_Marker_Reach_b2 x0 t23 (us.getD 0 .bot) (us.getD 1 .bot) g) [q8_14, q9] h15
def k_ref4_Marker_Reach_b3 (x0 : AV) (t23 : AV) (q8 : AV) (h13 : Heap) : OutV :=
  condE q8 (
  lp (k_ref4_Marker_Reach_L2 x0 t23 (AV.bool false) (AV.int .i64 0) h13) fun e_69 vs_70 h71 =>
  some ((if (if e_69 = .exit 4 then .normal else e_69) = .exit 3 then .normal else (if e_69 = .exit 4 then .normal else e_69)), [(vs_70.getD 0 .bot)], h71)) (
  some ((.exit 2), [q8], h13))
def k_ref4_Marker_Reach_L3 (x0 : AV) (t23 : AV) (q8 : AV) (h13 : Heap) : OutV := loopN (fun us g => k_ref4_Marker_Reach_b3 x0 t23 (us.getD 0 .bot) g) [q8] h13
def k_ref4_Marker_Reach_j1 (q14 : AV) (q13_92 : AV) (h93 : Heap) : OutV :=
  (binP .add q14 (AV.int .i64 1)).bind fun t101_94 =>
  some (.normal, [q13_92, t101_94], h93)
def k_ref4_Marker_Reach_b4 (x0 : AV) (t23 : AV) (q13 : AV) (q14 : AV) (h75 : Heap) : OutV :=
  (lnL t23).bind fun t98 =>
  (binP .lss q14 t98).bind fun t99 =>
  condE t99 (
  (iaS 1 t23 q14).bind fun t104 =>
  (ldS h75 t104).bind fun t105 =>
  condE t105 (
  (nilV x0).bind fun t108 =>
  (faP 0 t108).bind fun t109 =>
  (ldS h75 t109).bind fun t110 =>
  (nilV t110).bind fun t111 =>
  (faP 1 t111).bind fun t112 =>
  (ldS h75 t112).bind fun t113 =>
  (iaS 3 t113 q14).bind fun t115 =>
  (faP 0 t115).bind fun t116 =>
  (ldS h75 t116).bind fun t117 =>
  mk Heap.new (bsP 1 [(AV.int .i64 0)] 1 [(0, t117)]) h75 fun t118 h95 =>
  cl (appendA h95 1 8 q13 t118) fun t119 h96 =>
  k_ref4_Marker_Reach_j1 q14 t119 h96) (
  k_ref4_Marker_Reach_j1 q14 q13 h75)) (
  some ((.exit 8), [q13, q14], h75))
def k_ref4_Marker_Reach_L4 (x0 : AV) (t23 : AV) (q13 : AV) (q14 : AV) (h75 : Heap) : OutV := loopN (fun us g => k_ref4_Marker_Reach_b4 x0 t23 (us.getD 0 .bot) (us.getD 1 .bot) g) [q13, q14] h75
def k_ref4_Marker_Reach (x0 : AV) (x1 : AV) (h : Heap) : Option (AV × Heap) :=
  (nilV x0).bind fun t16 =>
  (faP 0 t16).bind fun t17 =>
  (ldS h t17).bind fun t18 =>
  (nilV t18).bind fun t19 =>
  (faP 1 t19).bind fun t20 =>
  (ldS h t20).bind fun t21 =>
  (lnL t21).bind fun t22 =>
  mk Heap.new (msP 1 1 [(AV.bool false)] t22 t22) h fun t23 h0 =>
  lp (k_ref4_Marker_Reach_L0 x0 x1 t23 (AV.int .i64 0) h0) fun e vs h12 =>
  thenK (if e = .exit 0 then .normal else e) (
  lp (k_ref4_Marker_Reach_L3 x0 t23 (AV.bool true) h12) fun e_72 vs_73 h74 =>
  thenK (if e_72 = .exit 2 then .normal else e_72) (
  lp (k_ref4_Marker_Reach_L4 x0 t23 (AV.sl none 0 (.ex 0)) (AV.int .i64 0) h74) fun e_97 vs_98 h99 =>
  thenK (if e_97 = .exit 8 then .normal else e_97) (
  some ((vs_98.getD 0 .bot), h99)) (fun e_100 => endE e_100 (some ((AV.sl none 0 (.ex 0)), h99)))) (fun e_101 => endE e_101 (some ((AV.sl none 0 (.ex 0)), h74)))) (fun e_102 => endE e_102 (some ((AV.sl none 0 (.ex 0)), h12)))
def T83 : Tab := (15, p2 k_ref4_Marker_Reach) :: T82
/- 17: (*gantline/gantlineref4.Marker).Step -/
def k_ref4_Marker_Step_b0 (x0 : AV) (t18 : AV) (q4 : AV) (h2 : Heap) : OutV :=
  (lnL t18).bind fun t29 =>
  (binP .lss q4 t29).bind fun t30 =>
  condE t30 (
  (iaS 1 t18 q4).bind fun t36 =>
  (ldS h2 t36).bind fun t37 =>
  cl (k_ref4_Marker_Shade x0 t37 h2) fun t38 h3 =>
  (binP .add q4 (AV.int .i64 1)).bind fun t32 =>
  some (.normal, [t32], h3)) (
  some ((.exit 0), [q4], h2))
def k_ref4_Marker_Step_L0 (x0 : AV) (t18 : AV) (q4 : AV) (h2 : Heap) : OutV := loopN (fun us g => k_ref4_Marker_Step_b0 x0 t18 (us.getD 0 .bot) g) [q4] h2
def k_ref4_Marker_Step (x0 : AV) (h : Heap) : Option (AV × Heap) :=
  (nilV x0).bind fun t6 =>
  (faP 2 t6).bind fun t7 =>
  (ldS h t7).bind fun t8 =>
  (lnL t8).bind fun t9 =>
  (eqP (some (.int .i64)) none false .eql t9 (AV.int .i64 0)).bind fun t10 =>
  condE t10 (
  some ((AV.bool false), h)) (
  (nilV x0).bind fun t13 =>
  (faP 2 t13).bind fun t14 =>
  (ldS h t14).bind fun t15 =>
  (iaS 1 t15 (AV.int .i64 0)).bind fun t16 =>
  (ldS h t16).bind fun t17 =>
  cl (k_ref4_Marker_Fields x0 t17 h) fun t18 h0 =>
  (nilV x0).bind fun t21 =>
  (faP 2 t21).bind fun t22 =>
  (ldS h0 t22).bind fun t23 =>
  (slcP 1 t23 (some (AV.int .i64 1)) none none).bind fun t24 =>
  (nilV x0).bind fun t25 =>
  (faP 2 t25).bind fun t26 =>
  cl (stP 1 h0 t26 t24) fun u h1 =>
  lp (k_ref4_Marker_Step_L0 x0 t18 (AV.int .i64 0) h1) fun e vs h4 =>
  thenK (if e = .exit 0 then .normal else e) (
  some ((AV.bool true), h4)) (fun e_5 => endE e_5 (some ((AV.bool false), h4))))
def T84 : Tab := (17, p1 k_ref4_Marker_Step) :: T83
/- 56: gantline/gantlineref1.Place -/
def k_ref1_Place (x0 : AV) (x1 : AV) (h : Heap) : Option (AV × Heap) :=
  cl (k_ref1_Words x1 h) fun t6 h0 =>
  (eqP (some (.int .i64)) none false .eql t6 (AV.int .i64 0)).bind fun t7 =>
  gQ (gdW t7 false) h0 (some (x0, h0)) fun t9 h1 =>
  gQ (gdW t7 false) h1 (cl (k_ref1_Span t9 h1) fun t10 h2 =>
  some (t10, h2)) fun t10_3 h4 =>
  gQ (gdW t7 false) h4 ((binP .lss t10_3 (AV.int .i64 0)).bind fun t11 =>
  some (t11, h4)) fun t11_5 h6 =>
  (pickP t7 (AV.bool true) t11_5).bind fun t12 =>
  gQ (gdW t12 false) h6 (some (x0, h6)) fun t14 h7 =>
  gQ (gdW t12 false) h7 ((binP .rem t14 (AV.int .i64 64)).bind fun t15 =>
  some (t15, h7)) fun t15_8 h9 =>
  gQ (gdW t12 false) h9 (some (x1, h9)) fun t16 h10 =>
  gQ (gdW t12 false) h10 (cl (k_ref1_Words t16 h10) fun t17 h11 =>
  some (t17, h11)) fun t17_12 h13 =>
  gQ (gdW t12 false) h13 ((binP .rem t15_8 t17_12).bind fun t18 =>
  some (t18, h13)) fun t18_14 h15 =>
  gQ (gdW t12 false) h15 ((eqP (some (.int .i64)) none false .neq t18_14 (AV.int .i64 0)).bind fun t19 =>
  some (t19, h15)) fun t19_16 h17 =>
  (pickP t12 (AV.bool true) t19_16).bind fun t20 =>
  condE t20 (
  some ((AV.int .i64 (-1)), h17)) (
  (binP .rem x0 (AV.int .i64 64)).bind fun t22 =>
  cl (k_ref1_Words x1 h17) fun t24 h18 =>
  (binP .quo t22 t24).bind fun t25 =>
  some (t25, h18))
def T85 : Tab := (56, p2 k_ref1_Place) :: T84
/- 19: (*gantline/gantlineref4.Arena).Maps -/
def k_ref4_Arena_Maps_j0 (q8 : AV) (q6_27 : AV) (q7_39 : AV) (h40 : Heap) : OutV :=
  (binP .add q8 (AV.int .i64 1)).bind fun t18_41 =>
  some (.normal, [q6_27, q7_39, t18_41], h40)
def k_ref4_Arena_Maps_b0 (x0 : AV) (x1 : AV) (q6 : AV) (q7 : AV) (q8 : AV) (h0 : Heap) : OutV :=
  (nilV x0).bind fun t12 =>
  (faP 1 t12).bind fun t13 =>
  (ldS h0 t13).bind fun t14 =>
  (lnL t14).bind fun t15 =>
  (binP .lss q8 t15).bind fun t16 =>
  condE t16 (
  (nilV x0).bind fun t20 =>
  (faP 1 t20).bind fun t21 =>
  (ldS h0 t21).bind fun t22 =>
  (iaS 3 t22 q8).bind fun t24 =>
  (faP 0 t24).bind fun t25 =>
  (ldS h0 t25).bind fun t26 =>
  cl (k_ref1_Span t26 h0) fun t27 h4 =>
  (eqP (some (.int .i64)) none false .eql t27 x1).bind fun t29 =>
  condE t29 (
  (nilV x0).bind fun t31 =>
  (faP 1 t31).bind fun t32 =>
  (ldS h4 t32).bind fun t33 =>
  (iaS 3 t33 q8).bind fun t35 =>
  (faP 0 t35).bind fun t36 =>
  (ldS h4 t36).bind fun t37 =>
  (nilV x0).bind fun t39 =>
  (faP 0 t39).bind fun t40 =>
  (ldS h4 t40).bind fun t41 =>
  (iaS 1 t41 x1).bind fun t43 =>
  (ldS h4 t43).bind fun t44 =>
  cl (k_ref1_Place t37 t44 h4) fun t45 h42 =>
  (cvI .u64 t45).bind fun t46 =>
  (binP .shl (AV.int .u64 1) t46).bind fun t47 =>
  chk [h4, h42] [] (
  (binP .or q6 t47).bind fun t50 =>
  (nilV x0).bind fun t52 =>
  (faP 1 t52).bind fun t53 =>
  (ldS h42 t53).bind fun t54 =>
  (iaS 3 t54 q8).bind fun t56 =>
  (faP 2 t56).bind fun t57 =>
  (ldS h42 t57).bind fun t58 =>
  condE t58 (
  (binP .or q7 t47).bind fun t61 =>
  k_ref4_Arena_Maps_j0 q8 t50 t61 h42) (
  k_ref4_Arena_Maps_j0 q8 t50 q7 h42))) (
  k_ref4_Arena_Maps_j0 q8 q6 q7 h4)) (
  some ((.exit 0), [q6, q7, q8], h0))
def k_ref4_Arena_Maps_L0 (x0 : AV) (x1 : AV) (q6 : AV) (q7 : AV) (q8 : AV) (h0 : Heap) : OutV := loopN (fun us g => k_ref4_Arena_Maps_b0 x0 x1 (us.getD 0 .bot) (us.getD 1 .bot) (us.getD 2 .bot) g) [q6, q7, q8] h0
def k_ref4_Arena_Maps (x0 : AV) (x1 : AV) (h : Heap) : Option (AV × Heap) :=
  lp (k_ref4_Arena_Maps_L0 x0 x1 (AV.int .u64 0) (AV.int .u64 0) (AV.int .i64 0) h) fun e vs h48 =>
  thenK (if e = .exit 0 then .normal else e) (
  some (AV.tup [(vs.getD 0 .bot), (vs.getD 1 .bot)], h48)) (fun e_49 => endE e_49 (some (AV.tup [(AV.int .u64 0), (AV.int .u64 0)], h48)))
def T86 : Tab := (19, p2 k_ref4_Arena_Maps) :: T85
/- 3: gantline/gantlinelaw7.MarkSteps -/
def k_law7_MarkSteps_b0 (x2 : AV) (t47 : AV) (t48 : AV) (t49 : AV) (q13 : AV) (h18 : Heap) : OutV :=
  (lnL x2).bind fun t54 =>
  (binP .lss q13 t54).bind fun t55 =>
  condE t55 (
  (lnL t49).bind fun t59 =>
  (binP .gtr t59 (AV.int .i64 0)).bind fun t60 =>
  gQ (gdW t60 true) h18 (some (t49, h18)) fun t62 h20 =>
  gQ (gdW t60 true) h20 (some (q13, h20)) fun t63 h21 =>
  gQ (gdW t60 true) h21 (some (t49, h21)) fun t64 h22 =>
  gQ (gdW t60 true) h22 ((lnL t64).bind fun t65 =>
  some (t65, h22)) fun t65_23 h24 =>
  gQ (gdW t60 true) h24 ((binP .rem t63 t65_23).bind fun t66 =>
  some (t66, h24)) fun t66_25 h26 =>
  gQ (gdW t60 true) h26 ((iaS 1 t62 t66_25).bind fun t67 =>
  some (t67, h26)) fun t67_27 h28 =>
  gQ (gdW t60 true) h28 ((ldS h28 t67_27).bind fun t68 =>
  some (t68, h28)) fun t68_29 h30 =>
  gQ (gdW t60 true) h30 ((eqP (some (.int .i64)) none false .neq t68_29 (AV.int .i64 0)).bind fun t69 =>
  some (t69, h30)) fun t69_31 h32 =>
  (pickP t60 t69_31 (AV.bool false)).bind fun t70 =>
  condE t70 (
  (nilV t47).bind fun t73 =>
  (faP 0 t73).bind fun t74 =>
  (ldS h32 t74).bind fun t75 =>
  (lnL t49).bind fun t79 =>
  (binP .rem q13 t79).bind fun t80 =>
  (iaS 1 t49 t80).bind fun t81 =>
  (ldS h32 t81).bind fun t82 =>
  (iaS 1 x2 q13).bind fun t85 =>
  (ldS h32 t85).bind fun t86 =>
  cl (k_law7_put t48 t75 t82 (AV.int .i64 0) t86 h32) fun t87 h52 =>
  chk [h32, h52] [] (
  (binP .add q13 (AV.int .i64 1)).bind fun t57_53 =>
  some (.normal, [t57_53], h52))) (
  (binP .add q13 (AV.int .i64 1)).bind fun t57_54 =>
  some (.normal, [t57_54], h32))) (
  some ((.exit 0), [q13], h18))
def k_law7_MarkSteps_L0 (x2 : AV) (t47 : AV) (t48 : AV) (t49 : AV) (q13 : AV) (h18 : Heap) : OutV := loopN (fun us g => k_law7_MarkSteps_b0 x2 t47 t48 t49 (us.getD 0 .bot) g) [q13] h18
def k_law7_MarkSteps_j0 (t46 : AV) (t47 : AV) (q8 : AV) (q14 : AV) (q15 : AV) (h68 : Heap) : OutV :=
  cl (k_mark_Marker_Shade t46 q15 h68) fun t121 h69 =>
  cl (k_ref4_Marker_Shade t47 q15 h69) fun t124 h70 =>
  (eqP (some .bool) none false .neq t121 t124).bind fun t125 =>
  gQ (gdW t125 false) h70 (some (t46, h70)) fun t127 h71 =>
  gQ (gdW t125 false) h71 (some (q15, h71)) fun t128 h72 =>
  gQ (gdW t125 false) h72 (cl (k_mark_Marker_Fields t127 t128 h72) fun t129 h73 =>
  some (t129, h73)) fun t129_74 h75 =>
  gQ (gdW t125 false) h75 (some (t47, h75)) fun t130 h76 =>
  gQ (gdW t125 false) h76 (some (q15, h76)) fun t131 h77 =>
  gQ (gdW t125 false) h77 (cl (k_ref4_Marker_Fields t130 t131 h77) fun t132 h78 =>
  some (t132, h78)) fun t132_79 h80 =>
  gQ (gdW t125 false) h80 (cl (k_ref17_Nums t129_74 t132_79 h80) fun t133 h81 =>
  some (t133, h81)) fun t133_82 h83 =>
  gQ (gdW t125 false) h83 ((unA .not t133_82).bind fun t134 =>
  some (t134, h83)) fun t134_84 h85 =>
  (pickP t125 (AV.bool true) t134_84).bind fun t135 =>
  gQ (gdW t135 false) h85 (some (t46, h85)) fun t137 h86 =>
  gQ (gdW t135 false) h86 (some (q15, h86)) fun t138 h87 =>
  gQ (gdW t135 false) h87 (mk Heap.new (bsP 1 [(AV.int .i64 0)] 1 [(0, t138)]) h87 fun t139 h88 =>
  some (t139, h88)) fun t139_89 h90 =>
  gQ (gdW t135 false) h90 (cl (k_mark_Marker_Reach t137 t139_89 h90) fun t140 h91 =>
  some (t140, h91)) fun t140_92 h93 =>
  gQ (gdW t135 false) h93 (some (t47, h93)) fun t141 h94 =>
  gQ (gdW t135 false) h94 (some (q15, h94)) fun t142 h95 =>
  gQ (gdW t135 false) h95 (mk Heap.new (bsP 1 [(AV.int .i64 0)] 1 [(0, t142)]) h95 fun t143 h96 =>
  some (t143, h96)) fun t143_97 h98 =>
  gQ (gdW t135 false) h98 (cl (k_ref4_Marker_Reach t141 t143_97 h98) fun t144 h99 =>
  some (t144, h99)) fun t144_100 h101 =>
  gQ (gdW t135 false) h101 (cl (k_ref17_Nums t140_92 t144_100 h101) fun t145 h102 =>
  some (t145, h102)) fun t145_103 h104 =>
  gQ (gdW t135 false) h104 ((unA .not t145_103).bind fun t146 =>
  some (t146, h104)) fun t146_105 h106 =>
  (pickP t135 (AV.bool true) t146_105).bind fun t147 =>
  condE t147 (
  some (.ret, [(AV.bool false), q14], h106)) (
  (binP .add q14 (AV.int .i64 1)).bind fun t93 =>
  some (.normal, [q8, t93], h106))
def k_law7_MarkSteps_b1 (x1 : AV) (t46 : AV) (t47 : AV) (t49 : AV) (q8 : AV) (q14 : AV) (h56 : Heap) : OutV :=
  (lnL x1).bind fun t90 =>
  (binP .lss q14 t90).bind fun t91 =>
  condE t91 (
  (iaS 1 x1 q14).bind fun t96 =>
  (ldS h56 t96).bind fun t97 =>
  (iaS 1 x1 q14).bind fun t100 =>
  (ldS h56 t100).bind fun t101 =>
  (binP .geq t101 (AV.int .i64 0)).bind fun t102 =>
  gQ (gdW t102 true) h56 (some (x1, h56)) fun t104 h57 =>
  gQ (gdW t102 true) h57 (some (q14, h57)) fun t105 h58 =>
  gQ (gdW t102 true) h58 ((iaS 1 t104 t105).bind fun t106 =>
  some (t106, h58)) fun t106_59 h60 =>
  gQ (gdW t102 true) h60 ((ldS h60 t106_59).bind fun t107 =>
  some (t107, h60)) fun t107_61 h62 =>
  gQ (gdW t102 true) h62 (some (t49, h62)) fun t108 h63 =>
  gQ (gdW t102 true) h63 ((lnL t108).bind fun t109 =>
  some (t109, h63)) fun t109_64 h65 =>
  gQ (gdW t102 true) h65 ((binP .lss t107_61 t109_64).bind fun t110 =>
  some (t110, h65)) fun t110_66 h67 =>
  (pickP t102 t110_66 (AV.bool false)).bind fun t111 =>
  condE t111 (
  (iaS 1 x1 q14).bind fun t115 =>
  (ldS h67 t115).bind fun t116 =>
  (iaS 1 t49 t116).bind fun t117 =>
  (ldS h67 t117).bind fun t118 =>
  k_law7_MarkSteps_j0 t46 t47 q8 q14 t118 h67) (
  k_law7_MarkSteps_j0 t46 t47 q8 q14 t97 h67)) (
  some ((.exit 2), [q8, q14], h56))
def k_law7_MarkSteps_L1 (x1 : AV) (t46 : AV) (t47 : AV) (t49 : AV) (q8 : AV) (q14 : AV) (h56 : Heap) : OutV := loopN (fun us g => k_law7_MarkSteps_b1 x1 t46 t47 t49 (us.getD 0 .bot) (us.getD 1 .bot) g) [q8, q14] h56
def k_law7_MarkSteps_b2 (x3 : AV) (t46 : AV) (t47 : AV) (q8_110 : AV) (q16 : AV) (h111 : Heap) : OutV :=
  (binP .lss q16 x3).bind fun t150 =>
  condE t150 (
  cl (k_mark_Marker_Step t46 h111) fun t154 h112 =>
  cl (k_ref4_Marker_Step t47 h112) fun t156 h113 =>
  (eqP (some .bool) none false .neq t154 t156).bind fun t157 =>
  (gV (gdW t157 false) (some t46) (.tup [])).bind fun t159 =>
  gQ (gdW t157 false) h113 (cl (k_mark_Marker_Left t159 h113) fun t160 h114 =>
  some (t160, h114)) fun t160_115 h116 =>
  (gV (gdW t157 false) (some t47) (.tup [])).bind fun t161 =>
  (gV (gdW t157 false) (nilV t161) (.tup [])).bind fun t162 =>
  (gV (gdW t157 false) (faP 2 t162) (.tup [])).bind fun t163 =>
  clC (gV (gdW t157 false) (rdC (fun g => ldS g t163) h116 2 3 []) (.tup [], [])) fun t164 cs =>
  (gV (gdW t157 false) (lnL t164) (.tup [])).bind fun t165 =>
  (gV (gdW t157 false) (eqP (some (.int .i64)) none false .neq t160_115 t165) (.tup [])).bind fun t166 =>
  (pickP t157 (AV.bool true) t166).bind fun t167 =>
  chk [h111, h112, h113, h116] cs (
  condE t167 (
  some (.ret, [(AV.bool false), q16], h116)) (
  (binP .add q16 (AV.int .i64 1)).bind fun t152 =>
  some (.normal, [q8_110, t152], h116)))) (
  some ((.exit 4), [q8_110, q16], h111))
def k_law7_MarkSteps_L2 (x3 : AV) (t46 : AV) (t47 : AV) (q8_110 : AV) (q16 : AV) (h111 : Heap) : OutV := loopN (fun us g => k_law7_MarkSteps_b2 x3 t46 t47 (us.getD 0 .bot) (us.getD 1 .bot) g) [q8_110, q16] h111
def k_law7_MarkSteps_b3 (t47 : AV) (t48 : AV) (q8_120 : AV) (q17 : AV) (h121 : Heap) : OutV :=
  (binP .lss q17 (AV.int .i64 10)).bind fun t169 =>
  condE t169 (
  (nilV t47).bind fun t174 =>
  (faP 0 t174).bind fun t175 =>
  (ldS h121 t175).bind fun t176 =>
  cl (k_ref4_Arena_Maps t176 q17 h121) fun t178 h122 =>
  (extractV 0 t178).bind fun t179 =>
  (extractV 1 t178).bind fun t180 =>
  cl (k_arena_Arena_Marked t48 q17 h122) fun t183 h123 =>
  (eqP (some (.int .u64)) none false .neq t183 t180).bind fun t185 =>
  condE t185 (
  some (.ret, [(AV.bool false), q17], h123)) (
  (binP .add q17 (AV.int .i64 1)).bind fun t171 =>
  some (.normal, [q8_120, t171], h123))) (
  some ((.exit 6), [q8_120, q17], h121))
def k_law7_MarkSteps_L3 (t47 : AV) (t48 : AV) (q8_120 : AV) (q17 : AV) (h121 : Heap) : OutV := loopN (fun us g => k_law7_MarkSteps_b3 t47 t48 (us.getD 0 .bot) (us.getD 1 .bot) g) [q8_120, q17] h121
def k_law7_MarkSteps (x0 : AV) (x1 : AV) (x2 : AV) (x3 : AV) (h : Heap) : Option (AV × Heap) :=
  cl (k_law7_awake h) fun t20 h0 =>
  (unA .not t20).bind fun t21 =>
  condE t21 (
  some ((AV.bool false), h0)) (
  (lnL x0).bind fun t23 =>
  (binP .gtr t23 (AV.int .i64 30)).bind fun t24 =>
  gQ (gdW t24 false) h0 (some (x1, h0)) fun t26 h1 =>
  gQ (gdW t24 false) h1 ((lnL t26).bind fun t27 =>
  some (t27, h1)) fun t27_2 h3 =>
  gQ (gdW t24 false) h3 ((binP .gtr t27_2 (AV.int .i64 20)).bind fun t28 =>
  some (t28, h3)) fun t28_4 h5 =>
  (pickP t24 (AV.bool true) t28_4).bind fun t29 =>
  gQ (gdW t29 false) h5 (some (x2, h5)) fun t31 h6 =>
  gQ (gdW t29 false) h6 ((lnL t31).bind fun t32 =>
  some (t32, h6)) fun t32_7 h8 =>
  gQ (gdW t29 false) h8 ((binP .gtr t32_7 (AV.int .i64 20)).bind fun t33 =>
  some (t33, h8)) fun t33_9 h10 =>
  (pickP t29 (AV.bool true) t33_9).bind fun t34 =>
  gQ (gdW t34 false) h10 (some (x3, h10)) fun t36 h11 =>
  gQ (gdW t34 false) h11 ((binP .lss t36 (AV.int .i64 0)).bind fun t37 =>
  some (t37, h11)) fun t37_12 h13 =>
  (pickP t34 (AV.bool true) t37_12).bind fun t38 =>
  gQ (gdW t38 false) h13 (some (x3, h13)) fun t40 h14 =>
  gQ (gdW t38 false) h14 ((binP .gtr t40 (AV.int .i64 60)).bind fun t41 =>
  some (t41, h14)) fun t41_15 h16 =>
  (pickP t38 (AV.bool true) t41_15).bind fun t42 =>
  condE t42 (
  some ((AV.bool true), h16)) (
  cl (k_law7_world (AV.int .i64 10) x0 h16) fun t45 h17 =>
  (extractV 0 t45).bind fun t46 =>
  (extractV 1 t45).bind fun t47 =>
  (extractV 2 t45).bind fun t48 =>
  (extractV 3 t45).bind fun t49 =>
  (eqP (some (.pointer 0)) none false .eql t46 (AV.ptr none)).bind fun t51 =>
  condE t51 (
  some ((AV.bool false), h17)) (
  lp (k_law7_MarkSteps_L0 x2 t47 t48 t49 (AV.int .i64 0) h17) fun e vs h55 =>
  thenK (if e = .exit 0 then .normal else e) (
  lp (k_law7_MarkSteps_L1 x1 t46 t47 t49 (AV.bool false) (AV.int .i64 0) h55) fun e_107 vs_108 h109 =>
  thenK (if e_107 = .exit 2 then .normal else e_107) (
  lp (k_law7_MarkSteps_L2 x3 t46 t47 (vs_108.getD 0 .bot) (AV.int .i64 0) h109) fun e_117 vs_118 h119 =>
  thenK (if e_117 = .exit 4 then .normal else e_117) (
  lp (k_law7_MarkSteps_L3 t47 t48 (vs_118.getD 0 .bot) (AV.int .i64 1) h119) fun e_124 vs_125 h126 =>
  thenK (if e_124 = .exit 6 then .normal else e_124) (
  some ((AV.bool true), h126)) (fun e_127 => endE e_127 (some ((vs_125.getD 0 .bot), h126)))) (fun e_128 => endE e_128 (some ((vs_118.getD 0 .bot), h119)))) (fun e_129 => endE e_129 (some ((vs_108.getD 0 .bot), h109)))) (fun e_130 => endE e_130 (some ((AV.bool false), h55))))))
def T87 : Tab := (3, p4 k_law7_MarkSteps) :: T86
/- 23: gantline/gantlineref1.Ones -/
def k_ref1_Ones_b0 (x0 : AV) (q3 : AV) (q4 : AV) (h0 : Heap) : OutV :=
  (binP .lss q4 (AV.int .i64 64)).bind fun t6 =>
  condE t6 (
  cl (k_ref1_Bit x0 q4 h0) fun t11 h3 =>
  condE t11 (
  (binP .add q3 (AV.int .i64 1)).bind fun t13 =>
  (binP .add q4 (AV.int .i64 1)).bind fun t8_9 =>
  some (.normal, [t13, t8_9], h3)) (
  (binP .add q4 (AV.int .i64 1)).bind fun t8_10 =>
  some (.normal, [q3, t8_10], h3))) (
  some ((.exit 0), [q3, q4], h0))
def k_ref1_Ones_L0 (x0 : AV) (q3 : AV) (q4 : AV) (h0 : Heap) : OutV := loopN (fun us g => k_ref1_Ones_b0 x0 (us.getD 0 .bot) (us.getD 1 .bot) g) [q3, q4] h0
def k_ref1_Ones (x0 : AV) (h : Heap) : Option (AV × Heap) :=
  lp (k_ref1_Ones_L0 x0 (AV.int .i64 0) (AV.int .i64 0) h) fun e vs h11 =>
  thenK (if e = .exit 0 then .normal else e) (
  some ((vs.getD 0 .bot), h11)) (fun e_12 => endE e_12 (some ((AV.int .i64 0), h11)))
def T88 : Tab := (23, p1 k_ref1_Ones) :: T87
/- 4: gantline/gantlinelaw7.MarkAll -/
def k_law7_MarkAll_b0 (x1 : AV) (t29 : AV) (t32 : AV) (q9 : AV) (q10 : AV) (h7 : Heap) : OutV :=
  (lnL x1).bind fun t37 =>
  (binP .lss q10 t37).bind fun t38 =>
  condE t38 (
  (iaS 1 x1 q10).bind fun t43 =>
  (ldS h7 t43).bind fun t44 =>
  (binP .geq t44 (AV.int .i64 0)).bind fun t45 =>
  gQ (gdW t45 true) h7 (some (x1, h7)) fun t47 h10 =>
  gQ (gdW t45 true) h10 (some (q10, h10)) fun t48 h11 =>
  gQ (gdW t45 true) h11 ((iaS 1 t47 t48).bind fun t49 =>
  some (t49, h11)) fun t49_12 h13 =>
  gQ (gdW t45 true) h13 ((ldS h13 t49_12).bind fun t50 =>
  some (t50, h13)) fun t50_14 h15 =>
  gQ (gdW t45 true) h15 (some (t32, h15)) fun t51 h16 =>
  gQ (gdW t45 true) h16 ((lnL t51).bind fun t52 =>
  some (t52, h16)) fun t52_17 h18 =>
  gQ (gdW t45 true) h18 ((binP .lss t50_14 t52_17).bind fun t53 =>
  some (t53, h18)) fun t53_19 h20 =>
  (pickP t45 t53_19 (AV.bool false)).bind fun t54 =>
  condE t54 (
  (iaS 1 x1 q10).bind fun t59 =>
  (ldS h20 t59).bind fun t60 =>
  (iaS 1 t32 t60).bind fun t61 =>
  (ldS h20 t61).bind fun t62 =>
  mk Heap.new (bsP 1 [(AV.int .i64 0)] 1 [(0, t62)]) h20 fun t63 h43 =>
  cl (appendA h43 1 8 q9 t63) fun t64 h44 =>
  (iaS 1 x1 q10).bind fun t69 =>
  (ldS h44 t69).bind fun t70 =>
  (iaS 1 t32 t70).bind fun t71 =>
  (ldS h44 t71).bind fun t72 =>
  cl (k_mark_Marker_Shade t29 t72 h44) fun t73 h45 =>
  (binP .add q10 (AV.int .i64 1)).bind fun t40_46 =>
  some (.normal, [t64, t40_46], h45)) (
  (binP .add q10 (AV.int .i64 1)).bind fun t40_47 =>
  some (.normal, [q9, t40_47], h20))) (
  some ((.exit 0), [q9, q10], h7))
def k_law7_MarkAll_L0 (x1 : AV) (t29 : AV) (t32 : AV) (q9 : AV) (q10 : AV) (h7 : Heap) : OutV := loopN (fun us g => k_law7_MarkAll_b0 x1 t29 t32 (us.getD 0 .bot) (us.getD 1 .bot) g) [q9, q10] h7
def k_law7_MarkAll_b1 (t29 : AV) (q12 : AV) (h50 : Heap) : OutV :=
  cl (k_mark_Marker_Step t29 h50) fun t78 h51 =>
  condE t78 (
  (binP .add q12 (AV.int .i64 1)).bind fun t80 =>
  some (.normal, [t80], h51)) (
  some ((.exit 2), [q12], h51))
def k_law7_MarkAll_L1 (t29 : AV) (q12 : AV) (h50 : Heap) : OutV := loopN (fun us g => k_law7_MarkAll_b1 t29 (us.getD 0 .bot) g) [q12] h50
def k_law7_MarkAll_b2 (t31 : AV) (t76 : AV) (q4 : AV) (q13 : AV) (h55 : Heap) : OutV :=
  (lnL t76).bind fun t83 =>
  (binP .lss q13 t83).bind fun t84 =>
  condE t84 (
  (iaS 1 t76 q13).bind fun t90 =>
  (ldS h55 t90).bind fun t91 =>
  cl (k_arena_Arena_Mark t31 t91 h55) fun t92 h56 =>
  (gV (gdW t92 false) (some t31) (.tup [])).bind fun t94 =>
  (gV (gdW t92 false) (some t76) (.tup [])).bind fun t95 =>
  (gV (gdW t92 false) (some q13) (.tup [])).bind fun t96 =>
  (gV (gdW t92 false) (iaS 1 t95 t96) (.tup [])).bind fun t97 =>
  (gV (gdW t92 false) (ldS h56 t97) (.tup [])).bind fun t98 =>
  gQ (gdW t92 false) h56 (cl (k_arena_Arena_Is t94 t98 h56) fun t99 h57 =>
  some (t99, h57)) fun t99_58 h59 =>
  (gV (gdW t92 false) (unA .not t99_58) (.tup [])).bind fun t100 =>
  (pickP t92 (AV.bool true) t100).bind fun t101 =>
  (gV (gdW t101 false) (some q13) (.tup [])).bind fun t103 =>
  (gV (gdW t101 false) (binP .gtr t103 (AV.int .i64 0)) (.tup [])).bind fun t104 =>
  (gV (gdW t101 false) (some t104) (.tup [])).bind fun t105 =>
  (gV (gdW t105 true) (some t76) (.tup [])).bind fun t106 =>
  (gV (gdW t105 true) (some q13) (.tup [])).bind fun t107 =>
  (gV (gdW t105 true) (iaS 1 t106 t107) (.tup [])).bind fun t108 =>
  (gV (gdW t105 true) (ldS h59 t108) (.tup [])).bind fun t109 =>
  (gV (gdW t105 true) (some t76) (.tup [])).bind fun t110 =>
  (gV (gdW t105 true) (some q13) (.tup [])).bind fun t111 =>
  (gV (gdW t105 true) (binP .sub t111 (AV.int .i64 1)) (.tup [])).bind fun t112 =>
  (gV (gdW t105 true) (iaS 1 t110 t112) (.tup [])).bind fun t113 =>
  (gV (gdW t105 true) (ldS h59 t113) (.tup [])).bind fun t114 =>
  (gV (gdW t105 true) (binP .leq t109 t114) (.tup [])).bind fun t115 =>
  (gV (gdW t101 false) (pickP t105 t115 (AV.bool false)) (.tup [])).bind fun t116 =>
  (pickP t101 (AV.bool true) t116).bind fun t117 =>
  chk [h55, h56, h59] [] (
  condE t117 (
  some (.ret, [(AV.bool false), q13], h59)) (
  (binP .add q13 (AV.int .i64 1)).bind fun t86 =>
  some (.normal, [q4, t86], h59)))) (
  some ((.exit 4), [q4, q13], h55))
def k_law7_MarkAll_L2 (t31 : AV) (t76 : AV) (q4 : AV) (q13 : AV) (h55 : Heap) : OutV := loopN (fun us g => k_law7_MarkAll_b2 t31 t76 (us.getD 0 .bot) (us.getD 1 .bot) g) [q4, q13] h55
def k_law7_MarkAll_b3 (t31 : AV) (q14 : AV) (q15 : AV) (h63 : Heap) : OutV :=
  (binP .lss q15 (AV.int .i64 10)).bind fun t119 =>
  condE t119 (
  cl (k_arena_Arena_Marked t31 q15 h63) fun t125 h64 =>
  cl (k_ref1_Ones t125 h64) fun t126 h65 =>
  (binP .add q14 t126).bind fun t127 =>
  (binP .add q15 (AV.int .i64 1)).bind fun t121 =>
  some (.normal, [t127, t121], h65)) (
  some ((.exit 6), [q14, q15], h63))
def k_law7_MarkAll_L3 (t31 : AV) (q14 : AV) (q15 : AV) (h63 : Heap) : OutV := loopN (fun us g => k_law7_MarkAll_b3 t31 (us.getD 0 .bot) (us.getD 1 .bot) g) [q14, q15] h63
def k_law7_MarkAll (x0 : AV) (x1 : AV) (h : Heap) : Option (AV × Heap) :=
  cl (k_law7_awake h) fun t16 h0 =>
  (unA .not t16).bind fun t17 =>
  condE t17 (
  some ((AV.bool false), h0)) (
  (lnL x0).bind fun t19 =>
  (binP .gtr t19 (AV.int .i64 30)).bind fun t20 =>
  gQ (gdW t20 false) h0 (some (x1, h0)) fun t22 h1 =>
  gQ (gdW t20 false) h1 ((lnL t22).bind fun t23 =>
  some (t23, h1)) fun t23_2 h3 =>
  gQ (gdW t20 false) h3 ((binP .gtr t23_2 (AV.int .i64 20)).bind fun t24 =>
  some (t24, h3)) fun t24_4 h5 =>
  (pickP t20 (AV.bool true) t24_4).bind fun t25 =>
  condE t25 (
  some ((AV.bool true), h5)) (
  cl (k_law7_world (AV.int .i64 10) x0 h5) fun t28 h6 =>
  (extractV 0 t28).bind fun t29 =>
  (extractV 1 t28).bind fun t30 =>
  (extractV 2 t28).bind fun t31 =>
  (extractV 3 t28).bind fun t32 =>
  (eqP (some (.pointer 0)) none false .eql t29 (AV.ptr none)).bind fun t34 =>
  condE t34 (
  some ((AV.bool false), h6)) (
  lp (k_law7_MarkAll_L0 x1 t29 t32 (AV.sl none 0 (.ex 0)) (AV.int .i64 0) h6) fun e vs h48 =>
  thenK (if e = .exit 0 then .normal else e) (
  cl (k_mark_Marker_Reach t29 (vs.getD 0 .bot) h48) fun t76 h49 =>
  lp (k_law7_MarkAll_L1 t29 (AV.int .i64 0) h49) fun e_52 vs_53 h54 =>
  thenK (if e_52 = .exit 2 then .normal else e_52) (
  lp (k_law7_MarkAll_L2 t31 t76 (AV.bool false) (AV.int .i64 0) h54) fun e_60 vs_61 h62 =>
  thenK (if e_60 = .exit 4 then .normal else e_60) (
  lp (k_law7_MarkAll_L3 t31 (AV.int .i64 0) (AV.int .i64 1) h62) fun e_66 vs_67 h68 =>
  thenK (if e_66 = .exit 6 then .normal else e_66) (
  (lnL t76).bind fun t130 =>
  (eqP (some (.int .i64)) none false .eql (vs_67.getD 0 .bot) t130).bind fun t131 =>
  gQ (gdW t131 true) h68 (some ((vs_53.getD 0 .bot), h68)) fun t133 h69 =>
  gQ (gdW t131 true) h69 (some (t76, h69)) fun t134 h70 =>
  gQ (gdW t131 true) h70 ((lnL t134).bind fun t135 =>
  some (t135, h70)) fun t135_71 h72 =>
  gQ (gdW t131 true) h72 ((eqP (some (.int .i64)) none false .eql t133 t135_71).bind fun t136 =>
  some (t136, h72)) fun t136_73 h74 =>
  (pickP t131 t136_73 (AV.bool false)).bind fun t137 =>
  some (t137, h74)) (fun e_75 => endE e_75 (some ((vs_61.getD 0 .bot), h68)))) (fun e_76 => endE e_76 (some ((vs_61.getD 0 .bot), h62)))) (fun e_77 => endE e_77 (some ((AV.bool false), h54)))) (fun e_78 => endE e_78 (some ((AV.bool false), h48))))))
def T89 : Tab := (4, p2 k_law7_MarkAll) :: T88
/- 5: gantline/gantlinelaw7.MarkMore -/
def k_law7_MarkMore_j0 (q12 : AV) (q11_36 : AV) (h37 : Heap) : OutV :=
  (binP .add q12 (AV.int .i64 1)).bind fun t51_38 =>
  some (.normal, [q11_36, t51_38], h37)
def k_law7_MarkMore_b0 (x1 : AV) (t43 : AV) (q11 : AV) (q12 : AV) (h12 : Heap) : OutV :=
  (lnL x1).bind fun t48 =>
  (binP .lss q12 t48).bind fun t49 =>
  condE t49 (
  (iaS 1 x1 q12).bind fun t54 =>
  (ldS h12 t54).bind fun t55 =>
  (binP .geq t55 (AV.int .i64 0)).bind fun t56 =>
  gQ (gdW t56 true) h12 (some (x1, h12)) fun t58 h15 =>
  gQ (gdW t56 true) h15 (some (q12, h15)) fun t59 h16 =>
  gQ (gdW t56 true) h16 ((iaS 1 t58 t59).bind fun t60 =>
  some (t60, h16)) fun t60_17 h18 =>
  gQ (gdW t56 true) h18 ((ldS h18 t60_17).bind fun t61 =>
  some (t61, h18)) fun t61_19 h20 =>
  gQ (gdW t56 true) h20 (some (t43, h20)) fun t62 h21 =>
  gQ (gdW t56 true) h21 ((lnL t62).bind fun t63 =>
  some (t63, h21)) fun t63_22 h23 =>
  gQ (gdW t56 true) h23 ((binP .lss t61_19 t63_22).bind fun t64 =>
  some (t64, h23)) fun t64_24 h25 =>
  (pickP t56 t64_24 (AV.bool false)).bind fun t65 =>
  condE t65 (
  (iaS 1 x1 q12).bind fun t70 =>
  (ldS h25 t70).bind fun t71 =>
  (iaS 1 t43 t71).bind fun t72 =>
  (ldS h25 t72).bind fun t73 =>
  mk Heap.new (bsP 1 [(AV.int .i64 0)] 1 [(0, t73)]) h25 fun t74 h39 =>
  cl (appendA h39 1 8 q11 t74) fun t75 h40 =>
  k_law7_MarkMore_j0 q12 t75 h40) (
  k_law7_MarkMore_j0 q12 q11 h25)) (
  some ((.exit 0), [q11, q12], h12))
def k_law7_MarkMore_L0 (x1 : AV) (t43 : AV) (q11 : AV) (q12 : AV) (h12 : Heap) : OutV := loopN (fun us g => k_law7_MarkMore_b0 x1 t43 (us.getD 0 .bot) (us.getD 1 .bot) g) [q11, q12] h12
def k_law7_MarkMore_j1 (q15 : AV) (q11_69 : AV) (h70 : Heap) : OutV :=
  (binP .add q15 (AV.int .i64 1)).bind fun t87_71 =>
  some (.normal, [q11_69, t87_71], h70)
def k_law7_MarkMore_b1 (x2 : AV) (t43 : AV) (q11_44 : AV) (q15 : AV) (h45 : Heap) : OutV :=
  (lnL x2).bind fun t84 =>
  (binP .lss q15 t84).bind fun t85 =>
  condE t85 (
  (iaS 1 x2 q15).bind fun t90 =>
  (ldS h45 t90).bind fun t91 =>
  (binP .geq t91 (AV.int .i64 0)).bind fun t92 =>
  gQ (gdW t92 true) h45 (some (x2, h45)) fun t94 h48 =>
  gQ (gdW t92 true) h48 (some (q15, h48)) fun t95 h49 =>
  gQ (gdW t92 true) h49 ((iaS 1 t94 t95).bind fun t96 =>
  some (t96, h49)) fun t96_50 h51 =>
  gQ (gdW t92 true) h51 ((ldS h51 t96_50).bind fun t97 =>
  some (t97, h51)) fun t97_52 h53 =>
  gQ (gdW t92 true) h53 (some (t43, h53)) fun t98 h54 =>
  gQ (gdW t92 true) h54 ((lnL t98).bind fun t99 =>
  some (t99, h54)) fun t99_55 h56 =>
  gQ (gdW t92 true) h56 ((binP .lss t97_52 t99_55).bind fun t100 =>
  some (t100, h56)) fun t100_57 h58 =>
  (pickP t92 t100_57 (AV.bool false)).bind fun t101 =>
  condE t101 (
  (iaS 1 x2 q15).bind fun t106 =>
  (ldS h58 t106).bind fun t107 =>
  (iaS 1 t43 t107).bind fun t108 =>
  (ldS h58 t108).bind fun t109 =>
  mk Heap.new (bsP 1 [(AV.int .i64 0)] 1 [(0, t109)]) h58 fun t110 h72 =>
  cl (appendA h72 1 8 q11_44 t110) fun t111 h73 =>
  k_law7_MarkMore_j1 q15 t111 h73) (
  k_law7_MarkMore_j1 q15 q11_44 h58)) (
  some ((.exit 2), [q11_44, q15], h45))
def k_law7_MarkMore_L1 (x2 : AV) (t43 : AV) (q11_44 : AV) (q15 : AV) (h45 : Heap) : OutV := loopN (fun us g => k_law7_MarkMore_b1 x2 t43 (us.getD 0 .bot) (us.getD 1 .bot) g) [q11_44, q15] h45
def k_law7_MarkMore_b2 (t78 : AV) (t114 : AV) (q18 : AV) (q17_79 : AV) (h80 : Heap) : OutV :=
  (lnL t114).bind fun t128 =>
  (binP .lss q17_79 t128).bind fun t129 =>
  (gV (gdW t129 true) (some t114) (.tup [])).bind fun t131 =>
  (gV (gdW t129 true) (some q17_79) (.tup [])).bind fun t132 =>
  (gV (gdW t129 true) (iaS 1 t131 t132) (.tup [])).bind fun t133 =>
  (gV (gdW t129 true) (ldS h80 t133) (.tup [])).bind fun t134 =>
  (gV (gdW t129 true) (some t78) (.tup [])).bind fun t135 =>
  (gV (gdW t129 true) (some q18) (.tup [])).bind fun t136 =>
  (gV (gdW t129 true) (iaS 1 t135 t136) (.tup [])).bind fun t137 =>
  (gV (gdW t129 true) (ldS h80 t137) (.tup [])).bind fun t138 =>
  (gV (gdW t129 true) (binP .lss t134 t138) (.tup [])).bind fun t139 =>
  (pickP t129 t139 (AV.bool false)).bind fun t140 =>
  chk [h80] [] (
  condE t140 (
  (binP .add q17_79 (AV.int .i64 1)).bind fun t142 =>
  some (.normal, [t142], h80)) (
  some ((.exit 6), [q17_79], h80)))
def k_law7_MarkMore_L2 (t78 : AV) (t114 : AV) (q18 : AV) (q17_79 : AV) (h80 : Heap) : OutV := loopN (fun us g => k_law7_MarkMore_b2 t78 t114 q18 (us.getD 0 .bot) g) [q17_79] h80
def k_law7_MarkMore_b3 (t78 : AV) (t81 : AV) (t114 : AV) (q6 : AV) (q17 : AV) (q18 : AV) (h78 : Heap) : OutV :=
  (lnL t78).bind fun t122 =>
  (binP .lss q18 t122).bind fun t123 =>
  condE t123 (
  lp (k_law7_MarkMore_L2 t78 t114 q18 q17 h78) fun e_81 vs_82 h83 =>
  thenK (if e_81 = .exit 6 then .normal else e_81) (
  (iaS 1 t81 q18).bind fun t145 =>
  (ldS h83 t145).bind fun t146 =>
  (iaS 1 t78 q18).bind fun t149 =>
  (ldS h83 t149).bind fun t150 =>
  (eqP (some (.int .i64)) none false .neq t146 t150).bind fun t151 =>
  (gV (gdW t151 false) (some (vs_82.getD 0 .bot)) (.tup [])).bind fun t153 =>
  (gV (gdW t151 false) (some t114) (.tup [])).bind fun t154 =>
  (gV (gdW t151 false) (lnL t154) (.tup [])).bind fun t155 =>
  (gV (gdW t151 false) (eqP (some (.int .i64)) none false .eql t153 t155) (.tup [])).bind fun t156 =>
  (pickP t151 (AV.bool true) t156).bind fun t157 =>
  (gV (gdW t157 false) (some t114) (.tup [])).bind fun t159 =>
  (gV (gdW t157 false) (some (vs_82.getD 0 .bot)) (.tup [])).bind fun t160 =>
  (gV (gdW t157 false) (iaS 1 t159 t160) (.tup [])).bind fun t161 =>
  (gV (gdW t157 false) (ldS h83 t161) (.tup [])).bind fun t162 =>
  (gV (gdW t157 false) (some t78) (.tup [])).bind fun t163 =>
  (gV (gdW t157 false) (some q18) (.tup [])).bind fun t164 =>
  (gV (gdW t157 false) (iaS 1 t163 t164) (.tup [])).bind fun t165 =>
  (gV (gdW t157 false) (ldS h83 t165) (.tup [])).bind fun t166 =>
  (gV (gdW t157 false) (eqP (some (.int .i64)) none false .neq t162 t166) (.tup [])).bind fun t167 =>
  (pickP t157 (AV.bool true) t167).bind fun t168 =>
  chk [h83] [] (
  condE t168 (
  some (.ret, [(AV.bool false), (vs_82.getD 0 .bot), q18], h83)) (
  (binP .add q18 (AV.int .i64 1)).bind fun t125 =>
  some (.normal, [q6, (vs_82.getD 0 .bot), t125], h83)))) (fun e_84 => thenK (if e_84 = .exit 5 then .normal else e_84) (
  (binP .add q18 (AV.int .i64 1)).bind fun t125_85 =>
  some (.normal, [q6, (vs_82.getD 0 .bot), t125_85], h83)) (fun e_86 => some (e_86, [q6, (vs_82.getD 0 .bot), q18], h83)))) (
  some ((.exit 4), [q6, q17, q18], h78))
def k_law7_MarkMore_L3 (t78 : AV) (t81 : AV) (t114 : AV) (q6 : AV) (q17 : AV) (q18 : AV) (h78 : Heap) : OutV := loopN (fun us g => k_law7_MarkMore_b3 t78 t81 t114 (us.getD 0 .bot) (us.getD 1 .bot) (us.getD 2 .bot) g) [q6, q17, q18] h78
def k_law7_MarkMore_b4 (vs_75 : List AV) (t114 : AV) (q19 : AV) (q20 : AV) (q21 : AV) (h92 : Heap) : OutV :=
  (lnL t114).bind fun t177 =>
  (binP .lss q21 t177).bind fun t178 =>
  condE t178 (
  (gV (gdW q20 false) (some t114) (.tup [])).bind fun t183 =>
  (gV (gdW q20 false) (some q21) (.tup [])).bind fun t184 =>
  (gV (gdW q20 false) (iaS 1 t183 t184) (.tup [])).bind fun t185 =>
  (gV (gdW q20 false) (ldS h92 t185) (.tup [])).bind fun t186 =>
  (gV (gdW q20 false) (some (vs_75.getD 0 .bot)) (.tup [])).bind fun t187 =>
  (gV (gdW q20 false) (some q19) (.tup [])).bind fun t188 =>
  (gV (gdW q20 false) (iaS 1 t187 t188) (.tup [])).bind fun t189 =>
  (gV (gdW q20 false) (ldS h92 t189) (.tup [])).bind fun t190 =>
  (gV (gdW q20 false) (eqP (some (.int .i64)) none false .eql t186 t190) (.tup [])).bind fun t191 =>
  (pickP q20 (AV.bool true) t191).bind fun t192 =>
  chk [h92] [] (
  (binP .add q21 (AV.int .i64 1)).bind fun t180 =>
  some (.normal, [t192, t180], h92))) (
  some ((.exit 10), [q20, q21], h92))
def k_law7_MarkMore_L4 (vs_75 : List AV) (t114 : AV) (q19 : AV) (q20 : AV) (q21 : AV) (h92 : Heap) : OutV := loopN (fun us g => k_law7_MarkMore_b4 vs_75 t114 q19 (us.getD 0 .bot) (us.getD 1 .bot) g) [q20, q21] h92
def k_law7_MarkMore_b5 (t42 : AV) (vs_75 : List AV) (t114 : AV) (q6_90 : AV) (q19 : AV) (h91 : Heap) : OutV :=
  (lnL (vs_75.getD 0 .bot)).bind fun t171 =>
  (binP .lss q19 t171).bind fun t172 =>
  condE t172 (
  lp (k_law7_MarkMore_L4 vs_75 t114 q19 (AV.bool false) (AV.int .i64 0) h91) fun e_93 vs_94 h95 =>
  thenK (if e_93 = .exit 10 then .normal else e_93) (
  (iaS 1 (vs_75.getD 0 .bot) q19).bind fun t196 =>
  (ldS h95 t196).bind fun t197 =>
  cl (k_arena_Arena_Is t42 t197 h95) fun t198 h96 =>
  (eqP (some .bool) none false .neq t198 (vs_94.getD 0 .bot)).bind fun t200 =>
  condE t200 (
  some (.ret, [(AV.bool false), q19], h96)) (
  (binP .add q19 (AV.int .i64 1)).bind fun t174 =>
  some (.normal, [q6_90, t174], h96))) (fun e_97 => thenK (if e_97 = .exit 9 then .normal else e_97) (
  (binP .add q19 (AV.int .i64 1)).bind fun t174_98 =>
  some (.normal, [q6_90, t174_98], h95)) (fun e_99 => some (e_99, [q6_90, q19], h95)))) (
  some ((.exit 8), [q6_90, q19], h91))
def k_law7_MarkMore_L5 (t42 : AV) (vs_75 : List AV) (t114 : AV) (q6_90 : AV) (q19 : AV) (h91 : Heap) : OutV := loopN (fun us g => k_law7_MarkMore_b5 t42 vs_75 t114 (us.getD 0 .bot) (us.getD 1 .bot) g) [q6_90, q19] h91
def k_law7_MarkMore (x0 : AV) (x1 : AV) (x2 : AV) (h : Heap) : Option (AV × Heap) :=
  cl (k_law7_awake h) fun t22 h0 =>
  (unA .not t22).bind fun t23 =>
  condE t23 (
  some ((AV.bool false), h0)) (
  (lnL x0).bind fun t25 =>
  (binP .gtr t25 (AV.int .i64 30)).bind fun t26 =>
  gQ (gdW t26 false) h0 (some (x1, h0)) fun t28 h1 =>
  gQ (gdW t26 false) h1 ((lnL t28).bind fun t29 =>
  some (t29, h1)) fun t29_2 h3 =>
  gQ (gdW t26 false) h3 ((binP .gtr t29_2 (AV.int .i64 10)).bind fun t30 =>
  some (t30, h3)) fun t30_4 h5 =>
  (pickP t26 (AV.bool true) t30_4).bind fun t31 =>
  gQ (gdW t31 false) h5 (some (x2, h5)) fun t33 h6 =>
  gQ (gdW t31 false) h6 ((lnL t33).bind fun t34 =>
  some (t34, h6)) fun t34_7 h8 =>
  gQ (gdW t31 false) h8 ((binP .gtr t34_7 (AV.int .i64 10)).bind fun t35 =>
  some (t35, h8)) fun t35_9 h10 =>
  (pickP t31 (AV.bool true) t35_9).bind fun t36 =>
  condE t36 (
  some ((AV.bool true), h10)) (
  cl (k_law7_world (AV.int .i64 10) x0 h10) fun t39 h11 =>
  (extractV 0 t39).bind fun t40 =>
  (extractV 1 t39).bind fun t41 =>
  (extractV 2 t39).bind fun t42 =>
  (extractV 3 t39).bind fun t43 =>
  (eqP (some (.pointer 0)) none false .eql t40 (AV.ptr none)).bind fun t45 =>
  condE t45 (
  some ((AV.bool false), h11)) (
  lp (k_law7_MarkMore_L0 x1 t43 (AV.sl none 0 (.ex 0)) (AV.int .i64 0) h11) fun e vs h41 =>
  thenK (if e = .exit 0 then .normal else e) (
  cl (k_mark_Marker_Reach t40 (vs.getD 0 .bot) h41) fun t78 h42 =>
  cl (k_mark_Marker_Reach t40 t78 h42) fun t81 h43 =>
  lp (k_law7_MarkMore_L1 x2 t43 (vs.getD 0 .bot) (AV.int .i64 0) h43) fun e_74 vs_75 h76 =>
  thenK (if e_74 = .exit 2 then .normal else e_74) (
  cl (k_mark_Marker_Reach t40 (vs_75.getD 0 .bot) h76) fun t114 h77 =>
  (lnL t81).bind fun t116 =>
  (lnL t78).bind fun t118 =>
  (eqP (some (.int .i64)) none false .neq t116 t118).bind fun t119 =>
  condE t119 (
  some ((AV.bool false), h77)) (
  lp (k_law7_MarkMore_L3 t78 t81 t114 (AV.bool false) (AV.int .i64 0) (AV.int .i64 0) h77) fun e_87 vs_88 h89 =>
  thenK (if e_87 = .exit 4 then .normal else e_87) (
  lp (k_law7_MarkMore_L5 t42 vs_75 t114 (vs_88.getD 0 .bot) (AV.int .i64 0) h89) fun e_100 vs_101 h102 =>
  thenK (if e_100 = .exit 8 then .normal else e_100) (
  some ((AV.bool true), h102)) (fun e_103 => endE e_103 (some ((vs_101.getD 0 .bot), h102)))) (fun e_104 => endE e_104 (some ((vs_88.getD 0 .bot), h89))))) (fun e_105 => endE e_105 (some ((AV.bool false), h76)))) (fun e_106 => endE e_106 (some ((AV.bool false), h41))))))
def T90 : Tab := (5, p3 k_law7_MarkMore) :: T89
end
end Go.Ab.F