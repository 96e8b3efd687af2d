/- PRINTED by Gen.lean: the program's functions on the abstract machine's values and heaps. -/
import Derived.Test.YtokefidnmopedaaAbS
import Derived.Test.YtokefidnmopedaaAbQ
import Derived.Test.YtokefidnmopedaaAbKeys
namespace Go.Ab.F
open Go Go.Ab
set_option linter.all false
noncomputable section
def T0 : Tab := []
/- 39: gantline/live.Follows$1 -/
def k_live_Follows_1 (x0 : AV) (x1 : AV) (h : Heap) : Option (AV × Heap) :=
  (binP .lss x0 (AV.int .i64 0)).bind fun t5 =>
  gQ (gdW t5 false) h (some (x0, h)) fun t7 h0 =>
  gQ (gdW t5 false) h0 ((faP 5 x1).bind fun t8 =>
  some (t8, h0)) fun t8_1 h2 =>
  gQ (gdW t5 false) h2 ((ldS h2 t8_1).bind fun t9 =>
  some (t9, h2)) fun t9_3 h4 =>
  gQ (gdW t5 false) h4 ((lnL t9_3).bind fun t10 =>
  some (t10, h4)) fun t10_5 h6 =>
  gQ (gdW t5 false) h6 ((binP .geq t7 t10_5).bind fun t11 =>
  some (t11, h6)) fun t11_7 h8 =>
  (pickP t5 (AV.bool true) t11_7).bind fun t12 =>
  some (t12, h8)
def T1 : Tab := (39, p2 k_live_Follows_1) :: T0
/- 54: gantline/live.given$1 -/
def k_live_given_1 (x0 : AV) (h : Heap) : Option (AV × Heap) :=
  (eqP (some (.int .i64)) none false .eql x0 (AV.int .i64 (-1))).bind fun t4 =>
  some (t4, h)
def T2 : Tab := (54, p1 k_live_given_1) :: T1
/- 34: gantline/live.cases -/
def k_live_cases (x0 : AV) (x1 : AV) (h : Heap) : Option (AV × Heap) :=
  mk Heap.new (bxP x0) h fun t2 h0 =>
  mk Heap.new (bxP x1) h0 fun t3 h1 =>
  (faP 1 t3).bind fun t5 =>
  (ldS h1 t5).bind fun t6 =>
  (binP .lss t6 (AV.int .i64 0)).bind fun t7 =>
  gQ (gdW t7 false) h1 ((faP 2 t3).bind fun t9 =>
  some (t9, h1)) fun t9_2 h3 =>
  gQ (gdW t7 false) h3 ((ldS h3 t9_2).bind fun t10 =>
  some (t10, h3)) fun t10_4 h5 =>
  gQ (gdW t7 false) h5 ((binP .lss t10_4 (AV.int .i64 0)).bind fun t11 =>
  some (t11, h5)) fun t11_6 h7 =>
  (pickP t7 (AV.bool true) t11_6).bind fun t12 =>
  gQ (gdW t12 false) h7 ((faP 1 t3).bind fun t14 =>
  some (t14, h7)) fun t14_8 h9 =>
  gQ (gdW t12 false) h9 ((ldS h9 t14_8).bind fun t15 =>
  some (t15, h9)) fun t15_10 h11 =>
  gQ (gdW t12 false) h11 ((faP 3 t2).bind fun t16 =>
  some (t16, h11)) fun t16_12 h13 =>
  gQ (gdW t12 false) h13 ((ldS h13 t16_12).bind fun t17 =>
  some (t17, h13)) fun t17_14 h15 =>
  gQ (gdW t12 false) h15 ((lnL t17_14).bind fun t18 =>
  some (t18, h15)) fun t18_16 h17 =>
  gQ (gdW t12 false) h17 ((binP .gtr t15_10 t18_16).bind fun t19 =>
  some (t19, h17)) fun t19_18 h19 =>
  (pickP t12 (AV.bool true) t19_18).bind fun t20 =>
  gQ (gdW t20 false) h19 ((faP 2 t3).bind fun t22 =>
  some (t22, h19)) fun t22_20 h21 =>
  gQ (gdW t20 false) h21 ((ldS h21 t22_20).bind fun t23 =>
  some (t23, h21)) fun t23_22 h23 =>
  gQ (gdW t20 false) h23 ((faP 3 t2).bind fun t24 =>
  some (t24, h23)) fun t24_24 h25 =>
  gQ (gdW t20 false) h25 ((ldS h25 t24_24).bind fun t25 =>
  some (t25, h25)) fun t25_26 h27 =>
  gQ (gdW t20 false) h27 ((lnL t25_26).bind fun t26 =>
  some (t26, h27)) fun t26_28 h29 =>
  gQ (gdW t20 false) h29 ((faP 1 t3).bind fun t27 =>
  some (t27, h29)) fun t27_30 h31 =>
  gQ (gdW t20 false) h31 ((ldS h31 t27_30).bind fun t28 =>
  some (t28, h31)) fun t28_32 h33 =>
  gQ (gdW t20 false) h33 ((binP .sub t26_28 t28_32).bind fun t29 =>
  some (t29, h33)) fun t29_34 h35 =>
  gQ (gdW t20 false) h35 ((binP .gtr t23_22 t29_34).bind fun t30 =>
  some (t30, h35)) fun t30_36 h37 =>
  (pickP t20 (AV.bool true) t30_36).bind fun t31 =>
  condE t31 (
  some ((AV.sl none 0 (.ex 0)), h37)) (
  (faP 3 t2).bind fun t32 =>
  (ldS h37 t32).bind fun t33 =>
  (faP 1 t3).bind fun t34 =>
  (ldS h37 t34).bind fun t35 =>
  (faP 1 t3).bind fun t36 =>
  (ldS h37 t36).bind fun t37 =>
  (faP 2 t3).bind fun t38 =>
  (ldS h37 t38).bind fun t39 =>
  (binP .add t37 t39).bind fun t40 =>
  (slcP 4 t33 (some t35) (some t40) none).bind fun t41 =>
  some (t41, h37))
def T3 : Tab := (34, p2 k_live_cases) :: T2
/- 44: gantline/live.bitsOf -/
def k_live_bitsOf_b0 (x0 : AV) (t7 : AV) (q3 : AV) (q8 : AV) (h0 : Heap) : OutV :=
  (binP .lss q8 t7).bind fun t9 =>
  condE t9 (
  (iaS 1 x0 q8).bind fun t10 =>
  (ldS h0 t10).bind fun t11 =>
  (binP .geq t11 (AV.int .i64 0)).bind fun t13 =>
  gQ (gdW t13 true) h0 (some (t11, h0)) fun t15 h3 =>
  gQ (gdW t13 true) h3 ((binP .lss t15 (AV.int .i64 64)).bind fun t16 =>
  some (t16, h3)) fun t16_4 h5 =>
  (pickP t13 t16_4 (AV.bool false)).bind fun t17 =>
  condE t17 (
  (cvI .u64 t11).bind fun t20 =>
  (binP .shl (AV.int .u64 1) t20).bind fun t21 =>
  (binP .or q3 t21).bind fun t22 =>
  (binP .add q8 (AV.int .i64 1)).bind fun t23_14 =>
  some (.normal, [t22, t23_14], h5)) (
  (binP .add q8 (AV.int .i64 1)).bind fun t23_15 =>
  some (.normal, [q3, t23_15], h5))) (
  some ((.exit 0), [q3, q8], h0))
def k_live_bitsOf_L0 (x0 : AV) (t7 : AV) (q3 : AV) (q8 : AV) (h0 : Heap) : OutV := loopN (fun us g => k_live_bitsOf_b0 x0 t7 (us.getD 0 .bot) (us.getD 1 .bot) g) [q3, q8] h0
def k_live_bitsOf (x0 : AV) (h : Heap) : Option (AV × Heap) :=
  (lnL x0).bind fun t7 =>
  lp (k_live_bitsOf_L0 x0 t7 (AV.int .u64 0) (AV.int .i64 0) h) fun e vs h16 =>
  thenK (if e = .exit 0 then .normal else e) (
  some ((vs.getD 0 .bot), h16)) (fun e_17 => endE e_17 (some ((AV.int .u64 0), h16)))
def T4 : Tab := (44, p1 k_live_bitsOf) :: T3
/- 55: slices.IndexFunc[[]int,int] -/
def k_slices_IndexFunc_int_int_b0 (x0 : AV) (x1 : AV) (t7 : AV) (q4 : AV) (q8 : AV) (h0 : Heap) : OutV :=
  (binP .lss q8 t7).bind fun t9 =>
  condE t9 (
  (iaS 1 x0 q8).bind fun t14 =>
  (ldS h0 t14).bind fun t15 =>
  clF (lookT T4) (cvP x1 [t15]) h0 fun t16 h1 =>
  condE t16 (
  some (.ret, [q8, q8], h1)) (
  (binP .add q8 (AV.int .i64 1)).bind fun t18 =>
  some (.normal, [q4, t18], h1))) (
  some ((.exit 0), [q4, q8], h0))
def k_slices_IndexFunc_int_int_L0 (x0 : AV) (x1 : AV) (t7 : AV) (q4 : AV) (q8 : AV) (h0 : Heap) : OutV := loopN (fun us g => k_slices_IndexFunc_int_int_b0 x0 x1 t7 (us.getD 0 .bot) (us.getD 1 .bot) g) [q4, q8] h0
def k_slices_IndexFunc_int_int (x0 : AV) (x1 : AV) (h : Heap) : Option (AV × Heap) :=
  (lnL x0).bind fun t7 =>
  lp (k_slices_IndexFunc_int_int_L0 x0 x1 t7 (AV.int .i64 0) (AV.int .i64 0) h) fun e vs h2 =>
  thenK (if e = .exit 0 then .normal else e) (
  some ((AV.int .i64 (-1)), h2)) (fun e_3 => endE e_3 (some ((vs.getD 0 .bot), h2)))
def T5 : Tab := (55, p2 k_slices_IndexFunc_int_int) :: T4
/- 38: slices.DeleteFunc[[]int,int] -/
def k_slices_DeleteFunc_int_int_b0 (x0 : AV) (x1 : AV) (q5 : AV) (q6 : AV) (h1 : Heap) : OutV :=
  (lnL x0).bind fun t18 =>
  (binP .lss q6 t18).bind fun t19 =>
  condE t19 (
  (iaS 1 x0 q6).bind fun t24 =>
  (ldS h1 t24).bind fun t25 =>
  clF (lookT T5) (cvP x1 [t25]) h1 fun t28 h4 =>
  (unA .not t28).bind fun t29 =>
  condE t29 (
  (iaS 1 x0 q5).bind fun t33 =>
  cl (stP 1 h4 t33 t25) fun u h14 =>
  (binP .add q5 (AV.int .i64 1)).bind fun t35 =>
  (binP .add q6 (AV.int .i64 1)).bind fun t21_15 =>
  some (.normal, [t35, t21_15], h14)) (
  (binP .add q6 (AV.int .i64 1)).bind fun t21_16 =>
  some (.normal, [q5, t21_16], h4))) (
  some ((.exit 0), [q5, q6], h1))
def k_slices_DeleteFunc_int_int_L0 (x0 : AV) (x1 : AV) (q5 : AV) (q6 : AV) (h1 : Heap) : OutV := loopN (fun us g => k_slices_DeleteFunc_int_int_b0 x0 x1 (us.getD 0 .bot) (us.getD 1 .bot) g) [q5, q6] h1
def k_slices_DeleteFunc_int_int (x0 : AV) (x1 : AV) (h : Heap) : Option (AV × Heap) :=
  cl (k_slices_IndexFunc_int_int x0 x1 h) fun t10 h0 =>
  (eqP (some (.int .i64)) none false .eql t10 (AV.int .i64 (-1))).bind fun t12 =>
  condE t12 (
  some (x0, h0)) (
  (binP .add t10 (AV.int .i64 1)).bind fun t15 =>
  lp (k_slices_DeleteFunc_int_int_L0 x0 x1 t10 t15 h0) fun e vs h17 =>
  thenK (if e = .exit 0 then .normal else e) (
  (slcP 1 x0 (some (vs.getD 0 .bot)) none none).bind fun t38 =>
  cl (clL 1 [(AV.int .i64 0)] h17 t38) fun u_18 h19 =>
  (slcP 1 x0 none (some (vs.getD 0 .bot)) none).bind fun t41 =>
  some (t41, h19)) (fun e_20 => endE e_20 (some ((AV.sl none 0 (.ex 0)), h17))))
def T6 : Tab := (38, p2 k_slices_DeleteFunc_int_int) :: T5
/- 40: slices.Sort[[]int,int] -/
def k_slices_Sort_int_int (a : AV) (h : Heap) : Option (AV × Heap) := sortV a h
def T7 : Tab := (40, p1 k_slices_Sort_int_int) :: T6
/- 41: slices.Compact[[]int,int] -/
def k_slices_Compact_int_int_b0 (x0 : AV) (t28 : AV) (q3_1 : AV) (q5 : AV) (h2 : Heap) : OutV :=
  (lnL t28).bind fun t31 =>
  (binP .lss q5 t31).bind fun t32 =>
  condE t32 (
  (iaS 1 t28 q5).bind fun t37 =>
  (ldS h2 t37).bind fun t38 =>
  (binP .sub q5 (AV.int .i64 1)).bind fun t41 =>
  (iaS 1 t28 t41).bind fun t42 =>
  (ldS h2 t42).bind fun t43 =>
  (eqP (some (.int .i64)) none false .neq t38 t43).bind fun t44 =>
  chk [h2] [] (
  condE t44 (
  (iaS 1 t28 q5).bind fun t49 =>
  (ldS h2 t49).bind fun t50 =>
  (iaS 1 x0 q3_1).bind fun t51 =>
  cl (stP 1 h2 t51 t50) fun u h17 =>
  (binP .add q3_1 (AV.int .i64 1)).bind fun t53 =>
  (binP .add q5 (AV.int .i64 1)).bind fun t34_18 =>
  some (.normal, [t53, t34_18], h17)) (
  (binP .add q5 (AV.int .i64 1)).bind fun t34_19 =>
  some (.normal, [q3_1, t34_19], h2)))) (
  some ((.exit 2), [q3_1, q5], h2))
def k_slices_Compact_int_int_L0 (x0 : AV) (t28 : AV) (q3_1 : AV) (q5 : AV) (h2 : Heap) : OutV := loopN (fun us g => k_slices_Compact_int_int_b0 x0 t28 (us.getD 0 .bot) (us.getD 1 .bot) g) [q3_1, q5] h2
def k_slices_Compact_int_int_b1 (x0 : AV) (q2 : AV) (q3 : AV) (h0 : Heap) : OutV :=
  (lnL x0).bind fun t12 =>
  (binP .lss q3 t12).bind fun t13 =>
  condE t13 (
  (iaS 1 x0 q3).bind fun t18 =>
  (ldS h0 t18).bind fun t19 =>
  (binP .sub q3 (AV.int .i64 1)).bind fun t22 =>
  (iaS 1 x0 t22).bind fun t23 =>
  (ldS h0 t23).bind fun t24 =>
  (eqP (some (.int .i64)) none false .eql t19 t24).bind fun t25 =>
  chk [h0] [] (
  condE t25 (
  (slcP 1 x0 (some q3) none none).bind fun t28 =>
  lp (k_slices_Compact_int_int_L0 x0 t28 q3 (AV.int .i64 1) h0) fun e vs h20 =>
  thenK (if e = .exit 2 then .normal else e) (
  (slcP 1 x0 (some (vs.getD 0 .bot)) none none).bind fun t56 =>
  cl (clL 1 [(AV.int .i64 0)] h20 t56) fun u_21 h22 =>
  (slcP 1 x0 none (some (vs.getD 0 .bot)) none).bind fun t59 =>
  some (.ret, [t59, (vs.getD 0 .bot)], h22)) (fun e_23 => thenK (if e_23 = .exit 1 then .normal else e_23) (
  (binP .add (vs.getD 0 .bot) (AV.int .i64 1)).bind fun t15 =>
  some (.normal, [q2, t15], h20)) (fun e_24 => some (e_24, [q2, (vs.getD 0 .bot)], h20)))) (
  (binP .add q3 (AV.int .i64 1)).bind fun t15_25 =>
  some (.normal, [q2, t15_25], h0)))) (
  some ((.exit 0), [q2, q3], h0))
def k_slices_Compact_int_int_L1 (x0 : AV) (q2 : AV) (q3 : AV) (h0 : Heap) : OutV := loopN (fun us g => k_slices_Compact_int_int_b1 x0 (us.getD 0 .bot) (us.getD 1 .bot) g) [q2, q3] h0
def k_slices_Compact_int_int (x0 : AV) (h : Heap) : Option (AV × Heap) :=
  (lnL x0).bind fun t7 =>
  (binP .lss t7 (AV.int .i64 2)).bind fun t8 =>
  condE t8 (
  some (x0, h)) (
  lp (k_slices_Compact_int_int_L1 x0 (AV.sl none 0 (.ex 0)) (AV.int .i64 1) h) fun e_26 vs_27 h28 =>
  thenK (if e_26 = .exit 0 then .normal else e_26) (
  some (x0, h28)) (fun e_29 => endE e_29 (some ((vs_27.getD 0 .bot), h28))))
def T8 : Tab := (41, p1 k_slices_Compact_int_int) :: T7
/- 18: gantline/live.Follows -/
def k_live_Follows_j0 (t4 : AV) (q7 : AV) (h13 : Heap) : Option (AV × Heap) :=
  cl (k_slices_DeleteFunc_int_int q7 (AV.fn 39 [] [t4]) h13) fun t63 h14 =>
  cl (k_slices_Sort_int_int t63 h14) fun t65 h15 =>
  cl (k_slices_Compact_int_int t63 h15) fun t67 h16 =>
  some (t67, h16)
def k_live_Follows_b0 (t49 : AV) (t50 : AV) (q7_130 : AV) (q51_131 : AV) (h132 : Heap) : OutV :=
  (binP .lss q51_131 t50).bind fun t52 =>
  condE t52 (
  (iaS 4 t49 q51_131).bind fun t53 =>
  (ldA 4 h132 t53).bind fun t54 =>
  mk Heap.new (some (Blk.cells true [(AV.int .i64 0), (AV.int .i64 0), (AV.int .i64 0), (AV.int .i64 0)], fun i => AV.ptr (some (i, 0)))) h132 fun t10 h133 =>
  cl (stP 4 h133 t10 t54) fun u_134 h135 =>
  (faP 3 t10).bind fun t56 =>
  (ldS h135 t56).bind fun t57 =>
  mk Heap.new (bsP 1 [(AV.int .i64 0)] 1 [(0, t57)]) h135 fun t58 h136 =>
  cl (appendA h136 1 8 q7_130 t58) fun t59 h137 =>
  (binP .add q51_131 (AV.int .i64 1)).bind fun t60 =>
  some (.normal, [t59, t60], h137)) (
  some ((.exit 1), [q7_130, q51_131], h132))
def k_live_Follows_L0 (t49 : AV) (t50 : AV) (q7_130 : AV) (q51_131 : AV) (h132 : Heap) : OutV := loopN (fun us g => k_live_Follows_b0 t49 t50 (us.getD 0 .bot) (us.getD 1 .bot) g) [q7_130, q51_131] h132
def k_live_Follows_j1 (x2 : AV) (t3 : AV) (t4 : AV) (t8 : AV) (t26 : AV) (q42_85 : AV) (h86 : Heap) : Option (AV × Heap) :=
  condE q42_85 (
  k_live_Follows_j0 t4 (AV.sl none 0 (.ex 0)) h86) (
  (eqP (some (.int .i64)) none false .eql t26 (AV.int .i64 41)).bind fun t46 =>
  condE t46 (
  (ldA 6 h86 t3).bind fun t47 =>
  (ldA 5 h86 t8).bind fun t48 =>
  cl (k_live_cases t47 t48 h86) fun t49 h129 =>
  (lnL t49).bind fun t50 =>
  lp (k_live_Follows_L0 t49 t50 (AV.sl none 0 (.ex 0)) (AV.int .i64 0) h129) fun e vs h138 =>
  thenK (if (if e = .exit 1 then .normal else e) = .exit 0 then .normal else (if e = .exit 1 then .normal else e)) (
  cl (k_slices_DeleteFunc_int_int (vs.getD 0 .bot) (AV.fn 39 [] [t4]) h138) fun t63_139 h140 =>
  cl (k_slices_Sort_int_int t63_139 h140) fun t65_141 h142 =>
  cl (k_slices_Compact_int_int t63_139 h142) fun t67_143 h144 =>
  some (t67_143, h144)) (fun e_145 => endE e_145 (some ((AV.sl none 0 (.ex 0)), h138)))) (
  (binP .add x2 (AV.int .i64 1)).bind fun t28 =>
  mk Heap.new (bsP 1 [(AV.int .i64 0)] 1 [(0, t28)]) h86 fun t29 h146 =>
  k_live_Follows_j0 t4 t29 h146))
def k_live_Follows (x0 : AV) (x1 : AV) (x2 : AV) (h : Heap) : Option (AV × Heap) :=
  mk Heap.new (bxP x0) h fun t3 h0 =>
  mk Heap.new (bxP x1) h0 fun t4 h1 =>
  (binP .lss x2 (AV.int .i64 0)).bind fun t12 =>
  gQ (gdW t12 false) h1 (some (x2, h1)) fun t14 h2 =>
  gQ (gdW t12 false) h2 ((faP 5 t4).bind fun t15 =>
  some (t15, h2)) fun t15_3 h4 =>
  gQ (gdW t12 false) h4 ((ldS h4 t15_3).bind fun t16 =>
  some (t16, h4)) fun t16_5 h6 =>
  gQ (gdW t12 false) h6 ((lnL t16_5).bind fun t17 =>
  some (t17, h6)) fun t17_7 h8 =>
  gQ (gdW t12 false) h8 ((binP .geq t14 t17_7).bind fun t18 =>
  some (t18, h8)) fun t18_9 h10 =>
  (pickP t12 (AV.bool true) t18_9).bind fun t19 =>
  condE t19 (
  some ((AV.sl none 0 (.ex 0)), h10)) (
  (faP 5 t4).bind fun t20 =>
  (ldS h10 t20).bind fun t21 =>
  (iaS 5 t21 x2).bind fun t23 =>
  (ldA 5 h10 t23).bind fun t24 =>
  mk Heap.new (some (Blk.cells true [(AV.int .i64 0), (AV.int .i64 0), (AV.int .i64 0), (AV.int .i64 0), (AV.int .i64 0)], fun i => AV.ptr (some (i, 0)))) h10 fun t8 h11 =>
  cl (stP 5 h11 t8 t24) fun u h12 =>
  (faP 0 t8).bind fun t25 =>
  (ldS h12 t25).bind fun t26 =>
  (eqP (some (.int .i64)) none false .eql t26 (AV.int .i64 18)).bind fun t31 =>
  condE t31 (
  (faP 1 t8).bind fun t32 =>
  (ldS h12 t32).bind fun t33 =>
  mk Heap.new (bsP 1 [(AV.int .i64 0)] 1 [(0, t33)]) h12 fun t34 h52 =>
  k_live_Follows_j0 t4 t34 h52) (
  (eqP (some (.int .i64)) none false .eql t26 (AV.int .i64 19)).bind fun t36 =>
  condE t36 (
  (faP 2 t8).bind fun t37 =>
  (ldS h12 t37).bind fun t38 =>
  (binP .add x2 (AV.int .i64 1)).bind fun t40 =>
  mk Heap.new (bsP 1 [(AV.int .i64 0)] 2 [(0, t38), (1, t40)]) h12 fun t41 h83 =>
  k_live_Follows_j0 t4 t41 h83) (
  (eqP (some (.int .i64)) none false .eql t26 (AV.int .i64 22)).bind fun t43 =>
  condE t43 (
  k_live_Follows_j1 x2 t3 t4 t8 t26 t43 h12) (
  (eqP (some (.int .i64)) none false .eql t26 (AV.int .i64 44)).bind fun t44 =>
  k_live_Follows_j1 x2 t3 t4 t8 t26 t44 h12))))
def T9 : Tab := (18, p3 k_live_Follows) :: T8
/- 43: gantline/live.Sets$1 -/
def k_live_Sets_1_b0 (x1 : AV) (x3 : AV) (t23 : AV) (t24 : AV) (q6 : AV) (q25 : AV) (h3 : Heap) : OutV :=
  (binP .lss q25 t24).bind fun t26 =>
  condE t26 (
  (iaS 4 t23 q25).bind fun t27 =>
  (ldA 4 h3 t27).bind fun t28 =>
  mk Heap.new (some (Blk.cells true [(AV.int .i64 0), (AV.int .i64 0), (AV.int .i64 0), (AV.int .i64 0)], fun i => AV.ptr (some (i, 0)))) h3 fun t9 h6 =>
  cl (stP 4 h6 t9 t28) fun u_7 h8 =>
  (faP 3 t9).bind fun t29 =>
  (ldS h8 t29).bind fun t30 =>
  (binP .lss t30 (AV.int .i64 0)).bind fun t31 =>
  gQ (gdW t31 false) h8 ((faP 3 t9).bind fun t33 =>
  some (t33, h8)) fun t33_9 h10 =>
  gQ (gdW t31 false) h10 ((ldS h10 t33_9).bind fun t34 =>
  some (t34, h10)) fun t34_11 h12 =>
  gQ (gdW t31 false) h12 ((faP 5 x1).bind fun t35 =>
  some (t35, h12)) fun t35_13 h14 =>
  gQ (gdW t31 false) h14 ((ldS h14 t35_13).bind fun t36 =>
  some (t36, h14)) fun t36_15 h16 =>
  gQ (gdW t31 false) h16 ((lnL t36_15).bind fun t37 =>
  some (t37, h16)) fun t37_17 h18 =>
  gQ (gdW t31 false) h18 ((binP .geq t34_11 t37_17).bind fun t38 =>
  some (t38, h18)) fun t38_19 h20 =>
  (pickP t31 (AV.bool true) t38_19).bind fun t39 =>
  condE t39 (
  (binP .add q25 (AV.int .i64 1)).bind fun t59_21 =>
  some (.normal, [q6, t59_21], h20)) (
  (ldS h20 x3).bind fun t40 =>
  (faP 3 t9).bind fun t41 =>
  (ldS h20 t41).bind fun t42 =>
  (iaS 1 t40 t42).bind fun t43 =>
  (ldS h20 t43).bind fun t44 =>
  (faP 0 t9).bind fun t45 =>
  (ldS h20 t45).bind fun t46 =>
  (eqP (some (.int .i64)) none false .eql t46 (AV.int .i64 0)).bind fun t47 =>
  condE t47 (
  (faP 2 t9).bind fun t50 =>
  (ldS h20 t50).bind fun t51 =>
  mk Heap.new (bsP 1 [(AV.int .i64 0)] 1 [(0, t51)]) h20 fun t52 h36 =>
  cl (k_live_bitsOf t52 h36) fun t53 h37 =>
  (binP .andNot t44 t53).bind fun t54 =>
  (binP .or q6 t54).bind fun t55 =>
  (binP .add q25 (AV.int .i64 1)).bind fun t59_38 =>
  some (.normal, [t55, t59_38], h37)) (
  (binP .or q6 t44).bind fun t58 =>
  (binP .add q25 (AV.int .i64 1)).bind fun t59_39 =>
  some (.normal, [t58, t59_39], h20)))) (
  some ((.exit 0), [q6, q25], h3))
def k_live_Sets_1_L0 (x1 : AV) (x3 : AV) (t23 : AV) (t24 : AV) (q6 : AV) (q25 : AV) (h3 : Heap) : OutV := loopN (fun us g => k_live_Sets_1_b0 x1 x3 t23 t24 (us.getD 0 .bot) (us.getD 1 .bot) g) [q6, q25] h3
def k_live_Sets_1_b1 (x3 : AV) (t64 : AV) (t65 : AV) (q6_43 : AV) (q66 : AV) (h44 : Heap) : OutV :=
  (binP .lss q66 t65).bind fun t67 =>
  condE t67 (
  (iaS 1 t64 q66).bind fun t68 =>
  (ldS h44 t68).bind fun t69 =>
  (ldS h44 x3).bind fun t71 =>
  (iaS 1 t71 t69).bind fun t73 =>
  (ldS h44 t73).bind fun t74 =>
  (binP .or q6_43 t74).bind fun t75 =>
  (binP .add q66 (AV.int .i64 1)).bind fun t76 =>
  some (.normal, [t75, t76], h44)) (
  some ((.exit 2), [q6_43, q66], h44))
def k_live_Sets_1_L1 (x3 : AV) (t64 : AV) (t65 : AV) (q6_43 : AV) (q66 : AV) (h44 : Heap) : OutV := loopN (fun us g => k_live_Sets_1_b1 x3 t64 t65 (us.getD 0 .bot) (us.getD 1 .bot) g) [q6_43, q66] h44
def k_live_Sets_1_b2 (x3 : AV) (t64_52 : AV) (t65_54 : AV) (q6_55 : AV) (q66_56 : AV) (h57 : Heap) : OutV :=
  (binP .lss q66_56 t65_54).bind fun t67_58 =>
  condE t67_58 (
  (iaS 1 t64_52 q66_56).bind fun t68_59 =>
  (ldS h57 t68_59).bind fun t69_60 =>
  (ldS h57 x3).bind fun t71_61 =>
  (iaS 1 t71_61 t69_60).bind fun t73_62 =>
  (ldS h57 t73_62).bind fun t74_63 =>
  (binP .or q6_55 t74_63).bind fun t75_64 =>
  (binP .add q66_56 (AV.int .i64 1)).bind fun t76_65 =>
  some (.normal, [t75_64, t76_65], h57)) (
  some ((.exit 2), [q6_55, q66_56], h57))
def k_live_Sets_1_L2 (x3 : AV) (t64_52 : AV) (t65_54 : AV) (q6_55 : AV) (q66_56 : AV) (h57 : Heap) : OutV := loopN (fun us g => k_live_Sets_1_b2 x3 t64_52 t65_54 (us.getD 0 .bot) (us.getD 1 .bot) g) [q6_55, q66_56] h57
def k_live_Sets_1 (x0 : AV) (x1 : AV) (x2 : AV) (x3 : AV) (h : Heap) : Option (AV × Heap) :=
  (faP 5 x1).bind fun t13 =>
  (ldS h t13).bind fun t14 =>
  (iaS 5 t14 x0).bind fun t16 =>
  (ldA 5 h t16).bind fun t17 =>
  mk Heap.new (some (Blk.cells true [(AV.int .i64 0), (AV.int .i64 0), (AV.int .i64 0), (AV.int .i64 0), (AV.int .i64 0)], fun i => AV.ptr (some (i, 0)))) h fun t7 h0 =>
  cl (stP 5 h0 t7 t17) fun u h1 =>
  (faP 0 t7).bind fun t18 =>
  (ldS h1 t18).bind fun t19 =>
  (eqP (some (.int .i64)) none false .eql t19 (AV.int .i64 41)).bind fun t20 =>
  condE t20 (
  (ldA 6 h1 x2).bind fun t21 =>
  (ldA 5 h1 t7).bind fun t22 =>
  cl (k_live_cases t21 t22 h1) fun t23 h2 =>
  (lnL t23).bind fun t24 =>
  lp (k_live_Sets_1_L0 x1 x3 t23 t24 (AV.int .u64 0) (AV.int .i64 0) h2) fun e vs h40 =>
  thenK (if e = .exit 0 then .normal else e) (
  some ((vs.getD 0 .bot), h40)) (fun e_41 => thenK e_41 (
  (ldA 6 h40 x2).bind fun t61 =>
  (ldA 7 h40 x1).bind fun t62 =>
  cl (k_live_Follows t61 t62 x0 h40) fun t64 h42 =>
  (lnL t64).bind fun t65 =>
  lp (k_live_Sets_1_L1 x3 t64 t65 (vs.getD 0 .bot) (AV.int .i64 0) h42) fun e_45 vs_46 h47 =>
  thenK (if e_45 = .exit 2 then .normal else e_45) (
  some ((vs_46.getD 0 .bot), h47)) (fun e_48 => endE e_48 (some ((AV.int .u64 0), h47)))) (fun e_49 => endE e_49 (some ((AV.int .u64 0), h40))))) (
  (ldA 6 h1 x2).bind fun t61_50 =>
  (ldA 7 h1 x1).bind fun t62_51 =>
  cl (k_live_Follows t61_50 t62_51 x0 h1) fun t64_52 h53 =>
  (lnL t64_52).bind fun t65_54 =>
  lp (k_live_Sets_1_L2 x3 t64_52 t65_54 (AV.int .u64 0) (AV.int .i64 0) h53) fun e_66 vs_67 h68 =>
  thenK (if e_66 = .exit 2 then .normal else e_66) (
  some ((vs_67.getD 0 .bot), h68)) (fun e_69 => endE e_69 (some ((AV.int .u64 0), h68))))
def T10 : Tab := (43, p4 k_live_Sets_1) :: T9
/- 29: gantline/gantlinelaw10.few -/
def k_law10_few (h : Heap) : Option (AV × Heap) :=
  mk Heap.new (some (Blk.cells true [(AV.int .i64 0), (AV.int .i64 0), (AV.int .i64 0), (AV.int .i64 0), (AV.sl none 0 (.ex 0)), (AV.sl none 0 (.ex 0)), (AV.sl none 0 (.ex 0))], fun i => AV.ptr (some (i, 0)))) h fun t0 h0 =>
  mk Heap.new (bsP 1 [(AV.bool false)] 4 [(0, (AV.bool false)), (1, (AV.bool false)), (2, (AV.bool true)), (3, (AV.bool false))]) h0 fun t1 h1 =>
  (bldS [(0, 1), (1, 1), (2, 1), (3, 1), (4, 1)] [(AV.int .i64 0), (AV.int .i64 0), (AV.int .i64 0), (AV.int .i64 0), (AV.int .i64 0)] [(0, (AV.int .i64 3)), (1, (AV.int .i64 1)), (2, (AV.int .i64 2)), (3, (AV.int .i64 3))]).bind fun t2 =>
  (bldS [(0, 1), (1, 1), (2, 1), (3, 1), (4, 1)] [(AV.int .i64 0), (AV.int .i64 0), (AV.int .i64 0), (AV.int .i64 0), (AV.int .i64 0)] [(0, (AV.int .i64 22)), (1, (AV.int .i64 1))]).bind fun t3 =>
  mk Heap.new (bsP 5 [(AV.int .i64 0), (AV.int .i64 0), (AV.int .i64 0), (AV.int .i64 0), (AV.int .i64 0)] 2 [(0, t2), (1, t3)]) h1 fun t4 h2 =>
  (bldS [(0, 1), (1, 1), (2, 1), (3, 1), (4, 1), (5, 1), (6, 1)] [(AV.int .i64 0), (AV.int .i64 0), (AV.int .i64 0), (AV.int .i64 0), (AV.sl none 0 (.ex 0)), (AV.sl none 0 (.ex 0)), (AV.sl none 0 (.ex 0))] [(2, (AV.int .i64 4)), (3, (AV.int .i64 1)), (4, t1), (5, t4)]).bind fun t5 =>
  cl (stP 7 h2 t0 t5) fun u h3 =>
  (ldA 7 h3 t0).bind fun t =>
  some (t, h3)
def T11 : Tab := (29, p0 k_law10_few) :: T10
/- 31: gantline/live.fn -/
def k_live_fn (x0 : AV) (x1 : AV) (h : Heap) : Option (AV × Heap) :=
  mk Heap.new (bxP x0) h fun t2 h0 =>
  mk Heap.new (some (Blk.cells true [(AV.int .i64 0), (AV.int .i64 0), (AV.int .i64 0), (AV.int .i64 0), (AV.sl none 0 (.ex 0)), (AV.sl none 0 (.ex 0)), (AV.sl none 0 (.ex 0))], fun i => AV.ptr (some (i, 0)))) h0 fun t4 h1 =>
  (binP .lss x1 (AV.int .i64 0)).bind fun t6 =>
  gQ (gdW t6 false) h1 (some (x1, h1)) fun t8 h2 =>
  gQ (gdW t6 false) h2 ((faP 4 t2).bind fun t9 =>
  some (t9, h2)) fun t9_3 h4 =>
  gQ (gdW t6 false) h4 ((ldS h4 t9_3).bind fun t10 =>
  some (t10, h4)) fun t10_5 h6 =>
  gQ (gdW t6 false) h6 ((lnL t10_5).bind fun t11 =>
  some (t11, h6)) fun t11_7 h8 =>
  gQ (gdW t6 false) h8 ((binP .geq t8 t11_7).bind fun t12 =>
  some (t12, h8)) fun t12_9 h10 =>
  (pickP t6 (AV.bool true) t12_9).bind fun t13 =>
  condE t13 (
  (bldS [(0, 1), (1, 1), (2, 1), (3, 1), (4, 1), (5, 1), (6, 1)] [(AV.int .i64 0), (AV.int .i64 0), (AV.int .i64 0), (AV.int .i64 0), (AV.sl none 0 (.ex 0)), (AV.sl none 0 (.ex 0)), (AV.sl none 0 (.ex 0))] []).bind fun t14 =>
  cl (stP 7 h10 t4 t14) fun u h11 =>
  (ldA 7 h11 t4).bind fun t =>
  some (t, h11)) (
  (faP 4 t2).bind fun t15 =>
  (ldS h10 t15).bind fun t16 =>
  (iaS 7 t16 x1).bind fun t18 =>
  (ldA 7 h10 t18).bind fun t19 =>
  cl (stP 7 h10 t4 t19) fun u_12 h13 =>
  (ldA 7 h13 t4).bind fun t_14 =>
  some (t_14, h13))
def T12 : Tab := (31, p2 k_live_fn) :: T11
/- 30: gantline/live.run -/
def k_live_run_b0 (x0 : AV) (x1 : AV) (q5_1 : AV) (q10_2 : AV) (h3 : Heap) : OutV :=
  (binP .lss q10_2 x1).bind fun t11 =>
  condE t11 (
  (binP .add x0 q10_2).bind fun t16 =>
  mk Heap.new (bsP 1 [(AV.int .i64 0)] 1 [(0, t16)]) h3 fun t17 h4 =>
  cl (appendA h4 1 8 q5_1 t17) fun t18 h5 =>
  (binP .add q10_2 (AV.int .i64 1)).bind fun t19 =>
  some (.normal, [t18, t19], h5)) (
  some ((.exit 0), [q5_1, q10_2], h3))
def k_live_run_L0 (x0 : AV) (x1 : AV) (q5_1 : AV) (q10_2 : AV) (h3 : Heap) : OutV := loopN (fun us g => k_live_run_b0 x0 x1 (us.getD 0 .bot) (us.getD 1 .bot) g) [q5_1, q10_2] h3
def k_live_run (x0 : AV) (x1 : AV) (h : Heap) : Option (AV × Heap) :=
  (binP .leq x1 (AV.int .i64 64)).bind fun t8 =>
  condE t8 (
  lp (k_live_run_L0 x0 x1 (AV.sl none 0 (.ex 0)) (AV.int .i64 0) h) fun e vs h6 =>
  thenK (if e = .exit 0 then .normal else e) (
  some ((vs.getD 0 .bot), h6)) (fun e_7 => endE e_7 (some ((AV.sl none 0 (.ex 0)), h6)))) (
  some ((AV.sl none 0 (.ex 0)), h))
def T13 : Tab := (30, p2 k_live_run) :: T12
/- 32: gantline/live.given -/
def k_live_given (x0 : AV) (h : Heap) : Option (AV × Heap) :=
  cl (k_slices_DeleteFunc_int_int x0 (AV.fn 54 [] []) h) fun t4 h0 =>
  some (t4, h0)
def T14 : Tab := (32, p1 k_live_given) :: T13
/- 33: gantline/live.readsOf -/
def k_live_readsOf_j0 (q8 : AV) (t5 : AV) (q3_10 : AV) (h11 : Heap) : OutV :=
  (faP 0 t5).bind fun t20 =>
  (ldS h11 t20).bind fun t21 =>
  (eqP (some (.int .i64)) none false .eql t21 (AV.int .i64 1)).bind fun t22 =>
  condE t22 (
  (faP 2 t5).bind fun t24 =>
  (ldS h11 t24).bind fun t25 =>
  mk Heap.new (bsP 1 [(AV.int .i64 0)] 1 [(0, t25)]) h11 fun t26 h20 =>
  cl (appendA h20 1 8 q3_10 t26) fun t27 h21 =>
  (binP .add q8 (AV.int .i64 1)).bind fun t28_22 =>
  some (.normal, [t27, t28_22], h21)) (
  (binP .add q8 (AV.int .i64 1)).bind fun t28_23 =>
  some (.normal, [q3_10, t28_23], h11))
def k_live_readsOf_b0 (x0 : AV) (t7 : AV) (q3 : AV) (q8 : AV) (h0 : Heap) : OutV :=
  (binP .lss q8 t7).bind fun t9 =>
  condE t9 (
  (iaS 4 x0 q8).bind fun t10 =>
  (ldA 4 h0 t10).bind fun t11 =>
  mk Heap.new (some (Blk.cells true [(AV.int .i64 0), (AV.int .i64 0), (AV.int .i64 0), (AV.int .i64 0)], fun i => AV.ptr (some (i, 0)))) h0 fun t5 h3 =>
  cl (stP 4 h3 t5 t11) fun u h4 =>
  (faP 0 t5).bind fun t12 =>
  (ldS h4 t12).bind fun t13 =>
  (eqP (some (.int .i64)) none false .neq t13 (AV.int .i64 2)).bind fun t14 =>
  condE t14 (
  (faP 1 t5).bind fun t16 =>
  (ldS h4 t16).bind fun t17 =>
  mk Heap.new (bsP 1 [(AV.int .i64 0)] 1 [(0, t17)]) h4 fun t18 h24 =>
  cl (appendA h24 1 8 q3 t18) fun t19 h25 =>
  k_live_readsOf_j0 q8 t5 t19 h25) (
  k_live_readsOf_j0 q8 t5 q3 h4)) (
  some ((.exit 0), [q3, q8], h0))
def k_live_readsOf_L0 (x0 : AV) (t7 : AV) (q3 : AV) (q8 : AV) (h0 : Heap) : OutV := loopN (fun us g => k_live_readsOf_b0 x0 t7 (us.getD 0 .bot) (us.getD 1 .bot) g) [q3, q8] h0
def k_live_readsOf (x0 : AV) (h : Heap) : Option (AV × Heap) :=
  (lnL x0).bind fun t7 =>
  lp (k_live_readsOf_L0 x0 t7 (AV.sl none 0 (.ex 0)) (AV.int .i64 0) h) fun e vs h26 =>
  thenK (if e = .exit 0 then .normal else e) (
  some ((vs.getD 0 .bot), h26)) (fun e_27 => endE e_27 (some ((AV.sl none 0 (.ex 0)), h26)))
def T15 : Tab := (33, p1 k_live_readsOf) :: T14
/- 14: gantline/live.Reads -/
def k_live_Reads (x0 : AV) (x1 : AV) (h : Heap) : Option (AV × Heap) :=
  mk Heap.new (bxP x0) h fun t2 h0 =>
  mk Heap.new (bxP x1) h0 fun t3 h1 =>
  (faP 0 t3).bind fun t6 =>
  (ldS h1 t6).bind fun t7 =>
  (eqP (some (.int .i64)) none false .eql t7 (AV.int .i64 1)).bind fun t10 =>
  gQ (gdW t10 false) h1 (some (t7, h1)) fun t12 h2 =>
  gQ (gdW t10 false) h2 ((eqP (some (.int .i64)) none false .eql t12 (AV.int .i64 17)).bind fun t13 =>
  some (t13, h2)) fun t13_3 h4 =>
  (pickP t10 (AV.bool true) t13_3).bind fun t14 =>
  gQ (gdW t14 false) h4 (some (t7, h4)) fun t16 h5 =>
  gQ (gdW t14 false) h5 ((eqP (some (.int .i64)) none false .eql t16 (AV.int .i64 33)).bind fun t17 =>
  some (t17, h5)) fun t17_6 h7 =>
  (pickP t14 (AV.bool true) t17_6).bind fun t18 =>
  gQ (gdW t18 false) h7 (some (t7, h7)) fun t20 h8 =>
  gQ (gdW t18 false) h8 ((eqP (some (.int .i64)) none false .eql t20 (AV.int .i64 35)).bind fun t21 =>
  some (t21, h8)) fun t21_9 h10 =>
  (pickP t18 (AV.bool true) t21_9).bind fun t22 =>
  gQ (gdW t22 false) h10 (some (t7, h10)) fun t24 h11 =>
  gQ (gdW t22 false) h11 ((eqP (some (.int .i64)) none false .eql t24 (AV.int .i64 27)).bind fun t25 =>
  some (t25, h11)) fun t25_12 h13 =>
  (pickP t22 (AV.bool true) t25_12).bind fun t26 =>
  gQ (gdW t26 false) h13 (some (t7, h13)) fun t28 h14 =>
  gQ (gdW t26 false) h14 ((eqP (some (.int .i64)) none false .eql t28 (AV.int .i64 39)).bind fun t29 =>
  some (t29, h14)) fun t29_15 h16 =>
  (pickP t26 (AV.bool true) t29_15).bind fun t30 =>
  condE t30 (
  (faP 2 t3).bind fun t31 =>
  (ldS h16 t31).bind fun t32 =>
  mk Heap.new (bsP 1 [(AV.int .i64 0)] 1 [(0, t32)]) h16 fun t33 h17 =>
  some (t33, h17)) (
  (binP .geq t7 (AV.int .i64 3)).bind fun t36 =>
  gQ (gdW t36 true) h16 (some (t7, h16)) fun t38 h18 =>
  gQ (gdW t36 true) h18 ((binP .leq t38 (AV.int .i64 16)).bind fun t39 =>
  some (t39, h18)) fun t39_19 h20 =>
  (pickP t36 t39_19 (AV.bool false)).bind fun t40 =>
  gQ (gdW t40 false) h20 (some (t7, h20)) fun t42 h21 =>
  gQ (gdW t40 false) h21 ((eqP (some (.int .i64)) none false .eql t42 (AV.int .i64 30)).bind fun t43 =>
  some (t43, h21)) fun t43_22 h23 =>
  (pickP t40 (AV.bool true) t43_22).bind fun t44 =>
  condE t44 (
  (faP 2 t3).bind fun t45 =>
  (ldS h23 t45).bind fun t46 =>
  (faP 3 t3).bind fun t47 =>
  (ldS h23 t47).bind fun t48 =>
  mk Heap.new (bsP 1 [(AV.int .i64 0)] 2 [(0, t46), (1, t48)]) h23 fun t49 h24 =>
  some (t49, h24)) (
  (eqP (some (.int .i64)) none false .eql t7 (AV.int .i64 19)).bind fun t52 =>
  gQ (gdW t52 false) h23 (some (t7, h23)) fun t54 h25 =>
  gQ (gdW t52 false) h25 ((eqP (some (.int .i64)) none false .eql t54 (AV.int .i64 40)).bind fun t55 =>
  some (t55, h25)) fun t55_26 h27 =>
  (pickP t52 (AV.bool true) t55_26).bind fun t56 =>
  gQ (gdW t56 false) h27 (some (t7, h27)) fun t58 h28 =>
  gQ (gdW t56 false) h28 ((eqP (some (.int .i64)) none false .eql t58 (AV.int .i64 42)).bind fun t59 =>
  some (t59, h28)) fun t59_29 h30 =>
  (pickP t56 (AV.bool true) t59_29).bind fun t60 =>
  condE t60 (
  (faP 1 t3).bind fun t61 =>
  (ldS h30 t61).bind fun t62 =>
  mk Heap.new (bsP 1 [(AV.int .i64 0)] 1 [(0, t62)]) h30 fun t63 h31 =>
  some (t63, h31)) (
  (eqP (some (.int .i64)) none false .eql t7 (AV.int .i64 20)).bind fun t66 =>
  condE t66 (
  (faP 3 t3).bind fun t67 =>
  clC (rdC (fun g => ldS g t67) h30 0 1 []) fun t68 cs =>
  (ldA 6 h30 t2).bind fun t69 =>
  (faP 2 t3).bind fun t70 =>
  (ldS h30 t70).bind fun t71 =>
  cl (k_live_fn t69 t71 h30) fun t72 h32 =>
  (fvS 0 t72).bind fun t73 =>
  cl (k_live_run t68 t73 h32) fun t74 h33 =>
  chk [h30, h32, h33] cs (
  some (t74, h33))) (
  (eqP (some (.int .i64)) none false .eql t7 (AV.int .i64 21)).bind fun t77 =>
  condE t77 (
  (faP 2 t3).bind fun t78 =>
  clC (rdC (fun g => ldS g t78) (hpN h30 1) 0 1 []) fun t79 cs_34 =>
  (faP 3 t3).bind fun t81 =>
  (ldS (hpN h30 1) t81).bind fun t82 =>
  (faP 4 t3).bind fun t83 =>
  (ldS (hpN h30 1) t83).bind fun t84 =>
  cl (k_live_run t82 t84 (hpN h30 1)) fun t85 h35 =>
  cl (mkAt Heap.put (bsP 1 [(AV.int .i64 0)] 1 [(0, t79)]) (h30.next + 0) h35) fun t80 h36 =>
  cl (appendA h36 1 8 t80 t85) fun t86 h37 =>
  chk [(hpN h30 1), h35, h37] cs_34 (
  some (t86, h37))) (
  (eqP (some (.int .i64)) none false .eql t7 (AV.int .i64 22)).bind fun t89 =>
  condE t89 (
  (faP 1 t3).bind fun t90 =>
  (ldS h30 t90).bind fun t91 =>
  mk Heap.new (bsP 1 [(AV.int .i64 0)] 1 [(0, t91)]) h30 fun t92 h38 =>
  cl (k_live_given t92 h38) fun t93 h39 =>
  some (t93, h39)) (
  (eqP (some (.int .i64)) none false .eql t7 (AV.int .i64 23)).bind fun t96 =>
  condE t96 (
  (faP 2 t3).bind fun t97 =>
  clC (rdC (fun g => ldS g t97) h30 0 1 []) fun t98 cs_40 =>
  (ldA 6 h30 t2).bind fun t99 =>
  (faP 1 t3).bind fun t100 =>
  (ldS h30 t100).bind fun t101 =>
  cl (k_live_fn t99 t101 h30) fun t102 h41 =>
  (fvS 0 t102).bind fun t103 =>
  cl (k_live_run t98 t103 h41) fun t104 h42 =>
  chk [h30, h41, h42] cs_40 (
  some (t104, h42))) (
  (eqP (some (.int .i64)) none false .eql t7 (AV.int .i64 24)).bind fun t107 =>
  condE t107 (
  (faP 1 t3).bind fun t108 =>
  clC (rdC (fun g => ldS g t108) (hpN h30 1) 0 1 []) fun t109 cs_43 =>
  (faP 2 t3).bind fun t111 =>
  (ldS (hpN h30 1) t111).bind fun t112 =>
  (faP 3 t3).bind fun t113 =>
  (ldS (hpN h30 1) t113).bind fun t114 =>
  cl (k_live_run t112 t114 (hpN h30 1)) fun t115 h44 =>
  cl (mkAt Heap.put (bsP 1 [(AV.int .i64 0)] 1 [(0, t109)]) (h30.next + 0) h44) fun t110 h45 =>
  cl (appendA h45 1 8 t110 t115) fun t116 h46 =>
  chk [(hpN h30 1), h44, h46] cs_43 (
  some (t116, h46))) (
  (eqP (some (.int .i64)) none false .eql t7 (AV.int .i64 26)).bind fun t119 =>
  gQ (gdW t119 false) h30 (some (t7, h30)) fun t121 h47 =>
  gQ (gdW t119 false) h47 ((eqP (some (.int .i64)) none false .eql t121 (AV.int .i64 37)).bind fun t122 =>
  some (t122, h47)) fun t122_48 h49 =>
  (pickP t119 (AV.bool true) t122_48).bind fun t123 =>
  condE t123 (
  (faP 3 t3).bind fun t124 =>
  (ldS h49 t124).bind fun t125 =>
  mk Heap.new (bsP 1 [(AV.int .i64 0)] 1 [(0, t125)]) h49 fun t126 h50 =>
  some (t126, h50)) (
  (eqP (some (.int .i64)) none false .eql t7 (AV.int .i64 28)).bind fun t129 =>
  gQ (gdW t129 false) h49 (some (t7, h49)) fun t131 h51 =>
  gQ (gdW t129 false) h51 ((eqP (some (.int .i64)) none false .eql t131 (AV.int .i64 29)).bind fun t132 =>
  some (t132, h51)) fun t132_52 h53 =>
  (pickP t129 (AV.bool true) t132_52).bind fun t133 =>
  condE t133 (
  (faP 1 t3).bind fun t134 =>
  (ldS h53 t134).bind fun t135 =>
  (faP 3 t3).bind fun t136 =>
  (ldS h53 t136).bind fun t137 =>
  mk Heap.new (bsP 1 [(AV.int .i64 0)] 2 [(0, t135), (1, t137)]) h53 fun t138 h54 =>
  some (t138, h54)) (
  (eqP (some (.int .i64)) none false .eql t7 (AV.int .i64 31)).bind fun t141 =>
  gQ (gdW t141 false) h53 (some (t7, h53)) fun t143 h55 =>
  gQ (gdW t141 false) h55 ((eqP (some (.int .i64)) none false .eql t143 (AV.int .i64 32)).bind fun t144 =>
  some (t144, h55)) fun t144_56 h57 =>
  (pickP t141 (AV.bool true) t144_56).bind fun t145 =>
  condE t145 (
  (faP 1 t3).bind fun t146 =>
  (ldS h57 t146).bind fun t147 =>
  (faP 2 t3).bind fun t148 =>
  (ldS h57 t148).bind fun t149 =>
  (faP 3 t3).bind fun t150 =>
  (ldS h57 t150).bind fun t151 =>
  mk Heap.new (bsP 1 [(AV.int .i64 0)] 3 [(0, t147), (1, t149), (2, t151)]) h57 fun t152 h58 =>
  some (t152, h58)) (
  (eqP (some (.int .i64)) none false .eql t7 (AV.int .i64 36)).bind fun t155 =>
  condE t155 (
  (faP 3 t3).bind fun t156 =>
  clC (rdC (fun g => ldS g t156) h57 0 1 []) fun t157 cs_59 =>
  (ldA 6 h57 t2).bind fun t158 =>
  (faP 2 t3).bind fun t159 =>
  (ldS h57 t159).bind fun t160 =>
  cl (k_live_fn t158 t160 h57) fun t161 h60 =>
  (fvS 1 t161).bind fun t162 =>
  cl (k_live_run t157 t162 h60) fun t163 h61 =>
  chk [h57, h60, h61] cs_59 (
  some (t163, h61))) (
  (eqP (some (.int .i64)) none false .eql t7 (AV.int .i64 38)).bind fun t166 =>
  condE t166 (
  (faP 1 t3).bind fun t167 =>
  (ldS h57 t167).bind fun t168 =>
  (faP 2 t3).bind fun t169 =>
  (ldS h57 t169).bind fun t170 =>
  mk Heap.new (bsP 1 [(AV.int .i64 0)] 2 [(0, t168), (1, t170)]) h57 fun t171 h62 =>
  some (t171, h62)) (
  (eqP (some (.int .i64)) none false .eql t7 (AV.int .i64 41)).bind fun t174 =>
  condE t174 (
  (ldA 6 h57 t2).bind fun t175 =>
  (ldA 5 h57 t3).bind fun t176 =>
  cl (k_live_cases t175 t176 h57) fun t177 h63 =>
  cl (k_live_readsOf t177 h63) fun t178 h64 =>
  some (t178, h64)) (
  some ((AV.sl none 0 (.ex 0)), h57)))))))))))))))
def T16 : Tab := (14, p2 k_live_Reads) :: T15
/- 16: gantline/live.Writes -/
def k_live_Writes (x0 : AV) (h : Heap) : Option (AV × Heap) :=
  mk Heap.new (bxP x0) h fun t1 h0 =>
  (faP 0 t1).bind fun t4 =>
  (ldS h0 t4).bind fun t5 =>
  (binP .geq t5 (AV.int .i64 0)).bind fun t8 =>
  gQ (gdW t8 true) h0 (some (t5, h0)) fun t10 h1 =>
  gQ (gdW t8 true) h1 ((binP .leq t10 (AV.int .i64 17)).bind fun t11 =>
  some (t11, h1)) fun t11_2 h3 =>
  (pickP t8 t11_2 (AV.bool false)).bind fun t12 =>
  gQ (gdW t12 false) h3 (some (t5, h3)) fun t14 h4 =>
  gQ (gdW t12 false) h4 ((binP .geq t14 (AV.int .i64 25)).bind fun t15 =>
  some (t15, h4)) fun t15_5 h6 =>
  gQ (gdW t12 false) h6 (some (t15_5, h6)) fun t16 h7 =>
  gQ (gdW t16 true) h7 (some (t5, h7)) fun t17 h8 =>
  gQ (gdW t16 true) h8 ((binP .leq t17 (AV.int .i64 27)).bind fun t18 =>
  some (t18, h8)) fun t18_9 h10 =>
  gQ (gdW t12 false) h10 ((pickP t16 t18_9 (AV.bool false)).bind fun t19 =>
  some (t19, h10)) fun t19_11 h12 =>
  (pickP t12 (AV.bool true) t19_11).bind fun t20 =>
  gQ (gdW t20 false) h12 (some (t5, h12)) fun t22 h13 =>
  gQ (gdW t20 false) h13 ((eqP (some (.int .i64)) none false .eql t22 (AV.int .i64 30)).bind fun t23 =>
  some (t23, h13)) fun t23_14 h15 =>
  (pickP t20 (AV.bool true) t23_14).bind fun t24 =>
  gQ (gdW t24 false) h15 (some (t5, h15)) fun t26 h16 =>
  gQ (gdW t24 false) h16 ((eqP (some (.int .i64)) none false .eql t26 (AV.int .i64 33)).bind fun t27 =>
  some (t27, h16)) fun t27_17 h18 =>
  (pickP t24 (AV.bool true) t27_17).bind fun t28 =>
  gQ (gdW t28 false) h18 (some (t5, h18)) fun t30 h19 =>
  gQ (gdW t28 false) h19 ((eqP (some (.int .i64)) none false .eql t30 (AV.int .i64 34)).bind fun t31 =>
  some (t31, h19)) fun t31_20 h21 =>
  (pickP t28 (AV.bool true) t31_20).bind fun t32 =>
  gQ (gdW t32 false) h21 (some (t5, h21)) fun t34 h22 =>
  gQ (gdW t32 false) h22 ((eqP (some (.int .i64)) none false .eql t34 (AV.int .i64 36)).bind fun t35 =>
  some (t35, h22)) fun t35_23 h24 =>
  (pickP t32 (AV.bool true) t35_23).bind fun t36 =>
  gQ (gdW t36 false) h24 (some (t5, h24)) fun t38 h25 =>
  gQ (gdW t36 false) h25 ((eqP (some (.int .i64)) none false .eql t38 (AV.int .i64 37)).bind fun t39 =>
  some (t39, h25)) fun t39_26 h27 =>
  (pickP t36 (AV.bool true) t39_26).bind fun t40 =>
  condE t40 (
  (faP 1 t1).bind fun t41 =>
  (ldS h27 t41).bind fun t42 =>
  mk Heap.new (bsP 1 [(AV.int .i64 0)] 1 [(0, t42)]) h27 fun t43 h28 =>
  some (t43, h28)) (
  (eqP (some (.int .i64)) none false .eql t5 (AV.int .i64 20)).bind fun t46 =>
  gQ (gdW t46 false) h27 (some (t5, h27)) fun t48 h29 =>
  gQ (gdW t46 false) h29 ((eqP (some (.int .i64)) none false .eql t48 (AV.int .i64 21)).bind fun t49 =>
  some (t49, h29)) fun t49_30 h31 =>
  (pickP t46 (AV.bool true) t49_30).bind fun t50 =>
  condE t50 (
  (faP 1 t1).bind fun t51 =>
  (ldS h31 t51).bind fun t52 =>
  mk Heap.new (bsP 1 [(AV.int .i64 0)] 1 [(0, t52)]) h31 fun t53 h32 =>
  cl (k_live_given t53 h32) fun t54 h33 =>
  some (t54, h33)) (
  (eqP (some (.int .i64)) none false .eql t5 (AV.int .i64 39)).bind fun t57 =>
  condE t57 (
  (faP 1 t1).bind fun t58 =>
  (ldS h31 t58).bind fun t59 =>
  (faP 3 t1).bind fun t60 =>
  (ldS h31 t60).bind fun t61 =>
  mk Heap.new (bsP 1 [(AV.int .i64 0)] 2 [(0, t59), (1, t61)]) h31 fun t62 h34 =>
  cl (k_live_given t62 h34) fun t63 h35 =>
  some (t63, h35)) (
  some ((AV.sl none 0 (.ex 0)), h31))))
def T17 : Tab := (16, p1 k_live_Writes) :: T16
/- 21: gantline/live.Sets -/
def k_live_Sets_b0 (t2 : AV) (t3 : AV) (t5 : AV) (q7_6 : AV) (q8 : AV) (h7 : Heap) : OutV :=
  (binP .geq q8 (AV.int .i64 0)).bind fun t22 =>
  condE t22 (
  (faP 5 t3).bind fun t25 =>
  (ldS h7 t25).bind fun t26 =>
  (iaS 5 t26 q8).bind fun t28 =>
  (ldA 5 h7 t28).bind fun t29 =>
  mk Heap.new (some (Blk.cells true [(AV.int .i64 0), (AV.int .i64 0), (AV.int .i64 0), (AV.int .i64 0), (AV.int .i64 0)], fun i => AV.ptr (some (i, 0)))) h7 fun t9 h10 =>
  cl (stP 5 h10 t9 t29) fun u_11 h12 =>
  (ldA 6 h12 t2).bind fun t30 =>
  (ldA 5 h12 t9).bind fun t31 =>
  cl (k_live_Reads t30 t31 h12) fun t32 h13 =>
  cl (k_live_bitsOf t32 h13) fun t33 h14 =>
  clF (lookT T17) (cvP (AV.fn 43 [] [t3, t2, t5]) [q8]) h14 fun t36 h15 =>
  clC (rdC (fun g => ldA 5 g t9) h15 0 3 []) fun t37 cs =>
  cl (k_live_Writes t37 h15) fun t38 h16 =>
  cl (k_live_bitsOf t38 h16) fun t39 h17 =>
  (binP .andNot t36 t39).bind fun t40 =>
  (binP .or t33 t40).bind fun t41 =>
  chk [h12, h13, h14, h15, h16, h17] cs (
  (ldS h17 t5).bind fun t43 =>
  (iaS 1 t43 q8).bind fun t45 =>
  (ldS h17 t45).bind fun t46 =>
  (eqP (some (.int .u64)) none false .neq t41 t46).bind fun t47 =>
  condE t47 (
  (ldS h17 t5).bind fun t48 =>
  (iaS 1 t48 q8).bind fun t51 =>
  cl (stP 1 h17 t51 t41) fun u_25 h26 =>
  (binP .sub q8 (AV.int .i64 1)).bind fun t24_27 =>
  some (.normal, [(AV.bool true), t24_27], h26)) (
  (binP .sub q8 (AV.int .i64 1)).bind fun t24_28 =>
  some (.normal, [q7_6, t24_28], h17)))) (
  some ((.exit 2), [q7_6, q8], h7))
def k_live_Sets_L0 (t2 : AV) (t3 : AV) (t5 : AV) (q7_6 : AV) (q8 : AV) (h7 : Heap) : OutV := loopN (fun us g => k_live_Sets_b0 t2 t3 t5 (us.getD 0 .bot) (us.getD 1 .bot) g) [q7_6, q8] h7
def k_live_Sets_b1 (t2 : AV) (t3 : AV) (t5 : AV) (q7 : AV) (h5 : Heap) : OutV :=
  condE q7 (
  (faP 5 t3).bind fun t17 =>
  (ldS h5 t17).bind fun t18 =>
  (lnL t18).bind fun t19 =>
  (binP .sub t19 (AV.int .i64 1)).bind fun t20 =>
  lp (k_live_Sets_L0 t2 t3 t5 (AV.bool false) t20 h5) fun e vs h29 =>
  some ((if (if e = .exit 2 then .normal else e) = .exit 1 then .normal else (if e = .exit 2 then .normal else e)), [(vs.getD 0 .bot)], h29)) (
  some ((.exit 0), [q7], h5))
def k_live_Sets_L1 (t2 : AV) (t3 : AV) (t5 : AV) (q7 : AV) (h5 : Heap) : OutV := loopN (fun us g => k_live_Sets_b1 t2 t3 t5 (us.getD 0 .bot) g) [q7] h5
def k_live_Sets (x0 : AV) (x1 : AV) (h : Heap) : Option (AV × Heap) :=
  mk Heap.new (bxP x0) h fun t2 h0 =>
  mk Heap.new (bxP x1) h0 fun t3 h1 =>
  (faP 5 t3).bind fun t11 =>
  (ldS h1 t11).bind fun t12 =>
  (lnL t12).bind fun t13 =>
  mk Heap.new (msP 1 8 [(AV.int .u64 0)] t13 t13) h1 fun t14 h2 =>
  mk Heap.new (some (Blk.cells true [(AV.sl none 0 (.ex 0))], fun i => AV.ptr (some (i, 0)))) h2 fun t5 h3 =>
  cl (stP 1 h3 t5 t14) fun u h4 =>
  lp (k_live_Sets_L1 t2 t3 t5 (AV.bool true) h4) fun e_30 vs_31 h32 =>
  thenK (if e_30 = .exit 0 then .normal else e_30) (
  (ldS h32 t5).bind fun t52 =>
  some (t52, h32)) (fun e_33 => endE e_33 (some ((AV.sl none 0 (.ex 0)), h32)))
def T18 : Tab := (21, p2 k_live_Sets) :: T17
/- 23: gantline/live.Maps -/
def k_live_Maps_b0 (t16 : AV) (t17 : AV) (q5 : AV) (q18 : AV) (h2 : Heap) : OutV :=
  (binP .lss q18 t17).bind fun t19 =>
  condE t19 (
  (iaS 1 t16 q18).bind fun t21 =>
  (ldS h2 t21).bind fun t22 =>
  condE t22 (
  (cvI .u64 q18).bind fun t26 =>
  (binP .shl (AV.int .u64 1) t26).bind fun t27 =>
  (binP .or q5 t27).bind fun t28 =>
  (binP .add q18 (AV.int .i64 1)).bind fun t29_13 =>
  some (.normal, [t28, t29_13], h2)) (
  (binP .add q18 (AV.int .i64 1)).bind fun t29_14 =>
  some (.normal, [q5, t29_14], h2))) (
  some ((.exit 0), [q5, q18], h2))
def k_live_Maps_L0 (t16 : AV) (t17 : AV) (q5 : AV) (q18 : AV) (h2 : Heap) : OutV := loopN (fun us g => k_live_Maps_b0 t16 t17 (us.getD 0 .bot) (us.getD 1 .bot) g) [q5, q18] h2
def k_live_Maps_b1 (vs : List AV) (t32 : AV) (t34 : AV) (q35 : AV) (h17 : Heap) : OutV :=
  (binP .lss q35 t34).bind fun t36 =>
  condE t36 (
  (iaS 1 t32 q35).bind fun t40 =>
  (ldS h17 t40).bind fun t41 =>
  (binP .and t41 (vs.getD 0 .bot)).bind fun t43 =>
  (iaS 1 t32 q35).bind fun t44 =>
  cl (stP 1 h17 t44 t43) fun u h18 =>
  (binP .add q35 (AV.int .i64 1)).bind fun t45 =>
  some (.normal, [t45], h18)) (
  some ((.exit 2), [q35], h17))
def k_live_Maps_L1 (vs : List AV) (t32 : AV) (t34 : AV) (q35 : AV) (h17 : Heap) : OutV := loopN (fun us g => k_live_Maps_b1 vs t32 t34 (us.getD 0 .bot) g) [q35] h17
def k_live_Maps (x0 : AV) (x1 : AV) (h : Heap) : Option (AV × Heap) :=
  mk Heap.new (bxP x0) h fun t2 h0 =>
  mk Heap.new (bxP x1) h0 fun t3 h1 =>
  (faP 4 t3).bind fun t10 =>
  (ldS h1 t10).bind fun t11 =>
  (faP 4 t3).bind fun t12 =>
  (ldS h1 t12).bind fun t13 =>
  (lnL t13).bind fun t14 =>
  (minP t14 (AV.int .i64 64)).bind fun t15 =>
  (slcP 1 t11 none (some t15) none).bind fun t16 =>
  (lnL t16).bind fun t17 =>
  lp (k_live_Maps_L0 t16 t17 (AV.int .u64 0) (AV.int .i64 0) h1) fun e vs h15 =>
  thenK (if e = .exit 0 then .normal else e) (
  (ldA 6 h15 t2).bind fun t30 =>
  (ldA 7 h15 t3).bind fun t31 =>
  cl (k_live_Sets t30 t31 h15) fun t32 h16 =>
  (lnL t32).bind fun t34 =>
  lp (k_live_Maps_L1 vs t32 t34 (AV.int .i64 0) h16) fun e_19 vs_20 h21 =>
  thenK (if e_19 = .exit 2 then .normal else e_19) (
  some (t32, h21)) (fun e_22 => endE e_22 (some ((AV.sl none 0 (.ex 0)), h21)))) (fun e_23 => endE e_23 (some ((AV.sl none 0 (.ex 0)), h15)))
def T19 : Tab := (23, p2 k_live_Maps) :: T18
/- 20: gantline/gantlinelaw10.nums -/
def k_law10_nums_b0 (x0 : AV) (x1 : AV) (q4 : AV) (q5 : AV) (h0 : Heap) : OutV :=
  (lnL x0).bind fun t13 =>
  (binP .lss q5 t13).bind fun t14 =>
  condE t14 (
  (iaS 1 x0 q5).bind fun t19 =>
  (ldS h0 t19).bind fun t20 =>
  (iaS 1 x1 q5).bind fun t23 =>
  (ldS h0 t23).bind fun t24 =>
  (eqP (some (.int .u64)) none false .neq t20 t24).bind fun t25 =>
  chk [h0] [] (
  condE t25 (
  some (.ret, [(AV.bool false), q5], h0)) (
  (binP .add q5 (AV.int .i64 1)).bind fun t16 =>
  some (.normal, [q4, t16], h0)))) (
  some ((.exit 0), [q4, q5], h0))
def k_law10_nums_L0 (x0 : AV) (x1 : AV) (q4 : AV) (q5 : AV) (h0 : Heap) : OutV := loopN (fun us g => k_law10_nums_b0 x0 x1 (us.getD 0 .bot) (us.getD 1 .bot) g) [q4, q5] h0
def k_law10_nums (x0 : AV) (x1 : AV) (h : Heap) : Option (AV × Heap) :=
  (lnL x0).bind fun t7 =>
  (lnL x1).bind fun t9 =>
  (eqP (some (.int .i64)) none false .neq t7 t9).bind fun t10 =>
  condE t10 (
  some ((AV.bool false), h)) (
  lp (k_law10_nums_L0 x0 x1 (AV.bool false) (AV.int .i64 0) h) fun e vs h1 =>
  thenK (if e = .exit 0 then .normal else e) (
  some ((AV.bool true), h1)) (fun e_2 => endE e_2 (some ((vs.getD 0 .bot), h1))))
def T20 : Tab := (20, p2 k_law10_nums) :: T19
/- 13: gantline/gantlineref17.Ints -/
def k_ref17_Ints_b0 (x0 : AV) (x1 : AV) (q4 : AV) (q5 : AV) (h0 : Heap) : OutV :=
  (lnL x0).bind fun t13 =>
  (binP .lss q5 t13).bind fun t14 =>
  condE t14 (
  (iaS 1 x0 q5).bind fun t19 =>
  (ldS h0 t19).bind fun t20 =>
  (iaS 1 x1 q5).bind fun t23 =>
  (ldS h0 t23).bind fun t24 =>
  (eqP (some (.int .i64)) none false .neq t20 t24).bind fun t25 =>
  chk [h0] [] (
  condE t25 (
  some (.ret, [(AV.bool false), q5], h0)) (
  (binP .add q5 (AV.int .i64 1)).bind fun t16 =>
  some (.normal, [q4, t16], h0)))) (
  some ((.exit 0), [q4, q5], h0))
def k_ref17_Ints_L0 (x0 : AV) (x1 : AV) (q4 : AV) (q5 : AV) (h0 : Heap) : OutV := loopN (fun us g => k_ref17_Ints_b0 x0 x1 (us.getD 0 .bot) (us.getD 1 .bot) g) [q4, q5] h0
def k_ref17_Ints (x0 : AV) (x1 : AV) (h : Heap) : Option (AV × Heap) :=
  (lnL x0).bind fun t7 =>
  (lnL x1).bind fun t9 =>
  (eqP (some (.int .i64)) none false .neq t7 t9).bind fun t10 =>
  condE t10 (
  some ((AV.bool false), h)) (
  lp (k_ref17_Ints_L0 x0 x1 (AV.bool false) (AV.int .i64 0) h) fun e vs h1 =>
  thenK (if e = .exit 0 then .normal else e) (
  some ((AV.bool true), h1)) (fun e_2 => endE e_2 (some ((vs.getD 0 .bot), h1))))
def T21 : Tab := (13, p2 k_ref17_Ints) :: T20
/- 8: gantline/gantlinelaw10.awake -/
def k_law10_awakeR (h : Heap) : Option (AV × Heap) :=
  (bldS [(0, 1), (1, 1), (2, 1), (3, 1), (4, 1), (5, 1)] [(AV.sl none 0 (.ex 0)), (AV.sl none 0 (.ex 0)), (AV.sl none 0 (.ex 0)), (AV.sl none 0 (.ex 0)), (AV.sl none 0 (.ex 0)), (AV.int .i64 0)] []).bind fun t6 =>
  cl (k_law10_few h) fun t7 h0 =>
  cl (k_live_Sets t6 t7 h0) fun t8 h1 =>
  (bldS [(0, 1), (1, 1), (2, 1), (3, 1), (4, 1), (5, 1)] [(AV.sl none 0 (.ex 0)), (AV.sl none 0 (.ex 0)), (AV.sl none 0 (.ex 0)), (AV.sl none 0 (.ex 0)), (AV.sl none 0 (.ex 0)), (AV.int .i64 0)] []).bind fun t9 =>
  cl (k_law10_few h1) fun t10 h2 =>
  cl (k_live_Maps t9 t10 h2) fun t11 h3 =>
  (bldS [(0, 1), (1, 1), (2, 1), (3, 1), (4, 1), (5, 1)] [(AV.sl none 0 (.ex 0)), (AV.sl none 0 (.ex 0)), (AV.sl none 0 (.ex 0)), (AV.sl none 0 (.ex 0)), (AV.sl none 0 (.ex 0)), (AV.int .i64 0)] []).bind fun t12 =>
  cl (k_law10_few h3) fun t13 h4 =>
  (fvS 5 t13).bind fun t14 =>
  (iaS 5 t14 (AV.int .i64 0)).bind fun t15 =>
  (ldA 5 h4 t15).bind fun t16 =>
  cl (k_live_Reads t12 t16 h4) fun t17 h5 =>
  cl (k_law10_few h5) fun t18 h6 =>
  (fvS 5 t18).bind fun t19 =>
  (iaS 5 t19 (AV.int .i64 0)).bind fun t20 =>
  (ldA 5 h6 t20).bind fun t21 =>
  cl (k_live_Writes t21 h6) fun t22 h7 =>
  (bldS [(0, 1), (1, 1), (2, 1), (3, 1), (4, 1), (5, 1)] [(AV.sl none 0 (.ex 0)), (AV.sl none 0 (.ex 0)), (AV.sl none 0 (.ex 0)), (AV.sl none 0 (.ex 0)), (AV.sl none 0 (.ex 0)), (AV.int .i64 0)] []).bind fun t23 =>
  cl (k_law10_few h7) fun t24 h8 =>
  cl (k_live_Follows t23 t24 (AV.int .i64 0) h8) fun t25 h9 =>
  mk Heap.new (bsP 1 [(AV.int .u64 0)] 2 [(0, (AV.int .u64 12)), (1, (AV.int .u64 2))]) h9 fun t27 h10 =>
  cl (k_law10_nums t8 t27 h10) fun t28 h11 =>
  gQ (gdW t28 true) h11 (some (t11, h11)) fun t30 h12 =>
  gQ (gdW t28 true) h12 (mk Heap.new (bsP 1 [(AV.int .u64 0)] 2 [(0, (AV.int .u64 4)), (1, (AV.int .u64 0))]) h12 fun t31 h13 =>
  some (t31, h13)) fun t31_14 h15 =>
  gQ (gdW t28 true) h15 (cl (k_law10_nums t30 t31_14 h15) fun t32 h16 =>
  some (t32, h16)) fun t32_17 h18 =>
  (pickP t28 t32_17 (AV.bool false)).bind fun t33 =>
  gQ (gdW t33 true) h18 (some (t17, h18)) fun t35 h19 =>
  gQ (gdW t33 true) h19 (mk Heap.new (bsP 1 [(AV.int .i64 0)] 2 [(0, (AV.int .i64 2)), (1, (AV.int .i64 3))]) h19 fun t36 h20 =>
  some (t36, h20)) fun t36_21 h22 =>
  gQ (gdW t33 true) h22 (cl (k_ref17_Ints t35 t36_21 h22) fun t37 h23 =>
  some (t37, h23)) fun t37_24 h25 =>
  (pickP t33 t37_24 (AV.bool false)).bind fun t38 =>
  gQ (gdW t38 true) h25 (some (t22, h25)) fun t40 h26 =>
  gQ (gdW t38 true) h26 (mk Heap.new (bsP 1 [(AV.int .i64 0)] 1 [(0, (AV.int .i64 1))]) h26 fun t41 h27 =>
  some (t41, h27)) fun t41_28 h29 =>
  gQ (gdW t38 true) h29 (cl (k_ref17_Ints t40 t41_28 h29) fun t42 h30 =>
  some (t42, h30)) fun t42_31 h32 =>
  (pickP t38 t42_31 (AV.bool false)).bind fun t43 =>
  gQ (gdW t43 true) h32 (some (t25, h32)) fun t45 h33 =>
  gQ (gdW t43 true) h33 (mk Heap.new (bsP 1 [(AV.int .i64 0)] 1 [(0, (AV.int .i64 1))]) h33 fun t46 h34 =>
  some (t46, h34)) fun t46_35 h36 =>
  gQ (gdW t43 true) h36 (cl (k_ref17_Ints t45 t46_35 h36) fun t47 h37 =>
  some (t47, h37)) fun t47_38 h39 =>
  (pickP t43 t47_38 (AV.bool false)).bind fun t48 =>
  some (t48, h39)
def k_law10_awake : Heap → Option (AV × Heap) := quiet hQ0
def T22 : Tab := (8, p0 k_law10_awake) :: T21
/- 9: gantline/gantlineref17.Big -/
def k_ref17_Big_b0 (t1 : AV) (q2 : AV) (q3 : AV) (h33 : Heap) : OutV :=
  (faP 4 t1).bind fun t33 =>
  (ldS h33 t33).bind fun t34 =>
  (lnL t34).bind fun t35 =>
  (binP .lss q3 t35).bind fun t36 =>
  condE t36 (
  (faP 4 t1).bind fun t39 =>
  (ldS h33 t39).bind fun t40 =>
  (iaS 7 t40 q3).bind fun t42 =>
  (faP 5 t42).bind fun t43 =>
  (ldS h33 t43).bind fun t44 =>
  (lnL t44).bind fun t45 =>
  (binP .gtr t45 (AV.int .i64 200)).bind fun t46 =>
  gQ (gdW t46 false) h33 ((faP 4 t1).bind fun t48 =>
  some (t48, h33)) fun t48_34 h35 =>
  gQ (gdW t46 false) h35 ((ldS h35 t48_34).bind fun t49 =>
  some (t49, h35)) fun t49_36 h37 =>
  gQ (gdW t46 false) h37 (some (q3, h37)) fun t50 h38 =>
  gQ (gdW t46 false) h38 ((iaS 7 t49_36 t50).bind fun t51 =>
  some (t51, h38)) fun t51_39 h40 =>
  gQ (gdW t46 false) h40 ((faP 6 t51_39).bind fun t52 =>
  some (t52, h40)) fun t52_41 h42 =>
  gQ (gdW t46 false) h42 ((ldS h42 t52_41).bind fun t53 =>
  some (t53, h42)) fun t53_43 h44 =>
  gQ (gdW t46 false) h44 ((lnL t53_43).bind fun t54 =>
  some (t54, h44)) fun t54_45 h46 =>
  gQ (gdW t46 false) h46 ((binP .gtr t54_45 (AV.int .i64 300)).bind fun t55 =>
  some (t55, h46)) fun t55_47 h48 =>
  (pickP t46 (AV.bool true) t55_47).bind fun t56 =>
  gQ (gdW t56 false) h48 ((faP 4 t1).bind fun t58 =>
  some (t58, h48)) fun t58_49 h50 =>
  gQ (gdW t56 false) h50 ((ldS h50 t58_49).bind fun t59 =>
  some (t59, h50)) fun t59_51 h52 =>
  gQ (gdW t56 false) h52 (some (q3, h52)) fun t60 h53 =>
  gQ (gdW t56 false) h53 ((iaS 7 t59_51 t60).bind fun t61 =>
  some (t61, h53)) fun t61_54 h55 =>
  gQ (gdW t56 false) h55 ((faP 4 t61_54).bind fun t62 =>
  some (t62, h55)) fun t62_56 h57 =>
  gQ (gdW t56 false) h57 ((ldS h57 t62_56).bind fun t63 =>
  some (t63, h57)) fun t63_58 h59 =>
  gQ (gdW t56 false) h59 ((lnL t63_58).bind fun t64 =>
  some (t64, h59)) fun t64_60 h61 =>
  gQ (gdW t56 false) h61 ((binP .gtr t64_60 (AV.int .i64 100)).bind fun t65 =>
  some (t65, h61)) fun t65_62 h63 =>
  (pickP t56 (AV.bool true) t65_62).bind fun t66 =>
  condE t66 (
  some (.ret, [(AV.bool true), q3], h63)) (
  (binP .add q3 (AV.int .i64 1)).bind fun t38 =>
  some (.normal, [q2, t38], h63))) (
  some ((.exit 0), [q2, q3], h33))
def k_ref17_Big_L0 (t1 : AV) (q2 : AV) (q3 : AV) (h33 : Heap) : OutV := loopN (fun us g => k_ref17_Big_b0 t1 (us.getD 0 .bot) (us.getD 1 .bot) g) [q2, q3] h33
def k_ref17_Big (x0 : AV) (h : Heap) : Option (AV × Heap) :=
  mk Heap.new (bxP x0) h fun t1 h0 =>
  (faP 0 t1).bind fun t4 =>
  (ldS h0 t4).bind fun t5 =>
  (lnL t5).bind fun t6 =>
  (binP .gtr t6 (AV.int .i64 40)).bind fun t7 =>
  gQ (gdW t7 false) h0 ((faP 1 t1).bind fun t9 =>
  some (t9, h0)) fun t9_1 h2 =>
  gQ (gdW t7 false) h2 ((ldS h2 t9_1).bind fun t10 =>
  some (t10, h2)) fun t10_3 h4 =>
  gQ (gdW t7 false) h4 ((lnL t10_3).bind fun t11 =>
  some (t11, h4)) fun t11_5 h6 =>
  gQ (gdW t7 false) h6 ((binP .gtr t11_5 (AV.int .i64 300)).bind fun t12 =>
  some (t12, h6)) fun t12_7 h8 =>
  (pickP t7 (AV.bool true) t12_7).bind fun t13 =>
  gQ (gdW t13 false) h8 ((faP 2 t1).bind fun t15 =>
  some (t15, h8)) fun t15_9 h10 =>
  gQ (gdW t13 false) h10 ((ldS h10 t15_9).bind fun t16 =>
  some (t16, h10)) fun t16_11 h12 =>
  gQ (gdW t13 false) h12 ((lnL t16_11).bind fun t17 =>
  some (t17, h12)) fun t17_13 h14 =>
  gQ (gdW t13 false) h14 ((binP .gtr t17_13 (AV.int .i64 100)).bind fun t18 =>
  some (t18, h14)) fun t18_15 h16 =>
  (pickP t13 (AV.bool true) t18_15).bind fun t19 =>
  gQ (gdW t19 false) h16 ((faP 3 t1).bind fun t21 =>
  some (t21, h16)) fun t21_17 h18 =>
  gQ (gdW t19 false) h18 ((ldS h18 t21_17).bind fun t22 =>
  some (t22, h18)) fun t22_19 h20 =>
  gQ (gdW t19 false) h20 ((lnL t22_19).bind fun t23 =>
  some (t23, h20)) fun t23_21 h22 =>
  gQ (gdW t19 false) h22 ((binP .gtr t23_21 (AV.int .i64 60)).bind fun t24 =>
  some (t24, h22)) fun t24_23 h24 =>
  (pickP t19 (AV.bool true) t24_23).bind fun t25 =>
  gQ (gdW t25 false) h24 ((faP 4 t1).bind fun t27 =>
  some (t27, h24)) fun t27_25 h26 =>
  gQ (gdW t25 false) h26 ((ldS h26 t27_25).bind fun t28 =>
  some (t28, h26)) fun t28_27 h28 =>
  gQ (gdW t25 false) h28 ((lnL t28_27).bind fun t29 =>
  some (t29, h28)) fun t29_29 h30 =>
  gQ (gdW t25 false) h30 ((binP .gtr t29_29 (AV.int .i64 20)).bind fun t30 =>
  some (t30, h30)) fun t30_31 h32 =>
  (pickP t25 (AV.bool true) t30_31).bind fun t31 =>
  condE t31 (
  some ((AV.bool true), h32)) (
  lp (k_ref17_Big_L0 t1 (AV.bool false) (AV.int .i64 0) h32) fun e vs h64 =>
  thenK (if e = .exit 0 then .normal else e) (
  some ((AV.bool false), h64)) (fun e_65 => endE e_65 (some ((vs.getD 0 .bot), h64))))
def T23 : Tab := (9, p1 k_ref17_Big) :: T22
/- 12: gantline/gantlineref17.Instr -/
def k_ref17_Instr (x0 : AV) (h : Heap) : Option (AV × Heap) :=
  mk Heap.new (bxP x0) h fun t1 h0 =>
  mk Heap.new (some (Blk.cells true [(AV.int .i64 0), (AV.int .i64 0), (AV.int .i64 0), (AV.int .i64 0), (AV.int .i64 0)], fun i => AV.ptr (some (i, 0)))) h0 fun t2 h1 =>
  (faP 0 t1).bind fun t3 =>
  (ldS h1 t3).bind fun t4 =>
  (faP 1 t1).bind fun t5 =>
  (ldS h1 t5).bind fun t6 =>
  (faP 2 t1).bind fun t7 =>
  (ldS h1 t7).bind fun t8 =>
  (faP 3 t1).bind fun t9 =>
  (ldS h1 t9).bind fun t10 =>
  (faP 4 t1).bind fun t11 =>
  (ldS h1 t11).bind fun t12 =>
  (bldS [(0, 1), (1, 1), (2, 1), (3, 1), (4, 1)] [(AV.int .i64 0), (AV.int .i64 0), (AV.int .i64 0), (AV.int .i64 0), (AV.int .i64 0)] [(0, t4), (1, t6), (2, t8), (3, t10), (4, t12)]).bind fun t13 =>
  cl (stP 5 h1 t2 t13) fun u h2 =>
  (ldA 5 h2 t2).bind fun t =>
  some (t, h2)
def T24 : Tab := (12, p1 k_ref17_Instr) :: T23
/- 11: gantline/gantlineref17.Func -/
def k_ref17_Func_b0 (t1 : AV) (t3 : AV) (q4 : AV) (h12 : Heap) : OutV :=
  (faP 5 t1).bind fun t23 =>
  (ldS h12 t23).bind fun t24 =>
  (lnL t24).bind fun t25 =>
  (binP .lss q4 t25).bind fun t26 =>
  condE t26 (
  (faP 5 t3).bind fun t29 =>
  clC (rdC (fun g => ldS g t29) (hpN h12 1) 0 1 []) fun t30 cs_13 =>
  (faP 5 t1).bind fun t31 =>
  (ldS (hpN h12 1) t31).bind fun t32 =>
  (iaS 5 t32 q4).bind fun t34 =>
  (ldA 5 (hpN h12 1) t34).bind fun t35 =>
  cl (k_ref17_Instr t35 (hpN h12 1)) fun t36 h14 =>
  cl (mkAt Heap.put (bsP 5 [(AV.int .i64 0), (AV.int .i64 0), (AV.int .i64 0), (AV.int .i64 0), (AV.int .i64 0)] 1 [(0, t36)]) (h12.next + 0) h14) fun t37 h15 =>
  cl (appendA h15 5 40 t30 t37) fun t38 h16 =>
  (faP 5 t3).bind fun t39 =>
  cl (stP 1 h16 t39 t38) fun u_17 h18 =>
  chk [(hpN h12 1), h14, h16, h18] cs_13 (
  (binP .add q4 (AV.int .i64 1)).bind fun t28 =>
  some (.normal, [t28], h18))) (
  some ((.exit 0), [q4], h12))
def k_ref17_Func_L0 (t1 : AV) (t3 : AV) (q4 : AV) (h12 : Heap) : OutV := loopN (fun us g => k_ref17_Func_b0 t1 t3 (us.getD 0 .bot) g) [q4] h12
def k_ref17_Func (x0 : AV) (h : Heap) : Option (AV × Heap) :=
  mk Heap.new (bxP x0) h fun t1 h0 =>
  mk Heap.new (some (Blk.cells true [(AV.int .i64 0), (AV.int .i64 0), (AV.int .i64 0), (AV.int .i64 0), (AV.sl none 0 (.ex 0)), (AV.sl none 0 (.ex 0)), (AV.sl none 0 (.ex 0))], fun i => AV.ptr (some (i, 0)))) h0 fun t2 h1 =>
  (faP 0 t1).bind fun t5 =>
  clC (rdC (fun g => ldS g t5) (hpN h1 3) 0 2 []) fun t6 cs =>
  (faP 1 t1).bind fun t7 =>
  clC (rdC (fun g => ldS g t7) (hpN h1 3) 0 2 cs) fun t8 cs_2 =>
  (faP 2 t1).bind fun t9 =>
  clC (rdC (fun g => ldS g t9) (hpN h1 3) 0 2 cs_2) fun t10 cs_3 =>
  (faP 3 t1).bind fun t11 =>
  clC (rdC (fun g => ldS g t11) (hpN h1 3) 0 2 cs_3) fun t12 cs_4 =>
  (faP 4 t1).bind fun t14 =>
  (ldS (hpN h1 3) t14).bind fun t15 =>
  cl (mkAt Heap.put (bsP 1 [(AV.bool false)] 0 []) (h1.next + 0) (hpN h1 3)) fun t13 h5 =>
  cl (appendA h5 1 1 t13 t15) fun t16 h6 =>
  (faP 6 t1).bind fun t18 =>
  clC (rdC (fun g => ldS g t18) h6 0 1 cs_4) fun t19 cs_7 =>
  cl (mkAt Heap.put (bsP 1 [(AV.int .u64 0)] 0 []) (h1.next + 1) h6) fun t17 h8 =>
  cl (appendA h8 1 8 t17 t19) fun t20 h9 =>
  (bldS [(0, 1), (1, 1), (2, 1), (3, 1), (4, 1), (5, 1), (6, 1)] [(AV.int .i64 0), (AV.int .i64 0), (AV.int .i64 0), (AV.int .i64 0), (AV.sl none 0 (.ex 0)), (AV.sl none 0 (.ex 0)), (AV.sl none 0 (.ex 0))] [(0, t6), (1, t8), (2, t10), (3, t12), (4, t16), (6, t20)]).bind fun t21 =>
  cl (mkAt Heap.put (some (Blk.cells true [(AV.int .i64 0), (AV.int .i64 0), (AV.int .i64 0), (AV.int .i64 0), (AV.sl none 0 (.ex 0)), (AV.sl none 0 (.ex 0)), (AV.sl none 0 (.ex 0))], fun i => AV.ptr (some (i, 0)))) (h1.next + 2) h9) fun t3 h10 =>
  cl (stP 7 h10 t3 t21) fun u h11 =>
  chk [(hpN h1 3), h6, h9, h11] cs_7 (
  lp (k_ref17_Func_L0 t1 t3 (AV.int .i64 0) h11) fun e vs h19 =>
  thenK (if e = .exit 0 then .normal else e) (
  (ldA 7 h19 t3).bind fun t40 =>
  cl (stP 7 h19 t2 t40) fun u_20 h21 =>
  (ldA 7 h21 t2).bind fun t =>
  some (t, h21)) (fun e_22 => endE e_22 ((ldA 7 h19 t2).bind fun t_23 =>
  some (t_23, h19))))
def T25 : Tab := (11, p1 k_ref17_Func) :: T24
/- 10: gantline/gantlineref17.Module -/
def k_ref17_Module_b0 (t1 : AV) (t3 : AV) (q4 : AV) (h9 : Heap) : OutV :=
  (faP 0 t1).bind fun t20 =>
  (ldS h9 t20).bind fun t21 =>
  (lnL t21).bind fun t22 =>
  (binP .lss q4 t22).bind fun t23 =>
  condE t23 (
  (faP 0 t3).bind fun t26 =>
  (ldS (hpN h9 1) t26).bind fun t27 =>
  (faP 0 t1).bind fun t28 =>
  (ldS (hpN h9 1) t28).bind fun t29 =>
  (iaS 3 t29 q4).bind fun t31 =>
  (faP 0 t31).bind fun t32 =>
  (ldS (hpN h9 1) t32).bind fun t33 =>
  (faP 0 t1).bind fun t34 =>
  (ldS (hpN h9 1) t34).bind fun t35 =>
  (iaS 3 t35 q4).bind fun t37 =>
  (faP 1 t37).bind fun t38 =>
  (ldS (hpN h9 1) t38).bind fun t39 =>
  (faP 0 t1).bind fun t40 =>
  (ldS (hpN h9 1) t40).bind fun t41 =>
  (iaS 3 t41 q4).bind fun t43 =>
  (faP 2 t43).bind fun t44 =>
  (ldS (hpN h9 1) t44).bind fun t45 =>
  (bldS [(0, 1), (1, 1), (2, 1)] [(AV.int .i64 0), (AV.int .i64 0), (AV.int .u64 0)] [(0, t33), (1, t39), (2, t45)]).bind fun t46 =>
  cl (mkAt Heap.put (bsP 3 [(AV.int .i64 0), (AV.int .i64 0), (AV.int .u64 0)] 1 [(0, t46)]) (h9.next + 0) (hpN h9 1)) fun t47 h10 =>
  cl (appendA h10 3 24 t27 t47) fun t48 h11 =>
  (faP 0 t3).bind fun t49 =>
  cl (stP 1 h11 t49 t48) fun u_12 h13 =>
  chk [(hpN h9 1), h11, h13] [] (
  (binP .add q4 (AV.int .i64 1)).bind fun t25 =>
  some (.normal, [t25], h13))) (
  some ((.exit 0), [q4], h9))
def k_ref17_Module_L0 (t1 : AV) (t3 : AV) (q4 : AV) (h9 : Heap) : OutV := loopN (fun us g => k_ref17_Module_b0 t1 t3 (us.getD 0 .bot) g) [q4] h9
def k_ref17_Module_b1 (t1 : AV) (t3 : AV) (q5 : AV) (h15 : Heap) : OutV :=
  (faP 3 t1).bind fun t51 =>
  (ldS h15 t51).bind fun t52 =>
  (lnL t52).bind fun t53 =>
  (binP .lss q5 t53).bind fun t54 =>
  condE t54 (
  (faP 3 t1).bind fun t57 =>
  (ldS h15 t57).bind fun t58 =>
  (iaS 4 t58 q5).bind fun t60 =>
  (ldA 4 h15 t60).bind fun t61 =>
  mk Heap.new (some (Blk.cells true [(AV.int .i64 0), (AV.int .i64 0), (AV.int .i64 0), (AV.int .i64 0)], fun i => AV.ptr (some (i, 0)))) h15 fun t6 h16 =>
  cl (stP 4 h16 t6 t61) fun u_17 h18 =>
  (faP 3 t3).bind fun t62 =>
  (ldS h18 t62).bind fun t63 =>
  (faP 0 t6).bind fun t64 =>
  (ldS h18 t64).bind fun t65 =>
  (faP 1 t6).bind fun t66 =>
  (ldS h18 t66).bind fun t67 =>
  (faP 2 t6).bind fun t68 =>
  (ldS h18 t68).bind fun t69 =>
  (faP 3 t6).bind fun t70 =>
  (ldS h18 t70).bind fun t71 =>
  (bldS [(0, 1), (1, 1), (2, 1), (3, 1)] [(AV.int .i64 0), (AV.int .i64 0), (AV.int .i64 0), (AV.int .i64 0)] [(0, t65), (1, t67), (2, t69), (3, t71)]).bind fun t72 =>
  mk Heap.new (bsP 4 [(AV.int .i64 0), (AV.int .i64 0), (AV.int .i64 0), (AV.int .i64 0)] 1 [(0, t72)]) h18 fun t73 h19 =>
  cl (appendA h19 4 32 t63 t73) fun t74 h20 =>
  (faP 3 t3).bind fun t75 =>
  cl (stP 1 h20 t75 t74) fun u_21 h22 =>
  (binP .add q5 (AV.int .i64 1)).bind fun t56 =>
  some (.normal, [t56], h22)) (
  some ((.exit 2), [q5], h15))
def k_ref17_Module_L1 (t1 : AV) (t3 : AV) (q5 : AV) (h15 : Heap) : OutV := loopN (fun us g => k_ref17_Module_b1 t1 t3 (us.getD 0 .bot) g) [q5] h15
def k_ref17_Module_b2 (t1 : AV) (t3 : AV) (q7 : AV) (h26 : Heap) : OutV :=
  (faP 4 t1).bind fun t77 =>
  (ldS h26 t77).bind fun t78 =>
  (lnL t78).bind fun t79 =>
  (binP .lss q7 t79).bind fun t80 =>
  condE t80 (
  (faP 4 t3).bind fun t83 =>
  clC (rdC (fun g => ldS g t83) (hpN h26 1) 0 1 []) fun t84 cs_27 =>
  (faP 4 t1).bind fun t85 =>
  (ldS (hpN h26 1) t85).bind fun t86 =>
  (iaS 7 t86 q7).bind fun t88 =>
  (ldA 7 (hpN h26 1) t88).bind fun t89 =>
  cl (k_ref17_Func t89 (hpN h26 1)) fun t90 h28 =>
  cl (mkAt Heap.put (bsP 7 [(AV.int .i64 0), (AV.int .i64 0), (AV.int .i64 0), (AV.int .i64 0), (AV.sl none 0 (.ex 0)), (AV.sl none 0 (.ex 0)), (AV.sl none 0 (.ex 0))] 1 [(0, t90)]) (h26.next + 0) h28) fun t91 h29 =>
  cl (appendA h29 7 104 t84 t91) fun t92 h30 =>
  (faP 4 t3).bind fun t93 =>
  cl (stP 1 h30 t93 t92) fun u_31 h32 =>
  chk [(hpN h26 1), h28, h30, h32] cs_27 (
  (binP .add q7 (AV.int .i64 1)).bind fun t82 =>
  some (.normal, [t82], h32))) (
  some ((.exit 4), [q7], h26))
def k_ref17_Module_L2 (t1 : AV) (t3 : AV) (q7 : AV) (h26 : Heap) : OutV := loopN (fun us g => k_ref17_Module_b2 t1 t3 (us.getD 0 .bot) g) [q7] h26
def k_ref17_Module (x0 : AV) (h : Heap) : Option (AV × Heap) :=
  mk Heap.new (bxP x0) h fun t1 h0 =>
  mk Heap.new (some (Blk.cells true [(AV.sl none 0 (.ex 0)), (AV.sl none 0 (.ex 0)), (AV.sl none 0 (.ex 0)), (AV.sl none 0 (.ex 0)), (AV.sl none 0 (.ex 0)), (AV.int .i64 0)], fun i => AV.ptr (some (i, 0)))) h0 fun t2 h1 =>
  (faP 1 t1).bind fun t9 =>
  (ldS (hpN h1 3) t9).bind fun t10 =>
  cl (mkAt Heap.put (bsP 1 [(AV.bool false)] 0 []) (h1.next + 0) (hpN h1 3)) fun t8 h2 =>
  cl (appendA h2 1 1 t8 t10) fun t11 h3 =>
  (faP 2 t1).bind fun t13 =>
  clC (rdC (fun g => ldS g t13) h3 0 1 []) fun t14 cs =>
  cl (mkAt Heap.put (bsP 1 [(AV.int .i64 0)] 0 []) (h1.next + 1) h3) fun t12 h4 =>
  cl (appendA h4 1 8 t12 t14) fun t15 h5 =>
  (faP 5 t1).bind fun t16 =>
  clC (rdC (fun g => ldS g t16) h5 0 2 cs) fun t17 cs_6 =>
  (bldS [(0, 1), (1, 1), (2, 1), (3, 1), (4, 1), (5, 1)] [(AV.sl none 0 (.ex 0)), (AV.sl none 0 (.ex 0)), (AV.sl none 0 (.ex 0)), (AV.sl none 0 (.ex 0)), (AV.sl none 0 (.ex 0)), (AV.int .i64 0)] [(1, t11), (2, t15), (5, t17)]).bind fun t18 =>
  cl (mkAt Heap.put (some (Blk.cells true [(AV.sl none 0 (.ex 0)), (AV.sl none 0 (.ex 0)), (AV.sl none 0 (.ex 0)), (AV.sl none 0 (.ex 0)), (AV.sl none 0 (.ex 0)), (AV.int .i64 0)], fun i => AV.ptr (some (i, 0)))) (h1.next + 2) h5) fun t3 h7 =>
  cl (stP 6 h7 t3 t18) fun u h8 =>
  chk [(hpN h1 3), h3, h5, h8] cs_6 (
  lp (k_ref17_Module_L0 t1 t3 (AV.int .i64 0) h8) fun e vs h14 =>
  thenK (if e = .exit 0 then .normal else e) (
  lp (k_ref17_Module_L1 t1 t3 (AV.int .i64 0) h14) fun e_23 vs_24 h25 =>
  thenK (if e_23 = .exit 2 then .normal else e_23) (
  lp (k_ref17_Module_L2 t1 t3 (AV.int .i64 0) h25) fun e_33 vs_34 h35 =>
  thenK (if e_33 = .exit 4 then .normal else e_33) (
  (ldA 6 h35 t3).bind fun t94 =>
  cl (stP 6 h35 t2 t94) fun u_36 h37 =>
  (ldA 6 h37 t2).bind fun t =>
  some (t, h37)) (fun e_38 => endE e_38 ((ldA 6 h35 t2).bind fun t_39 =>
  some (t_39, h35)))) (fun e_40 => endE e_40 ((ldA 6 h25 t2).bind fun t_41 =>
  some (t_41, h25)))) (fun e_42 => endE e_42 ((ldA 6 h14 t2).bind fun t_43 =>
  some (t_43, h14))))
def T26 : Tab := (10, p1 k_ref17_Module) :: T25
/- 36: gantline/gantlineref9.fn -/
def k_ref9_fn (x0 : AV) (x1 : AV) (h : Heap) : Option (AV × Heap) :=
  mk Heap.new (bxP x0) h fun t2 h0 =>
  mk Heap.new (some (Blk.cells true [(AV.int .i64 0), (AV.int .i64 0), (AV.int .i64 0), (AV.int .i64 0), (AV.sl none 0 (.ex 0)), (AV.sl none 0 (.ex 0)), (AV.sl none 0 (.ex 0))], fun i => AV.ptr (some (i, 0)))) h0 fun t4 h1 =>
  (binP .lss x1 (AV.int .i64 0)).bind fun t6 =>
  gQ (gdW t6 false) h1 (some (x1, h1)) fun t8 h2 =>
  gQ (gdW t6 false) h2 ((faP 4 t2).bind fun t9 =>
  some (t9, h2)) fun t9_3 h4 =>
  gQ (gdW t6 false) h4 ((ldS h4 t9_3).bind fun t10 =>
  some (t10, h4)) fun t10_5 h6 =>
  gQ (gdW t6 false) h6 ((lnL t10_5).bind fun t11 =>
  some (t11, h6)) fun t11_7 h8 =>
  gQ (gdW t6 false) h8 ((binP .geq t8 t11_7).bind fun t12 =>
  some (t12, h8)) fun t12_9 h10 =>
  (pickP t6 (AV.bool true) t12_9).bind fun t13 =>
  condE t13 (
  (bldS [(0, 1), (1, 1), (2, 1), (3, 1), (4, 1), (5, 1), (6, 1)] [(AV.int .i64 0), (AV.int .i64 0), (AV.int .i64 0), (AV.int .i64 0), (AV.sl none 0 (.ex 0)), (AV.sl none 0 (.ex 0)), (AV.sl none 0 (.ex 0))] []).bind fun t14 =>
  cl (stP 7 h10 t4 t14) fun u h11 =>
  (ldA 7 h11 t4).bind fun t =>
  some (t, h11)) (
  (faP 4 t2).bind fun t15 =>
  (ldS h10 t15).bind fun t16 =>
  (iaS 7 t16 x1).bind fun t18 =>
  (ldA 7 h10 t18).bind fun t19 =>
  cl (stP 7 h10 t4 t19) fun u_12 h13 =>
  (ldA 7 h13 t4).bind fun t_14 =>
  some (t_14, h13))
def T27 : Tab := (36, p2 k_ref9_fn) :: T26
/- 35: gantline/gantlineref9.run -/
def k_ref9_run_b0 (x0 : AV) (x1 : AV) (q5 : AV) (q6 : AV) (h0 : Heap) : OutV :=
  (binP .lss q6 x1).bind fun t9 =>
  gQ (gdW t9 true) h0 (some (x1, h0)) fun t11 h1 =>
  gQ (gdW t9 true) h1 ((binP .leq t11 (AV.int .i64 64)).bind fun t12 =>
  some (t12, h1)) fun t12_2 h3 =>
  (pickP t9 t12_2 (AV.bool false)).bind fun t13 =>
  condE t13 (
  (binP .add x0 q6).bind fun t19 =>
  mk Heap.new (bsP 1 [(AV.int .i64 0)] 1 [(0, t19)]) h3 fun t20 h4 =>
  cl (appendA h4 1 8 q5 t20) fun t21 h5 =>
  (binP .add q6 (AV.int .i64 1)).bind fun t15 =>
  some (.normal, [t21, t15], h5)) (
  some ((.exit 0), [q5, q6], h3))
def k_ref9_run_L0 (x0 : AV) (x1 : AV) (q5 : AV) (q6 : AV) (h0 : Heap) : OutV := loopN (fun us g => k_ref9_run_b0 x0 x1 (us.getD 0 .bot) (us.getD 1 .bot) g) [q5, q6] h0
def k_ref9_run (x0 : AV) (x1 : AV) (h : Heap) : Option (AV × Heap) :=
  lp (k_ref9_run_L0 x0 x1 (AV.sl none 0 (.ex 0)) (AV.int .i64 0) h) fun e vs h6 =>
  thenK (if e = .exit 0 then .normal else e) (
  some ((vs.getD 0 .bot), h6)) (fun e_7 => endE e_7 (some ((AV.sl none 0 (.ex 0)), h6)))
def T28 : Tab := (35, p2 k_ref9_run) :: T27
/- 37: gantline/gantlineref9.cases -/
def k_ref9_cases (x0 : AV) (x1 : AV) (h : Heap) : Option (AV × Heap) :=
  mk Heap.new (bxP x0) h fun t2 h0 =>
  mk Heap.new (bxP x1) h0 fun t3 h1 =>
  (faP 2 t3).bind fun t6 =>
  (ldS h1 t6).bind fun t7 =>
  (binP .lss t7 (AV.int .i64 0)).bind fun t8 =>
  gQ (gdW t8 false) h1 ((faP 2 t3).bind fun t10 =>
  some (t10, h1)) fun t10_2 h3 =>
  gQ (gdW t8 false) h3 ((ldS h3 t10_2).bind fun t11 =>
  some (t11, h3)) fun t11_4 h5 =>
  gQ (gdW t8 false) h5 ((faP 3 t2).bind fun t12 =>
  some (t12, h5)) fun t12_6 h7 =>
  gQ (gdW t8 false) h7 ((ldS h7 t12_6).bind fun t13 =>
  some (t13, h7)) fun t13_8 h9 =>
  gQ (gdW t8 false) h9 ((lnL t13_8).bind fun t14 =>
  some (t14, h9)) fun t14_10 h11 =>
  gQ (gdW t8 false) h11 ((binP .gtr t11_4 t14_10).bind fun t15 =>
  some (t15, h11)) fun t15_12 h13 =>
  (pickP t8 (AV.bool true) t15_12).bind fun t16 =>
  gQ (gdW t16 false) h13 ((faP 1 t3).bind fun t18 =>
  some (t18, h13)) fun t18_14 h15 =>
  gQ (gdW t16 false) h15 ((ldS h15 t18_14).bind fun t19 =>
  some (t19, h15)) fun t19_16 h17 =>
  gQ (gdW t16 false) h17 ((binP .lss t19_16 (AV.int .i64 0)).bind fun t20 =>
  some (t20, h17)) fun t20_18 h19 =>
  (pickP t16 (AV.bool true) t20_18).bind fun t21 =>
  gQ (gdW t21 false) h19 ((faP 1 t3).bind fun t23 =>
  some (t23, h19)) fun t23_20 h21 =>
  gQ (gdW t21 false) h21 ((ldS h21 t23_20).bind fun t24 =>
  some (t24, h21)) fun t24_22 h23 =>
  gQ (gdW t21 false) h23 ((faP 3 t2).bind fun t25 =>
  some (t25, h23)) fun t25_24 h25 =>
  gQ (gdW t21 false) h25 ((ldS h25 t25_24).bind fun t26 =>
  some (t26, h25)) fun t26_26 h27 =>
  gQ (gdW t21 false) h27 ((lnL t26_26).bind fun t27 =>
  some (t27, h27)) fun t27_28 h29 =>
  gQ (gdW t21 false) h29 ((faP 2 t3).bind fun t28 =>
  some (t28, h29)) fun t28_30 h31 =>
  gQ (gdW t21 false) h31 ((ldS h31 t28_30).bind fun t29 =>
  some (t29, h31)) fun t29_32 h33 =>
  gQ (gdW t21 false) h33 ((binP .sub t27_28 t29_32).bind fun t30 =>
  some (t30, h33)) fun t30_34 h35 =>
  gQ (gdW t21 false) h35 ((binP .gtr t24_22 t30_34).bind fun t31 =>
  some (t31, h35)) fun t31_36 h37 =>
  (pickP t21 (AV.bool true) t31_36).bind fun t32 =>
  condE t32 (
  some (AV.tup [(AV.sl none 0 (.ex 0)), (AV.bool false)], h37)) (
  (faP 3 t2).bind fun t33 =>
  (ldS h37 t33).bind fun t34 =>
  (faP 1 t3).bind fun t35 =>
  (ldS h37 t35).bind fun t36 =>
  (faP 1 t3).bind fun t37 =>
  (ldS h37 t37).bind fun t38 =>
  (faP 2 t3).bind fun t39 =>
  (ldS h37 t39).bind fun t40 =>
  (binP .add t38 t40).bind fun t41 =>
  (slcP 4 t34 (some t36) (some t41) none).bind fun t42 =>
  some (AV.tup [t42, (AV.bool true)], h37))
def T29 : Tab := (37, p2 k_ref9_cases) :: T28
/- 15: gantline/gantlineref9.Reads -/
def k_ref9_Reads_j0 (q9 : AV) (q6_82 : AV) (h83 : Heap) : OutV :=
  (binP .add q9 (AV.int .i64 1)).bind fun t194_84 =>
  some (.normal, [q6_82, t194_84], h83)
def k_ref9_Reads_j1 (t187 : AV) (q9 : AV) (q6_72 : AV) (h73 : Heap) : OutV :=
  (iaS 4 t187 q9).bind fun t211 =>
  (faP 0 t211).bind fun t212 =>
  (ldS h73 t212).bind fun t213 =>
  (eqP (some (.int .i64)) none false .eql t213 (AV.int .i64 1)).bind fun t214 =>
  condE t214 (
  (iaS 4 t187 q9).bind fun t218 =>
  (faP 2 t218).bind fun t219 =>
  (ldS h73 t219).bind fun t220 =>
  mk Heap.new (bsP 1 [(AV.int .i64 0)] 1 [(0, t220)]) h73 fun t221 h85 =>
  cl (appendA h85 1 8 q6_72 t221) fun t222 h86 =>
  k_ref9_Reads_j0 q9 t222 h86) (
  k_ref9_Reads_j0 q9 q6_72 h73)
def k_ref9_Reads_b0 (t187 : AV) (q6 : AV) (q9 : AV) (h61 : Heap) : OutV :=
  (lnL t187).bind fun t191 =>
  (binP .lss q9 t191).bind fun t192 =>
  condE t192 (
  (iaS 4 t187 q9).bind fun t197 =>
  (faP 0 t197).bind fun t198 =>
  (ldS h61 t198).bind fun t199 =>
  (eqP (some (.int .i64)) none false .neq t199 (AV.int .i64 2)).bind fun t200 =>
  condE t200 (
  (iaS 4 t187 q9).bind fun t204 =>
  (faP 1 t204).bind fun t205 =>
  (ldS h61 t205).bind fun t206 =>
  mk Heap.new (bsP 1 [(AV.int .i64 0)] 1 [(0, t206)]) h61 fun t207 h87 =>
  cl (appendA h87 1 8 q6 t207) fun t208 h88 =>
  k_ref9_Reads_j1 t187 q9 t208 h88) (
  k_ref9_Reads_j1 t187 q9 q6 h61)) (
  some ((.exit 1), [q6, q9], h61))
def k_ref9_Reads_L0 (t187 : AV) (q6 : AV) (q9 : AV) (h61 : Heap) : OutV := loopN (fun us g => k_ref9_Reads_b0 t187 (us.getD 0 .bot) (us.getD 1 .bot) g) [q6, q9] h61
def k_ref9_Reads (x0 : AV) (x1 : AV) (h : Heap) : Option (AV × Heap) :=
  mk Heap.new (bxP x0) h fun t2 h0 =>
  mk Heap.new (bxP x1) h0 fun t3 h1 =>
  (faP 0 t3).bind fun t10 =>
  (ldS h1 t10).bind fun t11 =>
  (eqP (some (.int .i64)) none false .eql t11 (AV.int .i64 1)).bind fun t14 =>
  gQ (gdW t14 false) h1 (some (t11, h1)) fun t16 h2 =>
  gQ (gdW t14 false) h2 ((eqP (some (.int .i64)) none false .eql t16 (AV.int .i64 17)).bind fun t17 =>
  some (t17, h2)) fun t17_3 h4 =>
  (pickP t14 (AV.bool true) t17_3).bind fun t18 =>
  gQ (gdW t18 false) h4 (some (t11, h4)) fun t20 h5 =>
  gQ (gdW t18 false) h5 ((eqP (some (.int .i64)) none false .eql t20 (AV.int .i64 27)).bind fun t21 =>
  some (t21, h5)) fun t21_6 h7 =>
  (pickP t18 (AV.bool true) t21_6).bind fun t22 =>
  gQ (gdW t22 false) h7 (some (t11, h7)) fun t24 h8 =>
  gQ (gdW t22 false) h8 ((eqP (some (.int .i64)) none false .eql t24 (AV.int .i64 33)).bind fun t25 =>
  some (t25, h8)) fun t25_9 h10 =>
  (pickP t22 (AV.bool true) t25_9).bind fun t26 =>
  condE t26 (
  (faP 2 t3).bind fun t27 =>
  (ldS h10 t27).bind fun t28 =>
  mk Heap.new (bsP 1 [(AV.int .i64 0)] 1 [(0, t28)]) h10 fun t29 h11 =>
  some (t29, h11)) (
  (binP .geq t11 (AV.int .i64 3)).bind fun t32 =>
  gQ (gdW t32 true) h10 (some (t11, h10)) fun t34 h12 =>
  gQ (gdW t32 true) h12 ((binP .leq t34 (AV.int .i64 16)).bind fun t35 =>
  some (t35, h12)) fun t35_13 h14 =>
  (pickP t32 t35_13 (AV.bool false)).bind fun t36 =>
  gQ (gdW t36 false) h14 (some (t11, h14)) fun t38 h15 =>
  gQ (gdW t36 false) h15 ((eqP (some (.int .i64)) none false .eql t38 (AV.int .i64 30)).bind fun t39 =>
  some (t39, h15)) fun t39_16 h17 =>
  (pickP t36 (AV.bool true) t39_16).bind fun t40 =>
  condE t40 (
  (faP 2 t3).bind fun t41 =>
  (ldS h17 t41).bind fun t42 =>
  (faP 3 t3).bind fun t43 =>
  (ldS h17 t43).bind fun t44 =>
  mk Heap.new (bsP 1 [(AV.int .i64 0)] 2 [(0, t42), (1, t44)]) h17 fun t45 h18 =>
  some (t45, h18)) (
  (eqP (some (.int .i64)) none false .eql t11 (AV.int .i64 19)).bind fun t48 =>
  gQ (gdW t48 false) h17 (some (t11, h17)) fun t50 h19 =>
  gQ (gdW t48 false) h19 ((eqP (some (.int .i64)) none false .eql t50 (AV.int .i64 40)).bind fun t51 =>
  some (t51, h19)) fun t51_20 h21 =>
  (pickP t48 (AV.bool true) t51_20).bind fun t52 =>
  gQ (gdW t52 false) h21 (some (t11, h21)) fun t54 h22 =>
  gQ (gdW t52 false) h22 ((eqP (some (.int .i64)) none false .eql t54 (AV.int .i64 42)).bind fun t55 =>
  some (t55, h22)) fun t55_23 h24 =>
  (pickP t52 (AV.bool true) t55_23).bind fun t56 =>
  condE t56 (
  (faP 1 t3).bind fun t57 =>
  (ldS h24 t57).bind fun t58 =>
  mk Heap.new (bsP 1 [(AV.int .i64 0)] 1 [(0, t58)]) h24 fun t59 h25 =>
  some (t59, h25)) (
  (eqP (some (.int .i64)) none false .eql t11 (AV.int .i64 20)).bind fun t62 =>
  condE t62 (
  (faP 3 t3).bind fun t63 =>
  clC (rdC (fun g => ldS g t63) h24 0 1 []) fun t64 cs =>
  (ldA 6 h24 t2).bind fun t65 =>
  (faP 2 t3).bind fun t66 =>
  (ldS h24 t66).bind fun t67 =>
  cl (k_ref9_fn t65 t67 h24) fun t68 h26 =>
  (fvS 0 t68).bind fun t69 =>
  cl (k_ref9_run t64 t69 h26) fun t70 h27 =>
  chk [h24, h26, h27] cs (
  some (t70, h27))) (
  (eqP (some (.int .i64)) none false .eql t11 (AV.int .i64 21)).bind fun t73 =>
  condE t73 (
  (faP 2 t3).bind fun t74 =>
  clC (rdC (fun g => ldS g t74) (hpN h24 1) 0 1 []) fun t75 cs_28 =>
  (faP 3 t3).bind fun t77 =>
  (ldS (hpN h24 1) t77).bind fun t78 =>
  (faP 4 t3).bind fun t79 =>
  (ldS (hpN h24 1) t79).bind fun t80 =>
  cl (k_ref9_run t78 t80 (hpN h24 1)) fun t81 h29 =>
  cl (mkAt Heap.put (bsP 1 [(AV.int .i64 0)] 1 [(0, t75)]) (h24.next + 0) h29) fun t76 h30 =>
  cl (appendA h30 1 8 t76 t81) fun t82 h31 =>
  chk [(hpN h24 1), h29, h31] cs_28 (
  some (t82, h31))) (
  (eqP (some (.int .i64)) none false .eql t11 (AV.int .i64 22)).bind fun t85 =>
  condE t85 (
  (faP 1 t3).bind fun t86 =>
  (ldS h24 t86).bind fun t87 =>
  (eqP (some (.int .i64)) none false .eql t87 (AV.int .i64 (-1))).bind fun t88 =>
  condE t88 (
  some ((AV.sl none 0 (.ex 0)), h24)) (
  (faP 1 t3).bind fun t89 =>
  (ldS h24 t89).bind fun t90 =>
  mk Heap.new (bsP 1 [(AV.int .i64 0)] 1 [(0, t90)]) h24 fun t91 h32 =>
  some (t91, h32))) (
  (eqP (some (.int .i64)) none false .eql t11 (AV.int .i64 23)).bind fun t94 =>
  condE t94 (
  (faP 2 t3).bind fun t95 =>
  clC (rdC (fun g => ldS g t95) h24 0 1 []) fun t96 cs_33 =>
  (ldA 6 h24 t2).bind fun t97 =>
  (faP 1 t3).bind fun t98 =>
  (ldS h24 t98).bind fun t99 =>
  cl (k_ref9_fn t97 t99 h24) fun t100 h34 =>
  (fvS 0 t100).bind fun t101 =>
  cl (k_ref9_run t96 t101 h34) fun t102 h35 =>
  chk [h24, h34, h35] cs_33 (
  some (t102, h35))) (
  (eqP (some (.int .i64)) none false .eql t11 (AV.int .i64 24)).bind fun t105 =>
  condE t105 (
  (faP 1 t3).bind fun t106 =>
  clC (rdC (fun g => ldS g t106) (hpN h24 1) 0 1 []) fun t107 cs_36 =>
  (faP 2 t3).bind fun t109 =>
  (ldS (hpN h24 1) t109).bind fun t110 =>
  (faP 3 t3).bind fun t111 =>
  (ldS (hpN h24 1) t111).bind fun t112 =>
  cl (k_ref9_run t110 t112 (hpN h24 1)) fun t113 h37 =>
  cl (mkAt Heap.put (bsP 1 [(AV.int .i64 0)] 1 [(0, t107)]) (h24.next + 0) h37) fun t108 h38 =>
  cl (appendA h38 1 8 t108 t113) fun t114 h39 =>
  chk [(hpN h24 1), h37, h39] cs_36 (
  some (t114, h39))) (
  (eqP (some (.int .i64)) none false .eql t11 (AV.int .i64 26)).bind fun t117 =>
  gQ (gdW t117 false) h24 (some (t11, h24)) fun t119 h40 =>
  gQ (gdW t117 false) h40 ((eqP (some (.int .i64)) none false .eql t119 (AV.int .i64 37)).bind fun t120 =>
  some (t120, h40)) fun t120_41 h42 =>
  (pickP t117 (AV.bool true) t120_41).bind fun t121 =>
  condE t121 (
  (faP 3 t3).bind fun t122 =>
  (ldS h42 t122).bind fun t123 =>
  mk Heap.new (bsP 1 [(AV.int .i64 0)] 1 [(0, t123)]) h42 fun t124 h43 =>
  some (t124, h43)) (
  (eqP (some (.int .i64)) none false .eql t11 (AV.int .i64 28)).bind fun t127 =>
  gQ (gdW t127 false) h42 (some (t11, h42)) fun t129 h44 =>
  gQ (gdW t127 false) h44 ((eqP (some (.int .i64)) none false .eql t129 (AV.int .i64 29)).bind fun t130 =>
  some (t130, h44)) fun t130_45 h46 =>
  (pickP t127 (AV.bool true) t130_45).bind fun t131 =>
  condE t131 (
  (faP 1 t3).bind fun t132 =>
  (ldS h46 t132).bind fun t133 =>
  (faP 3 t3).bind fun t134 =>
  (ldS h46 t134).bind fun t135 =>
  mk Heap.new (bsP 1 [(AV.int .i64 0)] 2 [(0, t133), (1, t135)]) h46 fun t136 h47 =>
  some (t136, h47)) (
  (eqP (some (.int .i64)) none false .eql t11 (AV.int .i64 31)).bind fun t139 =>
  gQ (gdW t139 false) h46 (some (t11, h46)) fun t141 h48 =>
  gQ (gdW t139 false) h48 ((eqP (some (.int .i64)) none false .eql t141 (AV.int .i64 32)).bind fun t142 =>
  some (t142, h48)) fun t142_49 h50 =>
  (pickP t139 (AV.bool true) t142_49).bind fun t143 =>
  condE t143 (
  (faP 1 t3).bind fun t144 =>
  (ldS h50 t144).bind fun t145 =>
  (faP 2 t3).bind fun t146 =>
  (ldS h50 t146).bind fun t147 =>
  (faP 3 t3).bind fun t148 =>
  (ldS h50 t148).bind fun t149 =>
  mk Heap.new (bsP 1 [(AV.int .i64 0)] 3 [(0, t145), (1, t147), (2, t149)]) h50 fun t150 h51 =>
  some (t150, h51)) (
  (eqP (some (.int .i64)) none false .eql t11 (AV.int .i64 35)).bind fun t153 =>
  gQ (gdW t153 false) h50 (some (t11, h50)) fun t155 h52 =>
  gQ (gdW t153 false) h52 ((eqP (some (.int .i64)) none false .eql t155 (AV.int .i64 39)).bind fun t156 =>
  some (t156, h52)) fun t156_53 h54 =>
  (pickP t153 (AV.bool true) t156_53).bind fun t157 =>
  condE t157 (
  (faP 2 t3).bind fun t158 =>
  (ldS h54 t158).bind fun t159 =>
  mk Heap.new (bsP 1 [(AV.int .i64 0)] 1 [(0, t159)]) h54 fun t160 h55 =>
  some (t160, h55)) (
  (eqP (some (.int .i64)) none false .eql t11 (AV.int .i64 36)).bind fun t163 =>
  condE t163 (
  (faP 3 t3).bind fun t164 =>
  clC (rdC (fun g => ldS g t164) h54 0 1 []) fun t165 cs_56 =>
  (ldA 6 h54 t2).bind fun t166 =>
  (faP 2 t3).bind fun t167 =>
  (ldS h54 t167).bind fun t168 =>
  cl (k_ref9_fn t166 t168 h54) fun t169 h57 =>
  (fvS 1 t169).bind fun t170 =>
  cl (k_ref9_run t165 t170 h57) fun t171 h58 =>
  chk [h54, h57, h58] cs_56 (
  some (t171, h58))) (
  (eqP (some (.int .i64)) none false .eql t11 (AV.int .i64 38)).bind fun t174 =>
  condE t174 (
  (faP 1 t3).bind fun t175 =>
  (ldS h54 t175).bind fun t176 =>
  (faP 2 t3).bind fun t177 =>
  (ldS h54 t177).bind fun t178 =>
  mk Heap.new (bsP 1 [(AV.int .i64 0)] 2 [(0, t176), (1, t178)]) h54 fun t179 h59 =>
  some (t179, h59)) (
  (eqP (some (.int .i64)) none false .eql t11 (AV.int .i64 41)).bind fun t182 =>
  condE t182 (
  (ldA 6 h54 t2).bind fun t184 =>
  (ldA 5 h54 t3).bind fun t185 =>
  cl (k_ref9_cases t184 t185 h54) fun t186 h60 =>
  (extractV 0 t186).bind fun t187 =>
  (extractV 1 t186).bind fun t188 =>
  lp (k_ref9_Reads_L0 t187 (AV.sl none 0 (.ex 0)) (AV.int .i64 0) h60) fun e vs h89 =>
  thenK (if e = .exit 1 then .normal else e) (
  some ((vs.getD 0 .bot), h89)) (fun e_90 => thenK (if e_90 = .exit 0 then .normal else e_90) (
  some ((AV.sl none 0 (.ex 0)), h89)) (fun e_91 => endE e_91 (some ((AV.sl none 0 (.ex 0)), h89))))) (
  some ((AV.sl none 0 (.ex 0)), h54))))))))))))))))
def T30 : Tab := (15, p2 k_ref9_Reads) :: T29
/- 17: gantline/gantlineref9.Writes -/
def k_ref9_Writes_j0 (t1 : AV) (q4_101 : AV) (h102 : Heap) : Option (AV × Heap) :=
  (faP 3 t1).bind fun t57 =>
  (ldS h102 t57).bind fun t58 =>
  (eqP (some (.int .i64)) none false .neq t58 (AV.int .i64 (-1))).bind fun t59 =>
  condE t59 (
  (faP 3 t1).bind fun t61 =>
  (ldS h102 t61).bind fun t62 =>
  mk Heap.new (bsP 1 [(AV.int .i64 0)] 1 [(0, t62)]) h102 fun t63 h110 =>
  cl (appendA h110 1 8 q4_101 t63) fun t64 h111 =>
  some (t64, h111)) (
  some (q4_101, h102))
def k_ref9_Writes_j1 (t1 : AV) (t6 : AV) (q7_7 : AV) (h22 : Heap) : Option (AV × Heap) :=
  condE q7_7 (
  (faP 1 t1).bind fun t30 =>
  (ldS h22 t30).bind fun t31 =>
  mk Heap.new (bsP 1 [(AV.int .i64 0)] 1 [(0, t31)]) h22 fun t32 h62 =>
  some (t32, h62)) (
  (eqP (some (.int .i64)) none false .eql t6 (AV.int .i64 20)).bind fun t35 =>
  gQ (gdW t35 false) h22 (some (t6, h22)) fun t37 h63 =>
  gQ (gdW t35 false) h63 ((eqP (some (.int .i64)) none false .eql t37 (AV.int .i64 21)).bind fun t38 =>
  some (t38, h63)) fun t38_64 h65 =>
  (pickP t35 (AV.bool true) t38_64).bind fun t39 =>
  condE t39 (
  (faP 1 t1).bind fun t40 =>
  (ldS h65 t40).bind fun t41 =>
  (eqP (some (.int .i64)) none false .neq t41 (AV.int .i64 (-1))).bind fun t42 =>
  condE t42 (
  (faP 1 t1).bind fun t43 =>
  (ldS h65 t43).bind fun t44 =>
  mk Heap.new (bsP 1 [(AV.int .i64 0)] 1 [(0, t44)]) h65 fun t45 h95 =>
  some (t45, h95)) (
  some ((AV.sl none 0 (.ex 0)), h65))) (
  (eqP (some (.int .i64)) none false .eql t6 (AV.int .i64 39)).bind fun t48 =>
  condE t48 (
  (faP 1 t1).bind fun t49 =>
  (ldS h65 t49).bind fun t50 =>
  (eqP (some (.int .i64)) none false .neq t50 (AV.int .i64 (-1))).bind fun t51 =>
  condE t51 (
  (faP 1 t1).bind fun t53 =>
  (ldS h65 t53).bind fun t54 =>
  mk Heap.new (bsP 1 [(AV.int .i64 0)] 1 [(0, t54)]) h65 fun t55 h112 =>
  cl (appendA h112 1 8 (AV.sl none 0 (.ex 0)) t55) fun t56 h113 =>
  k_ref9_Writes_j0 t1 t56 h113) (
  k_ref9_Writes_j0 t1 (AV.sl none 0 (.ex 0)) h65)) (
  some ((AV.sl none 0 (.ex 0)), h65))))
def k_ref9_Writes (x0 : AV) (h : Heap) : Option (AV × Heap) :=
  mk Heap.new (bxP x0) h fun t1 h0 =>
  (faP 0 t1).bind fun t5 =>
  (ldS h0 t5).bind fun t6 =>
  (binP .leq t6 (AV.int .i64 17)).bind fun t9 =>
  gQ (gdW t9 true) h0 (some (t6, h0)) fun t11 h2 =>
  gQ (gdW t9 true) h2 ((binP .geq t11 (AV.int .i64 0)).bind fun t12 =>
  some (t12, h2)) fun t12_3 h4 =>
  (pickP t9 t12_3 (AV.bool false)).bind fun t13 =>
  condE t13 (
  k_ref9_Writes_j1 t1 t6 t13 h4) (
  (eqP (some (.int .i64)) none false .eql t6 (AV.int .i64 25)).bind fun t15 =>
  condE t15 (
  k_ref9_Writes_j1 t1 t6 t15 h4) (
  (eqP (some (.int .i64)) none false .eql t6 (AV.int .i64 26)).bind fun t17 =>
  condE t17 (
  k_ref9_Writes_j1 t1 t6 t17 h4) (
  (eqP (some (.int .i64)) none false .eql t6 (AV.int .i64 27)).bind fun t19 =>
  condE t19 (
  k_ref9_Writes_j1 t1 t6 t19 h4) (
  (eqP (some (.int .i64)) none false .eql t6 (AV.int .i64 30)).bind fun t21 =>
  condE t21 (
  k_ref9_Writes_j1 t1 t6 t21 h4) (
  (eqP (some (.int .i64)) none false .eql t6 (AV.int .i64 33)).bind fun t23 =>
  condE t23 (
  k_ref9_Writes_j1 t1 t6 t23 h4) (
  (eqP (some (.int .i64)) none false .eql t6 (AV.int .i64 34)).bind fun t25 =>
  condE t25 (
  k_ref9_Writes_j1 t1 t6 t25 h4) (
  (eqP (some (.int .i64)) none false .eql t6 (AV.int .i64 36)).bind fun t27 =>
  condE t27 (
  k_ref9_Writes_j1 t1 t6 t27 h4) (
  (eqP (some (.int .i64)) none false .eql t6 (AV.int .i64 37)).bind fun t29 =>
  k_ref9_Writes_j1 t1 t6 t29 h4))))))))
def T31 : Tab := (17, p1 k_ref9_Writes) :: T30
/- 58: gantline/gantlineref9.ways -/
def k_ref9_ways_j0 (t44 : AV) (q8 : AV) (q11 : AV) (q12 : AV) (h9 : Heap) : OutV :=
  (iaS 4 t44 q11).bind fun t66 =>
  (faP 3 t66).bind fun t67 =>
  (ldS h9 t67).bind fun t68 =>
  (bldS [(0, 1), (1, 1)] [(AV.int .i64 0), (AV.int .i64 0)] [(0, t68), (1, q12)]).bind fun t70 =>
  mk Heap.new (bsP 2 [(AV.int .i64 0), (AV.int .i64 0)] 1 [(0, t70)]) h9 fun t71 h10 =>
  cl (appendA h10 2 16 q8 t71) fun t72 h11 =>
  (binP .add q11 (AV.int .i64 1)).bind fun t51 =>
  some (.normal, [t72, t51], h11)
def k_ref9_ways_b0 (t44 : AV) (q8 : AV) (q11 : AV) (h8 : Heap) : OutV :=
  (lnL t44).bind fun t48 =>
  (binP .lss q11 t48).bind fun t49 =>
  condE t49 (
  (iaS 4 t44 q11).bind fun t54 =>
  (faP 0 t54).bind fun t55 =>
  (ldS h8 t55).bind fun t56 =>
  (eqP (some (.int .i64)) none false .eql t56 (AV.int .i64 0)).bind fun t57 =>
  condE t57 (
  (iaS 4 t44 q11).bind fun t60 =>
  (faP 2 t60).bind fun t61 =>
  (ldS h8 t61).bind fun t62 =>
  k_ref9_ways_j0 t44 q8 q11 t62 h8) (
  k_ref9_ways_j0 t44 q8 q11 (AV.int .i64 (-1)) h8)) (
  some ((.exit 1), [q8, q11], h8))
def k_ref9_ways_L0 (t44 : AV) (q8 : AV) (q11 : AV) (h8 : Heap) : OutV := loopN (fun us g => k_ref9_ways_b0 t44 (us.getD 0 .bot) (us.getD 1 .bot) g) [q8, q11] h8
def k_ref9_ways_j1 (x2 : AV) (t3 : AV) (t7 : AV) (t19 : AV) (q35 : AV) (h6 : Heap) : Option (AV × Heap) :=
  condE q35 (
  some ((AV.sl none 0 (.ex 0)), h6)) (
  (eqP (some (.int .i64)) none false .eql t19 (AV.int .i64 41)).bind fun t39 =>
  condE t39 (
  (ldA 6 h6 t3).bind fun t41 =>
  (ldA 5 h6 t7).bind fun t42 =>
  cl (k_ref9_cases t41 t42 h6) fun t43 h7 =>
  (extractV 0 t43).bind fun t44 =>
  (extractV 1 t43).bind fun t45 =>
  lp (k_ref9_ways_L0 t44 (AV.sl none 0 (.ex 0)) (AV.int .i64 0) h7) fun e vs h12 =>
  thenK (if e = .exit 1 then .normal else e) (
  some ((vs.getD 0 .bot), h12)) (fun e_13 => thenK (if e_13 = .exit 0 then .normal else e_13) (
  (binP .add x2 (AV.int .i64 1)).bind fun t75 =>
  (bldS [(0, 1), (1, 1)] [(AV.int .i64 0), (AV.int .i64 0)] [(0, t75), (1, (AV.int .i64 (-1)))]).bind fun t76 =>
  mk Heap.new (bsP 2 [(AV.int .i64 0), (AV.int .i64 0)] 1 [(0, t76)]) h12 fun t77 h14 =>
  some (t77, h14)) (fun e_15 => endE e_15 (some ((AV.sl none 0 (.ex 0)), h12))))) (
  (binP .add x2 (AV.int .i64 1)).bind fun t75_16 =>
  (bldS [(0, 1), (1, 1)] [(AV.int .i64 0), (AV.int .i64 0)] [(0, t75_16), (1, (AV.int .i64 (-1)))]).bind fun t76_17 =>
  mk Heap.new (bsP 2 [(AV.int .i64 0), (AV.int .i64 0)] 1 [(0, t76_17)]) h6 fun t77_18 h19 =>
  some (t77_18, h19)))
def k_ref9_ways (x0 : AV) (x1 : AV) (x2 : AV) (h : Heap) : Option (AV × Heap) :=
  mk Heap.new (bxP x0) h fun t3 h0 =>
  mk Heap.new (bxP x1) h0 fun t4 h1 =>
  (faP 5 t4).bind fun t13 =>
  (ldS h1 t13).bind fun t14 =>
  (iaS 5 t14 x2).bind fun t16 =>
  (ldA 5 h1 t16).bind fun t17 =>
  mk Heap.new (some (Blk.cells true [(AV.int .i64 0), (AV.int .i64 0), (AV.int .i64 0), (AV.int .i64 0), (AV.int .i64 0)], fun i => AV.ptr (some (i, 0)))) h1 fun t7 h2 =>
  cl (stP 5 h2 t7 t17) fun u h3 =>
  (faP 0 t7).bind fun t18 =>
  (ldS h3 t18).bind fun t19 =>
  (eqP (some (.int .i64)) none false .eql t19 (AV.int .i64 18)).bind fun t21 =>
  condE t21 (
  (faP 1 t7).bind fun t22 =>
  (ldS h3 t22).bind fun t23 =>
  (bldS [(0, 1), (1, 1)] [(AV.int .i64 0), (AV.int .i64 0)] [(0, t23), (1, (AV.int .i64 (-1)))]).bind fun t24 =>
  mk Heap.new (bsP 2 [(AV.int .i64 0), (AV.int .i64 0)] 1 [(0, t24)]) h3 fun t25 h4 =>
  some (t25, h4)) (
  (eqP (some (.int .i64)) none false .eql t19 (AV.int .i64 19)).bind fun t27 =>
  condE t27 (
  (faP 2 t7).bind fun t28 =>
  (ldS h3 t28).bind fun t29 =>
  (bldS [(0, 1), (1, 1)] [(AV.int .i64 0), (AV.int .i64 0)] [(0, t29), (1, (AV.int .i64 (-1)))]).bind fun t30 =>
  (binP .add x2 (AV.int .i64 1)).bind fun t32 =>
  (bldS [(0, 1), (1, 1)] [(AV.int .i64 0), (AV.int .i64 0)] [(0, t32), (1, (AV.int .i64 (-1)))]).bind fun t33 =>
  mk Heap.new (bsP 2 [(AV.int .i64 0), (AV.int .i64 0)] 2 [(0, t30), (1, t33)]) h3 fun t34 h5 =>
  some (t34, h5)) (
  (eqP (some (.int .i64)) none false .eql t19 (AV.int .i64 22)).bind fun t36 =>
  condE t36 (
  k_ref9_ways_j1 x2 t3 t7 t19 t36 h3) (
  (eqP (some (.int .i64)) none false .eql t19 (AV.int .i64 44)).bind fun t37 =>
  k_ref9_ways_j1 x2 t3 t7 t19 t37 h3)))
def T32 : Tab := (58, p3 k_ref9_ways) :: T31
/- 42: gantline/gantlineref9.there -/
def k_ref9_there_b0 (t4 : AV) (t13 : AV) (q7 : AV) (q9 : AV) (h3 : Heap) : OutV :=
  (lnL t13).bind fun t16 =>
  (binP .lss q9 t16).bind fun t17 =>
  condE t17 (
  (iaS 2 t13 q9).bind fun t22 =>
  (faP 0 t22).bind fun t23 =>
  (ldS h3 t23).bind fun t24 =>
  (binP .geq t24 (AV.int .i64 0)).bind fun t25 =>
  (gV (gdW t25 true) (some t13) (.tup [])).bind fun t27 =>
  (gV (gdW t25 true) (some q9) (.tup [])).bind fun t28 =>
  (gV (gdW t25 true) (iaS 2 t27 t28) (.tup [])).bind fun t29 =>
  (gV (gdW t25 true) (faP 0 t29) (.tup [])).bind fun t30 =>
  (gV (gdW t25 true) (ldS h3 t30) (.tup [])).bind fun t31 =>
  (gV (gdW t25 true) (faP 5 t4) (.tup [])).bind fun t32 =>
  (gV (gdW t25 true) (ldS h3 t32) (.tup [])).bind fun t33 =>
  (gV (gdW t25 true) (lnL t33) (.tup [])).bind fun t34 =>
  (gV (gdW t25 true) (binP .lss t31 t34) (.tup [])).bind fun t35 =>
  (pickP t25 t35 (AV.bool false)).bind fun t36 =>
  chk [h3] [] (
  condE t36 (
  (iaS 2 t13 q9).bind fun t40 =>
  (ldA 2 h3 t40).bind fun t41 =>
  mk Heap.new (bsP 2 [(AV.int .i64 0), (AV.int .i64 0)] 1 [(0, t41)]) h3 fun t42 h16 =>
  cl (appendA h16 2 16 q7 t42) fun t43 h17 =>
  (binP .add q9 (AV.int .i64 1)).bind fun t19_18 =>
  some (.normal, [t43, t19_18], h17)) (
  (binP .add q9 (AV.int .i64 1)).bind fun t19_19 =>
  some (.normal, [q7, t19_19], h3)))) (
  some ((.exit 0), [q7, q9], h3))
def k_ref9_there_L0 (t4 : AV) (t13 : AV) (q7 : AV) (q9 : AV) (h3 : Heap) : OutV := loopN (fun us g => k_ref9_there_b0 t4 t13 (us.getD 0 .bot) (us.getD 1 .bot) g) [q7, q9] h3
def k_ref9_there (x0 : AV) (x1 : AV) (x2 : AV) (h : Heap) : Option (AV × Heap) :=
  mk Heap.new (bxP x0) h fun t3 h0 =>
  mk Heap.new (bxP x1) h0 fun t4 h1 =>
  (ldA 6 h1 t3).bind fun t10 =>
  (ldA 7 h1 t4).bind fun t11 =>
  cl (k_ref9_ways t10 t11 x2 h1) fun t13 h2 =>
  lp (k_ref9_there_L0 t4 t13 (AV.sl none 0 (.ex 0)) (AV.int .i64 0) h2) fun e vs h20 =>
  thenK (if e = .exit 0 then .normal else e) (
  some ((vs.getD 0 .bot), h20)) (fun e_21 => endE e_21 (some ((AV.sl none 0 (.ex 0)), h20)))
def T33 : Tab := (42, p3 k_ref9_there) :: T32
/- 19: gantline/gantlineref9.Follows -/
def k_ref9_Follows_b0 (t23 : AV) (q9 : AV) (q7_36 : AV) (q10_37 : AV) (h38 : Heap) : OutV :=
  (lnL t23).bind fun t33 =>
  (binP .lss q10_37 t33).bind fun t34 =>
  condE t34 (
  (iaS 2 t23 q10_37).bind fun t39 =>
  (faP 0 t39).bind fun t40 =>
  (ldS h38 t40).bind fun t41 =>
  (eqP (some (.int .i64)) none false .eql t41 q9).bind fun t43 =>
  condE t43 (
  mk Heap.new (bsP 1 [(AV.int .i64 0)] 1 [(0, q9)]) h38 fun t46 h39 =>
  cl (appendA h39 1 8 q7_36 t46) fun t47 h40 =>
  some ((.exit 2), [t47, q10_37], h40)) (
  (binP .add q10_37 (AV.int .i64 1)).bind fun t36 =>
  some (.normal, [q7_36, t36], h38))) (
  some ((.exit 2), [q7_36, q10_37], h38))
def k_ref9_Follows_L0 (t23 : AV) (q9 : AV) (q7_36 : AV) (q10_37 : AV) (h38 : Heap) : OutV := loopN (fun us g => k_ref9_Follows_b0 t23 q9 (us.getD 0 .bot) (us.getD 1 .bot) g) [q7_36, q10_37] h38
def k_ref9_Follows_b1 (t4 : AV) (t23 : AV) (q7 : AV) (q9 : AV) (h12 : Heap) : OutV :=
  (faP 5 t4).bind fun t25 =>
  (ldS h12 t25).bind fun t26 =>
  (lnL t26).bind fun t27 =>
  (binP .lss q9 t27).bind fun t28 =>
  condE t28 (
  lp (k_ref9_Follows_L0 t23 q9 q7 (AV.int .i64 0) h12) fun e vs h41 =>
  thenK (if (if e = .exit 2 then .normal else e) = .exit 1 then .normal else (if e = .exit 2 then .normal else e)) (
  (binP .add q9 (AV.int .i64 1)).bind fun t30_42 =>
  some (.normal, [(vs.getD 0 .bot), t30_42], h41)) (fun e_43 => some (e_43, [(vs.getD 0 .bot), q9], h41))) (
  some ((.exit 0), [q7, q9], h12))
def k_ref9_Follows_L1 (t4 : AV) (t23 : AV) (q7 : AV) (q9 : AV) (h12 : Heap) : OutV := loopN (fun us g => k_ref9_Follows_b1 t4 t23 (us.getD 0 .bot) (us.getD 1 .bot) g) [q7, q9] h12
def k_ref9_Follows (x0 : AV) (x1 : AV) (x2 : AV) (h : Heap) : Option (AV × Heap) :=
  mk Heap.new (bxP x0) h fun t3 h0 =>
  mk Heap.new (bxP x1) h0 fun t4 h1 =>
  (binP .lss x2 (AV.int .i64 0)).bind fun t12 =>
  gQ (gdW t12 false) h1 (some (x2, h1)) fun t14 h2 =>
  gQ (gdW t12 false) h2 ((faP 5 t4).bind fun t15 =>
  some (t15, h2)) fun t15_3 h4 =>
  gQ (gdW t12 false) h4 ((ldS h4 t15_3).bind fun t16 =>
  some (t16, h4)) fun t16_5 h6 =>
  gQ (gdW t12 false) h6 ((lnL t16_5).bind fun t17 =>
  some (t17, h6)) fun t17_7 h8 =>
  gQ (gdW t12 false) h8 ((binP .geq t14 t17_7).bind fun t18 =>
  some (t18, h8)) fun t18_9 h10 =>
  (pickP t12 (AV.bool true) t18_9).bind fun t19 =>
  condE t19 (
  some ((AV.sl none 0 (.ex 0)), h10)) (
  (ldA 6 h10 t3).bind fun t20 =>
  (ldA 7 h10 t4).bind fun t21 =>
  cl (k_ref9_there t20 t21 x2 h10) fun t23 h11 =>
  lp (k_ref9_Follows_L1 t4 t23 (AV.sl none 0 (.ex 0)) (AV.int .i64 0) h11) fun e_44 vs_45 h46 =>
  thenK (if e_44 = .exit 0 then .normal else e_44) (
  some ((vs_45.getD 0 .bot), h46)) (fun e_47 => endE e_47 (some ((AV.sl none 0 (.ex 0)), h46))))
def T34 : Tab := (19, p3 k_ref9_Follows) :: T33
/- 3: gantline/gantlinelaw10.LiveInstrs -/
def k_law10_LiveInstrs (x0 : AV) (x1 : AV) (x2 : AV) (x3 : AV) (h : Heap) : Option (AV × Heap) :=
  mk Heap.new (bxP x0) h fun t4 h0 =>
  mk Heap.new (bxP x1) h0 fun t5 h1 =>
  mk Heap.new (bxP x2) h1 fun t6 h2 =>
  cl (k_law10_awake h2) fun t12 h3 =>
  (unA .not t12).bind fun t13 =>
  condE t13 (
  some ((AV.bool false), h3)) (
  (ldA 7 h3 t5).bind fun t14 =>
  mk Heap.new (bsP 7 [(AV.int .i64 0), (AV.int .i64 0), (AV.int .i64 0), (AV.int .i64 0), (AV.sl none 0 (.ex 0)), (AV.sl none 0 (.ex 0)), (AV.sl none 0 (.ex 0))] 1 [(0, t14)]) h3 fun t15 h4 =>
  (faP 4 t4).bind fun t16 =>
  (ldS h4 t16).bind fun t17 =>
  cl (appendA h4 7 104 t15 t17) fun t18 h5 =>
  (faP 4 t4).bind fun t19 =>
  cl (stP 1 h5 t19 t18) fun u h6 =>
  (ldA 6 h6 t4).bind fun t20 =>
  cl (k_ref17_Big t20 h6) fun t21 h7 =>
  condE t21 (
  some ((AV.bool true), h7)) (
  (ldA 6 h7 t4).bind fun t22 =>
  cl (k_ref17_Module t22 h7) fun t23 h8 =>
  mk Heap.new (some (Blk.cells true [(AV.sl none 0 (.ex 0)), (AV.sl none 0 (.ex 0)), (AV.sl none 0 (.ex 0)), (AV.sl none 0 (.ex 0)), (AV.sl none 0 (.ex 0)), (AV.int .i64 0)], fun i => AV.ptr (some (i, 0)))) h8 fun t9 h9 =>
  cl (stP 6 h9 t9 t23) fun u_10 h11 =>
  (ldA 7 h11 t5).bind fun t24 =>
  cl (k_ref17_Func t24 h11) fun t25 h12 =>
  mk Heap.new (some (Blk.cells true [(AV.int .i64 0), (AV.int .i64 0), (AV.int .i64 0), (AV.int .i64 0), (AV.sl none 0 (.ex 0)), (AV.sl none 0 (.ex 0)), (AV.sl none 0 (.ex 0))], fun i => AV.ptr (some (i, 0)))) h12 fun t10 h13 =>
  cl (stP 7 h13 t10 t25) fun u_14 h15 =>
  (ldA 5 h15 t6).bind fun t26 =>
  cl (k_ref17_Instr t26 h15) fun t27 h16 =>
  mk Heap.new (some (Blk.cells true [(AV.int .i64 0), (AV.int .i64 0), (AV.int .i64 0), (AV.int .i64 0), (AV.int .i64 0)], fun i => AV.ptr (some (i, 0)))) h16 fun t11 h17 =>
  cl (stP 5 h17 t11 t27) fun u_18 h19 =>
  (ldA 6 h19 t4).bind fun t28 =>
  (ldA 5 h19 t6).bind fun t29 =>
  cl (k_live_Reads t28 t29 h19) fun t30 h20 =>
  clC (rdC (fun g => ldA 6 g t9) h20 0 1 []) fun t31 cs =>
  clC (rdC (fun g => ldA 5 g t11) h20 0 1 cs) fun t32 cs_21 =>
  cl (k_ref9_Reads t31 t32 h20) fun t33 h22 =>
  cl (k_ref17_Ints t30 t33 h22) fun t34 h23 =>
  (gV (gdW t34 true) (ldA 5 h23 t6) (.tup [])).bind fun t36 =>
  gQ (gdW t34 true) h23 (cl (k_live_Writes t36 h23) fun t37 h24 =>
  some (t37, h24)) fun t37_25 h26 =>
  clC (gV (gdW t34 true) (rdC (fun g => ldA 5 g t11) h26 3 4 cs_21) (.tup [], cs_21)) fun t38 cs_27 =>
  gQ (gdW t34 true) h26 (cl (k_ref9_Writes t38 h26) fun t39 h28 =>
  some (t39, h28)) fun t39_29 h30 =>
  gQ (gdW t34 true) h30 (cl (k_ref17_Ints t37_25 t39_29 h30) fun t40 h31 =>
  some (t40, h31)) fun t40_32 h33 =>
  (pickP t34 t40_32 (AV.bool false)).bind fun t41 =>
  (gV (gdW t41 true) (ldA 6 h33 t4) (.tup [])).bind fun t43 =>
  (gV (gdW t41 true) (ldA 7 h33 t5) (.tup [])).bind fun t44 =>
  (gV (gdW t41 true) (some x3) (.tup [])).bind fun t45 =>
  gQ (gdW t41 true) h33 (cl (k_live_Follows t43 t44 t45 h33) fun t46 h34 =>
  some (t46, h34)) fun t46_35 h36 =>
  clC (gV (gdW t41 true) (rdC (fun g => ldA 6 g t9) h36 6 7 cs_27) (.tup [], cs_27)) fun t47 cs_37 =>
  clC (gV (gdW t41 true) (rdC (fun g => ldA 7 g t10) h36 6 7 cs_37) (.tup [], cs_37)) fun t48 cs_38 =>
  (gV (gdW t41 true) (some x3) (.tup [])).bind fun t49 =>
  gQ (gdW t41 true) h36 (cl (k_ref9_Follows t47 t48 t49 h36) fun t50 h39 =>
  some (t50, h39)) fun t50_40 h41 =>
  gQ (gdW t41 true) h41 (cl (k_ref17_Ints t46_35 t50_40 h41) fun t51 h42 =>
  some (t51, h42)) fun t51_43 h44 =>
  (pickP t41 t51_43 (AV.bool false)).bind fun t52 =>
  chk [h19, h20, h22, h23, h26, h30, h33, h36, h41, h44] cs_38 (
  some (t52, h44))))
def T35 : Tab := (3, p4 k_law10_LiveInstrs) :: T34
/- 45: gantline/gantlineref9.bit -/
def k_ref9_bit (x0 : AV) (h : Heap) : Option (AV × Heap) :=
  (binP .lss x0 (AV.int .i64 0)).bind fun t4 =>
  gQ (gdW t4 false) h (some (x0, h)) fun t6 h0 =>
  gQ (gdW t4 false) h0 ((binP .gtr t6 (AV.int .i64 63)).bind fun t7 =>
  some (t7, h0)) fun t7_1 h2 =>
  (pickP t4 (AV.bool true) t7_1).bind fun t8 =>
  condE t8 (
  some ((AV.int .u64 0), h2)) (
  (cvI .u64 x0).bind fun t10 =>
  (binP .shl (AV.int .u64 1) t10).bind fun t11 =>
  some (t11, h2))
def T36 : Tab := (45, p1 k_ref9_bit) :: T35
/- 22: gantline/gantlineref9.Sets -/
def k_ref9_Sets_b0 (t17 : AV) (t29 : AV) (q8_9 : AV) (q10_10 : AV) (h11 : Heap) : OutV :=
  (lnL t29).bind fun t32 =>
  (binP .lss q10_10 t32).bind fun t33 =>
  condE t33 (
  (iaS 2 t29 q10_10).bind fun t40 =>
  (faP 0 t40).bind fun t41 =>
  clC (rdC (fun g => ldS g t41) h11 0 1 []) fun t42 cs =>
  (iaS 1 t17 t42).bind fun t43 =>
  clC (rdC (fun g => ldS g t43) h11 0 1 cs) fun t44 cs_12 =>
  (iaS 2 t29 q10_10).bind fun t47 =>
  (faP 1 t47).bind fun t48 =>
  (ldS h11 t48).bind fun t49 =>
  cl (k_ref9_bit t49 h11) fun t50 h13 =>
  (binP .andNot t44 t50).bind fun t51 =>
  (binP .or q8_9 t51).bind fun t52 =>
  chk [h11, h13] cs_12 (
  (binP .add q10_10 (AV.int .i64 1)).bind fun t35 =>
  some (.normal, [t52, t35], h13))) (
  some ((.exit 4), [q8_9, q10_10], h11))
def k_ref9_Sets_L0 (t17 : AV) (t29 : AV) (q8_9 : AV) (q10_10 : AV) (h11 : Heap) : OutV := loopN (fun us g => k_ref9_Sets_b0 t17 t29 (us.getD 0 .bot) (us.getD 1 .bot) g) [q8_9, q10_10] h11
def k_ref9_Sets_b1 (t58 : AV) (q8_16 : AV) (q12_17 : AV) (h18 : Heap) : OutV :=
  (lnL t58).bind fun t61 =>
  (binP .lss q12_17 t61).bind fun t62 =>
  condE t62 (
  (iaS 1 t58 q12_17).bind fun t68 =>
  (ldS h18 t68).bind fun t69 =>
  cl (k_ref9_bit t69 h18) fun t70 h19 =>
  (binP .andNot q8_16 t70).bind fun t71 =>
  (binP .add q12_17 (AV.int .i64 1)).bind fun t64 =>
  some (.normal, [t71, t64], h19)) (
  some ((.exit 6), [q8_16, q12_17], h18))
def k_ref9_Sets_L1 (t58 : AV) (q8_16 : AV) (q12_17 : AV) (h18 : Heap) : OutV := loopN (fun us g => k_ref9_Sets_b1 t58 (us.getD 0 .bot) (us.getD 1 .bot) g) [q8_16, q12_17] h18
def k_ref9_Sets_b2 (t78 : AV) (q8_24 : AV) (q13_25 : AV) (h26 : Heap) : OutV :=
  (lnL t78).bind fun t81 =>
  (binP .lss q13_25 t81).bind fun t82 =>
  condE t82 (
  (iaS 1 t78 q13_25).bind fun t88 =>
  (ldS h26 t88).bind fun t89 =>
  cl (k_ref9_bit t89 h26) fun t90 h27 =>
  (binP .or q8_24 t90).bind fun t91 =>
  (binP .add q13_25 (AV.int .i64 1)).bind fun t84 =>
  some (.normal, [t91, t84], h27)) (
  some ((.exit 8), [q8_24, q13_25], h26))
def k_ref9_Sets_L2 (t78 : AV) (q8_24 : AV) (q13_25 : AV) (h26 : Heap) : OutV := loopN (fun us g => k_ref9_Sets_b2 t78 (us.getD 0 .bot) (us.getD 1 .bot) g) [q8_24, q13_25] h26
def k_ref9_Sets_b3 (t2 : AV) (t3 : AV) (t17 : AV) (q6_4 : AV) (q7 : AV) (h5 : Heap) : OutV :=
  (faP 5 t3).bind fun t20 =>
  (ldS h5 t20).bind fun t21 =>
  (lnL t21).bind fun t22 =>
  (binP .lss q7 t22).bind fun t23 =>
  condE t23 (
  (ldA 6 h5 t2).bind fun t26 =>
  (ldA 7 h5 t3).bind fun t27 =>
  cl (k_ref9_there t26 t27 q7 h5) fun t29 h8 =>
  lp (k_ref9_Sets_L0 t17 t29 (AV.int .u64 0) (AV.int .i64 0) h8) fun e vs h14 =>
  thenK (if e = .exit 4 then .normal else e) (
  (faP 5 t3).bind fun t53 =>
  (ldS h14 t53).bind fun t54 =>
  (iaS 5 t54 q7).bind fun t56 =>
  (ldA 5 h14 t56).bind fun t57 =>
  cl (k_ref9_Writes t57 h14) fun t58 h15 =>
  lp (k_ref9_Sets_L1 t58 (vs.getD 0 .bot) (AV.int .i64 0) h15) fun e_20 vs_21 h22 =>
  thenK (if e_20 = .exit 6 then .normal else e_20) (
  (ldA 6 h22 t2).bind fun t72 =>
  (faP 5 t3).bind fun t73 =>
  (ldS h22 t73).bind fun t74 =>
  (iaS 5 t74 q7).bind fun t76 =>
  (ldA 5 h22 t76).bind fun t77 =>
  cl (k_ref9_Reads t72 t77 h22) fun t78 h23 =>
  chk [h22, h23] [] (
  lp (k_ref9_Sets_L2 t78 (vs_21.getD 0 .bot) (AV.int .i64 0) h23) fun e_28 vs_29 h30 =>
  thenK (if e_28 = .exit 8 then .normal else e_28) (
  (iaS 1 t17 q7).bind fun t95 =>
  (ldS h30 t95).bind fun t96 =>
  (eqP (some (.int .u64)) none false .neq (vs_29.getD 0 .bot) t96).bind fun t97 =>
  condE t97 (
  (iaS 1 t17 q7).bind fun t101 =>
  cl (stP 1 h30 t101 (vs_29.getD 0 .bot)) fun u h38 =>
  (binP .add q7 (AV.int .i64 1)).bind fun t25_39 =>
  some (.normal, [(AV.bool true), t25_39], h38)) (
  (binP .add q7 (AV.int .i64 1)).bind fun t25_40 =>
  some (.normal, [q6_4, t25_40], h30))) (fun e_41 => thenK (if e_41 = .exit 3 then .normal else e_41) (
  (binP .add q7 (AV.int .i64 1)).bind fun t25_42 =>
  some (.normal, [q6_4, t25_42], h30)) (fun e_43 => some (e_43, [q6_4, q7], h30))))) (fun e_44 => thenK (if e_44 = .exit 3 then .normal else e_44) (
  (binP .add q7 (AV.int .i64 1)).bind fun t25_45 =>
  some (.normal, [q6_4, t25_45], h22)) (fun e_46 => some (e_46, [q6_4, q7], h22)))) (fun e_47 => thenK (if e_47 = .exit 3 then .normal else e_47) (
  (binP .add q7 (AV.int .i64 1)).bind fun t25_48 =>
  some (.normal, [q6_4, t25_48], h14)) (fun e_49 => some (e_49, [q6_4, q7], h14)))) (
  some ((.exit 2), [q6_4, q7], h5))
def k_ref9_Sets_L3 (t2 : AV) (t3 : AV) (t17 : AV) (q6_4 : AV) (q7 : AV) (h5 : Heap) : OutV := loopN (fun us g => k_ref9_Sets_b3 t2 t3 t17 (us.getD 0 .bot) (us.getD 1 .bot) g) [q6_4, q7] h5
def k_ref9_Sets_b4 (t2 : AV) (t3 : AV) (t17 : AV) (q6 : AV) (h3 : Heap) : OutV :=
  condE q6 (
  lp (k_ref9_Sets_L3 t2 t3 t17 (AV.bool false) (AV.int .i64 0) h3) fun e_50 vs_51 h52 =>
  some ((if (if e_50 = .exit 2 then .normal else e_50) = .exit 1 then .normal else (if e_50 = .exit 2 then .normal else e_50)), [(vs_51.getD 0 .bot)], h52)) (
  some ((.exit 0), [q6], h3))
def k_ref9_Sets_L4 (t2 : AV) (t3 : AV) (t17 : AV) (q6 : AV) (h3 : Heap) : OutV := loopN (fun us g => k_ref9_Sets_b4 t2 t3 t17 (us.getD 0 .bot) g) [q6] h3
def k_ref9_Sets (x0 : AV) (x1 : AV) (h : Heap) : Option (AV × Heap) :=
  mk Heap.new (bxP x0) h fun t2 h0 =>
  mk Heap.new (bxP x1) h0 fun t3 h1 =>
  (faP 5 t3).bind fun t14 =>
  (ldS h1 t14).bind fun t15 =>
  (lnL t15).bind fun t16 =>
  mk Heap.new (msP 1 8 [(AV.int .u64 0)] t16 t16) h1 fun t17 h2 =>
  lp (k_ref9_Sets_L4 t2 t3 t17 (AV.bool true) h2) fun e_53 vs_54 h55 =>
  thenK (if e_53 = .exit 0 then .normal else e_53) (
  some (t17, h55)) (fun e_56 => endE e_56 (some ((AV.sl none 0 (.ex 0)), h55)))
def T37 : Tab := (22, p2 k_ref9_Sets) :: T36
/- 24: gantline/gantlineref9.Maps -/
def k_ref9_Maps_b0 (t3 : AV) (t10 : AV) (q6 : AV) (q7 : AV) (h4 : Heap) : OutV :=
  (binP .lss q7 (AV.int .i64 64)).bind fun t18 =>
  condE t18 (
  (faP 4 t3).bind fun t22 =>
  (ldS h4 t22).bind fun t23 =>
  (lnL t23).bind fun t24 =>
  (binP .geq q7 t24).bind fun t25 =>
  gQ (gdW t25 false) h4 ((faP 4 t3).bind fun t27 =>
  some (t27, h4)) fun t27_6 h7 =>
  gQ (gdW t25 false) h7 ((ldS h7 t27_6).bind fun t28 =>
  some (t28, h7)) fun t28_8 h9 =>
  gQ (gdW t25 false) h9 (some (q7, h9)) fun t29 h10 =>
  gQ (gdW t25 false) h10 ((iaS 1 t28_8 t29).bind fun t30 =>
  some (t30, h10)) fun t30_11 h12 =>
  gQ (gdW t25 false) h12 ((ldS h12 t30_11).bind fun t31 =>
  some (t31, h12)) fun t31_13 h14 =>
  gQ (gdW t25 false) h14 ((unA .not t31_13).bind fun t32 =>
  some (t32, h14)) fun t32_15 h16 =>
  (pickP t25 (AV.bool true) t32_15).bind fun t33 =>
  condE t33 (
  (iaS 1 t10 q6).bind fun t38 =>
  clC (rdC (fun g => ldS g t38) h16 0 1 []) fun t39 cs =>
  cl (k_ref9_bit q7 h16) fun t41 h29 =>
  (binP .andNot t39 t41).bind fun t42 =>
  (iaS 1 t10 q6).bind fun t43 =>
  cl (stP 1 h29 t43 t42) fun u h30 =>
  chk [h16, h29, h30] cs (
  (binP .add q7 (AV.int .i64 1)).bind fun t20_31 =>
  some (.normal, [t20_31], h30))) (
  (binP .add q7 (AV.int .i64 1)).bind fun t20_32 =>
  some (.normal, [t20_32], h16))) (
  some ((.exit 2), [q7], h4))
def k_ref9_Maps_L0 (t3 : AV) (t10 : AV) (q6 : AV) (q7 : AV) (h4 : Heap) : OutV := loopN (fun us g => k_ref9_Maps_b0 t3 t10 q6 (us.getD 0 .bot) g) [q7] h4
def k_ref9_Maps_b1 (t3 : AV) (t10 : AV) (q6 : AV) (h3 : Heap) : OutV :=
  (lnL t10).bind fun t13 =>
  (binP .lss q6 t13).bind fun t14 =>
  condE t14 (
  lp (k_ref9_Maps_L0 t3 t10 q6 (AV.int .i64 0) h3) fun e vs h33 =>
  thenK (if (if e = .exit 2 then .normal else e) = .exit 1 then .normal else (if e = .exit 2 then .normal else e)) (
  (binP .add q6 (AV.int .i64 1)).bind fun t16 =>
  some (.normal, [t16], h33)) (fun e_34 => some (e_34, [q6], h33))) (
  some ((.exit 0), [q6], h3))
def k_ref9_Maps_L1 (t3 : AV) (t10 : AV) (q6 : AV) (h3 : Heap) : OutV := loopN (fun us g => k_ref9_Maps_b1 t3 t10 (us.getD 0 .bot) g) [q6] h3
def k_ref9_Maps (x0 : AV) (x1 : AV) (h : Heap) : Option (AV × Heap) :=
  mk Heap.new (bxP x0) h fun t2 h0 =>
  mk Heap.new (bxP x1) h0 fun t3 h1 =>
  (ldA 6 h1 t2).bind fun t8 =>
  (ldA 7 h1 t3).bind fun t9 =>
  cl (k_ref9_Sets t8 t9 h1) fun t10 h2 =>
  lp (k_ref9_Maps_L1 t3 t10 (AV.int .i64 0) h2) fun e_35 vs_36 h37 =>
  thenK (if e_35 = .exit 0 then .normal else e_35) (
  some (t10, h37)) (fun e_38 => endE e_38 (some ((AV.sl none 0 (.ex 0)), h37)))
def T38 : Tab := (24, p2 k_ref9_Maps) :: T37
/- 4: gantline/gantlinelaw10.LiveSets -/
def k_law10_LiveSets (x0 : AV) (x1 : AV) (h : Heap) : Option (AV × Heap) :=
  mk Heap.new (bxP x0) h fun t2 h0 =>
  mk Heap.new (bxP x1) h0 fun t3 h1 =>
  cl (k_law10_awake h1) fun t7 h2 =>
  (unA .not t7).bind fun t8 =>
  condE t8 (
  some ((AV.bool false), h2)) (
  (ldA 7 h2 t3).bind fun t9 =>
  mk Heap.new (bsP 7 [(AV.int .i64 0), (AV.int .i64 0), (AV.int .i64 0), (AV.int .i64 0), (AV.sl none 0 (.ex 0)), (AV.sl none 0 (.ex 0)), (AV.sl none 0 (.ex 0))] 1 [(0, t9)]) h2 fun t10 h3 =>
  (faP 4 t2).bind fun t11 =>
  (ldS h3 t11).bind fun t12 =>
  cl (appendA h3 7 104 t10 t12) fun t13 h4 =>
  (faP 4 t2).bind fun t14 =>
  cl (stP 1 h4 t14 t13) fun u h5 =>
  (ldA 6 h5 t2).bind fun t15 =>
  cl (k_ref17_Big t15 h5) fun t16 h6 =>
  condE t16 (
  some ((AV.bool true), h6)) (
  (ldA 6 h6 t2).bind fun t17 =>
  cl (k_ref17_Module t17 h6) fun t18 h7 =>
  mk Heap.new (some (Blk.cells true [(AV.sl none 0 (.ex 0)), (AV.sl none 0 (.ex 0)), (AV.sl none 0 (.ex 0)), (AV.sl none 0 (.ex 0)), (AV.sl none 0 (.ex 0)), (AV.int .i64 0)], fun i => AV.ptr (some (i, 0)))) h7 fun t5 h8 =>
  cl (stP 6 h8 t5 t18) fun u_9 h10 =>
  (ldA 7 h10 t3).bind fun t19 =>
  cl (k_ref17_Func t19 h10) fun t20 h11 =>
  mk Heap.new (some (Blk.cells true [(AV.int .i64 0), (AV.int .i64 0), (AV.int .i64 0), (AV.int .i64 0), (AV.sl none 0 (.ex 0)), (AV.sl none 0 (.ex 0)), (AV.sl none 0 (.ex 0))], fun i => AV.ptr (some (i, 0)))) h11 fun t6 h12 =>
  cl (stP 7 h12 t6 t20) fun u_13 h14 =>
  (ldA 6 h14 t2).bind fun t21 =>
  (ldA 7 h14 t3).bind fun t22 =>
  cl (k_live_Sets t21 t22 h14) fun t23 h15 =>
  clC (rdC (fun g => ldA 6 g t5) h15 0 1 []) fun t24 cs =>
  clC (rdC (fun g => ldA 7 g t6) h15 0 1 cs) fun t25 cs_16 =>
  cl (k_ref9_Sets t24 t25 h15) fun t26 h17 =>
  cl (k_law10_nums t23 t26 h17) fun t27 h18 =>
  (gV (gdW t27 true) (ldA 6 h18 t2) (.tup [])).bind fun t29 =>
  (gV (gdW t27 true) (ldA 7 h18 t3) (.tup [])).bind fun t30 =>
  gQ (gdW t27 true) h18 (cl (k_live_Maps t29 t30 h18) fun t31 h19 =>
  some (t31, h19)) fun t31_20 h21 =>
  clC (gV (gdW t27 true) (rdC (fun g => ldA 6 g t5) h21 3 4 cs_16) (.tup [], cs_16)) fun t32 cs_22 =>
  clC (gV (gdW t27 true) (rdC (fun g => ldA 7 g t6) h21 3 4 cs_22) (.tup [], cs_22)) fun t33 cs_23 =>
  gQ (gdW t27 true) h21 (cl (k_ref9_Maps t32 t33 h21) fun t34 h24 =>
  some (t34, h24)) fun t34_25 h26 =>
  gQ (gdW t27 true) h26 (cl (k_law10_nums t31_20 t34_25 h26) fun t35 h27 =>
  some (t35, h27)) fun t35_28 h29 =>
  (pickP t27 t35_28 (AV.bool false)).bind fun t36 =>
  chk [h14, h15, h17, h18, h21, h26, h29] cs_23 (
  some (t36, h29))))
def T39 : Tab := (4, p2 k_law10_LiveSets) :: T38
/- 5: gantline/gantlinelaw10.LiveWalks -/
def k_law10_LiveWalks_b0 (x3 : AV) (t46 : AV) (q11 : AV) (t66 : AV) (q8_27 : AV) (q14 : AV) (h28 : Heap) : OutV :=
  (lnL t66).bind fun t69 =>
  (binP .lss q14 t69).bind fun t70 =>
  condE t70 (
  (iaS 1 t66 q14).bind fun t75 =>
  (ldS h28 t75).bind fun t76 =>
  (binP .geq t76 (AV.int .i64 0)).bind fun t77 =>
  (gV (gdW t77 true) (some t66) (.tup [])).bind fun t79 =>
  (gV (gdW t77 true) (some q14) (.tup [])).bind fun t80 =>
  (gV (gdW t77 true) (iaS 1 t79 t80) (.tup [])).bind fun t81 =>
  (gV (gdW t77 true) (ldS h28 t81) (.tup [])).bind fun t82 =>
  (gV (gdW t77 true) (binP .lss t82 (AV.int .i64 64)) (.tup [])).bind fun t83 =>
  (pickP t77 t83 (AV.bool false)).bind fun t84 =>
  (gV (gdW t84 true) (some q11) (.tup [])).bind fun t86 =>
  (gV (gdW t84 true) (some t66) (.tup [])).bind fun t87 =>
  (gV (gdW t84 true) (some q14) (.tup [])).bind fun t88 =>
  (gV (gdW t84 true) (iaS 1 t87 t88) (.tup [])).bind fun t89 =>
  (gV (gdW t84 true) (ldS h28 t89) (.tup [])).bind fun t90 =>
  (gV (gdW t84 true) (cvI .u64 t90) (.tup [])).bind fun t91 =>
  (gV (gdW t84 true) (binP .shr t86 t91) (.tup [])).bind fun t92 =>
  (gV (gdW t84 true) (binP .and t92 (AV.int .u64 1)) (.tup [])).bind fun t93 =>
  (gV (gdW t84 true) (eqP (some (.int .u64)) none false .eql t93 (AV.int .u64 0)) (.tup [])).bind fun t94 =>
  (pickP t84 t94 (AV.bool false)).bind fun t95 =>
  (gV (gdW t95 true) (some t46) (.tup [])).bind fun t97 =>
  (gV (gdW t95 true) (some x3) (.tup [])).bind fun t98 =>
  (gV (gdW t95 true) (iaS 1 t97 t98) (.tup [])).bind fun t99 =>
  (gV (gdW t95 true) (ldS h28 t99) (.tup [])).bind fun t100 =>
  (gV (gdW t95 true) (some t66) (.tup [])).bind fun t101 =>
  (gV (gdW t95 true) (some q14) (.tup [])).bind fun t102 =>
  (gV (gdW t95 true) (iaS 1 t101 t102) (.tup [])).bind fun t103 =>
  (gV (gdW t95 true) (ldS h28 t103) (.tup [])).bind fun t104 =>
  (gV (gdW t95 true) (cvI .u64 t104) (.tup [])).bind fun t105 =>
  (gV (gdW t95 true) (binP .shr t100 t105) (.tup [])).bind fun t106 =>
  (gV (gdW t95 true) (binP .and t106 (AV.int .u64 1)) (.tup [])).bind fun t107 =>
  (gV (gdW t95 true) (eqP (some (.int .u64)) none false .eql t107 (AV.int .u64 0)) (.tup [])).bind fun t108 =>
  (pickP t95 t108 (AV.bool false)).bind fun t109 =>
  chk [h28] [] (
  condE t109 (
  some (.ret, [(AV.bool false), q14], h28)) (
  (binP .add q14 (AV.int .i64 1)).bind fun t72 =>
  some (.normal, [q8_27, t72], h28)))) (
  some ((.exit 2), [q8_27, q14], h28))
def k_law10_LiveWalks_L0 (x3 : AV) (t46 : AV) (q11 : AV) (t66 : AV) (q8_27 : AV) (q14 : AV) (h28 : Heap) : OutV := loopN (fun us g => k_law10_LiveWalks_b0 x3 t46 q11 t66 (us.getD 0 .bot) (us.getD 1 .bot) g) [q8_27, q14] h28
def k_law10_LiveWalks_j0 (q16 : AV) (q11_51 : AV) (h52 : Heap) : OutV :=
  (binP .add q16 (AV.int .i64 1)).bind fun t121_53 =>
  some (.normal, [q11_51, t121_53], h52)
def k_law10_LiveWalks_b1 (t115 : AV) (q11_31 : AV) (q16 : AV) (h32 : Heap) : OutV :=
  (lnL t115).bind fun t118 =>
  (binP .lss q16 t118).bind fun t119 =>
  condE t119 (
  (iaS 1 t115 q16).bind fun t124 =>
  (ldS h32 t124).bind fun t125 =>
  (binP .geq t125 (AV.int .i64 0)).bind fun t126 =>
  gQ (gdW t126 true) h32 (some (t115, h32)) fun t128 h35 =>
  gQ (gdW t126 true) h35 (some (q16, h35)) fun t129 h36 =>
  gQ (gdW t126 true) h36 ((iaS 1 t128 t129).bind fun t130 =>
  some (t130, h36)) fun t130_37 h38 =>
  gQ (gdW t126 true) h38 ((ldS h38 t130_37).bind fun t131 =>
  some (t131, h38)) fun t131_39 h40 =>
  gQ (gdW t126 true) h40 ((binP .lss t131_39 (AV.int .i64 64)).bind fun t132 =>
  some (t132, h40)) fun t132_41 h42 =>
  (pickP t126 t132_41 (AV.bool false)).bind fun t133 =>
  condE t133 (
  (iaS 1 t115 q16).bind fun t137 =>
  (ldS h42 t137).bind fun t138 =>
  (cvI .u64 t138).bind fun t139 =>
  (binP .shl (AV.int .u64 1) t139).bind fun t140 =>
  (binP .or q11_31 t140).bind fun t141 =>
  k_law10_LiveWalks_j0 q16 t141 h42) (
  k_law10_LiveWalks_j0 q16 q11_31 h42)) (
  some ((.exit 4), [q11_31, q16], h32))
def k_law10_LiveWalks_L1 (t115 : AV) (q11_31 : AV) (q16 : AV) (h32 : Heap) : OutV := loopN (fun us g => k_law10_LiveWalks_b1 t115 (us.getD 0 .bot) (us.getD 1 .bot) g) [q11_31, q16] h32
def k_law10_LiveWalks_b2 (x2 : AV) (x3 : AV) (t4 : AV) (t5 : AV) (t46 : AV) (q8 : AV) (q10 : AV) (q11 : AV) (q12 : AV) (h25 : Heap) : OutV :=
  (lnL x2).bind fun t56 =>
  (binP .lss q12 t56).bind fun t57 =>
  condE t57 (
  (ldA 6 h25 t4).bind fun t60 =>
  (faP 5 t5).bind fun t61 =>
  (ldS h25 t61).bind fun t62 =>
  (iaS 5 t62 q10).bind fun t64 =>
  (ldA 5 h25 t64).bind fun t65 =>
  cl (k_live_Reads t60 t65 h25) fun t66 h26 =>
  chk [h25, h26] [] (
  lp (k_law10_LiveWalks_L0 x3 t46 q11 t66 q8 (AV.int .i64 0) h26) fun e vs h29 =>
  thenK (if e = .exit 2 then .normal else e) (
  (faP 5 t5).bind fun t110 =>
  (ldS h29 t110).bind fun t111 =>
  (iaS 5 t111 q10).bind fun t113 =>
  (ldA 5 h29 t113).bind fun t114 =>
  cl (k_live_Writes t114 h29) fun t115 h30 =>
  lp (k_law10_LiveWalks_L1 t115 q11 (AV.int .i64 0) h30) fun e_54 vs_55 h56 =>
  thenK (if e_54 = .exit 4 then .normal else e_54) (
  (ldA 6 h56 t4).bind fun t142 =>
  (ldA 7 h56 t5).bind fun t143 =>
  cl (k_live_Follows t142 t143 q10 h56) fun t145 h57 =>
  (lnL t145).bind fun t147 =>
  (eqP (some (.int .i64)) none false .eql t147 (AV.int .i64 0)).bind fun t148 =>
  gQ (gdW t148 false) h57 ((faP 5 t5).bind fun t150 =>
  some (t150, h57)) fun t150_58 h59 =>
  gQ (gdW t148 false) h59 ((ldS h59 t150_58).bind fun t151 =>
  some (t151, h59)) fun t151_60 h61 =>
  gQ (gdW t148 false) h61 (some (q10, h61)) fun t152 h62 =>
  gQ (gdW t148 false) h62 ((iaS 5 t151_60 t152).bind fun t153 =>
  some (t153, h62)) fun t153_63 h64 =>
  gQ (gdW t148 false) h64 ((faP 0 t153_63).bind fun t154 =>
  some (t154, h64)) fun t154_65 h66 =>
  gQ (gdW t148 false) h66 ((ldS h66 t154_65).bind fun t155 =>
  some (t155, h66)) fun t155_67 h68 =>
  gQ (gdW t148 false) h68 ((eqP (some (.int .i64)) none false .eql t155_67 (AV.int .i64 41)).bind fun t156 =>
  some (t156, h68)) fun t156_69 h70 =>
  (pickP t148 (AV.bool true) t156_69).bind fun t157 =>
  condE t157 (
  some (.ret, [(AV.bool true), q10, (vs_55.getD 0 .bot), q12], h70)) (
  (iaS 1 x2 q12).bind fun t161 =>
  (ldS h70 t161).bind fun t162 =>
  (binP .and t162 (AV.int .i64 65535)).bind fun t163 =>
  (lnL t145).bind fun t165 =>
  (binP .rem t163 t165).bind fun t166 =>
  (iaS 1 t145 t166).bind fun t167 =>
  (ldS h70 t167).bind fun t168 =>
  (binP .add q12 (AV.int .i64 1)).bind fun t59 =>
  some (.normal, [(vs.getD 0 .bot), t168, (vs_55.getD 0 .bot), t59], h70))) (fun e_71 => thenK (if e_71 = .exit 1 then .normal else e_71) (
  (binP .add q12 (AV.int .i64 1)).bind fun t59_72 =>
  some (.normal, [(vs.getD 0 .bot), q10, (vs_55.getD 0 .bot), t59_72], h56)) (fun e_73 => some (e_73, [(vs.getD 0 .bot), q10, (vs_55.getD 0 .bot), q12], h56)))) (fun e_74 => thenK (if e_74 = .exit 1 then .normal else e_74) (
  (binP .add q12 (AV.int .i64 1)).bind fun t59_75 =>
  some (.normal, [(vs.getD 0 .bot), q10, q11, t59_75], h29)) (fun e_76 => some (e_76, [(vs.getD 0 .bot), q10, q11, q12], h29))))) (
  some ((.exit 0), [q8, q10, q11, q12], h25))
def k_law10_LiveWalks_L2 (x2 : AV) (x3 : AV) (t4 : AV) (t5 : AV) (t46 : AV) (q8 : AV) (q10 : AV) (q11 : AV) (q12 : AV) (h25 : Heap) : OutV := loopN (fun us g => k_law10_LiveWalks_b2 x2 x3 t4 t5 t46 (us.getD 0 .bot) (us.getD 1 .bot) (us.getD 2 .bot) (us.getD 3 .bot) g) [q8, q10, q11, q12] h25
def k_law10_LiveWalks (x0 : AV) (x1 : AV) (x2 : AV) (x3 : AV) (h : Heap) : Option (AV × Heap) :=
  mk Heap.new (bxP x0) h fun t4 h0 =>
  mk Heap.new (bxP x1) h0 fun t5 h1 =>
  cl (k_law10_awake h1) fun t18 h2 =>
  (unA .not t18).bind fun t19 =>
  condE t19 (
  some ((AV.bool false), h2)) (
  (ldA 7 h2 t5).bind fun t20 =>
  mk Heap.new (bsP 7 [(AV.int .i64 0), (AV.int .i64 0), (AV.int .i64 0), (AV.int .i64 0), (AV.sl none 0 (.ex 0)), (AV.sl none 0 (.ex 0)), (AV.sl none 0 (.ex 0))] 1 [(0, t20)]) h2 fun t21 h3 =>
  (faP 4 t4).bind fun t22 =>
  (ldS h3 t22).bind fun t23 =>
  cl (appendA h3 7 104 t21 t23) fun t24 h4 =>
  (faP 4 t4).bind fun t25 =>
  cl (stP 1 h4 t25 t24) fun u h5 =>
  (ldA 6 h5 t4).bind fun t26 =>
  cl (k_ref17_Big t26 h5) fun t27 h6 =>
  gQ (gdW t27 false) h6 (some (x2, h6)) fun t29 h7 =>
  gQ (gdW t27 false) h7 ((lnL t29).bind fun t30 =>
  some (t30, h7)) fun t30_8 h9 =>
  gQ (gdW t27 false) h9 ((binP .gtr t30_8 (AV.int .i64 100)).bind fun t31 =>
  some (t31, h9)) fun t31_10 h11 =>
  (pickP t27 (AV.bool true) t31_10).bind fun t32 =>
  gQ (gdW t32 false) h11 (some (x3, h11)) fun t34 h12 =>
  gQ (gdW t32 false) h12 ((binP .lss t34 (AV.int .i64 0)).bind fun t35 =>
  some (t35, h12)) fun t35_13 h14 =>
  (pickP t32 (AV.bool true) t35_13).bind fun t36 =>
  gQ (gdW t36 false) h14 (some (x3, h14)) fun t38 h15 =>
  gQ (gdW t36 false) h15 ((faP 5 t5).bind fun t39 =>
  some (t39, h15)) fun t39_16 h17 =>
  gQ (gdW t36 false) h17 ((ldS h17 t39_16).bind fun t40 =>
  some (t40, h17)) fun t40_18 h19 =>
  gQ (gdW t36 false) h19 ((lnL t40_18).bind fun t41 =>
  some (t41, h19)) fun t41_20 h21 =>
  gQ (gdW t36 false) h21 ((binP .geq t38 t41_20).bind fun t42 =>
  some (t42, h21)) fun t42_22 h23 =>
  (pickP t36 (AV.bool true) t42_22).bind fun t43 =>
  condE t43 (
  some ((AV.bool true), h23)) (
  (ldA 6 h23 t4).bind fun t44 =>
  (ldA 7 h23 t5).bind fun t45 =>
  cl (k_live_Sets t44 t45 h23) fun t46 h24 =>
  (lnL t46).bind fun t48 =>
  (faP 5 t5).bind fun t49 =>
  (ldS h24 t49).bind fun t50 =>
  (lnL t50).bind fun t51 =>
  (eqP (some (.int .i64)) none false .neq t48 t51).bind fun t52 =>
  condE t52 (
  some ((AV.bool false), h24)) (
  lp (k_law10_LiveWalks_L2 x2 x3 t4 t5 t46 (AV.bool false) x3 (AV.int .u64 0) (AV.int .i64 0) h24) fun e_77 vs_78 h79 =>
  thenK (if e_77 = .exit 0 then .normal else e_77) (
  some ((AV.bool true), h79)) (fun e_80 => endE e_80 (some ((vs_78.getD 0 .bot), h79))))))
def T40 : Tab := (5, p4 k_law10_LiveWalks) :: T39
/- 6: gantline/gantlinelaw10.LiveFits -/
def k_law10_LiveFits_b0 (t27 : AV) (q7 : AV) (t66 : AV) (q4_21 : AV) (q9_22 : AV) (h23 : Heap) : OutV :=
  (lnL t66).bind fun t69 =>
  (binP .lss q9_22 t69).bind fun t70 =>
  condE t70 (
  (iaS 1 t66 q9_22).bind fun t75 =>
  (ldS h23 t75).bind fun t76 =>
  (binP .geq t76 (AV.int .i64 0)).bind fun t77 =>
  (gV (gdW t77 true) (some t66) (.tup [])).bind fun t79 =>
  (gV (gdW t77 true) (some q9_22) (.tup [])).bind fun t80 =>
  (gV (gdW t77 true) (iaS 1 t79 t80) (.tup [])).bind fun t81 =>
  (gV (gdW t77 true) (ldS h23 t81) (.tup [])).bind fun t82 =>
  (gV (gdW t77 true) (binP .lss t82 (AV.int .i64 64)) (.tup [])).bind fun t83 =>
  (pickP t77 t83 (AV.bool false)).bind fun t84 =>
  (gV (gdW t84 true) (some t27) (.tup [])).bind fun t86 =>
  (gV (gdW t84 true) (some q7) (.tup [])).bind fun t87 =>
  (gV (gdW t84 true) (iaS 1 t86 t87) (.tup [])).bind fun t88 =>
  (gV (gdW t84 true) (ldS h23 t88) (.tup [])).bind fun t89 =>
  (gV (gdW t84 true) (some t66) (.tup [])).bind fun t90 =>
  (gV (gdW t84 true) (some q9_22) (.tup [])).bind fun t91 =>
  (gV (gdW t84 true) (iaS 1 t90 t91) (.tup [])).bind fun t92 =>
  (gV (gdW t84 true) (ldS h23 t92) (.tup [])).bind fun t93 =>
  (gV (gdW t84 true) (cvI .u64 t93) (.tup [])).bind fun t94 =>
  (gV (gdW t84 true) (binP .shr t89 t94) (.tup [])).bind fun t95 =>
  (gV (gdW t84 true) (binP .and t95 (AV.int .u64 1)) (.tup [])).bind fun t96 =>
  (gV (gdW t84 true) (eqP (some (.int .u64)) none false .eql t96 (AV.int .u64 0)) (.tup [])).bind fun t97 =>
  (pickP t84 t97 (AV.bool false)).bind fun t98 =>
  chk [h23] [] (
  condE t98 (
  some (.ret, [(AV.bool false), q9_22], h23)) (
  (binP .add q9_22 (AV.int .i64 1)).bind fun t72 =>
  some (.normal, [q4_21, t72], h23)))) (
  some ((.exit 2), [q4_21, q9_22], h23))
def k_law10_LiveFits_L0 (t27 : AV) (q7 : AV) (t66 : AV) (q4_21 : AV) (q9_22 : AV) (h23 : Heap) : OutV := loopN (fun us g => k_law10_LiveFits_b0 t27 q7 t66 (us.getD 0 .bot) (us.getD 1 .bot) g) [q4_21, q9_22] h23
def k_law10_LiveFits_j0 (q12_28 : AV) (q10_68 : AV) (h69 : Heap) : OutV :=
  (binP .add q12_28 (AV.int .i64 1)).bind fun t117_70 =>
  some (.normal, [q10_68, t117_70], h69)
def k_law10_LiveFits_b1 (t111 : AV) (q10_27 : AV) (q12_28 : AV) (h29 : Heap) : OutV :=
  (lnL t111).bind fun t114 =>
  (binP .lss q12_28 t114).bind fun t115 =>
  condE t115 (
  (iaS 1 t111 q12_28).bind fun t120 =>
  (ldS h29 t120).bind fun t121 =>
  (binP .geq t121 (AV.int .i64 0)).bind fun t122 =>
  gQ (gdW t122 true) h29 (some (t111, h29)) fun t124 h52 =>
  gQ (gdW t122 true) h52 (some (q12_28, h52)) fun t125 h53 =>
  gQ (gdW t122 true) h53 ((iaS 1 t124 t125).bind fun t126 =>
  some (t126, h53)) fun t126_54 h55 =>
  gQ (gdW t122 true) h55 ((ldS h55 t126_54).bind fun t127 =>
  some (t127, h55)) fun t127_56 h57 =>
  gQ (gdW t122 true) h57 ((binP .lss t127_56 (AV.int .i64 64)).bind fun t128 =>
  some (t128, h57)) fun t128_58 h59 =>
  (pickP t122 t128_58 (AV.bool false)).bind fun t129 =>
  condE t129 (
  (iaS 1 t111 q12_28).bind fun t133 =>
  (ldS h59 t133).bind fun t134 =>
  (cvI .u64 t134).bind fun t135 =>
  (binP .shl (AV.int .u64 1) t135).bind fun t136 =>
  (binP .or q10_27 t136).bind fun t137 =>
  k_law10_LiveFits_j0 q12_28 t137 h59) (
  k_law10_LiveFits_j0 q12_28 q10_27 h59)) (
  some ((.exit 4), [q10_27, q12_28], h29))
def k_law10_LiveFits_L1 (t111 : AV) (q10_27 : AV) (q12_28 : AV) (h29 : Heap) : OutV := loopN (fun us g => k_law10_LiveFits_b1 t111 (us.getD 0 .bot) (us.getD 1 .bot) g) [q10_27, q12_28] h29
def k_law10_LiveFits_b2 (t27 : AV) (q7 : AV) (vs_72 : List AV) (t141 : AV) (q4_75 : AV) (q14_76 : AV) (h77 : Heap) : OutV :=
  (lnL t141).bind fun t144 =>
  (binP .lss q14_76 t144).bind fun t145 =>
  condE t145 (
  (iaS 1 t141 q14_76).bind fun t151 =>
  (ldS h77 t151).bind fun t152 =>
  (iaS 1 t27 t152).bind fun t153 =>
  (ldS h77 t153).bind fun t154 =>
  (binP .andNot t154 (vs_72.getD 0 .bot)).bind fun t156 =>
  (iaS 1 t27 q7).bind fun t159 =>
  (ldS h77 t159).bind fun t160 =>
  (binP .andNot t156 t160).bind fun t161 =>
  (eqP (some (.int .u64)) none false .neq t161 (AV.int .u64 0)).bind fun t162 =>
  chk [h77] [] (
  condE t162 (
  some (.ret, [(AV.bool false), q14_76], h77)) (
  (binP .add q14_76 (AV.int .i64 1)).bind fun t147 =>
  some (.normal, [q4_75, t147], h77)))) (
  some ((.exit 6), [q4_75, q14_76], h77))
def k_law10_LiveFits_L2 (t27 : AV) (q7 : AV) (vs_72 : List AV) (t141 : AV) (q4_75 : AV) (q14_76 : AV) (h77 : Heap) : OutV := loopN (fun us g => k_law10_LiveFits_b2 t27 q7 vs_72 t141 (us.getD 0 .bot) (us.getD 1 .bot) g) [q4_75, q14_76] h77
def k_law10_LiveFits_b3 (t2 : AV) (t3 : AV) (t27 : AV) (t30 : AV) (q4 : AV) (q7 : AV) (h17 : Heap) : OutV :=
  (lnL t27).bind fun t46 =>
  (binP .lss q7 t46).bind fun t47 =>
  condE t47 (
  (iaS 1 t30 q7).bind fun t52 =>
  (ldS h17 t52).bind fun t53 =>
  (iaS 1 t27 q7).bind fun t56 =>
  (ldS h17 t56).bind fun t57 =>
  (binP .andNot t53 t57).bind fun t58 =>
  (eqP (some (.int .u64)) none false .neq t58 (AV.int .u64 0)).bind fun t59 =>
  chk [h17] [] (
  condE t59 (
  some (.ret, [(AV.bool false), q7], h17)) (
  (ldA 6 h17 t2).bind fun t60 =>
  (faP 5 t3).bind fun t61 =>
  (ldS h17 t61).bind fun t62 =>
  (iaS 5 t62 q7).bind fun t64 =>
  (ldA 5 h17 t64).bind fun t65 =>
  cl (k_live_Reads t60 t65 h17) fun t66 h20 =>
  chk [h17, h20] [] (
  lp (k_law10_LiveFits_L0 t27 q7 t66 q4 (AV.int .i64 0) h20) fun e vs h24 =>
  thenK (if e = .exit 2 then .normal else e) (
  (faP 5 t3).bind fun t99 =>
  (ldS h24 t99).bind fun t100 =>
  (iaS 5 t100 q7).bind fun t102 =>
  (faP 0 t102).bind fun t103 =>
  (ldS h24 t103).bind fun t104 =>
  (eqP (some (.int .i64)) none false .eql t104 (AV.int .i64 41)).bind fun t105 =>
  condE t105 (
  (binP .add q7 (AV.int .i64 1)).bind fun t49_25 =>
  some (.normal, [(vs.getD 0 .bot), t49_25], h24)) (
  (faP 5 t3).bind fun t106 =>
  (ldS h24 t106).bind fun t107 =>
  (iaS 5 t107 q7).bind fun t109 =>
  (ldA 5 h24 t109).bind fun t110 =>
  cl (k_live_Writes t110 h24) fun t111 h26 =>
  lp (k_law10_LiveFits_L1 t111 (AV.int .u64 0) (AV.int .i64 0) h26) fun e_71 vs_72 h73 =>
  thenK (if e_71 = .exit 4 then .normal else e_71) (
  (ldA 6 h73 t2).bind fun t138 =>
  (ldA 7 h73 t3).bind fun t139 =>
  cl (k_live_Follows t138 t139 q7 h73) fun t141 h74 =>
  lp (k_law10_LiveFits_L2 t27 q7 vs_72 t141 (vs.getD 0 .bot) (AV.int .i64 0) h74) fun e_78 vs_79 h80 =>
  thenK (if (if e_78 = .exit 6 then .normal else e_78) = .exit 1 then .normal else (if e_78 = .exit 6 then .normal else e_78)) (
  (binP .add q7 (AV.int .i64 1)).bind fun t49_81 =>
  some (.normal, [(vs_79.getD 0 .bot), t49_81], h80)) (fun e_82 => some (e_82, [(vs_79.getD 0 .bot), q7], h80))) (fun e_83 => thenK (if e_83 = .exit 1 then .normal else e_83) (
  (binP .add q7 (AV.int .i64 1)).bind fun t49_84 =>
  some (.normal, [(vs.getD 0 .bot), t49_84], h73)) (fun e_85 => some (e_85, [(vs.getD 0 .bot), q7], h73))))) (fun e_86 => thenK (if e_86 = .exit 1 then .normal else e_86) (
  (binP .add q7 (AV.int .i64 1)).bind fun t49_87 =>
  some (.normal, [(vs.getD 0 .bot), t49_87], h24)) (fun e_88 => some (e_88, [(vs.getD 0 .bot), q7], h24))))))) (
  some ((.exit 0), [q4, q7], h17))
def k_law10_LiveFits_L3 (t2 : AV) (t3 : AV) (t27 : AV) (t30 : AV) (q4 : AV) (q7 : AV) (h17 : Heap) : OutV := loopN (fun us g => k_law10_LiveFits_b3 t2 t3 t27 t30 (us.getD 0 .bot) (us.getD 1 .bot) g) [q4, q7] h17
def k_law10_LiveFits (x0 : AV) (x1 : AV) (h : Heap) : Option (AV × Heap) :=
  mk Heap.new (bxP x0) h fun t2 h0 =>
  mk Heap.new (bxP x1) h0 fun t3 h1 =>
  cl (k_law10_awake h1) fun t15 h2 =>
  (unA .not t15).bind fun t16 =>
  condE t16 (
  some ((AV.bool false), h2)) (
  (ldA 7 h2 t3).bind fun t17 =>
  mk Heap.new (bsP 7 [(AV.int .i64 0), (AV.int .i64 0), (AV.int .i64 0), (AV.int .i64 0), (AV.sl none 0 (.ex 0)), (AV.sl none 0 (.ex 0)), (AV.sl none 0 (.ex 0))] 1 [(0, t17)]) h2 fun t18 h3 =>
  (faP 4 t2).bind fun t19 =>
  (ldS h3 t19).bind fun t20 =>
  cl (appendA h3 7 104 t18 t20) fun t21 h4 =>
  (faP 4 t2).bind fun t22 =>
  cl (stP 1 h4 t22 t21) fun u h5 =>
  (ldA 6 h5 t2).bind fun t23 =>
  cl (k_ref17_Big t23 h5) fun t24 h6 =>
  condE t24 (
  some ((AV.bool true), h6)) (
  (ldA 6 h6 t2).bind fun t25 =>
  (ldA 7 h6 t3).bind fun t26 =>
  cl (k_live_Sets t25 t26 h6) fun t27 h7 =>
  (ldA 6 h7 t2).bind fun t28 =>
  (ldA 7 h7 t3).bind fun t29 =>
  cl (k_live_Maps t28 t29 h7) fun t30 h8 =>
  (lnL t27).bind fun t32 =>
  (faP 5 t3).bind fun t33 =>
  (ldS h8 t33).bind fun t34 =>
  (lnL t34).bind fun t35 =>
  (eqP (some (.int .i64)) none false .neq t32 t35).bind fun t36 =>
  gQ (gdW t36 false) h8 (some (t30, h8)) fun t38 h9 =>
  gQ (gdW t36 false) h9 ((lnL t38).bind fun t39 =>
  some (t39, h9)) fun t39_10 h11 =>
  gQ (gdW t36 false) h11 (some (t27, h11)) fun t40 h12 =>
  gQ (gdW t36 false) h12 ((lnL t40).bind fun t41 =>
  some (t41, h12)) fun t41_13 h14 =>
  gQ (gdW t36 false) h14 ((eqP (some (.int .i64)) none false .neq t39_10 t41_13).bind fun t42 =>
  some (t42, h14)) fun t42_15 h16 =>
  (pickP t36 (AV.bool true) t42_15).bind fun t43 =>
  condE t43 (
  some ((AV.bool false), h16)) (
  lp (k_law10_LiveFits_L3 t2 t3 t27 t30 (AV.bool false) (AV.int .i64 0) h16) fun e_89 vs_90 h91 =>
  thenK (if e_89 = .exit 0 then .normal else e_89) (
  some ((AV.bool true), h91)) (fun e_92 => endE e_92 (some ((vs_90.getD 0 .bot), h91))))))
def T41 : Tab := (6, p2 k_law10_LiveFits) :: T40
/- 46: gantline/gantlinelaw11.pair -/
def k_law11_pair_j0 (t2 : AV) (t3 : AV) (t4 : AV) (h6 : Heap) : Option (AV × Heap) :=
  (faP 5 t4).bind fun t17 =>
  (ldS h6 t17).bind fun t18 =>
  (bldS [(0, 1), (1, 1), (2, 1), (3, 1), (4, 1)] [(AV.int .i64 0), (AV.int .i64 0), (AV.int .i64 0), (AV.int .i64 0), (AV.int .i64 0)] [(0, (AV.int .i64 28)), (3, (AV.int .i64 1))]).bind fun t19 =>
  (bldS [(0, 1), (1, 1), (2, 1), (3, 1), (4, 1)] [(AV.int .i64 0), (AV.int .i64 0), (AV.int .i64 0), (AV.int .i64 0), (AV.int .i64 0)] [(0, (AV.int .i64 22)), (1, (AV.int .i64 (-1)))]).bind fun t20 =>
  mk Heap.new (bsP 5 [(AV.int .i64 0), (AV.int .i64 0), (AV.int .i64 0), (AV.int .i64 0), (AV.int .i64 0)] 2 [(0, t19), (1, t20)]) h6 fun t21 h7 =>
  cl (appendA h7 5 40 t18 t21) fun t22 h8 =>
  (faP 5 t4).bind fun t23 =>
  cl (stP 1 h8 t23 t22) fun u_9 h10 =>
  (bldS [(0, 1), (1, 1), (2, 1)] [(AV.int .i64 0), (AV.int .i64 0), (AV.int .u64 0)] [(1, (AV.int .i64 1)), (2, (AV.int .u64 1))]).bind fun t24 =>
  cl (mkAt Heap.put (bsP 3 [(AV.int .i64 0), (AV.int .i64 0), (AV.int .u64 0)] 1 [(0, t24)]) (h10.next + 0) (hpN h10 1)) fun t25 h11 =>
  (bldS [(0, 1), (1, 1), (2, 1), (3, 1), (4, 1), (5, 1)] [(AV.sl none 0 (.ex 0)), (AV.sl none 0 (.ex 0)), (AV.sl none 0 (.ex 0)), (AV.sl none 0 (.ex 0)), (AV.sl none 0 (.ex 0)), (AV.int .i64 0)] [(0, t25)]).bind fun t26 =>
  clC (rdC (fun g => ldA 7 g t4) (hpN h10 1) 0 1 []) fun t27 cs =>
  cl (stP 6 h11 t2 t26) fun u_12 h13 =>
  cl (stP 7 h13 t3 t27) fun u_14 h15 =>
  chk [(hpN h10 1), h13, h15] cs (
  (ldA 6 h15 t2).bind fun t =>
  (ldA 7 h15 t3).bind fun t_16 =>
  some (AV.tup [t, t_16], h15))
def k_law11_pair (x0 : AV) (h : Heap) : Option (AV × Heap) :=
  mk Heap.new (some (Blk.cells true [(AV.sl none 0 (.ex 0)), (AV.sl none 0 (.ex 0)), (AV.sl none 0 (.ex 0)), (AV.sl none 0 (.ex 0)), (AV.sl none 0 (.ex 0)), (AV.int .i64 0)], fun i => AV.ptr (some (i, 0)))) h fun t2 h0 =>
  mk Heap.new (some (Blk.cells true [(AV.int .i64 0), (AV.int .i64 0), (AV.int .i64 0), (AV.int .i64 0), (AV.sl none 0 (.ex 0)), (AV.sl none 0 (.ex 0)), (AV.sl none 0 (.ex 0))], fun i => AV.ptr (some (i, 0)))) h0 fun t3 h1 =>
  mk Heap.new (bsP 1 [(AV.bool false)] 2 [(0, (AV.bool true)), (1, (AV.bool true))]) h1 fun t5 h2 =>
  (bldS [(0, 1), (1, 1), (2, 1), (3, 1), (4, 1)] [(AV.int .i64 0), (AV.int .i64 0), (AV.int .i64 0), (AV.int .i64 0), (AV.int .i64 0)] [(0, (AV.int .i64 25))]).bind fun t6 =>
  (bldS [(0, 1), (1, 1), (2, 1), (3, 1), (4, 1)] [(AV.int .i64 0), (AV.int .i64 0), (AV.int .i64 0), (AV.int .i64 0), (AV.int .i64 0)] [(0, (AV.int .i64 25)), (1, (AV.int .i64 1))]).bind fun t7 =>
  mk Heap.new (bsP 5 [(AV.int .i64 0), (AV.int .i64 0), (AV.int .i64 0), (AV.int .i64 0), (AV.int .i64 0)] 2 [(0, t6), (1, t7)]) h2 fun t8 h3 =>
  (bldS [(0, 1), (1, 1), (2, 1), (3, 1), (4, 1), (5, 1), (6, 1)] [(AV.int .i64 0), (AV.int .i64 0), (AV.int .i64 0), (AV.int .i64 0), (AV.sl none 0 (.ex 0)), (AV.sl none 0 (.ex 0)), (AV.sl none 0 (.ex 0))] [(2, (AV.int .i64 2)), (4, t5), (5, t8)]).bind fun t9 =>
  mk Heap.new (some (Blk.cells true [(AV.int .i64 0), (AV.int .i64 0), (AV.int .i64 0), (AV.int .i64 0), (AV.sl none 0 (.ex 0)), (AV.sl none 0 (.ex 0)), (AV.sl none 0 (.ex 0))], fun i => AV.ptr (some (i, 0)))) h3 fun t4 h4 =>
  cl (stP 7 h4 t4 t9) fun u h5 =>
  condE x0 (
  (faP 5 t4).bind fun t11 =>
  (ldS h5 t11).bind fun t12 =>
  (bldS [(0, 1), (1, 1), (2, 1), (3, 1), (4, 1)] [(AV.int .i64 0), (AV.int .i64 0), (AV.int .i64 0), (AV.int .i64 0), (AV.int .i64 0)] [(0, (AV.int .i64 43))]).bind fun t13 =>
  mk Heap.new (bsP 5 [(AV.int .i64 0), (AV.int .i64 0), (AV.int .i64 0), (AV.int .i64 0), (AV.int .i64 0)] 1 [(0, t13)]) h5 fun t14 h17 =>
  cl (appendA h17 5 40 t12 t14) fun t15 h18 =>
  (faP 5 t4).bind fun t16 =>
  cl (stP 1 h18 t16 t15) fun u_19 h20 =>
  k_law11_pair_j0 t2 t3 t4 h20) (
  k_law11_pair_j0 t2 t3 t4 h5)
def T42 : Tab := (46, p1 k_law11_pair) :: T41
/- 48: slices.Clone[gantline/fresh.states,gantline/fresh.State] -/
def k_slices_Clone_fresh_states_fresh_State (x0 : AV) (h : Heap) : Option (AV × Heap) :=
  (eqP (some (.slice 0)) none false .eql x0 (AV.sl none 0 (.ex 0))).bind fun t4 =>
  condE t4 (
  some ((AV.sl none 0 (.ex 0)), h)) (
  mk Heap.new (bsP 3 [(AV.bool false), (AV.bool false), (AV.int .u64 0)] 0 []) h fun t5 h0 =>
  cl (appendA h0 3 16 t5 x0) fun t7 h1 =>
  some (t7, h1))
def T43 : Tab := (48, p1 k_slices_Clone_fresh_states_fresh_State) :: T42
/- 50: gantline/fresh.sent -/
def k_fresh_sent_b0 (t49 : AV) (t50 : AV) (q5 : AV) (q51 : AV) (h44 : Heap) : OutV :=
  (binP .lss q51 t50).bind fun t52 =>
  condE t52 (
  (iaS 4 t49 q51).bind fun t53 =>
  (ldA 4 h44 t53).bind fun t54 =>
  mk Heap.new (some (Blk.cells true [(AV.int .i64 0), (AV.int .i64 0), (AV.int .i64 0), (AV.int .i64 0)], fun i => AV.ptr (some (i, 0)))) h44 fun t7 h47 =>
  cl (stP 4 h47 t7 t54) fun u h48 =>
  (faP 0 t7).bind fun t55 =>
  (ldS h48 t55).bind fun t56 =>
  (eqP (some (.int .i64)) none false .eql t56 (AV.int .i64 1)).bind fun t57 =>
  condE t57 (
  (faP 2 t7).bind fun t59 =>
  (ldS h48 t59).bind fun t60 =>
  mk Heap.new (bsP 1 [(AV.int .i64 0)] 1 [(0, t60)]) h48 fun t61 h57 =>
  cl (appendA h57 1 8 q5 t61) fun t62 h58 =>
  (binP .add q51 (AV.int .i64 1)).bind fun t63_59 =>
  some (.normal, [t62, t63_59], h58)) (
  (binP .add q51 (AV.int .i64 1)).bind fun t63_60 =>
  some (.normal, [q5, t63_60], h48))) (
  some ((.exit 0), [q5, q51], h44))
def k_fresh_sent_L0 (t49 : AV) (t50 : AV) (q5 : AV) (q51 : AV) (h44 : Heap) : OutV := loopN (fun us g => k_fresh_sent_b0 t49 t50 (us.getD 0 .bot) (us.getD 1 .bot) g) [q5, q51] h44
def k_fresh_sent (x0 : AV) (x1 : AV) (h : Heap) : Option (AV × Heap) :=
  mk Heap.new (bxP x0) h fun t2 h0 =>
  mk Heap.new (bxP x1) h0 fun t3 h1 =>
  (faP 0 t3).bind fun t8 =>
  (ldS h1 t8).bind fun t9 =>
  (eqP (some (.int .i64)) none false .neq t9 (AV.int .i64 41)).bind fun t10 =>
  gQ (gdW t10 false) h1 ((faP 1 t3).bind fun t12 =>
  some (t12, h1)) fun t12_2 h3 =>
  gQ (gdW t10 false) h3 ((ldS h3 t12_2).bind fun t13 =>
  some (t13, h3)) fun t13_4 h5 =>
  gQ (gdW t10 false) h5 ((binP .lss t13_4 (AV.int .i64 0)).bind fun t14 =>
  some (t14, h5)) fun t14_6 h7 =>
  (pickP t10 (AV.bool true) t14_6).bind fun t15 =>
  gQ (gdW t15 false) h7 ((faP 2 t3).bind fun t17 =>
  some (t17, h7)) fun t17_8 h9 =>
  gQ (gdW t15 false) h9 ((ldS h9 t17_8).bind fun t18 =>
  some (t18, h9)) fun t18_10 h11 =>
  gQ (gdW t15 false) h11 ((binP .lss t18_10 (AV.int .i64 0)).bind fun t19 =>
  some (t19, h11)) fun t19_12 h13 =>
  (pickP t15 (AV.bool true) t19_12).bind fun t20 =>
  gQ (gdW t20 false) h13 ((faP 1 t3).bind fun t22 =>
  some (t22, h13)) fun t22_14 h15 =>
  gQ (gdW t20 false) h15 ((ldS h15 t22_14).bind fun t23 =>
  some (t23, h15)) fun t23_16 h17 =>
  gQ (gdW t20 false) h17 ((faP 3 t2).bind fun t24 =>
  some (t24, h17)) fun t24_18 h19 =>
  gQ (gdW t20 false) h19 ((ldS h19 t24_18).bind fun t25 =>
  some (t25, h19)) fun t25_20 h21 =>
  gQ (gdW t20 false) h21 ((lnL t25_20).bind fun t26 =>
  some (t26, h21)) fun t26_22 h23 =>
  gQ (gdW t20 false) h23 ((binP .gtr t23_16 t26_22).bind fun t27 =>
  some (t27, h23)) fun t27_24 h25 =>
  (pickP t20 (AV.bool true) t27_24).bind fun t28 =>
  gQ (gdW t28 false) h25 ((faP 2 t3).bind fun t30 =>
  some (t30, h25)) fun t30_26 h27 =>
  gQ (gdW t28 false) h27 ((ldS h27 t30_26).bind fun t31 =>
  some (t31, h27)) fun t31_28 h29 =>
  gQ (gdW t28 false) h29 ((faP 3 t2).bind fun t32 =>
  some (t32, h29)) fun t32_30 h31 =>
  gQ (gdW t28 false) h31 ((ldS h31 t32_30).bind fun t33 =>
  some (t33, h31)) fun t33_32 h33 =>
  gQ (gdW t28 false) h33 ((lnL t33_32).bind fun t34 =>
  some (t34, h33)) fun t34_34 h35 =>
  gQ (gdW t28 false) h35 ((faP 1 t3).bind fun t35 =>
  some (t35, h35)) fun t35_36 h37 =>
  gQ (gdW t28 false) h37 ((ldS h37 t35_36).bind fun t36 =>
  some (t36, h37)) fun t36_38 h39 =>
  gQ (gdW t28 false) h39 ((binP .sub t34_34 t36_38).bind fun t37 =>
  some (t37, h39)) fun t37_40 h41 =>
  gQ (gdW t28 false) h41 ((binP .gtr t31_28 t37_40).bind fun t38 =>
  some (t38, h41)) fun t38_42 h43 =>
  (pickP t28 (AV.bool true) t38_42).bind fun t39 =>
  condE t39 (
  some ((AV.sl none 0 (.ex 0)), h43)) (
  (faP 3 t2).bind fun t40 =>
  (ldS h43 t40).bind fun t41 =>
  (faP 1 t3).bind fun t42 =>
  (ldS h43 t42).bind fun t43 =>
  (faP 1 t3).bind fun t44 =>
  (ldS h43 t44).bind fun t45 =>
  (faP 2 t3).bind fun t46 =>
  (ldS h43 t46).bind fun t47 =>
  (binP .add t45 t47).bind fun t48 =>
  (slcP 4 t41 (some t43) (some t48) none).bind fun t49 =>
  (lnL t49).bind fun t50 =>
  lp (k_fresh_sent_L0 t49 t50 (AV.sl none 0 (.ex 0)) (AV.int .i64 0) h43) fun e vs h61 =>
  thenK (if e = .exit 0 then .normal else e) (
  some ((vs.getD 0 .bot), h61)) (fun e_62 => endE e_62 (some ((AV.sl none 0 (.ex 0)), h61))))
def T44 : Tab := (50, p2 k_fresh_sent) :: T43
/- 49: (gantline/fresh.states).lend -/
def k_fresh_states_lend_b0 (x0 : AV) (x1 : AV) (t7 : AV) (q8 : AV) (h0 : Heap) : OutV :=
  (binP .lss q8 t7).bind fun t9 =>
  condE t9 (
  (iaS 1 x1 q8).bind fun t10 =>
  (ldS h0 t10).bind fun t11 =>
  (binP .geq t11 (AV.int .i64 0)).bind fun t13 =>
  gQ (gdW t13 true) h0 (some (t11, h0)) fun t15 h2 =>
  gQ (gdW t13 true) h2 (some (x0, h2)) fun t16 h3 =>
  gQ (gdW t13 true) h3 ((lnL t16).bind fun t17 =>
  some (t17, h3)) fun t17_4 h5 =>
  gQ (gdW t13 true) h5 ((binP .lss t15 t17_4).bind fun t18 =>
  some (t18, h5)) fun t18_6 h7 =>
  (pickP t13 t18_6 (AV.bool false)).bind fun t19 =>
  condE t19 (
  (iaS 3 x0 t11).bind fun t22 =>
  (faP 1 t22).bind fun t23 =>
  cl (stP 1 h7 t23 (AV.bool false)) fun u h14 =>
  (binP .add q8 (AV.int .i64 1)).bind fun t24_15 =>
  some (.normal, [t24_15], h14)) (
  (binP .add q8 (AV.int .i64 1)).bind fun t24_16 =>
  some (.normal, [t24_16], h7))) (
  some ((.exit 0), [q8], h0))
def k_fresh_states_lend_L0 (x0 : AV) (x1 : AV) (t7 : AV) (q8 : AV) (h0 : Heap) : OutV := loopN (fun us g => k_fresh_states_lend_b0 x0 x1 t7 (us.getD 0 .bot) g) [q8] h0
def k_fresh_states_lend (x0 : AV) (x1 : AV) (h : Heap) : Option (AV × Heap) :=
  (lnL x1).bind fun t7 =>
  lp (k_fresh_states_lend_L0 x0 x1 t7 (AV.int .i64 0) h) fun e vs h17 =>
  endE (if e = .exit 0 then .normal else e) (some (AV.tup [], h17))
def T45 : Tab := (49, p2 k_fresh_states_lend) :: T44
/- 27: gantline/code.Maker -/
def k_code_Maker (x0 : AV) (h : Heap) : Option (AV × Heap) :=
  (eqP (some (.int .i64)) none false .eql x0 (AV.int .i64 25)).bind fun t4 =>
  gQ (gdW t4 false) h (some (x0, h)) fun t6 h0 =>
  gQ (gdW t4 false) h0 ((eqP (some (.int .i64)) none false .eql t6 (AV.int .i64 26)).bind fun t7 =>
  some (t7, h0)) fun t7_1 h2 =>
  (pickP t4 (AV.bool true) t7_1).bind fun t8 =>
  gQ (gdW t8 false) h2 (some (x0, h2)) fun t10 h3 =>
  gQ (gdW t8 false) h3 ((eqP (some (.int .i64)) none false .eql t10 (AV.int .i64 36)).bind fun t11 =>
  some (t11, h3)) fun t11_4 h5 =>
  (pickP t8 (AV.bool true) t11_4).bind fun t12 =>
  gQ (gdW t12 false) h5 (some (x0, h5)) fun t14 h6 =>
  gQ (gdW t12 false) h6 ((eqP (some (.int .i64)) none false .eql t14 (AV.int .i64 37)).bind fun t15 =>
  some (t15, h6)) fun t15_7 h8 =>
  (pickP t12 (AV.bool true) t15_7).bind fun t16 =>
  some (t16, h8)
def T46 : Tab := (27, p1 k_code_Maker) :: T45
/- 28: gantline/code.Point -/
def k_code_Point_j0 (x0 : AV) (q4 : AV) (h0 : Heap) : Option (AV × Heap) :=
  condE q4 (
  some ((AV.bool true), h0)) (
  cl (k_code_Maker x0 h0) fun t14 h1 =>
  some (t14, h1))
def k_code_Point (x0 : AV) (h : Heap) : Option (AV × Heap) :=
  (eqP (some (.int .i64)) none false .eql x0 (AV.int .i64 20)).bind fun t5 =>
  condE t5 (
  k_code_Point_j0 x0 t5 h) (
  (eqP (some (.int .i64)) none false .eql x0 (AV.int .i64 21)).bind fun t6 =>
  condE t6 (
  k_code_Point_j0 x0 t6 h) (
  (eqP (some (.int .i64)) none false .eql x0 (AV.int .i64 23)).bind fun t7 =>
  condE t7 (
  k_code_Point_j0 x0 t7 h) (
  (eqP (some (.int .i64)) none false .eql x0 (AV.int .i64 24)).bind fun t8 =>
  condE t8 (
  k_code_Point_j0 x0 t8 h) (
  (eqP (some (.int .i64)) none false .eql x0 (AV.int .i64 38)).bind fun t9 =>
  condE t9 (
  k_code_Point_j0 x0 t9 h) (
  (eqP (some (.int .i64)) none false .eql x0 (AV.int .i64 39)).bind fun t10 =>
  condE t10 (
  k_code_Point_j0 x0 t10 h) (
  (eqP (some (.int .i64)) none false .eql x0 (AV.int .i64 41)).bind fun t11 =>
  condE t11 (
  k_code_Point_j0 x0 t11 h) (
  (eqP (some (.int .i64)) none false .eql x0 (AV.int .i64 43)).bind fun t12 =>
  k_code_Point_j0 x0 t12 h)))))))
def T47 : Tab := (28, p1 k_code_Point) :: T46
/- 60: (gantline/fresh.states).put -/
def k_fresh_states_put (x0 : AV) (x1 : AV) (x2 : AV) (h : Heap) : Option (AV × Heap) :=
  mk Heap.new (bxP x2) h fun t5 h0 =>
  (binP .geq x1 (AV.int .i64 0)).bind fun t7 =>
  gQ (gdW t7 true) h0 (some (x1, h0)) fun t9 h1 =>
  gQ (gdW t7 true) h1 (some (x0, h1)) fun t10 h2 =>
  gQ (gdW t7 true) h2 ((lnL t10).bind fun t11 =>
  some (t11, h2)) fun t11_3 h4 =>
  gQ (gdW t7 true) h4 ((binP .lss t9 t11_3).bind fun t12 =>
  some (t12, h4)) fun t12_5 h6 =>
  (pickP t7 t12_5 (AV.bool false)).bind fun t13 =>
  condE t13 (
  (ldA 3 h6 t5).bind fun t16 =>
  (iaS 3 x0 x1).bind fun t17 =>
  cl (stP 3 h6 t17 t16) fun u h8 =>
  some (AV.tup [], h8)) (
  some (AV.tup [], h6))
def T48 : Tab := (60, p3 k_fresh_states_put) :: T47
/- 61: (gantline/fresh.states).get -/
def k_fresh_states_get (x0 : AV) (x1 : AV) (h : Heap) : Option (AV × Heap) :=
  mk Heap.new (some (Blk.cells true [(AV.bool false), (AV.bool false), (AV.int .u64 0)], fun i => AV.ptr (some (i, 0)))) h fun t4 h0 =>
  (binP .lss x1 (AV.int .i64 0)).bind fun t6 =>
  gQ (gdW t6 false) h0 (some (x1, h0)) fun t8 h1 =>
  gQ (gdW t6 false) h1 (some (x0, h1)) fun t9 h2 =>
  gQ (gdW t6 false) h2 ((lnL t9).bind fun t10 =>
  some (t10, h2)) fun t10_3 h4 =>
  gQ (gdW t6 false) h4 ((binP .geq t8 t10_3).bind fun t11 =>
  some (t11, h4)) fun t11_5 h6 =>
  (pickP t6 (AV.bool true) t11_5).bind fun t12 =>
  condE t12 (
  (bldS [(0, 1), (1, 1), (2, 1)] [(AV.bool false), (AV.bool false), (AV.int .u64 0)] []).bind fun t13 =>
  cl (stP 3 h6 t4 t13) fun u h7 =>
  (ldA 3 h7 t4).bind fun t =>
  some (t, h7)) (
  (iaS 3 x0 x1).bind fun t16 =>
  (ldA 3 h6 t16).bind fun t17 =>
  cl (stP 3 h6 t4 t17) fun u_8 h9 =>
  (ldA 3 h9 t4).bind fun t_10 =>
  some (t_10, h9))
def T49 : Tab := (61, p2 k_fresh_states_get) :: T48
/- 63: gantline/fresh.bit -/
def k_fresh_bit (x0 : AV) (h : Heap) : Option (AV × Heap) :=
  (binP .lss x0 (AV.int .i64 0)).bind fun t4 =>
  gQ (gdW t4 false) h (some (x0, h)) fun t6 h0 =>
  gQ (gdW t4 false) h0 ((binP .geq t6 (AV.int .i64 64)).bind fun t7 =>
  some (t7, h0)) fun t7_1 h2 =>
  (pickP t4 (AV.bool true) t7_1).bind fun t8 =>
  condE t8 (
  some ((AV.int .u64 0), h2)) (
  (cvI .u64 x0).bind fun t10 =>
  (binP .shl (AV.int .u64 1) t10).bind fun t11 =>
  some (t11, h2))
def T50 : Tab := (63, p1 k_fresh_bit) :: T49
/- 62: (gantline/fresh.states).written -/
def k_fresh_states_written (x0 : AV) (x1 : AV) (x2 : AV) (h : Heap) : Option (AV × Heap) :=
  (binP .geq x1 (AV.int .i64 0)).bind fun t7 =>
  gQ (gdW t7 true) h (some (x1, h)) fun t9 h0 =>
  gQ (gdW t7 true) h0 (some (x0, h0)) fun t10 h1 =>
  gQ (gdW t7 true) h1 ((lnL t10).bind fun t11 =>
  some (t11, h1)) fun t11_2 h3 =>
  gQ (gdW t7 true) h3 ((binP .lss t9 t11_2).bind fun t12 =>
  some (t12, h3)) fun t12_4 h5 =>
  (pickP t7 t12_4 (AV.bool false)).bind fun t13 =>
  condE t13 (
  (iaS 3 x0 x1).bind fun t16 =>
  (faP 2 t16).bind fun t17 =>
  (ldS h5 t17).bind fun t18 =>
  (binP .or t18 x2).bind fun t20 =>
  (iaS 3 x0 x1).bind fun t21 =>
  (faP 2 t21).bind fun t22 =>
  cl (stP 1 h5 t22 t20) fun u h7 =>
  some (AV.tup [], h7)) (
  some (AV.tup [], h5))
def T51 : Tab := (62, p3 k_fresh_states_written) :: T50
/- 64: gantline/fresh.lends -/
def k_fresh_lends (x0 : AV) (h : Heap) : Option (AV × Heap) :=
  (eqP (some (.int .i64)) none false .eql x0 (AV.int .i64 35)).bind fun t5 =>
  condE t5 (
  condE t5 (
  some ((AV.bool true), h)) (
  some ((AV.bool false), h))) (
  (eqP (some (.int .i64)) none false .eql x0 (AV.int .i64 20)).bind fun t6 =>
  condE t6 (
  condE t6 (
  some ((AV.bool true), h)) (
  some ((AV.bool false), h))) (
  (eqP (some (.int .i64)) none false .eql x0 (AV.int .i64 21)).bind fun t7 =>
  condE t7 (
  condE t7 (
  some ((AV.bool true), h)) (
  some ((AV.bool false), h))) (
  (eqP (some (.int .i64)) none false .eql x0 (AV.int .i64 23)).bind fun t8 =>
  condE t8 (
  condE t8 (
  some ((AV.bool true), h)) (
  some ((AV.bool false), h))) (
  (eqP (some (.int .i64)) none false .eql x0 (AV.int .i64 24)).bind fun t9 =>
  condE t9 (
  condE t9 (
  some ((AV.bool true), h)) (
  some ((AV.bool false), h))) (
  (eqP (some (.int .i64)) none false .eql x0 (AV.int .i64 22)).bind fun t10 =>
  condE t10 (
  some ((AV.bool true), h)) (
  some ((AV.bool false), h)))))))
def T52 : Tab := (64, p1 k_fresh_lends) :: T51
/- 65: gantline/fresh.receives -/
def k_fresh_receives_b0 (t49 : AV) (t50 : AV) (q5 : AV) (q51 : AV) (h44 : Heap) : OutV :=
  (binP .lss q51 t50).bind fun t52 =>
  condE t52 (
  (iaS 4 t49 q51).bind fun t53 =>
  (ldA 4 h44 t53).bind fun t54 =>
  mk Heap.new (some (Blk.cells true [(AV.int .i64 0), (AV.int .i64 0), (AV.int .i64 0), (AV.int .i64 0)], fun i => AV.ptr (some (i, 0)))) h44 fun t7 h47 =>
  cl (stP 4 h47 t7 t54) fun u h48 =>
  (faP 0 t7).bind fun t55 =>
  (ldS h48 t55).bind fun t56 =>
  (eqP (some (.int .i64)) none false .eql t56 (AV.int .i64 0)).bind fun t57 =>
  condE t57 (
  (faP 2 t7).bind fun t59 =>
  (ldS h48 t59).bind fun t60 =>
  mk Heap.new (bsP 1 [(AV.int .i64 0)] 1 [(0, t60)]) h48 fun t61 h57 =>
  cl (appendA h57 1 8 q5 t61) fun t62 h58 =>
  (binP .add q51 (AV.int .i64 1)).bind fun t63_59 =>
  some (.normal, [t62, t63_59], h58)) (
  (binP .add q51 (AV.int .i64 1)).bind fun t63_60 =>
  some (.normal, [q5, t63_60], h48))) (
  some ((.exit 0), [q5, q51], h44))
def k_fresh_receives_L0 (t49 : AV) (t50 : AV) (q5 : AV) (q51 : AV) (h44 : Heap) : OutV := loopN (fun us g => k_fresh_receives_b0 t49 t50 (us.getD 0 .bot) (us.getD 1 .bot) g) [q5, q51] h44
def k_fresh_receives (x0 : AV) (x1 : AV) (h : Heap) : Option (AV × Heap) :=
  mk Heap.new (bxP x0) h fun t2 h0 =>
  mk Heap.new (bxP x1) h0 fun t3 h1 =>
  (faP 0 t3).bind fun t8 =>
  (ldS h1 t8).bind fun t9 =>
  (eqP (some (.int .i64)) none false .neq t9 (AV.int .i64 41)).bind fun t10 =>
  gQ (gdW t10 false) h1 ((faP 1 t3).bind fun t12 =>
  some (t12, h1)) fun t12_2 h3 =>
  gQ (gdW t10 false) h3 ((ldS h3 t12_2).bind fun t13 =>
  some (t13, h3)) fun t13_4 h5 =>
  gQ (gdW t10 false) h5 ((binP .lss t13_4 (AV.int .i64 0)).bind fun t14 =>
  some (t14, h5)) fun t14_6 h7 =>
  (pickP t10 (AV.bool true) t14_6).bind fun t15 =>
  gQ (gdW t15 false) h7 ((faP 2 t3).bind fun t17 =>
  some (t17, h7)) fun t17_8 h9 =>
  gQ (gdW t15 false) h9 ((ldS h9 t17_8).bind fun t18 =>
  some (t18, h9)) fun t18_10 h11 =>
  gQ (gdW t15 false) h11 ((binP .lss t18_10 (AV.int .i64 0)).bind fun t19 =>
  some (t19, h11)) fun t19_12 h13 =>
  (pickP t15 (AV.bool true) t19_12).bind fun t20 =>
  gQ (gdW t20 false) h13 ((faP 1 t3).bind fun t22 =>
  some (t22, h13)) fun t22_14 h15 =>
  gQ (gdW t20 false) h15 ((ldS h15 t22_14).bind fun t23 =>
  some (t23, h15)) fun t23_16 h17 =>
  gQ (gdW t20 false) h17 ((faP 3 t2).bind fun t24 =>
  some (t24, h17)) fun t24_18 h19 =>
  gQ (gdW t20 false) h19 ((ldS h19 t24_18).bind fun t25 =>
  some (t25, h19)) fun t25_20 h21 =>
  gQ (gdW t20 false) h21 ((lnL t25_20).bind fun t26 =>
  some (t26, h21)) fun t26_22 h23 =>
  gQ (gdW t20 false) h23 ((binP .gtr t23_16 t26_22).bind fun t27 =>
  some (t27, h23)) fun t27_24 h25 =>
  (pickP t20 (AV.bool true) t27_24).bind fun t28 =>
  gQ (gdW t28 false) h25 ((faP 2 t3).bind fun t30 =>
  some (t30, h25)) fun t30_26 h27 =>
  gQ (gdW t28 false) h27 ((ldS h27 t30_26).bind fun t31 =>
  some (t31, h27)) fun t31_28 h29 =>
  gQ (gdW t28 false) h29 ((faP 3 t2).bind fun t32 =>
  some (t32, h29)) fun t32_30 h31 =>
  gQ (gdW t28 false) h31 ((ldS h31 t32_30).bind fun t33 =>
  some (t33, h31)) fun t33_32 h33 =>
  gQ (gdW t28 false) h33 ((lnL t33_32).bind fun t34 =>
  some (t34, h33)) fun t34_34 h35 =>
  gQ (gdW t28 false) h35 ((faP 1 t3).bind fun t35 =>
  some (t35, h35)) fun t35_36 h37 =>
  gQ (gdW t28 false) h37 ((ldS h37 t35_36).bind fun t36 =>
  some (t36, h37)) fun t36_38 h39 =>
  gQ (gdW t28 false) h39 ((binP .sub t34_34 t36_38).bind fun t37 =>
  some (t37, h39)) fun t37_40 h41 =>
  gQ (gdW t28 false) h41 ((binP .gtr t31_28 t37_40).bind fun t38 =>
  some (t38, h41)) fun t38_42 h43 =>
  (pickP t28 (AV.bool true) t38_42).bind fun t39 =>
  condE t39 (
  some ((AV.sl none 0 (.ex 0)), h43)) (
  (faP 3 t2).bind fun t40 =>
  (ldS h43 t40).bind fun t41 =>
  (faP 1 t3).bind fun t42 =>
  (ldS h43 t42).bind fun t43 =>
  (faP 1 t3).bind fun t44 =>
  (ldS h43 t44).bind fun t45 =>
  (faP 2 t3).bind fun t46 =>
  (ldS h43 t46).bind fun t47 =>
  (binP .add t45 t47).bind fun t48 =>
  (slcP 4 t41 (some t43) (some t48) none).bind fun t49 =>
  (lnL t49).bind fun t50 =>
  lp (k_fresh_receives_L0 t49 t50 (AV.sl none 0 (.ex 0)) (AV.int .i64 0) h43) fun e vs h61 =>
  thenK (if e = .exit 0 then .normal else e) (
  some ((vs.getD 0 .bot), h61)) (fun e_62 => endE e_62 (some ((AV.sl none 0 (.ex 0)), h61))))
def T53 : Tab := (65, p2 k_fresh_receives) :: T52
/- 51: gantline/fresh.behind -/
def k_fresh_behind_j0 (t4 : AV) (t15 : AV) (t30 : AV) (h123 : Heap) : Option (AV × Heap) :=
  (faP 1 t4).bind fun t81 =>
  (ldS h123 t81).bind fun t82 =>
  (eqP (some (.int .i64)) none false .neq t30 (AV.int .i64 36)).bind fun t84 =>
  (bldS [(0, 1), (1, 1), (2, 1)] [(AV.bool false), (AV.bool false), (AV.int .u64 0)] [(0, (AV.bool true)), (1, t84)]).bind fun t85 =>
  cl (k_fresh_states_put t15 t82 t85 h123) fun t86 h124 =>
  some (t15, h124)
def k_fresh_behind_b0 (t15 : AV) (t46 : AV) (t47 : AV) (q48_373 : AV) (h374 : Heap) : OutV :=
  (binP .lss q48_373 t47).bind fun t49 =>
  condE t49 (
  (iaS 1 t46 q48_373).bind fun t50 =>
  (ldS h374 t50).bind fun t51 =>
  (bldS [(0, 1), (1, 1), (2, 1)] [(AV.bool false), (AV.bool false), (AV.int .u64 0)] []).bind fun t54 =>
  cl (k_fresh_states_put t15 t51 t54 h374) fun t55 h375 =>
  (binP .add q48_373 (AV.int .i64 1)).bind fun t56 =>
  some (.normal, [t56], h375)) (
  some ((.exit 3), [q48_373], h374))
def k_fresh_behind_L0 (t15 : AV) (t46 : AV) (t47 : AV) (q48_373 : AV) (h374 : Heap) : OutV := loopN (fun us g => k_fresh_behind_b0 t15 t46 t47 (us.getD 0 .bot) g) [q48_373] h374
def k_fresh_behind_b1 (t15 : AV) (t59 : AV) (t60 : AV) (q61_378 : AV) (h379 : Heap) : OutV :=
  (binP .lss q61_378 t60).bind fun t62 =>
  condE t62 (
  (iaS 1 t59 q61_378).bind fun t63 =>
  (ldS h379 t63).bind fun t64 =>
  (bldS [(0, 1), (1, 1), (2, 1)] [(AV.bool false), (AV.bool false), (AV.int .u64 0)] []).bind fun t67 =>
  cl (k_fresh_states_put t15 t64 t67 h379) fun t68 h380 =>
  (binP .add q61_378 (AV.int .i64 1)).bind fun t69 =>
  some (.normal, [t69], h380)) (
  some ((.exit 5), [q61_378], h379))
def k_fresh_behind_L1 (t15 : AV) (t59 : AV) (t60 : AV) (q61_378 : AV) (h379 : Heap) : OutV := loopN (fun us g => k_fresh_behind_b1 t15 t59 t60 (us.getD 0 .bot) g) [q61_378] h379
def k_fresh_behind_j1 (t3 : AV) (t4 : AV) (t15 : AV) (h371 : Heap) : Option (AV × Heap) :=
  (ldA 5 h371 t4).bind fun t45 =>
  cl (k_live_Writes t45 h371) fun t46 h372 =>
  (lnL t46).bind fun t47 =>
  lp (k_fresh_behind_L0 t15 t46 t47 (AV.int .i64 0) h372) fun e vs h376 =>
  thenK (if e = .exit 3 then .normal else e) (
  (ldA 6 h376 t3).bind fun t57 =>
  (ldA 5 h376 t4).bind fun t58 =>
  cl (k_fresh_receives t57 t58 h376) fun t59 h377 =>
  (lnL t59).bind fun t60 =>
  lp (k_fresh_behind_L1 t15 t59 t60 (AV.int .i64 0) h377) fun e_381 vs_382 h383 =>
  thenK (if (if e_381 = .exit 5 then .normal else e_381) = .exit 2 then .normal else (if e_381 = .exit 5 then .normal else e_381)) (
  some (t15, h383)) (fun e_384 => endE e_384 (some ((AV.sl none 0 (.ex 0)), h383)))) (fun e_385 => thenK (if e_385 = .exit 2 then .normal else e_385) (
  some (t15, h376)) (fun e_386 => endE e_386 (some ((AV.sl none 0 (.ex 0)), h376))))
def k_fresh_behind_j2 (t3 : AV) (t4 : AV) (t15 : AV) (t30 : AV) (h365 : Heap) : Option (AV × Heap) :=
  (eqP (some (.int .i64)) none false .eql t30 (AV.int .i64 38)).bind fun t39 =>
  condE t39 (
  (faP 2 t4).bind fun t41 =>
  (ldS h365 t41).bind fun t42 =>
  mk Heap.new (bsP 1 [(AV.int .i64 0)] 1 [(0, t42)]) h365 fun t43 h387 =>
  cl (k_fresh_states_lend t15 t43 h387) fun t44 h388 =>
  k_fresh_behind_j1 t3 t4 t15 h388) (
  k_fresh_behind_j1 t3 t4 t15 h365)
def k_fresh_behind_j3 (t3 : AV) (t4 : AV) (t15 : AV) (h4 : Heap) : Option (AV × Heap) :=
  (faP 0 t4).bind fun t29 =>
  (ldS h4 t29).bind fun t30 =>
  cl (k_code_Maker t30 h4) fun t72 h6 =>
  condE t72 (
  (eqP (some (.int .i64)) none false .eql t30 (AV.int .i64 36)).bind fun t74 =>
  condE t74 (
  (ldA 6 h6 t3).bind fun t76 =>
  (ldA 5 h6 t4).bind fun t77 =>
  cl (k_live_Reads t76 t77 h6) fun t78 h125 =>
  cl (k_fresh_states_lend t15 t78 h125) fun t79 h126 =>
  k_fresh_behind_j0 t4 t15 t30 h126) (
  k_fresh_behind_j0 t4 t15 t30 h6)) (
  (eqP (some (.int .i64)) none false .eql t30 (AV.int .i64 1)).bind fun t89 =>
  condE t89 (
  (faP 2 t4).bind fun t91 =>
  (ldS h6 t91).bind fun t92 =>
  cl (k_fresh_states_get t15 t92 h6) fun t93 h221 =>
  (fvS 0 t93).bind fun t94 =>
  (faP 2 t4).bind fun t96 =>
  (ldS h221 t96).bind fun t97 =>
  mk Heap.new (bsP 1 [(AV.int .i64 0)] 1 [(0, t97)]) h221 fun t98 h222 =>
  cl (k_fresh_states_lend t15 t98 h222) fun t99 h223 =>
  (faP 1 t4).bind fun t101 =>
  (ldS h223 t101).bind fun t102 =>
  (bldS [(0, 1), (1, 1), (2, 1)] [(AV.bool false), (AV.bool false), (AV.int .u64 0)] [(0, t94)]).bind fun t104 =>
  cl (k_fresh_states_put t15 t102 t104 h223) fun t105 h224 =>
  some (t15, h224)) (
  (eqP (some (.int .i64)) none false .eql t30 (AV.int .i64 28)).bind fun t108 =>
  gQ (gdW t108 false) h6 (some (t30, h6)) fun t110 h225 =>
  gQ (gdW t108 false) h225 ((eqP (some (.int .i64)) none false .eql t110 (AV.int .i64 29)).bind fun t111 =>
  some (t111, h225)) fun t111_226 h227 =>
  (pickP t108 (AV.bool true) t111_226).bind fun t112 =>
  condE t112 (
  (faP 1 t4).bind fun t114 =>
  clC (rdC (fun g => ldS g t114) h227 0 1 []) fun t115 cs =>
  (faP 2 t4).bind fun t116 =>
  (ldS h227 t116).bind fun t117 =>
  cl (k_fresh_bit t117 h227) fun t118 h298 =>
  cl (k_fresh_states_written t15 t115 t118 h298) fun t119 h299 =>
  chk [h227, h298, h299] cs (
  (faP 3 t4).bind fun t121 =>
  (ldS h299 t121).bind fun t122 =>
  mk Heap.new (bsP 1 [(AV.int .i64 0)] 1 [(0, t122)]) h299 fun t123 h300 =>
  cl (k_fresh_states_lend t15 t123 h300) fun t124 h301 =>
  some (t15, h301))) (
  (eqP (some (.int .i64)) none false .eql t30 (AV.int .i64 31)).bind fun t127 =>
  gQ (gdW t127 false) h227 (some (t30, h227)) fun t129 h302 =>
  gQ (gdW t127 false) h302 ((eqP (some (.int .i64)) none false .eql t129 (AV.int .i64 32)).bind fun t130 =>
  some (t130, h302)) fun t130_303 h304 =>
  (pickP t127 (AV.bool true) t130_303).bind fun t131 =>
  condE t131 (
  (faP 1 t4).bind fun t133 =>
  (ldS h304 t133).bind fun t134 =>
  cl (k_fresh_states_written t15 t134 (AV.int .u64 18446744073709551615) h304) fun t135 h356 =>
  (faP 3 t4).bind fun t137 =>
  (ldS h356 t137).bind fun t138 =>
  mk Heap.new (bsP 1 [(AV.int .i64 0)] 1 [(0, t138)]) h356 fun t139 h357 =>
  cl (k_fresh_states_lend t15 t139 h357) fun t140 h358 =>
  some (t15, h358)) (
  cl (k_fresh_lends t30 h304) fun t32 h359 =>
  condE t32 (
  (ldA 6 h359 t3).bind fun t34 =>
  (ldA 5 h359 t4).bind fun t35 =>
  cl (k_live_Reads t34 t35 h359) fun t36 h389 =>
  cl (k_fresh_states_lend t15 t36 h389) fun t37 h390 =>
  k_fresh_behind_j2 t3 t4 t15 t30 h390) (
  k_fresh_behind_j2 t3 t4 t15 t30 h359)))))
def k_fresh_behind_b2 (t15 : AV) (t20 : AV) (q21_391 : AV) (h392 : Heap) : OutV :=
  (binP .lss q21_391 t20).bind fun t22 =>
  condE t22 (
  (iaS 3 t15 q21_391).bind fun t26 =>
  (faP 0 t26).bind fun t27 =>
  cl (stP 1 h392 t27 (AV.bool false)) fun u h393 =>
  (binP .add q21_391 (AV.int .i64 1)).bind fun t28 =>
  some (.normal, [t28], h393)) (
  some ((.exit 0), [q21_391], h392))
def k_fresh_behind_L2 (t15 : AV) (t20 : AV) (q21_391 : AV) (h392 : Heap) : OutV := loopN (fun us g => k_fresh_behind_b2 t15 t20 (us.getD 0 .bot) g) [q21_391] h392
def k_fresh_behind_j4 (t4 : AV) (t15 : AV) (t30_398 : AV) (h632 : Heap) : Option (AV × Heap) :=
  (faP 1 t4).bind fun t81_633 =>
  (ldS h632 t81_633).bind fun t82_634 =>
  (eqP (some (.int .i64)) none false .neq t30_398 (AV.int .i64 36)).bind fun t84_635 =>
  (bldS [(0, 1), (1, 1), (2, 1)] [(AV.bool false), (AV.bool false), (AV.int .u64 0)] [(0, (AV.bool true)), (1, t84_635)]).bind fun t85_636 =>
  cl (k_fresh_states_put t15 t82_634 t85_636 h632) fun t86_637 h638 =>
  some (t15, h638)
def k_fresh_behind_b3 (t15 : AV) (t46_932 : AV) (t47_934 : AV) (q48_935 : AV) (h936 : Heap) : OutV :=
  (binP .lss q48_935 t47_934).bind fun t49_937 =>
  condE t49_937 (
  (iaS 1 t46_932 q48_935).bind fun t50_938 =>
  (ldS h936 t50_938).bind fun t51_939 =>
  (bldS [(0, 1), (1, 1), (2, 1)] [(AV.bool false), (AV.bool false), (AV.int .u64 0)] []).bind fun t54_940 =>
  cl (k_fresh_states_put t15 t51_939 t54_940 h936) fun t55_941 h942 =>
  (binP .add q48_935 (AV.int .i64 1)).bind fun t56_943 =>
  some (.normal, [t56_943], h942)) (
  some ((.exit 3), [q48_935], h936))
def k_fresh_behind_L3 (t15 : AV) (t46_932 : AV) (t47_934 : AV) (q48_935 : AV) (h936 : Heap) : OutV := loopN (fun us g => k_fresh_behind_b3 t15 t46_932 t47_934 (us.getD 0 .bot) g) [q48_935] h936
def k_fresh_behind_b4 (t15 : AV) (t59_949 : AV) (t60_951 : AV) (q61_952 : AV) (h953 : Heap) : OutV :=
  (binP .lss q61_952 t60_951).bind fun t62_954 =>
  condE t62_954 (
  (iaS 1 t59_949 q61_952).bind fun t63_955 =>
  (ldS h953 t63_955).bind fun t64_956 =>
  (bldS [(0, 1), (1, 1), (2, 1)] [(AV.bool false), (AV.bool false), (AV.int .u64 0)] []).bind fun t67_957 =>
  cl (k_fresh_states_put t15 t64_956 t67_957 h953) fun t68_958 h959 =>
  (binP .add q61_952 (AV.int .i64 1)).bind fun t69_960 =>
  some (.normal, [t69_960], h959)) (
  some ((.exit 5), [q61_952], h953))
def k_fresh_behind_L4 (t15 : AV) (t59_949 : AV) (t60_951 : AV) (q61_952 : AV) (h953 : Heap) : OutV := loopN (fun us g => k_fresh_behind_b4 t15 t59_949 t60_951 (us.getD 0 .bot) g) [q61_952] h953
def k_fresh_behind_j5 (t3 : AV) (t4 : AV) (t15 : AV) (h930 : Heap) : Option (AV × Heap) :=
  (ldA 5 h930 t4).bind fun t45_931 =>
  cl (k_live_Writes t45_931 h930) fun t46_932 h933 =>
  (lnL t46_932).bind fun t47_934 =>
  lp (k_fresh_behind_L3 t15 t46_932 t47_934 (AV.int .i64 0) h933) fun e_944 vs_945 h946 =>
  thenK (if e_944 = .exit 3 then .normal else e_944) (
  (ldA 6 h946 t3).bind fun t57_947 =>
  (ldA 5 h946 t4).bind fun t58_948 =>
  cl (k_fresh_receives t57_947 t58_948 h946) fun t59_949 h950 =>
  (lnL t59_949).bind fun t60_951 =>
  lp (k_fresh_behind_L4 t15 t59_949 t60_951 (AV.int .i64 0) h950) fun e_961 vs_962 h963 =>
  thenK (if (if e_961 = .exit 5 then .normal else e_961) = .exit 2 then .normal else (if e_961 = .exit 5 then .normal else e_961)) (
  some (t15, h963)) (fun e_964 => endE e_964 (some ((AV.sl none 0 (.ex 0)), h963)))) (fun e_965 => thenK (if e_965 = .exit 2 then .normal else e_965) (
  some (t15, h946)) (fun e_966 => endE e_966 (some ((AV.sl none 0 (.ex 0)), h946))))
def k_fresh_behind_j6 (t3 : AV) (t4 : AV) (t15 : AV) (t30_398 : AV) (h923 : Heap) : Option (AV × Heap) :=
  (eqP (some (.int .i64)) none false .eql t30_398 (AV.int .i64 38)).bind fun t39_924 =>
  condE t39_924 (
  (faP 2 t4).bind fun t41_967 =>
  (ldS h923 t41_967).bind fun t42_968 =>
  mk Heap.new (bsP 1 [(AV.int .i64 0)] 1 [(0, t42_968)]) h923 fun t43_969 h970 =>
  cl (k_fresh_states_lend t15 t43_969 h970) fun t44_971 h972 =>
  k_fresh_behind_j5 t3 t4 t15 h972) (
  k_fresh_behind_j5 t3 t4 t15 h923)
def k_fresh_behind (x0 : AV) (x1 : AV) (x2 : AV) (h : Heap) : Option (AV × Heap) :=
  mk Heap.new (bxP x0) h fun t3 h0 =>
  mk Heap.new (bxP x1) h0 fun t4 h1 =>
  cl (k_slices_Clone_fresh_states_fresh_State x2 h1) fun t15 h2 =>
  (faP 0 t4).bind fun t16 =>
  (ldS h2 t16).bind fun t17 =>
  cl (k_code_Point t17 h2) fun t18 h3 =>
  condE t18 (
  (lnL t15).bind fun t20 =>
  lp (k_fresh_behind_L2 t15 t20 (AV.int .i64 0) h3) fun e_394 vs_395 h396 =>
  thenK (if e_394 = .exit 0 then .normal else e_394) (
  (faP 0 t4).bind fun t29_397 =>
  (ldS h396 t29_397).bind fun t30_398 =>
  cl (k_code_Maker t30_398 h396) fun t72_513 h514 =>
  condE t72_513 (
  (eqP (some (.int .i64)) none false .eql t30_398 (AV.int .i64 36)).bind fun t74_626 =>
  condE t74_626 (
  (ldA 6 h514 t3).bind fun t76_639 =>
  (ldA 5 h514 t4).bind fun t77_640 =>
  cl (k_live_Reads t76_639 t77_640 h514) fun t78_641 h642 =>
  cl (k_fresh_states_lend t15 t78_641 h642) fun t79_643 h644 =>
  k_fresh_behind_j4 t4 t15 t30_398 h644) (
  k_fresh_behind_j4 t4 t15 t30_398 h514)) (
  (eqP (some (.int .i64)) none false .eql t30_398 (AV.int .i64 1)).bind fun t89_645 =>
  condE t89_645 (
  (faP 2 t4).bind fun t91_740 =>
  (ldS h514 t91_740).bind fun t92_741 =>
  cl (k_fresh_states_get t15 t92_741 h514) fun t93_742 h743 =>
  (fvS 0 t93_742).bind fun t94_744 =>
  (faP 2 t4).bind fun t96_745 =>
  (ldS h743 t96_745).bind fun t97_746 =>
  mk Heap.new (bsP 1 [(AV.int .i64 0)] 1 [(0, t97_746)]) h743 fun t98_747 h748 =>
  cl (k_fresh_states_lend t15 t98_747 h748) fun t99_749 h750 =>
  (faP 1 t4).bind fun t101_751 =>
  (ldS h750 t101_751).bind fun t102_752 =>
  (bldS [(0, 1), (1, 1), (2, 1)] [(AV.bool false), (AV.bool false), (AV.int .u64 0)] [(0, t94_744)]).bind fun t104_753 =>
  cl (k_fresh_states_put t15 t102_752 t104_753 h750) fun t105_754 h755 =>
  some (t15, h755)) (
  (eqP (some (.int .i64)) none false .eql t30_398 (AV.int .i64 28)).bind fun t108_756 =>
  gQ (gdW t108_756 false) h514 (some (t30_398, h514)) fun t110_757 h758 =>
  gQ (gdW t108_756 false) h758 ((eqP (some (.int .i64)) none false .eql t110_757 (AV.int .i64 29)).bind fun t111_759 =>
  some (t111_759, h758)) fun t111_760 h761 =>
  (pickP t108_756 (AV.bool true) t111_760).bind fun t112_762 =>
  condE t112_762 (
  (faP 1 t4).bind fun t114_833 =>
  clC (rdC (fun g => ldS g t114_833) h761 0 1 []) fun t115_834 cs_835 =>
  (faP 2 t4).bind fun t116_836 =>
  (ldS h761 t116_836).bind fun t117_837 =>
  cl (k_fresh_bit t117_837 h761) fun t118_838 h839 =>
  cl (k_fresh_states_written t15 t115_834 t118_838 h839) fun t119_840 h841 =>
  chk [h761, h839, h841] cs_835 (
  (faP 3 t4).bind fun t121_842 =>
  (ldS h841 t121_842).bind fun t122_843 =>
  mk Heap.new (bsP 1 [(AV.int .i64 0)] 1 [(0, t122_843)]) h841 fun t123_844 h845 =>
  cl (k_fresh_states_lend t15 t123_844 h845) fun t124_846 h847 =>
  some (t15, h847))) (
  (eqP (some (.int .i64)) none false .eql t30_398 (AV.int .i64 31)).bind fun t127_848 =>
  gQ (gdW t127_848 false) h761 (some (t30_398, h761)) fun t129_849 h850 =>
  gQ (gdW t127_848 false) h850 ((eqP (some (.int .i64)) none false .eql t129_849 (AV.int .i64 32)).bind fun t130_851 =>
  some (t130_851, h850)) fun t130_852 h853 =>
  (pickP t127_848 (AV.bool true) t130_852).bind fun t131_854 =>
  condE t131_854 (
  (faP 1 t4).bind fun t133_906 =>
  (ldS h853 t133_906).bind fun t134_907 =>
  cl (k_fresh_states_written t15 t134_907 (AV.int .u64 18446744073709551615) h853) fun t135_908 h909 =>
  (faP 3 t4).bind fun t137_910 =>
  (ldS h909 t137_910).bind fun t138_911 =>
  mk Heap.new (bsP 1 [(AV.int .i64 0)] 1 [(0, t138_911)]) h909 fun t139_912 h913 =>
  cl (k_fresh_states_lend t15 t139_912 h913) fun t140_914 h915 =>
  some (t15, h915)) (
  cl (k_fresh_lends t30_398 h853) fun t32_916 h917 =>
  condE t32_916 (
  (ldA 6 h917 t3).bind fun t34_973 =>
  (ldA 5 h917 t4).bind fun t35_974 =>
  cl (k_live_Reads t34_973 t35_974 h917) fun t36_975 h976 =>
  cl (k_fresh_states_lend t15 t36_975 h976) fun t37_977 h978 =>
  k_fresh_behind_j6 t3 t4 t15 t30_398 h978) (
  k_fresh_behind_j6 t3 t4 t15 t30_398 h917)))))) (fun e_979 => endE e_979 (some ((AV.sl none 0 (.ex 0)), h396)))) (
  k_fresh_behind_j3 t3 t4 t15 h3)
def T54 : Tab := (51, p3 k_fresh_behind) :: T53
/- 52: gantline/fresh.meet -/
def k_fresh_meet_b0 (x0 : AV) (x1 : AV) (t8 : AV) (t10 : AV) (q11 : AV) (h1 : Heap) : OutV :=
  (binP .lss q11 t10).bind fun t12 =>
  condE t12 (
  (iaS 3 x0 q11).bind fun t18 =>
  (faP 0 t18).bind fun t19 =>
  (ldS h1 t19).bind fun t20 =>
  (gV (gdW t20 true) (some x1) (.tup [])).bind fun t22 =>
  (gV (gdW t20 true) (some q11) (.tup [])).bind fun t23 =>
  (gV (gdW t20 true) (iaS 3 t22 t23) (.tup [])).bind fun t24 =>
  (gV (gdW t20 true) (faP 0 t24) (.tup [])).bind fun t25 =>
  (gV (gdW t20 true) (ldS h1 t25) (.tup [])).bind fun t26 =>
  (pickP t20 t26 (AV.bool false)).bind fun t27 =>
  (iaS 3 x0 q11).bind fun t30 =>
  (faP 1 t30).bind fun t31 =>
  (ldS h1 t31).bind fun t32 =>
  (gV (gdW t32 true) (some x1) (.tup [])).bind fun t34 =>
  (gV (gdW t32 true) (some q11) (.tup [])).bind fun t35 =>
  (gV (gdW t32 true) (iaS 3 t34 t35) (.tup [])).bind fun t36 =>
  (gV (gdW t32 true) (faP 1 t36) (.tup [])).bind fun t37 =>
  (gV (gdW t32 true) (ldS h1 t37) (.tup [])).bind fun t38 =>
  (pickP t32 t38 (AV.bool false)).bind fun t39 =>
  (iaS 3 x0 q11).bind fun t42 =>
  (faP 2 t42).bind fun t43 =>
  (ldS h1 t43).bind fun t44 =>
  (iaS 3 x1 q11).bind fun t47 =>
  (faP 2 t47).bind fun t48 =>
  (ldS h1 t48).bind fun t49 =>
  (binP .or t44 t49).bind fun t50 =>
  (bldS [(0, 1), (1, 1), (2, 1)] [(AV.bool false), (AV.bool false), (AV.int .u64 0)] [(0, t27), (1, t39), (2, t50)]).bind fun t51 =>
  (iaS 3 t8 q11).bind fun t52 =>
  cl (stP 3 h1 t52 t51) fun u h2 =>
  chk [h1, h2] [] (
  (binP .add q11 (AV.int .i64 1)).bind fun t53 =>
  some (.normal, [t53], h2))) (
  some ((.exit 0), [q11], h1))
def k_fresh_meet_L0 (x0 : AV) (x1 : AV) (t8 : AV) (t10 : AV) (q11 : AV) (h1 : Heap) : OutV := loopN (fun us g => k_fresh_meet_b0 x0 x1 t8 t10 (us.getD 0 .bot) g) [q11] h1
def k_fresh_meet (x0 : AV) (x1 : AV) (h : Heap) : Option (AV × Heap) :=
  cl (k_slices_Clone_fresh_states_fresh_State x0 h) fun t8 h0 =>
  (lnL t8).bind fun t10 =>
  lp (k_fresh_meet_L0 x0 x1 t8 t10 (AV.int .i64 0) h0) fun e vs h3 =>
  thenK (if e = .exit 0 then .normal else e) (
  some (t8, h3)) (fun e_4 => endE e_4 (some ((AV.sl none 0 (.ex 0)), h3)))
def T55 : Tab := (52, p2 k_fresh_meet) :: T54
/- 53: slices.Equal[gantline/fresh.states,gantline/fresh.State] -/
def k_slices_Equal_fresh_states_fresh_State_b0 (x0 : AV) (x1 : AV) (t12 : AV) (q4 : AV) (q13 : AV) (h0 : Heap) : OutV :=
  (binP .lss q13 t12).bind fun t14 =>
  condE t14 (
  (iaS 3 x0 q13).bind fun t18 =>
  (ldA 3 h0 t18).bind fun t19 =>
  (iaS 3 x1 q13).bind fun t22 =>
  (ldA 3 h0 t22).bind fun t23 =>
  (eqP (some (.struct #[])) (some [(0, .bool), (1, .bool), (2, (.int .u64))]) false .neq t19 t23).bind fun t24 =>
  chk [h0] [] (
  condE t24 (
  some (.ret, [(AV.bool false), q13], h0)) (
  (binP .add q13 (AV.int .i64 1)).bind fun t25 =>
  some (.normal, [q4, t25], h0)))) (
  some ((.exit 0), [q4, q13], h0))
def k_slices_Equal_fresh_states_fresh_State_L0 (x0 : AV) (x1 : AV) (t12 : AV) (q4 : AV) (q13 : AV) (h0 : Heap) : OutV := loopN (fun us g => k_slices_Equal_fresh_states_fresh_State_b0 x0 x1 t12 (us.getD 0 .bot) (us.getD 1 .bot) g) [q4, q13] h0
def k_slices_Equal_fresh_states_fresh_State (x0 : AV) (x1 : AV) (h : Heap) : Option (AV × Heap) :=
  (lnL x0).bind fun t7 =>
  (lnL x1).bind fun t9 =>
  (eqP (some (.int .i64)) none false .neq t7 t9).bind fun t10 =>
  condE t10 (
  some ((AV.bool false), h)) (
  (lnL x0).bind fun t12 =>
  lp (k_slices_Equal_fresh_states_fresh_State_L0 x0 x1 t12 (AV.bool false) (AV.int .i64 0) h) fun e vs h1 =>
  thenK (if e = .exit 0 then .normal else e) (
  some ((AV.bool true), h1)) (fun e_2 => endE e_2 (some ((vs.getD 0 .bot), h1))))
def T56 : Tab := (53, p2 k_slices_Equal_fresh_states_fresh_State) :: T55
/- 26: gantline/fresh.Sets -/
def k_fresh_Sets_j0 (q67_19 : AV) (q7_53 : AV) (h66 : Heap) : OutV :=
  (binP .add q67_19 (AV.int .i64 1)).bind fun t92_67 =>
  some (.normal, [q7_53, t92_67], h66)
def k_fresh_Sets_b0 (t27 : AV) (t61 : AV) (t65 : AV) (t66 : AV) (q7_18 : AV) (q67_19 : AV) (h20 : Heap) : OutV :=
  (binP .lss q67_19 t66).bind fun t68 =>
  condE t68 (
  (iaS 1 t65 q67_19).bind fun t69 =>
  (ldS h20 t69).bind fun t70 =>
  (iaS 1 t27 t70).bind fun t73 =>
  (ldS h20 t73).bind fun t74 =>
  (eqP (some (.slice 0)) none false .eql t74 (AV.sl none 0 (.ex 0))).bind fun t76 =>
  condE t76 (
  (iaS 1 t27 t70).bind fun t80 =>
  cl (stP 1 h20 t80 t61) fun u_68 h69 =>
  k_fresh_Sets_j0 q67_19 (AV.bool true) h69) (
  cl (k_fresh_meet t74 t61 h20) fun t83 h70 =>
  cl (k_slices_Equal_fresh_states_fresh_State t83 t74 h70) fun t86 h71 =>
  (unA .not t86).bind fun t87 =>
  condE t87 (
  (iaS 1 t27 t70).bind fun t91 =>
  cl (stP 1 h71 t91 t83) fun u_78 h79 =>
  k_fresh_Sets_j0 q67_19 (AV.bool true) h79) (
  k_fresh_Sets_j0 q67_19 q7_18 h71))) (
  some ((.exit 4), [q7_18, q67_19], h20))
def k_fresh_Sets_L0 (t27 : AV) (t61 : AV) (t65 : AV) (t66 : AV) (q7_18 : AV) (q67_19 : AV) (h20 : Heap) : OutV := loopN (fun us g => k_fresh_Sets_b0 t27 t61 t65 t66 (us.getD 0 .bot) (us.getD 1 .bot) g) [q7_18, q67_19] h20
def k_fresh_Sets_b1 (t2 : AV) (t3 : AV) (t27 : AV) (t36 : AV) (t37 : AV) (q7_6 : AV) (q38 : AV) (h7 : Heap) : OutV :=
  (binP .lss q38 t37).bind fun t39 =>
  condE t39 (
  (iaS 5 t36 q38).bind fun t41 =>
  (ldA 5 h7 t41).bind fun t42 =>
  mk Heap.new (some (Blk.cells true [(AV.int .i64 0), (AV.int .i64 0), (AV.int .i64 0), (AV.int .i64 0), (AV.int .i64 0)], fun i => AV.ptr (some (i, 0)))) h7 fun t9 h10 =>
  cl (stP 5 h10 t9 t42) fun u h11 =>
  (iaS 1 t27 q38).bind fun t45 =>
  (ldS h11 t45).bind fun t46 =>
  (eqP (some (.slice 0)) none false .eql t46 (AV.sl none 0 (.ex 0))).bind fun t47 =>
  condE t47 (
  (binP .add q38 (AV.int .i64 1)).bind fun t93_12 =>
  some (.normal, [q7_6, t93_12], h11)) (
  (iaS 1 t27 q38).bind fun t50 =>
  (ldS h11 t50).bind fun t51 =>
  cl (k_slices_Clone_fresh_states_fresh_State t51 h11) fun t52 h13 =>
  (ldA 6 h13 t2).bind fun t54 =>
  (ldA 5 h13 t9).bind fun t55 =>
  cl (k_fresh_sent t54 t55 h13) fun t56 h14 =>
  cl (k_fresh_states_lend t52 t56 h14) fun t57 h15 =>
  (ldA 6 h15 t2).bind fun t58 =>
  (ldA 5 h15 t9).bind fun t59 =>
  cl (k_fresh_behind t58 t59 t52 h15) fun t61 h16 =>
  (ldA 6 h16 t2).bind fun t62 =>
  (ldA 7 h16 t3).bind fun t63 =>
  cl (k_live_Follows t62 t63 q38 h16) fun t65 h17 =>
  (lnL t65).bind fun t66 =>
  lp (k_fresh_Sets_L0 t27 t61 t65 t66 q7_6 (AV.int .i64 0) h17) fun e vs h80 =>
  thenK (if (if e = .exit 4 then .normal else e) = .exit 3 then .normal else (if e = .exit 4 then .normal else e)) (
  (binP .add q38 (AV.int .i64 1)).bind fun t93_81 =>
  some (.normal, [(vs.getD 0 .bot), t93_81], h80)) (fun e_82 => some (e_82, [(vs.getD 0 .bot), q38], h80)))) (
  some ((.exit 2), [q7_6, q38], h7))
def k_fresh_Sets_L1 (t2 : AV) (t3 : AV) (t27 : AV) (t36 : AV) (t37 : AV) (q7_6 : AV) (q38 : AV) (h7 : Heap) : OutV := loopN (fun us g => k_fresh_Sets_b1 t2 t3 t27 t36 t37 (us.getD 0 .bot) (us.getD 1 .bot) g) [q7_6, q38] h7
def k_fresh_Sets_b2 (t2 : AV) (t3 : AV) (t27 : AV) (q7 : AV) (h5 : Heap) : OutV :=
  condE q7 (
  (faP 5 t3).bind fun t35 =>
  (ldS h5 t35).bind fun t36 =>
  (lnL t36).bind fun t37 =>
  lp (k_fresh_Sets_L1 t2 t3 t27 t36 t37 (AV.bool false) (AV.int .i64 0) h5) fun e_83 vs_84 h85 =>
  some ((if (if e_83 = .exit 2 then .normal else e_83) = .exit 1 then .normal else (if e_83 = .exit 2 then .normal else e_83)), [(vs_84.getD 0 .bot)], h85)) (
  some ((.exit 0), [q7], h5))
def k_fresh_Sets_L2 (t2 : AV) (t3 : AV) (t27 : AV) (q7 : AV) (h5 : Heap) : OutV := loopN (fun us g => k_fresh_Sets_b2 t2 t3 t27 (us.getD 0 .bot) g) [q7] h5
def k_fresh_Sets_j1 (q16 : AV) (q96 : AV) (q18 : AV) (h90 : Heap) : OutV :=
  cl (k_slices_Clone_fresh_states_fresh_State q18 h90) fun t105 h91 =>
  mk Heap.new (bsP 1 [(AV.sl none 0 (.ex 0))] 1 [(0, t105)]) h91 fun t106 h92 =>
  cl (appendA h92 1 24 q16 t106) fun t107 h93 =>
  (binP .add q96 (AV.int .i64 1)).bind fun t108 =>
  some (.normal, [t107, t108], h93)
def k_fresh_Sets_b3 (t23 : AV) (t27 : AV) (t95 : AV) (q16 : AV) (q96 : AV) (h89 : Heap) : OutV :=
  (binP .lss q96 t95).bind fun t97 =>
  condE t97 (
  (iaS 1 t27 q96).bind fun t98 =>
  (ldS h89 t98).bind fun t99 =>
  (eqP (some (.slice 0)) none false .eql t99 (AV.sl none 0 (.ex 0))).bind fun t101 =>
  condE t101 (
  k_fresh_Sets_j1 q16 q96 t23 h89) (
  k_fresh_Sets_j1 q16 q96 t99 h89)) (
  some ((.exit 6), [q16, q96], h89))
def k_fresh_Sets_L3 (t23 : AV) (t27 : AV) (t95 : AV) (q16 : AV) (q96 : AV) (h89 : Heap) : OutV := loopN (fun us g => k_fresh_Sets_b3 t23 t27 t95 (us.getD 0 .bot) (us.getD 1 .bot) g) [q16, q96] h89
def k_fresh_Sets_j2 (t2 : AV) (t3 : AV) (t23 : AV) (t27 : AV) (h4 : Heap) : Option (AV × Heap) :=
  lp (k_fresh_Sets_L2 t2 t3 t27 (AV.bool true) h4) fun e_86 vs_87 h88 =>
  thenK (if e_86 = .exit 0 then .normal else e_86) (
  (lnL t27).bind fun t95 =>
  lp (k_fresh_Sets_L3 t23 t27 t95 (AV.sl none 0 (.ex 0)) (AV.int .i64 0) h88) fun e_94 vs_95 h96 =>
  thenK (if e_94 = .exit 6 then .normal else e_94) (
  some ((vs_95.getD 0 .bot), h96)) (fun e_97 => endE e_97 (some ((AV.sl none 0 (.ex 0)), h96)))) (fun e_98 => endE e_98 (some ((AV.sl none 0 (.ex 0)), h88)))
def k_fresh_Sets (x0 : AV) (x1 : AV) (h : Heap) : Option (AV × Heap) :=
  mk Heap.new (bxP x0) h fun t2 h0 =>
  mk Heap.new (bxP x1) h0 fun t3 h1 =>
  (faP 2 t3).bind fun t19 =>
  (ldS h1 t19).bind fun t20 =>
  (maxP t20 (AV.int .i64 0)).bind fun t21 =>
  (minP t21 (AV.int .i64 64)).bind fun t22 =>
  mk Heap.new (msP 3 16 [(AV.bool false), (AV.bool false), (AV.int .u64 0)] t22 t22) h1 fun t23 h2 =>
  (faP 5 t3).bind fun t24 =>
  (ldS h2 t24).bind fun t25 =>
  (lnL t25).bind fun t26 =>
  mk Heap.new (msP 1 24 [(AV.sl none 0 (.ex 0))] t26 t26) h2 fun t27 h3 =>
  (lnL t27).bind fun t29 =>
  (binP .gtr t29 (AV.int .i64 0)).bind fun t30 =>
  condE t30 (
  (iaS 1 t27 (AV.int .i64 0)).bind fun t33 =>
  cl (stP 1 h3 t33 t23) fun u_99 h100 =>
  k_fresh_Sets_j2 t2 t3 t23 t27 h100) (
  k_fresh_Sets_j2 t2 t3 t23 t27 h3)
def T57 : Tab := (26, p2 k_fresh_Sets) :: T56
/- 59: gantline/fresh.SpareIn -/
def k_fresh_SpareIn (x0 : AV) (x1 : AV) (x2 : AV) (h : Heap) : Option (AV × Heap) :=
  mk Heap.new (bxP x0) h fun t3 h0 =>
  (faP 5 t3).bind fun t12 =>
  (ldS h0 t12).bind fun t13 =>
  (iaS 5 t13 x2).bind fun t15 =>
  (ldA 5 h0 t15).bind fun t16 =>
  mk Heap.new (some (Blk.cells true [(AV.int .i64 0), (AV.int .i64 0), (AV.int .i64 0), (AV.int .i64 0), (AV.int .i64 0)], fun i => AV.ptr (some (i, 0)))) h0 fun t7 h1 =>
  cl (stP 5 h1 t7 t16) fun u h2 =>
  (faP 0 t7).bind fun t17 =>
  (ldS h2 t17).bind fun t18 =>
  (eqP (some (.int .i64)) none false .eql t18 (AV.int .i64 28)).bind fun t19 =>
  gQ (gdW t19 false) h2 ((faP 0 t7).bind fun t21 =>
  some (t21, h2)) fun t21_3 h4 =>
  gQ (gdW t19 false) h4 ((ldS h4 t21_3).bind fun t22 =>
  some (t22, h4)) fun t22_5 h6 =>
  gQ (gdW t19 false) h6 ((eqP (some (.int .i64)) none false .eql t22_5 (AV.int .i64 29)).bind fun t23 =>
  some (t23, h6)) fun t23_7 h8 =>
  (pickP t19 (AV.bool true) t23_7).bind fun t24 =>
  (unA .not t24).bind fun t26 =>
  gQ (gdW t26 true) h8 ((faP 0 t7).bind fun t28 =>
  some (t28, h8)) fun t28_9 h10 =>
  gQ (gdW t26 true) h10 ((ldS h10 t28_9).bind fun t29 =>
  some (t29, h10)) fun t29_11 h12 =>
  gQ (gdW t26 true) h12 ((eqP (some (.int .i64)) none false .neq t29_11 (AV.int .i64 31)).bind fun t30 =>
  some (t30, h12)) fun t30_13 h14 =>
  (pickP t26 t30_13 (AV.bool false)).bind fun t31 =>
  gQ (gdW t31 true) h14 ((faP 0 t7).bind fun t33 =>
  some (t33, h14)) fun t33_15 h16 =>
  gQ (gdW t31 true) h16 ((ldS h16 t33_15).bind fun t34 =>
  some (t34, h16)) fun t34_17 h18 =>
  gQ (gdW t31 true) h18 ((eqP (some (.int .i64)) none false .neq t34_17 (AV.int .i64 32)).bind fun t35 =>
  some (t35, h18)) fun t35_19 h20 =>
  (pickP t31 t35_19 (AV.bool false)).bind fun t36 =>
  condE t36 (
  some ((AV.bool false), h20)) (
  (faP 1 t7).bind fun t37 =>
  (ldS h20 t37).bind fun t38 =>
  (binP .lss t38 (AV.int .i64 0)).bind fun t39 =>
  gQ (gdW t39 false) h20 ((faP 1 t7).bind fun t41 =>
  some (t41, h20)) fun t41_21 h22 =>
  gQ (gdW t39 false) h22 ((ldS h22 t41_21).bind fun t42 =>
  some (t42, h22)) fun t42_23 h24 =>
  gQ (gdW t39 false) h24 ((binP .geq t42_23 (AV.int .i64 64)).bind fun t43 =>
  some (t43, h24)) fun t43_25 h26 =>
  (pickP t39 (AV.bool true) t43_25).bind fun t44 =>
  gQ (gdW t44 false) h26 ((faP 3 t7).bind fun t46 =>
  some (t46, h26)) fun t46_27 h28 =>
  gQ (gdW t44 false) h28 ((ldS h28 t46_27).bind fun t47 =>
  some (t47, h28)) fun t47_29 h30 =>
  gQ (gdW t44 false) h30 ((binP .lss t47_29 (AV.int .i64 0)).bind fun t48 =>
  some (t48, h30)) fun t48_31 h32 =>
  (pickP t44 (AV.bool true) t48_31).bind fun t49 =>
  gQ (gdW t49 false) h32 ((faP 3 t7).bind fun t51 =>
  some (t51, h32)) fun t51_33 h34 =>
  gQ (gdW t49 false) h34 ((ldS h34 t51_33).bind fun t52 =>
  some (t52, h34)) fun t52_35 h36 =>
  gQ (gdW t49 false) h36 ((binP .geq t52_35 (AV.int .i64 64)).bind fun t53 =>
  some (t53, h36)) fun t53_37 h38 =>
  (pickP t49 (AV.bool true) t53_37).bind fun t54 =>
  condE t54 (
  some ((AV.bool false), h38)) (
  (faP 3 t7).bind fun t55 =>
  (ldS h38 t55).bind fun t56 =>
  (faP 4 t3).bind fun t57 =>
  (ldS h38 t57).bind fun t58 =>
  (lnL t58).bind fun t59 =>
  (binP .lss t56 t59).bind fun t60 =>
  gQ (gdW t60 true) h38 ((faP 4 t3).bind fun t62 =>
  some (t62, h38)) fun t62_39 h40 =>
  gQ (gdW t60 true) h40 ((ldS h40 t62_39).bind fun t63 =>
  some (t63, h40)) fun t63_41 h42 =>
  gQ (gdW t60 true) h42 ((faP 3 t7).bind fun t64 =>
  some (t64, h42)) fun t64_43 h44 =>
  gQ (gdW t60 true) h44 ((ldS h44 t64_43).bind fun t65 =>
  some (t65, h44)) fun t65_45 h46 =>
  gQ (gdW t60 true) h46 ((iaS 1 t63_41 t65_45).bind fun t66 =>
  some (t66, h46)) fun t66_47 h48 =>
  gQ (gdW t60 true) h48 ((ldS h48 t66_47).bind fun t67 =>
  some (t67, h48)) fun t67_49 h50 =>
  gQ (gdW t60 true) h50 ((unA .not t67_49).bind fun t68 =>
  some (t68, h50)) fun t68_51 h52 =>
  (pickP t60 t68_51 (AV.bool false)).bind fun t69 =>
  condE t69 (
  some ((AV.bool true), h52)) (
  (iaS 1 x1 x2).bind fun t72 =>
  (ldS h52 t72).bind fun t73 =>
  (faP 1 t7).bind fun t75 =>
  (ldS (hpN h52 2) t75).bind fun t76 =>
  cl (k_fresh_states_get t73 t76 (hpN h52 2)) fun t77 h53 =>
  (faP 3 t7).bind fun t79 =>
  clC (rdC (fun g => ldS g t79) h53 0 1 []) fun t80 cs =>
  cl (k_fresh_states_get t73 t80 h53) fun t81 h54 =>
  cl (mkAt Heap.put (some (Blk.cells true [(AV.bool false), (AV.bool false), (AV.int .u64 0)], fun i => AV.ptr (some (i, 0)))) (h52.next + 0) h54) fun t10 h55 =>
  cl (mkAt Heap.put (some (Blk.cells true [(AV.bool false), (AV.bool false), (AV.int .u64 0)], fun i => AV.ptr (some (i, 0)))) (h52.next + 1) h55) fun t11 h56 =>
  cl (stP 3 h56 t10 t77) fun u_57 h58 =>
  cl (stP 3 h58 t11 t81) fun u_59 h60 =>
  chk [(hpN h52 2), h53, h54, h58, h60] cs (
  condE t24 (
  (faP 1 t10).bind fun t83 =>
  (ldS h60 t83).bind fun t84 =>
  (gV (gdW t84 true) (faP 0 t11) (.tup [])).bind fun t86 =>
  (gV (gdW t84 true) (ldS h60 t86) (.tup [])).bind fun t87 =>
  (pickP t84 t87 (AV.bool false)).bind fun t88 =>
  (gV (gdW t88 true) (faP 2 t10) (.tup [])).bind fun t90 =>
  clC (gV (gdW t88 true) (rdC (fun g => ldS g t90) h60 0 1 []) (.tup [], [])) fun t91 cs_61 =>
  (gV (gdW t88 true) (faP 2 t7) (.tup [])).bind fun t92 =>
  (gV (gdW t88 true) (ldS h60 t92) (.tup [])).bind fun t93 =>
  gQ (gdW t88 true) h60 (cl (k_fresh_bit t93 h60) fun t94 h62 =>
  some (t94, h62)) fun t94_63 h64 =>
  (gV (gdW t88 true) (binP .and t91 t94_63) (.tup [])).bind fun t95 =>
  (gV (gdW t88 true) (eqP (some (.int .u64)) none false .eql t95 (AV.int .u64 0)) (.tup [])).bind fun t96 =>
  (pickP t88 t96 (AV.bool false)).bind fun t97 =>
  chk [h60, h64] cs_61 (
  some (t97, h64))) (
  (faP 1 t10).bind fun t98 =>
  (ldS h60 t98).bind fun t99 =>
  gQ (gdW t99 true) h60 ((faP 0 t11).bind fun t101 =>
  some (t101, h60)) fun t101_65 h66 =>
  gQ (gdW t99 true) h66 ((ldS h66 t101_65).bind fun t102 =>
  some (t102, h66)) fun t102_67 h68 =>
  (pickP t99 t102_67 (AV.bool false)).bind fun t103 =>
  gQ (gdW t103 true) h68 ((faP 2 t10).bind fun t105 =>
  some (t105, h68)) fun t105_69 h70 =>
  gQ (gdW t103 true) h70 ((ldS h70 t105_69).bind fun t106 =>
  some (t106, h70)) fun t106_71 h72 =>
  gQ (gdW t103 true) h72 ((eqP (some (.int .u64)) none false .eql t106_71 (AV.int .u64 0)).bind fun t107 =>
  some (t107, h72)) fun t107_73 h74 =>
  (pickP t103 t107_73 (AV.bool false)).bind fun t108 =>
  some (t108, h74))))))
def T58 : Tab := (59, p3 k_fresh_SpareIn) :: T57
/- 47: gantline/fresh.Spare -/
def k_fresh_Spare (x0 : AV) (x1 : AV) (x2 : AV) (h : Heap) : Option (AV × Heap) :=
  mk Heap.new (bxP x0) h fun t3 h0 =>
  mk Heap.new (bxP x1) h0 fun t4 h1 =>
  (binP .geq x2 (AV.int .i64 0)).bind fun t8 =>
  (gV (gdW t8 true) (some x2) (.tup [])).bind fun t10 =>
  (gV (gdW t8 true) (faP 5 t4) (.tup [])).bind fun t11 =>
  (gV (gdW t8 true) (ldS h1 t11) (.tup [])).bind fun t12 =>
  (gV (gdW t8 true) (lnL t12) (.tup [])).bind fun t13 =>
  (gV (gdW t8 true) (binP .lss t10 t13) (.tup [])).bind fun t14 =>
  (pickP t8 t14 (AV.bool false)).bind fun t15 =>
  clC (gV (gdW t15 true) (rdC (fun g => ldA 7 g t4) h1 0 1 []) (.tup [], [])) fun t17 cs =>
  (gV (gdW t15 true) (ldA 6 h1 t3) (.tup [])).bind fun t18 =>
  (gV (gdW t15 true) (ldA 7 h1 t4) (.tup [])).bind fun t19 =>
  gQ (gdW t15 true) h1 (cl (k_fresh_Sets t18 t19 h1) fun t20 h2 =>
  some (t20, h2)) fun t20_3 h4 =>
  (gV (gdW t15 true) (some x2) (.tup [])).bind fun t21 =>
  gQ (gdW t15 true) h4 (cl (k_fresh_SpareIn t17 t20_3 t21 h4) fun t22 h5 =>
  some (t22, h5)) fun t22_6 h7 =>
  (pickP t15 t22_6 (AV.bool false)).bind fun t23 =>
  chk [h1, h4, h7] cs (
  some (t23, h7))
def T59 : Tab := (47, p3 k_fresh_Spare) :: T58
/- 25: gantline/gantlinelaw11.awake -/
def k_law11_awakeR (h : Heap) : Option (AV × Heap) :=
  cl (k_law11_pair (AV.bool false) h) fun t7 h0 =>
  (extractV 0 t7).bind fun t8 =>
  (extractV 1 t7).bind fun t9 =>
  mk Heap.new (some (Blk.cells true [(AV.sl none 0 (.ex 0)), (AV.sl none 0 (.ex 0)), (AV.sl none 0 (.ex 0)), (AV.sl none 0 (.ex 0)), (AV.sl none 0 (.ex 0)), (AV.int .i64 0)], fun i => AV.ptr (some (i, 0)))) h0 fun t1 h1 =>
  mk Heap.new (some (Blk.cells true [(AV.int .i64 0), (AV.int .i64 0), (AV.int .i64 0), (AV.int .i64 0), (AV.sl none 0 (.ex 0)), (AV.sl none 0 (.ex 0)), (AV.sl none 0 (.ex 0))], fun i => AV.ptr (some (i, 0)))) h1 fun t2 h2 =>
  cl (stP 6 h2 t1 t8) fun u h3 =>
  cl (stP 7 h3 t2 t9) fun u_4 h5 =>
  cl (k_law11_pair (AV.bool true) h5) fun t11 h6 =>
  (extractV 0 t11).bind fun t12 =>
  (extractV 1 t11).bind fun t13 =>
  mk Heap.new (some (Blk.cells true [(AV.sl none 0 (.ex 0)), (AV.sl none 0 (.ex 0)), (AV.sl none 0 (.ex 0)), (AV.sl none 0 (.ex 0)), (AV.sl none 0 (.ex 0)), (AV.int .i64 0)], fun i => AV.ptr (some (i, 0)))) h6 fun t3 h7 =>
  mk Heap.new (some (Blk.cells true [(AV.int .i64 0), (AV.int .i64 0), (AV.int .i64 0), (AV.int .i64 0), (AV.sl none 0 (.ex 0)), (AV.sl none 0 (.ex 0)), (AV.sl none 0 (.ex 0))], fun i => AV.ptr (some (i, 0)))) h7 fun t4 h8 =>
  cl (stP 6 h8 t3 t12) fun u_9 h10 =>
  cl (stP 7 h10 t4 t13) fun u_11 h12 =>
  (ldA 6 h12 t1).bind fun t14 =>
  (ldA 7 h12 t2).bind fun t15 =>
  cl (k_fresh_Sets t14 t15 h12) fun t16 h13 =>
  (ldA 6 h13 t1).bind fun t17 =>
  (ldA 7 h13 t2).bind fun t18 =>
  cl (k_fresh_Spare t17 t18 (AV.int .i64 2) h13) fun t19 h14 =>
  gQ (gdW t19 true) h14 ((ldA 6 h14 t3).bind fun t21 =>
  some (t21, h14)) fun t21_15 h16 =>
  gQ (gdW t19 true) h16 ((ldA 7 h16 t4).bind fun t22 =>
  some (t22, h16)) fun t22_17 h18 =>
  gQ (gdW t19 true) h18 (cl (k_fresh_Spare t21_15 t22_17 (AV.int .i64 3) h18) fun t23 h19 =>
  some (t23, h19)) fun t23_20 h21 =>
  gQ (gdW t19 true) h21 ((unA .not t23_20).bind fun t24 =>
  some (t24, h21)) fun t24_22 h23 =>
  (pickP t19 t24_22 (AV.bool false)).bind fun t25 =>
  gQ (gdW t25 true) h23 (some (t16, h23)) fun t27 h24 =>
  gQ (gdW t25 true) h24 ((lnL t27).bind fun t28 =>
  some (t28, h24)) fun t28_25 h26 =>
  gQ (gdW t25 true) h26 ((eqP (some (.int .i64)) none false .eql t28_25 (AV.int .i64 4)).bind fun t29 =>
  some (t29, h26)) fun t29_27 h28 =>
  (pickP t25 t29_27 (AV.bool false)).bind fun t30 =>
  gQ (gdW t30 true) h28 (some (t16, h28)) fun t32 h29 =>
  gQ (gdW t30 true) h29 ((iaS 1 t32 (AV.int .i64 2)).bind fun t33 =>
  some (t33, h29)) fun t33_30 h31 =>
  gQ (gdW t30 true) h31 ((ldS h31 t33_30).bind fun t34 =>
  some (t34, h31)) fun t34_32 h33 =>
  gQ (gdW t30 true) h33 ((lnL t34_32).bind fun t35 =>
  some (t35, h33)) fun t35_34 h35 =>
  gQ (gdW t30 true) h35 ((eqP (some (.int .i64)) none false .eql t35_34 (AV.int .i64 2)).bind fun t36 =>
  some (t36, h35)) fun t36_36 h37 =>
  (pickP t30 t36_36 (AV.bool false)).bind fun t37 =>
  gQ (gdW t37 true) h37 (some (t16, h37)) fun t39 h38 =>
  gQ (gdW t37 true) h38 ((iaS 1 t39 (AV.int .i64 2)).bind fun t40 =>
  some (t40, h38)) fun t40_39 h40 =>
  gQ (gdW t37 true) h40 ((ldS h40 t40_39).bind fun t41 =>
  some (t41, h40)) fun t41_41 h42 =>
  gQ (gdW t37 true) h42 ((iaS 3 t41_41 (AV.int .i64 0)).bind fun t42 =>
  some (t42, h42)) fun t42_43 h44 =>
  gQ (gdW t37 true) h44 ((ldA 3 h44 t42_43).bind fun t43 =>
  some (t43, h44)) fun t43_45 h46 =>
  gQ (gdW t37 true) h46 ((bldS [(0, 1), (1, 1), (2, 1)] [(AV.bool false), (AV.bool false), (AV.int .u64 0)] [(1, (AV.bool true))]).bind fun t44 =>
  some (t44, h46)) fun t44_47 h48 =>
  gQ (gdW t37 true) h48 ((eqP (some (.struct #[])) (some [(0, .bool), (1, .bool), (2, (.int .u64))]) false .eql t43_45 t44_47).bind fun t45 =>
  some (t45, h48)) fun t45_49 h50 =>
  (pickP t37 t45_49 (AV.bool false)).bind fun t46 =>
  gQ (gdW t46 true) h50 (some (t16, h50)) fun t48 h51 =>
  gQ (gdW t46 true) h51 ((iaS 1 t48 (AV.int .i64 2)).bind fun t49 =>
  some (t49, h51)) fun t49_52 h53 =>
  gQ (gdW t46 true) h53 ((ldS h53 t49_52).bind fun t50 =>
  some (t50, h53)) fun t50_54 h55 =>
  gQ (gdW t46 true) h55 ((iaS 3 t50_54 (AV.int .i64 1)).bind fun t51 =>
  some (t51, h55)) fun t51_56 h57 =>
  gQ (gdW t46 true) h57 ((ldA 3 h57 t51_56).bind fun t52 =>
  some (t52, h57)) fun t52_58 h59 =>
  gQ (gdW t46 true) h59 ((bldS [(0, 1), (1, 1), (2, 1)] [(AV.bool false), (AV.bool false), (AV.int .u64 0)] [(0, (AV.bool true)), (1, (AV.bool true))]).bind fun t53 =>
  some (t53, h59)) fun t53_60 h61 =>
  gQ (gdW t46 true) h61 ((eqP (some (.struct #[])) (some [(0, .bool), (1, .bool), (2, (.int .u64))]) false .eql t52_58 t53_60).bind fun t54 =>
  some (t54, h61)) fun t54_62 h63 =>
  (pickP t46 t54_62 (AV.bool false)).bind fun t55 =>
  some (t55, h63)
def k_law11_awake : Heap → Option (AV × Heap) := quiet hQ0
def T60 : Tab := (25, p0 k_law11_awake) :: T59
/- 7: gantline/gantlinelaw11.FreshPoints -/
def k_law11_FreshPoints_b0 (t3 : AV) (q4 : AV) (q6 : AV) (q7 : AV) (h16 : Heap) : OutV :=
  (faP 5 t3).bind fun t32 =>
  (ldS h16 t32).bind fun t33 =>
  (lnL t33).bind fun t34 =>
  (binP .lss q7 t34).bind fun t35 =>
  condE t35 (
  gQ (gdW q6 false) h16 ((faP 5 t3).bind fun t40 =>
  some (t40, h16)) fun t40_17 h18 =>
  gQ (gdW q6 false) h18 ((ldS h18 t40_17).bind fun t41 =>
  some (t41, h18)) fun t41_19 h20 =>
  gQ (gdW q6 false) h20 (some (q7, h20)) fun t42 h21 =>
  gQ (gdW q6 false) h21 ((iaS 5 t41_19 t42).bind fun t43 =>
  some (t43, h21)) fun t43_22 h23 =>
  gQ (gdW q6 false) h23 ((faP 0 t43_22).bind fun t44 =>
  some (t44, h23)) fun t44_24 h25 =>
  gQ (gdW q6 false) h25 ((ldS h25 t44_24).bind fun t45 =>
  some (t45, h25)) fun t45_26 h27 =>
  gQ (gdW q6 false) h27 (cl (k_code_Maker t45_26 h27) fun t46 h28 =>
  some (t46, h28)) fun t46_29 h30 =>
  (pickP q6 (AV.bool true) t46_29).bind fun t47 =>
  (faP 5 t3).bind fun t48 =>
  (ldS h30 t48).bind fun t49 =>
  (iaS 5 t49 q7).bind fun t51 =>
  (faP 0 t51).bind fun t52 =>
  (ldS h30 t52).bind fun t53 =>
  (eqP (some (.int .i64)) none false .eql t53 (AV.int .i64 18)).bind fun t54 =>
  gQ (gdW t54 false) h30 ((faP 5 t3).bind fun t56 =>
  some (t56, h30)) fun t56_31 h32 =>
  gQ (gdW t54 false) h32 ((ldS h32 t56_31).bind fun t57 =>
  some (t57, h32)) fun t57_33 h34 =>
  gQ (gdW t54 false) h34 (some (q7, h34)) fun t58 h35 =>
  gQ (gdW t54 false) h35 ((iaS 5 t57_33 t58).bind fun t59 =>
  some (t59, h35)) fun t59_36 h37 =>
  gQ (gdW t54 false) h37 ((faP 0 t59_36).bind fun t60 =>
  some (t60, h37)) fun t60_38 h39 =>
  gQ (gdW t54 false) h39 ((ldS h39 t60_38).bind fun t61 =>
  some (t61, h39)) fun t61_40 h41 =>
  gQ (gdW t54 false) h41 ((eqP (some (.int .i64)) none false .eql t61_40 (AV.int .i64 19)).bind fun t62 =>
  some (t62, h41)) fun t62_42 h43 =>
  (pickP t54 (AV.bool true) t62_42).bind fun t63 =>
  gQ (gdW t63 false) h43 ((faP 5 t3).bind fun t65 =>
  some (t65, h43)) fun t65_44 h45 =>
  gQ (gdW t63 false) h45 ((ldS h45 t65_44).bind fun t66 =>
  some (t66, h45)) fun t66_46 h47 =>
  gQ (gdW t63 false) h47 (some (q7, h47)) fun t67 h48 =>
  gQ (gdW t63 false) h48 ((iaS 5 t66_46 t67).bind fun t68 =>
  some (t68, h48)) fun t68_49 h50 =>
  gQ (gdW t63 false) h50 ((faP 0 t68_49).bind fun t69 =>
  some (t69, h50)) fun t69_51 h52 =>
  gQ (gdW t63 false) h52 ((ldS h52 t69_51).bind fun t70 =>
  some (t70, h52)) fun t70_53 h54 =>
  gQ (gdW t63 false) h54 ((eqP (some (.int .i64)) none false .eql t70_53 (AV.int .i64 41)).bind fun t71 =>
  some (t71, h54)) fun t71_55 h56 =>
  (pickP t63 (AV.bool true) t71_55).bind fun t72 =>
  condE t72 (
  some (.ret, [(AV.bool true), t47, q7], h56)) (
  (binP .add q7 (AV.int .i64 1)).bind fun t37 =>
  some (.normal, [q4, t47, t37], h56))) (
  some ((.exit 0), [q4, q6, q7], h16))
def k_law11_FreshPoints_L0 (t3 : AV) (q4 : AV) (q6 : AV) (q7 : AV) (h16 : Heap) : OutV := loopN (fun us g => k_law11_FreshPoints_b0 t3 (us.getD 0 .bot) (us.getD 1 .bot) (us.getD 2 .bot) g) [q4, q6, q7] h16
def k_law11_FreshPoints_b1 (t30 : AV) (vs : List AV) (q8 : AV) (q4_62 : AV) (q9_63 : AV) (h64 : Heap) : OutV :=
  (iaS 1 t30 q8).bind fun t82 =>
  (ldS h64 t82).bind fun t83 =>
  (lnL t83).bind fun t84 =>
  (binP .lss q9_63 t84).bind fun t85 =>
  condE t85 (
  (eqP (some (.int .i64)) none false .eql q8 (AV.int .i64 0)).bind fun t89 =>
  gQ (gdW t89 false) h64 (some ((vs.getD 1 .bot), h64)) fun t91 h65 =>
  gQ (gdW t89 false) h65 ((unA .not t91).bind fun t92 =>
  some (t92, h65)) fun t92_66 h67 =>
  (pickP t89 (AV.bool true) t92_66).bind fun t93 =>
  gQ (gdW t93 true) h67 (some (t30, h67)) fun t95 h68 =>
  gQ (gdW t93 true) h68 (some (q8, h68)) fun t96 h69 =>
  gQ (gdW t93 true) h69 ((iaS 1 t95 t96).bind fun t97 =>
  some (t97, h69)) fun t97_70 h71 =>
  gQ (gdW t93 true) h71 ((ldS h71 t97_70).bind fun t98 =>
  some (t98, h71)) fun t98_72 h73 =>
  gQ (gdW t93 true) h73 (some (q9_63, h73)) fun t99 h74 =>
  gQ (gdW t93 true) h74 ((iaS 3 t98_72 t99).bind fun t100 =>
  some (t100, h74)) fun t100_75 h76 =>
  gQ (gdW t93 true) h76 ((faP 0 t100_75).bind fun t101 =>
  some (t101, h76)) fun t101_77 h78 =>
  gQ (gdW t93 true) h78 ((ldS h78 t101_77).bind fun t102 =>
  some (t102, h78)) fun t102_79 h80 =>
  gQ (gdW t93 true) h80 (some (t102_79, h80)) fun t103 h81 =>
  gQ (gdW t103 false) h81 (some (t30, h81)) fun t104 h82 =>
  gQ (gdW t103 false) h82 (some (q8, h82)) fun t105 h83 =>
  gQ (gdW t103 false) h83 ((iaS 1 t104 t105).bind fun t106 =>
  some (t106, h83)) fun t106_84 h85 =>
  gQ (gdW t103 false) h85 ((ldS h85 t106_84).bind fun t107 =>
  some (t107, h85)) fun t107_86 h87 =>
  gQ (gdW t103 false) h87 (some (q9_63, h87)) fun t108 h88 =>
  gQ (gdW t103 false) h88 ((iaS 3 t107_86 t108).bind fun t109 =>
  some (t109, h88)) fun t109_89 h90 =>
  gQ (gdW t103 false) h90 ((faP 1 t109_89).bind fun t110 =>
  some (t110, h90)) fun t110_91 h92 =>
  gQ (gdW t103 false) h92 ((ldS h92 t110_91).bind fun t111 =>
  some (t111, h92)) fun t111_93 h94 =>
  gQ (gdW t93 true) h94 ((pickP t103 (AV.bool true) t111_93).bind fun t112 =>
  some (t112, h94)) fun t112_95 h96 =>
  (pickP t93 t112_95 (AV.bool false)).bind fun t113 =>
  condE t113 (
  some (.ret, [(AV.bool false), q9_63], h96)) (
  (binP .add q9_63 (AV.int .i64 1)).bind fun t87 =>
  some (.normal, [q4_62, t87], h96))) (
  some ((.exit 4), [q4_62, q9_63], h64))
def k_law11_FreshPoints_L1 (t30 : AV) (vs : List AV) (q8 : AV) (q4_62 : AV) (q9_63 : AV) (h64 : Heap) : OutV := loopN (fun us g => k_law11_FreshPoints_b1 t30 vs q8 (us.getD 0 .bot) (us.getD 1 .bot) g) [q4_62, q9_63] h64
def k_law11_FreshPoints_b2 (t30 : AV) (q8 : AV) (t10 : AV) (q4_145 : AV) (q11_146 : AV) (h147 : Heap) : OutV :=
  (binP .add q8 (AV.int .i64 1)).bind fun t158 =>
  (iaS 1 t30 t158).bind fun t159 =>
  (ldS h147 t159).bind fun t160 =>
  (lnL t160).bind fun t161 =>
  (binP .lss q11_146 t161).bind fun t162 =>
  condE t162 (
  (binP .add q8 (AV.int .i64 1)).bind fun t167 =>
  (iaS 1 t30 t167).bind fun t168 =>
  (ldS h147 t168).bind fun t169 =>
  (iaS 3 t169 q11_146).bind fun t171 =>
  (faP 0 t171).bind fun t172 =>
  (ldS h147 t172).bind fun t173 =>
  gQ (gdW t173 true) h147 ((faP 0 t10).bind fun t175 =>
  some (t175, h147)) fun t175_148 h149 =>
  gQ (gdW t173 true) h149 ((ldS h149 t175_148).bind fun t176 =>
  some (t176, h149)) fun t176_150 h151 =>
  gQ (gdW t173 true) h151 (cl (k_code_Maker t176_150 h151) fun t177 h152 =>
  some (t177, h152)) fun t177_153 h154 =>
  gQ (gdW t173 true) h154 (some (t177_153, h154)) fun t178 h155 =>
  gQ (gdW t178 true) h155 ((faP 1 t10).bind fun t179 =>
  some (t179, h155)) fun t179_156 h157 =>
  gQ (gdW t178 true) h157 ((ldS h157 t179_156).bind fun t180 =>
  some (t180, h157)) fun t180_158 h159 =>
  gQ (gdW t178 true) h159 (some (q11_146, h159)) fun t181 h160 =>
  gQ (gdW t178 true) h160 ((eqP (some (.int .i64)) none false .eql t180_158 t181).bind fun t182 =>
  some (t182, h160)) fun t182_161 h162 =>
  gQ (gdW t173 true) h162 ((pickP t178 t182_161 (AV.bool false)).bind fun t183 =>
  some (t183, h162)) fun t183_163 h164 =>
  gQ (gdW t173 true) h164 ((unA .not t183_163).bind fun t184 =>
  some (t184, h164)) fun t184_165 h166 =>
  (pickP t173 t184_165 (AV.bool false)).bind fun t185 =>
  condE t185 (
  some (.ret, [(AV.bool false), q11_146], h166)) (
  (binP .add q11_146 (AV.int .i64 1)).bind fun t164 =>
  some (.normal, [q4_145, t164], h166))) (
  some ((.exit 6), [q4_145, q11_146], h147))
def k_law11_FreshPoints_L2 (t30 : AV) (q8 : AV) (t10 : AV) (q4_145 : AV) (q11_146 : AV) (h147 : Heap) : OutV := loopN (fun us g => k_law11_FreshPoints_b2 t30 q8 t10 (us.getD 0 .bot) (us.getD 1 .bot) g) [q4_145, q11_146] h147
def k_law11_FreshPoints_b3 (t3 : AV) (t30 : AV) (vs : List AV) (q4_58 : AV) (q8 : AV) (h59 : Heap) : OutV :=
  (lnL t30).bind fun t75 =>
  (binP .lss q8 t75).bind fun t76 =>
  condE t76 (
  lp (k_law11_FreshPoints_L1 t30 vs q8 q4_58 (AV.int .i64 0) h59) fun e_97 vs_98 h99 =>
  thenK (if e_97 = .exit 4 then .normal else e_97) (
  (faP 5 t3).bind fun t114 =>
  (ldS h99 t114).bind fun t115 =>
  (iaS 5 t115 q8).bind fun t117 =>
  (ldA 5 h99 t117).bind fun t118 =>
  mk Heap.new (some (Blk.cells true [(AV.int .i64 0), (AV.int .i64 0), (AV.int .i64 0), (AV.int .i64 0), (AV.int .i64 0)], fun i => AV.ptr (some (i, 0)))) h99 fun t10 h100 =>
  cl (stP 5 h100 t10 t118) fun u_101 h102 =>
  (faP 0 t10).bind fun t119 =>
  (ldS h102 t119).bind fun t120 =>
  (eqP (some (.int .i64)) none false .eql t120 (AV.int .i64 18)).bind fun t121 =>
  gQ (gdW t121 false) h102 ((faP 0 t10).bind fun t123 =>
  some (t123, h102)) fun t123_103 h104 =>
  gQ (gdW t121 false) h104 ((ldS h104 t123_103).bind fun t124 =>
  some (t124, h104)) fun t124_105 h106 =>
  gQ (gdW t121 false) h106 ((eqP (some (.int .i64)) none false .eql t124_105 (AV.int .i64 19)).bind fun t125 =>
  some (t125, h106)) fun t125_107 h108 =>
  (pickP t121 (AV.bool true) t125_107).bind fun t126 =>
  gQ (gdW t126 false) h108 ((faP 0 t10).bind fun t128 =>
  some (t128, h108)) fun t128_109 h110 =>
  gQ (gdW t126 false) h110 ((ldS h110 t128_109).bind fun t129 =>
  some (t129, h110)) fun t129_111 h112 =>
  gQ (gdW t126 false) h112 ((eqP (some (.int .i64)) none false .eql t129_111 (AV.int .i64 22)).bind fun t130 =>
  some (t130, h112)) fun t130_113 h114 =>
  (pickP t126 (AV.bool true) t130_113).bind fun t131 =>
  gQ (gdW t131 false) h114 ((faP 0 t10).bind fun t133 =>
  some (t133, h114)) fun t133_115 h116 =>
  gQ (gdW t131 false) h116 ((ldS h116 t133_115).bind fun t134 =>
  some (t134, h116)) fun t134_117 h118 =>
  gQ (gdW t131 false) h118 ((eqP (some (.int .i64)) none false .eql t134_117 (AV.int .i64 44)).bind fun t135 =>
  some (t135, h118)) fun t135_119 h120 =>
  (pickP t131 (AV.bool true) t135_119).bind fun t136 =>
  gQ (gdW t136 false) h120 ((faP 0 t10).bind fun t138 =>
  some (t138, h120)) fun t138_121 h122 =>
  gQ (gdW t136 false) h122 ((ldS h122 t138_121).bind fun t139 =>
  some (t139, h122)) fun t139_123 h124 =>
  gQ (gdW t136 false) h124 ((eqP (some (.int .i64)) none false .eql t139_123 (AV.int .i64 41)).bind fun t140 =>
  some (t140, h124)) fun t140_125 h126 =>
  (pickP t136 (AV.bool true) t140_125).bind fun t141 =>
  gQ (gdW t141 false) h126 ((faP 0 t10).bind fun t143 =>
  some (t143, h126)) fun t143_127 h128 =>
  gQ (gdW t141 false) h128 ((ldS h128 t143_127).bind fun t144 =>
  some (t144, h128)) fun t144_129 h130 =>
  gQ (gdW t141 false) h130 (cl (k_code_Point t144_129 h130) fun t145 h131 =>
  some (t145, h131)) fun t145_132 h133 =>
  gQ (gdW t141 false) h133 ((unA .not t145_132).bind fun t146 =>
  some (t146, h133)) fun t146_134 h135 =>
  (pickP t141 (AV.bool true) t146_134).bind fun t147 =>
  gQ (gdW t147 false) h135 (some (q8, h135)) fun t149 h136 =>
  gQ (gdW t147 false) h136 ((binP .add t149 (AV.int .i64 1)).bind fun t150 =>
  some (t150, h136)) fun t150_137 h138 =>
  gQ (gdW t147 false) h138 (some (t30, h138)) fun t151 h139 =>
  gQ (gdW t147 false) h139 ((lnL t151).bind fun t152 =>
  some (t152, h139)) fun t152_140 h141 =>
  gQ (gdW t147 false) h141 ((binP .geq t150_137 t152_140).bind fun t153 =>
  some (t153, h141)) fun t153_142 h143 =>
  (pickP t147 (AV.bool true) t153_142).bind fun t154 =>
  condE t154 (
  (binP .add q8 (AV.int .i64 1)).bind fun t78_144 =>
  some (.normal, [(vs_98.getD 0 .bot), t78_144], h143)) (
  lp (k_law11_FreshPoints_L2 t30 q8 t10 (vs_98.getD 0 .bot) (AV.int .i64 0) h143) fun e_167 vs_168 h169 =>
  thenK (if (if e_167 = .exit 6 then .normal else e_167) = .exit 3 then .normal else (if e_167 = .exit 6 then .normal else e_167)) (
  (binP .add q8 (AV.int .i64 1)).bind fun t78_170 =>
  some (.normal, [(vs_168.getD 0 .bot), t78_170], h169)) (fun e_171 => some (e_171, [(vs_168.getD 0 .bot), q8], h169)))) (fun e_172 => thenK (if e_172 = .exit 3 then .normal else e_172) (
  (binP .add q8 (AV.int .i64 1)).bind fun t78_173 =>
  some (.normal, [(vs_98.getD 0 .bot), t78_173], h99)) (fun e_174 => some (e_174, [(vs_98.getD 0 .bot), q8], h99)))) (
  some ((.exit 2), [q4_58, q8], h59))
def k_law11_FreshPoints_L3 (t3 : AV) (t30 : AV) (vs : List AV) (q4_58 : AV) (q8 : AV) (h59 : Heap) : OutV := loopN (fun us g => k_law11_FreshPoints_b3 t3 t30 vs (us.getD 0 .bot) (us.getD 1 .bot) g) [q4_58, q8] h59
def k_law11_FreshPoints (x0 : AV) (x1 : AV) (h : Heap) : Option (AV × Heap) :=
  mk Heap.new (bxP x0) h fun t2 h0 =>
  mk Heap.new (bxP x1) h0 fun t3 h1 =>
  cl (k_law11_awake h1) fun t12 h2 =>
  (unA .not t12).bind fun t13 =>
  condE t13 (
  some ((AV.bool false), h2)) (
  (ldA 7 h2 t3).bind fun t14 =>
  mk Heap.new (bsP 7 [(AV.int .i64 0), (AV.int .i64 0), (AV.int .i64 0), (AV.int .i64 0), (AV.sl none 0 (.ex 0)), (AV.sl none 0 (.ex 0)), (AV.sl none 0 (.ex 0))] 1 [(0, t14)]) h2 fun t15 h3 =>
  (faP 4 t2).bind fun t16 =>
  (ldS h3 t16).bind fun t17 =>
  cl (appendA h3 7 104 t15 t17) fun t18 h4 =>
  (faP 4 t2).bind fun t19 =>
  cl (stP 1 h4 t19 t18) fun u h5 =>
  (ldA 6 h5 t2).bind fun t20 =>
  cl (k_ref17_Big t20 h5) fun t21 h6 =>
  gQ (gdW t21 false) h6 ((faP 5 t3).bind fun t23 =>
  some (t23, h6)) fun t23_7 h8 =>
  gQ (gdW t21 false) h8 ((ldS h8 t23_7).bind fun t24 =>
  some (t24, h8)) fun t24_9 h10 =>
  gQ (gdW t21 false) h10 ((lnL t24_9).bind fun t25 =>
  some (t25, h10)) fun t25_11 h12 =>
  gQ (gdW t21 false) h12 ((binP .gtr t25_11 (AV.int .i64 60)).bind fun t26 =>
  some (t26, h12)) fun t26_13 h14 =>
  (pickP t21 (AV.bool true) t26_13).bind fun t27 =>
  condE t27 (
  some ((AV.bool true), h14)) (
  (ldA 6 h14 t2).bind fun t28 =>
  (ldA 7 h14 t3).bind fun t29 =>
  cl (k_fresh_Sets t28 t29 h14) fun t30 h15 =>
  lp (k_law11_FreshPoints_L0 t3 (AV.bool false) (AV.bool false) (AV.int .i64 0) h15) fun e vs h57 =>
  thenK (if e = .exit 0 then .normal else e) (
  lp (k_law11_FreshPoints_L3 t3 t30 vs (vs.getD 0 .bot) (AV.int .i64 0) h57) fun e_175 vs_176 h177 =>
  thenK (if e_175 = .exit 2 then .normal else e_175) (
  some ((AV.bool true), h177)) (fun e_178 => endE e_178 (some ((vs_176.getD 0 .bot), h177)))) (fun e_179 => endE e_179 (some ((vs.getD 0 .bot), h57)))))
def T61 : Tab := (7, p2 k_law11_FreshPoints) :: T60
end
end Go.Ab.F