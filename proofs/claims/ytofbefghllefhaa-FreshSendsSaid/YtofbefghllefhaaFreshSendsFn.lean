/- PRINTED by Gen.lean: the program's functions on the abstract machine's values and heaps. -/
import Derived.Test.YtofbefghllefhaaAbS
namespace Go.Ab.F
open Go Go.Ab
set_option linter.all false
noncomputable section
def T0 : Tab := []
/- 65: gantline/live.given$1 -/
def k_live_given_1 (x0 : AV) (h : Heap) : Option (AV × Heap) :=
  (eqP (some (.int .i64)) none false .eql x0 (AV.int .i64 (-1))).bind fun t4 =>
  some (t4, h)
def T1 : Tab := (65, p1 k_live_given_1) :: T0
/- 51: gantline/live.Follows$1 -/
def k_live_Follows_1 (x0 : AV) (x1 : AV) (h : Heap) : Option (AV × Heap) :=
  (binP .lss x0 (AV.int .i64 0)).bind fun t5 =>
  gQ (gdW t5 false) h (some (x0, h)) fun t7 h0 =>
  gQ (gdW t5 false) h0 ((faP 5 x1).bind fun t8 =>
  some (t8, h0)) fun t8_1 h2 =>
  gQ (gdW t5 false) h2 ((ldS h2 t8_1).bind fun t9 =>
  some (t9, h2)) fun t9_3 h4 =>
  gQ (gdW t5 false) h4 ((lnL t9_3).bind fun t10 =>
  some (t10, h4)) fun t10_5 h6 =>
  gQ (gdW t5 false) h6 ((binP .geq t7 t10_5).bind fun t11 =>
  some (t11, h6)) fun t11_7 h8 =>
  (pickP t5 (AV.bool true) t11_7).bind fun t12 =>
  some (t12, h8)
def T2 : Tab := (51, p2 k_live_Follows_1) :: T1
/- 31: gantline/gantlinelaw11.pair -/
def k_law11_pair_j0 (t2 : AV) (t3 : AV) (t4 : AV) (h6 : Heap) : Option (AV × Heap) :=
  (faP 5 t4).bind fun t17 =>
  (ldS h6 t17).bind fun t18 =>
  (bldS [(0, 1), (1, 1), (2, 1), (3, 1), (4, 1)] [(AV.int .i64 0), (AV.int .i64 0), (AV.int .i64 0), (AV.int .i64 0), (AV.int .i64 0)] [(0, (AV.int .i64 28)), (3, (AV.int .i64 1))]).bind fun t19 =>
  (bldS [(0, 1), (1, 1), (2, 1), (3, 1), (4, 1)] [(AV.int .i64 0), (AV.int .i64 0), (AV.int .i64 0), (AV.int .i64 0), (AV.int .i64 0)] [(0, (AV.int .i64 22)), (1, (AV.int .i64 (-1)))]).bind fun t20 =>
  mk (bsP 5 [(AV.int .i64 0), (AV.int .i64 0), (AV.int .i64 0), (AV.int .i64 0), (AV.int .i64 0)] 2 [(0, t19), (1, t20)]) h6 fun t21 h7 =>
  cl (appendA h7 5 40 t18 t21) fun t22 h8 =>
  (faP 5 t4).bind fun t23 =>
  cl (stP 1 h8 t23 t22) fun u_9 h10 =>
  (bldS [(0, 1), (1, 1), (2, 1)] [(AV.int .i64 0), (AV.int .i64 0), (AV.int .u64 0)] [(1, (AV.int .i64 1)), (2, (AV.int .u64 1))]).bind fun t24 =>
  cl (mkAt (bsP 3 [(AV.int .i64 0), (AV.int .i64 0), (AV.int .u64 0)] 1 [(0, t24)]) (h10.next + 0) (hpN h10 1)) fun t25 h11 =>
  (bldS [(0, 1), (1, 1), (2, 1), (3, 1), (4, 1), (5, 1)] [(AV.sl none 0 (.ex 0)), (AV.sl none 0 (.ex 0)), (AV.sl none 0 (.ex 0)), (AV.sl none 0 (.ex 0)), (AV.sl none 0 (.ex 0)), (AV.int .i64 0)] [(0, t25)]).bind fun t26 =>
  clC (rdC (fun g => ldA 7 g t4) (hpN h10 1) 0 1 []) fun t27 cs =>
  cl (stP 6 h11 t2 t26) fun u_12 h13 =>
  cl (stP 7 h13 t3 t27) fun u_14 h15 =>
  chk [(hpN h10 1), h13, h15] cs (
  (ldA 6 h15 t2).bind fun t =>
  (ldA 7 h15 t3).bind fun t_16 =>
  some (AV.tup [t, t_16], h15))
def k_law11_pair (x0 : AV) (h : Heap) : Option (AV × Heap) :=
  mk (some (Blk.cells true [(AV.sl none 0 (.ex 0)), (AV.sl none 0 (.ex 0)), (AV.sl none 0 (.ex 0)), (AV.sl none 0 (.ex 0)), (AV.sl none 0 (.ex 0)), (AV.int .i64 0)], fun i => AV.ptr (some (i, 0)))) h fun t2 h0 =>
  mk (some (Blk.cells true [(AV.int .i64 0), (AV.int .i64 0), (AV.int .i64 0), (AV.int .i64 0), (AV.sl none 0 (.ex 0)), (AV.sl none 0 (.ex 0)), (AV.sl none 0 (.ex 0))], fun i => AV.ptr (some (i, 0)))) h0 fun t3 h1 =>
  mk (bsP 1 [(AV.bool false)] 2 [(0, (AV.bool true)), (1, (AV.bool true))]) h1 fun t5 h2 =>
  (bldS [(0, 1), (1, 1), (2, 1), (3, 1), (4, 1)] [(AV.int .i64 0), (AV.int .i64 0), (AV.int .i64 0), (AV.int .i64 0), (AV.int .i64 0)] [(0, (AV.int .i64 25))]).bind fun t6 =>
  (bldS [(0, 1), (1, 1), (2, 1), (3, 1), (4, 1)] [(AV.int .i64 0), (AV.int .i64 0), (AV.int .i64 0), (AV.int .i64 0), (AV.int .i64 0)] [(0, (AV.int .i64 25)), (1, (AV.int .i64 1))]).bind fun t7 =>
  mk (bsP 5 [(AV.int .i64 0), (AV.int .i64 0), (AV.int .i64 0), (AV.int .i64 0), (AV.int .i64 0)] 2 [(0, t6), (1, t7)]) h2 fun t8 h3 =>
  (bldS [(0, 1), (1, 1), (2, 1), (3, 1), (4, 1), (5, 1), (6, 1)] [(AV.int .i64 0), (AV.int .i64 0), (AV.int .i64 0), (AV.int .i64 0), (AV.sl none 0 (.ex 0)), (AV.sl none 0 (.ex 0)), (AV.sl none 0 (.ex 0))] [(2, (AV.int .i64 2)), (4, t5), (5, t8)]).bind fun t9 =>
  mk (some (Blk.cells true [(AV.int .i64 0), (AV.int .i64 0), (AV.int .i64 0), (AV.int .i64 0), (AV.sl none 0 (.ex 0)), (AV.sl none 0 (.ex 0)), (AV.sl none 0 (.ex 0))], fun i => AV.ptr (some (i, 0)))) h3 fun t4 h4 =>
  cl (stP 7 h4 t4 t9) fun u h5 =>
  condE x0 (
  (faP 5 t4).bind fun t11 =>
  (ldS h5 t11).bind fun t12 =>
  (bldS [(0, 1), (1, 1), (2, 1), (3, 1), (4, 1)] [(AV.int .i64 0), (AV.int .i64 0), (AV.int .i64 0), (AV.int .i64 0), (AV.int .i64 0)] [(0, (AV.int .i64 43))]).bind fun t13 =>
  mk (bsP 5 [(AV.int .i64 0), (AV.int .i64 0), (AV.int .i64 0), (AV.int .i64 0), (AV.int .i64 0)] 1 [(0, t13)]) h5 fun t14 h17 =>
  cl (appendA h17 5 40 t12 t14) fun t15 h18 =>
  (faP 5 t4).bind fun t16 =>
  cl (stP 1 h18 t16 t15) fun u_19 h20 =>
  k_law11_pair_j0 t2 t3 t4 h20) (
  k_law11_pair_j0 t2 t3 t4 h5)
def T3 : Tab := (31, p1 k_law11_pair) :: T2
/- 57: slices.Clone[gantline/fresh.states,gantline/fresh.State] -/
def k_slices_Clone_fresh_states_fresh_State (x0 : AV) (h : Heap) : Option (AV × Heap) :=
  (eqP (some (.slice 0)) none false .eql x0 (AV.sl none 0 (.ex 0))).bind fun t4 =>
  condE t4 (
  some ((AV.sl none 0 (.ex 0)), h)) (
  mk (bsP 3 [(AV.bool false), (AV.bool false), (AV.int .u64 0)] 0 []) h fun t5 h0 =>
  cl (appendA h0 3 16 t5 x0) fun t7 h1 =>
  some (t7, h1))
def T4 : Tab := (57, p1 k_slices_Clone_fresh_states_fresh_State) :: T3
/- 59: gantline/fresh.sent -/
def k_fresh_sent_b0 (t49 : AV) (t50 : AV) (q5 : AV) (q51 : AV) (h44 : Heap) : OutV :=
  (binP .lss q51 t50).bind fun t52 =>
  condE t52 (
  (iaS 4 t49 q51).bind fun t53 =>
  (ldA 4 h44 t53).bind fun t54 =>
  mk (some (Blk.cells true [(AV.int .i64 0), (AV.int .i64 0), (AV.int .i64 0), (AV.int .i64 0)], fun i => AV.ptr (some (i, 0)))) h44 fun t7 h47 =>
  cl (stP 4 h47 t7 t54) fun u h48 =>
  (faP 0 t7).bind fun t55 =>
  (ldS h48 t55).bind fun t56 =>
  (eqP (some (.int .i64)) none false .eql t56 (AV.int .i64 1)).bind fun t57 =>
  condE t57 (
  (faP 2 t7).bind fun t59 =>
  (ldS h48 t59).bind fun t60 =>
  mk (bsP 1 [(AV.int .i64 0)] 1 [(0, t60)]) h48 fun t61 h57 =>
  cl (appendA h57 1 8 q5 t61) fun t62 h58 =>
  (binP .add q51 (AV.int .i64 1)).bind fun t63_59 =>
  some (.normal, [t62, t63_59], h58)) (
  (binP .add q51 (AV.int .i64 1)).bind fun t63_60 =>
  some (.normal, [q5, t63_60], h48))) (
  some ((.exit 0), [q5, q51], h44))
def k_fresh_sent_L0 (t49 : AV) (t50 : AV) (q5 : AV) (q51 : AV) (h44 : Heap) : OutV := loopN (fun us g => k_fresh_sent_b0 t49 t50 (us.getD 0 .bot) (us.getD 1 .bot) g) [q5, q51] h44
def k_fresh_sent (x0 : AV) (x1 : AV) (h : Heap) : Option (AV × Heap) :=
  mk (bxP x0) h fun t2 h0 =>
  mk (bxP x1) h0 fun t3 h1 =>
  (faP 0 t3).bind fun t8 =>
  (ldS h1 t8).bind fun t9 =>
  (eqP (some (.int .i64)) none false .neq t9 (AV.int .i64 41)).bind fun t10 =>
  gQ (gdW t10 false) h1 ((faP 1 t3).bind fun t12 =>
  some (t12, h1)) fun t12_2 h3 =>
  gQ (gdW t10 false) h3 ((ldS h3 t12_2).bind fun t13 =>
  some (t13, h3)) fun t13_4 h5 =>
  gQ (gdW t10 false) h5 ((binP .lss t13_4 (AV.int .i64 0)).bind fun t14 =>
  some (t14, h5)) fun t14_6 h7 =>
  (pickP t10 (AV.bool true) t14_6).bind fun t15 =>
  gQ (gdW t15 false) h7 ((faP 2 t3).bind fun t17 =>
  some (t17, h7)) fun t17_8 h9 =>
  gQ (gdW t15 false) h9 ((ldS h9 t17_8).bind fun t18 =>
  some (t18, h9)) fun t18_10 h11 =>
  gQ (gdW t15 false) h11 ((binP .lss t18_10 (AV.int .i64 0)).bind fun t19 =>
  some (t19, h11)) fun t19_12 h13 =>
  (pickP t15 (AV.bool true) t19_12).bind fun t20 =>
  gQ (gdW t20 false) h13 ((faP 1 t3).bind fun t22 =>
  some (t22, h13)) fun t22_14 h15 =>
  gQ (gdW t20 false) h15 ((ldS h15 t22_14).bind fun t23 =>
  some (t23, h15)) fun t23_16 h17 =>
  gQ (gdW t20 false) h17 ((faP 3 t2).bind fun t24 =>
  some (t24, h17)) fun t24_18 h19 =>
  gQ (gdW t20 false) h19 ((ldS h19 t24_18).bind fun t25 =>
  some (t25, h19)) fun t25_20 h21 =>
  gQ (gdW t20 false) h21 ((lnL t25_20).bind fun t26 =>
  some (t26, h21)) fun t26_22 h23 =>
  gQ (gdW t20 false) h23 ((binP .gtr t23_16 t26_22).bind fun t27 =>
  some (t27, h23)) fun t27_24 h25 =>
  (pickP t20 (AV.bool true) t27_24).bind fun t28 =>
  gQ (gdW t28 false) h25 ((faP 2 t3).bind fun t30 =>
  some (t30, h25)) fun t30_26 h27 =>
  gQ (gdW t28 false) h27 ((ldS h27 t30_26).bind fun t31 =>
  some (t31, h27)) fun t31_28 h29 =>
  gQ (gdW t28 false) h29 ((faP 3 t2).bind fun t32 =>
  some (t32, h29)) fun t32_30 h31 =>
  gQ (gdW t28 false) h31 ((ldS h31 t32_30).bind fun t33 =>
  some (t33, h31)) fun t33_32 h33 =>
  gQ (gdW t28 false) h33 ((lnL t33_32).bind fun t34 =>
  some (t34, h33)) fun t34_34 h35 =>
  gQ (gdW t28 false) h35 ((faP 1 t3).bind fun t35 =>
  some (t35, h35)) fun t35_36 h37 =>
  gQ (gdW t28 false) h37 ((ldS h37 t35_36).bind fun t36 =>
  some (t36, h37)) fun t36_38 h39 =>
  gQ (gdW t28 false) h39 ((binP .sub t34_34 t36_38).bind fun t37 =>
  some (t37, h39)) fun t37_40 h41 =>
  gQ (gdW t28 false) h41 ((binP .gtr t31_28 t37_40).bind fun t38 =>
  some (t38, h41)) fun t38_42 h43 =>
  (pickP t28 (AV.bool true) t38_42).bind fun t39 =>
  condE t39 (
  some ((AV.sl none 0 (.ex 0)), h43)) (
  (faP 3 t2).bind fun t40 =>
  (ldS h43 t40).bind fun t41 =>
  (faP 1 t3).bind fun t42 =>
  (ldS h43 t42).bind fun t43 =>
  (faP 1 t3).bind fun t44 =>
  (ldS h43 t44).bind fun t45 =>
  (faP 2 t3).bind fun t46 =>
  (ldS h43 t46).bind fun t47 =>
  (binP .add t45 t47).bind fun t48 =>
  (slcP 4 t41 (some t43) (some t48) none).bind fun t49 =>
  (lnL t49).bind fun t50 =>
  lp (k_fresh_sent_L0 t49 t50 (AV.sl none 0 (.ex 0)) (AV.int .i64 0) h43) fun e vs h61 =>
  thenK (if e = .exit 0 then .normal else e) (
  some ((vs.getD 0 .bot), h61)) (fun e_62 => endE e_62 (some ((AV.sl none 0 (.ex 0)), h61))))
def T5 : Tab := (59, p2 k_fresh_sent) :: T4
/- 58: (gantline/fresh.states).lend -/
def k_fresh_states_lend_b0 (x0 : AV) (x1 : AV) (t7 : AV) (q8 : AV) (h0 : Heap) : OutV :=
  (binP .lss q8 t7).bind fun t9 =>
  condE t9 (
  (iaS 1 x1 q8).bind fun t10 =>
  (ldS h0 t10).bind fun t11 =>
  (binP .geq t11 (AV.int .i64 0)).bind fun t13 =>
  gQ (gdW t13 true) h0 (some (t11, h0)) fun t15 h2 =>
  gQ (gdW t13 true) h2 (some (x0, h2)) fun t16 h3 =>
  gQ (gdW t13 true) h3 ((lnL t16).bind fun t17 =>
  some (t17, h3)) fun t17_4 h5 =>
  gQ (gdW t13 true) h5 ((binP .lss t15 t17_4).bind fun t18 =>
  some (t18, h5)) fun t18_6 h7 =>
  (pickP t13 t18_6 (AV.bool false)).bind fun t19 =>
  condE t19 (
  (iaS 3 x0 t11).bind fun t22 =>
  (faP 1 t22).bind fun t23 =>
  cl (stP 1 h7 t23 (AV.bool false)) fun u h14 =>
  (binP .add q8 (AV.int .i64 1)).bind fun t24_15 =>
  some (.normal, [t24_15], h14)) (
  (binP .add q8 (AV.int .i64 1)).bind fun t24_16 =>
  some (.normal, [t24_16], h7))) (
  some ((.exit 0), [q8], h0))
def k_fresh_states_lend_L0 (x0 : AV) (x1 : AV) (t7 : AV) (q8 : AV) (h0 : Heap) : OutV := loopN (fun us g => k_fresh_states_lend_b0 x0 x1 t7 (us.getD 0 .bot) g) [q8] h0
def k_fresh_states_lend (x0 : AV) (x1 : AV) (h : Heap) : Option (AV × Heap) :=
  (lnL x1).bind fun t7 =>
  lp (k_fresh_states_lend_L0 x0 x1 t7 (AV.int .i64 0) h) fun e vs h17 =>
  endE (if e = .exit 0 then .normal else e) (some (AV.tup [], h17))
def T6 : Tab := (58, p2 k_fresh_states_lend) :: T5
/- 34: gantline/code.Maker -/
def k_code_Maker (x0 : AV) (h : Heap) : Option (AV × Heap) :=
  (eqP (some (.int .i64)) none false .eql x0 (AV.int .i64 25)).bind fun t4 =>
  gQ (gdW t4 false) h (some (x0, h)) fun t6 h0 =>
  gQ (gdW t4 false) h0 ((eqP (some (.int .i64)) none false .eql t6 (AV.int .i64 26)).bind fun t7 =>
  some (t7, h0)) fun t7_1 h2 =>
  (pickP t4 (AV.bool true) t7_1).bind fun t8 =>
  gQ (gdW t8 false) h2 (some (x0, h2)) fun t10 h3 =>
  gQ (gdW t8 false) h3 ((eqP (some (.int .i64)) none false .eql t10 (AV.int .i64 36)).bind fun t11 =>
  some (t11, h3)) fun t11_4 h5 =>
  (pickP t8 (AV.bool true) t11_4).bind fun t12 =>
  gQ (gdW t12 false) h5 (some (x0, h5)) fun t14 h6 =>
  gQ (gdW t12 false) h6 ((eqP (some (.int .i64)) none false .eql t14 (AV.int .i64 37)).bind fun t15 =>
  some (t15, h6)) fun t15_7 h8 =>
  (pickP t12 (AV.bool true) t15_7).bind fun t16 =>
  some (t16, h8)
def T7 : Tab := (34, p1 k_code_Maker) :: T6
/- 35: gantline/code.Point -/
def k_code_Point_j0 (x0 : AV) (q4 : AV) (h0 : Heap) : Option (AV × Heap) :=
  condE q4 (
  some ((AV.bool true), h0)) (
  cl (k_code_Maker x0 h0) fun t14 h1 =>
  some (t14, h1))
def k_code_Point (x0 : AV) (h : Heap) : Option (AV × Heap) :=
  (eqP (some (.int .i64)) none false .eql x0 (AV.int .i64 20)).bind fun t5 =>
  condE t5 (
  k_code_Point_j0 x0 t5 h) (
  (eqP (some (.int .i64)) none false .eql x0 (AV.int .i64 21)).bind fun t6 =>
  condE t6 (
  k_code_Point_j0 x0 t6 h) (
  (eqP (some (.int .i64)) none false .eql x0 (AV.int .i64 23)).bind fun t7 =>
  condE t7 (
  k_code_Point_j0 x0 t7 h) (
  (eqP (some (.int .i64)) none false .eql x0 (AV.int .i64 24)).bind fun t8 =>
  condE t8 (
  k_code_Point_j0 x0 t8 h) (
  (eqP (some (.int .i64)) none false .eql x0 (AV.int .i64 38)).bind fun t9 =>
  condE t9 (
  k_code_Point_j0 x0 t9 h) (
  (eqP (some (.int .i64)) none false .eql x0 (AV.int .i64 39)).bind fun t10 =>
  condE t10 (
  k_code_Point_j0 x0 t10 h) (
  (eqP (some (.int .i64)) none false .eql x0 (AV.int .i64 41)).bind fun t11 =>
  condE t11 (
  k_code_Point_j0 x0 t11 h) (
  (eqP (some (.int .i64)) none false .eql x0 (AV.int .i64 43)).bind fun t12 =>
  k_code_Point_j0 x0 t12 h)))))))
def T8 : Tab := (35, p1 k_code_Point) :: T7
/- 41: gantline/live.fn -/
def k_live_fn (x0 : AV) (x1 : AV) (h : Heap) : Option (AV × Heap) :=
  mk (bxP x0) h fun t2 h0 =>
  mk (some (Blk.cells true [(AV.int .i64 0), (AV.int .i64 0), (AV.int .i64 0), (AV.int .i64 0), (AV.sl none 0 (.ex 0)), (AV.sl none 0 (.ex 0)), (AV.sl none 0 (.ex 0))], fun i => AV.ptr (some (i, 0)))) h0 fun t4 h1 =>
  (binP .lss x1 (AV.int .i64 0)).bind fun t6 =>
  gQ (gdW t6 false) h1 (some (x1, h1)) fun t8 h2 =>
  gQ (gdW t6 false) h2 ((faP 4 t2).bind fun t9 =>
  some (t9, h2)) fun t9_3 h4 =>
  gQ (gdW t6 false) h4 ((ldS h4 t9_3).bind fun t10 =>
  some (t10, h4)) fun t10_5 h6 =>
  gQ (gdW t6 false) h6 ((lnL t10_5).bind fun t11 =>
  some (t11, h6)) fun t11_7 h8 =>
  gQ (gdW t6 false) h8 ((binP .geq t8 t11_7).bind fun t12 =>
  some (t12, h8)) fun t12_9 h10 =>
  (pickP t6 (AV.bool true) t12_9).bind fun t13 =>
  condE t13 (
  (bldS [(0, 1), (1, 1), (2, 1), (3, 1), (4, 1), (5, 1), (6, 1)] [(AV.int .i64 0), (AV.int .i64 0), (AV.int .i64 0), (AV.int .i64 0), (AV.sl none 0 (.ex 0)), (AV.sl none 0 (.ex 0)), (AV.sl none 0 (.ex 0))] []).bind fun t14 =>
  cl (stP 7 h10 t4 t14) fun u h11 =>
  (ldA 7 h11 t4).bind fun t =>
  some (t, h11)) (
  (faP 4 t2).bind fun t15 =>
  (ldS h10 t15).bind fun t16 =>
  (iaS 7 t16 x1).bind fun t18 =>
  (ldA 7 h10 t18).bind fun t19 =>
  cl (stP 7 h10 t4 t19) fun u_12 h13 =>
  (ldA 7 h13 t4).bind fun t_14 =>
  some (t_14, h13))
def T9 : Tab := (41, p2 k_live_fn) :: T8
/- 40: gantline/live.run -/
def k_live_run_b0 (x0 : AV) (x1 : AV) (q5_1 : AV) (q10_2 : AV) (h3 : Heap) : OutV :=
  (binP .lss q10_2 x1).bind fun t11 =>
  condE t11 (
  (binP .add x0 q10_2).bind fun t16 =>
  mk (bsP 1 [(AV.int .i64 0)] 1 [(0, t16)]) h3 fun t17 h4 =>
  cl (appendA h4 1 8 q5_1 t17) fun t18 h5 =>
  (binP .add q10_2 (AV.int .i64 1)).bind fun t19 =>
  some (.normal, [t18, t19], h5)) (
  some ((.exit 0), [q5_1, q10_2], h3))
def k_live_run_L0 (x0 : AV) (x1 : AV) (q5_1 : AV) (q10_2 : AV) (h3 : Heap) : OutV := loopN (fun us g => k_live_run_b0 x0 x1 (us.getD 0 .bot) (us.getD 1 .bot) g) [q5_1, q10_2] h3
def k_live_run (x0 : AV) (x1 : AV) (h : Heap) : Option (AV × Heap) :=
  (binP .leq x1 (AV.int .i64 64)).bind fun t8 =>
  condE t8 (
  lp (k_live_run_L0 x0 x1 (AV.sl none 0 (.ex 0)) (AV.int .i64 0) h) fun e vs h6 =>
  thenK (if e = .exit 0 then .normal else e) (
  some ((vs.getD 0 .bot), h6)) (fun e_7 => endE e_7 (some ((AV.sl none 0 (.ex 0)), h6)))) (
  some ((AV.sl none 0 (.ex 0)), h))
def T10 : Tab := (40, p2 k_live_run) :: T9
/- 66: slices.IndexFunc[[]int,int] -/
def k_slices_IndexFunc_int_int_b0 (x0 : AV) (x1 : AV) (t7 : AV) (q4 : AV) (q8 : AV) (h0 : Heap) : OutV :=
  (binP .lss q8 t7).bind fun t9 =>
  condE t9 (
  (iaS 1 x0 q8).bind fun t14 =>
  (ldS h0 t14).bind fun t15 =>
  clF (lookT T10) (cvP x1 [t15]) h0 fun t16 h1 =>
  condE t16 (
  some (.ret, [q8, q8], h1)) (
  (binP .add q8 (AV.int .i64 1)).bind fun t18 =>
  some (.normal, [q4, t18], h1))) (
  some ((.exit 0), [q4, q8], h0))
def k_slices_IndexFunc_int_int_L0 (x0 : AV) (x1 : AV) (t7 : AV) (q4 : AV) (q8 : AV) (h0 : Heap) : OutV := loopN (fun us g => k_slices_IndexFunc_int_int_b0 x0 x1 t7 (us.getD 0 .bot) (us.getD 1 .bot) g) [q4, q8] h0
def k_slices_IndexFunc_int_int (x0 : AV) (x1 : AV) (h : Heap) : Option (AV × Heap) :=
  (lnL x0).bind fun t7 =>
  lp (k_slices_IndexFunc_int_int_L0 x0 x1 t7 (AV.int .i64 0) (AV.int .i64 0) h) fun e vs h2 =>
  thenK (if e = .exit 0 then .normal else e) (
  some ((AV.int .i64 (-1)), h2)) (fun e_3 => endE e_3 (some ((vs.getD 0 .bot), h2)))
def T11 : Tab := (66, p2 k_slices_IndexFunc_int_int) :: T10
/- 50: slices.DeleteFunc[[]int,int] -/
def k_slices_DeleteFunc_int_int_b0 (x0 : AV) (x1 : AV) (q5 : AV) (q6 : AV) (h1 : Heap) : OutV :=
  (lnL x0).bind fun t18 =>
  (binP .lss q6 t18).bind fun t19 =>
  condE t19 (
  (iaS 1 x0 q6).bind fun t24 =>
  (ldS h1 t24).bind fun t25 =>
  clF (lookT T11) (cvP x1 [t25]) h1 fun t28 h4 =>
  (unA .not t28).bind fun t29 =>
  condE t29 (
  (iaS 1 x0 q5).bind fun t33 =>
  cl (stP 1 h4 t33 t25) fun u h14 =>
  (binP .add q5 (AV.int .i64 1)).bind fun t35 =>
  (binP .add q6 (AV.int .i64 1)).bind fun t21_15 =>
  some (.normal, [t35, t21_15], h14)) (
  (binP .add q6 (AV.int .i64 1)).bind fun t21_16 =>
  some (.normal, [q5, t21_16], h4))) (
  some ((.exit 0), [q5, q6], h1))
def k_slices_DeleteFunc_int_int_L0 (x0 : AV) (x1 : AV) (q5 : AV) (q6 : AV) (h1 : Heap) : OutV := loopN (fun us g => k_slices_DeleteFunc_int_int_b0 x0 x1 (us.getD 0 .bot) (us.getD 1 .bot) g) [q5, q6] h1
def k_slices_DeleteFunc_int_int (x0 : AV) (x1 : AV) (h : Heap) : Option (AV × Heap) :=
  cl (k_slices_IndexFunc_int_int x0 x1 h) fun t10 h0 =>
  (eqP (some (.int .i64)) none false .eql t10 (AV.int .i64 (-1))).bind fun t12 =>
  condE t12 (
  some (x0, h0)) (
  (binP .add t10 (AV.int .i64 1)).bind fun t15 =>
  lp (k_slices_DeleteFunc_int_int_L0 x0 x1 t10 t15 h0) fun e vs h17 =>
  thenK (if e = .exit 0 then .normal else e) (
  (slcP 1 x0 (some (vs.getD 0 .bot)) none none).bind fun t38 =>
  cl (clL 1 [(AV.int .i64 0)] h17 t38) fun u_18 h19 =>
  (slcP 1 x0 none (some (vs.getD 0 .bot)) none).bind fun t41 =>
  some (t41, h19)) (fun e_20 => endE e_20 (some ((AV.sl none 0 (.ex 0)), h17))))
def T12 : Tab := (50, p2 k_slices_DeleteFunc_int_int) :: T11
/- 42: gantline/live.given -/
def k_live_given (x0 : AV) (h : Heap) : Option (AV × Heap) :=
  cl (k_slices_DeleteFunc_int_int x0 (AV.fn 65 [] []) h) fun t4 h0 =>
  some (t4, h0)
def T13 : Tab := (42, p1 k_live_given) :: T12
/- 44: gantline/live.cases -/
def k_live_cases (x0 : AV) (x1 : AV) (h : Heap) : Option (AV × Heap) :=
  mk (bxP x0) h fun t2 h0 =>
  mk (bxP x1) h0 fun t3 h1 =>
  (faP 1 t3).bind fun t5 =>
  (ldS h1 t5).bind fun t6 =>
  (binP .lss t6 (AV.int .i64 0)).bind fun t7 =>
  gQ (gdW t7 false) h1 ((faP 2 t3).bind fun t9 =>
  some (t9, h1)) fun t9_2 h3 =>
  gQ (gdW t7 false) h3 ((ldS h3 t9_2).bind fun t10 =>
  some (t10, h3)) fun t10_4 h5 =>
  gQ (gdW t7 false) h5 ((binP .lss t10_4 (AV.int .i64 0)).bind fun t11 =>
  some (t11, h5)) fun t11_6 h7 =>
  (pickP t7 (AV.bool true) t11_6).bind fun t12 =>
  gQ (gdW t12 false) h7 ((faP 1 t3).bind fun t14 =>
  some (t14, h7)) fun t14_8 h9 =>
  gQ (gdW t12 false) h9 ((ldS h9 t14_8).bind fun t15 =>
  some (t15, h9)) fun t15_10 h11 =>
  gQ (gdW t12 false) h11 ((faP 3 t2).bind fun t16 =>
  some (t16, h11)) fun t16_12 h13 =>
  gQ (gdW t12 false) h13 ((ldS h13 t16_12).bind fun t17 =>
  some (t17, h13)) fun t17_14 h15 =>
  gQ (gdW t12 false) h15 ((lnL t17_14).bind fun t18 =>
  some (t18, h15)) fun t18_16 h17 =>
  gQ (gdW t12 false) h17 ((binP .gtr t15_10 t18_16).bind fun t19 =>
  some (t19, h17)) fun t19_18 h19 =>
  (pickP t12 (AV.bool true) t19_18).bind fun t20 =>
  gQ (gdW t20 false) h19 ((faP 2 t3).bind fun t22 =>
  some (t22, h19)) fun t22_20 h21 =>
  gQ (gdW t20 false) h21 ((ldS h21 t22_20).bind fun t23 =>
  some (t23, h21)) fun t23_22 h23 =>
  gQ (gdW t20 false) h23 ((faP 3 t2).bind fun t24 =>
  some (t24, h23)) fun t24_24 h25 =>
  gQ (gdW t20 false) h25 ((ldS h25 t24_24).bind fun t25 =>
  some (t25, h25)) fun t25_26 h27 =>
  gQ (gdW t20 false) h27 ((lnL t25_26).bind fun t26 =>
  some (t26, h27)) fun t26_28 h29 =>
  gQ (gdW t20 false) h29 ((faP 1 t3).bind fun t27 =>
  some (t27, h29)) fun t27_30 h31 =>
  gQ (gdW t20 false) h31 ((ldS h31 t27_30).bind fun t28 =>
  some (t28, h31)) fun t28_32 h33 =>
  gQ (gdW t20 false) h33 ((binP .sub t26_28 t28_32).bind fun t29 =>
  some (t29, h33)) fun t29_34 h35 =>
  gQ (gdW t20 false) h35 ((binP .gtr t23_22 t29_34).bind fun t30 =>
  some (t30, h35)) fun t30_36 h37 =>
  (pickP t20 (AV.bool true) t30_36).bind fun t31 =>
  condE t31 (
  some ((AV.sl none 0 (.ex 0)), h37)) (
  (faP 3 t2).bind fun t32 =>
  (ldS h37 t32).bind fun t33 =>
  (faP 1 t3).bind fun t34 =>
  (ldS h37 t34).bind fun t35 =>
  (faP 1 t3).bind fun t36 =>
  (ldS h37 t36).bind fun t37 =>
  (faP 2 t3).bind fun t38 =>
  (ldS h37 t38).bind fun t39 =>
  (binP .add t37 t39).bind fun t40 =>
  (slcP 4 t33 (some t35) (some t40) none).bind fun t41 =>
  some (t41, h37))
def T14 : Tab := (44, p2 k_live_cases) :: T13
/- 43: gantline/live.readsOf -/
def k_live_readsOf_j0 (q8 : AV) (t5 : AV) (q3_10 : AV) (h11 : Heap) : OutV :=
  (faP 0 t5).bind fun t20 =>
  (ldS h11 t20).bind fun t21 =>
  (eqP (some (.int .i64)) none false .eql t21 (AV.int .i64 1)).bind fun t22 =>
  condE t22 (
  (faP 2 t5).bind fun t24 =>
  (ldS h11 t24).bind fun t25 =>
  mk (bsP 1 [(AV.int .i64 0)] 1 [(0, t25)]) h11 fun t26 h20 =>
  cl (appendA h20 1 8 q3_10 t26) fun t27 h21 =>
  (binP .add q8 (AV.int .i64 1)).bind fun t28_22 =>
  some (.normal, [t27, t28_22], h21)) (
  (binP .add q8 (AV.int .i64 1)).bind fun t28_23 =>
  some (.normal, [q3_10, t28_23], h11))
def k_live_readsOf_b0 (x0 : AV) (t7 : AV) (q3 : AV) (q8 : AV) (h0 : Heap) : OutV :=
  (binP .lss q8 t7).bind fun t9 =>
  condE t9 (
  (iaS 4 x0 q8).bind fun t10 =>
  (ldA 4 h0 t10).bind fun t11 =>
  mk (some (Blk.cells true [(AV.int .i64 0), (AV.int .i64 0), (AV.int .i64 0), (AV.int .i64 0)], fun i => AV.ptr (some (i, 0)))) h0 fun t5 h3 =>
  cl (stP 4 h3 t5 t11) fun u h4 =>
  (faP 0 t5).bind fun t12 =>
  (ldS h4 t12).bind fun t13 =>
  (eqP (some (.int .i64)) none false .neq t13 (AV.int .i64 2)).bind fun t14 =>
  condE t14 (
  (faP 1 t5).bind fun t16 =>
  (ldS h4 t16).bind fun t17 =>
  mk (bsP 1 [(AV.int .i64 0)] 1 [(0, t17)]) h4 fun t18 h24 =>
  cl (appendA h24 1 8 q3 t18) fun t19 h25 =>
  k_live_readsOf_j0 q8 t5 t19 h25) (
  k_live_readsOf_j0 q8 t5 q3 h4)) (
  some ((.exit 0), [q3, q8], h0))
def k_live_readsOf_L0 (x0 : AV) (t7 : AV) (q3 : AV) (q8 : AV) (h0 : Heap) : OutV := loopN (fun us g => k_live_readsOf_b0 x0 t7 (us.getD 0 .bot) (us.getD 1 .bot) g) [q3, q8] h0
def k_live_readsOf (x0 : AV) (h : Heap) : Option (AV × Heap) :=
  (lnL x0).bind fun t7 =>
  lp (k_live_readsOf_L0 x0 t7 (AV.sl none 0 (.ex 0)) (AV.int .i64 0) h) fun e vs h26 =>
  thenK (if e = .exit 0 then .normal else e) (
  some ((vs.getD 0 .bot), h26)) (fun e_27 => endE e_27 (some ((AV.sl none 0 (.ex 0)), h26)))
def T15 : Tab := (43, p1 k_live_readsOf) :: T14
/- 14: gantline/live.Reads -/
def k_live_Reads (x0 : AV) (x1 : AV) (h : Heap) : Option (AV × Heap) :=
  mk (bxP x0) h fun t2 h0 =>
  mk (bxP x1) h0 fun t3 h1 =>
  (faP 0 t3).bind fun t6 =>
  (ldS h1 t6).bind fun t7 =>
  (eqP (some (.int .i64)) none false .eql t7 (AV.int .i64 1)).bind fun t10 =>
  gQ (gdW t10 false) h1 (some (t7, h1)) fun t12 h2 =>
  gQ (gdW t10 false) h2 ((eqP (some (.int .i64)) none false .eql t12 (AV.int .i64 17)).bind fun t13 =>
  some (t13, h2)) fun t13_3 h4 =>
  (pickP t10 (AV.bool true) t13_3).bind fun t14 =>
  gQ (gdW t14 false) h4 (some (t7, h4)) fun t16 h5 =>
  gQ (gdW t14 false) h5 ((eqP (some (.int .i64)) none false .eql t16 (AV.int .i64 33)).bind fun t17 =>
  some (t17, h5)) fun t17_6 h7 =>
  (pickP t14 (AV.bool true) t17_6).bind fun t18 =>
  gQ (gdW t18 false) h7 (some (t7, h7)) fun t20 h8 =>
  gQ (gdW t18 false) h8 ((eqP (some (.int .i64)) none false .eql t20 (AV.int .i64 35)).bind fun t21 =>
  some (t21, h8)) fun t21_9 h10 =>
  (pickP t18 (AV.bool true) t21_9).bind fun t22 =>
  gQ (gdW t22 false) h10 (some (t7, h10)) fun t24 h11 =>
  gQ (gdW t22 false) h11 ((eqP (some (.int .i64)) none false .eql t24 (AV.int .i64 27)).bind fun t25 =>
  some (t25, h11)) fun t25_12 h13 =>
  (pickP t22 (AV.bool true) t25_12).bind fun t26 =>
  gQ (gdW t26 false) h13 (some (t7, h13)) fun t28 h14 =>
  gQ (gdW t26 false) h14 ((eqP (some (.int .i64)) none false .eql t28 (AV.int .i64 39)).bind fun t29 =>
  some (t29, h14)) fun t29_15 h16 =>
  (pickP t26 (AV.bool true) t29_15).bind fun t30 =>
  condE t30 (
  (faP 2 t3).bind fun t31 =>
  (ldS h16 t31).bind fun t32 =>
  mk (bsP 1 [(AV.int .i64 0)] 1 [(0, t32)]) h16 fun t33 h17 =>
  some (t33, h17)) (
  (binP .geq t7 (AV.int .i64 3)).bind fun t36 =>
  gQ (gdW t36 true) h16 (some (t7, h16)) fun t38 h18 =>
  gQ (gdW t36 true) h18 ((binP .leq t38 (AV.int .i64 16)).bind fun t39 =>
  some (t39, h18)) fun t39_19 h20 =>
  (pickP t36 t39_19 (AV.bool false)).bind fun t40 =>
  gQ (gdW t40 false) h20 (some (t7, h20)) fun t42 h21 =>
  gQ (gdW t40 false) h21 ((eqP (some (.int .i64)) none false .eql t42 (AV.int .i64 30)).bind fun t43 =>
  some (t43, h21)) fun t43_22 h23 =>
  (pickP t40 (AV.bool true) t43_22).bind fun t44 =>
  condE t44 (
  (faP 2 t3).bind fun t45 =>
  (ldS h23 t45).bind fun t46 =>
  (faP 3 t3).bind fun t47 =>
  (ldS h23 t47).bind fun t48 =>
  mk (bsP 1 [(AV.int .i64 0)] 2 [(0, t46), (1, t48)]) h23 fun t49 h24 =>
  some (t49, h24)) (
  (eqP (some (.int .i64)) none false .eql t7 (AV.int .i64 19)).bind fun t52 =>
  gQ (gdW t52 false) h23 (some (t7, h23)) fun t54 h25 =>
  gQ (gdW t52 false) h25 ((eqP (some (.int .i64)) none false .eql t54 (AV.int .i64 40)).bind fun t55 =>
  some (t55, h25)) fun t55_26 h27 =>
  (pickP t52 (AV.bool true) t55_26).bind fun t56 =>
  gQ (gdW t56 false) h27 (some (t7, h27)) fun t58 h28 =>
  gQ (gdW t56 false) h28 ((eqP (some (.int .i64)) none false .eql t58 (AV.int .i64 42)).bind fun t59 =>
  some (t59, h28)) fun t59_29 h30 =>
  (pickP t56 (AV.bool true) t59_29).bind fun t60 =>
  condE t60 (
  (faP 1 t3).bind fun t61 =>
  (ldS h30 t61).bind fun t62 =>
  mk (bsP 1 [(AV.int .i64 0)] 1 [(0, t62)]) h30 fun t63 h31 =>
  some (t63, h31)) (
  (eqP (some (.int .i64)) none false .eql t7 (AV.int .i64 20)).bind fun t66 =>
  condE t66 (
  (faP 3 t3).bind fun t67 =>
  clC (rdC (fun g => ldS g t67) h30 0 1 []) fun t68 cs =>
  (ldA 6 h30 t2).bind fun t69 =>
  (faP 2 t3).bind fun t70 =>
  (ldS h30 t70).bind fun t71 =>
  cl (k_live_fn t69 t71 h30) fun t72 h32 =>
  (fvS 0 t72).bind fun t73 =>
  cl (k_live_run t68 t73 h32) fun t74 h33 =>
  chk [h30, h32, h33] cs (
  some (t74, h33))) (
  (eqP (some (.int .i64)) none false .eql t7 (AV.int .i64 21)).bind fun t77 =>
  condE t77 (
  (faP 2 t3).bind fun t78 =>
  clC (rdC (fun g => ldS g t78) (hpN h30 1) 0 1 []) fun t79 cs_34 =>
  (faP 3 t3).bind fun t81 =>
  (ldS (hpN h30 1) t81).bind fun t82 =>
  (faP 4 t3).bind fun t83 =>
  (ldS (hpN h30 1) t83).bind fun t84 =>
  cl (k_live_run t82 t84 (hpN h30 1)) fun t85 h35 =>
  cl (mkAt (bsP 1 [(AV.int .i64 0)] 1 [(0, t79)]) (h30.next + 0) h35) fun t80 h36 =>
  cl (appendA h36 1 8 t80 t85) fun t86 h37 =>
  chk [(hpN h30 1), h35, h37] cs_34 (
  some (t86, h37))) (
  (eqP (some (.int .i64)) none false .eql t7 (AV.int .i64 22)).bind fun t89 =>
  condE t89 (
  (faP 1 t3).bind fun t90 =>
  (ldS h30 t90).bind fun t91 =>
  mk (bsP 1 [(AV.int .i64 0)] 1 [(0, t91)]) h30 fun t92 h38 =>
  cl (k_live_given t92 h38) fun t93 h39 =>
  some (t93, h39)) (
  (eqP (some (.int .i64)) none false .eql t7 (AV.int .i64 23)).bind fun t96 =>
  condE t96 (
  (faP 2 t3).bind fun t97 =>
  clC (rdC (fun g => ldS g t97) h30 0 1 []) fun t98 cs_40 =>
  (ldA 6 h30 t2).bind fun t99 =>
  (faP 1 t3).bind fun t100 =>
  (ldS h30 t100).bind fun t101 =>
  cl (k_live_fn t99 t101 h30) fun t102 h41 =>
  (fvS 0 t102).bind fun t103 =>
  cl (k_live_run t98 t103 h41) fun t104 h42 =>
  chk [h30, h41, h42] cs_40 (
  some (t104, h42))) (
  (eqP (some (.int .i64)) none false .eql t7 (AV.int .i64 24)).bind fun t107 =>
  condE t107 (
  (faP 1 t3).bind fun t108 =>
  clC (rdC (fun g => ldS g t108) (hpN h30 1) 0 1 []) fun t109 cs_43 =>
  (faP 2 t3).bind fun t111 =>
  (ldS (hpN h30 1) t111).bind fun t112 =>
  (faP 3 t3).bind fun t113 =>
  (ldS (hpN h30 1) t113).bind fun t114 =>
  cl (k_live_run t112 t114 (hpN h30 1)) fun t115 h44 =>
  cl (mkAt (bsP 1 [(AV.int .i64 0)] 1 [(0, t109)]) (h30.next + 0) h44) fun t110 h45 =>
  cl (appendA h45 1 8 t110 t115) fun t116 h46 =>
  chk [(hpN h30 1), h44, h46] cs_43 (
  some (t116, h46))) (
  (eqP (some (.int .i64)) none false .eql t7 (AV.int .i64 26)).bind fun t119 =>
  gQ (gdW t119 false) h30 (some (t7, h30)) fun t121 h47 =>
  gQ (gdW t119 false) h47 ((eqP (some (.int .i64)) none false .eql t121 (AV.int .i64 37)).bind fun t122 =>
  some (t122, h47)) fun t122_48 h49 =>
  (pickP t119 (AV.bool true) t122_48).bind fun t123 =>
  condE t123 (
  (faP 3 t3).bind fun t124 =>
  (ldS h49 t124).bind fun t125 =>
  mk (bsP 1 [(AV.int .i64 0)] 1 [(0, t125)]) h49 fun t126 h50 =>
  some (t126, h50)) (
  (eqP (some (.int .i64)) none false .eql t7 (AV.int .i64 28)).bind fun t129 =>
  gQ (gdW t129 false) h49 (some (t7, h49)) fun t131 h51 =>
  gQ (gdW t129 false) h51 ((eqP (some (.int .i64)) none false .eql t131 (AV.int .i64 29)).bind fun t132 =>
  some (t132, h51)) fun t132_52 h53 =>
  (pickP t129 (AV.bool true) t132_52).bind fun t133 =>
  condE t133 (
  (faP 1 t3).bind fun t134 =>
  (ldS h53 t134).bind fun t135 =>
  (faP 3 t3).bind fun t136 =>
  (ldS h53 t136).bind fun t137 =>
  mk (bsP 1 [(AV.int .i64 0)] 2 [(0, t135), (1, t137)]) h53 fun t138 h54 =>
  some (t138, h54)) (
  (eqP (some (.int .i64)) none false .eql t7 (AV.int .i64 31)).bind fun t141 =>
  gQ (gdW t141 false) h53 (some (t7, h53)) fun t143 h55 =>
  gQ (gdW t141 false) h55 ((eqP (some (.int .i64)) none false .eql t143 (AV.int .i64 32)).bind fun t144 =>
  some (t144, h55)) fun t144_56 h57 =>
  (pickP t141 (AV.bool true) t144_56).bind fun t145 =>
  condE t145 (
  (faP 1 t3).bind fun t146 =>
  (ldS h57 t146).bind fun t147 =>
  (faP 2 t3).bind fun t148 =>
  (ldS h57 t148).bind fun t149 =>
  (faP 3 t3).bind fun t150 =>
  (ldS h57 t150).bind fun t151 =>
  mk (bsP 1 [(AV.int .i64 0)] 3 [(0, t147), (1, t149), (2, t151)]) h57 fun t152 h58 =>
  some (t152, h58)) (
  (eqP (some (.int .i64)) none false .eql t7 (AV.int .i64 36)).bind fun t155 =>
  condE t155 (
  (faP 3 t3).bind fun t156 =>
  clC (rdC (fun g => ldS g t156) h57 0 1 []) fun t157 cs_59 =>
  (ldA 6 h57 t2).bind fun t158 =>
  (faP 2 t3).bind fun t159 =>
  (ldS h57 t159).bind fun t160 =>
  cl (k_live_fn t158 t160 h57) fun t161 h60 =>
  (fvS 1 t161).bind fun t162 =>
  cl (k_live_run t157 t162 h60) fun t163 h61 =>
  chk [h57, h60, h61] cs_59 (
  some (t163, h61))) (
  (eqP (some (.int .i64)) none false .eql t7 (AV.int .i64 38)).bind fun t166 =>
  condE t166 (
  (faP 1 t3).bind fun t167 =>
  (ldS h57 t167).bind fun t168 =>
  (faP 2 t3).bind fun t169 =>
  (ldS h57 t169).bind fun t170 =>
  mk (bsP 1 [(AV.int .i64 0)] 2 [(0, t168), (1, t170)]) h57 fun t171 h62 =>
  some (t171, h62)) (
  (eqP (some (.int .i64)) none false .eql t7 (AV.int .i64 41)).bind fun t174 =>
  condE t174 (
  (ldA 6 h57 t2).bind fun t175 =>
  (ldA 5 h57 t3).bind fun t176 =>
  cl (k_live_cases t175 t176 h57) fun t177 h63 =>
  cl (k_live_readsOf t177 h63) fun t178 h64 =>
  some (t178, h64)) (
  some ((AV.sl none 0 (.ex 0)), h57)))))))))))))))
def T16 : Tab := (14, p2 k_live_Reads) :: T15
/- 72: (gantline/fresh.states).put -/
def k_fresh_states_put (x0 : AV) (x1 : AV) (x2 : AV) (h : Heap) : Option (AV × Heap) :=
  mk (bxP x2) h fun t5 h0 =>
  (binP .geq x1 (AV.int .i64 0)).bind fun t7 =>
  gQ (gdW t7 true) h0 (some (x1, h0)) fun t9 h1 =>
  gQ (gdW t7 true) h1 (some (x0, h1)) fun t10 h2 =>
  gQ (gdW t7 true) h2 ((lnL t10).bind fun t11 =>
  some (t11, h2)) fun t11_3 h4 =>
  gQ (gdW t7 true) h4 ((binP .lss t9 t11_3).bind fun t12 =>
  some (t12, h4)) fun t12_5 h6 =>
  (pickP t7 t12_5 (AV.bool false)).bind fun t13 =>
  condE t13 (
  (ldA 3 h6 t5).bind fun t16 =>
  (iaS 3 x0 x1).bind fun t17 =>
  cl (stP 3 h6 t17 t16) fun u h8 =>
  some (AV.tup [], h8)) (
  some (AV.tup [], h6))
def T17 : Tab := (72, p3 k_fresh_states_put) :: T16
/- 70: (gantline/fresh.states).get -/
def k_fresh_states_get (x0 : AV) (x1 : AV) (h : Heap) : Option (AV × Heap) :=
  mk (some (Blk.cells true [(AV.bool false), (AV.bool false), (AV.int .u64 0)], fun i => AV.ptr (some (i, 0)))) h fun t4 h0 =>
  (binP .lss x1 (AV.int .i64 0)).bind fun t6 =>
  gQ (gdW t6 false) h0 (some (x1, h0)) fun t8 h1 =>
  gQ (gdW t6 false) h1 (some (x0, h1)) fun t9 h2 =>
  gQ (gdW t6 false) h2 ((lnL t9).bind fun t10 =>
  some (t10, h2)) fun t10_3 h4 =>
  gQ (gdW t6 false) h4 ((binP .geq t8 t10_3).bind fun t11 =>
  some (t11, h4)) fun t11_5 h6 =>
  (pickP t6 (AV.bool true) t11_5).bind fun t12 =>
  condE t12 (
  (bldS [(0, 1), (1, 1), (2, 1)] [(AV.bool false), (AV.bool false), (AV.int .u64 0)] []).bind fun t13 =>
  cl (stP 3 h6 t4 t13) fun u h7 =>
  (ldA 3 h7 t4).bind fun t =>
  some (t, h7)) (
  (iaS 3 x0 x1).bind fun t16 =>
  (ldA 3 h6 t16).bind fun t17 =>
  cl (stP 3 h6 t4 t17) fun u_8 h9 =>
  (ldA 3 h9 t4).bind fun t_10 =>
  some (t_10, h9))
def T18 : Tab := (70, p2 k_fresh_states_get) :: T17
/- 71: gantline/fresh.bit -/
def k_fresh_bit (x0 : AV) (h : Heap) : Option (AV × Heap) :=
  (binP .lss x0 (AV.int .i64 0)).bind fun t4 =>
  gQ (gdW t4 false) h (some (x0, h)) fun t6 h0 =>
  gQ (gdW t4 false) h0 ((binP .geq t6 (AV.int .i64 64)).bind fun t7 =>
  some (t7, h0)) fun t7_1 h2 =>
  (pickP t4 (AV.bool true) t7_1).bind fun t8 =>
  condE t8 (
  some ((AV.int .u64 0), h2)) (
  (cvI .u64 x0).bind fun t10 =>
  (binP .shl (AV.int .u64 1) t10).bind fun t11 =>
  some (t11, h2))
def T19 : Tab := (71, p1 k_fresh_bit) :: T18
/- 73: (gantline/fresh.states).written -/
def k_fresh_states_written (x0 : AV) (x1 : AV) (x2 : AV) (h : Heap) : Option (AV × Heap) :=
  (binP .geq x1 (AV.int .i64 0)).bind fun t7 =>
  gQ (gdW t7 true) h (some (x1, h)) fun t9 h0 =>
  gQ (gdW t7 true) h0 (some (x0, h0)) fun t10 h1 =>
  gQ (gdW t7 true) h1 ((lnL t10).bind fun t11 =>
  some (t11, h1)) fun t11_2 h3 =>
  gQ (gdW t7 true) h3 ((binP .lss t9 t11_2).bind fun t12 =>
  some (t12, h3)) fun t12_4 h5 =>
  (pickP t7 t12_4 (AV.bool false)).bind fun t13 =>
  condE t13 (
  (iaS 3 x0 x1).bind fun t16 =>
  (faP 2 t16).bind fun t17 =>
  (ldS h5 t17).bind fun t18 =>
  (binP .or t18 x2).bind fun t20 =>
  (iaS 3 x0 x1).bind fun t21 =>
  (faP 2 t21).bind fun t22 =>
  cl (stP 1 h5 t22 t20) fun u h7 =>
  some (AV.tup [], h7)) (
  some (AV.tup [], h5))
def T20 : Tab := (73, p3 k_fresh_states_written) :: T19
/- 74: gantline/fresh.lends -/
def k_fresh_lends (x0 : AV) (h : Heap) : Option (AV × Heap) :=
  (eqP (some (.int .i64)) none false .eql x0 (AV.int .i64 35)).bind fun t5 =>
  condE t5 (
  condE t5 (
  some ((AV.bool true), h)) (
  some ((AV.bool false), h))) (
  (eqP (some (.int .i64)) none false .eql x0 (AV.int .i64 20)).bind fun t6 =>
  condE t6 (
  condE t6 (
  some ((AV.bool true), h)) (
  some ((AV.bool false), h))) (
  (eqP (some (.int .i64)) none false .eql x0 (AV.int .i64 21)).bind fun t7 =>
  condE t7 (
  condE t7 (
  some ((AV.bool true), h)) (
  some ((AV.bool false), h))) (
  (eqP (some (.int .i64)) none false .eql x0 (AV.int .i64 23)).bind fun t8 =>
  condE t8 (
  condE t8 (
  some ((AV.bool true), h)) (
  some ((AV.bool false), h))) (
  (eqP (some (.int .i64)) none false .eql x0 (AV.int .i64 24)).bind fun t9 =>
  condE t9 (
  condE t9 (
  some ((AV.bool true), h)) (
  some ((AV.bool false), h))) (
  (eqP (some (.int .i64)) none false .eql x0 (AV.int .i64 22)).bind fun t10 =>
  condE t10 (
  some ((AV.bool true), h)) (
  some ((AV.bool false), h)))))))
def T21 : Tab := (74, p1 k_fresh_lends) :: T20
/- 16: gantline/live.Writes -/
def k_live_Writes (x0 : AV) (h : Heap) : Option (AV × Heap) :=
  mk (bxP x0) h fun t1 h0 =>
  (faP 0 t1).bind fun t4 =>
  (ldS h0 t4).bind fun t5 =>
  (binP .geq t5 (AV.int .i64 0)).bind fun t8 =>
  gQ (gdW t8 true) h0 (some (t5, h0)) fun t10 h1 =>
  gQ (gdW t8 true) h1 ((binP .leq t10 (AV.int .i64 17)).bind fun t11 =>
  some (t11, h1)) fun t11_2 h3 =>
  (pickP t8 t11_2 (AV.bool false)).bind fun t12 =>
  gQ (gdW t12 false) h3 (some (t5, h3)) fun t14 h4 =>
  gQ (gdW t12 false) h4 ((binP .geq t14 (AV.int .i64 25)).bind fun t15 =>
  some (t15, h4)) fun t15_5 h6 =>
  gQ (gdW t12 false) h6 (some (t15_5, h6)) fun t16 h7 =>
  gQ (gdW t16 true) h7 (some (t5, h7)) fun t17 h8 =>
  gQ (gdW t16 true) h8 ((binP .leq t17 (AV.int .i64 27)).bind fun t18 =>
  some (t18, h8)) fun t18_9 h10 =>
  gQ (gdW t12 false) h10 ((pickP t16 t18_9 (AV.bool false)).bind fun t19 =>
  some (t19, h10)) fun t19_11 h12 =>
  (pickP t12 (AV.bool true) t19_11).bind fun t20 =>
  gQ (gdW t20 false) h12 (some (t5, h12)) fun t22 h13 =>
  gQ (gdW t20 false) h13 ((eqP (some (.int .i64)) none false .eql t22 (AV.int .i64 30)).bind fun t23 =>
  some (t23, h13)) fun t23_14 h15 =>
  (pickP t20 (AV.bool true) t23_14).bind fun t24 =>
  gQ (gdW t24 false) h15 (some (t5, h15)) fun t26 h16 =>
  gQ (gdW t24 false) h16 ((eqP (some (.int .i64)) none false .eql t26 (AV.int .i64 33)).bind fun t27 =>
  some (t27, h16)) fun t27_17 h18 =>
  (pickP t24 (AV.bool true) t27_17).bind fun t28 =>
  gQ (gdW t28 false) h18 (some (t5, h18)) fun t30 h19 =>
  gQ (gdW t28 false) h19 ((eqP (some (.int .i64)) none false .eql t30 (AV.int .i64 34)).bind fun t31 =>
  some (t31, h19)) fun t31_20 h21 =>
  (pickP t28 (AV.bool true) t31_20).bind fun t32 =>
  gQ (gdW t32 false) h21 (some (t5, h21)) fun t34 h22 =>
  gQ (gdW t32 false) h22 ((eqP (some (.int .i64)) none false .eql t34 (AV.int .i64 36)).bind fun t35 =>
  some (t35, h22)) fun t35_23 h24 =>
  (pickP t32 (AV.bool true) t35_23).bind fun t36 =>
  gQ (gdW t36 false) h24 (some (t5, h24)) fun t38 h25 =>
  gQ (gdW t36 false) h25 ((eqP (some (.int .i64)) none false .eql t38 (AV.int .i64 37)).bind fun t39 =>
  some (t39, h25)) fun t39_26 h27 =>
  (pickP t36 (AV.bool true) t39_26).bind fun t40 =>
  condE t40 (
  (faP 1 t1).bind fun t41 =>
  (ldS h27 t41).bind fun t42 =>
  mk (bsP 1 [(AV.int .i64 0)] 1 [(0, t42)]) h27 fun t43 h28 =>
  some (t43, h28)) (
  (eqP (some (.int .i64)) none false .eql t5 (AV.int .i64 20)).bind fun t46 =>
  gQ (gdW t46 false) h27 (some (t5, h27)) fun t48 h29 =>
  gQ (gdW t46 false) h29 ((eqP (some (.int .i64)) none false .eql t48 (AV.int .i64 21)).bind fun t49 =>
  some (t49, h29)) fun t49_30 h31 =>
  (pickP t46 (AV.bool true) t49_30).bind fun t50 =>
  condE t50 (
  (faP 1 t1).bind fun t51 =>
  (ldS h31 t51).bind fun t52 =>
  mk (bsP 1 [(AV.int .i64 0)] 1 [(0, t52)]) h31 fun t53 h32 =>
  cl (k_live_given t53 h32) fun t54 h33 =>
  some (t54, h33)) (
  (eqP (some (.int .i64)) none false .eql t5 (AV.int .i64 39)).bind fun t57 =>
  condE t57 (
  (faP 1 t1).bind fun t58 =>
  (ldS h31 t58).bind fun t59 =>
  (faP 3 t1).bind fun t60 =>
  (ldS h31 t60).bind fun t61 =>
  mk (bsP 1 [(AV.int .i64 0)] 2 [(0, t59), (1, t61)]) h31 fun t62 h34 =>
  cl (k_live_given t62 h34) fun t63 h35 =>
  some (t63, h35)) (
  some ((AV.sl none 0 (.ex 0)), h31))))
def T22 : Tab := (16, p1 k_live_Writes) :: T21
/- 75: gantline/fresh.receives -/
def k_fresh_receives_b0 (t49 : AV) (t50 : AV) (q5 : AV) (q51 : AV) (h44 : Heap) : OutV :=
  (binP .lss q51 t50).bind fun t52 =>
  condE t52 (
  (iaS 4 t49 q51).bind fun t53 =>
  (ldA 4 h44 t53).bind fun t54 =>
  mk (some (Blk.cells true [(AV.int .i64 0), (AV.int .i64 0), (AV.int .i64 0), (AV.int .i64 0)], fun i => AV.ptr (some (i, 0)))) h44 fun t7 h47 =>
  cl (stP 4 h47 t7 t54) fun u h48 =>
  (faP 0 t7).bind fun t55 =>
  (ldS h48 t55).bind fun t56 =>
  (eqP (some (.int .i64)) none false .eql t56 (AV.int .i64 0)).bind fun t57 =>
  condE t57 (
  (faP 2 t7).bind fun t59 =>
  (ldS h48 t59).bind fun t60 =>
  mk (bsP 1 [(AV.int .i64 0)] 1 [(0, t60)]) h48 fun t61 h57 =>
  cl (appendA h57 1 8 q5 t61) fun t62 h58 =>
  (binP .add q51 (AV.int .i64 1)).bind fun t63_59 =>
  some (.normal, [t62, t63_59], h58)) (
  (binP .add q51 (AV.int .i64 1)).bind fun t63_60 =>
  some (.normal, [q5, t63_60], h48))) (
  some ((.exit 0), [q5, q51], h44))
def k_fresh_receives_L0 (t49 : AV) (t50 : AV) (q5 : AV) (q51 : AV) (h44 : Heap) : OutV := loopN (fun us g => k_fresh_receives_b0 t49 t50 (us.getD 0 .bot) (us.getD 1 .bot) g) [q5, q51] h44
def k_fresh_receives (x0 : AV) (x1 : AV) (h : Heap) : Option (AV × Heap) :=
  mk (bxP x0) h fun t2 h0 =>
  mk (bxP x1) h0 fun t3 h1 =>
  (faP 0 t3).bind fun t8 =>
  (ldS h1 t8).bind fun t9 =>
  (eqP (some (.int .i64)) none false .neq t9 (AV.int .i64 41)).bind fun t10 =>
  gQ (gdW t10 false) h1 ((faP 1 t3).bind fun t12 =>
  some (t12, h1)) fun t12_2 h3 =>
  gQ (gdW t10 false) h3 ((ldS h3 t12_2).bind fun t13 =>
  some (t13, h3)) fun t13_4 h5 =>
  gQ (gdW t10 false) h5 ((binP .lss t13_4 (AV.int .i64 0)).bind fun t14 =>
  some (t14, h5)) fun t14_6 h7 =>
  (pickP t10 (AV.bool true) t14_6).bind fun t15 =>
  gQ (gdW t15 false) h7 ((faP 2 t3).bind fun t17 =>
  some (t17, h7)) fun t17_8 h9 =>
  gQ (gdW t15 false) h9 ((ldS h9 t17_8).bind fun t18 =>
  some (t18, h9)) fun t18_10 h11 =>
  gQ (gdW t15 false) h11 ((binP .lss t18_10 (AV.int .i64 0)).bind fun t19 =>
  some (t19, h11)) fun t19_12 h13 =>
  (pickP t15 (AV.bool true) t19_12).bind fun t20 =>
  gQ (gdW t20 false) h13 ((faP 1 t3).bind fun t22 =>
  some (t22, h13)) fun t22_14 h15 =>
  gQ (gdW t20 false) h15 ((ldS h15 t22_14).bind fun t23 =>
  some (t23, h15)) fun t23_16 h17 =>
  gQ (gdW t20 false) h17 ((faP 3 t2).bind fun t24 =>
  some (t24, h17)) fun t24_18 h19 =>
  gQ (gdW t20 false) h19 ((ldS h19 t24_18).bind fun t25 =>
  some (t25, h19)) fun t25_20 h21 =>
  gQ (gdW t20 false) h21 ((lnL t25_20).bind fun t26 =>
  some (t26, h21)) fun t26_22 h23 =>
  gQ (gdW t20 false) h23 ((binP .gtr t23_16 t26_22).bind fun t27 =>
  some (t27, h23)) fun t27_24 h25 =>
  (pickP t20 (AV.bool true) t27_24).bind fun t28 =>
  gQ (gdW t28 false) h25 ((faP 2 t3).bind fun t30 =>
  some (t30, h25)) fun t30_26 h27 =>
  gQ (gdW t28 false) h27 ((ldS h27 t30_26).bind fun t31 =>
  some (t31, h27)) fun t31_28 h29 =>
  gQ (gdW t28 false) h29 ((faP 3 t2).bind fun t32 =>
  some (t32, h29)) fun t32_30 h31 =>
  gQ (gdW t28 false) h31 ((ldS h31 t32_30).bind fun t33 =>
  some (t33, h31)) fun t33_32 h33 =>
  gQ (gdW t28 false) h33 ((lnL t33_32).bind fun t34 =>
  some (t34, h33)) fun t34_34 h35 =>
  gQ (gdW t28 false) h35 ((faP 1 t3).bind fun t35 =>
  some (t35, h35)) fun t35_36 h37 =>
  gQ (gdW t28 false) h37 ((ldS h37 t35_36).bind fun t36 =>
  some (t36, h37)) fun t36_38 h39 =>
  gQ (gdW t28 false) h39 ((binP .sub t34_34 t36_38).bind fun t37 =>
  some (t37, h39)) fun t37_40 h41 =>
  gQ (gdW t28 false) h41 ((binP .gtr t31_28 t37_40).bind fun t38 =>
  some (t38, h41)) fun t38_42 h43 =>
  (pickP t28 (AV.bool true) t38_42).bind fun t39 =>
  condE t39 (
  some ((AV.sl none 0 (.ex 0)), h43)) (
  (faP 3 t2).bind fun t40 =>
  (ldS h43 t40).bind fun t41 =>
  (faP 1 t3).bind fun t42 =>
  (ldS h43 t42).bind fun t43 =>
  (faP 1 t3).bind fun t44 =>
  (ldS h43 t44).bind fun t45 =>
  (faP 2 t3).bind fun t46 =>
  (ldS h43 t46).bind fun t47 =>
  (binP .add t45 t47).bind fun t48 =>
  (slcP 4 t41 (some t43) (some t48) none).bind fun t49 =>
  (lnL t49).bind fun t50 =>
  lp (k_fresh_receives_L0 t49 t50 (AV.sl none 0 (.ex 0)) (AV.int .i64 0) h43) fun e vs h61 =>
  thenK (if e = .exit 0 then .normal else e) (
  some ((vs.getD 0 .bot), h61)) (fun e_62 => endE e_62 (some ((AV.sl none 0 (.ex 0)), h61))))
def T23 : Tab := (75, p2 k_fresh_receives) :: T22
/- 60: gantline/fresh.behind -/
def k_fresh_behind_j0 (t4 : AV) (t15 : AV) (t30 : AV) (h123 : Heap) : Option (AV × Heap) :=
  (faP 1 t4).bind fun t81 =>
  (ldS h123 t81).bind fun t82 =>
  (eqP (some (.int .i64)) none false .neq t30 (AV.int .i64 36)).bind fun t84 =>
  (bldS [(0, 1), (1, 1), (2, 1)] [(AV.bool false), (AV.bool false), (AV.int .u64 0)] [(0, (AV.bool true)), (1, t84)]).bind fun t85 =>
  cl (k_fresh_states_put t15 t82 t85 h123) fun t86 h124 =>
  some (t15, h124)
def k_fresh_behind_b0 (t15 : AV) (t46 : AV) (t47 : AV) (q48_373 : AV) (h374 : Heap) : OutV :=
  (binP .lss q48_373 t47).bind fun t49 =>
  condE t49 (
  (iaS 1 t46 q48_373).bind fun t50 =>
  (ldS h374 t50).bind fun t51 =>
  (bldS [(0, 1), (1, 1), (2, 1)] [(AV.bool false), (AV.bool false), (AV.int .u64 0)] []).bind fun t54 =>
  cl (k_fresh_states_put t15 t51 t54 h374) fun t55 h375 =>
  (binP .add q48_373 (AV.int .i64 1)).bind fun t56 =>
  some (.normal, [t56], h375)) (
  some ((.exit 3), [q48_373], h374))
def k_fresh_behind_L0 (t15 : AV) (t46 : AV) (t47 : AV) (q48_373 : AV) (h374 : Heap) : OutV := loopN (fun us g => k_fresh_behind_b0 t15 t46 t47 (us.getD 0 .bot) g) [q48_373] h374
def k_fresh_behind_b1 (t15 : AV) (t59 : AV) (t60 : AV) (q61_378 : AV) (h379 : Heap) : OutV :=
  (binP .lss q61_378 t60).bind fun t62 =>
  condE t62 (
  (iaS 1 t59 q61_378).bind fun t63 =>
  (ldS h379 t63).bind fun t64 =>
  (bldS [(0, 1), (1, 1), (2, 1)] [(AV.bool false), (AV.bool false), (AV.int .u64 0)] []).bind fun t67 =>
  cl (k_fresh_states_put t15 t64 t67 h379) fun t68 h380 =>
  (binP .add q61_378 (AV.int .i64 1)).bind fun t69 =>
  some (.normal, [t69], h380)) (
  some ((.exit 5), [q61_378], h379))
def k_fresh_behind_L1 (t15 : AV) (t59 : AV) (t60 : AV) (q61_378 : AV) (h379 : Heap) : OutV := loopN (fun us g => k_fresh_behind_b1 t15 t59 t60 (us.getD 0 .bot) g) [q61_378] h379
def k_fresh_behind_j1 (t3 : AV) (t4 : AV) (t15 : AV) (h371 : Heap) : Option (AV × Heap) :=
  (ldA 5 h371 t4).bind fun t45 =>
  cl (k_live_Writes t45 h371) fun t46 h372 =>
  (lnL t46).bind fun t47 =>
  lp (k_fresh_behind_L0 t15 t46 t47 (AV.int .i64 0) h372) fun e vs h376 =>
  thenK (if e = .exit 3 then .normal else e) (
  (ldA 6 h376 t3).bind fun t57 =>
  (ldA 5 h376 t4).bind fun t58 =>
  cl (k_fresh_receives t57 t58 h376) fun t59 h377 =>
  (lnL t59).bind fun t60 =>
  lp (k_fresh_behind_L1 t15 t59 t60 (AV.int .i64 0) h377) fun e_381 vs_382 h383 =>
  thenK (if (if e_381 = .exit 5 then .normal else e_381) = .exit 2 then .normal else (if e_381 = .exit 5 then .normal else e_381)) (
  some (t15, h383)) (fun e_384 => endE e_384 (some ((AV.sl none 0 (.ex 0)), h383)))) (fun e_385 => thenK (if e_385 = .exit 2 then .normal else e_385) (
  some (t15, h376)) (fun e_386 => endE e_386 (some ((AV.sl none 0 (.ex 0)), h376))))
def k_fresh_behind_j2 (t3 : AV) (t4 : AV) (t15 : AV) (t30 : AV) (h365 : Heap) : Option (AV × Heap) :=
  (eqP (some (.int .i64)) none false .eql t30 (AV.int .i64 38)).bind fun t39 =>
  condE t39 (
  (faP 2 t4).bind fun t41 =>
  (ldS h365 t41).bind fun t42 =>
  mk (bsP 1 [(AV.int .i64 0)] 1 [(0, t42)]) h365 fun t43 h387 =>
  cl (k_fresh_states_lend t15 t43 h387) fun t44 h388 =>
  k_fresh_behind_j1 t3 t4 t15 h388) (
  k_fresh_behind_j1 t3 t4 t15 h365)
def k_fresh_behind_j3 (t3 : AV) (t4 : AV) (t15 : AV) (h4 : Heap) : Option (AV × Heap) :=
  (faP 0 t4).bind fun t29 =>
  (ldS h4 t29).bind fun t30 =>
  cl (k_code_Maker t30 h4) fun t72 h6 =>
  condE t72 (
  (eqP (some (.int .i64)) none false .eql t30 (AV.int .i64 36)).bind fun t74 =>
  condE t74 (
  (ldA 6 h6 t3).bind fun t76 =>
  (ldA 5 h6 t4).bind fun t77 =>
  cl (k_live_Reads t76 t77 h6) fun t78 h125 =>
  cl (k_fresh_states_lend t15 t78 h125) fun t79 h126 =>
  k_fresh_behind_j0 t4 t15 t30 h126) (
  k_fresh_behind_j0 t4 t15 t30 h6)) (
  (eqP (some (.int .i64)) none false .eql t30 (AV.int .i64 1)).bind fun t89 =>
  condE t89 (
  (faP 2 t4).bind fun t91 =>
  (ldS h6 t91).bind fun t92 =>
  cl (k_fresh_states_get t15 t92 h6) fun t93 h221 =>
  (fvS 0 t93).bind fun t94 =>
  (faP 2 t4).bind fun t96 =>
  (ldS h221 t96).bind fun t97 =>
  mk (bsP 1 [(AV.int .i64 0)] 1 [(0, t97)]) h221 fun t98 h222 =>
  cl (k_fresh_states_lend t15 t98 h222) fun t99 h223 =>
  (faP 1 t4).bind fun t101 =>
  (ldS h223 t101).bind fun t102 =>
  (bldS [(0, 1), (1, 1), (2, 1)] [(AV.bool false), (AV.bool false), (AV.int .u64 0)] [(0, t94)]).bind fun t104 =>
  cl (k_fresh_states_put t15 t102 t104 h223) fun t105 h224 =>
  some (t15, h224)) (
  (eqP (some (.int .i64)) none false .eql t30 (AV.int .i64 28)).bind fun t108 =>
  gQ (gdW t108 false) h6 (some (t30, h6)) fun t110 h225 =>
  gQ (gdW t108 false) h225 ((eqP (some (.int .i64)) none false .eql t110 (AV.int .i64 29)).bind fun t111 =>
  some (t111, h225)) fun t111_226 h227 =>
  (pickP t108 (AV.bool true) t111_226).bind fun t112 =>
  condE t112 (
  (faP 1 t4).bind fun t114 =>
  clC (rdC (fun g => ldS g t114) h227 0 1 []) fun t115 cs =>
  (faP 2 t4).bind fun t116 =>
  (ldS h227 t116).bind fun t117 =>
  cl (k_fresh_bit t117 h227) fun t118 h298 =>
  cl (k_fresh_states_written t15 t115 t118 h298) fun t119 h299 =>
  chk [h227, h298, h299] cs (
  (faP 3 t4).bind fun t121 =>
  (ldS h299 t121).bind fun t122 =>
  mk (bsP 1 [(AV.int .i64 0)] 1 [(0, t122)]) h299 fun t123 h300 =>
  cl (k_fresh_states_lend t15 t123 h300) fun t124 h301 =>
  some (t15, h301))) (
  (eqP (some (.int .i64)) none false .eql t30 (AV.int .i64 31)).bind fun t127 =>
  gQ (gdW t127 false) h227 (some (t30, h227)) fun t129 h302 =>
  gQ (gdW t127 false) h302 ((eqP (some (.int .i64)) none false .eql t129 (AV.int .i64 32)).bind fun t130 =>
  some (t130, h302)) fun t130_303 h304 =>
  (pickP t127 (AV.bool true) t130_303).bind fun t131 =>
  condE t131 (
  (faP 1 t4).bind fun t133 =>
  (ldS h304 t133).bind fun t134 =>
  cl (k_fresh_states_written t15 t134 (AV.int .u64 18446744073709551615) h304) fun t135 h356 =>
  (faP 3 t4).bind fun t137 =>
  (ldS h356 t137).bind fun t138 =>
  mk (bsP 1 [(AV.int .i64 0)] 1 [(0, t138)]) h356 fun t139 h357 =>
  cl (k_fresh_states_lend t15 t139 h357) fun t140 h358 =>
  some (t15, h358)) (
  cl (k_fresh_lends t30 h304) fun t32 h359 =>
  condE t32 (
  (ldA 6 h359 t3).bind fun t34 =>
  (ldA 5 h359 t4).bind fun t35 =>
  cl (k_live_Reads t34 t35 h359) fun t36 h389 =>
  cl (k_fresh_states_lend t15 t36 h389) fun t37 h390 =>
  k_fresh_behind_j2 t3 t4 t15 t30 h390) (
  k_fresh_behind_j2 t3 t4 t15 t30 h359)))))
def k_fresh_behind_b2 (t15 : AV) (t20 : AV) (q21_391 : AV) (h392 : Heap) : OutV :=
  (binP .lss q21_391 t20).bind fun t22 =>
  condE t22 (
  (iaS 3 t15 q21_391).bind fun t26 =>
  (faP 0 t26).bind fun t27 =>
  cl (stP 1 h392 t27 (AV.bool false)) fun u h393 =>
  (binP .add q21_391 (AV.int .i64 1)).bind fun t28 =>
  some (.normal, [t28], h393)) (
  some ((.exit 0), [q21_391], h392))
def k_fresh_behind_L2 (t15 : AV) (t20 : AV) (q21_391 : AV) (h392 : Heap) : OutV := loopN (fun us g => k_fresh_behind_b2 t15 t20 (us.getD 0 .bot) g) [q21_391] h392
def k_fresh_behind_j4 (t4 : AV) (t15 : AV) (t30_398 : AV) (h632 : Heap) : Option (AV × Heap) :=
  (faP 1 t4).bind fun t81_633 =>
  (ldS h632 t81_633).bind fun t82_634 =>
  (eqP (some (.int .i64)) none false .neq t30_398 (AV.int .i64 36)).bind fun t84_635 =>
  (bldS [(0, 1), (1, 1), (2, 1)] [(AV.bool false), (AV.bool false), (AV.int .u64 0)] [(0, (AV.bool true)), (1, t84_635)]).bind fun t85_636 =>
  cl (k_fresh_states_put t15 t82_634 t85_636 h632) fun t86_637 h638 =>
  some (t15, h638)
def k_fresh_behind_b3 (t15 : AV) (t46_932 : AV) (t47_934 : AV) (q48_935 : AV) (h936 : Heap) : OutV :=
  (binP .lss q48_935 t47_934).bind fun t49_937 =>
  condE t49_937 (
  (iaS 1 t46_932 q48_935).bind fun t50_938 =>
  (ldS h936 t50_938).bind fun t51_939 =>
  (bldS [(0, 1), (1, 1), (2, 1)] [(AV.bool false), (AV.bool false), (AV.int .u64 0)] []).bind fun t54_940 =>
  cl (k_fresh_states_put t15 t51_939 t54_940 h936) fun t55_941 h942 =>
  (binP .add q48_935 (AV.int .i64 1)).bind fun t56_943 =>
  some (.normal, [t56_943], h942)) (
  some ((.exit 3), [q48_935], h936))
def k_fresh_behind_L3 (t15 : AV) (t46_932 : AV) (t47_934 : AV) (q48_935 : AV) (h936 : Heap) : OutV := loopN (fun us g => k_fresh_behind_b3 t15 t46_932 t47_934 (us.getD 0 .bot) g) [q48_935] h936
def k_fresh_behind_b4 (t15 : AV) (t59_949 : AV) (t60_951 : AV) (q61_952 : AV) (h953 : Heap) : OutV :=
  (binP .lss q61_952 t60_951).bind fun t62_954 =>
  condE t62_954 (
  (iaS 1 t59_949 q61_952).bind fun t63_955 =>
  (ldS h953 t63_955).bind fun t64_956 =>
  (bldS [(0, 1), (1, 1), (2, 1)] [(AV.bool false), (AV.bool false), (AV.int .u64 0)] []).bind fun t67_957 =>
  cl (k_fresh_states_put t15 t64_956 t67_957 h953) fun t68_958 h959 =>
  (binP .add q61_952 (AV.int .i64 1)).bind fun t69_960 =>
  some (.normal, [t69_960], h959)) (
  some ((.exit 5), [q61_952], h953))
def k_fresh_behind_L4 (t15 : AV) (t59_949 : AV) (t60_951 : AV) (q61_952 : AV) (h953 : Heap) : OutV := loopN (fun us g => k_fresh_behind_b4 t15 t59_949 t60_951 (us.getD 0 .bot) g) [q61_952] h953
def k_fresh_behind_j5 (t3 : AV) (t4 : AV) (t15 : AV) (h930 : Heap) : Option (AV × Heap) :=
  (ldA 5 h930 t4).bind fun t45_931 =>
  cl (k_live_Writes t45_931 h930) fun t46_932 h933 =>
  (lnL t46_932).bind fun t47_934 =>
  lp (k_fresh_behind_L3 t15 t46_932 t47_934 (AV.int .i64 0) h933) fun e_944 vs_945 h946 =>
  thenK (if e_944 = .exit 3 then .normal else e_944) (
  (ldA 6 h946 t3).bind fun t57_947 =>
  (ldA 5 h946 t4).bind fun t58_948 =>
  cl (k_fresh_receives t57_947 t58_948 h946) fun t59_949 h950 =>
  (lnL t59_949).bind fun t60_951 =>
  lp (k_fresh_behind_L4 t15 t59_949 t60_951 (AV.int .i64 0) h950) fun e_961 vs_962 h963 =>
  thenK (if (if e_961 = .exit 5 then .normal else e_961) = .exit 2 then .normal else (if e_961 = .exit 5 then .normal else e_961)) (
  some (t15, h963)) (fun e_964 => endE e_964 (some ((AV.sl none 0 (.ex 0)), h963)))) (fun e_965 => thenK (if e_965 = .exit 2 then .normal else e_965) (
  some (t15, h946)) (fun e_966 => endE e_966 (some ((AV.sl none 0 (.ex 0)), h946))))
def k_fresh_behind_j6 (t3 : AV) (t4 : AV) (t15 : AV) (t30_398 : AV) (h923 : Heap) : Option (AV × Heap) :=
  (eqP (some (.int .i64)) none false .eql t30_398 (AV.int .i64 38)).bind fun t39_924 =>
  condE t39_924 (
  (faP 2 t4).bind fun t41_967 =>
  (ldS h923 t41_967).bind fun t42_968 =>
  mk (bsP 1 [(AV.int .i64 0)] 1 [(0, t42_968)]) h923 fun t43_969 h970 =>
  cl (k_fresh_states_lend t15 t43_969 h970) fun t44_971 h972 =>
  k_fresh_behind_j5 t3 t4 t15 h972) (
  k_fresh_behind_j5 t3 t4 t15 h923)
def k_fresh_behind (x0 : AV) (x1 : AV) (x2 : AV) (h : Heap) : Option (AV × Heap) :=
  mk (bxP x0) h fun t3 h0 =>
  mk (bxP x1) h0 fun t4 h1 =>
  cl (k_slices_Clone_fresh_states_fresh_State x2 h1) fun t15 h2 =>
  (faP 0 t4).bind fun t16 =>
  (ldS h2 t16).bind fun t17 =>
  cl (k_code_Point t17 h2) fun t18 h3 =>
  condE t18 (
  (lnL t15).bind fun t20 =>
  lp (k_fresh_behind_L2 t15 t20 (AV.int .i64 0) h3) fun e_394 vs_395 h396 =>
  thenK (if e_394 = .exit 0 then .normal else e_394) (
  (faP 0 t4).bind fun t29_397 =>
  (ldS h396 t29_397).bind fun t30_398 =>
  cl (k_code_Maker t30_398 h396) fun t72_513 h514 =>
  condE t72_513 (
  (eqP (some (.int .i64)) none false .eql t30_398 (AV.int .i64 36)).bind fun t74_626 =>
  condE t74_626 (
  (ldA 6 h514 t3).bind fun t76_639 =>
  (ldA 5 h514 t4).bind fun t77_640 =>
  cl (k_live_Reads t76_639 t77_640 h514) fun t78_641 h642 =>
  cl (k_fresh_states_lend t15 t78_641 h642) fun t79_643 h644 =>
  k_fresh_behind_j4 t4 t15 t30_398 h644) (
  k_fresh_behind_j4 t4 t15 t30_398 h514)) (
  (eqP (some (.int .i64)) none false .eql t30_398 (AV.int .i64 1)).bind fun t89_645 =>
  condE t89_645 (
  (faP 2 t4).bind fun t91_740 =>
  (ldS h514 t91_740).bind fun t92_741 =>
  cl (k_fresh_states_get t15 t92_741 h514) fun t93_742 h743 =>
  (fvS 0 t93_742).bind fun t94_744 =>
  (faP 2 t4).bind fun t96_745 =>
  (ldS h743 t96_745).bind fun t97_746 =>
  mk (bsP 1 [(AV.int .i64 0)] 1 [(0, t97_746)]) h743 fun t98_747 h748 =>
  cl (k_fresh_states_lend t15 t98_747 h748) fun t99_749 h750 =>
  (faP 1 t4).bind fun t101_751 =>
  (ldS h750 t101_751).bind fun t102_752 =>
  (bldS [(0, 1), (1, 1), (2, 1)] [(AV.bool false), (AV.bool false), (AV.int .u64 0)] [(0, t94_744)]).bind fun t104_753 =>
  cl (k_fresh_states_put t15 t102_752 t104_753 h750) fun t105_754 h755 =>
  some (t15, h755)) (
  (eqP (some (.int .i64)) none false .eql t30_398 (AV.int .i64 28)).bind fun t108_756 =>
  gQ (gdW t108_756 false) h514 (some (t30_398, h514)) fun t110_757 h758 =>
  gQ (gdW t108_756 false) h758 ((eqP (some (.int .i64)) none false .eql t110_757 (AV.int .i64 29)).bind fun t111_759 =>
  some (t111_759, h758)) fun t111_760 h761 =>
  (pickP t108_756 (AV.bool true) t111_760).bind fun t112_762 =>
  condE t112_762 (
  (faP 1 t4).bind fun t114_833 =>
  clC (rdC (fun g => ldS g t114_833) h761 0 1 []) fun t115_834 cs_835 =>
  (faP 2 t4).bind fun t116_836 =>
  (ldS h761 t116_836).bind fun t117_837 =>
  cl (k_fresh_bit t117_837 h761) fun t118_838 h839 =>
  cl (k_fresh_states_written t15 t115_834 t118_838 h839) fun t119_840 h841 =>
  chk [h761, h839, h841] cs_835 (
  (faP 3 t4).bind fun t121_842 =>
  (ldS h841 t121_842).bind fun t122_843 =>
  mk (bsP 1 [(AV.int .i64 0)] 1 [(0, t122_843)]) h841 fun t123_844 h845 =>
  cl (k_fresh_states_lend t15 t123_844 h845) fun t124_846 h847 =>
  some (t15, h847))) (
  (eqP (some (.int .i64)) none false .eql t30_398 (AV.int .i64 31)).bind fun t127_848 =>
  gQ (gdW t127_848 false) h761 (some (t30_398, h761)) fun t129_849 h850 =>
  gQ (gdW t127_848 false) h850 ((eqP (some (.int .i64)) none false .eql t129_849 (AV.int .i64 32)).bind fun t130_851 =>
  some (t130_851, h850)) fun t130_852 h853 =>
  (pickP t127_848 (AV.bool true) t130_852).bind fun t131_854 =>
  condE t131_854 (
  (faP 1 t4).bind fun t133_906 =>
  (ldS h853 t133_906).bind fun t134_907 =>
  cl (k_fresh_states_written t15 t134_907 (AV.int .u64 18446744073709551615) h853) fun t135_908 h909 =>
  (faP 3 t4).bind fun t137_910 =>
  (ldS h909 t137_910).bind fun t138_911 =>
  mk (bsP 1 [(AV.int .i64 0)] 1 [(0, t138_911)]) h909 fun t139_912 h913 =>
  cl (k_fresh_states_lend t15 t139_912 h913) fun t140_914 h915 =>
  some (t15, h915)) (
  cl (k_fresh_lends t30_398 h853) fun t32_916 h917 =>
  condE t32_916 (
  (ldA 6 h917 t3).bind fun t34_973 =>
  (ldA 5 h917 t4).bind fun t35_974 =>
  cl (k_live_Reads t34_973 t35_974 h917) fun t36_975 h976 =>
  cl (k_fresh_states_lend t15 t36_975 h976) fun t37_977 h978 =>
  k_fresh_behind_j6 t3 t4 t15 t30_398 h978) (
  k_fresh_behind_j6 t3 t4 t15 t30_398 h917)))))) (fun e_979 => endE e_979 (some ((AV.sl none 0 (.ex 0)), h396)))) (
  k_fresh_behind_j3 t3 t4 t15 h3)
def T24 : Tab := (60, p3 k_fresh_behind) :: T23
/- 89: math/bits.Len32 -/
def k_mbits_Len32_j0 (q0_1 : AV) (q2_2 : AV) (h3 : Heap) : Option (AV × Heap) :=
  (cvI .u8 q0_1).bind fun t15 =>
  (ixStr (AV.str [0, 1, 2, 2, 3, 3, 3, 3, 4, 4, 4, 4, 4, 4, 4, 4, 5, 5, 5, 5, 5, 5, 5, 5, 5, 5, 5, 5, 5, 5, 5, 5, 6, 6, 6, 6, 6, 6, 6, 6, 6, 6, 6, 6, 6, 6, 6, 6, 6, 6, 6, 6, 6, 6, 6, 6, 6, 6, 6, 6, 6, 6, 6, 6, 7, 7, 7, 7, 7, 7, 7, 7, 7, 7, 7, 7, 7, 7, 7, 7, 7, 7, 7, 7, 7, 7, 7, 7, 7, 7, 7, 7, 7, 7, 7, 7, 7, 7, 7, 7, 7, 7, 7, 7, 7, 7, 7, 7, 7, 7, 7, 7, 7, 7, 7, 7, 7, 7, 7, 7, 7, 7, 7, 7, 7, 7, 7, 7, 8, 8, 8, 8, 8, 8, 8, 8, 8, 8, 8, 8, 8, 8, 8, 8, 8, 8, 8, 8, 8, 8, 8, 8, 8, 8, 8, 8, 8, 8, 8, 8, 8, 8, 8, 8, 8, 8, 8, 8, 8, 8, 8, 8, 8, 8, 8, 8, 8, 8, 8, 8, 8, 8, 8, 8, 8, 8, 8, 8, 8, 8, 8, 8, 8, 8, 8, 8, 8, 8, 8, 8, 8, 8, 8, 8, 8, 8, 8, 8, 8, 8, 8, 8, 8, 8, 8, 8, 8, 8, 8, 8, 8, 8, 8, 8, 8, 8, 8, 8, 8, 8, 8, 8, 8, 8, 8, 8, 8, 8, 8, 8, 8, 8, 8, 8, 8, 8, 8, 8, 8, 8, 8, 8, 8, 8, 8, 8]) t15).bind fun t16 =>
  (cvI .i64 t16).bind fun t17 =>
  (binP .add q2_2 t17).bind fun t18 =>
  some (t18, h3)
def k_mbits_Len32_j1 (q0 : AV) (q2 : AV) (h0 : Heap) : Option (AV × Heap) :=
  (binP .geq q0 (AV.int .u32 256)).bind fun t8 =>
  condE t8 (
  (binP .shr q0 (AV.int .u64 8)).bind fun t10 =>
  (binP .add q2 (AV.int .i64 8)).bind fun t12 =>
  k_mbits_Len32_j0 t10 t12 h0) (
  k_mbits_Len32_j0 q0 q2 h0)
def k_mbits_Len32 (x0 : AV) (h : Heap) : Option (AV × Heap) :=
  (binP .geq x0 (AV.int .u32 65536)).bind fun t4 =>
  condE t4 (
  (binP .shr x0 (AV.int .u64 16)).bind fun t6 =>
  k_mbits_Len32_j1 t6 (AV.int .i64 16) h) (
  k_mbits_Len32_j1 x0 (AV.int .i64 0) h)
def T25 : Tab := (89, p1 k_mbits_Len32) :: T24
/- 90: math/bits.Len64 -/
def k_mbits_Len64_j0 (q0_4 : AV) (q2_5 : AV) (h6 : Heap) : Option (AV × Heap) :=
  (cvI .u8 q0_4).bind fun t21 =>
  (ixStr (AV.str [0, 1, 2, 2, 3, 3, 3, 3, 4, 4, 4, 4, 4, 4, 4, 4, 5, 5, 5, 5, 5, 5, 5, 5, 5, 5, 5, 5, 5, 5, 5, 5, 6, 6, 6, 6, 6, 6, 6, 6, 6, 6, 6, 6, 6, 6, 6, 6, 6, 6, 6, 6, 6, 6, 6, 6, 6, 6, 6, 6, 6, 6, 6, 6, 7, 7, 7, 7, 7, 7, 7, 7, 7, 7, 7, 7, 7, 7, 7, 7, 7, 7, 7, 7, 7, 7, 7, 7, 7, 7, 7, 7, 7, 7, 7, 7, 7, 7, 7, 7, 7, 7, 7, 7, 7, 7, 7, 7, 7, 7, 7, 7, 7, 7, 7, 7, 7, 7, 7, 7, 7, 7, 7, 7, 7, 7, 7, 7, 8, 8, 8, 8, 8, 8, 8, 8, 8, 8, 8, 8, 8, 8, 8, 8, 8, 8, 8, 8, 8, 8, 8, 8, 8, 8, 8, 8, 8, 8, 8, 8, 8, 8, 8, 8, 8, 8, 8, 8, 8, 8, 8, 8, 8, 8, 8, 8, 8, 8, 8, 8, 8, 8, 8, 8, 8, 8, 8, 8, 8, 8, 8, 8, 8, 8, 8, 8, 8, 8, 8, 8, 8, 8, 8, 8, 8, 8, 8, 8, 8, 8, 8, 8, 8, 8, 8, 8, 8, 8, 8, 8, 8, 8, 8, 8, 8, 8, 8, 8, 8, 8, 8, 8, 8, 8, 8, 8, 8, 8, 8, 8, 8, 8, 8, 8, 8, 8, 8, 8, 8, 8, 8, 8, 8, 8, 8, 8]) t21).bind fun t22 =>
  (cvI .i64 t22).bind fun t23 =>
  (binP .add q2_5 t23).bind fun t24 =>
  some (t24, h6)
def k_mbits_Len64_j1 (q0_1 : AV) (q2_2 : AV) (h3 : Heap) : Option (AV × Heap) :=
  (binP .geq q0_1 (AV.int .u64 256)).bind fun t14 =>
  condE t14 (
  (binP .shr q0_1 (AV.int .u64 8)).bind fun t16 =>
  (binP .add q2_2 (AV.int .i64 8)).bind fun t18 =>
  k_mbits_Len64_j0 t16 t18 h3) (
  k_mbits_Len64_j0 q0_1 q2_2 h3)
def k_mbits_Len64_j2 (q0 : AV) (q2 : AV) (h0 : Heap) : Option (AV × Heap) :=
  (binP .geq q0 (AV.int .u64 65536)).bind fun t8 =>
  condE t8 (
  (binP .shr q0 (AV.int .u64 16)).bind fun t10 =>
  (binP .add q2 (AV.int .i64 16)).bind fun t12 =>
  k_mbits_Len64_j1 t10 t12 h0) (
  k_mbits_Len64_j1 q0 q2 h0)
def k_mbits_Len64 (x0 : AV) (h : Heap) : Option (AV × Heap) :=
  (binP .geq x0 (AV.int .u64 4294967296)).bind fun t4 =>
  condE t4 (
  (binP .shr x0 (AV.int .u64 32)).bind fun t6 =>
  k_mbits_Len64_j2 t6 (AV.int .i64 32) h) (
  k_mbits_Len64_j2 x0 (AV.int .i64 0) h)
def T26 : Tab := (90, p1 k_mbits_Len64) :: T25
/- 68: math/bits.Len -/
def k_mbits_Len (x0 : AV) (h : Heap) : Option (AV × Heap) :=
  condE (AV.bool false) (
  (cvI .u32 x0).bind fun t4 =>
  cl (k_mbits_Len32 t4 h) fun t5 h0 =>
  some (t5, h0)) (
  cl (k_mbits_Len64 x0 h) fun t7 h1 =>
  some (t7, h1))
def T27 : Tab := (68, p1 k_mbits_Len) :: T26
/- 109: cmp.isNaN[int] -/
def k_cmp_isNaN_int (x0 : AV) (h : Heap) : Option (AV × Heap) :=
  (eqP (some (.int .i64)) none false .neq x0 x0).bind fun t5 =>
  some (t5, h)
def T28 : Tab := (109, p1 k_cmp_isNaN_int) :: T27
/- 86: cmp.Less[int] -/
def k_cmp_Less_int (x0 : AV) (x1 : AV) (h : Heap) : Option (AV × Heap) :=
  cl (k_cmp_isNaN_int x0 h) fun t6 h0 =>
  gQ (gdW t6 true) h0 (some (x1, h0)) fun t8 h1 =>
  gQ (gdW t6 true) h1 (cl (k_cmp_isNaN_int t8 h1) fun t9 h2 =>
  some (t9, h2)) fun t9_3 h4 =>
  gQ (gdW t6 true) h4 ((unA .not t9_3).bind fun t10 =>
  some (t10, h4)) fun t10_5 h6 =>
  (pickP t6 t10_5 (AV.bool false)).bind fun t11 =>
  gQ (gdW t11 false) h6 (some (x0, h6)) fun t13 h7 =>
  gQ (gdW t11 false) h7 (some (x1, h7)) fun t14 h8 =>
  gQ (gdW t11 false) h8 ((binP .lss t13 t14).bind fun t15 =>
  some (t15, h8)) fun t15_9 h10 =>
  (pickP t11 (AV.bool true) t15_9).bind fun t16 =>
  some (t16, h10)
def T29 : Tab := (86, p2 k_cmp_Less_int) :: T28
/- 80: slices.insertionSortOrdered[int] -/
def k_slices_insertionSortOrdered_int_b0 (x0 : AV) (x1 : AV) (q7 : AV) (h1 : Heap) : OutV :=
  (binP .gtr q7 x1).bind fun t18 =>
  (gV (gdW t18 true) (some x0) (.tup [])).bind fun t20 =>
  (gV (gdW t18 true) (some q7) (.tup [])).bind fun t21 =>
  (gV (gdW t18 true) (iaS 1 t20 t21) (.tup [])).bind fun t22 =>
  (gV (gdW t18 true) (ldS h1 t22) (.tup [])).bind fun t23 =>
  (gV (gdW t18 true) (some x0) (.tup [])).bind fun t24 =>
  (gV (gdW t18 true) (some q7) (.tup [])).bind fun t25 =>
  (gV (gdW t18 true) (binP .sub t25 (AV.int .i64 1)) (.tup [])).bind fun t26 =>
  (gV (gdW t18 true) (iaS 1 t24 t26) (.tup [])).bind fun t27 =>
  (gV (gdW t18 true) (ldS h1 t27) (.tup [])).bind fun t28 =>
  gQ (gdW t18 true) h1 (cl (k_cmp_Less_int t23 t28 h1) fun t29 h2 =>
  some (t29, h2)) fun t29_3 h4 =>
  (pickP t18 t29_3 (AV.bool false)).bind fun t30 =>
  chk [h1, h4] [] (
  condE t30 (
  (binP .sub q7 (AV.int .i64 1)).bind fun t37 =>
  (binP .sub q7 (AV.int .i64 1)).bind fun t40 =>
  (iaS 1 x0 t40).bind fun t41 =>
  (ldS h4 t41).bind fun t42 =>
  (iaS 1 x0 q7).bind fun t45 =>
  (ldS h4 t45).bind fun t46 =>
  (iaS 1 x0 q7).bind fun t47 =>
  cl (stP 1 h4 t47 t42) fun u h5 =>
  (iaS 1 x0 t37).bind fun t48 =>
  cl (stP 1 h5 t48 t46) fun u_6 h7 =>
  chk [h4, h5, h7] [] (
  (binP .sub q7 (AV.int .i64 1)).bind fun t32 =>
  some (.normal, [t32], h7))) (
  some ((.exit 2), [q7], h4)))
def k_slices_insertionSortOrdered_int_L0 (x0 : AV) (x1 : AV) (q7 : AV) (h1 : Heap) : OutV := loopN (fun us g => k_slices_insertionSortOrdered_int_b0 x0 x1 (us.getD 0 .bot) g) [q7] h1
def k_slices_insertionSortOrdered_int_b1 (x0 : AV) (x1 : AV) (x2 : AV) (q6 : AV) (h0 : Heap) : OutV :=
  (binP .lss q6 x2).bind fun t12 =>
  condE t12 (
  lp (k_slices_insertionSortOrdered_int_L0 x0 x1 q6 h0) fun e vs h8 =>
  thenK (if (if e = .exit 2 then .normal else e) = .exit 1 then .normal else (if e = .exit 2 then .normal else e)) (
  (binP .add q6 (AV.int .i64 1)).bind fun t14 =>
  some (.normal, [t14], h8)) (fun e_9 => some (e_9, [q6], h8))) (
  some ((.exit 0), [q6], h0))
def k_slices_insertionSortOrdered_int_L1 (x0 : AV) (x1 : AV) (x2 : AV) (q6 : AV) (h0 : Heap) : OutV := loopN (fun us g => k_slices_insertionSortOrdered_int_b1 x0 x1 x2 (us.getD 0 .bot) g) [q6] h0
def k_slices_insertionSortOrdered_int (x0 : AV) (x1 : AV) (x2 : AV) (h : Heap) : Option (AV × Heap) :=
  (binP .add x1 (AV.int .i64 1)).bind fun t9 =>
  lp (k_slices_insertionSortOrdered_int_L1 x0 x1 x2 t9 h) fun e_10 vs_11 h12 =>
  endE (if e_10 = .exit 0 then .normal else e_10) (some (AV.tup [], h12))
def T30 : Tab := (80, p3 k_slices_insertionSortOrdered_int) :: T29
/- 104: slices.siftDownOrdered[int] -/
def k_slices_siftDownOrdered_int_j0 (x0 : AV) (x3 : AV) (q8 : AV) (q9 : AV) (h4 : Heap) : OutV :=
  (binP .add x3 q8).bind fun t42 =>
  (iaS 1 x0 t42).bind fun t43 =>
  (ldS h4 t43).bind fun t44 =>
  (binP .add x3 q9).bind fun t48 =>
  (iaS 1 x0 t48).bind fun t49 =>
  (ldS h4 t49).bind fun t50 =>
  cl (k_cmp_Less_int t44 t50 h4) fun t51 h5 =>
  (unA .not t51).bind fun t52 =>
  chk [h4, h5] [] (
  condE t52 (
  some (.ret, [q8], h5)) (
  (binP .add x3 q8).bind fun t56 =>
  (binP .add x3 q9).bind fun t60 =>
  (binP .add x3 q9).bind fun t64 =>
  (iaS 1 x0 t64).bind fun t65 =>
  (ldS h5 t65).bind fun t66 =>
  (binP .add x3 q8).bind fun t70 =>
  (iaS 1 x0 t70).bind fun t71 =>
  (ldS h5 t71).bind fun t72 =>
  (iaS 1 x0 t56).bind fun t73 =>
  cl (stP 1 h5 t73 t66) fun u h6 =>
  (iaS 1 x0 t60).bind fun t74 =>
  cl (stP 1 h6 t74 t72) fun u_7 h8 =>
  chk [h5, h6, h8] [] (
  some (.normal, [q9], h8))))
def k_slices_siftDownOrdered_int_b0 (x0 : AV) (x2 : AV) (x3 : AV) (q8 : AV) (h0 : Heap) : OutV :=
  (binP .mul (AV.int .i64 2) q8).bind fun t12 =>
  (binP .add t12 (AV.int .i64 1)).bind fun t13 =>
  (binP .geq t13 x2).bind fun t16 =>
  condE t16 (
  some ((.exit 0), [q8], h0)) (
  (binP .add t13 (AV.int .i64 1)).bind fun t18 =>
  (binP .lss t18 x2).bind fun t20 =>
  (gV (gdW t20 true) (some x0) (.tup [])).bind fun t22 =>
  (gV (gdW t20 true) (some x3) (.tup [])).bind fun t23 =>
  (gV (gdW t20 true) (some t13) (.tup [])).bind fun t24 =>
  (gV (gdW t20 true) (binP .add t23 t24) (.tup [])).bind fun t25 =>
  (gV (gdW t20 true) (iaS 1 t22 t25) (.tup [])).bind fun t26 =>
  (gV (gdW t20 true) (ldS h0 t26) (.tup [])).bind fun t27 =>
  (gV (gdW t20 true) (some x0) (.tup [])).bind fun t28 =>
  (gV (gdW t20 true) (some x3) (.tup [])).bind fun t29 =>
  (gV (gdW t20 true) (some t13) (.tup [])).bind fun t30 =>
  (gV (gdW t20 true) (binP .add t29 t30) (.tup [])).bind fun t31 =>
  (gV (gdW t20 true) (binP .add t31 (AV.int .i64 1)) (.tup [])).bind fun t32 =>
  (gV (gdW t20 true) (iaS 1 t28 t32) (.tup [])).bind fun t33 =>
  (gV (gdW t20 true) (ldS h0 t33) (.tup [])).bind fun t34 =>
  gQ (gdW t20 true) h0 (cl (k_cmp_Less_int t27 t34 h0) fun t35 h1 =>
  some (t35, h1)) fun t35_2 h3 =>
  (pickP t20 t35_2 (AV.bool false)).bind fun t36 =>
  chk [h0, h3] [] (
  condE t36 (
  (binP .add t13 (AV.int .i64 1)).bind fun t38 =>
  k_slices_siftDownOrdered_int_j0 x0 x3 q8 t38 h3) (
  k_slices_siftDownOrdered_int_j0 x0 x3 q8 t13 h3)))
def k_slices_siftDownOrdered_int_L0 (x0 : AV) (x2 : AV) (x3 : AV) (q8 : AV) (h0 : Heap) : OutV := loopN (fun us g => k_slices_siftDownOrdered_int_b0 x0 x2 x3 (us.getD 0 .bot) g) [q8] h0
def k_slices_siftDownOrdered_int (x0 : AV) (x1 : AV) (x2 : AV) (x3 : AV) (h : Heap) : Option (AV × Heap) :=
  lp (k_slices_siftDownOrdered_int_L0 x0 x2 x3 x1 h) fun e vs h9 =>
  endE (if e = .exit 0 then .normal else e) (some (AV.tup [], h9))
def T31 : Tab := (104, p4 k_slices_siftDownOrdered_int) :: T30
/- 81: slices.heapSortOrdered[int] -/
def k_slices_heapSortOrdered_int_b0 (x0 : AV) (x1 : AV) (t14 : AV) (q9 : AV) (h0 : Heap) : OutV :=
  (binP .geq q9 (AV.int .i64 0)).bind fun t19 =>
  condE t19 (
  cl (k_slices_siftDownOrdered_int x0 q9 t14 x1 h0) fun t26 h1 =>
  (binP .sub q9 (AV.int .i64 1)).bind fun t21 =>
  some (.normal, [t21], h1)) (
  some ((.exit 0), [q9], h0))
def k_slices_heapSortOrdered_int_L0 (x0 : AV) (x1 : AV) (t14 : AV) (q9 : AV) (h0 : Heap) : OutV := loopN (fun us g => k_slices_heapSortOrdered_int_b0 x0 x1 t14 (us.getD 0 .bot) g) [q9] h0
def k_slices_heapSortOrdered_int_b1 (x0 : AV) (x1 : AV) (q10 : AV) (h3 : Heap) : OutV :=
  (binP .geq q10 (AV.int .i64 0)).bind fun t30 =>
  condE t30 (
  (binP .add x1 q10).bind fun t38 =>
  (binP .add x1 q10).bind fun t42 =>
  (iaS 1 x0 t42).bind fun t43 =>
  (ldS h3 t43).bind fun t44 =>
  (iaS 1 x0 x1).bind fun t47 =>
  (ldS h3 t47).bind fun t48 =>
  (iaS 1 x0 x1).bind fun t49 =>
  cl (stP 1 h3 t49 t44) fun u h4 =>
  (iaS 1 x0 t38).bind fun t50 =>
  cl (stP 1 h4 t50 t48) fun u_5 h6 =>
  chk [h3, h4, h6] [] (
  cl (k_slices_siftDownOrdered_int x0 (AV.int .i64 0) q10 x1 h6) fun t55 h7 =>
  (binP .sub q10 (AV.int .i64 1)).bind fun t32 =>
  some (.normal, [t32], h7))) (
  some ((.exit 2), [q10], h3))
def k_slices_heapSortOrdered_int_L1 (x0 : AV) (x1 : AV) (q10 : AV) (h3 : Heap) : OutV := loopN (fun us g => k_slices_heapSortOrdered_int_b1 x0 x1 (us.getD 0 .bot) g) [q10] h3
def k_slices_heapSortOrdered_int (x0 : AV) (x1 : AV) (x2 : AV) (h : Heap) : Option (AV × Heap) :=
  (binP .sub x2 x1).bind fun t14 =>
  (binP .sub t14 (AV.int .i64 1)).bind fun t16 =>
  (binP .quo t16 (AV.int .i64 2)).bind fun t17 =>
  lp (k_slices_heapSortOrdered_int_L0 x0 x1 t14 t17 h) fun e vs h2 =>
  thenK (if e = .exit 0 then .normal else e) (
  (binP .sub t14 (AV.int .i64 1)).bind fun t28 =>
  lp (k_slices_heapSortOrdered_int_L1 x0 x1 t28 h2) fun e_8 vs_9 h10 =>
  endE (if e_8 = .exit 2 then .normal else e_8) (some (AV.tup [], h10))) (fun e_11 => endE e_11 (some (AV.tup [], h2)))
def T32 : Tab := (81, p3 k_slices_heapSortOrdered_int) :: T31
/- 105: slices.nextPowerOfTwo -/
def k_slices_nextPowerOfTwo (x0 : AV) (h : Heap) : Option (AV × Heap) :=
  (cvI .u64 x0).bind fun t4 =>
  cl (k_mbits_Len t4 h) fun t5 h0 =>
  (binP .shl (AV.int .u64 1) t5).bind fun t6 =>
  some (t6, h0)
def T33 : Tab := (105, p1 k_slices_nextPowerOfTwo) :: T32
/- 106: (*slices.xorshift).Next -/
def k_slices_xorshift_Next (x0 : AV) (h : Heap) : Option (AV × Heap) :=
  (nilV x0).bind fun t4 =>
  (ldS h t4).bind fun t5 =>
  (nilV x0).bind fun t7 =>
  (ldS h t7).bind fun t8 =>
  (binP .shl t8 (AV.int .u64 13)).bind fun t9 =>
  (binP .xor t5 t9).bind fun t10 =>
  (nilV x0).bind fun t11 =>
  cl (stP 1 h t11 t10) fun u h0 =>
  chk [h, h0] [] (
  (nilV x0).bind fun t13 =>
  (ldS h0 t13).bind fun t14 =>
  (nilV x0).bind fun t16 =>
  (ldS h0 t16).bind fun t17 =>
  (binP .shr t17 (AV.int .u64 7)).bind fun t18 =>
  (binP .xor t14 t18).bind fun t19 =>
  (nilV x0).bind fun t20 =>
  cl (stP 1 h0 t20 t19) fun u_1 h2 =>
  chk [h0, h2] [] (
  (nilV x0).bind fun t22 =>
  (ldS h2 t22).bind fun t23 =>
  (nilV x0).bind fun t25 =>
  (ldS h2 t25).bind fun t26 =>
  (binP .shl t26 (AV.int .u64 17)).bind fun t27 =>
  (binP .xor t23 t27).bind fun t28 =>
  (nilV x0).bind fun t29 =>
  cl (stP 1 h2 t29 t28) fun u_3 h4 =>
  chk [h2, h4] [] (
  (nilV x0).bind fun t31 =>
  (ldS h4 t31).bind fun t32 =>
  some (t32, h4))))
def T34 : Tab := (106, p1 k_slices_xorshift_Next) :: T33
/- 82: slices.breakPatternsOrdered[int] -/
def k_slices_breakPatternsOrdered_int_j0 (x0 : AV) (x1 : AV) (q9_4 : AV) (q10_10 : AV) (h11 : Heap) : OutV :=
  (binP .add x1 q10_10).bind fun t52 =>
  (binP .add x1 q10_10).bind fun t56 =>
  (iaS 1 x0 t56).bind fun t57 =>
  (ldS h11 t57).bind fun t58 =>
  (iaS 1 x0 q9_4).bind fun t61 =>
  (ldS h11 t61).bind fun t62 =>
  (iaS 1 x0 q9_4).bind fun t63 =>
  cl (stP 1 h11 t63 t58) fun u_12 h13 =>
  (iaS 1 x0 t52).bind fun t64 =>
  cl (stP 1 h13 t64 t62) fun u_14 h15 =>
  chk [h11, h13, h15] [] (
  (binP .add q9_4 (AV.int .i64 1)).bind fun t35 =>
  some (.normal, [t35], h15))
def k_slices_breakPatternsOrdered_int_b0 (x0 : AV) (x1 : AV) (t13 : AV) (t7 : AV) (t19 : AV) (q9_4 : AV) (h5 : Heap) : OutV :=
  (binP .quo t13 (AV.int .i64 4)).bind fun t29 =>
  (binP .mul t29 (AV.int .i64 2)).bind fun t30 =>
  (binP .add x1 t30).bind fun t31 =>
  (binP .add t31 (AV.int .i64 1)).bind fun t32 =>
  (binP .leq q9_4 t32).bind fun t33 =>
  condE t33 (
  cl (k_slices_xorshift_Next t7 h5) fun t36 h6 =>
  (binP .sub t19 (AV.int .u64 1)).bind fun t38 =>
  (binP .and t36 t38).bind fun t39 =>
  (cvI .i64 t39).bind fun t40 =>
  (binP .geq t40 t13).bind fun t43 =>
  condE t43 (
  (binP .sub t40 t13).bind fun t46 =>
  k_slices_breakPatternsOrdered_int_j0 x0 x1 q9_4 t46 h6) (
  k_slices_breakPatternsOrdered_int_j0 x0 x1 q9_4 t40 h6)) (
  some ((.exit 0), [q9_4], h5))
def k_slices_breakPatternsOrdered_int_L0 (x0 : AV) (x1 : AV) (t13 : AV) (t7 : AV) (t19 : AV) (q9_4 : AV) (h5 : Heap) : OutV := loopN (fun us g => k_slices_breakPatternsOrdered_int_b0 x0 x1 t13 t7 t19 (us.getD 0 .bot) g) [q9_4] h5
def k_slices_breakPatternsOrdered_int (x0 : AV) (x1 : AV) (x2 : AV) (h : Heap) : Option (AV × Heap) :=
  (binP .sub x2 x1).bind fun t13 =>
  (binP .geq t13 (AV.int .i64 8)).bind fun t15 =>
  condE t15 (
  (cvI .u64 t13).bind fun t17 =>
  mk (some (Blk.cells true [(AV.int .u64 0)], fun i => AV.ptr (some (i, 0)))) h fun t7 h1 =>
  cl (stP 1 h1 t7 t17) fun u h2 =>
  cl (k_slices_nextPowerOfTwo t13 h2) fun t19 h3 =>
  (binP .quo t13 (AV.int .i64 4)).bind fun t22 =>
  (binP .mul t22 (AV.int .i64 2)).bind fun t23 =>
  (binP .add x1 t23).bind fun t24 =>
  (binP .sub t24 (AV.int .i64 1)).bind fun t25 =>
  lp (k_slices_breakPatternsOrdered_int_L0 x0 x1 t13 t7 t19 t25 h3) fun e vs h16 =>
  endE (if e = .exit 0 then .normal else e) (some (AV.tup [], h16))) (
  some (AV.tup [], h))
def T35 : Tab := (82, p3 k_slices_breakPatternsOrdered_int) :: T34
/- 128: slices.order2Ordered[int] -/
def k_slices_order2Ordered_int (x0 : AV) (x1 : AV) (x2 : AV) (x3 : AV) (h : Heap) : Option (AV × Heap) :=
  (iaS 1 x0 x2).bind fun t12 =>
  (ldS h t12).bind fun t13 =>
  (iaS 1 x0 x1).bind fun t16 =>
  (ldS h t16).bind fun t17 =>
  cl (k_cmp_Less_int t13 t17 h) fun t18 h0 =>
  chk [h, h0] [] (
  condE t18 (
  (nilV x3).bind fun t20 =>
  (ldS h0 t20).bind fun t21 =>
  (binP .add t21 (AV.int .i64 1)).bind fun t22 =>
  (nilV x3).bind fun t23 =>
  cl (stP 1 h0 t23 t22) fun u h1 =>
  some (AV.tup [x2, x1], h1)) (
  some (AV.tup [x1, x2], h0)))
def T36 : Tab := (128, p4 k_slices_order2Ordered_int) :: T35
/- 108: slices.medianOrdered[int] -/
def k_slices_medianOrdered_int (x0 : AV) (x1 : AV) (x2 : AV) (x3 : AV) (x4 : AV) (h : Heap) : Option (AV × Heap) :=
  cl (k_slices_order2Ordered_int x0 x1 x2 x4 h) fun t16 h0 =>
  (extractV 0 t16).bind fun t17 =>
  (extractV 1 t16).bind fun t18 =>
  cl (k_slices_order2Ordered_int x0 t18 x3 x4 h0) fun t24 h1 =>
  (extractV 0 t24).bind fun t25 =>
  (extractV 1 t24).bind fun t26 =>
  cl (k_slices_order2Ordered_int x0 t17 t25 x4 h1) fun t32 h2 =>
  (extractV 0 t32).bind fun t33 =>
  (extractV 1 t32).bind fun t34 =>
  some (t34, h2)
def T37 : Tab := (108, p5 k_slices_medianOrdered_int) :: T36
/- 107: slices.medianAdjacentOrdered[int] -/
def k_slices_medianAdjacentOrdered_int (x0 : AV) (x1 : AV) (x2 : AV) (h : Heap) : Option (AV × Heap) :=
  (binP .sub x1 (AV.int .i64 1)).bind fun t9 =>
  (binP .add x1 (AV.int .i64 1)).bind fun t12 =>
  cl (k_slices_medianOrdered_int x0 t9 x1 t12 x2 h) fun t14 h0 =>
  some (t14, h0)
def T38 : Tab := (107, p3 k_slices_medianAdjacentOrdered_int) :: T37
/- 83: slices.choosePivotOrdered[int] -/
def k_slices_choosePivotOrdered_int_j0 (t9 : AV) (q11 : AV) (h1 : Heap) : Option (AV × Heap) :=
  (ldS h1 t9).bind fun t49 =>
  (eqP (some (.int .i64)) none false .eql t49 (AV.int .i64 0)).bind fun t52 =>
  condE t52 (
  some (AV.tup [q11, (AV.int .i64 1)], h1)) (
  (eqP (some (.int .i64)) none false .eql t49 (AV.int .i64 12)).bind fun t55 =>
  condE t55 (
  some (AV.tup [q11, (AV.int .i64 2)], h1)) (
  some (AV.tup [q11, (AV.int .i64 0)], h1)))
def k_slices_choosePivotOrdered_int_j1 (x0 : AV) (t9 : AV) (q10_5 : AV) (q11_9 : AV) (q12_13 : AV) (h14 : Heap) : Option (AV × Heap) :=
  cl (k_slices_medianOrdered_int x0 q10_5 q11_9 q12_13 t9 h14) fun t48 h15 =>
  k_slices_choosePivotOrdered_int_j0 t9 t48 h15
def k_slices_choosePivotOrdered_int (x0 : AV) (x1 : AV) (x2 : AV) (h : Heap) : Option (AV × Heap) :=
  (binP .sub x2 x1).bind fun t15 =>
  mk (some (Blk.cells true [(AV.int .i64 0)], fun i => AV.ptr (some (i, 0)))) h fun t9 h0 =>
  (binP .quo t15 (AV.int .i64 4)).bind fun t18 =>
  (binP .mul t18 (AV.int .i64 1)).bind fun t19 =>
  (binP .add x1 t19).bind fun t20 =>
  (binP .quo t15 (AV.int .i64 4)).bind fun t23 =>
  (binP .mul t23 (AV.int .i64 2)).bind fun t24 =>
  (binP .add x1 t24).bind fun t25 =>
  (binP .quo t15 (AV.int .i64 4)).bind fun t28 =>
  (binP .mul t28 (AV.int .i64 3)).bind fun t29 =>
  (binP .add x1 t29).bind fun t30 =>
  (binP .geq t15 (AV.int .i64 8)).bind fun t32 =>
  condE t32 (
  (binP .geq t15 (AV.int .i64 50)).bind fun t34 =>
  condE t34 (
  cl (k_slices_medianAdjacentOrdered_int x0 t20 t9 h0) fun t37 h16 =>
  cl (k_slices_medianAdjacentOrdered_int x0 t25 t9 h16) fun t40 h17 =>
  cl (k_slices_medianAdjacentOrdered_int x0 t30 t9 h17) fun t43 h18 =>
  k_slices_choosePivotOrdered_int_j1 x0 t9 t37 t40 t43 h18) (
  k_slices_choosePivotOrdered_int_j1 x0 t9 t20 t25 t30 h0)) (
  k_slices_choosePivotOrdered_int_j0 t9 t25 h0)
def T39 : Tab := (83, p3 k_slices_choosePivotOrdered_int) :: T38
/- 84: slices.reverseRangeOrdered[int] -/
def k_slices_reverseRangeOrdered_int_b0 (x0 : AV) (q6 : AV) (q7 : AV) (h0 : Heap) : OutV :=
  (binP .lss q6 q7).bind fun t13 =>
  condE t13 (
  (iaS 1 x0 q7).bind fun t20 =>
  (ldS h0 t20).bind fun t21 =>
  (iaS 1 x0 q6).bind fun t24 =>
  (ldS h0 t24).bind fun t25 =>
  (iaS 1 x0 q6).bind fun t26 =>
  cl (stP 1 h0 t26 t21) fun u h1 =>
  (iaS 1 x0 q7).bind fun t27 =>
  cl (stP 1 h1 t27 t25) fun u_2 h3 =>
  chk [h0, h1, h3] [] (
  (binP .add q6 (AV.int .i64 1)).bind fun t29 =>
  (binP .sub q7 (AV.int .i64 1)).bind fun t31 =>
  some (.normal, [t29, t31], h3))) (
  some ((.exit 0), [q6, q7], h0))
def k_slices_reverseRangeOrdered_int_L0 (x0 : AV) (q6 : AV) (q7 : AV) (h0 : Heap) : OutV := loopN (fun us g => k_slices_reverseRangeOrdered_int_b0 x0 (us.getD 0 .bot) (us.getD 1 .bot) g) [q6, q7] h0
def k_slices_reverseRangeOrdered_int (x0 : AV) (x1 : AV) (x2 : AV) (h : Heap) : Option (AV × Heap) :=
  (binP .sub x2 (AV.int .i64 1)).bind fun t10 =>
  lp (k_slices_reverseRangeOrdered_int_L0 x0 x1 t10 h) fun e vs h4 =>
  endE (if e = .exit 0 then .normal else e) (some (AV.tup [], h4))
def T40 : Tab := (84, p3 k_slices_reverseRangeOrdered_int) :: T39
/- 85: slices.partialInsertionSortOrdered[int] -/
def k_slices_partialInsertionSortOrdered_int_b0 (x0 : AV) (x2 : AV) (q7_4 : AV) (h5 : Heap) : OutV :=
  (binP .lss q7_4 x2).bind fun t19 =>
  (gV (gdW t19 true) (some x0) (.tup [])).bind fun t21 =>
  (gV (gdW t19 true) (some q7_4) (.tup [])).bind fun t22 =>
  (gV (gdW t19 true) (iaS 1 t21 t22) (.tup [])).bind fun t23 =>
  (gV (gdW t19 true) (ldS h5 t23) (.tup [])).bind fun t24 =>
  (gV (gdW t19 true) (some x0) (.tup [])).bind fun t25 =>
  (gV (gdW t19 true) (some q7_4) (.tup [])).bind fun t26 =>
  (gV (gdW t19 true) (binP .sub t26 (AV.int .i64 1)) (.tup [])).bind fun t27 =>
  (gV (gdW t19 true) (iaS 1 t25 t27) (.tup [])).bind fun t28 =>
  (gV (gdW t19 true) (ldS h5 t28) (.tup [])).bind fun t29 =>
  gQ (gdW t19 true) h5 (cl (k_cmp_Less_int t24 t29 h5) fun t30 h6 =>
  some (t30, h6)) fun t30_7 h8 =>
  (gV (gdW t19 true) (unA .not t30_7) (.tup [])).bind fun t31 =>
  (pickP t19 t31 (AV.bool false)).bind fun t32 =>
  chk [h5, h8] [] (
  condE t32 (
  (binP .add q7_4 (AV.int .i64 1)).bind fun t34 =>
  some (.normal, [t34], h8)) (
  some ((.exit 2), [q7_4], h8)))
def k_slices_partialInsertionSortOrdered_int_L0 (x0 : AV) (x2 : AV) (q7_4 : AV) (h5 : Heap) : OutV := loopN (fun us g => k_slices_partialInsertionSortOrdered_int_b0 x0 x2 (us.getD 0 .bot) g) [q7_4] h5
def k_slices_partialInsertionSortOrdered_int_j0 (q6 : AV) (q8 : AV) (vs : List AV) (h83 : Heap) : OutV :=
  (binP .add q8 (AV.int .i64 1)).bind fun t16_84 =>
  some (.normal, [q6, (vs.getD 0 .bot), t16_84], h83)
def k_slices_partialInsertionSortOrdered_int_b1 (x0 : AV) (x2 : AV) (q10_119 : AV) (h120 : Heap) : OutV :=
  (binP .lss q10_119 x2).bind fun t103 =>
  condE t103 (
  (iaS 1 x0 q10_119).bind fun t108 =>
  (ldS h120 t108).bind fun t109 =>
  (binP .sub q10_119 (AV.int .i64 1)).bind fun t112 =>
  (iaS 1 x0 t112).bind fun t113 =>
  (ldS h120 t113).bind fun t114 =>
  cl (k_cmp_Less_int t109 t114 h120) fun t115 h121 =>
  (unA .not t115).bind fun t116 =>
  chk [h120, h121] [] (
  condE t116 (
  some ((.exit 6), [q10_119], h121)) (
  (binP .sub q10_119 (AV.int .i64 1)).bind fun t121 =>
  (binP .sub q10_119 (AV.int .i64 1)).bind fun t124 =>
  (iaS 1 x0 t124).bind fun t125 =>
  (ldS h121 t125).bind fun t126 =>
  (iaS 1 x0 q10_119).bind fun t129 =>
  (ldS h121 t129).bind fun t130 =>
  (iaS 1 x0 q10_119).bind fun t131 =>
  cl (stP 1 h121 t131 t126) fun u_122 h123 =>
  (iaS 1 x0 t121).bind fun t132 =>
  cl (stP 1 h123 t132 t130) fun u_124 h125 =>
  chk [h121, h123, h125] [] (
  (binP .add q10_119 (AV.int .i64 1)).bind fun t105 =>
  some (.normal, [t105], h125))))) (
  some ((.exit 6), [q10_119], h120))
def k_slices_partialInsertionSortOrdered_int_L1 (x0 : AV) (x2 : AV) (q10_119 : AV) (h120 : Heap) : OutV := loopN (fun us g => k_slices_partialInsertionSortOrdered_int_b1 x0 x2 (us.getD 0 .bot) g) [q10_119] h120
def k_slices_partialInsertionSortOrdered_int_j1 (x0 : AV) (x2 : AV) (q6 : AV) (q8 : AV) (vs : List AV) (h47 : Heap) : OutV :=
  (binP .sub x2 (vs.getD 0 .bot)).bind fun t97 =>
  (binP .geq t97 (AV.int .i64 2)).bind fun t98 =>
  condE t98 (
  (binP .add (vs.getD 0 .bot) (AV.int .i64 1)).bind fun t100 =>
  lp (k_slices_partialInsertionSortOrdered_int_L1 x0 x2 t100 h47) fun e_126 vs_127 h128 =>
  thenK (if (if e_126 = .exit 6 then .normal else e_126) = .exit 1 then .normal else (if e_126 = .exit 6 then .normal else e_126)) (
  (binP .add q8 (AV.int .i64 1)).bind fun t16_129 =>
  some (.normal, [q6, (vs.getD 0 .bot), t16_129], h128)) (fun e_130 => some (e_130, [q6, (vs.getD 0 .bot), q8], h128))) (
  k_slices_partialInsertionSortOrdered_int_j0 q6 q8 vs h47)
def k_slices_partialInsertionSortOrdered_int_b2 (x0 : AV) (q9_164 : AV) (h165 : Heap) : OutV :=
  (binP .geq q9_164 (AV.int .i64 1)).bind fun t65 =>
  condE t65 (
  (iaS 1 x0 q9_164).bind fun t70 =>
  (ldS h165 t70).bind fun t71 =>
  (binP .sub q9_164 (AV.int .i64 1)).bind fun t74 =>
  (iaS 1 x0 t74).bind fun t75 =>
  (ldS h165 t75).bind fun t76 =>
  cl (k_cmp_Less_int t71 t76 h165) fun t77 h166 =>
  (unA .not t77).bind fun t78 =>
  chk [h165, h166] [] (
  condE t78 (
  some ((.exit 4), [q9_164], h166)) (
  (binP .sub q9_164 (AV.int .i64 1)).bind fun t83 =>
  (binP .sub q9_164 (AV.int .i64 1)).bind fun t86 =>
  (iaS 1 x0 t86).bind fun t87 =>
  (ldS h166 t87).bind fun t88 =>
  (iaS 1 x0 q9_164).bind fun t91 =>
  (ldS h166 t91).bind fun t92 =>
  (iaS 1 x0 q9_164).bind fun t93 =>
  cl (stP 1 h166 t93 t88) fun u_167 h168 =>
  (iaS 1 x0 t83).bind fun t94 =>
  cl (stP 1 h168 t94 t92) fun u_169 h170 =>
  chk [h166, h168, h170] [] (
  (binP .sub q9_164 (AV.int .i64 1)).bind fun t67 =>
  some (.normal, [t67], h170))))) (
  some ((.exit 4), [q9_164], h165))
def k_slices_partialInsertionSortOrdered_int_L2 (x0 : AV) (q9_164 : AV) (h165 : Heap) : OutV := loopN (fun us g => k_slices_partialInsertionSortOrdered_int_b2 x0 (us.getD 0 .bot) g) [q9_164] h165
def k_slices_partialInsertionSortOrdered_int_j2 (q6 : AV) (q8 : AV) (vs : List AV) (h211 : Heap) : OutV :=
  (binP .add q8 (AV.int .i64 1)).bind fun t16_212 =>
  some (.normal, [q6, (vs.getD 0 .bot), t16_212], h211)
def k_slices_partialInsertionSortOrdered_int_b3 (x0 : AV) (x2 : AV) (q10_248 : AV) (h249 : Heap) : OutV :=
  (binP .lss q10_248 x2).bind fun t103_250 =>
  condE t103_250 (
  (iaS 1 x0 q10_248).bind fun t108_251 =>
  (ldS h249 t108_251).bind fun t109_252 =>
  (binP .sub q10_248 (AV.int .i64 1)).bind fun t112_253 =>
  (iaS 1 x0 t112_253).bind fun t113_254 =>
  (ldS h249 t113_254).bind fun t114_255 =>
  cl (k_cmp_Less_int t109_252 t114_255 h249) fun t115_256 h257 =>
  (unA .not t115_256).bind fun t116_258 =>
  chk [h249, h257] [] (
  condE t116_258 (
  some ((.exit 6), [q10_248], h257)) (
  (binP .sub q10_248 (AV.int .i64 1)).bind fun t121_259 =>
  (binP .sub q10_248 (AV.int .i64 1)).bind fun t124_260 =>
  (iaS 1 x0 t124_260).bind fun t125_261 =>
  (ldS h257 t125_261).bind fun t126_262 =>
  (iaS 1 x0 q10_248).bind fun t129_263 =>
  (ldS h257 t129_263).bind fun t130_264 =>
  (iaS 1 x0 q10_248).bind fun t131_265 =>
  cl (stP 1 h257 t131_265 t126_262) fun u_266 h267 =>
  (iaS 1 x0 t121_259).bind fun t132_268 =>
  cl (stP 1 h267 t132_268 t130_264) fun u_269 h270 =>
  chk [h257, h267, h270] [] (
  (binP .add q10_248 (AV.int .i64 1)).bind fun t105_271 =>
  some (.normal, [t105_271], h270))))) (
  some ((.exit 6), [q10_248], h249))
def k_slices_partialInsertionSortOrdered_int_L3 (x0 : AV) (x2 : AV) (q10_248 : AV) (h249 : Heap) : OutV := loopN (fun us g => k_slices_partialInsertionSortOrdered_int_b3 x0 x2 (us.getD 0 .bot) g) [q10_248] h249
def k_slices_partialInsertionSortOrdered_int_b4 (x0 : AV) (x1 : AV) (x2 : AV) (q6 : AV) (q7 : AV) (q8 : AV) (h0 : Heap) : OutV :=
  (binP .lss q8 (AV.int .i64 5)).bind fun t14 =>
  condE t14 (
  lp (k_slices_partialInsertionSortOrdered_int_L0 x0 x2 q7 h0) fun e vs h9 =>
  thenK (if e = .exit 2 then .normal else e) (
  (eqP (some (.int .i64)) none false .eql (vs.getD 0 .bot) x2).bind fun t37 =>
  condE t37 (
  some (.ret, [(AV.bool true), (vs.getD 0 .bot), q8], h9)) (
  (binP .sub x2 x1).bind fun t40 =>
  (binP .lss t40 (AV.int .i64 50)).bind fun t41 =>
  condE t41 (
  some (.ret, [(AV.bool false), (vs.getD 0 .bot), q8], h9)) (
  (binP .sub (vs.getD 0 .bot) (AV.int .i64 1)).bind fun t46 =>
  (binP .sub (vs.getD 0 .bot) (AV.int .i64 1)).bind fun t49 =>
  (iaS 1 x0 t49).bind fun t50 =>
  (ldS h9 t50).bind fun t51 =>
  (iaS 1 x0 (vs.getD 0 .bot)).bind fun t54 =>
  (ldS h9 t54).bind fun t55 =>
  (iaS 1 x0 (vs.getD 0 .bot)).bind fun t56 =>
  cl (stP 1 h9 t56 t51) fun u h10 =>
  (iaS 1 x0 t46).bind fun t57 =>
  cl (stP 1 h10 t57 t55) fun u_11 h12 =>
  chk [h9, h10, h12] [] (
  (binP .sub (vs.getD 0 .bot) x1).bind fun t60 =>
  (binP .geq t60 (AV.int .i64 2)).bind fun t61 =>
  condE t61 (
  (binP .sub (vs.getD 0 .bot) (AV.int .i64 1)).bind fun t63 =>
  lp (k_slices_partialInsertionSortOrdered_int_L2 x0 t63 h12) fun e_171 vs_172 h173 =>
  thenK (if e_171 = .exit 4 then .normal else e_171) (
  (binP .sub x2 (vs.getD 0 .bot)).bind fun t97_174 =>
  (binP .geq t97_174 (AV.int .i64 2)).bind fun t98_175 =>
  condE t98_175 (
  (binP .add (vs.getD 0 .bot) (AV.int .i64 1)).bind fun t100_213 =>
  lp (k_slices_partialInsertionSortOrdered_int_L3 x0 x2 t100_213 h173) fun e_272 vs_273 h274 =>
  thenK (if (if e_272 = .exit 6 then .normal else e_272) = .exit 1 then .normal else (if e_272 = .exit 6 then .normal else e_272)) (
  (binP .add q8 (AV.int .i64 1)).bind fun t16_275 =>
  some (.normal, [q6, (vs.getD 0 .bot), t16_275], h274)) (fun e_276 => some (e_276, [q6, (vs.getD 0 .bot), q8], h274))) (
  k_slices_partialInsertionSortOrdered_int_j2 q6 q8 vs h173)) (fun e_277 => thenK (if e_277 = .exit 1 then .normal else e_277) (
  (binP .add q8 (AV.int .i64 1)).bind fun t16_278 =>
  some (.normal, [q6, (vs.getD 0 .bot), t16_278], h173)) (fun e_279 => some (e_279, [q6, (vs.getD 0 .bot), q8], h173)))) (
  k_slices_partialInsertionSortOrdered_int_j1 x0 x2 q6 q8 vs h12))))) (fun e_280 => thenK (if e_280 = .exit 1 then .normal else e_280) (
  (binP .add q8 (AV.int .i64 1)).bind fun t16_281 =>
  some (.normal, [q6, (vs.getD 0 .bot), t16_281], h9)) (fun e_282 => some (e_282, [q6, (vs.getD 0 .bot), q8], h9)))) (
  some ((.exit 0), [q6, q7, q8], h0))
def k_slices_partialInsertionSortOrdered_int_L4 (x0 : AV) (x1 : AV) (x2 : AV) (q6 : AV) (q7 : AV) (q8 : AV) (h0 : Heap) : OutV := loopN (fun us g => k_slices_partialInsertionSortOrdered_int_b4 x0 x1 x2 (us.getD 0 .bot) (us.getD 1 .bot) (us.getD 2 .bot) g) [q6, q7, q8] h0
def k_slices_partialInsertionSortOrdered_int (x0 : AV) (x1 : AV) (x2 : AV) (h : Heap) : Option (AV × Heap) :=
  (binP .add x1 (AV.int .i64 1)).bind fun t12 =>
  lp (k_slices_partialInsertionSortOrdered_int_L4 x0 x1 x2 (AV.bool false) t12 (AV.int .i64 0) h) fun e_283 vs_284 h285 =>
  thenK (if e_283 = .exit 0 then .normal else e_283) (
  some ((AV.bool false), h285)) (fun e_286 => endE e_286 (some ((vs_284.getD 0 .bot), h285)))
def T41 : Tab := (85, p3 k_slices_partialInsertionSortOrdered_int) :: T40
/- 87: slices.partitionEqualOrdered[int] -/
def k_slices_partitionEqualOrdered_int_b0 (x0 : AV) (x1 : AV) (q10 : AV) (q9_4 : AV) (h5 : Heap) : OutV :=
  (binP .leq q9_4 q10).bind fun t31 =>
  (gV (gdW t31 true) (some x0) (.tup [])).bind fun t33 =>
  (gV (gdW t31 true) (some x1) (.tup [])).bind fun t34 =>
  (gV (gdW t31 true) (iaS 1 t33 t34) (.tup [])).bind fun t35 =>
  (gV (gdW t31 true) (ldS h5 t35) (.tup [])).bind fun t36 =>
  (gV (gdW t31 true) (some x0) (.tup [])).bind fun t37 =>
  (gV (gdW t31 true) (some q9_4) (.tup [])).bind fun t38 =>
  (gV (gdW t31 true) (iaS 1 t37 t38) (.tup [])).bind fun t39 =>
  (gV (gdW t31 true) (ldS h5 t39) (.tup [])).bind fun t40 =>
  gQ (gdW t31 true) h5 (cl (k_cmp_Less_int t36 t40 h5) fun t41 h6 =>
  some (t41, h6)) fun t41_7 h8 =>
  (gV (gdW t31 true) (unA .not t41_7) (.tup [])).bind fun t42 =>
  (pickP t31 t42 (AV.bool false)).bind fun t43 =>
  chk [h5, h8] [] (
  condE t43 (
  (binP .add q9_4 (AV.int .i64 1)).bind fun t45 =>
  some (.normal, [t45], h8)) (
  some ((.exit 2), [q9_4], h8)))
def k_slices_partitionEqualOrdered_int_L0 (x0 : AV) (x1 : AV) (q10 : AV) (q9_4 : AV) (h5 : Heap) : OutV := loopN (fun us g => k_slices_partitionEqualOrdered_int_b0 x0 x1 q10 (us.getD 0 .bot) g) [q9_4] h5
def k_slices_partitionEqualOrdered_int_b1 (x0 : AV) (x1 : AV) (vs : List AV) (q10_10 : AV) (h11 : Heap) : OutV :=
  (binP .leq (vs.getD 0 .bot) q10_10).bind fun t48 =>
  (gV (gdW t48 true) (some x0) (.tup [])).bind fun t50 =>
  (gV (gdW t48 true) (some x1) (.tup [])).bind fun t51 =>
  (gV (gdW t48 true) (iaS 1 t50 t51) (.tup [])).bind fun t52 =>
  (gV (gdW t48 true) (ldS h11 t52) (.tup [])).bind fun t53 =>
  (gV (gdW t48 true) (some x0) (.tup [])).bind fun t54 =>
  (gV (gdW t48 true) (some q10_10) (.tup [])).bind fun t55 =>
  (gV (gdW t48 true) (iaS 1 t54 t55) (.tup [])).bind fun t56 =>
  (gV (gdW t48 true) (ldS h11 t56) (.tup [])).bind fun t57 =>
  gQ (gdW t48 true) h11 (cl (k_cmp_Less_int t53 t57 h11) fun t58 h12 =>
  some (t58, h12)) fun t58_13 h14 =>
  (pickP t48 t58_13 (AV.bool false)).bind fun t59 =>
  chk [h11, h14] [] (
  condE t59 (
  (binP .sub q10_10 (AV.int .i64 1)).bind fun t61 =>
  some (.normal, [t61], h14)) (
  some ((.exit 4), [q10_10], h14)))
def k_slices_partitionEqualOrdered_int_L1 (x0 : AV) (x1 : AV) (vs : List AV) (q10_10 : AV) (h11 : Heap) : OutV := loopN (fun us g => k_slices_partitionEqualOrdered_int_b1 x0 x1 vs (us.getD 0 .bot) g) [q10_10] h11
def k_slices_partitionEqualOrdered_int_b2 (x0 : AV) (x1 : AV) (q9 : AV) (q10 : AV) (h3 : Heap) : OutV :=
  lp (k_slices_partitionEqualOrdered_int_L0 x0 x1 q10 q9 h3) fun e vs h9 =>
  thenK (if e = .exit 2 then .normal else e) (
  lp (k_slices_partitionEqualOrdered_int_L1 x0 x1 vs q10 h9) fun e_15 vs_16 h17 =>
  thenK (if e_15 = .exit 4 then .normal else e_15) (
  (binP .gtr (vs.getD 0 .bot) (vs_16.getD 0 .bot)).bind fun t64 =>
  condE t64 (
  some ((.exit 0), [(vs.getD 0 .bot), (vs_16.getD 0 .bot)], h17)) (
  (iaS 1 x0 (vs_16.getD 0 .bot)).bind fun t71 =>
  (ldS h17 t71).bind fun t72 =>
  (iaS 1 x0 (vs.getD 0 .bot)).bind fun t75 =>
  (ldS h17 t75).bind fun t76 =>
  (iaS 1 x0 (vs.getD 0 .bot)).bind fun t77 =>
  cl (stP 1 h17 t77 t72) fun u_18 h19 =>
  (iaS 1 x0 (vs_16.getD 0 .bot)).bind fun t78 =>
  cl (stP 1 h19 t78 t76) fun u_20 h21 =>
  chk [h17, h19, h21] [] (
  (binP .add (vs.getD 0 .bot) (AV.int .i64 1)).bind fun t80 =>
  (binP .sub (vs_16.getD 0 .bot) (AV.int .i64 1)).bind fun t82 =>
  some (.normal, [t80, t82], h21)))) (fun e_22 => some ((if e_22 = .exit 1 then .normal else e_22), [(vs.getD 0 .bot), (vs_16.getD 0 .bot)], h17))) (fun e_23 => some ((if e_23 = .exit 1 then .normal else e_23), [(vs.getD 0 .bot), q10], h9))
def k_slices_partitionEqualOrdered_int_L2 (x0 : AV) (x1 : AV) (q9 : AV) (q10 : AV) (h3 : Heap) : OutV := loopN (fun us g => k_slices_partitionEqualOrdered_int_b2 x0 x1 (us.getD 0 .bot) (us.getD 1 .bot) g) [q9, q10] h3
def k_slices_partitionEqualOrdered_int (x0 : AV) (x1 : AV) (x2 : AV) (x3 : AV) (h : Heap) : Option (AV × Heap) :=
  (iaS 1 x0 x3).bind fun t17 =>
  (ldS h t17).bind fun t18 =>
  (iaS 1 x0 x1).bind fun t21 =>
  (ldS h t21).bind fun t22 =>
  (iaS 1 x0 x1).bind fun t23 =>
  cl (stP 1 h t23 t18) fun u h0 =>
  (iaS 1 x0 x3).bind fun t24 =>
  cl (stP 1 h0 t24 t22) fun u_1 h2 =>
  chk [h, h0, h2] [] (
  (binP .add x1 (AV.int .i64 1)).bind fun t26 =>
  (binP .sub x2 (AV.int .i64 1)).bind fun t28 =>
  lp (k_slices_partitionEqualOrdered_int_L2 x0 x1 t26 t28 h2) fun e_24 vs_25 h26 =>
  thenK (if e_24 = .exit 0 then .normal else e_24) (
  some ((vs_25.getD 0 .bot), h26)) (fun e_27 => endE e_27 (some ((AV.int .i64 0), h26))))
def T42 : Tab := (87, p4 k_slices_partitionEqualOrdered_int) :: T41
/- 88: slices.partitionOrdered[int] -/
def k_slices_partitionOrdered_int_b0 (x0 : AV) (x1 : AV) (t29 : AV) (q10 : AV) (h3 : Heap) : OutV :=
  (binP .leq q10 t29).bind fun t32 =>
  (gV (gdW t32 true) (some x0) (.tup [])).bind fun t34 =>
  (gV (gdW t32 true) (some q10) (.tup [])).bind fun t35 =>
  (gV (gdW t32 true) (iaS 1 t34 t35) (.tup [])).bind fun t36 =>
  (gV (gdW t32 true) (ldS h3 t36) (.tup [])).bind fun t37 =>
  (gV (gdW t32 true) (some x0) (.tup [])).bind fun t38 =>
  (gV (gdW t32 true) (some x1) (.tup [])).bind fun t39 =>
  (gV (gdW t32 true) (iaS 1 t38 t39) (.tup [])).bind fun t40 =>
  (gV (gdW t32 true) (ldS h3 t40) (.tup [])).bind fun t41 =>
  gQ (gdW t32 true) h3 (cl (k_cmp_Less_int t37 t41 h3) fun t42 h4 =>
  some (t42, h4)) fun t42_5 h6 =>
  (pickP t32 t42_5 (AV.bool false)).bind fun t43 =>
  chk [h3, h6] [] (
  condE t43 (
  (binP .add q10 (AV.int .i64 1)).bind fun t45 =>
  some (.normal, [t45], h6)) (
  some ((.exit 0), [q10], h6)))
def k_slices_partitionOrdered_int_L0 (x0 : AV) (x1 : AV) (t29 : AV) (q10 : AV) (h3 : Heap) : OutV := loopN (fun us g => k_slices_partitionOrdered_int_b0 x0 x1 t29 (us.getD 0 .bot) g) [q10] h3
def k_slices_partitionOrdered_int_b1 (x0 : AV) (x1 : AV) (vs : List AV) (q11 : AV) (h8 : Heap) : OutV :=
  (binP .leq (vs.getD 0 .bot) q11).bind fun t48 =>
  (gV (gdW t48 true) (some x0) (.tup [])).bind fun t50 =>
  (gV (gdW t48 true) (some q11) (.tup [])).bind fun t51 =>
  (gV (gdW t48 true) (iaS 1 t50 t51) (.tup [])).bind fun t52 =>
  (gV (gdW t48 true) (ldS h8 t52) (.tup [])).bind fun t53 =>
  (gV (gdW t48 true) (some x0) (.tup [])).bind fun t54 =>
  (gV (gdW t48 true) (some x1) (.tup [])).bind fun t55 =>
  (gV (gdW t48 true) (iaS 1 t54 t55) (.tup [])).bind fun t56 =>
  (gV (gdW t48 true) (ldS h8 t56) (.tup [])).bind fun t57 =>
  gQ (gdW t48 true) h8 (cl (k_cmp_Less_int t53 t57 h8) fun t58 h9 =>
  some (t58, h9)) fun t58_10 h11 =>
  (gV (gdW t48 true) (unA .not t58_10) (.tup [])).bind fun t59 =>
  (pickP t48 t59 (AV.bool false)).bind fun t60 =>
  chk [h8, h11] [] (
  condE t60 (
  (binP .sub q11 (AV.int .i64 1)).bind fun t62 =>
  some (.normal, [t62], h11)) (
  some ((.exit 2), [q11], h11)))
def k_slices_partitionOrdered_int_L1 (x0 : AV) (x1 : AV) (vs : List AV) (q11 : AV) (h8 : Heap) : OutV := loopN (fun us g => k_slices_partitionOrdered_int_b1 x0 x1 vs (us.getD 0 .bot) g) [q11] h8
def k_slices_partitionOrdered_int_b2 (x0 : AV) (x1 : AV) (q11_24 : AV) (q10_26 : AV) (h27 : Heap) : OutV :=
  (binP .leq q10_26 q11_24).bind fun t101 =>
  (gV (gdW t101 true) (some x0) (.tup [])).bind fun t103 =>
  (gV (gdW t101 true) (some q10_26) (.tup [])).bind fun t104 =>
  (gV (gdW t101 true) (iaS 1 t103 t104) (.tup [])).bind fun t105 =>
  (gV (gdW t101 true) (ldS h27 t105) (.tup [])).bind fun t106 =>
  (gV (gdW t101 true) (some x0) (.tup [])).bind fun t107 =>
  (gV (gdW t101 true) (some x1) (.tup [])).bind fun t108 =>
  (gV (gdW t101 true) (iaS 1 t107 t108) (.tup [])).bind fun t109 =>
  (gV (gdW t101 true) (ldS h27 t109) (.tup [])).bind fun t110 =>
  gQ (gdW t101 true) h27 (cl (k_cmp_Less_int t106 t110 h27) fun t111 h28 =>
  some (t111, h28)) fun t111_29 h30 =>
  (pickP t101 t111_29 (AV.bool false)).bind fun t112 =>
  chk [h27, h30] [] (
  condE t112 (
  (binP .add q10_26 (AV.int .i64 1)).bind fun t114 =>
  some (.normal, [t114], h30)) (
  some ((.exit 6), [q10_26], h30)))
def k_slices_partitionOrdered_int_L2 (x0 : AV) (x1 : AV) (q11_24 : AV) (q10_26 : AV) (h27 : Heap) : OutV := loopN (fun us g => k_slices_partitionOrdered_int_b2 x0 x1 q11_24 (us.getD 0 .bot) g) [q10_26] h27
def k_slices_partitionOrdered_int_b3 (x0 : AV) (x1 : AV) (vs_32 : List AV) (q11_34 : AV) (h35 : Heap) : OutV :=
  (binP .leq (vs_32.getD 0 .bot) q11_34).bind fun t117 =>
  (gV (gdW t117 true) (some x0) (.tup [])).bind fun t119 =>
  (gV (gdW t117 true) (some q11_34) (.tup [])).bind fun t120 =>
  (gV (gdW t117 true) (iaS 1 t119 t120) (.tup [])).bind fun t121 =>
  (gV (gdW t117 true) (ldS h35 t121) (.tup [])).bind fun t122 =>
  (gV (gdW t117 true) (some x0) (.tup [])).bind fun t123 =>
  (gV (gdW t117 true) (some x1) (.tup [])).bind fun t124 =>
  (gV (gdW t117 true) (iaS 1 t123 t124) (.tup [])).bind fun t125 =>
  (gV (gdW t117 true) (ldS h35 t125) (.tup [])).bind fun t126 =>
  gQ (gdW t117 true) h35 (cl (k_cmp_Less_int t122 t126 h35) fun t127 h36 =>
  some (t127, h36)) fun t127_37 h38 =>
  (gV (gdW t117 true) (unA .not t127_37) (.tup [])).bind fun t128 =>
  (pickP t117 t128 (AV.bool false)).bind fun t129 =>
  chk [h35, h38] [] (
  condE t129 (
  (binP .sub q11_34 (AV.int .i64 1)).bind fun t131 =>
  some (.normal, [t131], h38)) (
  some ((.exit 8), [q11_34], h38)))
def k_slices_partitionOrdered_int_L3 (x0 : AV) (x1 : AV) (vs_32 : List AV) (q11_34 : AV) (h35 : Heap) : OutV := loopN (fun us g => k_slices_partitionOrdered_int_b3 x0 x1 vs_32 (us.getD 0 .bot) g) [q11_34] h35
def k_slices_partitionOrdered_int_b4 (x0 : AV) (x1 : AV) (q10_23 : AV) (q11_24 : AV) (h25 : Heap) : OutV :=
  lp (k_slices_partitionOrdered_int_L2 x0 x1 q11_24 q10_23 h25) fun e_31 vs_32 h33 =>
  thenK (if e_31 = .exit 6 then .normal else e_31) (
  lp (k_slices_partitionOrdered_int_L3 x0 x1 vs_32 q11_24 h33) fun e_39 vs_40 h41 =>
  thenK (if e_39 = .exit 8 then .normal else e_39) (
  (binP .gtr (vs_32.getD 0 .bot) (vs_40.getD 0 .bot)).bind fun t134 =>
  condE t134 (
  some ((.exit 4), [(vs_32.getD 0 .bot), (vs_40.getD 0 .bot)], h41)) (
  (iaS 1 x0 (vs_40.getD 0 .bot)).bind fun t141 =>
  (ldS h41 t141).bind fun t142 =>
  (iaS 1 x0 (vs_32.getD 0 .bot)).bind fun t145 =>
  (ldS h41 t145).bind fun t146 =>
  (iaS 1 x0 (vs_32.getD 0 .bot)).bind fun t147 =>
  cl (stP 1 h41 t147 t142) fun u_42 h43 =>
  (iaS 1 x0 (vs_40.getD 0 .bot)).bind fun t148 =>
  cl (stP 1 h43 t148 t146) fun u_44 h45 =>
  chk [h41, h43, h45] [] (
  (binP .add (vs_32.getD 0 .bot) (AV.int .i64 1)).bind fun t150 =>
  (binP .sub (vs_40.getD 0 .bot) (AV.int .i64 1)).bind fun t152 =>
  some (.normal, [t150, t152], h45)))) (fun e_46 => some ((if e_46 = .exit 5 then .normal else e_46), [(vs_32.getD 0 .bot), (vs_40.getD 0 .bot)], h41))) (fun e_47 => some ((if e_47 = .exit 5 then .normal else e_47), [(vs_32.getD 0 .bot), q11_24], h33))
def k_slices_partitionOrdered_int_L4 (x0 : AV) (x1 : AV) (q10_23 : AV) (q11_24 : AV) (h25 : Heap) : OutV := loopN (fun us g => k_slices_partitionOrdered_int_b4 x0 x1 (us.getD 0 .bot) (us.getD 1 .bot) g) [q10_23, q11_24] h25
def k_slices_partitionOrdered_int (x0 : AV) (x1 : AV) (x2 : AV) (x3 : AV) (h : Heap) : Option (AV × Heap) :=
  (iaS 1 x0 x3).bind fun t18 =>
  (ldS h t18).bind fun t19 =>
  (iaS 1 x0 x1).bind fun t22 =>
  (ldS h t22).bind fun t23 =>
  (iaS 1 x0 x1).bind fun t24 =>
  cl (stP 1 h t24 t19) fun u h0 =>
  (iaS 1 x0 x3).bind fun t25 =>
  cl (stP 1 h0 t25 t23) fun u_1 h2 =>
  chk [h, h0, h2] [] (
  (binP .add x1 (AV.int .i64 1)).bind fun t27 =>
  (binP .sub x2 (AV.int .i64 1)).bind fun t29 =>
  lp (k_slices_partitionOrdered_int_L0 x0 x1 t29 t27 h2) fun e vs h7 =>
  thenK (if e = .exit 0 then .normal else e) (
  lp (k_slices_partitionOrdered_int_L1 x0 x1 vs t29 h7) fun e_12 vs_13 h14 =>
  thenK (if e_12 = .exit 2 then .normal else e_12) (
  (binP .gtr (vs.getD 0 .bot) (vs_13.getD 0 .bot)).bind fun t65 =>
  condE t65 (
  (iaS 1 x0 x1).bind fun t72 =>
  (ldS h14 t72).bind fun t73 =>
  (iaS 1 x0 (vs_13.getD 0 .bot)).bind fun t76 =>
  (ldS h14 t76).bind fun t77 =>
  (iaS 1 x0 (vs_13.getD 0 .bot)).bind fun t78 =>
  cl (stP 1 h14 t78 t73) fun u_15 h16 =>
  (iaS 1 x0 x1).bind fun t79 =>
  cl (stP 1 h16 t79 t77) fun u_17 h18 =>
  chk [h14, h16, h18] [] (
  some (AV.tup [(vs_13.getD 0 .bot), (AV.bool true)], h18))) (
  (iaS 1 x0 (vs_13.getD 0 .bot)).bind fun t87 =>
  (ldS h14 t87).bind fun t88 =>
  (iaS 1 x0 (vs.getD 0 .bot)).bind fun t91 =>
  (ldS h14 t91).bind fun t92 =>
  (iaS 1 x0 (vs.getD 0 .bot)).bind fun t93 =>
  cl (stP 1 h14 t93 t88) fun u_19 h20 =>
  (iaS 1 x0 (vs_13.getD 0 .bot)).bind fun t94 =>
  cl (stP 1 h20 t94 t92) fun u_21 h22 =>
  chk [h14, h20, h22] [] (
  (binP .add (vs.getD 0 .bot) (AV.int .i64 1)).bind fun t96 =>
  (binP .sub (vs_13.getD 0 .bot) (AV.int .i64 1)).bind fun t98 =>
  lp (k_slices_partitionOrdered_int_L4 x0 x1 t96 t98 h22) fun e_48 vs_49 h50 =>
  thenK (if e_48 = .exit 4 then .normal else e_48) (
  (iaS 1 x0 x1).bind fun t159 =>
  (ldS h50 t159).bind fun t160 =>
  (iaS 1 x0 (vs_49.getD 1 .bot)).bind fun t163 =>
  (ldS h50 t163).bind fun t164 =>
  (iaS 1 x0 (vs_49.getD 1 .bot)).bind fun t165 =>
  cl (stP 1 h50 t165 t160) fun u_51 h52 =>
  (iaS 1 x0 x1).bind fun t166 =>
  cl (stP 1 h52 t166 t164) fun u_53 h54 =>
  chk [h50, h52, h54] [] (
  some (AV.tup [(vs_49.getD 1 .bot), (AV.bool false)], h54))) (fun e_55 => endE e_55 (some (AV.tup [(AV.int .i64 0), (AV.bool false)], h50)))))) (fun e_56 => endE e_56 (some (AV.tup [(AV.int .i64 0), (AV.bool false)], h14)))) (fun e_57 => endE e_57 (some (AV.tup [(AV.int .i64 0), (AV.bool false)], h7))))
def T43 : Tab := (88, p4 k_slices_partitionOrdered_int) :: T42
/- 67: slices.pdqsortOrdered[int] -/
def k_slices_pdqsortOrdered_int_j0 (x0 : AV) (q1 : AV) (q2 : AV) (q8 : AV) (q9 : AV) (t21 : AV) (q3_15 : AV) (q11_28 : AV) (h39 : Heap) : OutV :=
  (binP .gtr q1 (AV.int .i64 0)).bind fun t74 =>
  (gV (gdW t74 true) (some x0) (.tup [])).bind fun t76 =>
  (gV (gdW t74 true) (some q1) (.tup [])).bind fun t77 =>
  (gV (gdW t74 true) (binP .sub t77 (AV.int .i64 1)) (.tup [])).bind fun t78 =>
  (gV (gdW t74 true) (iaS 1 t76 t78) (.tup [])).bind fun t79 =>
  (gV (gdW t74 true) (ldS h39 t79) (.tup [])).bind fun t80 =>
  (gV (gdW t74 true) (some x0) (.tup [])).bind fun t81 =>
  (gV (gdW t74 true) (some q11_28) (.tup [])).bind fun t82 =>
  (gV (gdW t74 true) (iaS 1 t81 t82) (.tup [])).bind fun t83 =>
  (gV (gdW t74 true) (ldS h39 t83) (.tup [])).bind fun t84 =>
  gQ (gdW t74 true) h39 (cl (k_cmp_Less_int t80 t84 h39) fun t85 h40 =>
  some (t85, h40)) fun t85_41 h42 =>
  (gV (gdW t74 true) (unA .not t85_41) (.tup [])).bind fun t86 =>
  (pickP t74 t86 (AV.bool false)).bind fun t87 =>
  chk [h39, h42] [] (
  condE t87 (
  cl (k_slices_partitionEqualOrdered_int x0 q1 q2 q11_28 h42) fun t92 h43 =>
  some (.normal, [t92, q2, q3_15, q8, q9], h43)) (
  cl (k_slices_partitionOrdered_int x0 q1 q2 q11_28 h42) fun t99 h44 =>
  (extractV 0 t99).bind fun t100 =>
  (extractV 1 t99).bind fun t101 =>
  (binP .sub t100 q1).bind fun t105 =>
  (binP .sub q2 t100).bind fun t108 =>
  (binP .quo t21 (AV.int .i64 8)).bind fun t110 =>
  (binP .lss t105 t108).bind fun t113 =>
  condE t113 (
  (binP .geq t105 t110).bind fun t116 =>
  cl noFn fun t121 h69 =>
  (binP .add t100 (AV.int .i64 1)).bind fun t123 =>
  some (.normal, [t123, q2, q3_15, t116, t101], h69)) (
  (binP .geq t108 t110).bind fun t126 =>
  (binP .add t100 (AV.int .i64 1)).bind fun t129 =>
  cl noFn fun t132 h70 =>
  some (.normal, [q1, t100, q3_15, t126, t101], h70))))
def k_slices_pdqsortOrdered_int_j1 (x0 : AV) (q1 : AV) (q2 : AV) (q8 : AV) (q9 : AV) (t21 : AV) (q3_15 : AV) (q11_28 : AV) (q12_29 : AV) (h30 : Heap) : OutV :=
  gQ (gdW q8 true) h30 (some (q9, h30)) fun t63 h31 =>
  (pickP q8 t63 (AV.bool false)).bind fun t64 =>
  gQ (gdW t64 true) h31 (some (q12_29, h31)) fun t66 h32 =>
  gQ (gdW t64 true) h32 ((eqP (some (.int .i64)) none false .eql t66 (AV.int .i64 1)).bind fun t67 =>
  some (t67, h32)) fun t67_33 h34 =>
  (pickP t64 t67_33 (AV.bool false)).bind fun t68 =>
  condE t68 (
  cl (k_slices_partialInsertionSortOrdered_int x0 q1 q2 h34) fun t72 h71 =>
  condE t72 (
  some (.ret, [q1, q2, q3_15, q8, q9], h71)) (
  k_slices_pdqsortOrdered_int_j0 x0 q1 q2 q8 q9 t21 q3_15 q11_28 h71)) (
  k_slices_pdqsortOrdered_int_j0 x0 q1 q2 q8 q9 t21 q3_15 q11_28 h34)
def k_slices_pdqsortOrdered_int_j2 (x0 : AV) (q1 : AV) (q2 : AV) (q8 : AV) (q9 : AV) (t21 : AV) (q3_15 : AV) (h16 : Heap) : OutV :=
  cl (k_slices_choosePivotOrdered_int x0 q1 q2 h16) fun t46 h17 =>
  (extractV 0 t46).bind fun t47 =>
  (extractV 1 t46).bind fun t48 =>
  (eqP (some (.int .i64)) none false .eql t48 (AV.int .i64 2)).bind fun t50 =>
  condE t50 (
  cl (k_slices_reverseRangeOrdered_int x0 q1 q2 h17) fun t54 h72 =>
  (binP .sub q2 (AV.int .i64 1)).bind fun t56 =>
  (binP .sub t47 q1).bind fun t59 =>
  (binP .sub t56 t59).bind fun t60 =>
  k_slices_pdqsortOrdered_int_j1 x0 q1 q2 q8 q9 t21 q3_15 t60 (AV.int .i64 1) h72) (
  k_slices_pdqsortOrdered_int_j1 x0 q1 q2 q8 q9 t21 q3_15 t47 t48 h17)
def k_slices_pdqsortOrdered_int_b0 (x0 : AV) (q1 : AV) (q2 : AV) (q3 : AV) (q8 : AV) (q9 : AV) (h0 : Heap) : OutV :=
  (binP .sub q2 q1).bind fun t21 =>
  (binP .leq t21 (AV.int .i64 12)).bind fun t23 =>
  condE t23 (
  cl (k_slices_insertionSortOrdered_int x0 q1 q2 h0) fun t27 h7 =>
  some (.ret, [q1, q2, q3, q8, q9], h7)) (
  (eqP (some (.int .i64)) none false .eql q3 (AV.int .i64 0)).bind fun t29 =>
  condE t29 (
  cl (k_slices_heapSortOrdered_int x0 q1 q2 h0) fun t33 h8 =>
  some (.ret, [q1, q2, q3, q8, q9], h8)) (
  (unA .not q8).bind fun t35 =>
  condE t35 (
  cl (k_slices_breakPatternsOrdered_int x0 q1 q2 h0) fun t39 h73 =>
  (binP .sub q3 (AV.int .i64 1)).bind fun t41 =>
  k_slices_pdqsortOrdered_int_j2 x0 q1 q2 q8 q9 t21 t41 h73) (
  k_slices_pdqsortOrdered_int_j2 x0 q1 q2 q8 q9 t21 q3 h0)))
def k_slices_pdqsortOrdered_int_L0 (x0 : AV) (q1 : AV) (q2 : AV) (q3 : AV) (q8 : AV) (q9 : AV) (h0 : Heap) : OutV := loopN (fun us g => k_slices_pdqsortOrdered_int_b0 x0 (us.getD 0 .bot) (us.getD 1 .bot) (us.getD 2 .bot) (us.getD 3 .bot) (us.getD 4 .bot) g) [q1, q2, q3, q8, q9] h0
def k_slices_pdqsortOrdered_int (x0 : AV) (x1 : AV) (x2 : AV) (x3 : AV) (h : Heap) : Option (AV × Heap) :=
  lp (k_slices_pdqsortOrdered_int_L0 x0 x1 x2 x3 (AV.bool true) (AV.bool true) h) fun e vs h74 =>
  endE (if e = .exit 0 then .normal else e) (some (AV.tup [], h74))
def T44 : Tab := (67, p4 k_slices_pdqsortOrdered_int) :: T43
/- 52: slices.Sort[[]int,int] -/
def k_slices_Sort_int_int (x0 : AV) (h : Heap) : Option (AV × Heap) :=
  (lnL x0).bind fun t4 =>
  (cvI .u64 t4).bind fun t8 =>
  cl (k_mbits_Len t8 h) fun t9 h0 =>
  cl (k_slices_pdqsortOrdered_int x0 (AV.int .i64 0) t4 t9 h0) fun t10 h1 =>
  some (AV.tup [], h1)
def T45 : Tab := (52, p1 k_slices_Sort_int_int) :: T44
/- 53: slices.Compact[[]int,int] -/
def k_slices_Compact_int_int_b0 (x0 : AV) (t28 : AV) (q3_1 : AV) (q5 : AV) (h2 : Heap) : OutV :=
  (lnL t28).bind fun t31 =>
  (binP .lss q5 t31).bind fun t32 =>
  condE t32 (
  (iaS 1 t28 q5).bind fun t37 =>
  (ldS h2 t37).bind fun t38 =>
  (binP .sub q5 (AV.int .i64 1)).bind fun t41 =>
  (iaS 1 t28 t41).bind fun t42 =>
  (ldS h2 t42).bind fun t43 =>
  (eqP (some (.int .i64)) none false .neq t38 t43).bind fun t44 =>
  chk [h2] [] (
  condE t44 (
  (iaS 1 t28 q5).bind fun t49 =>
  (ldS h2 t49).bind fun t50 =>
  (iaS 1 x0 q3_1).bind fun t51 =>
  cl (stP 1 h2 t51 t50) fun u h17 =>
  (binP .add q3_1 (AV.int .i64 1)).bind fun t53 =>
  (binP .add q5 (AV.int .i64 1)).bind fun t34_18 =>
  some (.normal, [t53, t34_18], h17)) (
  (binP .add q5 (AV.int .i64 1)).bind fun t34_19 =>
  some (.normal, [q3_1, t34_19], h2)))) (
  some ((.exit 2), [q3_1, q5], h2))
def k_slices_Compact_int_int_L0 (x0 : AV) (t28 : AV) (q3_1 : AV) (q5 : AV) (h2 : Heap) : OutV := loopN (fun us g => k_slices_Compact_int_int_b0 x0 t28 (us.getD 0 .bot) (us.getD 1 .bot) g) [q3_1, q5] h2
def k_slices_Compact_int_int_b1 (x0 : AV) (q2 : AV) (q3 : AV) (h0 : Heap) : OutV :=
  (lnL x0).bind fun t12 =>
  (binP .lss q3 t12).bind fun t13 =>
  condE t13 (
  (iaS 1 x0 q3).bind fun t18 =>
  (ldS h0 t18).bind fun t19 =>
  (binP .sub q3 (AV.int .i64 1)).bind fun t22 =>
  (iaS 1 x0 t22).bind fun t23 =>
  (ldS h0 t23).bind fun t24 =>
  (eqP (some (.int .i64)) none false .eql t19 t24).bind fun t25 =>
  chk [h0] [] (
  condE t25 (
  (slcP 1 x0 (some q3) none none).bind fun t28 =>
  lp (k_slices_Compact_int_int_L0 x0 t28 q3 (AV.int .i64 1) h0) fun e vs h20 =>
  thenK (if e = .exit 2 then .normal else e) (
  (slcP 1 x0 (some (vs.getD 0 .bot)) none none).bind fun t56 =>
  cl (clL 1 [(AV.int .i64 0)] h20 t56) fun u_21 h22 =>
  (slcP 1 x0 none (some (vs.getD 0 .bot)) none).bind fun t59 =>
  some (.ret, [t59, (vs.getD 0 .bot)], h22)) (fun e_23 => thenK (if e_23 = .exit 1 then .normal else e_23) (
  (binP .add (vs.getD 0 .bot) (AV.int .i64 1)).bind fun t15 =>
  some (.normal, [q2, t15], h20)) (fun e_24 => some (e_24, [q2, (vs.getD 0 .bot)], h20)))) (
  (binP .add q3 (AV.int .i64 1)).bind fun t15_25 =>
  some (.normal, [q2, t15_25], h0)))) (
  some ((.exit 0), [q2, q3], h0))
def k_slices_Compact_int_int_L1 (x0 : AV) (q2 : AV) (q3 : AV) (h0 : Heap) : OutV := loopN (fun us g => k_slices_Compact_int_int_b1 x0 (us.getD 0 .bot) (us.getD 1 .bot) g) [q2, q3] h0
def k_slices_Compact_int_int (x0 : AV) (h : Heap) : Option (AV × Heap) :=
  (lnL x0).bind fun t7 =>
  (binP .lss t7 (AV.int .i64 2)).bind fun t8 =>
  condE t8 (
  some (x0, h)) (
  lp (k_slices_Compact_int_int_L1 x0 (AV.sl none 0 (.ex 0)) (AV.int .i64 1) h) fun e_26 vs_27 h28 =>
  thenK (if e_26 = .exit 0 then .normal else e_26) (
  some (x0, h28)) (fun e_29 => endE e_29 (some ((vs_27.getD 0 .bot), h28))))
def T46 : Tab := (53, p1 k_slices_Compact_int_int) :: T45
/- 24: gantline/live.Follows -/
def k_live_Follows_j0 (t4 : AV) (q7 : AV) (h13 : Heap) : Option (AV × Heap) :=
  cl (k_slices_DeleteFunc_int_int q7 (AV.fn 51 [] [t4]) h13) fun t63 h14 =>
  cl (k_slices_Sort_int_int t63 h14) fun t65 h15 =>
  cl (k_slices_Compact_int_int t63 h15) fun t67 h16 =>
  some (t67, h16)
def k_live_Follows_b0 (t49 : AV) (t50 : AV) (q7_130 : AV) (q51_131 : AV) (h132 : Heap) : OutV :=
  (binP .lss q51_131 t50).bind fun t52 =>
  condE t52 (
  (iaS 4 t49 q51_131).bind fun t53 =>
  (ldA 4 h132 t53).bind fun t54 =>
  mk (some (Blk.cells true [(AV.int .i64 0), (AV.int .i64 0), (AV.int .i64 0), (AV.int .i64 0)], fun i => AV.ptr (some (i, 0)))) h132 fun t10 h133 =>
  cl (stP 4 h133 t10 t54) fun u_134 h135 =>
  (faP 3 t10).bind fun t56 =>
  (ldS h135 t56).bind fun t57 =>
  mk (bsP 1 [(AV.int .i64 0)] 1 [(0, t57)]) h135 fun t58 h136 =>
  cl (appendA h136 1 8 q7_130 t58) fun t59 h137 =>
  (binP .add q51_131 (AV.int .i64 1)).bind fun t60 =>
  some (.normal, [t59, t60], h137)) (
  some ((.exit 1), [q7_130, q51_131], h132))
def k_live_Follows_L0 (t49 : AV) (t50 : AV) (q7_130 : AV) (q51_131 : AV) (h132 : Heap) : OutV := loopN (fun us g => k_live_Follows_b0 t49 t50 (us.getD 0 .bot) (us.getD 1 .bot) g) [q7_130, q51_131] h132
def k_live_Follows_j1 (x2 : AV) (t3 : AV) (t4 : AV) (t8 : AV) (t26 : AV) (q42_85 : AV) (h86 : Heap) : Option (AV × Heap) :=
  condE q42_85 (
  k_live_Follows_j0 t4 (AV.sl none 0 (.ex 0)) h86) (
  (eqP (some (.int .i64)) none false .eql t26 (AV.int .i64 41)).bind fun t46 =>
  condE t46 (
  (ldA 6 h86 t3).bind fun t47 =>
  (ldA 5 h86 t8).bind fun t48 =>
  cl (k_live_cases t47 t48 h86) fun t49 h129 =>
  (lnL t49).bind fun t50 =>
  lp (k_live_Follows_L0 t49 t50 (AV.sl none 0 (.ex 0)) (AV.int .i64 0) h129) fun e vs h138 =>
  thenK (if (if e = .exit 1 then .normal else e) = .exit 0 then .normal else (if e = .exit 1 then .normal else e)) (
  cl (k_slices_DeleteFunc_int_int (vs.getD 0 .bot) (AV.fn 51 [] [t4]) h138) fun t63_139 h140 =>
  cl (k_slices_Sort_int_int t63_139 h140) fun t65_141 h142 =>
  cl (k_slices_Compact_int_int t63_139 h142) fun t67_143 h144 =>
  some (t67_143, h144)) (fun e_145 => endE e_145 (some ((AV.sl none 0 (.ex 0)), h138)))) (
  (binP .add x2 (AV.int .i64 1)).bind fun t28 =>
  mk (bsP 1 [(AV.int .i64 0)] 1 [(0, t28)]) h86 fun t29 h146 =>
  k_live_Follows_j0 t4 t29 h146))
def k_live_Follows (x0 : AV) (x1 : AV) (x2 : AV) (h : Heap) : Option (AV × Heap) :=
  mk (bxP x0) h fun t3 h0 =>
  mk (bxP x1) h0 fun t4 h1 =>
  (binP .lss x2 (AV.int .i64 0)).bind fun t12 =>
  gQ (gdW t12 false) h1 (some (x2, h1)) fun t14 h2 =>
  gQ (gdW t12 false) h2 ((faP 5 t4).bind fun t15 =>
  some (t15, h2)) fun t15_3 h4 =>
  gQ (gdW t12 false) h4 ((ldS h4 t15_3).bind fun t16 =>
  some (t16, h4)) fun t16_5 h6 =>
  gQ (gdW t12 false) h6 ((lnL t16_5).bind fun t17 =>
  some (t17, h6)) fun t17_7 h8 =>
  gQ (gdW t12 false) h8 ((binP .geq t14 t17_7).bind fun t18 =>
  some (t18, h8)) fun t18_9 h10 =>
  (pickP t12 (AV.bool true) t18_9).bind fun t19 =>
  condE t19 (
  some ((AV.sl none 0 (.ex 0)), h10)) (
  (faP 5 t4).bind fun t20 =>
  (ldS h10 t20).bind fun t21 =>
  (iaS 5 t21 x2).bind fun t23 =>
  (ldA 5 h10 t23).bind fun t24 =>
  mk (some (Blk.cells true [(AV.int .i64 0), (AV.int .i64 0), (AV.int .i64 0), (AV.int .i64 0), (AV.int .i64 0)], fun i => AV.ptr (some (i, 0)))) h10 fun t8 h11 =>
  cl (stP 5 h11 t8 t24) fun u h12 =>
  (faP 0 t8).bind fun t25 =>
  (ldS h12 t25).bind fun t26 =>
  (eqP (some (.int .i64)) none false .eql t26 (AV.int .i64 18)).bind fun t31 =>
  condE t31 (
  (faP 1 t8).bind fun t32 =>
  (ldS h12 t32).bind fun t33 =>
  mk (bsP 1 [(AV.int .i64 0)] 1 [(0, t33)]) h12 fun t34 h52 =>
  k_live_Follows_j0 t4 t34 h52) (
  (eqP (some (.int .i64)) none false .eql t26 (AV.int .i64 19)).bind fun t36 =>
  condE t36 (
  (faP 2 t8).bind fun t37 =>
  (ldS h12 t37).bind fun t38 =>
  (binP .add x2 (AV.int .i64 1)).bind fun t40 =>
  mk (bsP 1 [(AV.int .i64 0)] 2 [(0, t38), (1, t40)]) h12 fun t41 h83 =>
  k_live_Follows_j0 t4 t41 h83) (
  (eqP (some (.int .i64)) none false .eql t26 (AV.int .i64 22)).bind fun t43 =>
  condE t43 (
  k_live_Follows_j1 x2 t3 t4 t8 t26 t43 h12) (
  (eqP (some (.int .i64)) none false .eql t26 (AV.int .i64 44)).bind fun t44 =>
  k_live_Follows_j1 x2 t3 t4 t8 t26 t44 h12))))
def T47 : Tab := (24, p3 k_live_Follows) :: T46
/- 61: gantline/fresh.meet -/
def k_fresh_meet_b0 (x0 : AV) (x1 : AV) (t8 : AV) (t10 : AV) (q11 : AV) (h1 : Heap) : OutV :=
  (binP .lss q11 t10).bind fun t12 =>
  condE t12 (
  (iaS 3 x0 q11).bind fun t18 =>
  (faP 0 t18).bind fun t19 =>
  (ldS h1 t19).bind fun t20 =>
  (gV (gdW t20 true) (some x1) (.tup [])).bind fun t22 =>
  (gV (gdW t20 true) (some q11) (.tup [])).bind fun t23 =>
  (gV (gdW t20 true) (iaS 3 t22 t23) (.tup [])).bind fun t24 =>
  (gV (gdW t20 true) (faP 0 t24) (.tup [])).bind fun t25 =>
  (gV (gdW t20 true) (ldS h1 t25) (.tup [])).bind fun t26 =>
  (pickP t20 t26 (AV.bool false)).bind fun t27 =>
  (iaS 3 x0 q11).bind fun t30 =>
  (faP 1 t30).bind fun t31 =>
  (ldS h1 t31).bind fun t32 =>
  (gV (gdW t32 true) (some x1) (.tup [])).bind fun t34 =>
  (gV (gdW t32 true) (some q11) (.tup [])).bind fun t35 =>
  (gV (gdW t32 true) (iaS 3 t34 t35) (.tup [])).bind fun t36 =>
  (gV (gdW t32 true) (faP 1 t36) (.tup [])).bind fun t37 =>
  (gV (gdW t32 true) (ldS h1 t37) (.tup [])).bind fun t38 =>
  (pickP t32 t38 (AV.bool false)).bind fun t39 =>
  (iaS 3 x0 q11).bind fun t42 =>
  (faP 2 t42).bind fun t43 =>
  (ldS h1 t43).bind fun t44 =>
  (iaS 3 x1 q11).bind fun t47 =>
  (faP 2 t47).bind fun t48 =>
  (ldS h1 t48).bind fun t49 =>
  (binP .or t44 t49).bind fun t50 =>
  (bldS [(0, 1), (1, 1), (2, 1)] [(AV.bool false), (AV.bool false), (AV.int .u64 0)] [(0, t27), (1, t39), (2, t50)]).bind fun t51 =>
  (iaS 3 t8 q11).bind fun t52 =>
  cl (stP 3 h1 t52 t51) fun u h2 =>
  chk [h1, h2] [] (
  (binP .add q11 (AV.int .i64 1)).bind fun t53 =>
  some (.normal, [t53], h2))) (
  some ((.exit 0), [q11], h1))
def k_fresh_meet_L0 (x0 : AV) (x1 : AV) (t8 : AV) (t10 : AV) (q11 : AV) (h1 : Heap) : OutV := loopN (fun us g => k_fresh_meet_b0 x0 x1 t8 t10 (us.getD 0 .bot) g) [q11] h1
def k_fresh_meet (x0 : AV) (x1 : AV) (h : Heap) : Option (AV × Heap) :=
  cl (k_slices_Clone_fresh_states_fresh_State x0 h) fun t8 h0 =>
  (lnL t8).bind fun t10 =>
  lp (k_fresh_meet_L0 x0 x1 t8 t10 (AV.int .i64 0) h0) fun e vs h3 =>
  thenK (if e = .exit 0 then .normal else e) (
  some (t8, h3)) (fun e_4 => endE e_4 (some ((AV.sl none 0 (.ex 0)), h3)))
def T48 : Tab := (61, p2 k_fresh_meet) :: T47
/- 62: slices.Equal[gantline/fresh.states,gantline/fresh.State] -/
def k_slices_Equal_fresh_states_fresh_State_b0 (x0 : AV) (x1 : AV) (t12 : AV) (q4 : AV) (q13 : AV) (h0 : Heap) : OutV :=
  (binP .lss q13 t12).bind fun t14 =>
  condE t14 (
  (iaS 3 x0 q13).bind fun t18 =>
  (ldA 3 h0 t18).bind fun t19 =>
  (iaS 3 x1 q13).bind fun t22 =>
  (ldA 3 h0 t22).bind fun t23 =>
  (eqP (some (.struct #[])) (some [(0, .bool), (1, .bool), (2, (.int .u64))]) false .neq t19 t23).bind fun t24 =>
  chk [h0] [] (
  condE t24 (
  some (.ret, [(AV.bool false), q13], h0)) (
  (binP .add q13 (AV.int .i64 1)).bind fun t25 =>
  some (.normal, [q4, t25], h0)))) (
  some ((.exit 0), [q4, q13], h0))
def k_slices_Equal_fresh_states_fresh_State_L0 (x0 : AV) (x1 : AV) (t12 : AV) (q4 : AV) (q13 : AV) (h0 : Heap) : OutV := loopN (fun us g => k_slices_Equal_fresh_states_fresh_State_b0 x0 x1 t12 (us.getD 0 .bot) (us.getD 1 .bot) g) [q4, q13] h0
def k_slices_Equal_fresh_states_fresh_State (x0 : AV) (x1 : AV) (h : Heap) : Option (AV × Heap) :=
  (lnL x0).bind fun t7 =>
  (lnL x1).bind fun t9 =>
  (eqP (some (.int .i64)) none false .neq t7 t9).bind fun t10 =>
  condE t10 (
  some ((AV.bool false), h)) (
  (lnL x0).bind fun t12 =>
  lp (k_slices_Equal_fresh_states_fresh_State_L0 x0 x1 t12 (AV.bool false) (AV.int .i64 0) h) fun e vs h1 =>
  thenK (if e = .exit 0 then .normal else e) (
  some ((AV.bool true), h1)) (fun e_2 => endE e_2 (some ((vs.getD 0 .bot), h1))))
def T49 : Tab := (62, p2 k_slices_Equal_fresh_states_fresh_State) :: T48
/- 33: gantline/fresh.Sets -/
def k_fresh_Sets_j0 (q67_19 : AV) (q7_53 : AV) (h66 : Heap) : OutV :=
  (binP .add q67_19 (AV.int .i64 1)).bind fun t92_67 =>
  some (.normal, [q7_53, t92_67], h66)
def k_fresh_Sets_b0 (t27 : AV) (t61 : AV) (t65 : AV) (t66 : AV) (q7_18 : AV) (q67_19 : AV) (h20 : Heap) : OutV :=
  (binP .lss q67_19 t66).bind fun t68 =>
  condE t68 (
  (iaS 1 t65 q67_19).bind fun t69 =>
  (ldS h20 t69).bind fun t70 =>
  (iaS 1 t27 t70).bind fun t73 =>
  (ldS h20 t73).bind fun t74 =>
  (eqP (some (.slice 0)) none false .eql t74 (AV.sl none 0 (.ex 0))).bind fun t76 =>
  condE t76 (
  (iaS 1 t27 t70).bind fun t80 =>
  cl (stP 1 h20 t80 t61) fun u_68 h69 =>
  k_fresh_Sets_j0 q67_19 (AV.bool true) h69) (
  cl (k_fresh_meet t74 t61 h20) fun t83 h70 =>
  cl (k_slices_Equal_fresh_states_fresh_State t83 t74 h70) fun t86 h71 =>
  (unA .not t86).bind fun t87 =>
  condE t87 (
  (iaS 1 t27 t70).bind fun t91 =>
  cl (stP 1 h71 t91 t83) fun u_78 h79 =>
  k_fresh_Sets_j0 q67_19 (AV.bool true) h79) (
  k_fresh_Sets_j0 q67_19 q7_18 h71))) (
  some ((.exit 4), [q7_18, q67_19], h20))
def k_fresh_Sets_L0 (t27 : AV) (t61 : AV) (t65 : AV) (t66 : AV) (q7_18 : AV) (q67_19 : AV) (h20 : Heap) : OutV := loopN (fun us g => k_fresh_Sets_b0 t27 t61 t65 t66 (us.getD 0 .bot) (us.getD 1 .bot) g) [q7_18, q67_19] h20
def k_fresh_Sets_b1 (t2 : AV) (t3 : AV) (t27 : AV) (t36 : AV) (t37 : AV) (q7_6 : AV) (q38 : AV) (h7 : Heap) : OutV :=
  (binP .lss q38 t37).bind fun t39 =>
  condE t39 (
  (iaS 5 t36 q38).bind fun t41 =>
  (ldA 5 h7 t41).bind fun t42 =>
  mk (some (Blk.cells true [(AV.int .i64 0), (AV.int .i64 0), (AV.int .i64 0), (AV.int .i64 0), (AV.int .i64 0)], fun i => AV.ptr (some (i, 0)))) h7 fun t9 h10 =>
  cl (stP 5 h10 t9 t42) fun u h11 =>
  (iaS 1 t27 q38).bind fun t45 =>
  (ldS h11 t45).bind fun t46 =>
  (eqP (some (.slice 0)) none false .eql t46 (AV.sl none 0 (.ex 0))).bind fun t47 =>
  condE t47 (
  (binP .add q38 (AV.int .i64 1)).bind fun t93_12 =>
  some (.normal, [q7_6, t93_12], h11)) (
  (iaS 1 t27 q38).bind fun t50 =>
  (ldS h11 t50).bind fun t51 =>
  cl (k_slices_Clone_fresh_states_fresh_State t51 h11) fun t52 h13 =>
  (ldA 6 h13 t2).bind fun t54 =>
  (ldA 5 h13 t9).bind fun t55 =>
  cl (k_fresh_sent t54 t55 h13) fun t56 h14 =>
  cl (k_fresh_states_lend t52 t56 h14) fun t57 h15 =>
  (ldA 6 h15 t2).bind fun t58 =>
  (ldA 5 h15 t9).bind fun t59 =>
  cl (k_fresh_behind t58 t59 t52 h15) fun t61 h16 =>
  (ldA 6 h16 t2).bind fun t62 =>
  (ldA 7 h16 t3).bind fun t63 =>
  cl (k_live_Follows t62 t63 q38 h16) fun t65 h17 =>
  (lnL t65).bind fun t66 =>
  lp (k_fresh_Sets_L0 t27 t61 t65 t66 q7_6 (AV.int .i64 0) h17) fun e vs h80 =>
  thenK (if (if e = .exit 4 then .normal else e) = .exit 3 then .normal else (if e = .exit 4 then .normal else e)) (
  (binP .add q38 (AV.int .i64 1)).bind fun t93_81 =>
  some (.normal, [(vs.getD 0 .bot), t93_81], h80)) (fun e_82 => some (e_82, [(vs.getD 0 .bot), q38], h80)))) (
  some ((.exit 2), [q7_6, q38], h7))
def k_fresh_Sets_L1 (t2 : AV) (t3 : AV) (t27 : AV) (t36 : AV) (t37 : AV) (q7_6 : AV) (q38 : AV) (h7 : Heap) : OutV := loopN (fun us g => k_fresh_Sets_b1 t2 t3 t27 t36 t37 (us.getD 0 .bot) (us.getD 1 .bot) g) [q7_6, q38] h7
def k_fresh_Sets_b2 (t2 : AV) (t3 : AV) (t27 : AV) (q7 : AV) (h5 : Heap) : OutV :=
  condE q7 (
  (faP 5 t3).bind fun t35 =>
  (ldS h5 t35).bind fun t36 =>
  (lnL t36).bind fun t37 =>
  lp (k_fresh_Sets_L1 t2 t3 t27 t36 t37 (AV.bool false) (AV.int .i64 0) h5) fun e_83 vs_84 h85 =>
  some ((if (if e_83 = .exit 2 then .normal else e_83) = .exit 1 then .normal else (if e_83 = .exit 2 then .normal else e_83)), [(vs_84.getD 0 .bot)], h85)) (
  some ((.exit 0), [q7], h5))
def k_fresh_Sets_L2 (t2 : AV) (t3 : AV) (t27 : AV) (q7 : AV) (h5 : Heap) : OutV := loopN (fun us g => k_fresh_Sets_b2 t2 t3 t27 (us.getD 0 .bot) g) [q7] h5
def k_fresh_Sets_j1 (q16 : AV) (q96 : AV) (q18 : AV) (h90 : Heap) : OutV :=
  cl (k_slices_Clone_fresh_states_fresh_State q18 h90) fun t105 h91 =>
  mk (bsP 1 [(AV.sl none 0 (.ex 0))] 1 [(0, t105)]) h91 fun t106 h92 =>
  cl (appendA h92 1 24 q16 t106) fun t107 h93 =>
  (binP .add q96 (AV.int .i64 1)).bind fun t108 =>
  some (.normal, [t107, t108], h93)
def k_fresh_Sets_b3 (t23 : AV) (t27 : AV) (t95 : AV) (q16 : AV) (q96 : AV) (h89 : Heap) : OutV :=
  (binP .lss q96 t95).bind fun t97 =>
  condE t97 (
  (iaS 1 t27 q96).bind fun t98 =>
  (ldS h89 t98).bind fun t99 =>
  (eqP (some (.slice 0)) none false .eql t99 (AV.sl none 0 (.ex 0))).bind fun t101 =>
  condE t101 (
  k_fresh_Sets_j1 q16 q96 t23 h89) (
  k_fresh_Sets_j1 q16 q96 t99 h89)) (
  some ((.exit 6), [q16, q96], h89))
def k_fresh_Sets_L3 (t23 : AV) (t27 : AV) (t95 : AV) (q16 : AV) (q96 : AV) (h89 : Heap) : OutV := loopN (fun us g => k_fresh_Sets_b3 t23 t27 t95 (us.getD 0 .bot) (us.getD 1 .bot) g) [q16, q96] h89
def k_fresh_Sets_j2 (t2 : AV) (t3 : AV) (t23 : AV) (t27 : AV) (h4 : Heap) : Option (AV × Heap) :=
  lp (k_fresh_Sets_L2 t2 t3 t27 (AV.bool true) h4) fun e_86 vs_87 h88 =>
  thenK (if e_86 = .exit 0 then .normal else e_86) (
  (lnL t27).bind fun t95 =>
  lp (k_fresh_Sets_L3 t23 t27 t95 (AV.sl none 0 (.ex 0)) (AV.int .i64 0) h88) fun e_94 vs_95 h96 =>
  thenK (if e_94 = .exit 6 then .normal else e_94) (
  some ((vs_95.getD 0 .bot), h96)) (fun e_97 => endE e_97 (some ((AV.sl none 0 (.ex 0)), h96)))) (fun e_98 => endE e_98 (some ((AV.sl none 0 (.ex 0)), h88)))
def k_fresh_Sets (x0 : AV) (x1 : AV) (h : Heap) : Option (AV × Heap) :=
  mk (bxP x0) h fun t2 h0 =>
  mk (bxP x1) h0 fun t3 h1 =>
  (faP 2 t3).bind fun t19 =>
  (ldS h1 t19).bind fun t20 =>
  (maxP t20 (AV.int .i64 0)).bind fun t21 =>
  (minP t21 (AV.int .i64 64)).bind fun t22 =>
  mk (msP 3 16 [(AV.bool false), (AV.bool false), (AV.int .u64 0)] t22 t22) h1 fun t23 h2 =>
  (faP 5 t3).bind fun t24 =>
  (ldS h2 t24).bind fun t25 =>
  (lnL t25).bind fun t26 =>
  mk (msP 1 24 [(AV.sl none 0 (.ex 0))] t26 t26) h2 fun t27 h3 =>
  (lnL t27).bind fun t29 =>
  (binP .gtr t29 (AV.int .i64 0)).bind fun t30 =>
  condE t30 (
  (iaS 1 t27 (AV.int .i64 0)).bind fun t33 =>
  cl (stP 1 h3 t33 t23) fun u_99 h100 =>
  k_fresh_Sets_j2 t2 t3 t23 t27 h100) (
  k_fresh_Sets_j2 t2 t3 t23 t27 h3)
def T50 : Tab := (33, p2 k_fresh_Sets) :: T49
/- 56: gantline/fresh.SpareIn -/
def k_fresh_SpareIn (x0 : AV) (x1 : AV) (x2 : AV) (h : Heap) : Option (AV × Heap) :=
  mk (bxP x0) h fun t3 h0 =>
  (faP 5 t3).bind fun t12 =>
  (ldS h0 t12).bind fun t13 =>
  (iaS 5 t13 x2).bind fun t15 =>
  (ldA 5 h0 t15).bind fun t16 =>
  mk (some (Blk.cells true [(AV.int .i64 0), (AV.int .i64 0), (AV.int .i64 0), (AV.int .i64 0), (AV.int .i64 0)], fun i => AV.ptr (some (i, 0)))) h0 fun t7 h1 =>
  cl (stP 5 h1 t7 t16) fun u h2 =>
  (faP 0 t7).bind fun t17 =>
  (ldS h2 t17).bind fun t18 =>
  (eqP (some (.int .i64)) none false .eql t18 (AV.int .i64 28)).bind fun t19 =>
  gQ (gdW t19 false) h2 ((faP 0 t7).bind fun t21 =>
  some (t21, h2)) fun t21_3 h4 =>
  gQ (gdW t19 false) h4 ((ldS h4 t21_3).bind fun t22 =>
  some (t22, h4)) fun t22_5 h6 =>
  gQ (gdW t19 false) h6 ((eqP (some (.int .i64)) none false .eql t22_5 (AV.int .i64 29)).bind fun t23 =>
  some (t23, h6)) fun t23_7 h8 =>
  (pickP t19 (AV.bool true) t23_7).bind fun t24 =>
  (unA .not t24).bind fun t26 =>
  gQ (gdW t26 true) h8 ((faP 0 t7).bind fun t28 =>
  some (t28, h8)) fun t28_9 h10 =>
  gQ (gdW t26 true) h10 ((ldS h10 t28_9).bind fun t29 =>
  some (t29, h10)) fun t29_11 h12 =>
  gQ (gdW t26 true) h12 ((eqP (some (.int .i64)) none false .neq t29_11 (AV.int .i64 31)).bind fun t30 =>
  some (t30, h12)) fun t30_13 h14 =>
  (pickP t26 t30_13 (AV.bool false)).bind fun t31 =>
  gQ (gdW t31 true) h14 ((faP 0 t7).bind fun t33 =>
  some (t33, h14)) fun t33_15 h16 =>
  gQ (gdW t31 true) h16 ((ldS h16 t33_15).bind fun t34 =>
  some (t34, h16)) fun t34_17 h18 =>
  gQ (gdW t31 true) h18 ((eqP (some (.int .i64)) none false .neq t34_17 (AV.int .i64 32)).bind fun t35 =>
  some (t35, h18)) fun t35_19 h20 =>
  (pickP t31 t35_19 (AV.bool false)).bind fun t36 =>
  condE t36 (
  some ((AV.bool false), h20)) (
  (faP 1 t7).bind fun t37 =>
  (ldS h20 t37).bind fun t38 =>
  (binP .lss t38 (AV.int .i64 0)).bind fun t39 =>
  gQ (gdW t39 false) h20 ((faP 1 t7).bind fun t41 =>
  some (t41, h20)) fun t41_21 h22 =>
  gQ (gdW t39 false) h22 ((ldS h22 t41_21).bind fun t42 =>
  some (t42, h22)) fun t42_23 h24 =>
  gQ (gdW t39 false) h24 ((binP .geq t42_23 (AV.int .i64 64)).bind fun t43 =>
  some (t43, h24)) fun t43_25 h26 =>
  (pickP t39 (AV.bool true) t43_25).bind fun t44 =>
  gQ (gdW t44 false) h26 ((faP 3 t7).bind fun t46 =>
  some (t46, h26)) fun t46_27 h28 =>
  gQ (gdW t44 false) h28 ((ldS h28 t46_27).bind fun t47 =>
  some (t47, h28)) fun t47_29 h30 =>
  gQ (gdW t44 false) h30 ((binP .lss t47_29 (AV.int .i64 0)).bind fun t48 =>
  some (t48, h30)) fun t48_31 h32 =>
  (pickP t44 (AV.bool true) t48_31).bind fun t49 =>
  gQ (gdW t49 false) h32 ((faP 3 t7).bind fun t51 =>
  some (t51, h32)) fun t51_33 h34 =>
  gQ (gdW t49 false) h34 ((ldS h34 t51_33).bind fun t52 =>
  some (t52, h34)) fun t52_35 h36 =>
  gQ (gdW t49 false) h36 ((binP .geq t52_35 (AV.int .i64 64)).bind fun t53 =>
  some (t53, h36)) fun t53_37 h38 =>
  (pickP t49 (AV.bool true) t53_37).bind fun t54 =>
  condE t54 (
  some ((AV.bool false), h38)) (
  (faP 3 t7).bind fun t55 =>
  (ldS h38 t55).bind fun t56 =>
  (faP 4 t3).bind fun t57 =>
  (ldS h38 t57).bind fun t58 =>
  (lnL t58).bind fun t59 =>
  (binP .lss t56 t59).bind fun t60 =>
  gQ (gdW t60 true) h38 ((faP 4 t3).bind fun t62 =>
  some (t62, h38)) fun t62_39 h40 =>
  gQ (gdW t60 true) h40 ((ldS h40 t62_39).bind fun t63 =>
  some (t63, h40)) fun t63_41 h42 =>
  gQ (gdW t60 true) h42 ((faP 3 t7).bind fun t64 =>
  some (t64, h42)) fun t64_43 h44 =>
  gQ (gdW t60 true) h44 ((ldS h44 t64_43).bind fun t65 =>
  some (t65, h44)) fun t65_45 h46 =>
  gQ (gdW t60 true) h46 ((iaS 1 t63_41 t65_45).bind fun t66 =>
  some (t66, h46)) fun t66_47 h48 =>
  gQ (gdW t60 true) h48 ((ldS h48 t66_47).bind fun t67 =>
  some (t67, h48)) fun t67_49 h50 =>
  gQ (gdW t60 true) h50 ((unA .not t67_49).bind fun t68 =>
  some (t68, h50)) fun t68_51 h52 =>
  (pickP t60 t68_51 (AV.bool false)).bind fun t69 =>
  condE t69 (
  some ((AV.bool true), h52)) (
  (iaS 1 x1 x2).bind fun t72 =>
  (ldS h52 t72).bind fun t73 =>
  (faP 1 t7).bind fun t75 =>
  (ldS (hpN h52 2) t75).bind fun t76 =>
  cl (k_fresh_states_get t73 t76 (hpN h52 2)) fun t77 h53 =>
  (faP 3 t7).bind fun t79 =>
  clC (rdC (fun g => ldS g t79) h53 0 1 []) fun t80 cs =>
  cl (k_fresh_states_get t73 t80 h53) fun t81 h54 =>
  cl (mkAt (some (Blk.cells true [(AV.bool false), (AV.bool false), (AV.int .u64 0)], fun i => AV.ptr (some (i, 0)))) (h52.next + 0) h54) fun t10 h55 =>
  cl (mkAt (some (Blk.cells true [(AV.bool false), (AV.bool false), (AV.int .u64 0)], fun i => AV.ptr (some (i, 0)))) (h52.next + 1) h55) fun t11 h56 =>
  cl (stP 3 h56 t10 t77) fun u_57 h58 =>
  cl (stP 3 h58 t11 t81) fun u_59 h60 =>
  chk [(hpN h52 2), h53, h54, h58, h60] cs (
  condE t24 (
  (faP 1 t10).bind fun t83 =>
  (ldS h60 t83).bind fun t84 =>
  (gV (gdW t84 true) (faP 0 t11) (.tup [])).bind fun t86 =>
  (gV (gdW t84 true) (ldS h60 t86) (.tup [])).bind fun t87 =>
  (pickP t84 t87 (AV.bool false)).bind fun t88 =>
  (gV (gdW t88 true) (faP 2 t10) (.tup [])).bind fun t90 =>
  clC (gV (gdW t88 true) (rdC (fun g => ldS g t90) h60 0 1 []) (.tup [], [])) fun t91 cs_61 =>
  (gV (gdW t88 true) (faP 2 t7) (.tup [])).bind fun t92 =>
  (gV (gdW t88 true) (ldS h60 t92) (.tup [])).bind fun t93 =>
  gQ (gdW t88 true) h60 (cl (k_fresh_bit t93 h60) fun t94 h62 =>
  some (t94, h62)) fun t94_63 h64 =>
  (gV (gdW t88 true) (binP .and t91 t94_63) (.tup [])).bind fun t95 =>
  (gV (gdW t88 true) (eqP (some (.int .u64)) none false .eql t95 (AV.int .u64 0)) (.tup [])).bind fun t96 =>
  (pickP t88 t96 (AV.bool false)).bind fun t97 =>
  chk [h60, h64] cs_61 (
  some (t97, h64))) (
  (faP 1 t10).bind fun t98 =>
  (ldS h60 t98).bind fun t99 =>
  gQ (gdW t99 true) h60 ((faP 0 t11).bind fun t101 =>
  some (t101, h60)) fun t101_65 h66 =>
  gQ (gdW t99 true) h66 ((ldS h66 t101_65).bind fun t102 =>
  some (t102, h66)) fun t102_67 h68 =>
  (pickP t99 t102_67 (AV.bool false)).bind fun t103 =>
  gQ (gdW t103 true) h68 ((faP 2 t10).bind fun t105 =>
  some (t105, h68)) fun t105_69 h70 =>
  gQ (gdW t103 true) h70 ((ldS h70 t105_69).bind fun t106 =>
  some (t106, h70)) fun t106_71 h72 =>
  gQ (gdW t103 true) h72 ((eqP (some (.int .u64)) none false .eql t106_71 (AV.int .u64 0)).bind fun t107 =>
  some (t107, h72)) fun t107_73 h74 =>
  (pickP t103 t107_73 (AV.bool false)).bind fun t108 =>
  some (t108, h74))))))
def T51 : Tab := (56, p3 k_fresh_SpareIn) :: T50
/- 32: gantline/fresh.Spare -/
def k_fresh_Spare (x0 : AV) (x1 : AV) (x2 : AV) (h : Heap) : Option (AV × Heap) :=
  mk (bxP x0) h fun t3 h0 =>
  mk (bxP x1) h0 fun t4 h1 =>
  (binP .geq x2 (AV.int .i64 0)).bind fun t8 =>
  (gV (gdW t8 true) (some x2) (.tup [])).bind fun t10 =>
  (gV (gdW t8 true) (faP 5 t4) (.tup [])).bind fun t11 =>
  (gV (gdW t8 true) (ldS h1 t11) (.tup [])).bind fun t12 =>
  (gV (gdW t8 true) (lnL t12) (.tup [])).bind fun t13 =>
  (gV (gdW t8 true) (binP .lss t10 t13) (.tup [])).bind fun t14 =>
  (pickP t8 t14 (AV.bool false)).bind fun t15 =>
  clC (gV (gdW t15 true) (rdC (fun g => ldA 7 g t4) h1 0 1 []) (.tup [], [])) fun t17 cs =>
  (gV (gdW t15 true) (ldA 6 h1 t3) (.tup [])).bind fun t18 =>
  (gV (gdW t15 true) (ldA 7 h1 t4) (.tup [])).bind fun t19 =>
  gQ (gdW t15 true) h1 (cl (k_fresh_Sets t18 t19 h1) fun t20 h2 =>
  some (t20, h2)) fun t20_3 h4 =>
  (gV (gdW t15 true) (some x2) (.tup [])).bind fun t21 =>
  gQ (gdW t15 true) h4 (cl (k_fresh_SpareIn t17 t20_3 t21 h4) fun t22 h5 =>
  some (t22, h5)) fun t22_6 h7 =>
  (pickP t15 t22_6 (AV.bool false)).bind fun t23 =>
  chk [h1, h4, h7] cs (
  some (t23, h7))
def T52 : Tab := (32, p3 k_fresh_Spare) :: T51
/- 30: gantline/gantlinelaw11.awake -/
def k_law11_awake (h : Heap) : Option (AV × Heap) :=
  cl (k_law11_pair (AV.bool false) h) fun t7 h0 =>
  (extractV 0 t7).bind fun t8 =>
  (extractV 1 t7).bind fun t9 =>
  mk (some (Blk.cells true [(AV.sl none 0 (.ex 0)), (AV.sl none 0 (.ex 0)), (AV.sl none 0 (.ex 0)), (AV.sl none 0 (.ex 0)), (AV.sl none 0 (.ex 0)), (AV.int .i64 0)], fun i => AV.ptr (some (i, 0)))) h0 fun t1 h1 =>
  mk (some (Blk.cells true [(AV.int .i64 0), (AV.int .i64 0), (AV.int .i64 0), (AV.int .i64 0), (AV.sl none 0 (.ex 0)), (AV.sl none 0 (.ex 0)), (AV.sl none 0 (.ex 0))], fun i => AV.ptr (some (i, 0)))) h1 fun t2 h2 =>
  cl (stP 6 h2 t1 t8) fun u h3 =>
  cl (stP 7 h3 t2 t9) fun u_4 h5 =>
  cl (k_law11_pair (AV.bool true) h5) fun t11 h6 =>
  (extractV 0 t11).bind fun t12 =>
  (extractV 1 t11).bind fun t13 =>
  mk (some (Blk.cells true [(AV.sl none 0 (.ex 0)), (AV.sl none 0 (.ex 0)), (AV.sl none 0 (.ex 0)), (AV.sl none 0 (.ex 0)), (AV.sl none 0 (.ex 0)), (AV.int .i64 0)], fun i => AV.ptr (some (i, 0)))) h6 fun t3 h7 =>
  mk (some (Blk.cells true [(AV.int .i64 0), (AV.int .i64 0), (AV.int .i64 0), (AV.int .i64 0), (AV.sl none 0 (.ex 0)), (AV.sl none 0 (.ex 0)), (AV.sl none 0 (.ex 0))], fun i => AV.ptr (some (i, 0)))) h7 fun t4 h8 =>
  cl (stP 6 h8 t3 t12) fun u_9 h10 =>
  cl (stP 7 h10 t4 t13) fun u_11 h12 =>
  (ldA 6 h12 t1).bind fun t14 =>
  (ldA 7 h12 t2).bind fun t15 =>
  cl (k_fresh_Sets t14 t15 h12) fun t16 h13 =>
  (ldA 6 h13 t1).bind fun t17 =>
  (ldA 7 h13 t2).bind fun t18 =>
  cl (k_fresh_Spare t17 t18 (AV.int .i64 2) h13) fun t19 h14 =>
  gQ (gdW t19 true) h14 ((ldA 6 h14 t3).bind fun t21 =>
  some (t21, h14)) fun t21_15 h16 =>
  gQ (gdW t19 true) h16 ((ldA 7 h16 t4).bind fun t22 =>
  some (t22, h16)) fun t22_17 h18 =>
  gQ (gdW t19 true) h18 (cl (k_fresh_Spare t21_15 t22_17 (AV.int .i64 3) h18) fun t23 h19 =>
  some (t23, h19)) fun t23_20 h21 =>
  gQ (gdW t19 true) h21 ((unA .not t23_20).bind fun t24 =>
  some (t24, h21)) fun t24_22 h23 =>
  (pickP t19 t24_22 (AV.bool false)).bind fun t25 =>
  gQ (gdW t25 true) h23 (some (t16, h23)) fun t27 h24 =>
  gQ (gdW t25 true) h24 ((lnL t27).bind fun t28 =>
  some (t28, h24)) fun t28_25 h26 =>
  gQ (gdW t25 true) h26 ((eqP (some (.int .i64)) none false .eql t28_25 (AV.int .i64 4)).bind fun t29 =>
  some (t29, h26)) fun t29_27 h28 =>
  (pickP t25 t29_27 (AV.bool false)).bind fun t30 =>
  gQ (gdW t30 true) h28 (some (t16, h28)) fun t32 h29 =>
  gQ (gdW t30 true) h29 ((iaS 1 t32 (AV.int .i64 2)).bind fun t33 =>
  some (t33, h29)) fun t33_30 h31 =>
  gQ (gdW t30 true) h31 ((ldS h31 t33_30).bind fun t34 =>
  some (t34, h31)) fun t34_32 h33 =>
  gQ (gdW t30 true) h33 ((lnL t34_32).bind fun t35 =>
  some (t35, h33)) fun t35_34 h35 =>
  gQ (gdW t30 true) h35 ((eqP (some (.int .i64)) none false .eql t35_34 (AV.int .i64 2)).bind fun t36 =>
  some (t36, h35)) fun t36_36 h37 =>
  (pickP t30 t36_36 (AV.bool false)).bind fun t37 =>
  gQ (gdW t37 true) h37 (some (t16, h37)) fun t39 h38 =>
  gQ (gdW t37 true) h38 ((iaS 1 t39 (AV.int .i64 2)).bind fun t40 =>
  some (t40, h38)) fun t40_39 h40 =>
  gQ (gdW t37 true) h40 ((ldS h40 t40_39).bind fun t41 =>
  some (t41, h40)) fun t41_41 h42 =>
  gQ (gdW t37 true) h42 ((iaS 3 t41_41 (AV.int .i64 0)).bind fun t42 =>
  some (t42, h42)) fun t42_43 h44 =>
  gQ (gdW t37 true) h44 ((ldA 3 h44 t42_43).bind fun t43 =>
  some (t43, h44)) fun t43_45 h46 =>
  gQ (gdW t37 true) h46 ((bldS [(0, 1), (1, 1), (2, 1)] [(AV.bool false), (AV.bool false), (AV.int .u64 0)] [(1, (AV.bool true))]).bind fun t44 =>
  some (t44, h46)) fun t44_47 h48 =>
  gQ (gdW t37 true) h48 ((eqP (some (.struct #[])) (some [(0, .bool), (1, .bool), (2, (.int .u64))]) false .eql t43_45 t44_47).bind fun t45 =>
  some (t45, h48)) fun t45_49 h50 =>
  (pickP t37 t45_49 (AV.bool false)).bind fun t46 =>
  gQ (gdW t46 true) h50 (some (t16, h50)) fun t48 h51 =>
  gQ (gdW t46 true) h51 ((iaS 1 t48 (AV.int .i64 2)).bind fun t49 =>
  some (t49, h51)) fun t49_52 h53 =>
  gQ (gdW t46 true) h53 ((ldS h53 t49_52).bind fun t50 =>
  some (t50, h53)) fun t50_54 h55 =>
  gQ (gdW t46 true) h55 ((iaS 3 t50_54 (AV.int .i64 1)).bind fun t51 =>
  some (t51, h55)) fun t51_56 h57 =>
  gQ (gdW t46 true) h57 ((ldA 3 h57 t51_56).bind fun t52 =>
  some (t52, h57)) fun t52_58 h59 =>
  gQ (gdW t46 true) h59 ((bldS [(0, 1), (1, 1), (2, 1)] [(AV.bool false), (AV.bool false), (AV.int .u64 0)] [(0, (AV.bool true)), (1, (AV.bool true))]).bind fun t53 =>
  some (t53, h59)) fun t53_60 h61 =>
  gQ (gdW t46 true) h61 ((eqP (some (.struct #[])) (some [(0, .bool), (1, .bool), (2, (.int .u64))]) false .eql t52_58 t53_60).bind fun t54 =>
  some (t54, h61)) fun t54_62 h63 =>
  (pickP t46 t54_62 (AV.bool false)).bind fun t55 =>
  some (t55, h63)
def T53 : Tab := (30, p0 k_law11_awake) :: T52
/- 10: gantline/gantlinelaw11.FreshSends -/
def k_law11_FreshSends_j0 (x0 : AV) (x1 : AV) (q5 : AV) (h4 : Heap) : Option (AV × Heap) :=
  mk (bsP 1 [(AV.bool false)] 1 [(0, (AV.bool true))]) h4 fun t18 h5 =>
  (bldS [(0, 1), (1, 1), (2, 1)] [(AV.int .i64 0), (AV.int .i64 0), (AV.int .u64 0)] [(1, (AV.int .i64 1)), (2, (AV.int .u64 1))]).bind fun t19 =>
  mk (bsP 3 [(AV.int .i64 0), (AV.int .i64 0), (AV.int .u64 0)] 1 [(0, t19)]) h5 fun t20 h6 =>
  (bldS [(0, 1), (1, 1), (2, 1), (3, 1)] [(AV.int .i64 0), (AV.int .i64 0), (AV.int .i64 0), (AV.int .i64 0)] [(0, (AV.int .i64 1)), (1, (AV.int .i64 2)), (2, q5), (3, (AV.int .i64 2))]).bind fun t22 =>
  mk (bsP 4 [(AV.int .i64 0), (AV.int .i64 0), (AV.int .i64 0), (AV.int .i64 0)] 1 [(0, t22)]) h6 fun t23 h7 =>
  (bldS [(0, 1), (1, 1), (2, 1), (3, 1), (4, 1), (5, 1)] [(AV.sl none 0 (.ex 0)), (AV.sl none 0 (.ex 0)), (AV.sl none 0 (.ex 0)), (AV.sl none 0 (.ex 0)), (AV.sl none 0 (.ex 0)), (AV.int .i64 0)] [(1, t18), (0, t20), (3, t23)]).bind fun t24 =>
  mk (some (Blk.cells true [(AV.sl none 0 (.ex 0)), (AV.sl none 0 (.ex 0)), (AV.sl none 0 (.ex 0)), (AV.sl none 0 (.ex 0)), (AV.sl none 0 (.ex 0)), (AV.int .i64 0)], fun i => AV.ptr (some (i, 0)))) h7 fun t6 h8 =>
  cl (stP 6 h8 t6 t24) fun u h9 =>
  mk (bsP 1 [(AV.bool false)] 1 [(0, (AV.bool true))]) h9 fun t25 h10 =>
  (bldS [(0, 1), (1, 1), (2, 1), (3, 1), (4, 1), (5, 1), (6, 1)] [(AV.int .i64 0), (AV.int .i64 0), (AV.int .i64 0), (AV.int .i64 0), (AV.sl none 0 (.ex 0)), (AV.sl none 0 (.ex 0)), (AV.sl none 0 (.ex 0))] [(0, (AV.int .i64 1)), (2, (AV.int .i64 1)), (4, t25)]).bind fun t26 =>
  mk (bsP 1 [(AV.bool false)] 1 [(0, (AV.bool true))]) h10 fun t27 h11 =>
  (bldS [(0, 1), (1, 1), (2, 1), (3, 1), (4, 1), (5, 1), (6, 1)] [(AV.int .i64 0), (AV.int .i64 0), (AV.int .i64 0), (AV.int .i64 0), (AV.sl none 0 (.ex 0)), (AV.sl none 0 (.ex 0)), (AV.sl none 0 (.ex 0))] [(1, (AV.int .i64 1)), (2, (AV.int .i64 1)), (4, t27)]).bind fun t28 =>
  mk (bsP 7 [(AV.int .i64 0), (AV.int .i64 0), (AV.int .i64 0), (AV.int .i64 0), (AV.sl none 0 (.ex 0)), (AV.sl none 0 (.ex 0)), (AV.sl none 0 (.ex 0))] 2 [(0, t26), (1, t28)]) h11 fun t29 h12 =>
  (faP 4 t6).bind fun t30 =>
  cl (stP 1 h12 t30 t29) fun u_13 h14 =>
  (bldS [(0, 1), (1, 1), (2, 1), (3, 1), (4, 1)] [(AV.int .i64 0), (AV.int .i64 0), (AV.int .i64 0), (AV.int .i64 0), (AV.int .i64 0)] [(0, (AV.int .i64 41)), (1, (AV.int .i64 0)), (2, (AV.int .i64 1))]).bind fun t31 =>
  (bldS [(0, 1), (1, 1), (2, 1), (3, 1), (4, 1)] [(AV.int .i64 0), (AV.int .i64 0), (AV.int .i64 0), (AV.int .i64 0), (AV.int .i64 0)] [(0, (AV.int .i64 36)), (1, (AV.int .i64 4)), (2, (AV.int .i64 1)), (3, q5)]).bind fun t33 =>
  (bldS [(0, 1), (1, 1), (2, 1), (3, 1), (4, 1)] [(AV.int .i64 0), (AV.int .i64 0), (AV.int .i64 0), (AV.int .i64 0), (AV.int .i64 0)] [(0, (AV.int .i64 20)), (1, (AV.int .i64 (-1))), (2, (AV.int .i64 0)), (3, q5)]).bind fun t35 =>
  (bldS [(0, 1), (1, 1), (2, 1), (3, 1), (4, 1)] [(AV.int .i64 0), (AV.int .i64 0), (AV.int .i64 0), (AV.int .i64 0), (AV.int .i64 0)] [(0, (AV.int .i64 35)), (1, (AV.int .i64 0)), (2, q5)]).bind fun t37 =>
  (bldS [(0, 1), (1, 1), (2, 1), (3, 1), (4, 1)] [(AV.int .i64 0), (AV.int .i64 0), (AV.int .i64 0), (AV.int .i64 0), (AV.int .i64 0)] [(0, (AV.int .i64 38)), (1, (AV.int .i64 2)), (2, q5)]).bind fun t39 =>
  (bldS [(0, 1), (1, 1), (2, 1), (3, 1), (4, 1)] [(AV.int .i64 0), (AV.int .i64 0), (AV.int .i64 0), (AV.int .i64 0), (AV.int .i64 0)] [(0, (AV.int .i64 23)), (1, (AV.int .i64 0)), (2, q5)]).bind fun t41 =>
  mk (bsP 5 [(AV.int .i64 0), (AV.int .i64 0), (AV.int .i64 0), (AV.int .i64 0), (AV.int .i64 0)] 6 [(0, t31), (1, t33), (2, t35), (3, t37), (4, t39), (5, t41)]) h14 fun t42 h15 =>
  mk (bsP 1 [(AV.bool false)] 5 [(0, (AV.bool true)), (1, (AV.bool true)), (2, (AV.bool true)), (3, (AV.bool true)), (4, (AV.bool true))]) h15 fun t43 h16 =>
  (bldS [(0, 1), (1, 1), (2, 1), (3, 1), (4, 1)] [(AV.int .i64 0), (AV.int .i64 0), (AV.int .i64 0), (AV.int .i64 0), (AV.int .i64 0)] [(0, (AV.int .i64 25)), (1, (AV.int .i64 0))]).bind fun t44 =>
  (iaS 5 t42 x0).bind fun t47 =>
  (ldA 5 h16 t47).bind fun t48 =>
  (bldS [(0, 1), (1, 1), (2, 1), (3, 1), (4, 1)] [(AV.int .i64 0), (AV.int .i64 0), (AV.int .i64 0), (AV.int .i64 0), (AV.int .i64 0)] [(0, (AV.int .i64 25)), (1, (AV.int .i64 1))]).bind fun t49 =>
  (bldS [(0, 1), (1, 1), (2, 1), (3, 1), (4, 1)] [(AV.int .i64 0), (AV.int .i64 0), (AV.int .i64 0), (AV.int .i64 0), (AV.int .i64 0)] [(0, (AV.int .i64 28)), (1, (AV.int .i64 0)), (2, (AV.int .i64 0)), (3, (AV.int .i64 1))]).bind fun t50 =>
  (bldS [(0, 1), (1, 1), (2, 1), (3, 1), (4, 1)] [(AV.int .i64 0), (AV.int .i64 0), (AV.int .i64 0), (AV.int .i64 0), (AV.int .i64 0)] [(0, (AV.int .i64 22)), (1, (AV.int .i64 (-1)))]).bind fun t51 =>
  mk (bsP 5 [(AV.int .i64 0), (AV.int .i64 0), (AV.int .i64 0), (AV.int .i64 0), (AV.int .i64 0)] 5 [(0, t44), (1, t48), (2, t49), (3, t50), (4, t51)]) h16 fun t52 h17 =>
  (bldS [(0, 1), (1, 1), (2, 1), (3, 1), (4, 1), (5, 1), (6, 1)] [(AV.int .i64 0), (AV.int .i64 0), (AV.int .i64 0), (AV.int .i64 0), (AV.sl none 0 (.ex 0)), (AV.sl none 0 (.ex 0)), (AV.sl none 0 (.ex 0))] [(2, (AV.int .i64 5)), (4, t43), (5, t52)]).bind fun t53 =>
  mk (some (Blk.cells true [(AV.int .i64 0), (AV.int .i64 0), (AV.int .i64 0), (AV.int .i64 0), (AV.sl none 0 (.ex 0)), (AV.sl none 0 (.ex 0)), (AV.sl none 0 (.ex 0))], fun i => AV.ptr (some (i, 0)))) h17 fun t8 h18 =>
  cl (stP 7 h18 t8 t53) fun u_19 h20 =>
  (faP 4 t6).bind fun t54 =>
  (ldS h20 t54).bind fun t55 =>
  (ldA 7 h20 t8).bind fun t56 =>
  mk (bsP 7 [(AV.int .i64 0), (AV.int .i64 0), (AV.int .i64 0), (AV.int .i64 0), (AV.sl none 0 (.ex 0)), (AV.sl none 0 (.ex 0)), (AV.sl none 0 (.ex 0))] 1 [(0, t56)]) h20 fun t57 h21 =>
  cl (appendA h21 7 104 t55 t57) fun t58 h22 =>
  (faP 4 t6).bind fun t59 =>
  cl (stP 1 h22 t59 t58) fun u_23 h24 =>
  (ldA 6 h24 t6).bind fun t60 =>
  (ldA 7 h24 t8).bind fun t61 =>
  cl (k_fresh_Spare t60 t61 (AV.int .i64 3) h24) fun t62 h25 =>
  (eqP (some .bool) none false .eql t62 x1).bind fun t64 =>
  some (t64, h25)
def k_law11_FreshSends (x0 : AV) (x1 : AV) (h : Heap) : Option (AV × Heap) :=
  cl (k_law11_awake h) fun t9 h0 =>
  (unA .not t9).bind fun t10 =>
  condE t10 (
  some ((AV.bool false), h0)) (
  (binP .lss x0 (AV.int .i64 0)).bind fun t12 =>
  gQ (gdW t12 false) h0 (some (x0, h0)) fun t14 h1 =>
  gQ (gdW t12 false) h1 ((binP .gtr t14 (AV.int .i64 5)).bind fun t15 =>
  some (t15, h1)) fun t15_2 h3 =>
  (pickP t12 (AV.bool true) t15_2).bind fun t16 =>
  condE t16 (
  some ((AV.bool true), h3)) (
  condE x1 (
  k_law11_FreshSends_j0 x0 x1 (AV.int .i64 3) h3) (
  k_law11_FreshSends_j0 x0 x1 (AV.int .i64 0) h3)))
def T54 : Tab := (10, p2 k_law11_FreshSends) :: T53
end
end Go.Ab.F