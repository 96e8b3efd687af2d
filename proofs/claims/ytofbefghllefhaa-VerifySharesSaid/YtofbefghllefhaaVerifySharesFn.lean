/- PRINTED by Gen.lean: the program's functions on the abstract machine's values and heaps. -/
import Derived.Test.YtofbefghllefhaaAbS
namespace Go.Ab.F
open Go Go.Ab
set_option linter.all false
noncomputable section
def T0 : Tab := []
/- 92: gantline/head.Good -/
def k_head_Good_j0 (t1 : AV) (q25 : AV) (h22 : Heap) : Option (AV × Heap) :=
  condE q25 (
  (faP 1 t1).bind fun t28 =>
  (ldS h22 t28).bind fun t29 =>
  (eqP (some (.int .i64)) none false .eql t29 (AV.int .i64 0)).bind fun t30 =>
  gQ (gdW t30 true) h22 ((faP 2 t1).bind fun t32 =>
  some (t32, h22)) fun t32_23 h24 =>
  gQ (gdW t30 true) h24 ((ldS h24 t32_23).bind fun t33 =>
  some (t33, h24)) fun t33_25 h26 =>
  gQ (gdW t30 true) h26 ((binP .leq t33_25 (AV.int .u64 1)).bind fun t34 =>
  some (t34, h26)) fun t34_27 h28 =>
  (pickP t30 t34_27 (AV.bool false)).bind fun t35 =>
  some (t35, h28)) (
  some ((AV.bool false), h22))
def k_head_Good_j1 (t1 : AV) (t4 : AV) (q5 : AV) (h1 : Heap) : Option (AV × Heap) :=
  condE q5 (
  (faP 1 t1).bind fun t8 =>
  (ldS h1 t8).bind fun t9 =>
  (binP .geq t9 (AV.int .i64 0)).bind fun t10 =>
  gQ (gdW t10 true) h1 ((faP 1 t1).bind fun t12 =>
  some (t12, h1)) fun t12_2 h3 =>
  gQ (gdW t10 true) h3 ((ldS h3 t12_2).bind fun t13 =>
  some (t13, h3)) fun t13_4 h5 =>
  gQ (gdW t10 true) h5 ((binP .leq t13_4 (AV.int .i64 63)).bind fun t14 =>
  some (t14, h5)) fun t14_6 h7 =>
  (pickP t10 t14_6 (AV.bool false)).bind fun t15 =>
  gQ (gdW t15 true) h7 ((faP 2 t1).bind fun t17 =>
  some (t17, h7)) fun t17_8 h9 =>
  gQ (gdW t15 true) h9 ((ldS h9 t17_8).bind fun t18 =>
  some (t18, h9)) fun t18_10 h11 =>
  gQ (gdW t15 true) h11 ((faP 1 t1).bind fun t19 =>
  some (t19, h11)) fun t19_12 h13 =>
  gQ (gdW t15 true) h13 ((ldS h13 t19_12).bind fun t20 =>
  some (t20, h13)) fun t20_14 h15 =>
  gQ (gdW t15 true) h15 ((cvI .u64 t20_14).bind fun t21 =>
  some (t21, h15)) fun t21_16 h17 =>
  gQ (gdW t15 true) h17 ((binP .shr t18_10 t21_16).bind fun t22 =>
  some (t22, h17)) fun t22_18 h19 =>
  gQ (gdW t15 true) h19 ((eqP (some (.int .u64)) none false .eql t22_18 (AV.int .u64 0)).bind fun t23 =>
  some (t23, h19)) fun t23_20 h21 =>
  (pickP t15 t23_20 (AV.bool false)).bind fun t24 =>
  some (t24, h21)) (
  (eqP (some (.int .i64)) none false .eql t4 (AV.int .i64 1)).bind fun t26 =>
  condE t26 (
  k_head_Good_j0 t1 t26 h1) (
  (eqP (some (.int .i64)) none false .eql t4 (AV.int .i64 3)).bind fun t27 =>
  k_head_Good_j0 t1 t27 h1))
def k_head_Good (x0 : AV) (h : Heap) : Option (AV × Heap) :=
  mk (bxP x0) h fun t1 h0 =>
  (faP 0 t1).bind fun t3 =>
  (ldS h0 t3).bind fun t4 =>
  (eqP (some (.int .i64)) none false .eql t4 (AV.int .i64 0)).bind fun t6 =>
  condE t6 (
  k_head_Good_j1 t1 t4 t6 h0) (
  (eqP (some (.int .i64)) none false .eql t4 (AV.int .i64 2)).bind fun t7 =>
  k_head_Good_j1 t1 t4 t7 h0)
def T1 : Tab := (92, p1 k_head_Good) :: T0
/- 91: gantline/verify.module$1 -/
def k_verify_module_1 (x0 : AV) (h : Heap) : Option (AV × Heap) :=
  mk (bxP x0) h fun t1 h0 =>
  (ldA 3 h0 t1).bind fun t3 =>
  cl (k_head_Good t3 h0) fun t4 h1 =>
  (unA .not t4).bind fun t5 =>
  some (t5, h1)
def T2 : Tab := (91, p1 k_verify_module_1) :: T1
/- 94: gantline/bits.Wrap -/
def k_bits_Wrap (x0 : AV) (h : Heap) : Option (AV × Heap) :=
  (binP .shl x0 (AV.int .u64 1)).bind fun t4 =>
  (binP .shr t4 (AV.int .u64 1)).bind fun t5 =>
  some (t5, h)
def T3 : Tab := (94, p1 k_bits_Wrap) :: T2
/- 93: gantline/verify.module$2 -/
def k_verify_module_2 (x0 : AV) (h : Heap) : Option (AV × Heap) :=
  cl (k_bits_Wrap x0 h) fun t4 h0 =>
  (eqP (some (.int .i64)) none false .neq t4 x0).bind fun t6 =>
  some (t6, h0)
def T4 : Tab := (93, p1 k_verify_module_2) :: T3
/- 51: gantline/live.Follows$1 -/
def k_live_Follows_1 (x0 : AV) (x1 : AV) (h : Heap) : Option (AV × Heap) :=
  (binP .lss x0 (AV.int .i64 0)).bind fun t5 =>
  gQ (gdW t5 false) h (some (x0, h)) fun t7 h0 =>
  gQ (gdW t5 false) h0 ((faP 5 x1).bind fun t8 =>
  some (t8, h0)) fun t8_1 h2 =>
  gQ (gdW t5 false) h2 ((ldS h2 t8_1).bind fun t9 =>
  some (t9, h2)) fun t9_3 h4 =>
  gQ (gdW t5 false) h4 ((lnL t9_3).bind fun t10 =>
  some (t10, h4)) fun t10_5 h6 =>
  gQ (gdW t5 false) h6 ((binP .geq t7 t10_5).bind fun t11 =>
  some (t11, h6)) fun t11_7 h8 =>
  (pickP t5 (AV.bool true) t11_7).bind fun t12 =>
  some (t12, h8)
def T5 : Tab := (51, p2 k_live_Follows_1) :: T4
/- 65: gantline/live.given$1 -/
def k_live_given_1 (x0 : AV) (h : Heap) : Option (AV × Heap) :=
  (eqP (some (.int .i64)) none false .eql x0 (AV.int .i64 (-1))).bind fun t4 =>
  some (t4, h)
def T6 : Tab := (65, p1 k_live_given_1) :: T5
/- 113: (*gantline/verify.checker).slot -/
def k_verify_checker_slot (x0 : AV) (x1 : AV) (h : Heap) : Option (AV × Heap) :=
  (binP .geq x1 (AV.int .i64 0)).bind fun t6 =>
  gQ (gdW t6 true) h (some (x1, h)) fun t8 h0 =>
  gQ (gdW t6 true) h0 (some (x0, h0)) fun t9 h1 =>
  gQ (gdW t6 true) h1 ((nilV t9).bind fun t10 =>
  some (t10, h1)) fun t10_2 h3 =>
  gQ (gdW t6 true) h3 ((faP 6 t10_2).bind fun t11 =>
  some (t11, h3)) fun t11_4 h5 =>
  gQ (gdW t6 true) h5 ((faP 2 t11_4).bind fun t12 =>
  some (t12, h5)) fun t12_6 h7 =>
  gQ (gdW t6 true) h7 ((ldS h7 t12_6).bind fun t13 =>
  some (t13, h7)) fun t13_8 h9 =>
  gQ (gdW t6 true) h9 ((binP .lss t8 t13_8).bind fun t14 =>
  some (t14, h9)) fun t14_10 h11 =>
  (pickP t6 t14_10 (AV.bool false)).bind fun t15 =>
  some (t15, h11)
def T7 : Tab := (113, p2 k_verify_checker_slot) :: T6
/- 112: (*gantline/verify.checker).slots$1 -/
def k_verify_checker_slots_1 (x0 : AV) (x1 : AV) (h : Heap) : Option (AV × Heap) :=
  (eqP (some (.int .i64)) none false .eql x0 (AV.int .i64 (-1))).bind fun t5 =>
  gQ (gdW t5 false) h ((ldS h x1).bind fun t7 =>
  some (t7, h)) fun t7_0 h1 =>
  gQ (gdW t5 false) h1 (some (x0, h1)) fun t8 h2 =>
  gQ (gdW t5 false) h2 (cl (k_verify_checker_slot t7_0 t8 h2) fun t9 h3 =>
  some (t9, h3)) fun t9_4 h5 =>
  (pickP t5 (AV.bool true) t9_4).bind fun t10 =>
  some (t10, h5)
def T8 : Tab := (112, p2 k_verify_checker_slots_1) :: T7
/- 121: (*gantline/verify.checker).slots$3 -/
def k_verify_checker_slots_3 (x0 : AV) (x1 : AV) (h : Heap) : Option (AV × Heap) :=
  (ldS h x1).bind fun t4 =>
  cl (k_verify_checker_slot t4 x0 h) fun t6 h0 =>
  (unA .not t6).bind fun t7 =>
  some (t7, h0)
def T9 : Tab := (121, p2 k_verify_checker_slots_3) :: T8
/- 130: (*gantline/verify.checker).is$1 -/
def k_verify_checker_is_1 (x0 : AV) (x1 : AV) (x2 : AV) (h : Heap) : Option (AV × Heap) :=
  (ldS h x1).bind fun t5 =>
  (nilV t5).bind fun t6 =>
  (faP 6 t6).bind fun t7 =>
  (faP 4 t7).bind fun t8 =>
  (ldS h t8).bind fun t9 =>
  (iaS 1 t9 x0).bind fun t11 =>
  (ldS h t11).bind fun t12 =>
  (ldS h x2).bind fun t13 =>
  (eqP (some .bool) none false .neq t12 t13).bind fun t14 =>
  chk [h] [] (
  some (t14, h))
def T10 : Tab := (130, p3 k_verify_checker_is_1) :: T9
/- 44: gantline/live.cases -/
def k_live_cases (x0 : AV) (x1 : AV) (h : Heap) : Option (AV × Heap) :=
  mk (bxP x0) h fun t2 h0 =>
  mk (bxP x1) h0 fun t3 h1 =>
  (faP 1 t3).bind fun t5 =>
  (ldS h1 t5).bind fun t6 =>
  (binP .lss t6 (AV.int .i64 0)).bind fun t7 =>
  gQ (gdW t7 false) h1 ((faP 2 t3).bind fun t9 =>
  some (t9, h1)) fun t9_2 h3 =>
  gQ (gdW t7 false) h3 ((ldS h3 t9_2).bind fun t10 =>
  some (t10, h3)) fun t10_4 h5 =>
  gQ (gdW t7 false) h5 ((binP .lss t10_4 (AV.int .i64 0)).bind fun t11 =>
  some (t11, h5)) fun t11_6 h7 =>
  (pickP t7 (AV.bool true) t11_6).bind fun t12 =>
  gQ (gdW t12 false) h7 ((faP 1 t3).bind fun t14 =>
  some (t14, h7)) fun t14_8 h9 =>
  gQ (gdW t12 false) h9 ((ldS h9 t14_8).bind fun t15 =>
  some (t15, h9)) fun t15_10 h11 =>
  gQ (gdW t12 false) h11 ((faP 3 t2).bind fun t16 =>
  some (t16, h11)) fun t16_12 h13 =>
  gQ (gdW t12 false) h13 ((ldS h13 t16_12).bind fun t17 =>
  some (t17, h13)) fun t17_14 h15 =>
  gQ (gdW t12 false) h15 ((lnL t17_14).bind fun t18 =>
  some (t18, h15)) fun t18_16 h17 =>
  gQ (gdW t12 false) h17 ((binP .gtr t15_10 t18_16).bind fun t19 =>
  some (t19, h17)) fun t19_18 h19 =>
  (pickP t12 (AV.bool true) t19_18).bind fun t20 =>
  gQ (gdW t20 false) h19 ((faP 2 t3).bind fun t22 =>
  some (t22, h19)) fun t22_20 h21 =>
  gQ (gdW t20 false) h21 ((ldS h21 t22_20).bind fun t23 =>
  some (t23, h21)) fun t23_22 h23 =>
  gQ (gdW t20 false) h23 ((faP 3 t2).bind fun t24 =>
  some (t24, h23)) fun t24_24 h25 =>
  gQ (gdW t20 false) h25 ((ldS h25 t24_24).bind fun t25 =>
  some (t25, h25)) fun t25_26 h27 =>
  gQ (gdW t20 false) h27 ((lnL t25_26).bind fun t26 =>
  some (t26, h27)) fun t26_28 h29 =>
  gQ (gdW t20 false) h29 ((faP 1 t3).bind fun t27 =>
  some (t27, h29)) fun t27_30 h31 =>
  gQ (gdW t20 false) h31 ((ldS h31 t27_30).bind fun t28 =>
  some (t28, h31)) fun t28_32 h33 =>
  gQ (gdW t20 false) h33 ((binP .sub t26_28 t28_32).bind fun t29 =>
  some (t29, h33)) fun t29_34 h35 =>
  gQ (gdW t20 false) h35 ((binP .gtr t23_22 t29_34).bind fun t30 =>
  some (t30, h35)) fun t30_36 h37 =>
  (pickP t20 (AV.bool true) t30_36).bind fun t31 =>
  condE t31 (
  some ((AV.sl none 0 (.ex 0)), h37)) (
  (faP 3 t2).bind fun t32 =>
  (ldS h37 t32).bind fun t33 =>
  (faP 1 t3).bind fun t34 =>
  (ldS h37 t34).bind fun t35 =>
  (faP 1 t3).bind fun t36 =>
  (ldS h37 t36).bind fun t37 =>
  (faP 2 t3).bind fun t38 =>
  (ldS h37 t38).bind fun t39 =>
  (binP .add t37 t39).bind fun t40 =>
  (slcP 4 t33 (some t35) (some t40) none).bind fun t41 =>
  some (t41, h37))
def T11 : Tab := (44, p2 k_live_cases) :: T10
/- 46: gantline/live.bitsOf -/
def k_live_bitsOf_b0 (x0 : AV) (t7 : AV) (q3 : AV) (q8 : AV) (h0 : Heap) : OutV :=
  (binP .lss q8 t7).bind fun t9 =>
  condE t9 (
  (iaS 1 x0 q8).bind fun t10 =>
  (ldS h0 t10).bind fun t11 =>
  (binP .geq t11 (AV.int .i64 0)).bind fun t13 =>
  gQ (gdW t13 true) h0 (some (t11, h0)) fun t15 h3 =>
  gQ (gdW t13 true) h3 ((binP .lss t15 (AV.int .i64 64)).bind fun t16 =>
  some (t16, h3)) fun t16_4 h5 =>
  (pickP t13 t16_4 (AV.bool false)).bind fun t17 =>
  condE t17 (
  (cvI .u64 t11).bind fun t20 =>
  (binP .shl (AV.int .u64 1) t20).bind fun t21 =>
  (binP .or q3 t21).bind fun t22 =>
  (binP .add q8 (AV.int .i64 1)).bind fun t23_14 =>
  some (.normal, [t22, t23_14], h5)) (
  (binP .add q8 (AV.int .i64 1)).bind fun t23_15 =>
  some (.normal, [q3, t23_15], h5))) (
  some ((.exit 0), [q3, q8], h0))
def k_live_bitsOf_L0 (x0 : AV) (t7 : AV) (q3 : AV) (q8 : AV) (h0 : Heap) : OutV := loopN (fun us g => k_live_bitsOf_b0 x0 t7 (us.getD 0 .bot) (us.getD 1 .bot) g) [q3, q8] h0
def k_live_bitsOf (x0 : AV) (h : Heap) : Option (AV × Heap) :=
  (lnL x0).bind fun t7 =>
  lp (k_live_bitsOf_L0 x0 t7 (AV.int .u64 0) (AV.int .i64 0) h) fun e vs h16 =>
  thenK (if e = .exit 0 then .normal else e) (
  some ((vs.getD 0 .bot), h16)) (fun e_17 => endE e_17 (some ((AV.int .u64 0), h16)))
def T12 : Tab := (46, p1 k_live_bitsOf) :: T11
/- 66: slices.IndexFunc[[]int,int] -/
def k_slices_IndexFunc_int_int_b0 (x0 : AV) (x1 : AV) (t7 : AV) (q4 : AV) (q8 : AV) (h0 : Heap) : OutV :=
  (binP .lss q8 t7).bind fun t9 =>
  condE t9 (
  (iaS 1 x0 q8).bind fun t14 =>
  (ldS h0 t14).bind fun t15 =>
  clF (lookT T12) (cvP x1 [t15]) h0 fun t16 h1 =>
  condE t16 (
  some (.ret, [q8, q8], h1)) (
  (binP .add q8 (AV.int .i64 1)).bind fun t18 =>
  some (.normal, [q4, t18], h1))) (
  some ((.exit 0), [q4, q8], h0))
def k_slices_IndexFunc_int_int_L0 (x0 : AV) (x1 : AV) (t7 : AV) (q4 : AV) (q8 : AV) (h0 : Heap) : OutV := loopN (fun us g => k_slices_IndexFunc_int_int_b0 x0 x1 t7 (us.getD 0 .bot) (us.getD 1 .bot) g) [q4, q8] h0
def k_slices_IndexFunc_int_int (x0 : AV) (x1 : AV) (h : Heap) : Option (AV × Heap) :=
  (lnL x0).bind fun t7 =>
  lp (k_slices_IndexFunc_int_int_L0 x0 x1 t7 (AV.int .i64 0) (AV.int .i64 0) h) fun e vs h2 =>
  thenK (if e = .exit 0 then .normal else e) (
  some ((AV.int .i64 (-1)), h2)) (fun e_3 => endE e_3 (some ((vs.getD 0 .bot), h2)))
def T13 : Tab := (66, p2 k_slices_IndexFunc_int_int) :: T12
/- 50: slices.DeleteFunc[[]int,int] -/
def k_slices_DeleteFunc_int_int_b0 (x0 : AV) (x1 : AV) (q5 : AV) (q6 : AV) (h1 : Heap) : OutV :=
  (lnL x0).bind fun t18 =>
  (binP .lss q6 t18).bind fun t19 =>
  condE t19 (
  (iaS 1 x0 q6).bind fun t24 =>
  (ldS h1 t24).bind fun t25 =>
  clF (lookT T13) (cvP x1 [t25]) h1 fun t28 h4 =>
  (unA .not t28).bind fun t29 =>
  condE t29 (
  (iaS 1 x0 q5).bind fun t33 =>
  cl (stP 1 h4 t33 t25) fun u h14 =>
  (binP .add q5 (AV.int .i64 1)).bind fun t35 =>
  (binP .add q6 (AV.int .i64 1)).bind fun t21_15 =>
  some (.normal, [t35, t21_15], h14)) (
  (binP .add q6 (AV.int .i64 1)).bind fun t21_16 =>
  some (.normal, [q5, t21_16], h4))) (
  some ((.exit 0), [q5, q6], h1))
def k_slices_DeleteFunc_int_int_L0 (x0 : AV) (x1 : AV) (q5 : AV) (q6 : AV) (h1 : Heap) : OutV := loopN (fun us g => k_slices_DeleteFunc_int_int_b0 x0 x1 (us.getD 0 .bot) (us.getD 1 .bot) g) [q5, q6] h1
def k_slices_DeleteFunc_int_int (x0 : AV) (x1 : AV) (h : Heap) : Option (AV × Heap) :=
  cl (k_slices_IndexFunc_int_int x0 x1 h) fun t10 h0 =>
  (eqP (some (.int .i64)) none false .eql t10 (AV.int .i64 (-1))).bind fun t12 =>
  condE t12 (
  some (x0, h0)) (
  (binP .add t10 (AV.int .i64 1)).bind fun t15 =>
  lp (k_slices_DeleteFunc_int_int_L0 x0 x1 t10 t15 h0) fun e vs h17 =>
  thenK (if e = .exit 0 then .normal else e) (
  (slcP 1 x0 (some (vs.getD 0 .bot)) none none).bind fun t38 =>
  cl (clL 1 [(AV.int .i64 0)] h17 t38) fun u_18 h19 =>
  (slcP 1 x0 none (some (vs.getD 0 .bot)) none).bind fun t41 =>
  some (t41, h19)) (fun e_20 => endE e_20 (some ((AV.sl none 0 (.ex 0)), h17))))
def T14 : Tab := (50, p2 k_slices_DeleteFunc_int_int) :: T13
/- 89: math/bits.Len32 -/
def k_mbits_Len32_j0 (q0_1 : AV) (q2_2 : AV) (h3 : Heap) : Option (AV × Heap) :=
  (cvI .u8 q0_1).bind fun t15 =>
  (ixStr (AV.str [0, 1, 2, 2, 3, 3, 3, 3, 4, 4, 4, 4, 4, 4, 4, 4, 5, 5, 5, 5, 5, 5, 5, 5, 5, 5, 5, 5, 5, 5, 5, 5, 6, 6, 6, 6, 6, 6, 6, 6, 6, 6, 6, 6, 6, 6, 6, 6, 6, 6, 6, 6, 6, 6, 6, 6, 6, 6, 6, 6, 6, 6, 6, 6, 7, 7, 7, 7, 7, 7, 7, 7, 7, 7, 7, 7, 7, 7, 7, 7, 7, 7, 7, 7, 7, 7, 7, 7, 7, 7, 7, 7, 7, 7, 7, 7, 7, 7, 7, 7, 7, 7, 7, 7, 7, 7, 7, 7, 7, 7, 7, 7, 7, 7, 7, 7, 7, 7, 7, 7, 7, 7, 7, 7, 7, 7, 7, 7, 8, 8, 8, 8, 8, 8, 8, 8, 8, 8, 8, 8, 8, 8, 8, 8, 8, 8, 8, 8, 8, 8, 8, 8, 8, 8, 8, 8, 8, 8, 8, 8, 8, 8, 8, 8, 8, 8, 8, 8, 8, 8, 8, 8, 8, 8, 8, 8, 8, 8, 8, 8, 8, 8, 8, 8, 8, 8, 8, 8, 8, 8, 8, 8, 8, 8, 8, 8, 8, 8, 8, 8, 8, 8, 8, 8, 8, 8, 8, 8, 8, 8, 8, 8, 8, 8, 8, 8, 8, 8, 8, 8, 8, 8, 8, 8, 8, 8, 8, 8, 8, 8, 8, 8, 8, 8, 8, 8, 8, 8, 8, 8, 8, 8, 8, 8, 8, 8, 8, 8, 8, 8, 8, 8, 8, 8, 8, 8]) t15).bind fun t16 =>
  (cvI .i64 t16).bind fun t17 =>
  (binP .add q2_2 t17).bind fun t18 =>
  some (t18, h3)
def k_mbits_Len32_j1 (q0 : AV) (q2 : AV) (h0 : Heap) : Option (AV × Heap) :=
  (binP .geq q0 (AV.int .u32 256)).bind fun t8 =>
  condE t8 (
  (binP .shr q0 (AV.int .u64 8)).bind fun t10 =>
  (binP .add q2 (AV.int .i64 8)).bind fun t12 =>
  k_mbits_Len32_j0 t10 t12 h0) (
  k_mbits_Len32_j0 q0 q2 h0)
def k_mbits_Len32 (x0 : AV) (h : Heap) : Option (AV × Heap) :=
  (binP .geq x0 (AV.int .u32 65536)).bind fun t4 =>
  condE t4 (
  (binP .shr x0 (AV.int .u64 16)).bind fun t6 =>
  k_mbits_Len32_j1 t6 (AV.int .i64 16) h) (
  k_mbits_Len32_j1 x0 (AV.int .i64 0) h)
def T15 : Tab := (89, p1 k_mbits_Len32) :: T14
/- 90: math/bits.Len64 -/
def k_mbits_Len64_j0 (q0_4 : AV) (q2_5 : AV) (h6 : Heap) : Option (AV × Heap) :=
  (cvI .u8 q0_4).bind fun t21 =>
  (ixStr (AV.str [0, 1, 2, 2, 3, 3, 3, 3, 4, 4, 4, 4, 4, 4, 4, 4, 5, 5, 5, 5, 5, 5, 5, 5, 5, 5, 5, 5, 5, 5, 5, 5, 6, 6, 6, 6, 6, 6, 6, 6, 6, 6, 6, 6, 6, 6, 6, 6, 6, 6, 6, 6, 6, 6, 6, 6, 6, 6, 6, 6, 6, 6, 6, 6, 7, 7, 7, 7, 7, 7, 7, 7, 7, 7, 7, 7, 7, 7, 7, 7, 7, 7, 7, 7, 7, 7, 7, 7, 7, 7, 7, 7, 7, 7, 7, 7, 7, 7, 7, 7, 7, 7, 7, 7, 7, 7, 7, 7, 7, 7, 7, 7, 7, 7, 7, 7, 7, 7, 7, 7, 7, 7, 7, 7, 7, 7, 7, 7, 8, 8, 8, 8, 8, 8, 8, 8, 8, 8, 8, 8, 8, 8, 8, 8, 8, 8, 8, 8, 8, 8, 8, 8, 8, 8, 8, 8, 8, 8, 8, 8, 8, 8, 8, 8, 8, 8, 8, 8, 8, 8, 8, 8, 8, 8, 8, 8, 8, 8, 8, 8, 8, 8, 8, 8, 8, 8, 8, 8, 8, 8, 8, 8, 8, 8, 8, 8, 8, 8, 8, 8, 8, 8, 8, 8, 8, 8, 8, 8, 8, 8, 8, 8, 8, 8, 8, 8, 8, 8, 8, 8, 8, 8, 8, 8, 8, 8, 8, 8, 8, 8, 8, 8, 8, 8, 8, 8, 8, 8, 8, 8, 8, 8, 8, 8, 8, 8, 8, 8, 8, 8, 8, 8, 8, 8, 8, 8]) t21).bind fun t22 =>
  (cvI .i64 t22).bind fun t23 =>
  (binP .add q2_5 t23).bind fun t24 =>
  some (t24, h6)
def k_mbits_Len64_j1 (q0_1 : AV) (q2_2 : AV) (h3 : Heap) : Option (AV × Heap) :=
  (binP .geq q0_1 (AV.int .u64 256)).bind fun t14 =>
  condE t14 (
  (binP .shr q0_1 (AV.int .u64 8)).bind fun t16 =>
  (binP .add q2_2 (AV.int .i64 8)).bind fun t18 =>
  k_mbits_Len64_j0 t16 t18 h3) (
  k_mbits_Len64_j0 q0_1 q2_2 h3)
def k_mbits_Len64_j2 (q0 : AV) (q2 : AV) (h0 : Heap) : Option (AV × Heap) :=
  (binP .geq q0 (AV.int .u64 65536)).bind fun t8 =>
  condE t8 (
  (binP .shr q0 (AV.int .u64 16)).bind fun t10 =>
  (binP .add q2 (AV.int .i64 16)).bind fun t12 =>
  k_mbits_Len64_j1 t10 t12 h0) (
  k_mbits_Len64_j1 q0 q2 h0)
def k_mbits_Len64 (x0 : AV) (h : Heap) : Option (AV × Heap) :=
  (binP .geq x0 (AV.int .u64 4294967296)).bind fun t4 =>
  condE t4 (
  (binP .shr x0 (AV.int .u64 32)).bind fun t6 =>
  k_mbits_Len64_j2 t6 (AV.int .i64 32) h) (
  k_mbits_Len64_j2 x0 (AV.int .i64 0) h)
def T16 : Tab := (90, p1 k_mbits_Len64) :: T15
/- 68: math/bits.Len -/
def k_mbits_Len (x0 : AV) (h : Heap) : Option (AV × Heap) :=
  condE (AV.bool false) (
  (cvI .u32 x0).bind fun t4 =>
  cl (k_mbits_Len32 t4 h) fun t5 h0 =>
  some (t5, h0)) (
  cl (k_mbits_Len64 x0 h) fun t7 h1 =>
  some (t7, h1))
def T17 : Tab := (68, p1 k_mbits_Len) :: T16
/- 109: cmp.isNaN[int] -/
def k_cmp_isNaN_int (x0 : AV) (h : Heap) : Option (AV × Heap) :=
  (eqP (some (.int .i64)) none false .neq x0 x0).bind fun t5 =>
  some (t5, h)
def T18 : Tab := (109, p1 k_cmp_isNaN_int) :: T17
/- 86: cmp.Less[int] -/
def k_cmp_Less_int (x0 : AV) (x1 : AV) (h : Heap) : Option (AV × Heap) :=
  cl (k_cmp_isNaN_int x0 h) fun t6 h0 =>
  gQ (gdW t6 true) h0 (some (x1, h0)) fun t8 h1 =>
  gQ (gdW t6 true) h1 (cl (k_cmp_isNaN_int t8 h1) fun t9 h2 =>
  some (t9, h2)) fun t9_3 h4 =>
  gQ (gdW t6 true) h4 ((unA .not t9_3).bind fun t10 =>
  some (t10, h4)) fun t10_5 h6 =>
  (pickP t6 t10_5 (AV.bool false)).bind fun t11 =>
  gQ (gdW t11 false) h6 (some (x0, h6)) fun t13 h7 =>
  gQ (gdW t11 false) h7 (some (x1, h7)) fun t14 h8 =>
  gQ (gdW t11 false) h8 ((binP .lss t13 t14).bind fun t15 =>
  some (t15, h8)) fun t15_9 h10 =>
  (pickP t11 (AV.bool true) t15_9).bind fun t16 =>
  some (t16, h10)
def T19 : Tab := (86, p2 k_cmp_Less_int) :: T18
/- 80: slices.insertionSortOrdered[int] -/
def k_slices_insertionSortOrdered_int_b0 (x0 : AV) (x1 : AV) (q7 : AV) (h1 : Heap) : OutV :=
  (binP .gtr q7 x1).bind fun t18 =>
  (gV (gdW t18 true) (some x0) (.tup [])).bind fun t20 =>
  (gV (gdW t18 true) (some q7) (.tup [])).bind fun t21 =>
  (gV (gdW t18 true) (iaS 1 t20 t21) (.tup [])).bind fun t22 =>
  (gV (gdW t18 true) (ldS h1 t22) (.tup [])).bind fun t23 =>
  (gV (gdW t18 true) (some x0) (.tup [])).bind fun t24 =>
  (gV (gdW t18 true) (some q7) (.tup [])).bind fun t25 =>
  (gV (gdW t18 true) (binP .sub t25 (AV.int .i64 1)) (.tup [])).bind fun t26 =>
  (gV (gdW t18 true) (iaS 1 t24 t26) (.tup [])).bind fun t27 =>
  (gV (gdW t18 true) (ldS h1 t27) (.tup [])).bind fun t28 =>
  gQ (gdW t18 true) h1 (cl (k_cmp_Less_int t23 t28 h1) fun t29 h2 =>
  some (t29, h2)) fun t29_3 h4 =>
  (pickP t18 t29_3 (AV.bool false)).bind fun t30 =>
  chk [h1, h4] [] (
  condE t30 (
  (binP .sub q7 (AV.int .i64 1)).bind fun t37 =>
  (binP .sub q7 (AV.int .i64 1)).bind fun t40 =>
  (iaS 1 x0 t40).bind fun t41 =>
  (ldS h4 t41).bind fun t42 =>
  (iaS 1 x0 q7).bind fun t45 =>
  (ldS h4 t45).bind fun t46 =>
  (iaS 1 x0 q7).bind fun t47 =>
  cl (stP 1 h4 t47 t42) fun u h5 =>
  (iaS 1 x0 t37).bind fun t48 =>
  cl (stP 1 h5 t48 t46) fun u_6 h7 =>
  chk [h4, h5, h7] [] (
  (binP .sub q7 (AV.int .i64 1)).bind fun t32 =>
  some (.normal, [t32], h7))) (
  some ((.exit 2), [q7], h4)))
def k_slices_insertionSortOrdered_int_L0 (x0 : AV) (x1 : AV) (q7 : AV) (h1 : Heap) : OutV := loopN (fun us g => k_slices_insertionSortOrdered_int_b0 x0 x1 (us.getD 0 .bot) g) [q7] h1
def k_slices_insertionSortOrdered_int_b1 (x0 : AV) (x1 : AV) (x2 : AV) (q6 : AV) (h0 : Heap) : OutV :=
  (binP .lss q6 x2).bind fun t12 =>
  condE t12 (
  lp (k_slices_insertionSortOrdered_int_L0 x0 x1 q6 h0) fun e vs h8 =>
  thenK (if (if e = .exit 2 then .normal else e) = .exit 1 then .normal else (if e = .exit 2 then .normal else e)) (
  (binP .add q6 (AV.int .i64 1)).bind fun t14 =>
  some (.normal, [t14], h8)) (fun e_9 => some (e_9, [q6], h8))) (
  some ((.exit 0), [q6], h0))
def k_slices_insertionSortOrdered_int_L1 (x0 : AV) (x1 : AV) (x2 : AV) (q6 : AV) (h0 : Heap) : OutV := loopN (fun us g => k_slices_insertionSortOrdered_int_b1 x0 x1 x2 (us.getD 0 .bot) g) [q6] h0
def k_slices_insertionSortOrdered_int (x0 : AV) (x1 : AV) (x2 : AV) (h : Heap) : Option (AV × Heap) :=
  (binP .add x1 (AV.int .i64 1)).bind fun t9 =>
  lp (k_slices_insertionSortOrdered_int_L1 x0 x1 x2 t9 h) fun e_10 vs_11 h12 =>
  endE (if e_10 = .exit 0 then .normal else e_10) (some (AV.tup [], h12))
def T20 : Tab := (80, p3 k_slices_insertionSortOrdered_int) :: T19
/- 104: slices.siftDownOrdered[int] -/
def k_slices_siftDownOrdered_int_j0 (x0 : AV) (x3 : AV) (q8 : AV) (q9 : AV) (h4 : Heap) : OutV :=
  (binP .add x3 q8).bind fun t42 =>
  (iaS 1 x0 t42).bind fun t43 =>
  (ldS h4 t43).bind fun t44 =>
  (binP .add x3 q9).bind fun t48 =>
  (iaS 1 x0 t48).bind fun t49 =>
  (ldS h4 t49).bind fun t50 =>
  cl (k_cmp_Less_int t44 t50 h4) fun t51 h5 =>
  (unA .not t51).bind fun t52 =>
  chk [h4, h5] [] (
  condE t52 (
  some (.ret, [q8], h5)) (
  (binP .add x3 q8).bind fun t56 =>
  (binP .add x3 q9).bind fun t60 =>
  (binP .add x3 q9).bind fun t64 =>
  (iaS 1 x0 t64).bind fun t65 =>
  (ldS h5 t65).bind fun t66 =>
  (binP .add x3 q8).bind fun t70 =>
  (iaS 1 x0 t70).bind fun t71 =>
  (ldS h5 t71).bind fun t72 =>
  (iaS 1 x0 t56).bind fun t73 =>
  cl (stP 1 h5 t73 t66) fun u h6 =>
  (iaS 1 x0 t60).bind fun t74 =>
  cl (stP 1 h6 t74 t72) fun u_7 h8 =>
  chk [h5, h6, h8] [] (
  some (.normal, [q9], h8))))
def k_slices_siftDownOrdered_int_b0 (x0 : AV) (x2 : AV) (x3 : AV) (q8 : AV) (h0 : Heap) : OutV :=
  (binP .mul (AV.int .i64 2) q8).bind fun t12 =>
  (binP .add t12 (AV.int .i64 1)).bind fun t13 =>
  (binP .geq t13 x2).bind fun t16 =>
  condE t16 (
  some ((.exit 0), [q8], h0)) (
  (binP .add t13 (AV.int .i64 1)).bind fun t18 =>
  (binP .lss t18 x2).bind fun t20 =>
  (gV (gdW t20 true) (some x0) (.tup [])).bind fun t22 =>
  (gV (gdW t20 true) (some x3) (.tup [])).bind fun t23 =>
  (gV (gdW t20 true) (some t13) (.tup [])).bind fun t24 =>
  (gV (gdW t20 true) (binP .add t23 t24) (.tup [])).bind fun t25 =>
  (gV (gdW t20 true) (iaS 1 t22 t25) (.tup [])).bind fun t26 =>
  (gV (gdW t20 true) (ldS h0 t26) (.tup [])).bind fun t27 =>
  (gV (gdW t20 true) (some x0) (.tup [])).bind fun t28 =>
  (gV (gdW t20 true) (some x3) (.tup [])).bind fun t29 =>
  (gV (gdW t20 true) (some t13) (.tup [])).bind fun t30 =>
  (gV (gdW t20 true) (binP .add t29 t30) (.tup [])).bind fun t31 =>
  (gV (gdW t20 true) (binP .add t31 (AV.int .i64 1)) (.tup [])).bind fun t32 =>
  (gV (gdW t20 true) (iaS 1 t28 t32) (.tup [])).bind fun t33 =>
  (gV (gdW t20 true) (ldS h0 t33) (.tup [])).bind fun t34 =>
  gQ (gdW t20 true) h0 (cl (k_cmp_Less_int t27 t34 h0) fun t35 h1 =>
  some (t35, h1)) fun t35_2 h3 =>
  (pickP t20 t35_2 (AV.bool false)).bind fun t36 =>
  chk [h0, h3] [] (
  condE t36 (
  (binP .add t13 (AV.int .i64 1)).bind fun t38 =>
  k_slices_siftDownOrdered_int_j0 x0 x3 q8 t38 h3) (
  k_slices_siftDownOrdered_int_j0 x0 x3 q8 t13 h3)))
def k_slices_siftDownOrdered_int_L0 (x0 : AV) (x2 : AV) (x3 : AV) (q8 : AV) (h0 : Heap) : OutV := loopN (fun us g => k_slices_siftDownOrdered_int_b0 x0 x2 x3 (us.getD 0 .bot) g) [q8] h0
def k_slices_siftDownOrdered_int (x0 : AV) (x1 : AV) (x2 : AV) (x3 : AV) (h : Heap) : Option (AV × Heap) :=
  lp (k_slices_siftDownOrdered_int_L0 x0 x2 x3 x1 h) fun e vs h9 =>
  endE (if e = .exit 0 then .normal else e) (some (AV.tup [], h9))
def T21 : Tab := (104, p4 k_slices_siftDownOrdered_int) :: T20
/- 81: slices.heapSortOrdered[int] -/
def k_slices_heapSortOrdered_int_b0 (x0 : AV) (x1 : AV) (t14 : AV) (q9 : AV) (h0 : Heap) : OutV :=
  (binP .geq q9 (AV.int .i64 0)).bind fun t19 =>
  condE t19 (
  cl (k_slices_siftDownOrdered_int x0 q9 t14 x1 h0) fun t26 h1 =>
  (binP .sub q9 (AV.int .i64 1)).bind fun t21 =>
  some (.normal, [t21], h1)) (
  some ((.exit 0), [q9], h0))
def k_slices_heapSortOrdered_int_L0 (x0 : AV) (x1 : AV) (t14 : AV) (q9 : AV) (h0 : Heap) : OutV := loopN (fun us g => k_slices_heapSortOrdered_int_b0 x0 x1 t14 (us.getD 0 .bot) g) [q9] h0
def k_slices_heapSortOrdered_int_b1 (x0 : AV) (x1 : AV) (q10 : AV) (h3 : Heap) : OutV :=
  (binP .geq q10 (AV.int .i64 0)).bind fun t30 =>
  condE t30 (
  (binP .add x1 q10).bind fun t38 =>
  (binP .add x1 q10).bind fun t42 =>
  (iaS 1 x0 t42).bind fun t43 =>
  (ldS h3 t43).bind fun t44 =>
  (iaS 1 x0 x1).bind fun t47 =>
  (ldS h3 t47).bind fun t48 =>
  (iaS 1 x0 x1).bind fun t49 =>
  cl (stP 1 h3 t49 t44) fun u h4 =>
  (iaS 1 x0 t38).bind fun t50 =>
  cl (stP 1 h4 t50 t48) fun u_5 h6 =>
  chk [h3, h4, h6] [] (
  cl (k_slices_siftDownOrdered_int x0 (AV.int .i64 0) q10 x1 h6) fun t55 h7 =>
  (binP .sub q10 (AV.int .i64 1)).bind fun t32 =>
  some (.normal, [t32], h7))) (
  some ((.exit 2), [q10], h3))
def k_slices_heapSortOrdered_int_L1 (x0 : AV) (x1 : AV) (q10 : AV) (h3 : Heap) : OutV := loopN (fun us g => k_slices_heapSortOrdered_int_b1 x0 x1 (us.getD 0 .bot) g) [q10] h3
def k_slices_heapSortOrdered_int (x0 : AV) (x1 : AV) (x2 : AV) (h : Heap) : Option (AV × Heap) :=
  (binP .sub x2 x1).bind fun t14 =>
  (binP .sub t14 (AV.int .i64 1)).bind fun t16 =>
  (binP .quo t16 (AV.int .i64 2)).bind fun t17 =>
  lp (k_slices_heapSortOrdered_int_L0 x0 x1 t14 t17 h) fun e vs h2 =>
  thenK (if e = .exit 0 then .normal else e) (
  (binP .sub t14 (AV.int .i64 1)).bind fun t28 =>
  lp (k_slices_heapSortOrdered_int_L1 x0 x1 t28 h2) fun e_8 vs_9 h10 =>
  endE (if e_8 = .exit 2 then .normal else e_8) (some (AV.tup [], h10))) (fun e_11 => endE e_11 (some (AV.tup [], h2)))
def T22 : Tab := (81, p3 k_slices_heapSortOrdered_int) :: T21
/- 105: slices.nextPowerOfTwo -/
def k_slices_nextPowerOfTwo (x0 : AV) (h : Heap) : Option (AV × Heap) :=
  (cvI .u64 x0).bind fun t4 =>
  cl (k_mbits_Len t4 h) fun t5 h0 =>
  (binP .shl (AV.int .u64 1) t5).bind fun t6 =>
  some (t6, h0)
def T23 : Tab := (105, p1 k_slices_nextPowerOfTwo) :: T22
/- 106: (*slices.xorshift).Next -/
def k_slices_xorshift_Next (x0 : AV) (h : Heap) : Option (AV × Heap) :=
  (nilV x0).bind fun t4 =>
  (ldS h t4).bind fun t5 =>
  (nilV x0).bind fun t7 =>
  (ldS h t7).bind fun t8 =>
  (binP .shl t8 (AV.int .u64 13)).bind fun t9 =>
  (binP .xor t5 t9).bind fun t10 =>
  (nilV x0).bind fun t11 =>
  cl (stP 1 h t11 t10) fun u h0 =>
  chk [h, h0] [] (
  (nilV x0).bind fun t13 =>
  (ldS h0 t13).bind fun t14 =>
  (nilV x0).bind fun t16 =>
  (ldS h0 t16).bind fun t17 =>
  (binP .shr t17 (AV.int .u64 7)).bind fun t18 =>
  (binP .xor t14 t18).bind fun t19 =>
  (nilV x0).bind fun t20 =>
  cl (stP 1 h0 t20 t19) fun u_1 h2 =>
  chk [h0, h2] [] (
  (nilV x0).bind fun t22 =>
  (ldS h2 t22).bind fun t23 =>
  (nilV x0).bind fun t25 =>
  (ldS h2 t25).bind fun t26 =>
  (binP .shl t26 (AV.int .u64 17)).bind fun t27 =>
  (binP .xor t23 t27).bind fun t28 =>
  (nilV x0).bind fun t29 =>
  cl (stP 1 h2 t29 t28) fun u_3 h4 =>
  chk [h2, h4] [] (
  (nilV x0).bind fun t31 =>
  (ldS h4 t31).bind fun t32 =>
  some (t32, h4))))
def T24 : Tab := (106, p1 k_slices_xorshift_Next) :: T23
/- 82: slices.breakPatternsOrdered[int] -/
def k_slices_breakPatternsOrdered_int_j0 (x0 : AV) (x1 : AV) (q9_4 : AV) (q10_10 : AV) (h11 : Heap) : OutV :=
  (binP .add x1 q10_10).bind fun t52 =>
  (binP .add x1 q10_10).bind fun t56 =>
  (iaS 1 x0 t56).bind fun t57 =>
  (ldS h11 t57).bind fun t58 =>
  (iaS 1 x0 q9_4).bind fun t61 =>
  (ldS h11 t61).bind fun t62 =>
  (iaS 1 x0 q9_4).bind fun t63 =>
  cl (stP 1 h11 t63 t58) fun u_12 h13 =>
  (iaS 1 x0 t52).bind fun t64 =>
  cl (stP 1 h13 t64 t62) fun u_14 h15 =>
  chk [h11, h13, h15] [] (
  (binP .add q9_4 (AV.int .i64 1)).bind fun t35 =>
  some (.normal, [t35], h15))
def k_slices_breakPatternsOrdered_int_b0 (x0 : AV) (x1 : AV) (t13 : AV) (t7 : AV) (t19 : AV) (q9_4 : AV) (h5 : Heap) : OutV :=
  (binP .quo t13 (AV.int .i64 4)).bind fun t29 =>
  (binP .mul t29 (AV.int .i64 2)).bind fun t30 =>
  (binP .add x1 t30).bind fun t31 =>
  (binP .add t31 (AV.int .i64 1)).bind fun t32 =>
  (binP .leq q9_4 t32).bind fun t33 =>
  condE t33 (
  cl (k_slices_xorshift_Next t7 h5) fun t36 h6 =>
  (binP .sub t19 (AV.int .u64 1)).bind fun t38 =>
  (binP .and t36 t38).bind fun t39 =>
  (cvI .i64 t39).bind fun t40 =>
  (binP .geq t40 t13).bind fun t43 =>
  condE t43 (
  (binP .sub t40 t13).bind fun t46 =>
  k_slices_breakPatternsOrdered_int_j0 x0 x1 q9_4 t46 h6) (
  k_slices_breakPatternsOrdered_int_j0 x0 x1 q9_4 t40 h6)) (
  some ((.exit 0), [q9_4], h5))
def k_slices_breakPatternsOrdered_int_L0 (x0 : AV) (x1 : AV) (t13 : AV) (t7 : AV) (t19 : AV) (q9_4 : AV) (h5 : Heap) : OutV := loopN (fun us g => k_slices_breakPatternsOrdered_int_b0 x0 x1 t13 t7 t19 (us.getD 0 .bot) g) [q9_4] h5
def k_slices_breakPatternsOrdered_int (x0 : AV) (x1 : AV) (x2 : AV) (h : Heap) : Option (AV × Heap) :=
  (binP .sub x2 x1).bind fun t13 =>
  (binP .geq t13 (AV.int .i64 8)).bind fun t15 =>
  condE t15 (
  (cvI .u64 t13).bind fun t17 =>
  mk (some (Blk.cells true [(AV.int .u64 0)], fun i => AV.ptr (some (i, 0)))) h fun t7 h1 =>
  cl (stP 1 h1 t7 t17) fun u h2 =>
  cl (k_slices_nextPowerOfTwo t13 h2) fun t19 h3 =>
  (binP .quo t13 (AV.int .i64 4)).bind fun t22 =>
  (binP .mul t22 (AV.int .i64 2)).bind fun t23 =>
  (binP .add x1 t23).bind fun t24 =>
  (binP .sub t24 (AV.int .i64 1)).bind fun t25 =>
  lp (k_slices_breakPatternsOrdered_int_L0 x0 x1 t13 t7 t19 t25 h3) fun e vs h16 =>
  endE (if e = .exit 0 then .normal else e) (some (AV.tup [], h16))) (
  some (AV.tup [], h))
def T25 : Tab := (82, p3 k_slices_breakPatternsOrdered_int) :: T24
/- 128: slices.order2Ordered[int] -/
def k_slices_order2Ordered_int (x0 : AV) (x1 : AV) (x2 : AV) (x3 : AV) (h : Heap) : Option (AV × Heap) :=
  (iaS 1 x0 x2).bind fun t12 =>
  (ldS h t12).bind fun t13 =>
  (iaS 1 x0 x1).bind fun t16 =>
  (ldS h t16).bind fun t17 =>
  cl (k_cmp_Less_int t13 t17 h) fun t18 h0 =>
  chk [h, h0] [] (
  condE t18 (
  (nilV x3).bind fun t20 =>
  (ldS h0 t20).bind fun t21 =>
  (binP .add t21 (AV.int .i64 1)).bind fun t22 =>
  (nilV x3).bind fun t23 =>
  cl (stP 1 h0 t23 t22) fun u h1 =>
  some (AV.tup [x2, x1], h1)) (
  some (AV.tup [x1, x2], h0)))
def T26 : Tab := (128, p4 k_slices_order2Ordered_int) :: T25
/- 108: slices.medianOrdered[int] -/
def k_slices_medianOrdered_int (x0 : AV) (x1 : AV) (x2 : AV) (x3 : AV) (x4 : AV) (h : Heap) : Option (AV × Heap) :=
  cl (k_slices_order2Ordered_int x0 x1 x2 x4 h) fun t16 h0 =>
  (extractV 0 t16).bind fun t17 =>
  (extractV 1 t16).bind fun t18 =>
  cl (k_slices_order2Ordered_int x0 t18 x3 x4 h0) fun t24 h1 =>
  (extractV 0 t24).bind fun t25 =>
  (extractV 1 t24).bind fun t26 =>
  cl (k_slices_order2Ordered_int x0 t17 t25 x4 h1) fun t32 h2 =>
  (extractV 0 t32).bind fun t33 =>
  (extractV 1 t32).bind fun t34 =>
  some (t34, h2)
def T27 : Tab := (108, p5 k_slices_medianOrdered_int) :: T26
/- 107: slices.medianAdjacentOrdered[int] -/
def k_slices_medianAdjacentOrdered_int (x0 : AV) (x1 : AV) (x2 : AV) (h : Heap) : Option (AV × Heap) :=
  (binP .sub x1 (AV.int .i64 1)).bind fun t9 =>
  (binP .add x1 (AV.int .i64 1)).bind fun t12 =>
  cl (k_slices_medianOrdered_int x0 t9 x1 t12 x2 h) fun t14 h0 =>
  some (t14, h0)
def T28 : Tab := (107, p3 k_slices_medianAdjacentOrdered_int) :: T27
/- 83: slices.choosePivotOrdered[int] -/
def k_slices_choosePivotOrdered_int_j0 (t9 : AV) (q11 : AV) (h1 : Heap) : Option (AV × Heap) :=
  (ldS h1 t9).bind fun t49 =>
  (eqP (some (.int .i64)) none false .eql t49 (AV.int .i64 0)).bind fun t52 =>
  condE t52 (
  some (AV.tup [q11, (AV.int .i64 1)], h1)) (
  (eqP (some (.int .i64)) none false .eql t49 (AV.int .i64 12)).bind fun t55 =>
  condE t55 (
  some (AV.tup [q11, (AV.int .i64 2)], h1)) (
  some (AV.tup [q11, (AV.int .i64 0)], h1)))
def k_slices_choosePivotOrdered_int_j1 (x0 : AV) (t9 : AV) (q10_5 : AV) (q11_9 : AV) (q12_13 : AV) (h14 : Heap) : Option (AV × Heap) :=
  cl (k_slices_medianOrdered_int x0 q10_5 q11_9 q12_13 t9 h14) fun t48 h15 =>
  k_slices_choosePivotOrdered_int_j0 t9 t48 h15
def k_slices_choosePivotOrdered_int (x0 : AV) (x1 : AV) (x2 : AV) (h : Heap) : Option (AV × Heap) :=
  (binP .sub x2 x1).bind fun t15 =>
  mk (some (Blk.cells true [(AV.int .i64 0)], fun i => AV.ptr (some (i, 0)))) h fun t9 h0 =>
  (binP .quo t15 (AV.int .i64 4)).bind fun t18 =>
  (binP .mul t18 (AV.int .i64 1)).bind fun t19 =>
  (binP .add x1 t19).bind fun t20 =>
  (binP .quo t15 (AV.int .i64 4)).bind fun t23 =>
  (binP .mul t23 (AV.int .i64 2)).bind fun t24 =>
  (binP .add x1 t24).bind fun t25 =>
  (binP .quo t15 (AV.int .i64 4)).bind fun t28 =>
  (binP .mul t28 (AV.int .i64 3)).bind fun t29 =>
  (binP .add x1 t29).bind fun t30 =>
  (binP .geq t15 (AV.int .i64 8)).bind fun t32 =>
  condE t32 (
  (binP .geq t15 (AV.int .i64 50)).bind fun t34 =>
  condE t34 (
  cl (k_slices_medianAdjacentOrdered_int x0 t20 t9 h0) fun t37 h16 =>
  cl (k_slices_medianAdjacentOrdered_int x0 t25 t9 h16) fun t40 h17 =>
  cl (k_slices_medianAdjacentOrdered_int x0 t30 t9 h17) fun t43 h18 =>
  k_slices_choosePivotOrdered_int_j1 x0 t9 t37 t40 t43 h18) (
  k_slices_choosePivotOrdered_int_j1 x0 t9 t20 t25 t30 h0)) (
  k_slices_choosePivotOrdered_int_j0 t9 t25 h0)
def T29 : Tab := (83, p3 k_slices_choosePivotOrdered_int) :: T28
/- 84: slices.reverseRangeOrdered[int] -/
def k_slices_reverseRangeOrdered_int_b0 (x0 : AV) (q6 : AV) (q7 : AV) (h0 : Heap) : OutV :=
  (binP .lss q6 q7).bind fun t13 =>
  condE t13 (
  (iaS 1 x0 q7).bind fun t20 =>
  (ldS h0 t20).bind fun t21 =>
  (iaS 1 x0 q6).bind fun t24 =>
  (ldS h0 t24).bind fun t25 =>
  (iaS 1 x0 q6).bind fun t26 =>
  cl (stP 1 h0 t26 t21) fun u h1 =>
  (iaS 1 x0 q7).bind fun t27 =>
  cl (stP 1 h1 t27 t25) fun u_2 h3 =>
  chk [h0, h1, h3] [] (
  (binP .add q6 (AV.int .i64 1)).bind fun t29 =>
  (binP .sub q7 (AV.int .i64 1)).bind fun t31 =>
  some (.normal, [t29, t31], h3))) (
  some ((.exit 0), [q6, q7], h0))
def k_slices_reverseRangeOrdered_int_L0 (x0 : AV) (q6 : AV) (q7 : AV) (h0 : Heap) : OutV := loopN (fun us g => k_slices_reverseRangeOrdered_int_b0 x0 (us.getD 0 .bot) (us.getD 1 .bot) g) [q6, q7] h0
def k_slices_reverseRangeOrdered_int (x0 : AV) (x1 : AV) (x2 : AV) (h : Heap) : Option (AV × Heap) :=
  (binP .sub x2 (AV.int .i64 1)).bind fun t10 =>
  lp (k_slices_reverseRangeOrdered_int_L0 x0 x1 t10 h) fun e vs h4 =>
  endE (if e = .exit 0 then .normal else e) (some (AV.tup [], h4))
def T30 : Tab := (84, p3 k_slices_reverseRangeOrdered_int) :: T29
/- 85: slices.partialInsertionSortOrdered[int] -/
def k_slices_partialInsertionSortOrdered_int_b0 (x0 : AV) (x2 : AV) (q7_4 : AV) (h5 : Heap) : OutV :=
  (binP .lss q7_4 x2).bind fun t19 =>
  (gV (gdW t19 true) (some x0) (.tup [])).bind fun t21 =>
  (gV (gdW t19 true) (some q7_4) (.tup [])).bind fun t22 =>
  (gV (gdW t19 true) (iaS 1 t21 t22) (.tup [])).bind fun t23 =>
  (gV (gdW t19 true) (ldS h5 t23) (.tup [])).bind fun t24 =>
  (gV (gdW t19 true) (some x0) (.tup [])).bind fun t25 =>
  (gV (gdW t19 true) (some q7_4) (.tup [])).bind fun t26 =>
  (gV (gdW t19 true) (binP .sub t26 (AV.int .i64 1)) (.tup [])).bind fun t27 =>
  (gV (gdW t19 true) (iaS 1 t25 t27) (.tup [])).bind fun t28 =>
  (gV (gdW t19 true) (ldS h5 t28) (.tup [])).bind fun t29 =>
  gQ (gdW t19 true) h5 (cl (k_cmp_Less_int t24 t29 h5) fun t30 h6 =>
  some (t30, h6)) fun t30_7 h8 =>
  (gV (gdW t19 true) (unA .not t30_7) (.tup [])).bind fun t31 =>
  (pickP t19 t31 (AV.bool false)).bind fun t32 =>
  chk [h5, h8] [] (
  condE t32 (
  (binP .add q7_4 (AV.int .i64 1)).bind fun t34 =>
  some (.normal, [t34], h8)) (
  some ((.exit 2), [q7_4], h8)))
def k_slices_partialInsertionSortOrdered_int_L0 (x0 : AV) (x2 : AV) (q7_4 : AV) (h5 : Heap) : OutV := loopN (fun us g => k_slices_partialInsertionSortOrdered_int_b0 x0 x2 (us.getD 0 .bot) g) [q7_4] h5
def k_slices_partialInsertionSortOrdered_int_j0 (q6 : AV) (q8 : AV) (vs : List AV) (h83 : Heap) : OutV :=
  (binP .add q8 (AV.int .i64 1)).bind fun t16_84 =>
  some (.normal, [q6, (vs.getD 0 .bot), t16_84], h83)
def k_slices_partialInsertionSortOrdered_int_b1 (x0 : AV) (x2 : AV) (q10_119 : AV) (h120 : Heap) : OutV :=
  (binP .lss q10_119 x2).bind fun t103 =>
  condE t103 (
  (iaS 1 x0 q10_119).bind fun t108 =>
  (ldS h120 t108).bind fun t109 =>
  (binP .sub q10_119 (AV.int .i64 1)).bind fun t112 =>
  (iaS 1 x0 t112).bind fun t113 =>
  (ldS h120 t113).bind fun t114 =>
  cl (k_cmp_Less_int t109 t114 h120) fun t115 h121 =>
  (unA .not t115).bind fun t116 =>
  chk [h120, h121] [] (
  condE t116 (
  some ((.exit 6), [q10_119], h121)) (
  (binP .sub q10_119 (AV.int .i64 1)).bind fun t121 =>
  (binP .sub q10_119 (AV.int .i64 1)).bind fun t124 =>
  (iaS 1 x0 t124).bind fun t125 =>
  (ldS h121 t125).bind fun t126 =>
  (iaS 1 x0 q10_119).bind fun t129 =>
  (ldS h121 t129).bind fun t130 =>
  (iaS 1 x0 q10_119).bind fun t131 =>
  cl (stP 1 h121 t131 t126) fun u_122 h123 =>
  (iaS 1 x0 t121).bind fun t132 =>
  cl (stP 1 h123 t132 t130) fun u_124 h125 =>
  chk [h121, h123, h125] [] (
  (binP .add q10_119 (AV.int .i64 1)).bind fun t105 =>
  some (.normal, [t105], h125))))) (
  some ((.exit 6), [q10_119], h120))
def k_slices_partialInsertionSortOrdered_int_L1 (x0 : AV) (x2 : AV) (q10_119 : AV) (h120 : Heap) : OutV := loopN (fun us g => k_slices_partialInsertionSortOrdered_int_b1 x0 x2 (us.getD 0 .bot) g) [q10_119] h120
def k_slices_partialInsertionSortOrdered_int_j1 (x0 : AV) (x2 : AV) (q6 : AV) (q8 : AV) (vs : List AV) (h47 : Heap) : OutV :=
  (binP .sub x2 (vs.getD 0 .bot)).bind fun t97 =>
  (binP .geq t97 (AV.int .i64 2)).bind fun t98 =>
  condE t98 (
  (binP .add (vs.getD 0 .bot) (AV.int .i64 1)).bind fun t100 =>
  lp (k_slices_partialInsertionSortOrdered_int_L1 x0 x2 t100 h47) fun e_126 vs_127 h128 =>
  thenK (if (if e_126 = .exit 6 then .normal else e_126) = .exit 1 then .normal else (if e_126 = .exit 6 then .normal else e_126)) (
  (binP .add q8 (AV.int .i64 1)).bind fun t16_129 =>
  some (.normal, [q6, (vs.getD 0 .bot), t16_129], h128)) (fun e_130 => some (e_130, [q6, (vs.getD 0 .bot), q8], h128))) (
  k_slices_partialInsertionSortOrdered_int_j0 q6 q8 vs h47)
def k_slices_partialInsertionSortOrdered_int_b2 (x0 : AV) (q9_164 : AV) (h165 : Heap) : OutV :=
  (binP .geq q9_164 (AV.int .i64 1)).bind fun t65 =>
  condE t65 (
  (iaS 1 x0 q9_164).bind fun t70 =>
  (ldS h165 t70).bind fun t71 =>
  (binP .sub q9_164 (AV.int .i64 1)).bind fun t74 =>
  (iaS 1 x0 t74).bind fun t75 =>
  (ldS h165 t75).bind fun t76 =>
  cl (k_cmp_Less_int t71 t76 h165) fun t77 h166 =>
  (unA .not t77).bind fun t78 =>
  chk [h165, h166] [] (
  condE t78 (
  some ((.exit 4), [q9_164], h166)) (
  (binP .sub q9_164 (AV.int .i64 1)).bind fun t83 =>
  (binP .sub q9_164 (AV.int .i64 1)).bind fun t86 =>
  (iaS 1 x0 t86).bind fun t87 =>
  (ldS h166 t87).bind fun t88 =>
  (iaS 1 x0 q9_164).bind fun t91 =>
  (ldS h166 t91).bind fun t92 =>
  (iaS 1 x0 q9_164).bind fun t93 =>
  cl (stP 1 h166 t93 t88) fun u_167 h168 =>
  (iaS 1 x0 t83).bind fun t94 =>
  cl (stP 1 h168 t94 t92) fun u_169 h170 =>
  chk [h166, h168, h170] [] (
  (binP .sub q9_164 (AV.int .i64 1)).bind fun t67 =>
  some (.normal, [t67], h170))))) (
  some ((.exit 4), [q9_164], h165))
def k_slices_partialInsertionSortOrdered_int_L2 (x0 : AV) (q9_164 : AV) (h165 : Heap) : OutV := loopN (fun us g => k_slices_partialInsertionSortOrdered_int_b2 x0 (us.getD 0 .bot) g) [q9_164] h165
def k_slices_partialInsertionSortOrdered_int_j2 (q6 : AV) (q8 : AV) (vs : List AV) (h211 : Heap) : OutV :=
  (binP .add q8 (AV.int .i64 1)).bind fun t16_212 =>
  some (.normal, [q6, (vs.getD 0 .bot), t16_212], h211)
def k_slices_partialInsertionSortOrdered_int_b3 (x0 : AV) (x2 : AV) (q10_248 : AV) (h249 : Heap) : OutV :=
  (binP .lss q10_248 x2).bind fun t103_250 =>
  condE t103_250 (
  (iaS 1 x0 q10_248).bind fun t108_251 =>
  (ldS h249 t108_251).bind fun t109_252 =>
  (binP .sub q10_248 (AV.int .i64 1)).bind fun t112_253 =>
  (iaS 1 x0 t112_253).bind fun t113_254 =>
  (ldS h249 t113_254).bind fun t114_255 =>
  cl (k_cmp_Less_int t109_252 t114_255 h249) fun t115_256 h257 =>
  (unA .not t115_256).bind fun t116_258 =>
  chk [h249, h257] [] (
  condE t116_258 (
  some ((.exit 6), [q10_248], h257)) (
  (binP .sub q10_248 (AV.int .i64 1)).bind fun t121_259 =>
  (binP .sub q10_248 (AV.int .i64 1)).bind fun t124_260 =>
  (iaS 1 x0 t124_260).bind fun t125_261 =>
  (ldS h257 t125_261).bind fun t126_262 =>
  (iaS 1 x0 q10_248).bind fun t129_263 =>
  (ldS h257 t129_263).bind fun t130_264 =>
  (iaS 1 x0 q10_248).bind fun t131_265 =>
  cl (stP 1 h257 t131_265 t126_262) fun u_266 h267 =>
  (iaS 1 x0 t121_259).bind fun t132_268 =>
  cl (stP 1 h267 t132_268 t130_264) fun u_269 h270 =>
  chk [h257, h267, h270] [] (
  (binP .add q10_248 (AV.int .i64 1)).bind fun t105_271 =>
  some (.normal, [t105_271], h270))))) (
  some ((.exit 6), [q10_248], h249))
def k_slices_partialInsertionSortOrdered_int_L3 (x0 : AV) (x2 : AV) (q10_248 : AV) (h249 : Heap) : OutV := loopN (fun us g => k_slices_partialInsertionSortOrdered_int_b3 x0 x2 (us.getD 0 .bot) g) [q10_248] h249
def k_slices_partialInsertionSortOrdered_int_b4 (x0 : AV) (x1 : AV) (x2 : AV) (q6 : AV) (q7 : AV) (q8 : AV) (h0 : Heap) : OutV :=
  (binP .lss q8 (AV.int .i64 5)).bind fun t14 =>
  condE t14 (
  lp (k_slices_partialInsertionSortOrdered_int_L0 x0 x2 q7 h0) fun e vs h9 =>
  thenK (if e = .exit 2 then .normal else e) (
  (eqP (some (.int .i64)) none false .eql (vs.getD 0 .bot) x2).bind fun t37 =>
  condE t37 (
  some (.ret, [(AV.bool true), (vs.getD 0 .bot), q8], h9)) (
  (binP .sub x2 x1).bind fun t40 =>
  (binP .lss t40 (AV.int .i64 50)).bind fun t41 =>
  condE t41 (
  some (.ret, [(AV.bool false), (vs.getD 0 .bot), q8], h9)) (
  (binP .sub (vs.getD 0 .bot) (AV.int .i64 1)).bind fun t46 =>
  (binP .sub (vs.getD 0 .bot) (AV.int .i64 1)).bind fun t49 =>
  (iaS 1 x0 t49).bind fun t50 =>
  (ldS h9 t50).bind fun t51 =>
  (iaS 1 x0 (vs.getD 0 .bot)).bind fun t54 =>
  (ldS h9 t54).bind fun t55 =>
  (iaS 1 x0 (vs.getD 0 .bot)).bind fun t56 =>
  cl (stP 1 h9 t56 t51) fun u h10 =>
  (iaS 1 x0 t46).bind fun t57 =>
  cl (stP 1 h10 t57 t55) fun u_11 h12 =>
  chk [h9, h10, h12] [] (
  (binP .sub (vs.getD 0 .bot) x1).bind fun t60 =>
  (binP .geq t60 (AV.int .i64 2)).bind fun t61 =>
  condE t61 (
  (binP .sub (vs.getD 0 .bot) (AV.int .i64 1)).bind fun t63 =>
  lp (k_slices_partialInsertionSortOrdered_int_L2 x0 t63 h12) fun e_171 vs_172 h173 =>
  thenK (if e_171 = .exit 4 then .normal else e_171) (
  (binP .sub x2 (vs.getD 0 .bot)).bind fun t97_174 =>
  (binP .geq t97_174 (AV.int .i64 2)).bind fun t98_175 =>
  condE t98_175 (
  (binP .add (vs.getD 0 .bot) (AV.int .i64 1)).bind fun t100_213 =>
  lp (k_slices_partialInsertionSortOrdered_int_L3 x0 x2 t100_213 h173) fun e_272 vs_273 h274 =>
  thenK (if (if e_272 = .exit 6 then .normal else e_272) = .exit 1 then .normal else (if e_272 = .exit 6 then .normal else e_272)) (
  (binP .add q8 (AV.int .i64 1)).bind fun t16_275 =>
  some (.normal, [q6, (vs.getD 0 .bot), t16_275], h274)) (fun e_276 => some (e_276, [q6, (vs.getD 0 .bot), q8], h274))) (
  k_slices_partialInsertionSortOrdered_int_j2 q6 q8 vs h173)) (fun e_277 => thenK (if e_277 = .exit 1 then .normal else e_277) (
  (binP .add q8 (AV.int .i64 1)).bind fun t16_278 =>
  some (.normal, [q6, (vs.getD 0 .bot), t16_278], h173)) (fun e_279 => some (e_279, [q6, (vs.getD 0 .bot), q8], h173)))) (
  k_slices_partialInsertionSortOrdered_int_j1 x0 x2 q6 q8 vs h12))))) (fun e_280 => thenK (if e_280 = .exit 1 then .normal else e_280) (
  (binP .add q8 (AV.int .i64 1)).bind fun t16_281 =>
  some (.normal, [q6, (vs.getD 0 .bot), t16_281], h9)) (fun e_282 => some (e_282, [q6, (vs.getD 0 .bot), q8], h9)))) (
  some ((.exit 0), [q6, q7, q8], h0))
def k_slices_partialInsertionSortOrdered_int_L4 (x0 : AV) (x1 : AV) (x2 : AV) (q6 : AV) (q7 : AV) (q8 : AV) (h0 : Heap) : OutV := loopN (fun us g => k_slices_partialInsertionSortOrdered_int_b4 x0 x1 x2 (us.getD 0 .bot) (us.getD 1 .bot) (us.getD 2 .bot) g) [q6, q7, q8] h0
def k_slices_partialInsertionSortOrdered_int (x0 : AV) (x1 : AV) (x2 : AV) (h : Heap) : Option (AV × Heap) :=
  (binP .add x1 (AV.int .i64 1)).bind fun t12 =>
  lp (k_slices_partialInsertionSortOrdered_int_L4 x0 x1 x2 (AV.bool false) t12 (AV.int .i64 0) h) fun e_283 vs_284 h285 =>
  thenK (if e_283 = .exit 0 then .normal else e_283) (
  some ((AV.bool false), h285)) (fun e_286 => endE e_286 (some ((vs_284.getD 0 .bot), h285)))
def T31 : Tab := (85, p3 k_slices_partialInsertionSortOrdered_int) :: T30
/- 87: slices.partitionEqualOrdered[int] -/
def k_slices_partitionEqualOrdered_int_b0 (x0 : AV) (x1 : AV) (q10 : AV) (q9_4 : AV) (h5 : Heap) : OutV :=
  (binP .leq q9_4 q10).bind fun t31 =>
  (gV (gdW t31 true) (some x0) (.tup [])).bind fun t33 =>
  (gV (gdW t31 true) (some x1) (.tup [])).bind fun t34 =>
  (gV (gdW t31 true) (iaS 1 t33 t34) (.tup [])).bind fun t35 =>
  (gV (gdW t31 true) (ldS h5 t35) (.tup [])).bind fun t36 =>
  (gV (gdW t31 true) (some x0) (.tup [])).bind fun t37 =>
  (gV (gdW t31 true) (some q9_4) (.tup [])).bind fun t38 =>
  (gV (gdW t31 true) (iaS 1 t37 t38) (.tup [])).bind fun t39 =>
  (gV (gdW t31 true) (ldS h5 t39) (.tup [])).bind fun t40 =>
  gQ (gdW t31 true) h5 (cl (k_cmp_Less_int t36 t40 h5) fun t41 h6 =>
  some (t41, h6)) fun t41_7 h8 =>
  (gV (gdW t31 true) (unA .not t41_7) (.tup [])).bind fun t42 =>
  (pickP t31 t42 (AV.bool false)).bind fun t43 =>
  chk [h5, h8] [] (
  condE t43 (
  (binP .add q9_4 (AV.int .i64 1)).bind fun t45 =>
  some (.normal, [t45], h8)) (
  some ((.exit 2), [q9_4], h8)))
def k_slices_partitionEqualOrdered_int_L0 (x0 : AV) (x1 : AV) (q10 : AV) (q9_4 : AV) (h5 : Heap) : OutV := loopN (fun us g => k_slices_partitionEqualOrdered_int_b0 x0 x1 q10 (us.getD 0 .bot) g) [q9_4] h5
def k_slices_partitionEqualOrdered_int_b1 (x0 : AV) (x1 : AV) (vs : List AV) (q10_10 : AV) (h11 : Heap) : OutV :=
  (binP .leq (vs.getD 0 .bot) q10_10).bind fun t48 =>
  (gV (gdW t48 true) (some x0) (.tup [])).bind fun t50 =>
  (gV (gdW t48 true) (some x1) (.tup [])).bind fun t51 =>
  (gV (gdW t48 true) (iaS 1 t50 t51) (.tup [])).bind fun t52 =>
  (gV (gdW t48 true) (ldS h11 t52) (.tup [])).bind fun t53 =>
  (gV (gdW t48 true) (some x0) (.tup [])).bind fun t54 =>
  (gV (gdW t48 true) (some q10_10) (.tup [])).bind fun t55 =>
  (gV (gdW t48 true) (iaS 1 t54 t55) (.tup [])).bind fun t56 =>
  (gV (gdW t48 true) (ldS h11 t56) (.tup [])).bind fun t57 =>
  gQ (gdW t48 true) h11 (cl (k_cmp_Less_int t53 t57 h11) fun t58 h12 =>
  some (t58, h12)) fun t58_13 h14 =>
  (pickP t48 t58_13 (AV.bool false)).bind fun t59 =>
  chk [h11, h14] [] (
  condE t59 (
  (binP .sub q10_10 (AV.int .i64 1)).bind fun t61 =>
  some (.normal, [t61], h14)) (
  some ((.exit 4), [q10_10], h14)))
def k_slices_partitionEqualOrdered_int_L1 (x0 : AV) (x1 : AV) (vs : List AV) (q10_10 : AV) (h11 : Heap) : OutV := loopN (fun us g => k_slices_partitionEqualOrdered_int_b1 x0 x1 vs (us.getD 0 .bot) g) [q10_10] h11
def k_slices_partitionEqualOrdered_int_b2 (x0 : AV) (x1 : AV) (q9 : AV) (q10 : AV) (h3 : Heap) : OutV :=
  lp (k_slices_partitionEqualOrdered_int_L0 x0 x1 q10 q9 h3) fun e vs h9 =>
  thenK (if e = .exit 2 then .normal else e) (
  lp (k_slices_partitionEqualOrdered_int_L1 x0 x1 vs q10 h9) fun e_15 vs_16 h17 =>
  thenK (if e_15 = .exit 4 then .normal else e_15) (
  (binP .gtr (vs.getD 0 .bot) (vs_16.getD 0 .bot)).bind fun t64 =>
  condE t64 (
  some ((.exit 0), [(vs.getD 0 .bot), (vs_16.getD 0 .bot)], h17)) (
  (iaS 1 x0 (vs_16.getD 0 .bot)).bind fun t71 =>
  (ldS h17 t71).bind fun t72 =>
  (iaS 1 x0 (vs.getD 0 .bot)).bind fun t75 =>
  (ldS h17 t75).bind fun t76 =>
  (iaS 1 x0 (vs.getD 0 .bot)).bind fun t77 =>
  cl (stP 1 h17 t77 t72) fun u_18 h19 =>
  (iaS 1 x0 (vs_16.getD 0 .bot)).bind fun t78 =>
  cl (stP 1 h19 t78 t76) fun u_20 h21 =>
  chk [h17, h19, h21] [] (
  (binP .add (vs.getD 0 .bot) (AV.int .i64 1)).bind fun t80 =>
  (binP .sub (vs_16.getD 0 .bot) (AV.int .i64 1)).bind fun t82 =>
  some (.normal, [t80, t82], h21)))) (fun e_22 => some ((if e_22 = .exit 1 then .normal else e_22), [(vs.getD 0 .bot), (vs_16.getD 0 .bot)], h17))) (fun e_23 => some ((if e_23 = .exit 1 then .normal else e_23), [(vs.getD 0 .bot), q10], h9))
def k_slices_partitionEqualOrdered_int_L2 (x0 : AV) (x1 : AV) (q9 : AV) (q10 : AV) (h3 : Heap) : OutV := loopN (fun us g => k_slices_partitionEqualOrdered_int_b2 x0 x1 (us.getD 0 .bot) (us.getD 1 .bot) g) [q9, q10] h3
def k_slices_partitionEqualOrdered_int (x0 : AV) (x1 : AV) (x2 : AV) (x3 : AV) (h : Heap) : Option (AV × Heap) :=
  (iaS 1 x0 x3).bind fun t17 =>
  (ldS h t17).bind fun t18 =>
  (iaS 1 x0 x1).bind fun t21 =>
  (ldS h t21).bind fun t22 =>
  (iaS 1 x0 x1).bind fun t23 =>
  cl (stP 1 h t23 t18) fun u h0 =>
  (iaS 1 x0 x3).bind fun t24 =>
  cl (stP 1 h0 t24 t22) fun u_1 h2 =>
  chk [h, h0, h2] [] (
  (binP .add x1 (AV.int .i64 1)).bind fun t26 =>
  (binP .sub x2 (AV.int .i64 1)).bind fun t28 =>
  lp (k_slices_partitionEqualOrdered_int_L2 x0 x1 t26 t28 h2) fun e_24 vs_25 h26 =>
  thenK (if e_24 = .exit 0 then .normal else e_24) (
  some ((vs_25.getD 0 .bot), h26)) (fun e_27 => endE e_27 (some ((AV.int .i64 0), h26))))
def T32 : Tab := (87, p4 k_slices_partitionEqualOrdered_int) :: T31
/- 88: slices.partitionOrdered[int] -/
def k_slices_partitionOrdered_int_b0 (x0 : AV) (x1 : AV) (t29 : AV) (q10 : AV) (h3 : Heap) : OutV :=
  (binP .leq q10 t29).bind fun t32 =>
  (gV (gdW t32 true) (some x0) (.tup [])).bind fun t34 =>
  (gV (gdW t32 true) (some q10) (.tup [])).bind fun t35 =>
  (gV (gdW t32 true) (iaS 1 t34 t35) (.tup [])).bind fun t36 =>
  (gV (gdW t32 true) (ldS h3 t36) (.tup [])).bind fun t37 =>
  (gV (gdW t32 true) (some x0) (.tup [])).bind fun t38 =>
  (gV (gdW t32 true) (some x1) (.tup [])).bind fun t39 =>
  (gV (gdW t32 true) (iaS 1 t38 t39) (.tup [])).bind fun t40 =>
  (gV (gdW t32 true) (ldS h3 t40) (.tup [])).bind fun t41 =>
  gQ (gdW t32 true) h3 (cl (k_cmp_Less_int t37 t41 h3) fun t42 h4 =>
  some (t42, h4)) fun t42_5 h6 =>
  (pickP t32 t42_5 (AV.bool false)).bind fun t43 =>
  chk [h3, h6] [] (
  condE t43 (
  (binP .add q10 (AV.int .i64 1)).bind fun t45 =>
  some (.normal, [t45], h6)) (
  some ((.exit 0), [q10], h6)))
def k_slices_partitionOrdered_int_L0 (x0 : AV) (x1 : AV) (t29 : AV) (q10 : AV) (h3 : Heap) : OutV := loopN (fun us g => k_slices_partitionOrdered_int_b0 x0 x1 t29 (us.getD 0 .bot) g) [q10] h3
def k_slices_partitionOrdered_int_b1 (x0 : AV) (x1 : AV) (vs : List AV) (q11 : AV) (h8 : Heap) : OutV :=
  (binP .leq (vs.getD 0 .bot) q11).bind fun t48 =>
  (gV (gdW t48 true) (some x0) (.tup [])).bind fun t50 =>
  (gV (gdW t48 true) (some q11) (.tup [])).bind fun t51 =>
  (gV (gdW t48 true) (iaS 1 t50 t51) (.tup [])).bind fun t52 =>
  (gV (gdW t48 true) (ldS h8 t52) (.tup [])).bind fun t53 =>
  (gV (gdW t48 true) (some x0) (.tup [])).bind fun t54 =>
  (gV (gdW t48 true) (some x1) (.tup [])).bind fun t55 =>
  (gV (gdW t48 true) (iaS 1 t54 t55) (.tup [])).bind fun t56 =>
  (gV (gdW t48 true) (ldS h8 t56) (.tup [])).bind fun t57 =>
  gQ (gdW t48 true) h8 (cl (k_cmp_Less_int t53 t57 h8) fun t58 h9 =>
  some (t58, h9)) fun t58_10 h11 =>
  (gV (gdW t48 true) (unA .not t58_10) (.tup [])).bind fun t59 =>
  (pickP t48 t59 (AV.bool false)).bind fun t60 =>
  chk [h8, h11] [] (
  condE t60 (
  (binP .sub q11 (AV.int .i64 1)).bind fun t62 =>
  some (.normal, [t62], h11)) (
  some ((.exit 2), [q11], h11)))
def k_slices_partitionOrdered_int_L1 (x0 : AV) (x1 : AV) (vs : List AV) (q11 : AV) (h8 : Heap) : OutV := loopN (fun us g => k_slices_partitionOrdered_int_b1 x0 x1 vs (us.getD 0 .bot) g) [q11] h8
def k_slices_partitionOrdered_int_b2 (x0 : AV) (x1 : AV) (q11_24 : AV) (q10_26 : AV) (h27 : Heap) : OutV :=
  (binP .leq q10_26 q11_24).bind fun t101 =>
  (gV (gdW t101 true) (some x0) (.tup [])).bind fun t103 =>
  (gV (gdW t101 true) (some q10_26) (.tup [])).bind fun t104 =>
  (gV (gdW t101 true) (iaS 1 t103 t104) (.tup [])).bind fun t105 =>
  (gV (gdW t101 true) (ldS h27 t105) (.tup [])).bind fun t106 =>
  (gV (gdW t101 true) (some x0) (.tup [])).bind fun t107 =>
  (gV (gdW t101 true) (some x1) (.tup [])).bind fun t108 =>
  (gV (gdW t101 true) (iaS 1 t107 t108) (.tup [])).bind fun t109 =>
  (gV (gdW t101 true) (ldS h27 t109) (.tup [])).bind fun t110 =>
  gQ (gdW t101 true) h27 (cl (k_cmp_Less_int t106 t110 h27) fun t111 h28 =>
  some (t111, h28)) fun t111_29 h30 =>
  (pickP t101 t111_29 (AV.bool false)).bind fun t112 =>
  chk [h27, h30] [] (
  condE t112 (
  (binP .add q10_26 (AV.int .i64 1)).bind fun t114 =>
  some (.normal, [t114], h30)) (
  some ((.exit 6), [q10_26], h30)))
def k_slices_partitionOrdered_int_L2 (x0 : AV) (x1 : AV) (q11_24 : AV) (q10_26 : AV) (h27 : Heap) : OutV := loopN (fun us g => k_slices_partitionOrdered_int_b2 x0 x1 q11_24 (us.getD 0 .bot) g) [q10_26] h27
def k_slices_partitionOrdered_int_b3 (x0 : AV) (x1 : AV) (vs_32 : List AV) (q11_34 : AV) (h35 : Heap) : OutV :=
  (binP .leq (vs_32.getD 0 .bot) q11_34).bind fun t117 =>
  (gV (gdW t117 true) (some x0) (.tup [])).bind fun t119 =>
  (gV (gdW t117 true) (some q11_34) (.tup [])).bind fun t120 =>
  (gV (gdW t117 true) (iaS 1 t119 t120) (.tup [])).bind fun t121 =>
  (gV (gdW t117 true) (ldS h35 t121) (.tup [])).bind fun t122 =>
  (gV (gdW t117 true) (some x0) (.tup [])).bind fun t123 =>
  (gV (gdW t117 true) (some x1) (.tup [])).bind fun t124 =>
  (gV (gdW t117 true) (iaS 1 t123 t124) (.tup [])).bind fun t125 =>
  (gV (gdW t117 true) (ldS h35 t125) (.tup [])).bind fun t126 =>
  gQ (gdW t117 true) h35 (cl (k_cmp_Less_int t122 t126 h35) fun t127 h36 =>
  some (t127, h36)) fun t127_37 h38 =>
  (gV (gdW t117 true) (unA .not t127_37) (.tup [])).bind fun t128 =>
  (pickP t117 t128 (AV.bool false)).bind fun t129 =>
  chk [h35, h38] [] (
  condE t129 (
  (binP .sub q11_34 (AV.int .i64 1)).bind fun t131 =>
  some (.normal, [t131], h38)) (
  some ((.exit 8), [q11_34], h38)))
def k_slices_partitionOrdered_int_L3 (x0 : AV) (x1 : AV) (vs_32 : List AV) (q11_34 : AV) (h35 : Heap) : OutV := loopN (fun us g => k_slices_partitionOrdered_int_b3 x0 x1 vs_32 (us.getD 0 .bot) g) [q11_34] h35
def k_slices_partitionOrdered_int_b4 (x0 : AV) (x1 : AV) (q10_23 : AV) (q11_24 : AV) (h25 : Heap) : OutV :=
  lp (k_slices_partitionOrdered_int_L2 x0 x1 q11_24 q10_23 h25) fun e_31 vs_32 h33 =>
  thenK (if e_31 = .exit 6 then .normal else e_31) (
  lp (k_slices_partitionOrdered_int_L3 x0 x1 vs_32 q11_24 h33) fun e_39 vs_40 h41 =>
  thenK (if e_39 = .exit 8 then .normal else e_39) (
  (binP .gtr (vs_32.getD 0 .bot) (vs_40.getD 0 .bot)).bind fun t134 =>
  condE t134 (
  some ((.exit 4), [(vs_32.getD 0 .bot), (vs_40.getD 0 .bot)], h41)) (
  (iaS 1 x0 (vs_40.getD 0 .bot)).bind fun t141 =>
  (ldS h41 t141).bind fun t142 =>
  (iaS 1 x0 (vs_32.getD 0 .bot)).bind fun t145 =>
  (ldS h41 t145).bind fun t146 =>
  (iaS 1 x0 (vs_32.getD 0 .bot)).bind fun t147 =>
  cl (stP 1 h41 t147 t142) fun u_42 h43 =>
  (iaS 1 x0 (vs_40.getD 0 .bot)).bind fun t148 =>
  cl (stP 1 h43 t148 t146) fun u_44 h45 =>
  chk [h41, h43, h45] [] (
  (binP .add (vs_32.getD 0 .bot) (AV.int .i64 1)).bind fun t150 =>
  (binP .sub (vs_40.getD 0 .bot) (AV.int .i64 1)).bind fun t152 =>
  some (.normal, [t150, t152], h45)))) (fun e_46 => some ((if e_46 = .exit 5 then .normal else e_46), [(vs_32.getD 0 .bot), (vs_40.getD 0 .bot)], h41))) (fun e_47 => some ((if e_47 = .exit 5 then .normal else e_47), [(vs_32.getD 0 .bot), q11_24], h33))
def k_slices_partitionOrdered_int_L4 (x0 : AV) (x1 : AV) (q10_23 : AV) (q11_24 : AV) (h25 : Heap) : OutV := loopN (fun us g => k_slices_partitionOrdered_int_b4 x0 x1 (us.getD 0 .bot) (us.getD 1 .bot) g) [q10_23, q11_24] h25
def k_slices_partitionOrdered_int (x0 : AV) (x1 : AV) (x2 : AV) (x3 : AV) (h : Heap) : Option (AV × Heap) :=
  (iaS 1 x0 x3).bind fun t18 =>
  (ldS h t18).bind fun t19 =>
  (iaS 1 x0 x1).bind fun t22 =>
  (ldS h t22).bind fun t23 =>
  (iaS 1 x0 x1).bind fun t24 =>
  cl (stP 1 h t24 t19) fun u h0 =>
  (iaS 1 x0 x3).bind fun t25 =>
  cl (stP 1 h0 t25 t23) fun u_1 h2 =>
  chk [h, h0, h2] [] (
  (binP .add x1 (AV.int .i64 1)).bind fun t27 =>
  (binP .sub x2 (AV.int .i64 1)).bind fun t29 =>
  lp (k_slices_partitionOrdered_int_L0 x0 x1 t29 t27 h2) fun e vs h7 =>
  thenK (if e = .exit 0 then .normal else e) (
  lp (k_slices_partitionOrdered_int_L1 x0 x1 vs t29 h7) fun e_12 vs_13 h14 =>
  thenK (if e_12 = .exit 2 then .normal else e_12) (
  (binP .gtr (vs.getD 0 .bot) (vs_13.getD 0 .bot)).bind fun t65 =>
  condE t65 (
  (iaS 1 x0 x1).bind fun t72 =>
  (ldS h14 t72).bind fun t73 =>
  (iaS 1 x0 (vs_13.getD 0 .bot)).bind fun t76 =>
  (ldS h14 t76).bind fun t77 =>
  (iaS 1 x0 (vs_13.getD 0 .bot)).bind fun t78 =>
  cl (stP 1 h14 t78 t73) fun u_15 h16 =>
  (iaS 1 x0 x1).bind fun t79 =>
  cl (stP 1 h16 t79 t77) fun u_17 h18 =>
  chk [h14, h16, h18] [] (
  some (AV.tup [(vs_13.getD 0 .bot), (AV.bool true)], h18))) (
  (iaS 1 x0 (vs_13.getD 0 .bot)).bind fun t87 =>
  (ldS h14 t87).bind fun t88 =>
  (iaS 1 x0 (vs.getD 0 .bot)).bind fun t91 =>
  (ldS h14 t91).bind fun t92 =>
  (iaS 1 x0 (vs.getD 0 .bot)).bind fun t93 =>
  cl (stP 1 h14 t93 t88) fun u_19 h20 =>
  (iaS 1 x0 (vs_13.getD 0 .bot)).bind fun t94 =>
  cl (stP 1 h20 t94 t92) fun u_21 h22 =>
  chk [h14, h20, h22] [] (
  (binP .add (vs.getD 0 .bot) (AV.int .i64 1)).bind fun t96 =>
  (binP .sub (vs_13.getD 0 .bot) (AV.int .i64 1)).bind fun t98 =>
  lp (k_slices_partitionOrdered_int_L4 x0 x1 t96 t98 h22) fun e_48 vs_49 h50 =>
  thenK (if e_48 = .exit 4 then .normal else e_48) (
  (iaS 1 x0 x1).bind fun t159 =>
  (ldS h50 t159).bind fun t160 =>
  (iaS 1 x0 (vs_49.getD 1 .bot)).bind fun t163 =>
  (ldS h50 t163).bind fun t164 =>
  (iaS 1 x0 (vs_49.getD 1 .bot)).bind fun t165 =>
  cl (stP 1 h50 t165 t160) fun u_51 h52 =>
  (iaS 1 x0 x1).bind fun t166 =>
  cl (stP 1 h52 t166 t164) fun u_53 h54 =>
  chk [h50, h52, h54] [] (
  some (AV.tup [(vs_49.getD 1 .bot), (AV.bool false)], h54))) (fun e_55 => endE e_55 (some (AV.tup [(AV.int .i64 0), (AV.bool false)], h50)))))) (fun e_56 => endE e_56 (some (AV.tup [(AV.int .i64 0), (AV.bool false)], h14)))) (fun e_57 => endE e_57 (some (AV.tup [(AV.int .i64 0), (AV.bool false)], h7))))
def T33 : Tab := (88, p4 k_slices_partitionOrdered_int) :: T32
/- 67: slices.pdqsortOrdered[int] -/
def k_slices_pdqsortOrdered_int_j0 (x0 : AV) (q1 : AV) (q2 : AV) (q8 : AV) (q9 : AV) (t21 : AV) (q3_15 : AV) (q11_28 : AV) (h39 : Heap) : OutV :=
  (binP .gtr q1 (AV.int .i64 0)).bind fun t74 =>
  (gV (gdW t74 true) (some x0) (.tup [])).bind fun t76 =>
  (gV (gdW t74 true) (some q1) (.tup [])).bind fun t77 =>
  (gV (gdW t74 true) (binP .sub t77 (AV.int .i64 1)) (.tup [])).bind fun t78 =>
  (gV (gdW t74 true) (iaS 1 t76 t78) (.tup [])).bind fun t79 =>
  (gV (gdW t74 true) (ldS h39 t79) (.tup [])).bind fun t80 =>
  (gV (gdW t74 true) (some x0) (.tup [])).bind fun t81 =>
  (gV (gdW t74 true) (some q11_28) (.tup [])).bind fun t82 =>
  (gV (gdW t74 true) (iaS 1 t81 t82) (.tup [])).bind fun t83 =>
  (gV (gdW t74 true) (ldS h39 t83) (.tup [])).bind fun t84 =>
  gQ (gdW t74 true) h39 (cl (k_cmp_Less_int t80 t84 h39) fun t85 h40 =>
  some (t85, h40)) fun t85_41 h42 =>
  (gV (gdW t74 true) (unA .not t85_41) (.tup [])).bind fun t86 =>
  (pickP t74 t86 (AV.bool false)).bind fun t87 =>
  chk [h39, h42] [] (
  condE t87 (
  cl (k_slices_partitionEqualOrdered_int x0 q1 q2 q11_28 h42) fun t92 h43 =>
  some (.normal, [t92, q2, q3_15, q8, q9], h43)) (
  cl (k_slices_partitionOrdered_int x0 q1 q2 q11_28 h42) fun t99 h44 =>
  (extractV 0 t99).bind fun t100 =>
  (extractV 1 t99).bind fun t101 =>
  (binP .sub t100 q1).bind fun t105 =>
  (binP .sub q2 t100).bind fun t108 =>
  (binP .quo t21 (AV.int .i64 8)).bind fun t110 =>
  (binP .lss t105 t108).bind fun t113 =>
  condE t113 (
  (binP .geq t105 t110).bind fun t116 =>
  cl noFn fun t121 h69 =>
  (binP .add t100 (AV.int .i64 1)).bind fun t123 =>
  some (.normal, [t123, q2, q3_15, t116, t101], h69)) (
  (binP .geq t108 t110).bind fun t126 =>
  (binP .add t100 (AV.int .i64 1)).bind fun t129 =>
  cl noFn fun t132 h70 =>
  some (.normal, [q1, t100, q3_15, t126, t101], h70))))
def k_slices_pdqsortOrdered_int_j1 (x0 : AV) (q1 : AV) (q2 : AV) (q8 : AV) (q9 : AV) (t21 : AV) (q3_15 : AV) (q11_28 : AV) (q12_29 : AV) (h30 : Heap) : OutV :=
  gQ (gdW q8 true) h30 (some (q9, h30)) fun t63 h31 =>
  (pickP q8 t63 (AV.bool false)).bind fun t64 =>
  gQ (gdW t64 true) h31 (some (q12_29, h31)) fun t66 h32 =>
  gQ (gdW t64 true) h32 ((eqP (some (.int .i64)) none false .eql t66 (AV.int .i64 1)).bind fun t67 =>
  some (t67, h32)) fun t67_33 h34 =>
  (pickP t64 t67_33 (AV.bool false)).bind fun t68 =>
  condE t68 (
  cl (k_slices_partialInsertionSortOrdered_int x0 q1 q2 h34) fun t72 h71 =>
  condE t72 (
  some (.ret, [q1, q2, q3_15, q8, q9], h71)) (
  k_slices_pdqsortOrdered_int_j0 x0 q1 q2 q8 q9 t21 q3_15 q11_28 h71)) (
  k_slices_pdqsortOrdered_int_j0 x0 q1 q2 q8 q9 t21 q3_15 q11_28 h34)
def k_slices_pdqsortOrdered_int_j2 (x0 : AV) (q1 : AV) (q2 : AV) (q8 : AV) (q9 : AV) (t21 : AV) (q3_15 : AV) (h16 : Heap) : OutV :=
  cl (k_slices_choosePivotOrdered_int x0 q1 q2 h16) fun t46 h17 =>
  (extractV 0 t46).bind fun t47 =>
  (extractV 1 t46).bind fun t48 =>
  (eqP (some (.int .i64)) none false .eql t48 (AV.int .i64 2)).bind fun t50 =>
  condE t50 (
  cl (k_slices_reverseRangeOrdered_int x0 q1 q2 h17) fun t54 h72 =>
  (binP .sub q2 (AV.int .i64 1)).bind fun t56 =>
  (binP .sub t47 q1).bind fun t59 =>
  (binP .sub t56 t59).bind fun t60 =>
  k_slices_pdqsortOrdered_int_j1 x0 q1 q2 q8 q9 t21 q3_15 t60 (AV.int .i64 1) h72) (
  k_slices_pdqsortOrdered_int_j1 x0 q1 q2 q8 q9 t21 q3_15 t47 t48 h17)
def k_slices_pdqsortOrdered_int_b0 (x0 : AV) (q1 : AV) (q2 : AV) (q3 : AV) (q8 : AV) (q9 : AV) (h0 : Heap) : OutV :=
  (binP .sub q2 q1).bind fun t21 =>
  (binP .leq t21 (AV.int .i64 12)).bind fun t23 =>
  condE t23 (
  cl (k_slices_insertionSortOrdered_int x0 q1 q2 h0) fun t27 h7 =>
  some (.ret, [q1, q2, q3, q8, q9], h7)) (
  (eqP (some (.int .i64)) none false .eql q3 (AV.int .i64 0)).bind fun t29 =>
  condE t29 (
  cl (k_slices_heapSortOrdered_int x0 q1 q2 h0) fun t33 h8 =>
  some (.ret, [q1, q2, q3, q8, q9], h8)) (
  (unA .not q8).bind fun t35 =>
  condE t35 (
  cl (k_slices_breakPatternsOrdered_int x0 q1 q2 h0) fun t39 h73 =>
  (binP .sub q3 (AV.int .i64 1)).bind fun t41 =>
  k_slices_pdqsortOrdered_int_j2 x0 q1 q2 q8 q9 t21 t41 h73) (
  k_slices_pdqsortOrdered_int_j2 x0 q1 q2 q8 q9 t21 q3 h0)))
def k_slices_pdqsortOrdered_int_L0 (x0 : AV) (q1 : AV) (q2 : AV) (q3 : AV) (q8 : AV) (q9 : AV) (h0 : Heap) : OutV := loopN (fun us g => k_slices_pdqsortOrdered_int_b0 x0 (us.getD 0 .bot) (us.getD 1 .bot) (us.getD 2 .bot) (us.getD 3 .bot) (us.getD 4 .bot) g) [q1, q2, q3, q8, q9] h0
def k_slices_pdqsortOrdered_int (x0 : AV) (x1 : AV) (x2 : AV) (x3 : AV) (h : Heap) : Option (AV × Heap) :=
  lp (k_slices_pdqsortOrdered_int_L0 x0 x1 x2 x3 (AV.bool true) (AV.bool true) h) fun e vs h74 =>
  endE (if e = .exit 0 then .normal else e) (some (AV.tup [], h74))
def T34 : Tab := (67, p4 k_slices_pdqsortOrdered_int) :: T33
/- 52: slices.Sort[[]int,int] -/
def k_slices_Sort_int_int (x0 : AV) (h : Heap) : Option (AV × Heap) :=
  (lnL x0).bind fun t4 =>
  (cvI .u64 t4).bind fun t8 =>
  cl (k_mbits_Len t8 h) fun t9 h0 =>
  cl (k_slices_pdqsortOrdered_int x0 (AV.int .i64 0) t4 t9 h0) fun t10 h1 =>
  some (AV.tup [], h1)
def T35 : Tab := (52, p1 k_slices_Sort_int_int) :: T34
/- 53: slices.Compact[[]int,int] -/
def k_slices_Compact_int_int_b0 (x0 : AV) (t28 : AV) (q3_1 : AV) (q5 : AV) (h2 : Heap) : OutV :=
  (lnL t28).bind fun t31 =>
  (binP .lss q5 t31).bind fun t32 =>
  condE t32 (
  (iaS 1 t28 q5).bind fun t37 =>
  (ldS h2 t37).bind fun t38 =>
  (binP .sub q5 (AV.int .i64 1)).bind fun t41 =>
  (iaS 1 t28 t41).bind fun t42 =>
  (ldS h2 t42).bind fun t43 =>
  (eqP (some (.int .i64)) none false .neq t38 t43).bind fun t44 =>
  chk [h2] [] (
  condE t44 (
  (iaS 1 t28 q5).bind fun t49 =>
  (ldS h2 t49).bind fun t50 =>
  (iaS 1 x0 q3_1).bind fun t51 =>
  cl (stP 1 h2 t51 t50) fun u h17 =>
  (binP .add q3_1 (AV.int .i64 1)).bind fun t53 =>
  (binP .add q5 (AV.int .i64 1)).bind fun t34_18 =>
  some (.normal, [t53, t34_18], h17)) (
  (binP .add q5 (AV.int .i64 1)).bind fun t34_19 =>
  some (.normal, [q3_1, t34_19], h2)))) (
  some ((.exit 2), [q3_1, q5], h2))
def k_slices_Compact_int_int_L0 (x0 : AV) (t28 : AV) (q3_1 : AV) (q5 : AV) (h2 : Heap) : OutV := loopN (fun us g => k_slices_Compact_int_int_b0 x0 t28 (us.getD 0 .bot) (us.getD 1 .bot) g) [q3_1, q5] h2
def k_slices_Compact_int_int_b1 (x0 : AV) (q2 : AV) (q3 : AV) (h0 : Heap) : OutV :=
  (lnL x0).bind fun t12 =>
  (binP .lss q3 t12).bind fun t13 =>
  condE t13 (
  (iaS 1 x0 q3).bind fun t18 =>
  (ldS h0 t18).bind fun t19 =>
  (binP .sub q3 (AV.int .i64 1)).bind fun t22 =>
  (iaS 1 x0 t22).bind fun t23 =>
  (ldS h0 t23).bind fun t24 =>
  (eqP (some (.int .i64)) none false .eql t19 t24).bind fun t25 =>
  chk [h0] [] (
  condE t25 (
  (slcP 1 x0 (some q3) none none).bind fun t28 =>
  lp (k_slices_Compact_int_int_L0 x0 t28 q3 (AV.int .i64 1) h0) fun e vs h20 =>
  thenK (if e = .exit 2 then .normal else e) (
  (slcP 1 x0 (some (vs.getD 0 .bot)) none none).bind fun t56 =>
  cl (clL 1 [(AV.int .i64 0)] h20 t56) fun u_21 h22 =>
  (slcP 1 x0 none (some (vs.getD 0 .bot)) none).bind fun t59 =>
  some (.ret, [t59, (vs.getD 0 .bot)], h22)) (fun e_23 => thenK (if e_23 = .exit 1 then .normal else e_23) (
  (binP .add (vs.getD 0 .bot) (AV.int .i64 1)).bind fun t15 =>
  some (.normal, [q2, t15], h20)) (fun e_24 => some (e_24, [q2, (vs.getD 0 .bot)], h20)))) (
  (binP .add q3 (AV.int .i64 1)).bind fun t15_25 =>
  some (.normal, [q2, t15_25], h0)))) (
  some ((.exit 0), [q2, q3], h0))
def k_slices_Compact_int_int_L1 (x0 : AV) (q2 : AV) (q3 : AV) (h0 : Heap) : OutV := loopN (fun us g => k_slices_Compact_int_int_b1 x0 (us.getD 0 .bot) (us.getD 1 .bot) g) [q2, q3] h0
def k_slices_Compact_int_int (x0 : AV) (h : Heap) : Option (AV × Heap) :=
  (lnL x0).bind fun t7 =>
  (binP .lss t7 (AV.int .i64 2)).bind fun t8 =>
  condE t8 (
  some (x0, h)) (
  lp (k_slices_Compact_int_int_L1 x0 (AV.sl none 0 (.ex 0)) (AV.int .i64 1) h) fun e_26 vs_27 h28 =>
  thenK (if e_26 = .exit 0 then .normal else e_26) (
  some (x0, h28)) (fun e_29 => endE e_29 (some ((vs_27.getD 0 .bot), h28))))
def T36 : Tab := (53, p1 k_slices_Compact_int_int) :: T35
/- 24: gantline/live.Follows -/
def k_live_Follows_j0 (t4 : AV) (q7 : AV) (h13 : Heap) : Option (AV × Heap) :=
  cl (k_slices_DeleteFunc_int_int q7 (AV.fn 51 [] [t4]) h13) fun t63 h14 =>
  cl (k_slices_Sort_int_int t63 h14) fun t65 h15 =>
  cl (k_slices_Compact_int_int t63 h15) fun t67 h16 =>
  some (t67, h16)
def k_live_Follows_b0 (t49 : AV) (t50 : AV) (q7_130 : AV) (q51_131 : AV) (h132 : Heap) : OutV :=
  (binP .lss q51_131 t50).bind fun t52 =>
  condE t52 (
  (iaS 4 t49 q51_131).bind fun t53 =>
  (ldA 4 h132 t53).bind fun t54 =>
  mk (some (Blk.cells true [(AV.int .i64 0), (AV.int .i64 0), (AV.int .i64 0), (AV.int .i64 0)], fun i => AV.ptr (some (i, 0)))) h132 fun t10 h133 =>
  cl (stP 4 h133 t10 t54) fun u_134 h135 =>
  (faP 3 t10).bind fun t56 =>
  (ldS h135 t56).bind fun t57 =>
  mk (bsP 1 [(AV.int .i64 0)] 1 [(0, t57)]) h135 fun t58 h136 =>
  cl (appendA h136 1 8 q7_130 t58) fun t59 h137 =>
  (binP .add q51_131 (AV.int .i64 1)).bind fun t60 =>
  some (.normal, [t59, t60], h137)) (
  some ((.exit 1), [q7_130, q51_131], h132))
def k_live_Follows_L0 (t49 : AV) (t50 : AV) (q7_130 : AV) (q51_131 : AV) (h132 : Heap) : OutV := loopN (fun us g => k_live_Follows_b0 t49 t50 (us.getD 0 .bot) (us.getD 1 .bot) g) [q7_130, q51_131] h132
def k_live_Follows_j1 (x2 : AV) (t3 : AV) (t4 : AV) (t8 : AV) (t26 : AV) (q42_85 : AV) (h86 : Heap) : Option (AV × Heap) :=
  condE q42_85 (
  k_live_Follows_j0 t4 (AV.sl none 0 (.ex 0)) h86) (
  (eqP (some (.int .i64)) none false .eql t26 (AV.int .i64 41)).bind fun t46 =>
  condE t46 (
  (ldA 6 h86 t3).bind fun t47 =>
  (ldA 5 h86 t8).bind fun t48 =>
  cl (k_live_cases t47 t48 h86) fun t49 h129 =>
  (lnL t49).bind fun t50 =>
  lp (k_live_Follows_L0 t49 t50 (AV.sl none 0 (.ex 0)) (AV.int .i64 0) h129) fun e vs h138 =>
  thenK (if (if e = .exit 1 then .normal else e) = .exit 0 then .normal else (if e = .exit 1 then .normal else e)) (
  cl (k_slices_DeleteFunc_int_int (vs.getD 0 .bot) (AV.fn 51 [] [t4]) h138) fun t63_139 h140 =>
  cl (k_slices_Sort_int_int t63_139 h140) fun t65_141 h142 =>
  cl (k_slices_Compact_int_int t63_139 h142) fun t67_143 h144 =>
  some (t67_143, h144)) (fun e_145 => endE e_145 (some ((AV.sl none 0 (.ex 0)), h138)))) (
  (binP .add x2 (AV.int .i64 1)).bind fun t28 =>
  mk (bsP 1 [(AV.int .i64 0)] 1 [(0, t28)]) h86 fun t29 h146 =>
  k_live_Follows_j0 t4 t29 h146))
def k_live_Follows (x0 : AV) (x1 : AV) (x2 : AV) (h : Heap) : Option (AV × Heap) :=
  mk (bxP x0) h fun t3 h0 =>
  mk (bxP x1) h0 fun t4 h1 =>
  (binP .lss x2 (AV.int .i64 0)).bind fun t12 =>
  gQ (gdW t12 false) h1 (some (x2, h1)) fun t14 h2 =>
  gQ (gdW t12 false) h2 ((faP 5 t4).bind fun t15 =>
  some (t15, h2)) fun t15_3 h4 =>
  gQ (gdW t12 false) h4 ((ldS h4 t15_3).bind fun t16 =>
  some (t16, h4)) fun t16_5 h6 =>
  gQ (gdW t12 false) h6 ((lnL t16_5).bind fun t17 =>
  some (t17, h6)) fun t17_7 h8 =>
  gQ (gdW t12 false) h8 ((binP .geq t14 t17_7).bind fun t18 =>
  some (t18, h8)) fun t18_9 h10 =>
  (pickP t12 (AV.bool true) t18_9).bind fun t19 =>
  condE t19 (
  some ((AV.sl none 0 (.ex 0)), h10)) (
  (faP 5 t4).bind fun t20 =>
  (ldS h10 t20).bind fun t21 =>
  (iaS 5 t21 x2).bind fun t23 =>
  (ldA 5 h10 t23).bind fun t24 =>
  mk (some (Blk.cells true [(AV.int .i64 0), (AV.int .i64 0), (AV.int .i64 0), (AV.int .i64 0), (AV.int .i64 0)], fun i => AV.ptr (some (i, 0)))) h10 fun t8 h11 =>
  cl (stP 5 h11 t8 t24) fun u h12 =>
  (faP 0 t8).bind fun t25 =>
  (ldS h12 t25).bind fun t26 =>
  (eqP (some (.int .i64)) none false .eql t26 (AV.int .i64 18)).bind fun t31 =>
  condE t31 (
  (faP 1 t8).bind fun t32 =>
  (ldS h12 t32).bind fun t33 =>
  mk (bsP 1 [(AV.int .i64 0)] 1 [(0, t33)]) h12 fun t34 h52 =>
  k_live_Follows_j0 t4 t34 h52) (
  (eqP (some (.int .i64)) none false .eql t26 (AV.int .i64 19)).bind fun t36 =>
  condE t36 (
  (faP 2 t8).bind fun t37 =>
  (ldS h12 t37).bind fun t38 =>
  (binP .add x2 (AV.int .i64 1)).bind fun t40 =>
  mk (bsP 1 [(AV.int .i64 0)] 2 [(0, t38), (1, t40)]) h12 fun t41 h83 =>
  k_live_Follows_j0 t4 t41 h83) (
  (eqP (some (.int .i64)) none false .eql t26 (AV.int .i64 22)).bind fun t43 =>
  condE t43 (
  k_live_Follows_j1 x2 t3 t4 t8 t26 t43 h12) (
  (eqP (some (.int .i64)) none false .eql t26 (AV.int .i64 44)).bind fun t44 =>
  k_live_Follows_j1 x2 t3 t4 t8 t26 t44 h12))))
def T37 : Tab := (24, p3 k_live_Follows) :: T36
/- 45: gantline/live.Sets$1 -/
def k_live_Sets_1_b0 (x1 : AV) (x3 : AV) (t23 : AV) (t24 : AV) (q6 : AV) (q25 : AV) (h3 : Heap) : OutV :=
  (binP .lss q25 t24).bind fun t26 =>
  condE t26 (
  (iaS 4 t23 q25).bind fun t27 =>
  (ldA 4 h3 t27).bind fun t28 =>
  mk (some (Blk.cells true [(AV.int .i64 0), (AV.int .i64 0), (AV.int .i64 0), (AV.int .i64 0)], fun i => AV.ptr (some (i, 0)))) h3 fun t9 h6 =>
  cl (stP 4 h6 t9 t28) fun u_7 h8 =>
  (faP 3 t9).bind fun t29 =>
  (ldS h8 t29).bind fun t30 =>
  (binP .lss t30 (AV.int .i64 0)).bind fun t31 =>
  gQ (gdW t31 false) h8 ((faP 3 t9).bind fun t33 =>
  some (t33, h8)) fun t33_9 h10 =>
  gQ (gdW t31 false) h10 ((ldS h10 t33_9).bind fun t34 =>
  some (t34, h10)) fun t34_11 h12 =>
  gQ (gdW t31 false) h12 ((faP 5 x1).bind fun t35 =>
  some (t35, h12)) fun t35_13 h14 =>
  gQ (gdW t31 false) h14 ((ldS h14 t35_13).bind fun t36 =>
  some (t36, h14)) fun t36_15 h16 =>
  gQ (gdW t31 false) h16 ((lnL t36_15).bind fun t37 =>
  some (t37, h16)) fun t37_17 h18 =>
  gQ (gdW t31 false) h18 ((binP .geq t34_11 t37_17).bind fun t38 =>
  some (t38, h18)) fun t38_19 h20 =>
  (pickP t31 (AV.bool true) t38_19).bind fun t39 =>
  condE t39 (
  (binP .add q25 (AV.int .i64 1)).bind fun t59_21 =>
  some (.normal, [q6, t59_21], h20)) (
  (ldS h20 x3).bind fun t40 =>
  (faP 3 t9).bind fun t41 =>
  (ldS h20 t41).bind fun t42 =>
  (iaS 1 t40 t42).bind fun t43 =>
  (ldS h20 t43).bind fun t44 =>
  (faP 0 t9).bind fun t45 =>
  (ldS h20 t45).bind fun t46 =>
  (eqP (some (.int .i64)) none false .eql t46 (AV.int .i64 0)).bind fun t47 =>
  condE t47 (
  (faP 2 t9).bind fun t50 =>
  (ldS h20 t50).bind fun t51 =>
  mk (bsP 1 [(AV.int .i64 0)] 1 [(0, t51)]) h20 fun t52 h36 =>
  cl (k_live_bitsOf t52 h36) fun t53 h37 =>
  (binP .andNot t44 t53).bind fun t54 =>
  (binP .or q6 t54).bind fun t55 =>
  (binP .add q25 (AV.int .i64 1)).bind fun t59_38 =>
  some (.normal, [t55, t59_38], h37)) (
  (binP .or q6 t44).bind fun t58 =>
  (binP .add q25 (AV.int .i64 1)).bind fun t59_39 =>
  some (.normal, [t58, t59_39], h20)))) (
  some ((.exit 0), [q6, q25], h3))
def k_live_Sets_1_L0 (x1 : AV) (x3 : AV) (t23 : AV) (t24 : AV) (q6 : AV) (q25 : AV) (h3 : Heap) : OutV := loopN (fun us g => k_live_Sets_1_b0 x1 x3 t23 t24 (us.getD 0 .bot) (us.getD 1 .bot) g) [q6, q25] h3
def k_live_Sets_1_b1 (x3 : AV) (t64 : AV) (t65 : AV) (q6_43 : AV) (q66 : AV) (h44 : Heap) : OutV :=
  (binP .lss q66 t65).bind fun t67 =>
  condE t67 (
  (iaS 1 t64 q66).bind fun t68 =>
  (ldS h44 t68).bind fun t69 =>
  (ldS h44 x3).bind fun t71 =>
  (iaS 1 t71 t69).bind fun t73 =>
  (ldS h44 t73).bind fun t74 =>
  (binP .or q6_43 t74).bind fun t75 =>
  (binP .add q66 (AV.int .i64 1)).bind fun t76 =>
  some (.normal, [t75, t76], h44)) (
  some ((.exit 2), [q6_43, q66], h44))
def k_live_Sets_1_L1 (x3 : AV) (t64 : AV) (t65 : AV) (q6_43 : AV) (q66 : AV) (h44 : Heap) : OutV := loopN (fun us g => k_live_Sets_1_b1 x3 t64 t65 (us.getD 0 .bot) (us.getD 1 .bot) g) [q6_43, q66] h44
def k_live_Sets_1_b2 (x3 : AV) (t64_52 : AV) (t65_54 : AV) (q6_55 : AV) (q66_56 : AV) (h57 : Heap) : OutV :=
  (binP .lss q66_56 t65_54).bind fun t67_58 =>
  condE t67_58 (
  (iaS 1 t64_52 q66_56).bind fun t68_59 =>
  (ldS h57 t68_59).bind fun t69_60 =>
  (ldS h57 x3).bind fun t71_61 =>
  (iaS 1 t71_61 t69_60).bind fun t73_62 =>
  (ldS h57 t73_62).bind fun t74_63 =>
  (binP .or q6_55 t74_63).bind fun t75_64 =>
  (binP .add q66_56 (AV.int .i64 1)).bind fun t76_65 =>
  some (.normal, [t75_64, t76_65], h57)) (
  some ((.exit 2), [q6_55, q66_56], h57))
def k_live_Sets_1_L2 (x3 : AV) (t64_52 : AV) (t65_54 : AV) (q6_55 : AV) (q66_56 : AV) (h57 : Heap) : OutV := loopN (fun us g => k_live_Sets_1_b2 x3 t64_52 t65_54 (us.getD 0 .bot) (us.getD 1 .bot) g) [q6_55, q66_56] h57
def k_live_Sets_1 (x0 : AV) (x1 : AV) (x2 : AV) (x3 : AV) (h : Heap) : Option (AV × Heap) :=
  (faP 5 x1).bind fun t13 =>
  (ldS h t13).bind fun t14 =>
  (iaS 5 t14 x0).bind fun t16 =>
  (ldA 5 h t16).bind fun t17 =>
  mk (some (Blk.cells true [(AV.int .i64 0), (AV.int .i64 0), (AV.int .i64 0), (AV.int .i64 0), (AV.int .i64 0)], fun i => AV.ptr (some (i, 0)))) h fun t7 h0 =>
  cl (stP 5 h0 t7 t17) fun u h1 =>
  (faP 0 t7).bind fun t18 =>
  (ldS h1 t18).bind fun t19 =>
  (eqP (some (.int .i64)) none false .eql t19 (AV.int .i64 41)).bind fun t20 =>
  condE t20 (
  (ldA 6 h1 x2).bind fun t21 =>
  (ldA 5 h1 t7).bind fun t22 =>
  cl (k_live_cases t21 t22 h1) fun t23 h2 =>
  (lnL t23).bind fun t24 =>
  lp (k_live_Sets_1_L0 x1 x3 t23 t24 (AV.int .u64 0) (AV.int .i64 0) h2) fun e vs h40 =>
  thenK (if e = .exit 0 then .normal else e) (
  some ((vs.getD 0 .bot), h40)) (fun e_41 => thenK e_41 (
  (ldA 6 h40 x2).bind fun t61 =>
  (ldA 7 h40 x1).bind fun t62 =>
  cl (k_live_Follows t61 t62 x0 h40) fun t64 h42 =>
  (lnL t64).bind fun t65 =>
  lp (k_live_Sets_1_L1 x3 t64 t65 (vs.getD 0 .bot) (AV.int .i64 0) h42) fun e_45 vs_46 h47 =>
  thenK (if e_45 = .exit 2 then .normal else e_45) (
  some ((vs_46.getD 0 .bot), h47)) (fun e_48 => endE e_48 (some ((AV.int .u64 0), h47)))) (fun e_49 => endE e_49 (some ((AV.int .u64 0), h40))))) (
  (ldA 6 h1 x2).bind fun t61_50 =>
  (ldA 7 h1 x1).bind fun t62_51 =>
  cl (k_live_Follows t61_50 t62_51 x0 h1) fun t64_52 h53 =>
  (lnL t64_52).bind fun t65_54 =>
  lp (k_live_Sets_1_L2 x3 t64_52 t65_54 (AV.int .u64 0) (AV.int .i64 0) h53) fun e_66 vs_67 h68 =>
  thenK (if e_66 = .exit 2 then .normal else e_66) (
  some ((vs_67.getD 0 .bot), h68)) (fun e_69 => endE e_69 (some ((AV.int .u64 0), h68))))
def T38 : Tab := (45, p4 k_live_Sets_1) :: T37
/- 119: (*gantline/verify.checker).slots$2 -/
def k_verify_checker_slots_2 (x0 : AV) (x1 : AV) (x2 : AV) (h : Heap) : Option (AV × Heap) :=
  mk (bxP x0) h fun t3 h0 =>
  (faP 0 t3).bind fun t5 =>
  (ldS h0 t5).bind fun t6 =>
  (eqP (some (.int .i64)) none false .eql t6 (AV.int .i64 0)).bind fun t7 =>
  gQ (gdW t7 true) h0 ((ldS h0 x1).bind fun t9 =>
  some (t9, h0)) fun t9_1 h2 =>
  gQ (gdW t7 true) h2 ((faP 1 t3).bind fun t10 =>
  some (t10, h2)) fun t10_3 h4 =>
  gQ (gdW t7 true) h4 ((ldS h4 t10_3).bind fun t11 =>
  some (t11, h4)) fun t11_5 h6 =>
  gQ (gdW t7 true) h6 (cl (k_verify_checker_slot t9_1 t11_5 h6) fun t12 h7 =>
  some (t12, h7)) fun t12_8 h9 =>
  gQ (gdW t7 true) h9 (some (t12_8, h9)) fun t13 h10 =>
  gQ (gdW t13 true) h10 ((ldS h10 x2).bind fun t14 =>
  some (t14, h10)) fun t14_11 h12 =>
  gQ (gdW t13 true) h12 ((faP 2 t3).bind fun t15 =>
  some (t15, h12)) fun t15_13 h14 =>
  gQ (gdW t13 true) h14 ((ldS h14 t15_13).bind fun t16 =>
  some (t16, h14)) fun t16_15 h16 =>
  gQ (gdW t13 true) h16 (clF (lookT T38) (cvP t14_11 [t16_15]) h16 fun t17 h17 =>
  some (t17, h17)) fun t17_18 h19 =>
  gQ (gdW t7 true) h19 ((pickP t13 t17_18 (AV.bool false)).bind fun t18 =>
  some (t18, h19)) fun t18_20 h21 =>
  gQ (gdW t7 true) h21 ((unA .not t18_20).bind fun t19 =>
  some (t19, h21)) fun t19_22 h23 =>
  (pickP t7 t19_22 (AV.bool false)).bind fun t20 =>
  gQ (gdW t20 false) h23 ((faP 0 t3).bind fun t22 =>
  some (t22, h23)) fun t22_24 h25 =>
  gQ (gdW t20 false) h25 ((ldS h25 t22_24).bind fun t23 =>
  some (t23, h25)) fun t23_26 h27 =>
  gQ (gdW t20 false) h27 ((eqP (some (.int .i64)) none false .eql t23_26 (AV.int .i64 1)).bind fun t24 =>
  some (t24, h27)) fun t24_28 h29 =>
  gQ (gdW t20 false) h29 (some (t24_28, h29)) fun t25 h30 =>
  gQ (gdW t25 true) h30 ((ldS h30 x1).bind fun t26 =>
  some (t26, h30)) fun t26_31 h32 =>
  gQ (gdW t25 true) h32 ((faP 1 t3).bind fun t27 =>
  some (t27, h32)) fun t27_33 h34 =>
  gQ (gdW t25 true) h34 ((ldS h34 t27_33).bind fun t28 =>
  some (t28, h34)) fun t28_35 h36 =>
  gQ (gdW t25 true) h36 (cl (k_verify_checker_slot t26_31 t28_35 h36) fun t29 h37 =>
  some (t29, h37)) fun t29_38 h39 =>
  gQ (gdW t25 true) h39 (some (t29_38, h39)) fun t30 h40 =>
  gQ (gdW t30 true) h40 ((ldS h40 x1).bind fun t31 =>
  some (t31, h40)) fun t31_41 h42 =>
  gQ (gdW t30 true) h42 ((faP 2 t3).bind fun t32 =>
  some (t32, h42)) fun t32_43 h44 =>
  gQ (gdW t30 true) h44 ((ldS h44 t32_43).bind fun t33 =>
  some (t33, h44)) fun t33_45 h46 =>
  gQ (gdW t30 true) h46 (cl (k_verify_checker_slot t31_41 t33_45 h46) fun t34 h47 =>
  some (t34, h47)) fun t34_48 h49 =>
  gQ (gdW t25 true) h49 ((pickP t30 t34_48 (AV.bool false)).bind fun t35 =>
  some (t35, h49)) fun t35_50 h51 =>
  gQ (gdW t25 true) h51 ((unA .not t35_50).bind fun t36 =>
  some (t36, h51)) fun t36_52 h53 =>
  gQ (gdW t20 false) h53 ((pickP t25 t36_52 (AV.bool false)).bind fun t37 =>
  some (t37, h53)) fun t37_54 h55 =>
  (pickP t20 (AV.bool true) t37_54).bind fun t38 =>
  some (t38, h55)
def T39 : Tab := (119, p3 k_verify_checker_slots_2) :: T38
/- 120: slices.ContainsFunc[[]int,int] -/
def k_slices_ContainsFunc_int_int (x0 : AV) (x1 : AV) (h : Heap) : Option (AV × Heap) :=
  cl (k_slices_IndexFunc_int_int x0 x1 h) fun t7 h0 =>
  (binP .geq t7 (AV.int .i64 0)).bind fun t8 =>
  some (t8, h0)
def T40 : Tab := (120, p2 k_slices_ContainsFunc_int_int) :: T39
/- 124: (*gantline/verify.checker).is -/
def k_verify_checker_is (x0 : AV) (x1 : AV) (x2 : AV) (h : Heap) : Option (AV × Heap) :=
  mk (bxP x0) h fun t3 h0 =>
  mk (bxP x1) h0 fun t4 h1 =>
  cl (k_slices_ContainsFunc_int_int x2 (AV.fn 130 [] [t3, t4]) h1) fun t9 h2 =>
  (unA .not t9).bind fun t10 =>
  some (t10, h2)
def T41 : Tab := (124, p3 k_verify_checker_is) :: T40
/- 125: (*gantline/verify.checker).kinds$1 -/
def k_verify_checker_kinds_1 (x0 : AV) (x1 : AV) (h : Heap) : Option (AV × Heap) :=
  mk (bxP x0) h fun t2 h0 =>
  (faP 0 t2).bind fun t4 =>
  (ldS h0 t4).bind fun t5 =>
  (eqP (some (.int .i64)) none false .neq t5 (AV.int .i64 2)).bind fun t6 =>
  gQ (gdW t6 true) h0 ((ldS h0 x1).bind fun t8 =>
  some (t8, h0)) fun t8_1 h2 =>
  gQ (gdW t6 true) h2 ((faP 1 t2).bind fun t9 =>
  some (t9, h2)) fun t9_3 h4 =>
  gQ (gdW t6 true) h4 ((ldS h4 t9_3).bind fun t10 =>
  some (t10, h4)) fun t10_5 h6 =>
  gQ (gdW t6 true) h6 (mk (bsP 1 [(AV.int .i64 0)] 1 [(0, t10_5)]) h6 fun t11 h7 =>
  some (t11, h7)) fun t11_8 h9 =>
  gQ (gdW t6 true) h9 (cl (k_verify_checker_is t8_1 (AV.bool true) t11_8 h9) fun t12 h10 =>
  some (t12, h10)) fun t12_11 h12 =>
  gQ (gdW t6 true) h12 ((unA .not t12_11).bind fun t13 =>
  some (t13, h12)) fun t13_13 h14 =>
  (pickP t6 t13_13 (AV.bool false)).bind fun t14 =>
  some (t14, h14)
def T42 : Tab := (125, p2 k_verify_checker_kinds_1) :: T41
/- 38: gantline/gantlinelaw12.one -/
def k_law12_one (x0 : AV) (h : Heap) : Option (AV × Heap) :=
  mk (some (Blk.cells true [(AV.sl none 0 (.ex 0)), (AV.sl none 0 (.ex 0)), (AV.sl none 0 (.ex 0)), (AV.sl none 0 (.ex 0)), (AV.sl none 0 (.ex 0)), (AV.int .i64 0)], fun i => AV.ptr (some (i, 0)))) h fun t2 h0 =>
  mk (bsP 1 [(AV.bool false)] 1 [(0, (AV.bool true))]) h0 fun t3 h1 =>
  (bldS [(0, 1), (1, 1), (2, 1), (3, 1), (4, 1)] [(AV.int .i64 0), (AV.int .i64 0), (AV.int .i64 0), (AV.int .i64 0), (AV.int .i64 0)] [(0, (AV.int .i64 22)), (1, (AV.int .i64 (-1)))]).bind fun t4 =>
  mk (bsP 5 [(AV.int .i64 0), (AV.int .i64 0), (AV.int .i64 0), (AV.int .i64 0), (AV.int .i64 0)] 1 [(0, t4)]) h1 fun t5 h2 =>
  mk (bsP 1 [(AV.int .u64 0)] 1 [(0, x0)]) h2 fun t7 h3 =>
  (bldS [(0, 1), (1, 1), (2, 1), (3, 1), (4, 1), (5, 1), (6, 1)] [(AV.int .i64 0), (AV.int .i64 0), (AV.int .i64 0), (AV.int .i64 0), (AV.sl none 0 (.ex 0)), (AV.sl none 0 (.ex 0)), (AV.sl none 0 (.ex 0))] [(2, (AV.int .i64 1)), (4, t3), (5, t5), (6, t7)]).bind fun t8 =>
  mk (bsP 7 [(AV.int .i64 0), (AV.int .i64 0), (AV.int .i64 0), (AV.int .i64 0), (AV.sl none 0 (.ex 0)), (AV.sl none 0 (.ex 0)), (AV.sl none 0 (.ex 0))] 1 [(0, t8)]) h3 fun t9 h4 =>
  (bldS [(0, 1), (1, 1), (2, 1), (3, 1), (4, 1), (5, 1)] [(AV.sl none 0 (.ex 0)), (AV.sl none 0 (.ex 0)), (AV.sl none 0 (.ex 0)), (AV.sl none 0 (.ex 0)), (AV.sl none 0 (.ex 0)), (AV.int .i64 0)] [(4, t9)]).bind fun t10 =>
  cl (stP 6 h4 t2 t10) fun u h5 =>
  (ldA 6 h5 t2).bind fun t =>
  some (t, h5)
def T43 : Tab := (38, p1 k_law12_one) :: T42
/- 110: slices.IndexFunc[[]gantline/head.Shape,gantline/head.Shape] -/
def k_slices_IndexFunc_head_Shape_head_Shape_b0 (x0 : AV) (x1 : AV) (t7 : AV) (q4 : AV) (q8 : AV) (h0 : Heap) : OutV :=
  (binP .lss q8 t7).bind fun t9 =>
  condE t9 (
  (iaS 3 x0 q8).bind fun t14 =>
  (ldA 3 h0 t14).bind fun t15 =>
  clF (lookT T43) (cvP x1 [t15]) h0 fun t16 h1 =>
  condE t16 (
  some (.ret, [q8, q8], h1)) (
  (binP .add q8 (AV.int .i64 1)).bind fun t18 =>
  some (.normal, [q4, t18], h1))) (
  some ((.exit 0), [q4, q8], h0))
def k_slices_IndexFunc_head_Shape_head_Shape_L0 (x0 : AV) (x1 : AV) (t7 : AV) (q4 : AV) (q8 : AV) (h0 : Heap) : OutV := loopN (fun us g => k_slices_IndexFunc_head_Shape_head_Shape_b0 x0 x1 t7 (us.getD 0 .bot) (us.getD 1 .bot) g) [q4, q8] h0
def k_slices_IndexFunc_head_Shape_head_Shape (x0 : AV) (x1 : AV) (h : Heap) : Option (AV × Heap) :=
  (lnL x0).bind fun t7 =>
  lp (k_slices_IndexFunc_head_Shape_head_Shape_L0 x0 x1 t7 (AV.int .i64 0) (AV.int .i64 0) h) fun e vs h2 =>
  thenK (if e = .exit 0 then .normal else e) (
  some ((AV.int .i64 (-1)), h2)) (fun e_3 => endE e_3 (some ((vs.getD 0 .bot), h2)))
def T44 : Tab := (110, p2 k_slices_IndexFunc_head_Shape_head_Shape) :: T43
/- 95: slices.ContainsFunc[[]gantline/head.Shape,gantline/head.Shape] -/
def k_slices_ContainsFunc_head_Shape_head_Shape (x0 : AV) (x1 : AV) (h : Heap) : Option (AV × Heap) :=
  cl (k_slices_IndexFunc_head_Shape_head_Shape x0 x1 h) fun t7 h0 =>
  (binP .geq t7 (AV.int .i64 0)).bind fun t8 =>
  some (t8, h0)
def T45 : Tab := (95, p2 k_slices_ContainsFunc_head_Shape_head_Shape) :: T44
/- 111: slices.IndexFunc[[]int64,int64] -/
def k_slices_IndexFunc_int64_int64_b0 (x0 : AV) (x1 : AV) (t7 : AV) (q4 : AV) (q8 : AV) (h0 : Heap) : OutV :=
  (binP .lss q8 t7).bind fun t9 =>
  condE t9 (
  (iaS 1 x0 q8).bind fun t14 =>
  (ldS h0 t14).bind fun t15 =>
  clF (lookT T45) (cvP x1 [t15]) h0 fun t16 h1 =>
  condE t16 (
  some (.ret, [q8, q8], h1)) (
  (binP .add q8 (AV.int .i64 1)).bind fun t18 =>
  some (.normal, [q4, t18], h1))) (
  some ((.exit 0), [q4, q8], h0))
def k_slices_IndexFunc_int64_int64_L0 (x0 : AV) (x1 : AV) (t7 : AV) (q4 : AV) (q8 : AV) (h0 : Heap) : OutV := loopN (fun us g => k_slices_IndexFunc_int64_int64_b0 x0 x1 t7 (us.getD 0 .bot) (us.getD 1 .bot) g) [q4, q8] h0
def k_slices_IndexFunc_int64_int64 (x0 : AV) (x1 : AV) (h : Heap) : Option (AV × Heap) :=
  (lnL x0).bind fun t7 =>
  lp (k_slices_IndexFunc_int64_int64_L0 x0 x1 t7 (AV.int .i64 0) (AV.int .i64 0) h) fun e vs h2 =>
  thenK (if e = .exit 0 then .normal else e) (
  some ((AV.int .i64 (-1)), h2)) (fun e_3 => endE e_3 (some ((vs.getD 0 .bot), h2)))
def T46 : Tab := (111, p2 k_slices_IndexFunc_int64_int64) :: T45
/- 96: slices.ContainsFunc[[]int64,int64] -/
def k_slices_ContainsFunc_int64_int64 (x0 : AV) (x1 : AV) (h : Heap) : Option (AV × Heap) :=
  cl (k_slices_IndexFunc_int64_int64 x0 x1 h) fun t7 h0 =>
  (binP .geq t7 (AV.int .i64 0)).bind fun t8 =>
  some (t8, h0)
def T47 : Tab := (96, p2 k_slices_ContainsFunc_int64_int64) :: T46
/- 76: gantline/verify.module -/
def k_verify_module (x0 : AV) (h : Heap) : Option (AV × Heap) :=
  mk (bxP x0) h fun t1 h0 =>
  (faP 0 t1).bind fun t7 =>
  (ldS h0 t7).bind fun t8 =>
  cl (k_slices_ContainsFunc_head_Shape_head_Shape t8 (AV.fn 91 [] []) h0) fun t10 h1 =>
  gQ (gdW t10 false) h1 ((faP 0 t1).bind fun t12 =>
  some (t12, h1)) fun t12_2 h3 =>
  gQ (gdW t10 false) h3 ((ldS h3 t12_2).bind fun t13 =>
  some (t13, h3)) fun t13_4 h5 =>
  gQ (gdW t10 false) h5 ((lnL t13_4).bind fun t14 =>
  some (t14, h5)) fun t14_6 h7 =>
  gQ (gdW t10 false) h7 ((binP .gtr t14_6 (AV.int .i64 1024)).bind fun t15 =>
  some (t15, h7)) fun t15_8 h9 =>
  (pickP t10 (AV.bool true) t15_8).bind fun t16 =>
  gQ (gdW t16 false) h9 ((faP 1 t1).bind fun t18 =>
  some (t18, h9)) fun t18_10 h11 =>
  gQ (gdW t16 false) h11 ((ldS h11 t18_10).bind fun t19 =>
  some (t19, h11)) fun t19_12 h13 =>
  gQ (gdW t16 false) h13 ((lnL t19_12).bind fun t20 =>
  some (t20, h13)) fun t20_14 h15 =>
  gQ (gdW t16 false) h15 ((binP .gtr t20_14 (AV.int .i64 256)).bind fun t21 =>
  some (t21, h15)) fun t21_16 h17 =>
  (pickP t16 (AV.bool true) t21_16).bind fun t22 =>
  gQ (gdW t22 false) h17 ((faP 2 t1).bind fun t24 =>
  some (t24, h17)) fun t24_18 h19 =>
  gQ (gdW t22 false) h19 ((ldS h19 t24_18).bind fun t25 =>
  some (t25, h19)) fun t25_20 h21 =>
  gQ (gdW t22 false) h21 ((lnL t25_20).bind fun t26 =>
  some (t26, h21)) fun t26_22 h23 =>
  gQ (gdW t22 false) h23 ((binP .gtr t26_22 (AV.int .i64 4096)).bind fun t27 =>
  some (t27, h23)) fun t27_24 h25 =>
  (pickP t22 (AV.bool true) t27_24).bind fun t28 =>
  gQ (gdW t28 false) h25 ((faP 2 t1).bind fun t30 =>
  some (t30, h25)) fun t30_26 h27 =>
  gQ (gdW t28 false) h27 ((ldS h27 t30_26).bind fun t31 =>
  some (t31, h27)) fun t31_28 h29 =>
  gQ (gdW t28 false) h29 (some ((AV.fn 93 [] []), h29)) fun t32 h30 =>
  gQ (gdW t28 false) h30 (cl (k_slices_ContainsFunc_int64_int64 t31_28 t32 h30) fun t33 h31 =>
  some (t33, h31)) fun t33_32 h33 =>
  (pickP t28 (AV.bool true) t33_32).bind fun t34 =>
  gQ (gdW t34 false) h33 ((faP 3 t1).bind fun t36 =>
  some (t36, h33)) fun t36_34 h35 =>
  gQ (gdW t34 false) h35 ((ldS h35 t36_34).bind fun t37 =>
  some (t37, h35)) fun t37_36 h37 =>
  gQ (gdW t34 false) h37 ((lnL t37_36).bind fun t38 =>
  some (t38, h37)) fun t38_38 h39 =>
  gQ (gdW t34 false) h39 ((binP .gtr t38_38 (AV.int .i64 1024)).bind fun t39 =>
  some (t39, h39)) fun t39_40 h41 =>
  (pickP t34 (AV.bool true) t39_40).bind fun t40 =>
  gQ (gdW t40 false) h41 ((faP 4 t1).bind fun t42 =>
  some (t42, h41)) fun t42_42 h43 =>
  gQ (gdW t40 false) h43 ((ldS h43 t42_42).bind fun t43 =>
  some (t43, h43)) fun t43_44 h45 =>
  gQ (gdW t40 false) h45 ((lnL t43_44).bind fun t44 =>
  some (t44, h45)) fun t44_46 h47 =>
  gQ (gdW t40 false) h47 ((binP .gtr t44_46 (AV.int .i64 128)).bind fun t45 =>
  some (t45, h47)) fun t45_48 h49 =>
  (pickP t40 (AV.bool true) t45_48).bind fun t46 =>
  gQ (gdW t46 false) h49 ((faP 4 t1).bind fun t48 =>
  some (t48, h49)) fun t48_50 h51 =>
  gQ (gdW t46 false) h51 ((ldS h51 t48_50).bind fun t49 =>
  some (t49, h51)) fun t49_52 h53 =>
  gQ (gdW t46 false) h53 ((lnL t49_52).bind fun t50 =>
  some (t50, h53)) fun t50_54 h55 =>
  gQ (gdW t46 false) h55 ((binP .lss t50_54 (AV.int .i64 1)).bind fun t51 =>
  some (t51, h55)) fun t51_56 h57 =>
  (pickP t46 (AV.bool true) t51_56).bind fun t52 =>
  condE t52 (
  some ((AV.int .i64 1), h57)) (
  (faP 5 t1).bind fun t54 =>
  (ldS h57 t54).bind fun t55 =>
  (binP .lss t55 (AV.int .i64 0)).bind fun t56 =>
  gQ (gdW t56 false) h57 ((faP 5 t1).bind fun t58 =>
  some (t58, h57)) fun t58_58 h59 =>
  gQ (gdW t56 false) h59 ((ldS h59 t58_58).bind fun t59 =>
  some (t59, h59)) fun t59_60 h61 =>
  gQ (gdW t56 false) h61 ((faP 4 t1).bind fun t60 =>
  some (t60, h61)) fun t60_62 h63 =>
  gQ (gdW t56 false) h63 ((ldS h63 t60_62).bind fun t61 =>
  some (t61, h63)) fun t61_64 h65 =>
  gQ (gdW t56 false) h65 ((lnL t61_64).bind fun t62 =>
  some (t62, h65)) fun t62_66 h67 =>
  gQ (gdW t56 false) h67 ((binP .geq t59_60 t62_66).bind fun t63 =>
  some (t63, h67)) fun t63_68 h69 =>
  (pickP t56 (AV.bool true) t63_68).bind fun t64 =>
  condE t64 (
  some ((AV.int .i64 2), h69)) (
  (faP 4 t1).bind fun t65 =>
  (ldS h69 t65).bind fun t66 =>
  (faP 5 t1).bind fun t67 =>
  (ldS h69 t67).bind fun t68 =>
  (iaS 7 t66 t68).bind fun t69 =>
  (ldA 7 h69 t69).bind fun t70 =>
  mk (some (Blk.cells true [(AV.int .i64 0), (AV.int .i64 0), (AV.int .i64 0), (AV.int .i64 0), (AV.sl none 0 (.ex 0)), (AV.sl none 0 (.ex 0)), (AV.sl none 0 (.ex 0))], fun i => AV.ptr (some (i, 0)))) h69 fun t5 h70 =>
  cl (stP 7 h70 t5 t70) fun u h71 =>
  (faP 0 t5).bind fun t71 =>
  (ldS h71 t71).bind fun t72 =>
  (eqP (some (.int .i64)) none false .neq t72 (AV.int .i64 0)).bind fun t73 =>
  gQ (gdW t73 false) h71 ((faP 1 t5).bind fun t75 =>
  some (t75, h71)) fun t75_72 h73 =>
  gQ (gdW t73 false) h73 ((ldS h73 t75_72).bind fun t76 =>
  some (t76, h73)) fun t76_74 h75 =>
  gQ (gdW t73 false) h75 ((eqP (some (.int .i64)) none false .neq t76_74 (AV.int .i64 0)).bind fun t77 =>
  some (t77, h75)) fun t77_76 h77 =>
  (pickP t73 (AV.bool true) t77_76).bind fun t78 =>
  gQ (gdW t78 false) h77 ((faP 3 t5).bind fun t80 =>
  some (t80, h77)) fun t80_78 h79 =>
  gQ (gdW t78 false) h79 ((ldS h79 t80_78).bind fun t81 =>
  some (t81, h79)) fun t81_80 h81 =>
  gQ (gdW t78 false) h81 ((eqP (some (.int .i64)) none false .neq t81_80 (AV.int .i64 0)).bind fun t82 =>
  some (t82, h81)) fun t82_82 h83 =>
  (pickP t78 (AV.bool true) t82_82).bind fun t83 =>
  condE t83 (
  some ((AV.int .i64 2), h83)) (
  some ((AV.int .i64 0), h83))))
def T48 : Tab := (76, p1 k_verify_module) :: T47
/- 77: gantline/verify.whole -/
def k_verify_whole (x0 : AV) (h : Heap) : Option (AV × Heap) :=
  mk (bxP x0) h fun t1 h0 =>
  (faP 5 t1).bind fun t4 =>
  (ldS h0 t4).bind fun t5 =>
  (lnL t5).bind fun t6 =>
  (faP 0 t1).bind fun t7 =>
  (ldS h0 t7).bind fun t8 =>
  (binP .geq t8 (AV.int .i64 0)).bind fun t9 =>
  gQ (gdW t9 true) h0 ((faP 1 t1).bind fun t11 =>
  some (t11, h0)) fun t11_1 h2 =>
  gQ (gdW t9 true) h2 ((ldS h2 t11_1).bind fun t12 =>
  some (t12, h2)) fun t12_3 h4 =>
  gQ (gdW t9 true) h4 ((binP .geq t12_3 (AV.int .i64 0)).bind fun t13 =>
  some (t13, h4)) fun t13_5 h6 =>
  (pickP t9 t13_5 (AV.bool false)).bind fun t14 =>
  gQ (gdW t14 true) h6 ((faP 1 t1).bind fun t16 =>
  some (t16, h6)) fun t16_7 h8 =>
  gQ (gdW t14 true) h8 ((ldS h8 t16_7).bind fun t17 =>
  some (t17, h8)) fun t17_9 h10 =>
  gQ (gdW t14 true) h10 ((binP .leq t17_9 (AV.int .i64 62)).bind fun t18 =>
  some (t18, h10)) fun t18_11 h12 =>
  (pickP t14 t18_11 (AV.bool false)).bind fun t19 =>
  gQ (gdW t19 true) h12 ((faP 2 t1).bind fun t21 =>
  some (t21, h12)) fun t21_13 h14 =>
  gQ (gdW t19 true) h14 ((ldS h14 t21_13).bind fun t22 =>
  some (t22, h14)) fun t22_15 h16 =>
  gQ (gdW t19 true) h16 ((binP .geq t22_15 (AV.int .i64 0)).bind fun t23 =>
  some (t23, h16)) fun t23_17 h18 =>
  (pickP t19 t23_17 (AV.bool false)).bind fun t24 =>
  gQ (gdW t24 true) h18 ((faP 2 t1).bind fun t26 =>
  some (t26, h18)) fun t26_19 h20 =>
  gQ (gdW t24 true) h20 ((ldS h20 t26_19).bind fun t27 =>
  some (t27, h20)) fun t27_21 h22 =>
  gQ (gdW t24 true) h22 ((binP .leq t27_21 (AV.int .i64 64)).bind fun t28 =>
  some (t28, h22)) fun t28_23 h24 =>
  (pickP t24 t28_23 (AV.bool false)).bind fun t29 =>
  gQ (gdW t29 true) h24 ((faP 0 t1).bind fun t31 =>
  some (t31, h24)) fun t31_25 h26 =>
  gQ (gdW t29 true) h26 ((ldS h26 t31_25).bind fun t32 =>
  some (t32, h26)) fun t32_27 h28 =>
  gQ (gdW t29 true) h28 ((faP 2 t1).bind fun t33 =>
  some (t33, h28)) fun t33_29 h30 =>
  gQ (gdW t29 true) h30 ((ldS h30 t33_29).bind fun t34 =>
  some (t34, h30)) fun t34_31 h32 =>
  gQ (gdW t29 true) h32 ((binP .leq t32_27 t34_31).bind fun t35 =>
  some (t35, h32)) fun t35_33 h34 =>
  (pickP t29 t35_33 (AV.bool false)).bind fun t36 =>
  gQ (gdW t36 true) h34 ((faP 1 t1).bind fun t38 =>
  some (t38, h34)) fun t38_35 h36 =>
  gQ (gdW t36 true) h36 ((ldS h36 t38_35).bind fun t39 =>
  some (t39, h36)) fun t39_37 h38 =>
  gQ (gdW t36 true) h38 ((faP 2 t1).bind fun t40 =>
  some (t40, h38)) fun t40_39 h40 =>
  gQ (gdW t36 true) h40 ((ldS h40 t40_39).bind fun t41 =>
  some (t41, h40)) fun t41_41 h42 =>
  gQ (gdW t36 true) h42 ((faP 0 t1).bind fun t42 =>
  some (t42, h42)) fun t42_43 h44 =>
  gQ (gdW t36 true) h44 ((ldS h44 t42_43).bind fun t43 =>
  some (t43, h44)) fun t43_45 h46 =>
  gQ (gdW t36 true) h46 ((binP .sub t41_41 t43_45).bind fun t44 =>
  some (t44, h46)) fun t44_47 h48 =>
  gQ (gdW t36 true) h48 ((binP .leq t39_37 t44_47).bind fun t45 =>
  some (t45, h48)) fun t45_49 h50 =>
  (pickP t36 t45_49 (AV.bool false)).bind fun t46 =>
  gQ (gdW t46 true) h50 ((faP 4 t1).bind fun t48 =>
  some (t48, h50)) fun t48_51 h52 =>
  gQ (gdW t46 true) h52 ((ldS h52 t48_51).bind fun t49 =>
  some (t49, h52)) fun t49_53 h54 =>
  gQ (gdW t46 true) h54 ((lnL t49_53).bind fun t50 =>
  some (t50, h54)) fun t50_55 h56 =>
  gQ (gdW t46 true) h56 ((faP 2 t1).bind fun t51 =>
  some (t51, h56)) fun t51_57 h58 =>
  gQ (gdW t46 true) h58 ((ldS h58 t51_57).bind fun t52 =>
  some (t52, h58)) fun t52_59 h60 =>
  gQ (gdW t46 true) h60 ((eqP (some (.int .i64)) none false .eql t50_55 t52_59).bind fun t53 =>
  some (t53, h60)) fun t53_61 h62 =>
  (pickP t46 t53_61 (AV.bool false)).bind fun t54 =>
  gQ (gdW t54 true) h62 ((faP 3 t1).bind fun t56 =>
  some (t56, h62)) fun t56_63 h64 =>
  gQ (gdW t54 true) h64 ((ldS h64 t56_63).bind fun t57 =>
  some (t57, h64)) fun t57_65 h66 =>
  gQ (gdW t54 true) h66 ((binP .geq t57_65 (AV.int .i64 0)).bind fun t58 =>
  some (t58, h66)) fun t58_67 h68 =>
  (pickP t54 t58_67 (AV.bool false)).bind fun t59 =>
  gQ (gdW t59 true) h68 ((faP 3 t1).bind fun t61 =>
  some (t61, h68)) fun t61_69 h70 =>
  gQ (gdW t59 true) h70 ((ldS h70 t61_69).bind fun t62 =>
  some (t62, h70)) fun t62_71 h72 =>
  gQ (gdW t59 true) h72 ((binP .leq t62_71 (AV.int .i64 2)).bind fun t63 =>
  some (t63, h72)) fun t63_73 h74 =>
  (pickP t59 t63_73 (AV.bool false)).bind fun t64 =>
  gQ (gdW t64 true) h74 (some (t6, h74)) fun t66 h75 =>
  gQ (gdW t64 true) h75 ((binP .geq t66 (AV.int .i64 1)).bind fun t67 =>
  some (t67, h75)) fun t67_76 h77 =>
  (pickP t64 t67_76 (AV.bool false)).bind fun t68 =>
  gQ (gdW t68 true) h77 (some (t6, h77)) fun t70 h78 =>
  gQ (gdW t68 true) h78 ((binP .leq t70 (AV.int .i64 4096)).bind fun t71 =>
  some (t71, h78)) fun t71_79 h80 =>
  (pickP t68 t71_79 (AV.bool false)).bind fun t72 =>
  gQ (gdW t72 true) h80 ((faP 6 t1).bind fun t74 =>
  some (t74, h80)) fun t74_81 h82 =>
  gQ (gdW t72 true) h82 ((ldS h82 t74_81).bind fun t75 =>
  some (t75, h82)) fun t75_83 h84 =>
  gQ (gdW t72 true) h84 ((lnL t75_83).bind fun t76 =>
  some (t76, h84)) fun t76_85 h86 =>
  gQ (gdW t72 true) h86 (some (t6, h86)) fun t77 h87 =>
  gQ (gdW t72 true) h87 ((eqP (some (.int .i64)) none false .eql t76_85 t77).bind fun t78 =>
  some (t78, h87)) fun t78_88 h89 =>
  (pickP t72 t78_88 (AV.bool false)).bind fun t79 =>
  some (t79, h89)
def T49 : Tab := (77, p1 k_verify_whole) :: T48
/- 41: gantline/live.fn -/
def k_live_fn (x0 : AV) (x1 : AV) (h : Heap) : Option (AV × Heap) :=
  mk (bxP x0) h fun t2 h0 =>
  mk (some (Blk.cells true [(AV.int .i64 0), (AV.int .i64 0), (AV.int .i64 0), (AV.int .i64 0), (AV.sl none 0 (.ex 0)), (AV.sl none 0 (.ex 0)), (AV.sl none 0 (.ex 0))], fun i => AV.ptr (some (i, 0)))) h0 fun t4 h1 =>
  (binP .lss x1 (AV.int .i64 0)).bind fun t6 =>
  gQ (gdW t6 false) h1 (some (x1, h1)) fun t8 h2 =>
  gQ (gdW t6 false) h2 ((faP 4 t2).bind fun t9 =>
  some (t9, h2)) fun t9_3 h4 =>
  gQ (gdW t6 false) h4 ((ldS h4 t9_3).bind fun t10 =>
  some (t10, h4)) fun t10_5 h6 =>
  gQ (gdW t6 false) h6 ((lnL t10_5).bind fun t11 =>
  some (t11, h6)) fun t11_7 h8 =>
  gQ (gdW t6 false) h8 ((binP .geq t8 t11_7).bind fun t12 =>
  some (t12, h8)) fun t12_9 h10 =>
  (pickP t6 (AV.bool true) t12_9).bind fun t13 =>
  condE t13 (
  (bldS [(0, 1), (1, 1), (2, 1), (3, 1), (4, 1), (5, 1), (6, 1)] [(AV.int .i64 0), (AV.int .i64 0), (AV.int .i64 0), (AV.int .i64 0), (AV.sl none 0 (.ex 0)), (AV.sl none 0 (.ex 0)), (AV.sl none 0 (.ex 0))] []).bind fun t14 =>
  cl (stP 7 h10 t4 t14) fun u h11 =>
  (ldA 7 h11 t4).bind fun t =>
  some (t, h11)) (
  (faP 4 t2).bind fun t15 =>
  (ldS h10 t15).bind fun t16 =>
  (iaS 7 t16 x1).bind fun t18 =>
  (ldA 7 h10 t18).bind fun t19 =>
  cl (stP 7 h10 t4 t19) fun u_12 h13 =>
  (ldA 7 h13 t4).bind fun t_14 =>
  some (t_14, h13))
def T50 : Tab := (41, p2 k_live_fn) :: T49
/- 40: gantline/live.run -/
def k_live_run_b0 (x0 : AV) (x1 : AV) (q5_1 : AV) (q10_2 : AV) (h3 : Heap) : OutV :=
  (binP .lss q10_2 x1).bind fun t11 =>
  condE t11 (
  (binP .add x0 q10_2).bind fun t16 =>
  mk (bsP 1 [(AV.int .i64 0)] 1 [(0, t16)]) h3 fun t17 h4 =>
  cl (appendA h4 1 8 q5_1 t17) fun t18 h5 =>
  (binP .add q10_2 (AV.int .i64 1)).bind fun t19 =>
  some (.normal, [t18, t19], h5)) (
  some ((.exit 0), [q5_1, q10_2], h3))
def k_live_run_L0 (x0 : AV) (x1 : AV) (q5_1 : AV) (q10_2 : AV) (h3 : Heap) : OutV := loopN (fun us g => k_live_run_b0 x0 x1 (us.getD 0 .bot) (us.getD 1 .bot) g) [q5_1, q10_2] h3
def k_live_run (x0 : AV) (x1 : AV) (h : Heap) : Option (AV × Heap) :=
  (binP .leq x1 (AV.int .i64 64)).bind fun t8 =>
  condE t8 (
  lp (k_live_run_L0 x0 x1 (AV.sl none 0 (.ex 0)) (AV.int .i64 0) h) fun e vs h6 =>
  thenK (if e = .exit 0 then .normal else e) (
  some ((vs.getD 0 .bot), h6)) (fun e_7 => endE e_7 (some ((AV.sl none 0 (.ex 0)), h6)))) (
  some ((AV.sl none 0 (.ex 0)), h))
def T51 : Tab := (40, p2 k_live_run) :: T50
/- 42: gantline/live.given -/
def k_live_given (x0 : AV) (h : Heap) : Option (AV × Heap) :=
  cl (k_slices_DeleteFunc_int_int x0 (AV.fn 65 [] []) h) fun t4 h0 =>
  some (t4, h0)
def T52 : Tab := (42, p1 k_live_given) :: T51
/- 43: gantline/live.readsOf -/
def k_live_readsOf_j0 (q8 : AV) (t5 : AV) (q3_10 : AV) (h11 : Heap) : OutV :=
  (faP 0 t5).bind fun t20 =>
  (ldS h11 t20).bind fun t21 =>
  (eqP (some (.int .i64)) none false .eql t21 (AV.int .i64 1)).bind fun t22 =>
  condE t22 (
  (faP 2 t5).bind fun t24 =>
  (ldS h11 t24).bind fun t25 =>
  mk (bsP 1 [(AV.int .i64 0)] 1 [(0, t25)]) h11 fun t26 h20 =>
  cl (appendA h20 1 8 q3_10 t26) fun t27 h21 =>
  (binP .add q8 (AV.int .i64 1)).bind fun t28_22 =>
  some (.normal, [t27, t28_22], h21)) (
  (binP .add q8 (AV.int .i64 1)).bind fun t28_23 =>
  some (.normal, [q3_10, t28_23], h11))
def k_live_readsOf_b0 (x0 : AV) (t7 : AV) (q3 : AV) (q8 : AV) (h0 : Heap) : OutV :=
  (binP .lss q8 t7).bind fun t9 =>
  condE t9 (
  (iaS 4 x0 q8).bind fun t10 =>
  (ldA 4 h0 t10).bind fun t11 =>
  mk (some (Blk.cells true [(AV.int .i64 0), (AV.int .i64 0), (AV.int .i64 0), (AV.int .i64 0)], fun i => AV.ptr (some (i, 0)))) h0 fun t5 h3 =>
  cl (stP 4 h3 t5 t11) fun u h4 =>
  (faP 0 t5).bind fun t12 =>
  (ldS h4 t12).bind fun t13 =>
  (eqP (some (.int .i64)) none false .neq t13 (AV.int .i64 2)).bind fun t14 =>
  condE t14 (
  (faP 1 t5).bind fun t16 =>
  (ldS h4 t16).bind fun t17 =>
  mk (bsP 1 [(AV.int .i64 0)] 1 [(0, t17)]) h4 fun t18 h24 =>
  cl (appendA h24 1 8 q3 t18) fun t19 h25 =>
  k_live_readsOf_j0 q8 t5 t19 h25) (
  k_live_readsOf_j0 q8 t5 q3 h4)) (
  some ((.exit 0), [q3, q8], h0))
def k_live_readsOf_L0 (x0 : AV) (t7 : AV) (q3 : AV) (q8 : AV) (h0 : Heap) : OutV := loopN (fun us g => k_live_readsOf_b0 x0 t7 (us.getD 0 .bot) (us.getD 1 .bot) g) [q3, q8] h0
def k_live_readsOf (x0 : AV) (h : Heap) : Option (AV × Heap) :=
  (lnL x0).bind fun t7 =>
  lp (k_live_readsOf_L0 x0 t7 (AV.sl none 0 (.ex 0)) (AV.int .i64 0) h) fun e vs h26 =>
  thenK (if e = .exit 0 then .normal else e) (
  some ((vs.getD 0 .bot), h26)) (fun e_27 => endE e_27 (some ((AV.sl none 0 (.ex 0)), h26)))
def T53 : Tab := (43, p1 k_live_readsOf) :: T52
/- 14: gantline/live.Reads -/
def k_live_Reads (x0 : AV) (x1 : AV) (h : Heap) : Option (AV × Heap) :=
  mk (bxP x0) h fun t2 h0 =>
  mk (bxP x1) h0 fun t3 h1 =>
  (faP 0 t3).bind fun t6 =>
  (ldS h1 t6).bind fun t7 =>
  (eqP (some (.int .i64)) none false .eql t7 (AV.int .i64 1)).bind fun t10 =>
  gQ (gdW t10 false) h1 (some (t7, h1)) fun t12 h2 =>
  gQ (gdW t10 false) h2 ((eqP (some (.int .i64)) none false .eql t12 (AV.int .i64 17)).bind fun t13 =>
  some (t13, h2)) fun t13_3 h4 =>
  (pickP t10 (AV.bool true) t13_3).bind fun t14 =>
  gQ (gdW t14 false) h4 (some (t7, h4)) fun t16 h5 =>
  gQ (gdW t14 false) h5 ((eqP (some (.int .i64)) none false .eql t16 (AV.int .i64 33)).bind fun t17 =>
  some (t17, h5)) fun t17_6 h7 =>
  (pickP t14 (AV.bool true) t17_6).bind fun t18 =>
  gQ (gdW t18 false) h7 (some (t7, h7)) fun t20 h8 =>
  gQ (gdW t18 false) h8 ((eqP (some (.int .i64)) none false .eql t20 (AV.int .i64 35)).bind fun t21 =>
  some (t21, h8)) fun t21_9 h10 =>
  (pickP t18 (AV.bool true) t21_9).bind fun t22 =>
  gQ (gdW t22 false) h10 (some (t7, h10)) fun t24 h11 =>
  gQ (gdW t22 false) h11 ((eqP (some (.int .i64)) none false .eql t24 (AV.int .i64 27)).bind fun t25 =>
  some (t25, h11)) fun t25_12 h13 =>
  (pickP t22 (AV.bool true) t25_12).bind fun t26 =>
  gQ (gdW t26 false) h13 (some (t7, h13)) fun t28 h14 =>
  gQ (gdW t26 false) h14 ((eqP (some (.int .i64)) none false .eql t28 (AV.int .i64 39)).bind fun t29 =>
  some (t29, h14)) fun t29_15 h16 =>
  (pickP t26 (AV.bool true) t29_15).bind fun t30 =>
  condE t30 (
  (faP 2 t3).bind fun t31 =>
  (ldS h16 t31).bind fun t32 =>
  mk (bsP 1 [(AV.int .i64 0)] 1 [(0, t32)]) h16 fun t33 h17 =>
  some (t33, h17)) (
  (binP .geq t7 (AV.int .i64 3)).bind fun t36 =>
  gQ (gdW t36 true) h16 (some (t7, h16)) fun t38 h18 =>
  gQ (gdW t36 true) h18 ((binP .leq t38 (AV.int .i64 16)).bind fun t39 =>
  some (t39, h18)) fun t39_19 h20 =>
  (pickP t36 t39_19 (AV.bool false)).bind fun t40 =>
  gQ (gdW t40 false) h20 (some (t7, h20)) fun t42 h21 =>
  gQ (gdW t40 false) h21 ((eqP (some (.int .i64)) none false .eql t42 (AV.int .i64 30)).bind fun t43 =>
  some (t43, h21)) fun t43_22 h23 =>
  (pickP t40 (AV.bool true) t43_22).bind fun t44 =>
  condE t44 (
  (faP 2 t3).bind fun t45 =>
  (ldS h23 t45).bind fun t46 =>
  (faP 3 t3).bind fun t47 =>
  (ldS h23 t47).bind fun t48 =>
  mk (bsP 1 [(AV.int .i64 0)] 2 [(0, t46), (1, t48)]) h23 fun t49 h24 =>
  some (t49, h24)) (
  (eqP (some (.int .i64)) none false .eql t7 (AV.int .i64 19)).bind fun t52 =>
  gQ (gdW t52 false) h23 (some (t7, h23)) fun t54 h25 =>
  gQ (gdW t52 false) h25 ((eqP (some (.int .i64)) none false .eql t54 (AV.int .i64 40)).bind fun t55 =>
  some (t55, h25)) fun t55_26 h27 =>
  (pickP t52 (AV.bool true) t55_26).bind fun t56 =>
  gQ (gdW t56 false) h27 (some (t7, h27)) fun t58 h28 =>
  gQ (gdW t56 false) h28 ((eqP (some (.int .i64)) none false .eql t58 (AV.int .i64 42)).bind fun t59 =>
  some (t59, h28)) fun t59_29 h30 =>
  (pickP t56 (AV.bool true) t59_29).bind fun t60 =>
  condE t60 (
  (faP 1 t3).bind fun t61 =>
  (ldS h30 t61).bind fun t62 =>
  mk (bsP 1 [(AV.int .i64 0)] 1 [(0, t62)]) h30 fun t63 h31 =>
  some (t63, h31)) (
  (eqP (some (.int .i64)) none false .eql t7 (AV.int .i64 20)).bind fun t66 =>
  condE t66 (
  (faP 3 t3).bind fun t67 =>
  clC (rdC (fun g => ldS g t67) h30 0 1 []) fun t68 cs =>
  (ldA 6 h30 t2).bind fun t69 =>
  (faP 2 t3).bind fun t70 =>
  (ldS h30 t70).bind fun t71 =>
  cl (k_live_fn t69 t71 h30) fun t72 h32 =>
  (fvS 0 t72).bind fun t73 =>
  cl (k_live_run t68 t73 h32) fun t74 h33 =>
  chk [h30, h32, h33] cs (
  some (t74, h33))) (
  (eqP (some (.int .i64)) none false .eql t7 (AV.int .i64 21)).bind fun t77 =>
  condE t77 (
  (faP 2 t3).bind fun t78 =>
  clC (rdC (fun g => ldS g t78) (hpN h30 1) 0 1 []) fun t79 cs_34 =>
  (faP 3 t3).bind fun t81 =>
  (ldS (hpN h30 1) t81).bind fun t82 =>
  (faP 4 t3).bind fun t83 =>
  (ldS (hpN h30 1) t83).bind fun t84 =>
  cl (k_live_run t82 t84 (hpN h30 1)) fun t85 h35 =>
  cl (mkAt (bsP 1 [(AV.int .i64 0)] 1 [(0, t79)]) (h30.next + 0) h35) fun t80 h36 =>
  cl (appendA h36 1 8 t80 t85) fun t86 h37 =>
  chk [(hpN h30 1), h35, h37] cs_34 (
  some (t86, h37))) (
  (eqP (some (.int .i64)) none false .eql t7 (AV.int .i64 22)).bind fun t89 =>
  condE t89 (
  (faP 1 t3).bind fun t90 =>
  (ldS h30 t90).bind fun t91 =>
  mk (bsP 1 [(AV.int .i64 0)] 1 [(0, t91)]) h30 fun t92 h38 =>
  cl (k_live_given t92 h38) fun t93 h39 =>
  some (t93, h39)) (
  (eqP (some (.int .i64)) none false .eql t7 (AV.int .i64 23)).bind fun t96 =>
  condE t96 (
  (faP 2 t3).bind fun t97 =>
  clC (rdC (fun g => ldS g t97) h30 0 1 []) fun t98 cs_40 =>
  (ldA 6 h30 t2).bind fun t99 =>
  (faP 1 t3).bind fun t100 =>
  (ldS h30 t100).bind fun t101 =>
  cl (k_live_fn t99 t101 h30) fun t102 h41 =>
  (fvS 0 t102).bind fun t103 =>
  cl (k_live_run t98 t103 h41) fun t104 h42 =>
  chk [h30, h41, h42] cs_40 (
  some (t104, h42))) (
  (eqP (some (.int .i64)) none false .eql t7 (AV.int .i64 24)).bind fun t107 =>
  condE t107 (
  (faP 1 t3).bind fun t108 =>
  clC (rdC (fun g => ldS g t108) (hpN h30 1) 0 1 []) fun t109 cs_43 =>
  (faP 2 t3).bind fun t111 =>
  (ldS (hpN h30 1) t111).bind fun t112 =>
  (faP 3 t3).bind fun t113 =>
  (ldS (hpN h30 1) t113).bind fun t114 =>
  cl (k_live_run t112 t114 (hpN h30 1)) fun t115 h44 =>
  cl (mkAt (bsP 1 [(AV.int .i64 0)] 1 [(0, t109)]) (h30.next + 0) h44) fun t110 h45 =>
  cl (appendA h45 1 8 t110 t115) fun t116 h46 =>
  chk [(hpN h30 1), h44, h46] cs_43 (
  some (t116, h46))) (
  (eqP (some (.int .i64)) none false .eql t7 (AV.int .i64 26)).bind fun t119 =>
  gQ (gdW t119 false) h30 (some (t7, h30)) fun t121 h47 =>
  gQ (gdW t119 false) h47 ((eqP (some (.int .i64)) none false .eql t121 (AV.int .i64 37)).bind fun t122 =>
  some (t122, h47)) fun t122_48 h49 =>
  (pickP t119 (AV.bool true) t122_48).bind fun t123 =>
  condE t123 (
  (faP 3 t3).bind fun t124 =>
  (ldS h49 t124).bind fun t125 =>
  mk (bsP 1 [(AV.int .i64 0)] 1 [(0, t125)]) h49 fun t126 h50 =>
  some (t126, h50)) (
  (eqP (some (.int .i64)) none false .eql t7 (AV.int .i64 28)).bind fun t129 =>
  gQ (gdW t129 false) h49 (some (t7, h49)) fun t131 h51 =>
  gQ (gdW t129 false) h51 ((eqP (some (.int .i64)) none false .eql t131 (AV.int .i64 29)).bind fun t132 =>
  some (t132, h51)) fun t132_52 h53 =>
  (pickP t129 (AV.bool true) t132_52).bind fun t133 =>
  condE t133 (
  (faP 1 t3).bind fun t134 =>
  (ldS h53 t134).bind fun t135 =>
  (faP 3 t3).bind fun t136 =>
  (ldS h53 t136).bind fun t137 =>
  mk (bsP 1 [(AV.int .i64 0)] 2 [(0, t135), (1, t137)]) h53 fun t138 h54 =>
  some (t138, h54)) (
  (eqP (some (.int .i64)) none false .eql t7 (AV.int .i64 31)).bind fun t141 =>
  gQ (gdW t141 false) h53 (some (t7, h53)) fun t143 h55 =>
  gQ (gdW t141 false) h55 ((eqP (some (.int .i64)) none false .eql t143 (AV.int .i64 32)).bind fun t144 =>
  some (t144, h55)) fun t144_56 h57 =>
  (pickP t141 (AV.bool true) t144_56).bind fun t145 =>
  condE t145 (
  (faP 1 t3).bind fun t146 =>
  (ldS h57 t146).bind fun t147 =>
  (faP 2 t3).bind fun t148 =>
  (ldS h57 t148).bind fun t149 =>
  (faP 3 t3).bind fun t150 =>
  (ldS h57 t150).bind fun t151 =>
  mk (bsP 1 [(AV.int .i64 0)] 3 [(0, t147), (1, t149), (2, t151)]) h57 fun t152 h58 =>
  some (t152, h58)) (
  (eqP (some (.int .i64)) none false .eql t7 (AV.int .i64 36)).bind fun t155 =>
  condE t155 (
  (faP 3 t3).bind fun t156 =>
  clC (rdC (fun g => ldS g t156) h57 0 1 []) fun t157 cs_59 =>
  (ldA 6 h57 t2).bind fun t158 =>
  (faP 2 t3).bind fun t159 =>
  (ldS h57 t159).bind fun t160 =>
  cl (k_live_fn t158 t160 h57) fun t161 h60 =>
  (fvS 1 t161).bind fun t162 =>
  cl (k_live_run t157 t162 h60) fun t163 h61 =>
  chk [h57, h60, h61] cs_59 (
  some (t163, h61))) (
  (eqP (some (.int .i64)) none false .eql t7 (AV.int .i64 38)).bind fun t166 =>
  condE t166 (
  (faP 1 t3).bind fun t167 =>
  (ldS h57 t167).bind fun t168 =>
  (faP 2 t3).bind fun t169 =>
  (ldS h57 t169).bind fun t170 =>
  mk (bsP 1 [(AV.int .i64 0)] 2 [(0, t168), (1, t170)]) h57 fun t171 h62 =>
  some (t171, h62)) (
  (eqP (some (.int .i64)) none false .eql t7 (AV.int .i64 41)).bind fun t174 =>
  condE t174 (
  (ldA 6 h57 t2).bind fun t175 =>
  (ldA 5 h57 t3).bind fun t176 =>
  cl (k_live_cases t175 t176 h57) fun t177 h63 =>
  cl (k_live_readsOf t177 h63) fun t178 h64 =>
  some (t178, h64)) (
  some ((AV.sl none 0 (.ex 0)), h57)))))))))))))))
def T54 : Tab := (14, p2 k_live_Reads) :: T53
/- 16: gantline/live.Writes -/
def k_live_Writes (x0 : AV) (h : Heap) : Option (AV × Heap) :=
  mk (bxP x0) h fun t1 h0 =>
  (faP 0 t1).bind fun t4 =>
  (ldS h0 t4).bind fun t5 =>
  (binP .geq t5 (AV.int .i64 0)).bind fun t8 =>
  gQ (gdW t8 true) h0 (some (t5, h0)) fun t10 h1 =>
  gQ (gdW t8 true) h1 ((binP .leq t10 (AV.int .i64 17)).bind fun t11 =>
  some (t11, h1)) fun t11_2 h3 =>
  (pickP t8 t11_2 (AV.bool false)).bind fun t12 =>
  gQ (gdW t12 false) h3 (some (t5, h3)) fun t14 h4 =>
  gQ (gdW t12 false) h4 ((binP .geq t14 (AV.int .i64 25)).bind fun t15 =>
  some (t15, h4)) fun t15_5 h6 =>
  gQ (gdW t12 false) h6 (some (t15_5, h6)) fun t16 h7 =>
  gQ (gdW t16 true) h7 (some (t5, h7)) fun t17 h8 =>
  gQ (gdW t16 true) h8 ((binP .leq t17 (AV.int .i64 27)).bind fun t18 =>
  some (t18, h8)) fun t18_9 h10 =>
  gQ (gdW t12 false) h10 ((pickP t16 t18_9 (AV.bool false)).bind fun t19 =>
  some (t19, h10)) fun t19_11 h12 =>
  (pickP t12 (AV.bool true) t19_11).bind fun t20 =>
  gQ (gdW t20 false) h12 (some (t5, h12)) fun t22 h13 =>
  gQ (gdW t20 false) h13 ((eqP (some (.int .i64)) none false .eql t22 (AV.int .i64 30)).bind fun t23 =>
  some (t23, h13)) fun t23_14 h15 =>
  (pickP t20 (AV.bool true) t23_14).bind fun t24 =>
  gQ (gdW t24 false) h15 (some (t5, h15)) fun t26 h16 =>
  gQ (gdW t24 false) h16 ((eqP (some (.int .i64)) none false .eql t26 (AV.int .i64 33)).bind fun t27 =>
  some (t27, h16)) fun t27_17 h18 =>
  (pickP t24 (AV.bool true) t27_17).bind fun t28 =>
  gQ (gdW t28 false) h18 (some (t5, h18)) fun t30 h19 =>
  gQ (gdW t28 false) h19 ((eqP (some (.int .i64)) none false .eql t30 (AV.int .i64 34)).bind fun t31 =>
  some (t31, h19)) fun t31_20 h21 =>
  (pickP t28 (AV.bool true) t31_20).bind fun t32 =>
  gQ (gdW t32 false) h21 (some (t5, h21)) fun t34 h22 =>
  gQ (gdW t32 false) h22 ((eqP (some (.int .i64)) none false .eql t34 (AV.int .i64 36)).bind fun t35 =>
  some (t35, h22)) fun t35_23 h24 =>
  (pickP t32 (AV.bool true) t35_23).bind fun t36 =>
  gQ (gdW t36 false) h24 (some (t5, h24)) fun t38 h25 =>
  gQ (gdW t36 false) h25 ((eqP (some (.int .i64)) none false .eql t38 (AV.int .i64 37)).bind fun t39 =>
  some (t39, h25)) fun t39_26 h27 =>
  (pickP t36 (AV.bool true) t39_26).bind fun t40 =>
  condE t40 (
  (faP 1 t1).bind fun t41 =>
  (ldS h27 t41).bind fun t42 =>
  mk (bsP 1 [(AV.int .i64 0)] 1 [(0, t42)]) h27 fun t43 h28 =>
  some (t43, h28)) (
  (eqP (some (.int .i64)) none false .eql t5 (AV.int .i64 20)).bind fun t46 =>
  gQ (gdW t46 false) h27 (some (t5, h27)) fun t48 h29 =>
  gQ (gdW t46 false) h29 ((eqP (some (.int .i64)) none false .eql t48 (AV.int .i64 21)).bind fun t49 =>
  some (t49, h29)) fun t49_30 h31 =>
  (pickP t46 (AV.bool true) t49_30).bind fun t50 =>
  condE t50 (
  (faP 1 t1).bind fun t51 =>
  (ldS h31 t51).bind fun t52 =>
  mk (bsP 1 [(AV.int .i64 0)] 1 [(0, t52)]) h31 fun t53 h32 =>
  cl (k_live_given t53 h32) fun t54 h33 =>
  some (t54, h33)) (
  (eqP (some (.int .i64)) none false .eql t5 (AV.int .i64 39)).bind fun t57 =>
  condE t57 (
  (faP 1 t1).bind fun t58 =>
  (ldS h31 t58).bind fun t59 =>
  (faP 3 t1).bind fun t60 =>
  (ldS h31 t60).bind fun t61 =>
  mk (bsP 1 [(AV.int .i64 0)] 2 [(0, t59), (1, t61)]) h31 fun t62 h34 =>
  cl (k_live_given t62 h34) fun t63 h35 =>
  some (t63, h35)) (
  some ((AV.sl none 0 (.ex 0)), h31))))
def T55 : Tab := (16, p1 k_live_Writes) :: T54
/- 17: gantline/live.Sets -/
def k_live_Sets_b0 (t2 : AV) (t3 : AV) (t5 : AV) (q7_6 : AV) (q8 : AV) (h7 : Heap) : OutV :=
  (binP .geq q8 (AV.int .i64 0)).bind fun t22 =>
  condE t22 (
  (faP 5 t3).bind fun t25 =>
  (ldS h7 t25).bind fun t26 =>
  (iaS 5 t26 q8).bind fun t28 =>
  (ldA 5 h7 t28).bind fun t29 =>
  mk (some (Blk.cells true [(AV.int .i64 0), (AV.int .i64 0), (AV.int .i64 0), (AV.int .i64 0), (AV.int .i64 0)], fun i => AV.ptr (some (i, 0)))) h7 fun t9 h10 =>
  cl (stP 5 h10 t9 t29) fun u_11 h12 =>
  (ldA 6 h12 t2).bind fun t30 =>
  (ldA 5 h12 t9).bind fun t31 =>
  cl (k_live_Reads t30 t31 h12) fun t32 h13 =>
  cl (k_live_bitsOf t32 h13) fun t33 h14 =>
  clF (lookT T55) (cvP (AV.fn 45 [] [t3, t2, t5]) [q8]) h14 fun t36 h15 =>
  clC (rdC (fun g => ldA 5 g t9) h15 0 3 []) fun t37 cs =>
  cl (k_live_Writes t37 h15) fun t38 h16 =>
  cl (k_live_bitsOf t38 h16) fun t39 h17 =>
  (binP .andNot t36 t39).bind fun t40 =>
  (binP .or t33 t40).bind fun t41 =>
  chk [h12, h13, h14, h15, h16, h17] cs (
  (ldS h17 t5).bind fun t43 =>
  (iaS 1 t43 q8).bind fun t45 =>
  (ldS h17 t45).bind fun t46 =>
  (eqP (some (.int .u64)) none false .neq t41 t46).bind fun t47 =>
  condE t47 (
  (ldS h17 t5).bind fun t48 =>
  (iaS 1 t48 q8).bind fun t51 =>
  cl (stP 1 h17 t51 t41) fun u_25 h26 =>
  (binP .sub q8 (AV.int .i64 1)).bind fun t24_27 =>
  some (.normal, [(AV.bool true), t24_27], h26)) (
  (binP .sub q8 (AV.int .i64 1)).bind fun t24_28 =>
  some (.normal, [q7_6, t24_28], h17)))) (
  some ((.exit 2), [q7_6, q8], h7))
def k_live_Sets_L0 (t2 : AV) (t3 : AV) (t5 : AV) (q7_6 : AV) (q8 : AV) (h7 : Heap) : OutV := loopN (fun us g => k_live_Sets_b0 t2 t3 t5 (us.getD 0 .bot) (us.getD 1 .bot) g) [q7_6, q8] h7
def k_live_Sets_b1 (t2 : AV) (t3 : AV) (t5 : AV) (q7 : AV) (h5 : Heap) : OutV :=
  condE q7 (
  (faP 5 t3).bind fun t17 =>
  (ldS h5 t17).bind fun t18 =>
  (lnL t18).bind fun t19 =>
  (binP .sub t19 (AV.int .i64 1)).bind fun t20 =>
  lp (k_live_Sets_L0 t2 t3 t5 (AV.bool false) t20 h5) fun e vs h29 =>
  some ((if (if e = .exit 2 then .normal else e) = .exit 1 then .normal else (if e = .exit 2 then .normal else e)), [(vs.getD 0 .bot)], h29)) (
  some ((.exit 0), [q7], h5))
def k_live_Sets_L1 (t2 : AV) (t3 : AV) (t5 : AV) (q7 : AV) (h5 : Heap) : OutV := loopN (fun us g => k_live_Sets_b1 t2 t3 t5 (us.getD 0 .bot) g) [q7] h5
def k_live_Sets (x0 : AV) (x1 : AV) (h : Heap) : Option (AV × Heap) :=
  mk (bxP x0) h fun t2 h0 =>
  mk (bxP x1) h0 fun t3 h1 =>
  (faP 5 t3).bind fun t11 =>
  (ldS h1 t11).bind fun t12 =>
  (lnL t12).bind fun t13 =>
  mk (msP 1 8 [(AV.int .u64 0)] t13 t13) h1 fun t14 h2 =>
  mk (some (Blk.cells true [(AV.sl none 0 (.ex 0))], fun i => AV.ptr (some (i, 0)))) h2 fun t5 h3 =>
  cl (stP 1 h3 t5 t14) fun u h4 =>
  lp (k_live_Sets_L1 t2 t3 t5 (AV.bool true) h4) fun e_30 vs_31 h32 =>
  thenK (if e_30 = .exit 0 then .normal else e_30) (
  (ldS h32 t5).bind fun t52 =>
  some (t52, h32)) (fun e_33 => endE e_33 (some ((AV.sl none 0 (.ex 0)), h32)))
def T56 : Tab := (17, p2 k_live_Sets) :: T55
/- 28: gantline/live.Maps -/
def k_live_Maps_b0 (t16 : AV) (t17 : AV) (q5 : AV) (q18 : AV) (h2 : Heap) : OutV :=
  (binP .lss q18 t17).bind fun t19 =>
  condE t19 (
  (iaS 1 t16 q18).bind fun t21 =>
  (ldS h2 t21).bind fun t22 =>
  condE t22 (
  (cvI .u64 q18).bind fun t26 =>
  (binP .shl (AV.int .u64 1) t26).bind fun t27 =>
  (binP .or q5 t27).bind fun t28 =>
  (binP .add q18 (AV.int .i64 1)).bind fun t29_13 =>
  some (.normal, [t28, t29_13], h2)) (
  (binP .add q18 (AV.int .i64 1)).bind fun t29_14 =>
  some (.normal, [q5, t29_14], h2))) (
  some ((.exit 0), [q5, q18], h2))
def k_live_Maps_L0 (t16 : AV) (t17 : AV) (q5 : AV) (q18 : AV) (h2 : Heap) : OutV := loopN (fun us g => k_live_Maps_b0 t16 t17 (us.getD 0 .bot) (us.getD 1 .bot) g) [q5, q18] h2
def k_live_Maps_b1 (vs : List AV) (t32 : AV) (t34 : AV) (q35 : AV) (h17 : Heap) : OutV :=
  (binP .lss q35 t34).bind fun t36 =>
  condE t36 (
  (iaS 1 t32 q35).bind fun t40 =>
  (ldS h17 t40).bind fun t41 =>
  (binP .and t41 (vs.getD 0 .bot)).bind fun t43 =>
  (iaS 1 t32 q35).bind fun t44 =>
  cl (stP 1 h17 t44 t43) fun u h18 =>
  (binP .add q35 (AV.int .i64 1)).bind fun t45 =>
  some (.normal, [t45], h18)) (
  some ((.exit 2), [q35], h17))
def k_live_Maps_L1 (vs : List AV) (t32 : AV) (t34 : AV) (q35 : AV) (h17 : Heap) : OutV := loopN (fun us g => k_live_Maps_b1 vs t32 t34 (us.getD 0 .bot) g) [q35] h17
def k_live_Maps (x0 : AV) (x1 : AV) (h : Heap) : Option (AV × Heap) :=
  mk (bxP x0) h fun t2 h0 =>
  mk (bxP x1) h0 fun t3 h1 =>
  (faP 4 t3).bind fun t10 =>
  (ldS h1 t10).bind fun t11 =>
  (faP 4 t3).bind fun t12 =>
  (ldS h1 t12).bind fun t13 =>
  (lnL t13).bind fun t14 =>
  (minP t14 (AV.int .i64 64)).bind fun t15 =>
  (slcP 1 t11 none (some t15) none).bind fun t16 =>
  (lnL t16).bind fun t17 =>
  lp (k_live_Maps_L0 t16 t17 (AV.int .u64 0) (AV.int .i64 0) h1) fun e vs h15 =>
  thenK (if e = .exit 0 then .normal else e) (
  (ldA 6 h15 t2).bind fun t30 =>
  (ldA 7 h15 t3).bind fun t31 =>
  cl (k_live_Sets t30 t31 h15) fun t32 h16 =>
  (lnL t32).bind fun t34 =>
  lp (k_live_Maps_L1 vs t32 t34 (AV.int .i64 0) h16) fun e_19 vs_20 h21 =>
  thenK (if e_19 = .exit 2 then .normal else e_19) (
  some (t32, h21)) (fun e_22 => endE e_22 (some ((AV.sl none 0 (.ex 0)), h21)))) (fun e_23 => endE e_23 (some ((AV.sl none 0 (.ex 0)), h15)))
def T57 : Tab := (28, p2 k_live_Maps) :: T56
/- 97: slices.Index[[]int,int] -/
def k_slices_Index_int_int_b0 (x0 : AV) (x1 : AV) (t7 : AV) (q4 : AV) (q8 : AV) (h0 : Heap) : OutV :=
  (binP .lss q8 t7).bind fun t9 =>
  condE t9 (
  (iaS 1 x0 q8).bind fun t14 =>
  (ldS h0 t14).bind fun t15 =>
  (eqP (some (.int .i64)) none false .eql x1 t15).bind fun t16 =>
  condE t16 (
  some (.ret, [q8, q8], h0)) (
  (binP .add q8 (AV.int .i64 1)).bind fun t18 =>
  some (.normal, [q4, t18], h0))) (
  some ((.exit 0), [q4, q8], h0))
def k_slices_Index_int_int_L0 (x0 : AV) (x1 : AV) (t7 : AV) (q4 : AV) (q8 : AV) (h0 : Heap) : OutV := loopN (fun us g => k_slices_Index_int_int_b0 x0 x1 t7 (us.getD 0 .bot) (us.getD 1 .bot) g) [q4, q8] h0
def k_slices_Index_int_int (x0 : AV) (x1 : AV) (h : Heap) : Option (AV × Heap) :=
  (lnL x0).bind fun t7 =>
  lp (k_slices_Index_int_int_L0 x0 x1 t7 (AV.int .i64 0) (AV.int .i64 0) h) fun e vs h1 =>
  thenK (if e = .exit 0 then .normal else e) (
  some ((AV.int .i64 (-1)), h1)) (fun e_2 => endE e_2 (some ((vs.getD 0 .bot), h1)))
def T58 : Tab := (97, p2 k_slices_Index_int_int) :: T57
/- 78: slices.Contains[[]int,int] -/
def k_slices_Contains_int_int (x0 : AV) (x1 : AV) (h : Heap) : Option (AV × Heap) :=
  cl (k_slices_Index_int_int x0 x1 h) fun t7 h0 =>
  (binP .geq t7 (AV.int .i64 0)).bind fun t8 =>
  some (t8, h0)
def T59 : Tab := (78, p2 k_slices_Contains_int_int) :: T58
/- 116: (*gantline/verify.checker).fn -/
def k_verify_checker_fn (x0 : AV) (x1 : AV) (h : Heap) : Option (AV × Heap) :=
  mk (some (Blk.cells true [(AV.int .i64 0), (AV.int .i64 0), (AV.int .i64 0), (AV.int .i64 0), (AV.sl none 0 (.ex 0)), (AV.sl none 0 (.ex 0)), (AV.sl none 0 (.ex 0))], fun i => AV.ptr (some (i, 0)))) h fun t4 h0 =>
  (binP .lss x1 (AV.int .i64 0)).bind fun t7 =>
  gQ (gdW t7 false) h0 (some (x1, h0)) fun t9 h1 =>
  gQ (gdW t7 false) h1 (some (x0, h1)) fun t10 h2 =>
  gQ (gdW t7 false) h2 ((nilV t10).bind fun t11 =>
  some (t11, h2)) fun t11_3 h4 =>
  gQ (gdW t7 false) h4 ((faP 0 t11_3).bind fun t12 =>
  some (t12, h4)) fun t12_5 h6 =>
  gQ (gdW t7 false) h6 ((faP 4 t12_5).bind fun t13 =>
  some (t13, h6)) fun t13_7 h8 =>
  gQ (gdW t7 false) h8 ((ldS h8 t13_7).bind fun t14 =>
  some (t14, h8)) fun t14_9 h10 =>
  gQ (gdW t7 false) h10 ((lnL t14_9).bind fun t15 =>
  some (t15, h10)) fun t15_11 h12 =>
  gQ (gdW t7 false) h12 ((binP .geq t9 t15_11).bind fun t16 =>
  some (t16, h12)) fun t16_13 h14 =>
  (pickP t7 (AV.bool true) t16_13).bind fun t17 =>
  condE t17 (
  (bldS [(0, 1), (1, 1), (2, 1), (3, 1), (4, 1), (5, 1), (6, 1)] [(AV.int .i64 0), (AV.int .i64 0), (AV.int .i64 0), (AV.int .i64 0), (AV.sl none 0 (.ex 0)), (AV.sl none 0 (.ex 0)), (AV.sl none 0 (.ex 0))] []).bind fun t18 =>
  cl (stP 7 h14 t4 t18) fun u h15 =>
  (ldA 7 h15 t4).bind fun t =>
  some (AV.tup [t, (AV.bool false)], h15)) (
  (nilV x0).bind fun t20 =>
  (faP 0 t20).bind fun t21 =>
  (faP 4 t21).bind fun t22 =>
  (ldS h14 t22).bind fun t23 =>
  (iaS 7 t23 x1).bind fun t25 =>
  (ldA 7 h14 t25).bind fun t26 =>
  cl (stP 7 h14 t4 t26) fun u_16 h17 =>
  (ldA 7 h17 t4).bind fun t_18 =>
  some (AV.tup [t_18, (AV.bool true)], h17))
def T60 : Tab := (116, p2 k_verify_checker_fn) :: T59
/- 115: (*gantline/verify.checker).params -/
def k_verify_checker_params (x0 : AV) (x1 : AV) (h : Heap) : Option (AV × Heap) :=
  cl (k_verify_checker_fn x0 x1 h) fun t10 h0 =>
  (extractV 0 t10).bind fun t11 =>
  (extractV 1 t10).bind fun t12 =>
  mk (some (Blk.cells true [(AV.int .i64 0), (AV.int .i64 0), (AV.int .i64 0), (AV.int .i64 0), (AV.sl none 0 (.ex 0)), (AV.sl none 0 (.ex 0)), (AV.sl none 0 (.ex 0))], fun i => AV.ptr (some (i, 0)))) h0 fun t5 h1 =>
  cl (stP 7 h1 t5 t11) fun u h2 =>
  (faP 0 t5).bind fun t13 =>
  (ldS h2 t13).bind fun t14 =>
  some (t14, h2)
def T61 : Tab := (115, p2 k_verify_checker_params) :: T60
/- 114: (*gantline/verify.checker).run -/
def k_verify_checker_run (x0 : AV) (x1 : AV) (x2 : AV) (h : Heap) : Option (AV × Heap) :=
  (binP .leq x2 (AV.int .i64 0)).bind fun t8 =>
  gQ (gdW t8 false) h (some (x1, h)) fun t10 h0 =>
  gQ (gdW t8 false) h0 ((binP .geq t10 (AV.int .i64 0)).bind fun t11 =>
  some (t11, h0)) fun t11_1 h2 =>
  gQ (gdW t8 false) h2 (some (t11_1, h2)) fun t12 h3 =>
  gQ (gdW t12 true) h3 (some (x2, h3)) fun t13 h4 =>
  gQ (gdW t12 true) h4 (some (x0, h4)) fun t14 h5 =>
  gQ (gdW t12 true) h5 ((nilV t14).bind fun t15 =>
  some (t15, h5)) fun t15_6 h7 =>
  gQ (gdW t12 true) h7 ((faP 6 t15_6).bind fun t16 =>
  some (t16, h7)) fun t16_8 h9 =>
  gQ (gdW t12 true) h9 ((faP 2 t16_8).bind fun t17 =>
  some (t17, h9)) fun t17_10 h11 =>
  gQ (gdW t12 true) h11 ((ldS h11 t17_10).bind fun t18 =>
  some (t18, h11)) fun t18_12 h13 =>
  gQ (gdW t12 true) h13 ((binP .leq t13 t18_12).bind fun t19 =>
  some (t19, h13)) fun t19_14 h15 =>
  gQ (gdW t8 false) h15 ((pickP t12 t19_14 (AV.bool false)).bind fun t20 =>
  some (t20, h15)) fun t20_16 h17 =>
  gQ (gdW t8 false) h17 (some (t20_16, h17)) fun t21 h18 =>
  gQ (gdW t21 true) h18 (some (x1, h18)) fun t22 h19 =>
  gQ (gdW t21 true) h19 (some (x0, h19)) fun t23 h20 =>
  gQ (gdW t21 true) h20 ((nilV t23).bind fun t24 =>
  some (t24, h20)) fun t24_21 h22 =>
  gQ (gdW t21 true) h22 ((faP 6 t24_21).bind fun t25 =>
  some (t25, h22)) fun t25_23 h24 =>
  gQ (gdW t21 true) h24 ((faP 2 t25_23).bind fun t26 =>
  some (t26, h24)) fun t26_25 h26 =>
  gQ (gdW t21 true) h26 ((ldS h26 t26_25).bind fun t27 =>
  some (t27, h26)) fun t27_27 h28 =>
  gQ (gdW t21 true) h28 (some (x2, h28)) fun t28 h29 =>
  gQ (gdW t21 true) h29 ((binP .sub t27_27 t28).bind fun t29 =>
  some (t29, h29)) fun t29_30 h31 =>
  gQ (gdW t21 true) h31 ((binP .leq t22 t29_30).bind fun t30 =>
  some (t30, h31)) fun t30_32 h33 =>
  gQ (gdW t8 false) h33 ((pickP t21 t30_32 (AV.bool false)).bind fun t31 =>
  some (t31, h33)) fun t31_34 h35 =>
  (pickP t8 (AV.bool true) t31_34).bind fun t32 =>
  some (t32, h35)
def T62 : Tab := (114, p3 k_verify_checker_run) :: T61
/- 117: (*gantline/verify.checker).cases -/
def k_verify_checker_cases (x0 : AV) (h : Heap) : Option (AV × Heap) :=
  (nilV x0).bind fun t5 =>
  (faP 17 t5).bind fun t6 =>
  (faP 1 t6).bind fun t7 =>
  (ldS h t7).bind fun t8 =>
  (binP .lss t8 (AV.int .i64 0)).bind fun t9 =>
  (gV (gdW t9 false) (some x0) (.tup [])).bind fun t11 =>
  (gV (gdW t9 false) (nilV t11) (.tup [])).bind fun t12 =>
  (gV (gdW t9 false) (faP 17 t12) (.tup [])).bind fun t13 =>
  (gV (gdW t9 false) (faP 2 t13) (.tup [])).bind fun t14 =>
  (gV (gdW t9 false) (ldS h t14) (.tup [])).bind fun t15 =>
  (gV (gdW t9 false) (binP .lss t15 (AV.int .i64 1)) (.tup [])).bind fun t16 =>
  (pickP t9 (AV.bool true) t16).bind fun t17 =>
  (gV (gdW t17 false) (some x0) (.tup [])).bind fun t19 =>
  (gV (gdW t17 false) (nilV t19) (.tup [])).bind fun t20 =>
  (gV (gdW t17 false) (faP 17 t20) (.tup [])).bind fun t21 =>
  (gV (gdW t17 false) (faP 1 t21) (.tup [])).bind fun t22 =>
  (gV (gdW t17 false) (ldS h t22) (.tup [])).bind fun t23 =>
  (gV (gdW t17 false) (some x0) (.tup [])).bind fun t24 =>
  (gV (gdW t17 false) (nilV t24) (.tup [])).bind fun t25 =>
  (gV (gdW t17 false) (faP 0 t25) (.tup [])).bind fun t26 =>
  (gV (gdW t17 false) (faP 3 t26) (.tup [])).bind fun t27 =>
  (gV (gdW t17 false) (ldS h t27) (.tup [])).bind fun t28 =>
  (gV (gdW t17 false) (lnL t28) (.tup [])).bind fun t29 =>
  (gV (gdW t17 false) (binP .gtr t23 t29) (.tup [])).bind fun t30 =>
  (pickP t17 (AV.bool true) t30).bind fun t31 =>
  (gV (gdW t31 false) (some x0) (.tup [])).bind fun t33 =>
  (gV (gdW t31 false) (nilV t33) (.tup [])).bind fun t34 =>
  (gV (gdW t31 false) (faP 17 t34) (.tup [])).bind fun t35 =>
  (gV (gdW t31 false) (faP 2 t35) (.tup [])).bind fun t36 =>
  (gV (gdW t31 false) (ldS h t36) (.tup [])).bind fun t37 =>
  (gV (gdW t31 false) (some x0) (.tup [])).bind fun t38 =>
  (gV (gdW t31 false) (nilV t38) (.tup [])).bind fun t39 =>
  (gV (gdW t31 false) (faP 0 t39) (.tup [])).bind fun t40 =>
  (gV (gdW t31 false) (faP 3 t40) (.tup [])).bind fun t41 =>
  (gV (gdW t31 false) (ldS h t41) (.tup [])).bind fun t42 =>
  (gV (gdW t31 false) (lnL t42) (.tup [])).bind fun t43 =>
  (gV (gdW t31 false) (some x0) (.tup [])).bind fun t44 =>
  (gV (gdW t31 false) (nilV t44) (.tup [])).bind fun t45 =>
  (gV (gdW t31 false) (faP 17 t45) (.tup [])).bind fun t46 =>
  (gV (gdW t31 false) (faP 1 t46) (.tup [])).bind fun t47 =>
  (gV (gdW t31 false) (ldS h t47) (.tup [])).bind fun t48 =>
  (gV (gdW t31 false) (binP .sub t43 t48) (.tup [])).bind fun t49 =>
  (gV (gdW t31 false) (binP .gtr t37 t49) (.tup [])).bind fun t50 =>
  (pickP t31 (AV.bool true) t50).bind fun t51 =>
  chk [h] [] (
  condE t51 (
  some (AV.tup [(AV.sl none 0 (.ex 0)), (AV.bool false)], h)) (
  (nilV x0).bind fun t53 =>
  (faP 0 t53).bind fun t54 =>
  (faP 3 t54).bind fun t55 =>
  (ldS h t55).bind fun t56 =>
  (nilV x0).bind fun t58 =>
  (faP 17 t58).bind fun t59 =>
  (faP 1 t59).bind fun t60 =>
  (ldS h t60).bind fun t61 =>
  (nilV x0).bind fun t63 =>
  (faP 17 t63).bind fun t64 =>
  (faP 1 t64).bind fun t65 =>
  (ldS h t65).bind fun t66 =>
  (nilV x0).bind fun t68 =>
  (faP 17 t68).bind fun t69 =>
  (faP 2 t69).bind fun t70 =>
  (ldS h t70).bind fun t71 =>
  (binP .add t66 t71).bind fun t72 =>
  (slcP 4 t56 (some t61) (some t72) none).bind fun t73 =>
  chk [h] [] (
  some (AV.tup [t73, (AV.bool true)], h))))
def T63 : Tab := (117, p1 k_verify_checker_cases) :: T62
/- 129: slices.IndexFunc[[]gantline/code.Case,gantline/code.Case] -/
def k_slices_IndexFunc_code_Case_code_Case_b0 (x0 : AV) (x1 : AV) (t7 : AV) (q4 : AV) (q8 : AV) (h0 : Heap) : OutV :=
  (binP .lss q8 t7).bind fun t9 =>
  condE t9 (
  (iaS 4 x0 q8).bind fun t14 =>
  (ldA 4 h0 t14).bind fun t15 =>
  clF (lookT T63) (cvP x1 [t15]) h0 fun t16 h1 =>
  condE t16 (
  some (.ret, [q8, q8], h1)) (
  (binP .add q8 (AV.int .i64 1)).bind fun t18 =>
  some (.normal, [q4, t18], h1))) (
  some ((.exit 0), [q4, q8], h0))
def k_slices_IndexFunc_code_Case_code_Case_L0 (x0 : AV) (x1 : AV) (t7 : AV) (q4 : AV) (q8 : AV) (h0 : Heap) : OutV := loopN (fun us g => k_slices_IndexFunc_code_Case_code_Case_b0 x0 x1 t7 (us.getD 0 .bot) (us.getD 1 .bot) g) [q4, q8] h0
def k_slices_IndexFunc_code_Case_code_Case (x0 : AV) (x1 : AV) (h : Heap) : Option (AV × Heap) :=
  (lnL x0).bind fun t7 =>
  lp (k_slices_IndexFunc_code_Case_code_Case_L0 x0 x1 t7 (AV.int .i64 0) (AV.int .i64 0) h) fun e vs h2 =>
  thenK (if e = .exit 0 then .normal else e) (
  some ((AV.int .i64 (-1)), h2)) (fun e_3 => endE e_3 (some ((vs.getD 0 .bot), h2)))
def T64 : Tab := (129, p2 k_slices_IndexFunc_code_Case_code_Case) :: T63
/- 118: slices.ContainsFunc[[]gantline/code.Case,gantline/code.Case] -/
def k_slices_ContainsFunc_code_Case_code_Case (x0 : AV) (x1 : AV) (h : Heap) : Option (AV × Heap) :=
  cl (k_slices_IndexFunc_code_Case_code_Case x0 x1 h) fun t7 h0 =>
  (binP .geq t7 (AV.int .i64 0)).bind fun t8 =>
  some (t8, h0)
def T65 : Tab := (118, p2 k_slices_ContainsFunc_code_Case_code_Case) :: T64
/- 98: (*gantline/verify.checker).slots -/
def k_verify_checker_slots (x0 : AV) (h : Heap) : Option (AV × Heap) :=
  mk (bxP x0) h fun t1 h0 =>
  (ldS h0 t1).bind fun t10 =>
  (nilV t10).bind fun t11 =>
  (faP 17 t11).bind fun t12 =>
  (ldA 5 h0 t12).bind fun t13 =>
  mk (some (Blk.cells true [(AV.int .i64 0), (AV.int .i64 0), (AV.int .i64 0), (AV.int .i64 0), (AV.int .i64 0)], fun i => AV.ptr (some (i, 0)))) h0 fun t3 h1 =>
  cl (stP 5 h1 t3 t13) fun u h2 =>
  mk (some (Blk.cells true [AV.nilFn], fun i => AV.ptr (some (i, 0)))) h2 fun t4 h3 =>
  cl (stP 1 h3 t4 (AV.fn 112 [] [t1])) fun u_4 h5 =>
  (faP 0 t3).bind fun t15 =>
  (ldS h5 t15).bind fun t16 =>
  (binP .lss t16 (AV.int .i64 0)).bind fun t19 =>
  gQ (gdW t19 false) h5 (some (t16, h5)) fun t21 h6 =>
  gQ (gdW t19 false) h6 ((binP .gtr t21 (AV.int .i64 44)).bind fun t22 =>
  some (t22, h6)) fun t22_7 h8 =>
  (pickP t19 (AV.bool true) t22_7).bind fun t23 =>
  condE t23 (
  some ((AV.bool false), h8)) (
  (eqP (some (.int .i64)) none false .eql t16 (AV.int .i64 20)).bind fun t26 =>
  condE t26 (
  (ldS h8 t4).bind fun t27 =>
  (faP 1 t3).bind fun t28 =>
  (ldS h8 t28).bind fun t29 =>
  clF (lookT T65) (cvP t27 [t29]) h8 fun t30 h9 =>
  clC (gV (gdW t30 true) (rdC (fun g => ldS g t1) h9 1 2 []) (.tup [], [])) fun t32 cs =>
  (gV (gdW t30 true) (faP 3 t3) (.tup [])).bind fun t33 =>
  clC (gV (gdW t30 true) (rdC (fun g => ldS g t33) h9 1 2 cs) (.tup [], cs)) fun t34 cs_10 =>
  (gV (gdW t30 true) (ldS h9 t1) (.tup [])).bind fun t35 =>
  (gV (gdW t30 true) (faP 2 t3) (.tup [])).bind fun t36 =>
  (gV (gdW t30 true) (ldS h9 t36) (.tup [])).bind fun t37 =>
  gQ (gdW t30 true) h9 (cl (k_verify_checker_params t35 t37 h9) fun t38 h11 =>
  some (t38, h11)) fun t38_12 h13 =>
  gQ (gdW t30 true) h13 (cl (k_verify_checker_run t32 t34 t38_12 h13) fun t39 h14 =>
  some (t39, h14)) fun t39_15 h16 =>
  (pickP t30 t39_15 (AV.bool false)).bind fun t40 =>
  chk [h8, h9, h13, h16] cs_10 (
  some (t40, h16))) (
  (eqP (some (.int .i64)) none false .eql t16 (AV.int .i64 21)).bind fun t43 =>
  condE t43 (
  (ldS h8 t4).bind fun t44 =>
  (faP 1 t3).bind fun t45 =>
  (ldS h8 t45).bind fun t46 =>
  clF (lookT T65) (cvP t44 [t46]) h8 fun t47 h17 =>
  gQ (gdW t47 true) h17 ((ldS h17 t1).bind fun t49 =>
  some (t49, h17)) fun t49_18 h19 =>
  gQ (gdW t47 true) h19 ((faP 2 t3).bind fun t50 =>
  some (t50, h19)) fun t50_20 h21 =>
  gQ (gdW t47 true) h21 ((ldS h21 t50_20).bind fun t51 =>
  some (t51, h21)) fun t51_22 h23 =>
  gQ (gdW t47 true) h23 (cl (k_verify_checker_slot t49_18 t51_22 h23) fun t52 h24 =>
  some (t52, h24)) fun t52_25 h26 =>
  (pickP t47 t52_25 (AV.bool false)).bind fun t53 =>
  gQ (gdW t53 true) h26 ((ldS h26 t1).bind fun t55 =>
  some (t55, h26)) fun t55_27 h28 =>
  gQ (gdW t53 true) h28 ((faP 3 t3).bind fun t56 =>
  some (t56, h28)) fun t56_29 h30 =>
  gQ (gdW t53 true) h30 ((ldS h30 t56_29).bind fun t57 =>
  some (t57, h30)) fun t57_31 h32 =>
  gQ (gdW t53 true) h32 ((faP 4 t3).bind fun t58 =>
  some (t58, h32)) fun t58_33 h34 =>
  gQ (gdW t53 true) h34 ((ldS h34 t58_33).bind fun t59 =>
  some (t59, h34)) fun t59_35 h36 =>
  gQ (gdW t53 true) h36 (cl (k_verify_checker_run t55_27 t57_31 t59_35 h36) fun t60 h37 =>
  some (t60, h37)) fun t60_38 h39 =>
  (pickP t53 t60_38 (AV.bool false)).bind fun t61 =>
  some (t61, h39)) (
  (eqP (some (.int .i64)) none false .eql t16 (AV.int .i64 22)).bind fun t64 =>
  condE t64 (
  (ldS h8 t4).bind fun t65 =>
  (faP 1 t3).bind fun t66 =>
  (ldS h8 t66).bind fun t67 =>
  clF (lookT T65) (cvP t65 [t67]) h8 fun t68 h40 =>
  some (t68, h40)) (
  (eqP (some (.int .i64)) none false .eql t16 (AV.int .i64 23)).bind fun t71 =>
  condE t71 (
  clC (rdC (fun g => ldS g t1) h8 0 1 []) fun t72 cs_41 =>
  (faP 2 t3).bind fun t73 =>
  clC (rdC (fun g => ldS g t73) h8 0 1 cs_41) fun t74 cs_42 =>
  (ldS h8 t1).bind fun t75 =>
  (faP 1 t3).bind fun t76 =>
  (ldS h8 t76).bind fun t77 =>
  cl (k_verify_checker_params t75 t77 h8) fun t78 h43 =>
  cl (k_verify_checker_run t72 t74 t78 h43) fun t79 h44 =>
  chk [h8, h43, h44] cs_42 (
  some (t79, h44))) (
  (eqP (some (.int .i64)) none false .eql t16 (AV.int .i64 24)).bind fun t82 =>
  condE t82 (
  (ldS h8 t1).bind fun t83 =>
  (faP 1 t3).bind fun t84 =>
  (ldS h8 t84).bind fun t85 =>
  cl (k_verify_checker_slot t83 t85 h8) fun t86 h45 =>
  gQ (gdW t86 true) h45 ((ldS h45 t1).bind fun t88 =>
  some (t88, h45)) fun t88_46 h47 =>
  gQ (gdW t86 true) h47 ((faP 2 t3).bind fun t89 =>
  some (t89, h47)) fun t89_48 h49 =>
  gQ (gdW t86 true) h49 ((ldS h49 t89_48).bind fun t90 =>
  some (t90, h49)) fun t90_50 h51 =>
  gQ (gdW t86 true) h51 ((faP 3 t3).bind fun t91 =>
  some (t91, h51)) fun t91_52 h53 =>
  gQ (gdW t86 true) h53 ((ldS h53 t91_52).bind fun t92 =>
  some (t92, h53)) fun t92_54 h55 =>
  gQ (gdW t86 true) h55 (cl (k_verify_checker_run t88_46 t90_50 t92_54 h55) fun t93 h56 =>
  some (t93, h56)) fun t93_57 h58 =>
  (pickP t86 t93_57 (AV.bool false)).bind fun t94 =>
  some (t94, h58)) (
  (eqP (some (.int .i64)) none false .eql t16 (AV.int .i64 36)).bind fun t97 =>
  condE t97 (
  (ldS h8 t1).bind fun t99 =>
  (faP 2 t3).bind fun t100 =>
  (ldS h8 t100).bind fun t101 =>
  cl (k_verify_checker_fn t99 t101 h8) fun t102 h59 =>
  (extractV 0 t102).bind fun t103 =>
  (extractV 1 t102).bind fun t104 =>
  mk (some (Blk.cells true [(AV.int .i64 0), (AV.int .i64 0), (AV.int .i64 0), (AV.int .i64 0), (AV.sl none 0 (.ex 0)), (AV.sl none 0 (.ex 0)), (AV.sl none 0 (.ex 0))], fun i => AV.ptr (some (i, 0)))) h59 fun t6 h60 =>
  cl (stP 7 h60 t6 t103) fun u_61 h62 =>
  (ldS h62 t1).bind fun t105 =>
  (faP 1 t3).bind fun t106 =>
  (ldS h62 t106).bind fun t107 =>
  cl (k_verify_checker_slot t105 t107 h62) fun t108 h63 =>
  gQ (gdW t108 true) h63 ((ldS h63 t1).bind fun t110 =>
  some (t110, h63)) fun t110_64 h65 =>
  gQ (gdW t108 true) h65 ((faP 3 t3).bind fun t111 =>
  some (t111, h65)) fun t111_66 h67 =>
  gQ (gdW t108 true) h67 ((ldS h67 t111_66).bind fun t112 =>
  some (t112, h67)) fun t112_68 h69 =>
  gQ (gdW t108 true) h69 ((faP 1 t6).bind fun t113 =>
  some (t113, h69)) fun t113_70 h71 =>
  gQ (gdW t108 true) h71 ((ldS h71 t113_70).bind fun t114 =>
  some (t114, h71)) fun t114_72 h73 =>
  gQ (gdW t108 true) h73 (cl (k_verify_checker_run t110_64 t112_68 t114_72 h73) fun t115 h74 =>
  some (t115, h74)) fun t115_75 h76 =>
  (pickP t108 t115_75 (AV.bool false)).bind fun t116 =>
  some (t116, h76)) (
  (eqP (some (.int .i64)) none false .eql t16 (AV.int .i64 39)).bind fun t119 =>
  condE t119 (
  (ldS h8 t4).bind fun t120 =>
  (faP 1 t3).bind fun t121 =>
  (ldS h8 t121).bind fun t122 =>
  clF (lookT T65) (cvP t120 [t122]) h8 fun t123 h77 =>
  gQ (gdW t123 true) h77 ((ldS h77 t1).bind fun t125 =>
  some (t125, h77)) fun t125_78 h79 =>
  gQ (gdW t123 true) h79 ((faP 2 t3).bind fun t126 =>
  some (t126, h79)) fun t126_80 h81 =>
  gQ (gdW t123 true) h81 ((ldS h81 t126_80).bind fun t127 =>
  some (t127, h81)) fun t127_82 h83 =>
  gQ (gdW t123 true) h83 (cl (k_verify_checker_slot t125_78 t127_82 h83) fun t128 h84 =>
  some (t128, h84)) fun t128_85 h86 =>
  (pickP t123 t128_85 (AV.bool false)).bind fun t129 =>
  gQ (gdW t129 true) h86 ((ldS h86 t4).bind fun t131 =>
  some (t131, h86)) fun t131_87 h88 =>
  gQ (gdW t129 true) h88 ((faP 3 t3).bind fun t132 =>
  some (t132, h88)) fun t132_89 h90 =>
  gQ (gdW t129 true) h90 ((ldS h90 t132_89).bind fun t133 =>
  some (t133, h90)) fun t133_91 h92 =>
  gQ (gdW t129 true) h92 (clF (lookT T65) (cvP t131_87 [t133_91]) h92 fun t134 h93 =>
  some (t134, h93)) fun t134_94 h95 =>
  (pickP t129 t134_94 (AV.bool false)).bind fun t135 =>
  some (t135, h95)) (
  (eqP (some (.int .i64)) none false .eql t16 (AV.int .i64 41)).bind fun t138 =>
  condE t138 (
  (ldS h8 t1).bind fun t140 =>
  cl (k_verify_checker_cases t140 h8) fun t141 h96 =>
  (extractV 0 t141).bind fun t142 =>
  (extractV 1 t141).bind fun t143 =>
  cl (k_slices_ContainsFunc_code_Case_code_Case t142 (AV.fn 119 [] [t1, t4]) h96) fun t146 h97 =>
  (unA .not t146).bind fun t147 =>
  some (t147, h97)) (
  (ldS h8 t1).bind fun t148 =>
  (nilV t148).bind fun t149 =>
  (faP 0 t149).bind fun t150 =>
  (ldA 6 h8 t150).bind fun t151 =>
  (ldA 5 h8 t3).bind fun t152 =>
  cl (k_live_Reads t151 t152 h8) fun t153 h98 =>
  clC (rdC (fun g => ldA 5 g t3) h98 0 1 []) fun t154 cs_99 =>
  cl (k_live_Writes t154 h98) fun t155 h100 =>
  cl (appendA h100 1 8 t153 t155) fun t156 h101 =>
  cl (k_slices_ContainsFunc_int_int t156 (AV.fn 121 [] [t1]) h101) fun t158 h102 =>
  (unA .not t158).bind fun t159 =>
  chk [h8, h98, h100, h101, h102] cs_99 (
  some (t159, h102)))))))))))
def T66 : Tab := (98, p1 k_verify_checker_slots) :: T65
/- 122: (*gantline/verify.checker).shape -/
def k_verify_checker_shape (x0 : AV) (x1 : AV) (x2 : AV) (h : Heap) : Option (AV × Heap) :=
  (binP .geq x1 (AV.int .i64 0)).bind fun t8 =>
  gQ (gdW t8 true) h (some (x1, h)) fun t10 h0 =>
  gQ (gdW t8 true) h0 (some (x0, h0)) fun t11 h1 =>
  gQ (gdW t8 true) h1 ((nilV t11).bind fun t12 =>
  some (t12, h1)) fun t12_2 h3 =>
  gQ (gdW t8 true) h3 ((faP 0 t12_2).bind fun t13 =>
  some (t13, h3)) fun t13_4 h5 =>
  gQ (gdW t8 true) h5 ((faP 0 t13_4).bind fun t14 =>
  some (t14, h5)) fun t14_6 h7 =>
  gQ (gdW t8 true) h7 ((ldS h7 t14_6).bind fun t15 =>
  some (t15, h7)) fun t15_8 h9 =>
  gQ (gdW t8 true) h9 ((lnL t15_8).bind fun t16 =>
  some (t16, h9)) fun t16_10 h11 =>
  gQ (gdW t8 true) h11 ((binP .lss t10 t16_10).bind fun t17 =>
  some (t17, h11)) fun t17_12 h13 =>
  (pickP t8 t17_12 (AV.bool false)).bind fun t18 =>
  gQ (gdW t18 true) h13 (some (x0, h13)) fun t20 h14 =>
  gQ (gdW t18 true) h14 ((nilV t20).bind fun t21 =>
  some (t21, h14)) fun t21_15 h16 =>
  gQ (gdW t18 true) h16 ((faP 0 t21_15).bind fun t22 =>
  some (t22, h16)) fun t22_17 h18 =>
  gQ (gdW t18 true) h18 ((faP 0 t22_17).bind fun t23 =>
  some (t23, h18)) fun t23_19 h20 =>
  gQ (gdW t18 true) h20 ((ldS h20 t23_19).bind fun t24 =>
  some (t24, h20)) fun t24_21 h22 =>
  gQ (gdW t18 true) h22 (some (x1, h22)) fun t25 h23 =>
  gQ (gdW t18 true) h23 ((iaS 3 t24_21 t25).bind fun t26 =>
  some (t26, h23)) fun t26_24 h25 =>
  gQ (gdW t18 true) h25 ((faP 0 t26_24).bind fun t27 =>
  some (t27, h25)) fun t27_26 h27 =>
  gQ (gdW t18 true) h27 ((ldS h27 t27_26).bind fun t28 =>
  some (t28, h27)) fun t28_28 h29 =>
  gQ (gdW t18 true) h29 (some (x2, h29)) fun t29 h30 =>
  gQ (gdW t18 true) h30 ((eqP (some (.int .i64)) none false .eql t28_28 t29).bind fun t30 =>
  some (t30, h30)) fun t30_31 h32 =>
  (pickP t18 t30_31 (AV.bool false)).bind fun t31 =>
  some (t31, h32)
def T67 : Tab := (122, p3 k_verify_checker_shape) :: T66
/- 123: (*gantline/verify.checker).fresh -/
def k_verify_checker_fresh_j0 (q2 : AV) (q18 : AV) (q5_9 : AV) (h10 : Heap) : OutV :=
  (binP .add q18 (AV.int .i64 1)).bind fun t51_11 =>
  some (.normal, [q2, q5_9, t51_11], h10)
def k_verify_checker_fresh_b0 (x0 : AV) (t12 : AV) (t17 : AV) (q2 : AV) (q5 : AV) (q18 : AV) (h1 : Heap) : OutV :=
  (binP .lss q18 t17).bind fun t19 =>
  condE t19 (
  (iaS 4 t12 q18).bind fun t21 =>
  (ldA 4 h1 t21).bind fun t22 =>
  mk (some (Blk.cells true [(AV.int .i64 0), (AV.int .i64 0), (AV.int .i64 0), (AV.int .i64 0)], fun i => AV.ptr (some (i, 0)))) h1 fun t7 h5 =>
  cl (stP 4 h5 t7 t22) fun u h6 =>
  (faP 0 t7).bind fun t23 =>
  (ldS h6 t23).bind fun t24 =>
  (binP .lss t24 (AV.int .i64 0)).bind fun t25 =>
  (gV (gdW t25 false) (faP 0 t7) (.tup [])).bind fun t27 =>
  (gV (gdW t25 false) (ldS h6 t27) (.tup [])).bind fun t28 =>
  (gV (gdW t25 false) (binP .gtr t28 (AV.int .i64 2)) (.tup [])).bind fun t29 =>
  (pickP t25 (AV.bool true) t29).bind fun t30 =>
  (gV (gdW t30 false) (some x0) (.tup [])).bind fun t32 =>
  (gV (gdW t30 false) (nilV t32) (.tup [])).bind fun t33 =>
  (gV (gdW t30 false) (faP 15 t33) (.tup [])).bind fun t34 =>
  (gV (gdW t30 false) (ldS h6 t34) (.tup [])).bind fun t35 =>
  (gV (gdW t30 false) (some x0) (.tup [])).bind fun t36 =>
  (gV (gdW t30 false) (nilV t36) (.tup [])).bind fun t37 =>
  (gV (gdW t30 false) (faP 17 t37) (.tup [])).bind fun t38 =>
  (gV (gdW t30 false) (faP 1 t38) (.tup [])).bind fun t39 =>
  (gV (gdW t30 false) (ldS h6 t39) (.tup [])).bind fun t40 =>
  (gV (gdW t30 false) (some q18) (.tup [])).bind fun t41 =>
  (gV (gdW t30 false) (binP .add t40 t41) (.tup [])).bind fun t42 =>
  (gV (gdW t30 false) (iaS 1 t35 t42) (.tup [])).bind fun t43 =>
  (gV (gdW t30 false) (ldS h6 t43) (.tup [])).bind fun t44 =>
  (pickP t30 (AV.bool true) t44).bind fun t45 =>
  chk [h6] [] (
  condE t45 (
  some (.ret, [(AV.bool false), q5, q18], h6)) (
  (faP 0 t7).bind fun t46 =>
  (ldS h6 t46).bind fun t47 =>
  (eqP (some (.int .i64)) none false .eql t47 (AV.int .i64 2)).bind fun t48 =>
  condE t48 (
  (binP .add q5 (AV.int .i64 1)).bind fun t50 =>
  k_verify_checker_fresh_j0 q2 q18 t50 h6) (
  k_verify_checker_fresh_j0 q2 q18 q5 h6)))) (
  some ((.exit 0), [q2, q5, q18], h1))
def k_verify_checker_fresh_L0 (x0 : AV) (t12 : AV) (t17 : AV) (q2 : AV) (q5 : AV) (q18 : AV) (h1 : Heap) : OutV := loopN (fun us g => k_verify_checker_fresh_b0 x0 t12 t17 (us.getD 0 .bot) (us.getD 1 .bot) (us.getD 2 .bot) g) [q2, q5, q18] h1
def k_verify_checker_fresh_b1 (x0 : AV) (t53 : AV) (q54 : AV) (h13 : Heap) : OutV :=
  (binP .lss q54 t53).bind fun t55 =>
  condE t55 (
  (nilV x0).bind fun t58 =>
  (faP 15 t58).bind fun t59 =>
  (ldS h13 t59).bind fun t60 =>
  (nilV x0).bind fun t62 =>
  (faP 17 t62).bind fun t63 =>
  (faP 1 t63).bind fun t64 =>
  (ldS h13 t64).bind fun t65 =>
  (binP .add t65 q54).bind fun t67 =>
  (iaS 1 t60 t67).bind fun t68 =>
  cl (stP 1 h13 t68 (AV.bool true)) fun u_14 h15 =>
  chk [h13, h15] [] (
  (binP .add q54 (AV.int .i64 1)).bind fun t69 =>
  some (.normal, [t69], h15))) (
  some ((.exit 2), [q54], h13))
def k_verify_checker_fresh_L1 (x0 : AV) (t53 : AV) (q54 : AV) (h13 : Heap) : OutV := loopN (fun us g => k_verify_checker_fresh_b1 x0 t53 (us.getD 0 .bot) g) [q54] h13
def k_verify_checker_fresh (x0 : AV) (h : Heap) : Option (AV × Heap) :=
  cl (k_verify_checker_cases x0 h) fun t11 h0 =>
  (extractV 0 t11).bind fun t12 =>
  (extractV 1 t11).bind fun t13 =>
  (unA .not t13).bind fun t15 =>
  condE t15 (
  some ((AV.bool false), h0)) (
  (lnL t12).bind fun t17 =>
  lp (k_verify_checker_fresh_L0 x0 t12 t17 (AV.bool false) (AV.int .i64 0) (AV.int .i64 0) h0) fun e vs h12 =>
  thenK (if e = .exit 0 then .normal else e) (
  (lnL t12).bind fun t53 =>
  lp (k_verify_checker_fresh_L1 x0 t53 (AV.int .i64 0) h12) fun e_16 vs_17 h18 =>
  thenK (if e_16 = .exit 2 then .normal else e_16) (
  (binP .leq (vs.getD 1 .bot) (AV.int .i64 1)).bind fun t71 =>
  some (t71, h18)) (fun e_19 => endE e_19 (some ((vs.getD 0 .bot), h18)))) (fun e_20 => endE e_20 (some ((vs.getD 0 .bot), h12))))
def T68 : Tab := (123, p1 k_verify_checker_fresh) :: T67
/- 99: (*gantline/verify.checker).there -/
def k_verify_checker_there (x0 : AV) (h : Heap) : Option (AV × Heap) :=
  (nilV x0).bind fun t11 =>
  (faP 17 t11).bind fun t12 =>
  (ldA 5 h t12).bind fun t13 =>
  mk (some (Blk.cells true [(AV.int .i64 0), (AV.int .i64 0), (AV.int .i64 0), (AV.int .i64 0), (AV.int .i64 0)], fun i => AV.ptr (some (i, 0)))) h fun t3 h0 =>
  cl (stP 5 h0 t3 t13) fun u h1 =>
  (faP 0 t3).bind fun t14 =>
  (ldS h1 t14).bind fun t15 =>
  (eqP (some (.int .i64)) none false .eql t15 (AV.int .i64 0)).bind fun t17 =>
  condE t17 (
  (faP 2 t3).bind fun t18 =>
  (ldS h1 t18).bind fun t19 =>
  (binP .geq t19 (AV.int .i64 0)).bind fun t20 =>
  (gV (gdW t20 true) (faP 2 t3) (.tup [])).bind fun t22 =>
  (gV (gdW t20 true) (ldS h1 t22) (.tup [])).bind fun t23 =>
  (gV (gdW t20 true) (some x0) (.tup [])).bind fun t24 =>
  (gV (gdW t20 true) (nilV t24) (.tup [])).bind fun t25 =>
  (gV (gdW t20 true) (faP 0 t25) (.tup [])).bind fun t26 =>
  (gV (gdW t20 true) (faP 2 t26) (.tup [])).bind fun t27 =>
  (gV (gdW t20 true) (ldS h1 t27) (.tup [])).bind fun t28 =>
  (gV (gdW t20 true) (lnL t28) (.tup [])).bind fun t29 =>
  (gV (gdW t20 true) (binP .lss t23 t29) (.tup [])).bind fun t30 =>
  (pickP t20 t30 (AV.bool false)).bind fun t31 =>
  chk [h1] [] (
  some (t31, h1))) (
  (eqP (some (.int .i64)) none false .eql t15 (AV.int .i64 25)).bind fun t33 =>
  condE t33 (
  (faP 2 t3).bind fun t35 =>
  (ldS h1 t35).bind fun t36 =>
  cl (k_verify_checker_shape x0 t36 (AV.int .i64 0) h1) fun t37 h2 =>
  some (t37, h2)) (
  (eqP (some (.int .i64)) none false .eql t15 (AV.int .i64 26)).bind fun t39 =>
  condE t39 (
  (faP 2 t3).bind fun t41 =>
  (ldS h1 t41).bind fun t42 =>
  cl (k_verify_checker_shape x0 t42 (AV.int .i64 1) h1) fun t43 h3 =>
  some (t43, h3)) (
  (eqP (some (.int .i64)) none false .eql t15 (AV.int .i64 37)).bind fun t45 =>
  condE t45 (
  (faP 2 t3).bind fun t47 =>
  (ldS h1 t47).bind fun t48 =>
  cl (k_verify_checker_shape x0 t48 (AV.int .i64 3) h1) fun t49 h4 =>
  some (t49, h4)) (
  (eqP (some (.int .i64)) none false .eql t15 (AV.int .i64 34)).bind fun t51 =>
  condE t51 (
  (faP 2 t3).bind fun t52 =>
  (ldS h1 t52).bind fun t53 =>
  (binP .geq t53 (AV.int .i64 0)).bind fun t54 =>
  (gV (gdW t54 true) (faP 2 t3) (.tup [])).bind fun t56 =>
  (gV (gdW t54 true) (ldS h1 t56) (.tup [])).bind fun t57 =>
  (gV (gdW t54 true) (some x0) (.tup [])).bind fun t58 =>
  (gV (gdW t54 true) (nilV t58) (.tup [])).bind fun t59 =>
  (gV (gdW t54 true) (faP 0 t59) (.tup [])).bind fun t60 =>
  (gV (gdW t54 true) (faP 1 t60) (.tup [])).bind fun t61 =>
  (gV (gdW t54 true) (ldS h1 t61) (.tup [])).bind fun t62 =>
  (gV (gdW t54 true) (lnL t62) (.tup [])).bind fun t63 =>
  (gV (gdW t54 true) (binP .lss t57 t63) (.tup [])).bind fun t64 =>
  (pickP t54 t64 (AV.bool false)).bind fun t65 =>
  chk [h1] [] (
  some (t65, h1))) (
  (eqP (some (.int .i64)) none false .eql t15 (AV.int .i64 35)).bind fun t67 =>
  condE t67 (
  (faP 1 t3).bind fun t68 =>
  (ldS h1 t68).bind fun t69 =>
  (binP .geq t69 (AV.int .i64 0)).bind fun t70 =>
  (gV (gdW t70 true) (faP 1 t3) (.tup [])).bind fun t72 =>
  (gV (gdW t70 true) (ldS h1 t72) (.tup [])).bind fun t73 =>
  (gV (gdW t70 true) (some x0) (.tup [])).bind fun t74 =>
  (gV (gdW t70 true) (nilV t74) (.tup [])).bind fun t75 =>
  (gV (gdW t70 true) (faP 0 t75) (.tup [])).bind fun t76 =>
  (gV (gdW t70 true) (faP 1 t76) (.tup [])).bind fun t77 =>
  (gV (gdW t70 true) (ldS h1 t77) (.tup [])).bind fun t78 =>
  (gV (gdW t70 true) (lnL t78) (.tup [])).bind fun t79 =>
  (gV (gdW t70 true) (binP .lss t73 t79) (.tup [])).bind fun t80 =>
  (pickP t70 t80 (AV.bool false)).bind fun t81 =>
  chk [h1] [] (
  some (t81, h1))) (
  (eqP (some (.int .i64)) none false .eql t15 (AV.int .i64 20)).bind fun t83 =>
  condE t83 (
  (faP 2 t3).bind fun t86 =>
  (ldS h1 t86).bind fun t87 =>
  cl (k_verify_checker_fn x0 t87 h1) fun t88 h5 =>
  (extractV 0 t88).bind fun t89 =>
  (extractV 1 t88).bind fun t90 =>
  mk (some (Blk.cells true [(AV.int .i64 0), (AV.int .i64 0), (AV.int .i64 0), (AV.int .i64 0), (AV.sl none 0 (.ex 0)), (AV.sl none 0 (.ex 0)), (AV.sl none 0 (.ex 0))], fun i => AV.ptr (some (i, 0)))) h5 fun t4 h6 =>
  cl (stP 7 h6 t4 t89) fun u_7 h8 =>
  gQ (gdW t90 true) h8 ((faP 1 t4).bind fun t93 =>
  some (t93, h8)) fun t93_9 h10 =>
  gQ (gdW t90 true) h10 ((ldS h10 t93_9).bind fun t94 =>
  some (t94, h10)) fun t94_11 h12 =>
  gQ (gdW t90 true) h12 ((eqP (some (.int .i64)) none false .eql t94_11 (AV.int .i64 0)).bind fun t95 =>
  some (t95, h12)) fun t95_13 h14 =>
  (pickP t90 t95_13 (AV.bool false)).bind fun t96 =>
  some (t96, h14)) (
  (eqP (some (.int .i64)) none false .eql t15 (AV.int .i64 23)).bind fun t98 =>
  condE t98 (
  (faP 1 t3).bind fun t101 =>
  (ldS h1 t101).bind fun t102 =>
  cl (k_verify_checker_fn x0 t102 h1) fun t103 h15 =>
  (extractV 0 t103).bind fun t104 =>
  (extractV 1 t103).bind fun t105 =>
  mk (some (Blk.cells true [(AV.int .i64 0), (AV.int .i64 0), (AV.int .i64 0), (AV.int .i64 0), (AV.sl none 0 (.ex 0)), (AV.sl none 0 (.ex 0)), (AV.sl none 0 (.ex 0))], fun i => AV.ptr (some (i, 0)))) h15 fun t6 h16 =>
  cl (stP 7 h16 t6 t104) fun u_17 h18 =>
  gQ (gdW t105 true) h18 ((faP 1 t6).bind fun t108 =>
  some (t108, h18)) fun t108_19 h20 =>
  gQ (gdW t105 true) h20 ((ldS h20 t108_19).bind fun t109 =>
  some (t109, h20)) fun t109_21 h22 =>
  gQ (gdW t105 true) h22 ((eqP (some (.int .i64)) none false .eql t109_21 (AV.int .i64 0)).bind fun t110 =>
  some (t110, h22)) fun t110_23 h24 =>
  (pickP t105 t110_23 (AV.bool false)).bind fun t111 =>
  gQ (gdW t111 true) h24 ((faP 3 t6).bind fun t113 =>
  some (t113, h24)) fun t113_25 h26 =>
  gQ (gdW t111 true) h26 ((ldS h26 t113_25).bind fun t114 =>
  some (t114, h26)) fun t114_27 h28 =>
  gQ (gdW t111 true) h28 ((eqP (some (.int .i64)) none false .eql t114_27 (AV.int .i64 0)).bind fun t115 =>
  some (t115, h28)) fun t115_29 h30 =>
  (pickP t111 t115_29 (AV.bool false)).bind fun t116 =>
  some (t116, h30)) (
  (eqP (some (.int .i64)) none false .eql t15 (AV.int .i64 36)).bind fun t118 =>
  condE t118 (
  (faP 2 t3).bind fun t121 =>
  (ldS h1 t121).bind fun t122 =>
  cl (k_verify_checker_fn x0 t122 h1) fun t123 h31 =>
  (extractV 0 t123).bind fun t124 =>
  (extractV 1 t123).bind fun t125 =>
  mk (some (Blk.cells true [(AV.int .i64 0), (AV.int .i64 0), (AV.int .i64 0), (AV.int .i64 0), (AV.sl none 0 (.ex 0)), (AV.sl none 0 (.ex 0)), (AV.sl none 0 (.ex 0))], fun i => AV.ptr (some (i, 0)))) h31 fun t8 h32 =>
  cl (stP 7 h32 t8 t124) fun u_33 h34 =>
  some (t125, h34)) (
  (eqP (some (.int .i64)) none false .eql t15 (AV.int .i64 21)).bind fun t128 =>
  condE t128 (
  (faP 4 t3).bind fun t129 =>
  (ldS h1 t129).bind fun t130 =>
  (binP .geq t130 (AV.int .i64 0)).bind fun t131 =>
  some (t131, h1)) (
  (eqP (some (.int .i64)) none false .eql t15 (AV.int .i64 24)).bind fun t133 =>
  condE t133 (
  (faP 3 t3).bind fun t134 =>
  (ldS h1 t134).bind fun t135 =>
  (binP .geq t135 (AV.int .i64 0)).bind fun t136 =>
  some (t136, h1)) (
  (eqP (some (.int .i64)) none false .eql t15 (AV.int .i64 44)).bind fun t138 =>
  condE t138 (
  (faP 1 t3).bind fun t139 =>
  (ldS h1 t139).bind fun t140 =>
  (binP .geq t140 (AV.int .i64 1)).bind fun t141 =>
  gQ (gdW t141 true) h1 ((faP 1 t3).bind fun t143 =>
  some (t143, h1)) fun t143_35 h36 =>
  gQ (gdW t141 true) h36 ((ldS h36 t143_35).bind fun t144 =>
  some (t144, h36)) fun t144_37 h38 =>
  gQ (gdW t141 true) h38 ((binP .leq t144_37 (AV.int .i64 6)).bind fun t145 =>
  some (t145, h38)) fun t145_39 h40 =>
  (pickP t141 t145_39 (AV.bool false)).bind fun t146 =>
  some (t146, h40)) (
  (eqP (some (.int .i64)) none false .eql t15 (AV.int .i64 41)).bind fun t148 =>
  condE t148 (
  cl (k_verify_checker_fresh x0 h1) fun t150 h41 =>
  some (t150, h41)) (
  some ((AV.bool true), h1))))))))))))))
def T69 : Tab := (99, p1 k_verify_checker_there) :: T68
/- 131: (*gantline/verify.checker).args -/
def k_verify_checker_args_b0 (x0 : AV) (x2 : AV) (x3 : AV) (x4 : AV) (t6 : AV) (q10 : AV) (q13 : AV) (h1 : Heap) : OutV :=
  (binP .lss q13 x4).bind fun t14 =>
  condE t14 (
  (nilV x0).bind fun t17 =>
  (faP 6 t17).bind fun t18 =>
  (faP 4 t18).bind fun t19 =>
  (ldS h1 t19).bind fun t20 =>
  (binP .add x3 q13).bind fun t23 =>
  (iaS 1 t20 t23).bind fun t24 =>
  (ldS h1 t24).bind fun t25 =>
  (faP 4 t6).bind fun t26 =>
  (ldS h1 t26).bind fun t27 =>
  (binP .add x2 q13).bind fun t30 =>
  (iaS 1 t27 t30).bind fun t31 =>
  (ldS h1 t31).bind fun t32 =>
  (eqP (some .bool) none false .neq t25 t32).bind fun t33 =>
  chk [h1] [] (
  condE t33 (
  some (.ret, [(AV.bool false), q13], h1)) (
  (binP .add q13 (AV.int .i64 1)).bind fun t34 =>
  some (.normal, [q10, t34], h1)))) (
  some ((.exit 0), [q10, q13], h1))
def k_verify_checker_args_L0 (x0 : AV) (x2 : AV) (x3 : AV) (x4 : AV) (t6 : AV) (q10 : AV) (q13 : AV) (h1 : Heap) : OutV := loopN (fun us g => k_verify_checker_args_b0 x0 x2 x3 x4 t6 (us.getD 0 .bot) (us.getD 1 .bot) g) [q10, q13] h1
def k_verify_checker_args (x0 : AV) (x1 : AV) (x2 : AV) (x3 : AV) (x4 : AV) (h : Heap) : Option (AV × Heap) :=
  mk (bxP x1) h fun t6 h0 =>
  lp (k_verify_checker_args_L0 x0 x2 x3 x4 t6 (AV.bool false) (AV.int .i64 0) h0) fun e vs h2 =>
  thenK (if e = .exit 0 then .normal else e) (
  some ((AV.bool true), h2)) (fun e_3 => endE e_3 (some ((vs.getD 0 .bot), h2)))
def T70 : Tab := (131, p5 k_verify_checker_args) :: T69
/- 126: (*gantline/verify.checker).calls -/
def k_verify_checker_calls (x0 : AV) (h : Heap) : Option (AV × Heap) :=
  (nilV x0).bind fun t11 =>
  (faP 17 t11).bind fun t12 =>
  (ldA 5 h t12).bind fun t13 =>
  mk (some (Blk.cells true [(AV.int .i64 0), (AV.int .i64 0), (AV.int .i64 0), (AV.int .i64 0), (AV.int .i64 0)], fun i => AV.ptr (some (i, 0)))) h fun t3 h0 =>
  cl (stP 5 h0 t3 t13) fun u h1 =>
  (faP 0 t3).bind fun t14 =>
  (ldS h1 t14).bind fun t15 =>
  (eqP (some (.int .i64)) none false .eql t15 (AV.int .i64 20)).bind fun t17 =>
  condE t17 (
  (faP 2 t3).bind fun t20 =>
  (ldS h1 t20).bind fun t21 =>
  cl (k_verify_checker_fn x0 t21 h1) fun t22 h2 =>
  (extractV 0 t22).bind fun t23 =>
  (extractV 1 t22).bind fun t24 =>
  mk (some (Blk.cells true [(AV.int .i64 0), (AV.int .i64 0), (AV.int .i64 0), (AV.int .i64 0), (AV.sl none 0 (.ex 0)), (AV.sl none 0 (.ex 0)), (AV.sl none 0 (.ex 0))], fun i => AV.ptr (some (i, 0)))) h2 fun t4 h3 =>
  cl (stP 7 h3 t4 t23) fun u_4 h5 =>
  (ldA 7 h5 t4).bind fun t26 =>
  (faP 3 t3).bind fun t27 =>
  (ldS h5 t27).bind fun t28 =>
  (faP 0 t4).bind fun t29 =>
  (ldS h5 t29).bind fun t30 =>
  cl (k_verify_checker_args x0 t26 (AV.int .i64 0) t28 t30 h5) fun t31 h6 =>
  (unA .not t31).bind fun t32 =>
  condE t32 (
  some ((AV.bool false), h6)) (
  (faP 1 t3).bind fun t33 =>
  (ldS h6 t33).bind fun t34 =>
  (eqP (some (.int .i64)) none false .eql t34 (AV.int .i64 (-1))).bind fun t35 =>
  gQ (gdW t35 false) h6 ((faP 3 t4).bind fun t37 =>
  some (t37, h6)) fun t37_7 h8 =>
  gQ (gdW t35 false) h8 ((ldS h8 t37_7).bind fun t38 =>
  some (t38, h8)) fun t38_9 h10 =>
  gQ (gdW t35 false) h10 ((binP .gtr t38_9 (AV.int .i64 0)).bind fun t39 =>
  some (t39, h10)) fun t39_11 h12 =>
  gQ (gdW t35 false) h12 (some (t39_11, h12)) fun t40 h13 =>
  gQ (gdW t40 true) h13 (some (x0, h13)) fun t41 h14 =>
  gQ (gdW t40 true) h14 ((faP 3 t4).bind fun t42 =>
  some (t42, h14)) fun t42_15 h16 =>
  gQ (gdW t40 true) h16 ((ldS h16 t42_15).bind fun t43 =>
  some (t43, h16)) fun t43_17 h18 =>
  gQ (gdW t40 true) h18 ((eqP (some (.int .i64)) none false .eql t43_17 (AV.int .i64 2)).bind fun t44 =>
  some (t44, h18)) fun t44_19 h20 =>
  gQ (gdW t40 true) h20 ((faP 1 t3).bind fun t45 =>
  some (t45, h20)) fun t45_21 h22 =>
  gQ (gdW t40 true) h22 ((ldS h22 t45_21).bind fun t46 =>
  some (t46, h22)) fun t46_23 h24 =>
  gQ (gdW t40 true) h24 (mk (bsP 1 [(AV.int .i64 0)] 1 [(0, t46_23)]) h24 fun t47 h25 =>
  some (t47, h25)) fun t47_26 h27 =>
  gQ (gdW t40 true) h27 (cl (k_verify_checker_is t41 t44_19 t47_26 h27) fun t48 h28 =>
  some (t48, h28)) fun t48_29 h30 =>
  gQ (gdW t35 false) h30 ((pickP t40 t48_29 (AV.bool false)).bind fun t49 =>
  some (t49, h30)) fun t49_31 h32 =>
  (pickP t35 (AV.bool true) t49_31).bind fun t50 =>
  some (t50, h32))) (
  (eqP (some (.int .i64)) none false .eql t15 (AV.int .i64 23)).bind fun t52 =>
  condE t52 (
  (faP 1 t3).bind fun t55 =>
  (ldS h1 t55).bind fun t56 =>
  cl (k_verify_checker_fn x0 t56 h1) fun t57 h33 =>
  (extractV 0 t57).bind fun t58 =>
  (extractV 1 t57).bind fun t59 =>
  mk (some (Blk.cells true [(AV.int .i64 0), (AV.int .i64 0), (AV.int .i64 0), (AV.int .i64 0), (AV.sl none 0 (.ex 0)), (AV.sl none 0 (.ex 0)), (AV.sl none 0 (.ex 0))], fun i => AV.ptr (some (i, 0)))) h33 fun t6 h34 =>
  cl (stP 7 h34 t6 t58) fun u_35 h36 =>
  (ldA 7 h36 t6).bind fun t61 =>
  (faP 2 t3).bind fun t62 =>
  (ldS h36 t62).bind fun t63 =>
  (faP 0 t6).bind fun t64 =>
  (ldS h36 t64).bind fun t65 =>
  cl (k_verify_checker_args x0 t61 (AV.int .i64 0) t63 t65 h36) fun t66 h37 =>
  some (t66, h37)) (
  (eqP (some (.int .i64)) none false .eql t15 (AV.int .i64 36)).bind fun t68 =>
  condE t68 (
  (faP 2 t3).bind fun t71 =>
  (ldS h1 t71).bind fun t72 =>
  cl (k_verify_checker_fn x0 t72 h1) fun t73 h38 =>
  (extractV 0 t73).bind fun t74 =>
  (extractV 1 t73).bind fun t75 =>
  mk (some (Blk.cells true [(AV.int .i64 0), (AV.int .i64 0), (AV.int .i64 0), (AV.int .i64 0), (AV.sl none 0 (.ex 0)), (AV.sl none 0 (.ex 0)), (AV.sl none 0 (.ex 0))], fun i => AV.ptr (some (i, 0)))) h38 fun t8 h39 =>
  cl (stP 7 h39 t8 t74) fun u_40 h41 =>
  (faP 1 t3).bind fun t77 =>
  (ldS h41 t77).bind fun t78 =>
  mk (bsP 1 [(AV.int .i64 0)] 1 [(0, t78)]) h41 fun t79 h42 =>
  cl (k_verify_checker_is x0 (AV.bool true) t79 h42) fun t80 h43 =>
  gQ (gdW t80 true) h43 (some (x0, h43)) fun t82 h44 =>
  gQ (gdW t80 true) h44 ((ldA 7 h44 t8).bind fun t83 =>
  some (t83, h44)) fun t83_45 h46 =>
  gQ (gdW t80 true) h46 ((faP 0 t8).bind fun t84 =>
  some (t84, h46)) fun t84_47 h48 =>
  gQ (gdW t80 true) h48 ((ldS h48 t84_47).bind fun t85 =>
  some (t85, h48)) fun t85_49 h50 =>
  gQ (gdW t80 true) h50 ((faP 3 t3).bind fun t86 =>
  some (t86, h50)) fun t86_51 h52 =>
  gQ (gdW t80 true) h52 ((ldS h52 t86_51).bind fun t87 =>
  some (t87, h52)) fun t87_53 h54 =>
  gQ (gdW t80 true) h54 ((faP 1 t8).bind fun t88 =>
  some (t88, h54)) fun t88_55 h56 =>
  gQ (gdW t80 true) h56 ((ldS h56 t88_55).bind fun t89 =>
  some (t89, h56)) fun t89_57 h58 =>
  gQ (gdW t80 true) h58 (cl (k_verify_checker_args t82 t83_45 t85_49 t87_53 t89_57 h58) fun t90 h59 =>
  some (t90, h59)) fun t90_60 h61 =>
  (pickP t80 t90_60 (AV.bool false)).bind fun t91 =>
  some (t91, h61)) (
  (eqP (some (.int .i64)) none false .eql t15 (AV.int .i64 22)).bind fun t93 =>
  condE t93 (
  (faP 1 t3).bind fun t94 =>
  (ldS h1 t94).bind fun t95 =>
  (eqP (some (.int .i64)) none false .eql t95 (AV.int .i64 (-1))).bind fun t96 =>
  condE t96 (
  (nilV x0).bind fun t98 =>
  (faP 6 t98).bind fun t99 =>
  (faP 3 t99).bind fun t100 =>
  (ldS h1 t100).bind fun t101 =>
  (eqP (some (.int .i64)) none false .eql t101 (AV.int .i64 0)).bind fun t102 =>
  some (t102, h1)) (
  (nilV x0).bind fun t104 =>
  (faP 6 t104).bind fun t105 =>
  (faP 3 t105).bind fun t106 =>
  (ldS (hpN h1 1) t106).bind fun t107 =>
  (binP .gtr t107 (AV.int .i64 0)).bind fun t108 =>
  (gV (gdW t108 true) (some x0) (.tup [])).bind fun t110 =>
  (gV (gdW t108 true) (some x0) (.tup [])).bind fun t111 =>
  (gV (gdW t108 true) (nilV t111) (.tup [])).bind fun t112 =>
  (gV (gdW t108 true) (faP 6 t112) (.tup [])).bind fun t113 =>
  (gV (gdW t108 true) (faP 3 t113) (.tup [])).bind fun t114 =>
  (gV (gdW t108 true) (ldS (hpN h1 1) t114) (.tup [])).bind fun t115 =>
  (gV (gdW t108 true) (eqP (some (.int .i64)) none false .eql t115 (AV.int .i64 2)) (.tup [])).bind fun t116 =>
  (gV (gdW t108 true) (faP 1 t3) (.tup [])).bind fun t117 =>
  (gV (gdW t108 true) (ldS (hpN h1 1) t117) (.tup [])).bind fun t118 =>
  cl (gV (gdW t108 true) (mkAt (bsP 1 [(AV.int .i64 0)] 1 [(0, t118)]) (h1.next + 0) (hpN h1 1)) (.tup [], (hpN h1 1))) fun t119 h62 =>
  gQ (gdW t108 true) h62 (cl (k_verify_checker_is t110 t116 t119 h62) fun t120 h63 =>
  some (t120, h63)) fun t120_64 h65 =>
  (pickP t108 t120_64 (AV.bool false)).bind fun t121 =>
  chk [(hpN h1 1), h65] [] (
  some (t121, h65)))) (
  some ((AV.bool true), h1)))))
def T71 : Tab := (126, p1 k_verify_checker_calls) :: T70
/- 100: (*gantline/verify.checker).kinds -/
def k_verify_checker_kinds (x0 : AV) (h : Heap) : Option (AV × Heap) :=
  mk (bxP x0) h fun t1 h0 =>
  (ldS h0 t1).bind fun t7 =>
  (nilV t7).bind fun t8 =>
  (faP 17 t8).bind fun t9 =>
  (ldA 5 h0 t9).bind fun t10 =>
  mk (some (Blk.cells true [(AV.int .i64 0), (AV.int .i64 0), (AV.int .i64 0), (AV.int .i64 0), (AV.int .i64 0)], fun i => AV.ptr (some (i, 0)))) h0 fun t3 h1 =>
  cl (stP 5 h1 t3 t10) fun u h2 =>
  (faP 0 t3).bind fun t11 =>
  (ldS h2 t11).bind fun t12 =>
  (eqP (some (.int .i64)) none false .eql t12 (AV.int .i64 0)).bind fun t15 =>
  gQ (gdW t15 false) h2 (some (t12, h2)) fun t17 h3 =>
  gQ (gdW t15 false) h3 ((eqP (some (.int .i64)) none false .eql t17 (AV.int .i64 19)).bind fun t18 =>
  some (t18, h3)) fun t18_4 h5 =>
  (pickP t15 (AV.bool true) t18_4).bind fun t19 =>
  gQ (gdW t19 false) h5 (some (t12, h5)) fun t21 h6 =>
  gQ (gdW t19 false) h6 ((eqP (some (.int .i64)) none false .eql t21 (AV.int .i64 42)).bind fun t22 =>
  some (t22, h6)) fun t22_7 h8 =>
  (pickP t19 (AV.bool true) t22_7).bind fun t23 =>
  condE t23 (
  (ldS h8 t1).bind fun t24 =>
  (faP 1 t3).bind fun t25 =>
  (ldS h8 t25).bind fun t26 =>
  mk (bsP 1 [(AV.int .i64 0)] 1 [(0, t26)]) h8 fun t27 h9 =>
  cl (k_verify_checker_is t24 (AV.bool false) t27 h9) fun t28 h10 =>
  some (t28, h10)) (
  (eqP (some (.int .i64)) none false .eql t12 (AV.int .i64 1)).bind fun t31 =>
  condE t31 (
  (ldS (hpN h8 1) t1).bind fun t32 =>
  (ldS (hpN h8 1) t1).bind fun t33 =>
  (nilV t33).bind fun t34 =>
  (faP 6 t34).bind fun t35 =>
  (faP 4 t35).bind fun t36 =>
  (ldS (hpN h8 1) t36).bind fun t37 =>
  (faP 2 t3).bind fun t38 =>
  (ldS (hpN h8 1) t38).bind fun t39 =>
  (iaS 1 t37 t39).bind fun t40 =>
  (ldS (hpN h8 1) t40).bind fun t41 =>
  (faP 1 t3).bind fun t42 =>
  (ldS (hpN h8 1) t42).bind fun t43 =>
  cl (mkAt (bsP 1 [(AV.int .i64 0)] 1 [(0, t43)]) (h8.next + 0) (hpN h8 1)) fun t44 h11 =>
  cl (k_verify_checker_is t32 t41 t44 h11) fun t45 h12 =>
  chk [(hpN h8 1), h12] [] (
  some (t45, h12))) (
  (eqP (some (.int .i64)) none false .eql t12 (AV.int .i64 2)).bind fun t48 =>
  gQ (gdW t48 false) h8 (some (t12, h8)) fun t50 h13 =>
  gQ (gdW t48 false) h13 ((eqP (some (.int .i64)) none false .eql t50 (AV.int .i64 25)).bind fun t51 =>
  some (t51, h13)) fun t51_14 h15 =>
  (pickP t48 (AV.bool true) t51_14).bind fun t52 =>
  gQ (gdW t52 false) h15 (some (t12, h15)) fun t54 h16 =>
  gQ (gdW t52 false) h16 ((eqP (some (.int .i64)) none false .eql t54 (AV.int .i64 40)).bind fun t55 =>
  some (t55, h16)) fun t55_17 h18 =>
  (pickP t52 (AV.bool true) t55_17).bind fun t56 =>
  condE t56 (
  (ldS h18 t1).bind fun t57 =>
  (faP 1 t3).bind fun t58 =>
  (ldS h18 t58).bind fun t59 =>
  mk (bsP 1 [(AV.int .i64 0)] 1 [(0, t59)]) h18 fun t60 h19 =>
  cl (k_verify_checker_is t57 (AV.bool true) t60 h19) fun t61 h20 =>
  some (t61, h20)) (
  (binP .geq t12 (AV.int .i64 3)).bind fun t64 =>
  gQ (gdW t64 true) h18 (some (t12, h18)) fun t66 h21 =>
  gQ (gdW t64 true) h21 ((binP .leq t66 (AV.int .i64 15)).bind fun t67 =>
  some (t67, h21)) fun t67_22 h23 =>
  (pickP t64 t67_22 (AV.bool false)).bind fun t68 =>
  condE t68 (
  (ldS h23 t1).bind fun t69 =>
  (faP 1 t3).bind fun t70 =>
  (ldS h23 t70).bind fun t71 =>
  (faP 2 t3).bind fun t72 =>
  (ldS h23 t72).bind fun t73 =>
  (faP 3 t3).bind fun t74 =>
  (ldS h23 t74).bind fun t75 =>
  mk (bsP 1 [(AV.int .i64 0)] 3 [(0, t71), (1, t73), (2, t75)]) h23 fun t76 h24 =>
  cl (k_verify_checker_is t69 (AV.bool false) t76 h24) fun t77 h25 =>
  some (t77, h25)) (
  (eqP (some (.int .i64)) none false .eql t12 (AV.int .i64 16)).bind fun t80 =>
  condE t80 (
  (ldS h23 t1).bind fun t81 =>
  (faP 1 t3).bind fun t82 =>
  (ldS h23 t82).bind fun t83 =>
  mk (bsP 1 [(AV.int .i64 0)] 1 [(0, t83)]) h23 fun t84 h26 =>
  cl (k_verify_checker_is t81 (AV.bool false) t84 h26) fun t85 h27 =>
  gQ (gdW t85 true) h27 ((ldS h27 t1).bind fun t87 =>
  some (t87, h27)) fun t87_28 h29 =>
  gQ (gdW t85 true) h29 ((faP 2 t3).bind fun t88 =>
  some (t88, h29)) fun t88_30 h31 =>
  gQ (gdW t85 true) h31 ((ldS h31 t88_30).bind fun t89 =>
  some (t89, h31)) fun t89_32 h33 =>
  gQ (gdW t85 true) h33 ((faP 3 t3).bind fun t90 =>
  some (t90, h33)) fun t90_34 h35 =>
  gQ (gdW t85 true) h35 ((ldS h35 t90_34).bind fun t91 =>
  some (t91, h35)) fun t91_36 h37 =>
  gQ (gdW t85 true) h37 (mk (bsP 1 [(AV.int .i64 0)] 2 [(0, t89_32), (1, t91_36)]) h37 fun t92 h38 =>
  some (t92, h38)) fun t92_39 h40 =>
  gQ (gdW t85 true) h40 (cl (k_verify_checker_is t87_28 (AV.bool true) t92_39 h40) fun t93 h41 =>
  some (t93, h41)) fun t93_42 h43 =>
  (pickP t85 t93_42 (AV.bool false)).bind fun t94 =>
  some (t94, h43)) (
  (eqP (some (.int .i64)) none false .eql t12 (AV.int .i64 17)).bind fun t97 =>
  condE t97 (
  (ldS h23 t1).bind fun t98 =>
  (faP 1 t3).bind fun t99 =>
  (ldS h23 t99).bind fun t100 =>
  (faP 2 t3).bind fun t101 =>
  (ldS h23 t101).bind fun t102 =>
  mk (bsP 1 [(AV.int .i64 0)] 2 [(0, t100), (1, t102)]) h23 fun t103 h44 =>
  cl (k_verify_checker_is t98 (AV.bool false) t103 h44) fun t104 h45 =>
  some (t104, h45)) (
  (eqP (some (.int .i64)) none false .eql t12 (AV.int .i64 26)).bind fun t107 =>
  gQ (gdW t107 false) h23 (some (t12, h23)) fun t109 h46 =>
  gQ (gdW t107 false) h46 ((eqP (some (.int .i64)) none false .eql t109 (AV.int .i64 37)).bind fun t110 =>
  some (t110, h46)) fun t110_47 h48 =>
  (pickP t107 (AV.bool true) t110_47).bind fun t111 =>
  condE t111 (
  (ldS h48 t1).bind fun t112 =>
  (faP 1 t3).bind fun t113 =>
  (ldS h48 t113).bind fun t114 =>
  mk (bsP 1 [(AV.int .i64 0)] 1 [(0, t114)]) h48 fun t115 h49 =>
  cl (k_verify_checker_is t112 (AV.bool true) t115 h49) fun t116 h50 =>
  gQ (gdW t116 true) h50 ((ldS h50 t1).bind fun t118 =>
  some (t118, h50)) fun t118_51 h52 =>
  gQ (gdW t116 true) h52 ((faP 3 t3).bind fun t119 =>
  some (t119, h52)) fun t119_53 h54 =>
  gQ (gdW t116 true) h54 ((ldS h54 t119_53).bind fun t120 =>
  some (t120, h54)) fun t120_55 h56 =>
  gQ (gdW t116 true) h56 (mk (bsP 1 [(AV.int .i64 0)] 1 [(0, t120_55)]) h56 fun t121 h57 =>
  some (t121, h57)) fun t121_58 h59 =>
  gQ (gdW t116 true) h59 (cl (k_verify_checker_is t118_51 (AV.bool false) t121_58 h59) fun t122 h60 =>
  some (t122, h60)) fun t122_61 h62 =>
  (pickP t116 t122_61 (AV.bool false)).bind fun t123 =>
  some (t123, h62)) (
  (eqP (some (.int .i64)) none false .eql t12 (AV.int .i64 27)).bind fun t126 =>
  gQ (gdW t126 false) h48 (some (t12, h48)) fun t128 h63 =>
  gQ (gdW t126 false) h63 ((eqP (some (.int .i64)) none false .eql t128 (AV.int .i64 21)).bind fun t129 =>
  some (t129, h63)) fun t129_64 h65 =>
  (pickP t126 (AV.bool true) t129_64).bind fun t130 =>
  condE t130 (
  (ldS h65 t1).bind fun t131 =>
  (faP 2 t3).bind fun t132 =>
  (ldS h65 t132).bind fun t133 =>
  mk (bsP 1 [(AV.int .i64 0)] 1 [(0, t133)]) h65 fun t134 h66 =>
  cl (k_verify_checker_is t131 (AV.bool true) t134 h66) fun t135 h67 =>
  some (t135, h67)) (
  (eqP (some (.int .i64)) none false .eql t12 (AV.int .i64 28)).bind fun t138 =>
  gQ (gdW t138 false) h65 (some (t12, h65)) fun t140 h68 =>
  gQ (gdW t138 false) h68 ((eqP (some (.int .i64)) none false .eql t140 (AV.int .i64 29)).bind fun t141 =>
  some (t141, h68)) fun t141_69 h70 =>
  (pickP t138 (AV.bool true) t141_69).bind fun t142 =>
  gQ (gdW t142 false) h70 (some (t12, h70)) fun t144 h71 =>
  gQ (gdW t142 false) h71 ((eqP (some (.int .i64)) none false .eql t144 (AV.int .i64 24)).bind fun t145 =>
  some (t145, h71)) fun t145_72 h73 =>
  (pickP t142 (AV.bool true) t145_72).bind fun t146 =>
  gQ (gdW t146 false) h73 (some (t12, h73)) fun t148 h74 =>
  gQ (gdW t146 false) h74 ((eqP (some (.int .i64)) none false .eql t148 (AV.int .i64 38)).bind fun t149 =>
  some (t149, h74)) fun t149_75 h76 =>
  (pickP t146 (AV.bool true) t149_75).bind fun t150 =>
  condE t150 (
  (ldS h76 t1).bind fun t151 =>
  (faP 1 t3).bind fun t152 =>
  (ldS h76 t152).bind fun t153 =>
  mk (bsP 1 [(AV.int .i64 0)] 1 [(0, t153)]) h76 fun t154 h77 =>
  cl (k_verify_checker_is t151 (AV.bool true) t154 h77) fun t155 h78 =>
  some (t155, h78)) (
  (eqP (some (.int .i64)) none false .eql t12 (AV.int .i64 30)).bind fun t158 =>
  condE t158 (
  (ldS h76 t1).bind fun t159 =>
  (faP 2 t3).bind fun t160 =>
  (ldS h76 t160).bind fun t161 =>
  mk (bsP 1 [(AV.int .i64 0)] 1 [(0, t161)]) h76 fun t162 h79 =>
  cl (k_verify_checker_is t159 (AV.bool true) t162 h79) fun t163 h80 =>
  gQ (gdW t163 true) h80 ((ldS h80 t1).bind fun t165 =>
  some (t165, h80)) fun t165_81 h82 =>
  gQ (gdW t163 true) h82 ((faP 3 t3).bind fun t166 =>
  some (t166, h82)) fun t166_83 h84 =>
  gQ (gdW t163 true) h84 ((ldS h84 t166_83).bind fun t167 =>
  some (t167, h84)) fun t167_85 h86 =>
  gQ (gdW t163 true) h86 (mk (bsP 1 [(AV.int .i64 0)] 1 [(0, t167_85)]) h86 fun t168 h87 =>
  some (t168, h87)) fun t168_88 h89 =>
  gQ (gdW t163 true) h89 (cl (k_verify_checker_is t165_81 (AV.bool false) t168_88 h89) fun t169 h90 =>
  some (t169, h90)) fun t169_91 h92 =>
  (pickP t163 t169_91 (AV.bool false)).bind fun t170 =>
  some (t170, h92)) (
  (eqP (some (.int .i64)) none false .eql t12 (AV.int .i64 31)).bind fun t173 =>
  gQ (gdW t173 false) h76 (some (t12, h76)) fun t175 h93 =>
  gQ (gdW t173 false) h93 ((eqP (some (.int .i64)) none false .eql t175 (AV.int .i64 32)).bind fun t176 =>
  some (t176, h93)) fun t176_94 h95 =>
  (pickP t173 (AV.bool true) t176_94).bind fun t177 =>
  condE t177 (
  (ldS h95 t1).bind fun t178 =>
  (faP 1 t3).bind fun t179 =>
  (ldS h95 t179).bind fun t180 =>
  mk (bsP 1 [(AV.int .i64 0)] 1 [(0, t180)]) h95 fun t181 h96 =>
  cl (k_verify_checker_is t178 (AV.bool true) t181 h96) fun t182 h97 =>
  gQ (gdW t182 true) h97 ((ldS h97 t1).bind fun t184 =>
  some (t184, h97)) fun t184_98 h99 =>
  gQ (gdW t182 true) h99 ((faP 2 t3).bind fun t185 =>
  some (t185, h99)) fun t185_100 h101 =>
  gQ (gdW t182 true) h101 ((ldS h101 t185_100).bind fun t186 =>
  some (t186, h101)) fun t186_102 h103 =>
  gQ (gdW t182 true) h103 (mk (bsP 1 [(AV.int .i64 0)] 1 [(0, t186_102)]) h103 fun t187 h104 =>
  some (t187, h104)) fun t187_105 h106 =>
  gQ (gdW t182 true) h106 (cl (k_verify_checker_is t184_98 (AV.bool false) t187_105 h106) fun t188 h107 =>
  some (t188, h107)) fun t188_108 h109 =>
  (pickP t182 t188_108 (AV.bool false)).bind fun t189 =>
  some (t189, h109)) (
  (eqP (some (.int .i64)) none false .eql t12 (AV.int .i64 33)).bind fun t192 =>
  condE t192 (
  (ldS h95 t1).bind fun t193 =>
  (faP 1 t3).bind fun t194 =>
  (ldS h95 t194).bind fun t195 =>
  mk (bsP 1 [(AV.int .i64 0)] 1 [(0, t195)]) h95 fun t196 h110 =>
  cl (k_verify_checker_is t193 (AV.bool false) t196 h110) fun t197 h111 =>
  gQ (gdW t197 true) h111 ((ldS h111 t1).bind fun t199 =>
  some (t199, h111)) fun t199_112 h113 =>
  gQ (gdW t197 true) h113 ((faP 2 t3).bind fun t200 =>
  some (t200, h113)) fun t200_114 h115 =>
  gQ (gdW t197 true) h115 ((ldS h115 t200_114).bind fun t201 =>
  some (t201, h115)) fun t201_116 h117 =>
  gQ (gdW t197 true) h117 (mk (bsP 1 [(AV.int .i64 0)] 1 [(0, t201_116)]) h117 fun t202 h118 =>
  some (t202, h118)) fun t202_119 h120 =>
  gQ (gdW t197 true) h120 (cl (k_verify_checker_is t199_112 (AV.bool true) t202_119 h120) fun t203 h121 =>
  some (t203, h121)) fun t203_122 h123 =>
  (pickP t197 t203_122 (AV.bool false)).bind fun t204 =>
  some (t204, h123)) (
  (eqP (some (.int .i64)) none false .eql t12 (AV.int .i64 34)).bind fun t207 =>
  condE t207 (
  (ldS (hpN h95 1) t1).bind fun t208 =>
  (ldS (hpN h95 1) t1).bind fun t209 =>
  (nilV t209).bind fun t210 =>
  (faP 0 t210).bind fun t211 =>
  (faP 1 t211).bind fun t212 =>
  (ldS (hpN h95 1) t212).bind fun t213 =>
  (faP 2 t3).bind fun t214 =>
  (ldS (hpN h95 1) t214).bind fun t215 =>
  (iaS 1 t213 t215).bind fun t216 =>
  (ldS (hpN h95 1) t216).bind fun t217 =>
  (faP 1 t3).bind fun t218 =>
  (ldS (hpN h95 1) t218).bind fun t219 =>
  cl (mkAt (bsP 1 [(AV.int .i64 0)] 1 [(0, t219)]) (h95.next + 0) (hpN h95 1)) fun t220 h124 =>
  cl (k_verify_checker_is t208 t217 t220 h124) fun t221 h125 =>
  chk [(hpN h95 1), h125] [] (
  some (t221, h125))) (
  (eqP (some (.int .i64)) none false .eql t12 (AV.int .i64 35)).bind fun t224 =>
  condE t224 (
  (ldS (hpN h95 1) t1).bind fun t225 =>
  (ldS (hpN h95 1) t1).bind fun t226 =>
  (nilV t226).bind fun t227 =>
  (faP 0 t227).bind fun t228 =>
  (faP 1 t228).bind fun t229 =>
  (ldS (hpN h95 1) t229).bind fun t230 =>
  (faP 1 t3).bind fun t231 =>
  (ldS (hpN h95 1) t231).bind fun t232 =>
  (iaS 1 t230 t232).bind fun t233 =>
  (ldS (hpN h95 1) t233).bind fun t234 =>
  (faP 2 t3).bind fun t235 =>
  (ldS (hpN h95 1) t235).bind fun t236 =>
  cl (mkAt (bsP 1 [(AV.int .i64 0)] 1 [(0, t236)]) (h95.next + 0) (hpN h95 1)) fun t237 h126 =>
  cl (k_verify_checker_is t225 t234 t237 h126) fun t238 h127 =>
  chk [(hpN h95 1), h127] [] (
  some (t238, h127))) (
  (eqP (some (.int .i64)) none false .eql t12 (AV.int .i64 39)).bind fun t241 =>
  condE t241 (
  (ldS h95 t1).bind fun t242 =>
  (faP 2 t3).bind fun t243 =>
  (ldS h95 t243).bind fun t244 =>
  mk (bsP 1 [(AV.int .i64 0)] 1 [(0, t244)]) h95 fun t245 h128 =>
  cl (k_verify_checker_is t242 (AV.bool true) t245 h128) fun t246 h129 =>
  gQ (gdW t246 true) h129 ((faP 3 t3).bind fun t248 =>
  some (t248, h129)) fun t248_130 h131 =>
  gQ (gdW t246 true) h131 ((ldS h131 t248_130).bind fun t249 =>
  some (t249, h131)) fun t249_132 h133 =>
  gQ (gdW t246 true) h133 ((eqP (some (.int .i64)) none false .eql t249_132 (AV.int .i64 (-1))).bind fun t250 =>
  some (t250, h133)) fun t250_134 h135 =>
  gQ (gdW t246 true) h135 (some (t250_134, h135)) fun t251 h136 =>
  gQ (gdW t251 false) h136 ((ldS h136 t1).bind fun t252 =>
  some (t252, h136)) fun t252_137 h138 =>
  gQ (gdW t251 false) h138 ((faP 3 t3).bind fun t253 =>
  some (t253, h138)) fun t253_139 h140 =>
  gQ (gdW t251 false) h140 ((ldS h140 t253_139).bind fun t254 =>
  some (t254, h140)) fun t254_141 h142 =>
  gQ (gdW t251 false) h142 (mk (bsP 1 [(AV.int .i64 0)] 1 [(0, t254_141)]) h142 fun t255 h143 =>
  some (t255, h143)) fun t255_144 h145 =>
  gQ (gdW t251 false) h145 (cl (k_verify_checker_is t252_137 (AV.bool false) t255_144 h145) fun t256 h146 =>
  some (t256, h146)) fun t256_147 h148 =>
  gQ (gdW t246 true) h148 ((pickP t251 (AV.bool true) t256_147).bind fun t257 =>
  some (t257, h148)) fun t257_149 h150 =>
  (pickP t246 t257_149 (AV.bool false)).bind fun t258 =>
  some (t258, h150)) (
  (eqP (some (.int .i64)) none false .eql t12 (AV.int .i64 41)).bind fun t261 =>
  condE t261 (
  (ldS h95 t1).bind fun t263 =>
  cl (k_verify_checker_cases t263 h95) fun t264 h151 =>
  (extractV 0 t264).bind fun t265 =>
  (extractV 1 t264).bind fun t266 =>
  cl (k_slices_ContainsFunc_code_Case_code_Case t265 (AV.fn 125 [] [t1]) h151) fun t269 h152 =>
  (unA .not t269).bind fun t270 =>
  some (t270, h152)) (
  (ldS h95 t1).bind fun t271 =>
  cl (k_verify_checker_calls t271 h95) fun t272 h153 =>
  some (t272, h153)))))))))))))))))
def T72 : Tab := (100, p1 k_verify_checker_kinds) :: T71
/- 127: (*gantline/verify.checker).targets -/
def k_verify_checker_targets_b0 (t34 : AV) (t37 : AV) (q3 : AV) (q38 : AV) (h3 : Heap) : OutV :=
  (binP .lss q38 t37).bind fun t39 =>
  condE t39 (
  (iaS 4 t34 q38).bind fun t40 =>
  (ldA 4 h3 t40).bind fun t41 =>
  mk (some (Blk.cells true [(AV.int .i64 0), (AV.int .i64 0), (AV.int .i64 0), (AV.int .i64 0)], fun i => AV.ptr (some (i, 0)))) h3 fun t7 h4 =>
  cl (stP 4 h4 t7 t41) fun u h5 =>
  (faP 3 t7).bind fun t43 =>
  (ldS h5 t43).bind fun t44 =>
  mk (bsP 1 [(AV.int .i64 0)] 1 [(0, t44)]) h5 fun t45 h6 =>
  cl (appendA h6 1 8 q3 t45) fun t46 h7 =>
  (binP .add q38 (AV.int .i64 1)).bind fun t47 =>
  some (.normal, [t46, t47], h7)) (
  some ((.exit 1), [q3, q38], h3))
def k_verify_checker_targets_L0 (t34 : AV) (t37 : AV) (q3 : AV) (q38 : AV) (h3 : Heap) : OutV := loopN (fun us g => k_verify_checker_targets_b0 t34 t37 (us.getD 0 .bot) (us.getD 1 .bot) g) [q3, q38] h3
def k_verify_checker_targets (x0 : AV) (h : Heap) : Option (AV × Heap) :=
  (nilV x0).bind fun t9 =>
  (faP 17 t9).bind fun t10 =>
  (faP 0 t10).bind fun t11 =>
  (ldS h t11).bind fun t12 =>
  (eqP (some (.int .i64)) none false .eql t12 (AV.int .i64 18)).bind fun t14 =>
  condE t14 (
  (nilV x0).bind fun t16 =>
  (faP 17 t16).bind fun t17 =>
  (faP 1 t17).bind fun t18 =>
  (ldS h t18).bind fun t19 =>
  mk (bsP 1 [(AV.int .i64 0)] 1 [(0, t19)]) h fun t20 h0 =>
  some (t20, h0)) (
  (eqP (some (.int .i64)) none false .eql t12 (AV.int .i64 19)).bind fun t22 =>
  condE t22 (
  (nilV x0).bind fun t24 =>
  (faP 17 t24).bind fun t25 =>
  (faP 2 t25).bind fun t26 =>
  (ldS h t26).bind fun t27 =>
  mk (bsP 1 [(AV.int .i64 0)] 1 [(0, t27)]) h fun t28 h1 =>
  some (t28, h1)) (
  (eqP (some (.int .i64)) none false .eql t12 (AV.int .i64 41)).bind fun t30 =>
  condE t30 (
  cl (k_verify_checker_cases x0 h) fun t33 h2 =>
  (extractV 0 t33).bind fun t34 =>
  (extractV 1 t33).bind fun t35 =>
  (lnL t34).bind fun t37 =>
  lp (k_verify_checker_targets_L0 t34 t37 (AV.sl none 0 (.ex 0)) (AV.int .i64 0) h2) fun e vs h8 =>
  thenK (if e = .exit 1 then .normal else e) (
  some ((vs.getD 0 .bot), h8)) (fun e_9 => thenK (if e_9 = .exit 0 then .normal else e_9) (
  some ((AV.sl none 0 (.ex 0)), h8)) (fun e_10 => endE e_10 (some ((AV.sl none 0 (.ex 0)), h8))))) (
  some ((AV.sl none 0 (.ex 0)), h))))
def T73 : Tab := (127, p1 k_verify_checker_targets) :: T72
/- 101: (*gantline/verify.checker).on -/
def k_verify_checker_on_b0 (x0 : AV) (t6 : AV) (t7 : AV) (q2 : AV) (q8 : AV) (h1 : Heap) : OutV :=
  (binP .lss q8 t7).bind fun t9 =>
  condE t9 (
  (iaS 1 t6 q8).bind fun t10 =>
  (ldS h1 t10).bind fun t11 =>
  (binP .lss t11 (AV.int .i64 0)).bind fun t13 =>
  gQ (gdW t13 false) h1 (some (t11, h1)) fun t15 h2 =>
  gQ (gdW t13 false) h2 (some (x0, h2)) fun t16 h3 =>
  gQ (gdW t13 false) h3 ((nilV t16).bind fun t17 =>
  some (t17, h3)) fun t17_4 h5 =>
  gQ (gdW t13 false) h5 ((faP 6 t17_4).bind fun t18 =>
  some (t18, h5)) fun t18_6 h7 =>
  gQ (gdW t13 false) h7 ((faP 5 t18_6).bind fun t19 =>
  some (t19, h7)) fun t19_8 h9 =>
  gQ (gdW t13 false) h9 ((ldS h9 t19_8).bind fun t20 =>
  some (t20, h9)) fun t20_10 h11 =>
  gQ (gdW t13 false) h11 ((lnL t20_10).bind fun t21 =>
  some (t21, h11)) fun t21_12 h13 =>
  gQ (gdW t13 false) h13 ((binP .geq t15 t21_12).bind fun t22 =>
  some (t22, h13)) fun t22_14 h15 =>
  (pickP t13 (AV.bool true) t22_14).bind fun t23 =>
  condE t23 (
  some (.ret, [(AV.bool false), q8], h15)) (
  (binP .add q8 (AV.int .i64 1)).bind fun t24 =>
  some (.normal, [q2, t24], h15))) (
  some ((.exit 0), [q2, q8], h1))
def k_verify_checker_on_L0 (x0 : AV) (t6 : AV) (t7 : AV) (q2 : AV) (q8 : AV) (h1 : Heap) : OutV := loopN (fun us g => k_verify_checker_on_b0 x0 t6 t7 (us.getD 0 .bot) (us.getD 1 .bot) g) [q2, q8] h1
def k_verify_checker_on (x0 : AV) (h : Heap) : Option (AV × Heap) :=
  cl (k_verify_checker_targets x0 h) fun t6 h0 =>
  (lnL t6).bind fun t7 =>
  lp (k_verify_checker_on_L0 x0 t6 t7 (AV.bool false) (AV.int .i64 0) h0) fun e vs h16 =>
  thenK (if e = .exit 0 then .normal else e) (
  (nilV x0).bind fun t26 =>
  (faP 16 t26).bind fun t27 =>
  (ldS h16 t27).bind fun t28 =>
  (nilV x0).bind fun t30 =>
  (faP 6 t30).bind fun t31 =>
  (faP 5 t31).bind fun t32 =>
  (ldS h16 t32).bind fun t33 =>
  (lnL t33).bind fun t34 =>
  (binP .sub t34 (AV.int .i64 1)).bind fun t35 =>
  (binP .lss t28 t35).bind fun t36 =>
  chk [h16] [] (
  condE t36 (
  some ((AV.bool true), h16)) (
  (nilV x0).bind fun t38 =>
  (faP 17 t38).bind fun t39 =>
  (faP 0 t39).bind fun t40 =>
  (ldS h16 t40).bind fun t41 =>
  (eqP (some (.int .i64)) none false .eql t41 (AV.int .i64 18)).bind fun t43 =>
  condE t43 (
  condE t43 (
  some ((AV.bool true), h16)) (
  some ((AV.bool false), h16))) (
  (eqP (some (.int .i64)) none false .eql t41 (AV.int .i64 22)).bind fun t44 =>
  condE t44 (
  condE t44 (
  some ((AV.bool true), h16)) (
  some ((AV.bool false), h16))) (
  (eqP (some (.int .i64)) none false .eql t41 (AV.int .i64 44)).bind fun t45 =>
  condE t45 (
  condE t45 (
  some ((AV.bool true), h16)) (
  some ((AV.bool false), h16))) (
  (eqP (some (.int .i64)) none false .eql t41 (AV.int .i64 41)).bind fun t46 =>
  condE t46 (
  some ((AV.bool true), h16)) (
  some ((AV.bool false), h16)))))))) (fun e_25 => endE e_25 (some ((vs.getD 0 .bot), h16)))
def T74 : Tab := (101, p1 k_verify_checker_on) :: T73
/- 102: (*gantline/verify.checker).back -/
def k_verify_checker_back_b0 (x0 : AV) (t6 : AV) (t7 : AV) (q2 : AV) (q8 : AV) (h1 : Heap) : OutV :=
  (binP .lss q8 t7).bind fun t9 =>
  condE t9 (
  (iaS 1 t6 q8).bind fun t10 =>
  (ldS h1 t10).bind fun t11 =>
  (nilV x0).bind fun t14 =>
  (faP 16 t14).bind fun t15 =>
  (ldS h1 t15).bind fun t16 =>
  (binP .leq t11 t16).bind fun t17 =>
  gQ (gdW t17 true) h1 (some (x0, h1)) fun t19 h2 =>
  gQ (gdW t17 true) h2 ((nilV t19).bind fun t20 =>
  some (t20, h2)) fun t20_3 h4 =>
  gQ (gdW t17 true) h4 ((faP 6 t20_3).bind fun t21 =>
  some (t21, h4)) fun t21_5 h6 =>
  gQ (gdW t17 true) h6 ((faP 5 t21_5).bind fun t22 =>
  some (t22, h6)) fun t22_7 h8 =>
  gQ (gdW t17 true) h8 ((ldS h8 t22_7).bind fun t23 =>
  some (t23, h8)) fun t23_9 h10 =>
  gQ (gdW t17 true) h10 (some (t11, h10)) fun t24 h11 =>
  gQ (gdW t17 true) h11 ((iaS 5 t23_9 t24).bind fun t25 =>
  some (t25, h11)) fun t25_12 h13 =>
  gQ (gdW t17 true) h13 ((faP 0 t25_12).bind fun t26 =>
  some (t26, h13)) fun t26_14 h15 =>
  gQ (gdW t17 true) h15 ((ldS h15 t26_14).bind fun t27 =>
  some (t27, h15)) fun t27_16 h17 =>
  gQ (gdW t17 true) h17 ((eqP (some (.int .i64)) none false .neq t27_16 (AV.int .i64 43)).bind fun t28 =>
  some (t28, h17)) fun t28_18 h19 =>
  (pickP t17 t28_18 (AV.bool false)).bind fun t29 =>
  condE t29 (
  some (.ret, [(AV.bool false), q8], h19)) (
  (binP .add q8 (AV.int .i64 1)).bind fun t30 =>
  some (.normal, [q2, t30], h19))) (
  some ((.exit 0), [q2, q8], h1))
def k_verify_checker_back_L0 (x0 : AV) (t6 : AV) (t7 : AV) (q2 : AV) (q8 : AV) (h1 : Heap) : OutV := loopN (fun us g => k_verify_checker_back_b0 x0 t6 t7 (us.getD 0 .bot) (us.getD 1 .bot) g) [q2, q8] h1
def k_verify_checker_back (x0 : AV) (h : Heap) : Option (AV × Heap) :=
  cl (k_verify_checker_targets x0 h) fun t6 h0 =>
  (lnL t6).bind fun t7 =>
  lp (k_verify_checker_back_L0 x0 t6 t7 (AV.bool false) (AV.int .i64 0) h0) fun e vs h20 =>
  thenK (if e = .exit 0 then .normal else e) (
  some ((AV.bool true), h20)) (fun e_21 => endE e_21 (some ((vs.getD 0 .bot), h20)))
def T75 : Tab := (102, p1 k_verify_checker_back) :: T74
/- 57: slices.Clone[gantline/fresh.states,gantline/fresh.State] -/
def k_slices_Clone_fresh_states_fresh_State (x0 : AV) (h : Heap) : Option (AV × Heap) :=
  (eqP (some (.slice 0)) none false .eql x0 (AV.sl none 0 (.ex 0))).bind fun t4 =>
  condE t4 (
  some ((AV.sl none 0 (.ex 0)), h)) (
  mk (bsP 3 [(AV.bool false), (AV.bool false), (AV.int .u64 0)] 0 []) h fun t5 h0 =>
  cl (appendA h0 3 16 t5 x0) fun t7 h1 =>
  some (t7, h1))
def T76 : Tab := (57, p1 k_slices_Clone_fresh_states_fresh_State) :: T75
/- 59: gantline/fresh.sent -/
def k_fresh_sent_b0 (t49 : AV) (t50 : AV) (q5 : AV) (q51 : AV) (h44 : Heap) : OutV :=
  (binP .lss q51 t50).bind fun t52 =>
  condE t52 (
  (iaS 4 t49 q51).bind fun t53 =>
  (ldA 4 h44 t53).bind fun t54 =>
  mk (some (Blk.cells true [(AV.int .i64 0), (AV.int .i64 0), (AV.int .i64 0), (AV.int .i64 0)], fun i => AV.ptr (some (i, 0)))) h44 fun t7 h47 =>
  cl (stP 4 h47 t7 t54) fun u h48 =>
  (faP 0 t7).bind fun t55 =>
  (ldS h48 t55).bind fun t56 =>
  (eqP (some (.int .i64)) none false .eql t56 (AV.int .i64 1)).bind fun t57 =>
  condE t57 (
  (faP 2 t7).bind fun t59 =>
  (ldS h48 t59).bind fun t60 =>
  mk (bsP 1 [(AV.int .i64 0)] 1 [(0, t60)]) h48 fun t61 h57 =>
  cl (appendA h57 1 8 q5 t61) fun t62 h58 =>
  (binP .add q51 (AV.int .i64 1)).bind fun t63_59 =>
  some (.normal, [t62, t63_59], h58)) (
  (binP .add q51 (AV.int .i64 1)).bind fun t63_60 =>
  some (.normal, [q5, t63_60], h48))) (
  some ((.exit 0), [q5, q51], h44))
def k_fresh_sent_L0 (t49 : AV) (t50 : AV) (q5 : AV) (q51 : AV) (h44 : Heap) : OutV := loopN (fun us g => k_fresh_sent_b0 t49 t50 (us.getD 0 .bot) (us.getD 1 .bot) g) [q5, q51] h44
def k_fresh_sent (x0 : AV) (x1 : AV) (h : Heap) : Option (AV × Heap) :=
  mk (bxP x0) h fun t2 h0 =>
  mk (bxP x1) h0 fun t3 h1 =>
  (faP 0 t3).bind fun t8 =>
  (ldS h1 t8).bind fun t9 =>
  (eqP (some (.int .i64)) none false .neq t9 (AV.int .i64 41)).bind fun t10 =>
  gQ (gdW t10 false) h1 ((faP 1 t3).bind fun t12 =>
  some (t12, h1)) fun t12_2 h3 =>
  gQ (gdW t10 false) h3 ((ldS h3 t12_2).bind fun t13 =>
  some (t13, h3)) fun t13_4 h5 =>
  gQ (gdW t10 false) h5 ((binP .lss t13_4 (AV.int .i64 0)).bind fun t14 =>
  some (t14, h5)) fun t14_6 h7 =>
  (pickP t10 (AV.bool true) t14_6).bind fun t15 =>
  gQ (gdW t15 false) h7 ((faP 2 t3).bind fun t17 =>
  some (t17, h7)) fun t17_8 h9 =>
  gQ (gdW t15 false) h9 ((ldS h9 t17_8).bind fun t18 =>
  some (t18, h9)) fun t18_10 h11 =>
  gQ (gdW t15 false) h11 ((binP .lss t18_10 (AV.int .i64 0)).bind fun t19 =>
  some (t19, h11)) fun t19_12 h13 =>
  (pickP t15 (AV.bool true) t19_12).bind fun t20 =>
  gQ (gdW t20 false) h13 ((faP 1 t3).bind fun t22 =>
  some (t22, h13)) fun t22_14 h15 =>
  gQ (gdW t20 false) h15 ((ldS h15 t22_14).bind fun t23 =>
  some (t23, h15)) fun t23_16 h17 =>
  gQ (gdW t20 false) h17 ((faP 3 t2).bind fun t24 =>
  some (t24, h17)) fun t24_18 h19 =>
  gQ (gdW t20 false) h19 ((ldS h19 t24_18).bind fun t25 =>
  some (t25, h19)) fun t25_20 h21 =>
  gQ (gdW t20 false) h21 ((lnL t25_20).bind fun t26 =>
  some (t26, h21)) fun t26_22 h23 =>
  gQ (gdW t20 false) h23 ((binP .gtr t23_16 t26_22).bind fun t27 =>
  some (t27, h23)) fun t27_24 h25 =>
  (pickP t20 (AV.bool true) t27_24).bind fun t28 =>
  gQ (gdW t28 false) h25 ((faP 2 t3).bind fun t30 =>
  some (t30, h25)) fun t30_26 h27 =>
  gQ (gdW t28 false) h27 ((ldS h27 t30_26).bind fun t31 =>
  some (t31, h27)) fun t31_28 h29 =>
  gQ (gdW t28 false) h29 ((faP 3 t2).bind fun t32 =>
  some (t32, h29)) fun t32_30 h31 =>
  gQ (gdW t28 false) h31 ((ldS h31 t32_30).bind fun t33 =>
  some (t33, h31)) fun t33_32 h33 =>
  gQ (gdW t28 false) h33 ((lnL t33_32).bind fun t34 =>
  some (t34, h33)) fun t34_34 h35 =>
  gQ (gdW t28 false) h35 ((faP 1 t3).bind fun t35 =>
  some (t35, h35)) fun t35_36 h37 =>
  gQ (gdW t28 false) h37 ((ldS h37 t35_36).bind fun t36 =>
  some (t36, h37)) fun t36_38 h39 =>
  gQ (gdW t28 false) h39 ((binP .sub t34_34 t36_38).bind fun t37 =>
  some (t37, h39)) fun t37_40 h41 =>
  gQ (gdW t28 false) h41 ((binP .gtr t31_28 t37_40).bind fun t38 =>
  some (t38, h41)) fun t38_42 h43 =>
  (pickP t28 (AV.bool true) t38_42).bind fun t39 =>
  condE t39 (
  some ((AV.sl none 0 (.ex 0)), h43)) (
  (faP 3 t2).bind fun t40 =>
  (ldS h43 t40).bind fun t41 =>
  (faP 1 t3).bind fun t42 =>
  (ldS h43 t42).bind fun t43 =>
  (faP 1 t3).bind fun t44 =>
  (ldS h43 t44).bind fun t45 =>
  (faP 2 t3).bind fun t46 =>
  (ldS h43 t46).bind fun t47 =>
  (binP .add t45 t47).bind fun t48 =>
  (slcP 4 t41 (some t43) (some t48) none).bind fun t49 =>
  (lnL t49).bind fun t50 =>
  lp (k_fresh_sent_L0 t49 t50 (AV.sl none 0 (.ex 0)) (AV.int .i64 0) h43) fun e vs h61 =>
  thenK (if e = .exit 0 then .normal else e) (
  some ((vs.getD 0 .bot), h61)) (fun e_62 => endE e_62 (some ((AV.sl none 0 (.ex 0)), h61))))
def T77 : Tab := (59, p2 k_fresh_sent) :: T76
/- 58: (gantline/fresh.states).lend -/
def k_fresh_states_lend_b0 (x0 : AV) (x1 : AV) (t7 : AV) (q8 : AV) (h0 : Heap) : OutV :=
  (binP .lss q8 t7).bind fun t9 =>
  condE t9 (
  (iaS 1 x1 q8).bind fun t10 =>
  (ldS h0 t10).bind fun t11 =>
  (binP .geq t11 (AV.int .i64 0)).bind fun t13 =>
  gQ (gdW t13 true) h0 (some (t11, h0)) fun t15 h2 =>
  gQ (gdW t13 true) h2 (some (x0, h2)) fun t16 h3 =>
  gQ (gdW t13 true) h3 ((lnL t16).bind fun t17 =>
  some (t17, h3)) fun t17_4 h5 =>
  gQ (gdW t13 true) h5 ((binP .lss t15 t17_4).bind fun t18 =>
  some (t18, h5)) fun t18_6 h7 =>
  (pickP t13 t18_6 (AV.bool false)).bind fun t19 =>
  condE t19 (
  (iaS 3 x0 t11).bind fun t22 =>
  (faP 1 t22).bind fun t23 =>
  cl (stP 1 h7 t23 (AV.bool false)) fun u h14 =>
  (binP .add q8 (AV.int .i64 1)).bind fun t24_15 =>
  some (.normal, [t24_15], h14)) (
  (binP .add q8 (AV.int .i64 1)).bind fun t24_16 =>
  some (.normal, [t24_16], h7))) (
  some ((.exit 0), [q8], h0))
def k_fresh_states_lend_L0 (x0 : AV) (x1 : AV) (t7 : AV) (q8 : AV) (h0 : Heap) : OutV := loopN (fun us g => k_fresh_states_lend_b0 x0 x1 t7 (us.getD 0 .bot) g) [q8] h0
def k_fresh_states_lend (x0 : AV) (x1 : AV) (h : Heap) : Option (AV × Heap) :=
  (lnL x1).bind fun t7 =>
  lp (k_fresh_states_lend_L0 x0 x1 t7 (AV.int .i64 0) h) fun e vs h17 =>
  endE (if e = .exit 0 then .normal else e) (some (AV.tup [], h17))
def T78 : Tab := (58, p2 k_fresh_states_lend) :: T77
/- 34: gantline/code.Maker -/
def k_code_Maker (x0 : AV) (h : Heap) : Option (AV × Heap) :=
  (eqP (some (.int .i64)) none false .eql x0 (AV.int .i64 25)).bind fun t4 =>
  gQ (gdW t4 false) h (some (x0, h)) fun t6 h0 =>
  gQ (gdW t4 false) h0 ((eqP (some (.int .i64)) none false .eql t6 (AV.int .i64 26)).bind fun t7 =>
  some (t7, h0)) fun t7_1 h2 =>
  (pickP t4 (AV.bool true) t7_1).bind fun t8 =>
  gQ (gdW t8 false) h2 (some (x0, h2)) fun t10 h3 =>
  gQ (gdW t8 false) h3 ((eqP (some (.int .i64)) none false .eql t10 (AV.int .i64 36)).bind fun t11 =>
  some (t11, h3)) fun t11_4 h5 =>
  (pickP t8 (AV.bool true) t11_4).bind fun t12 =>
  gQ (gdW t12 false) h5 (some (x0, h5)) fun t14 h6 =>
  gQ (gdW t12 false) h6 ((eqP (some (.int .i64)) none false .eql t14 (AV.int .i64 37)).bind fun t15 =>
  some (t15, h6)) fun t15_7 h8 =>
  (pickP t12 (AV.bool true) t15_7).bind fun t16 =>
  some (t16, h8)
def T79 : Tab := (34, p1 k_code_Maker) :: T78
/- 35: gantline/code.Point -/
def k_code_Point_j0 (x0 : AV) (q4 : AV) (h0 : Heap) : Option (AV × Heap) :=
  condE q4 (
  some ((AV.bool true), h0)) (
  cl (k_code_Maker x0 h0) fun t14 h1 =>
  some (t14, h1))
def k_code_Point (x0 : AV) (h : Heap) : Option (AV × Heap) :=
  (eqP (some (.int .i64)) none false .eql x0 (AV.int .i64 20)).bind fun t5 =>
  condE t5 (
  k_code_Point_j0 x0 t5 h) (
  (eqP (some (.int .i64)) none false .eql x0 (AV.int .i64 21)).bind fun t6 =>
  condE t6 (
  k_code_Point_j0 x0 t6 h) (
  (eqP (some (.int .i64)) none false .eql x0 (AV.int .i64 23)).bind fun t7 =>
  condE t7 (
  k_code_Point_j0 x0 t7 h) (
  (eqP (some (.int .i64)) none false .eql x0 (AV.int .i64 24)).bind fun t8 =>
  condE t8 (
  k_code_Point_j0 x0 t8 h) (
  (eqP (some (.int .i64)) none false .eql x0 (AV.int .i64 38)).bind fun t9 =>
  condE t9 (
  k_code_Point_j0 x0 t9 h) (
  (eqP (some (.int .i64)) none false .eql x0 (AV.int .i64 39)).bind fun t10 =>
  condE t10 (
  k_code_Point_j0 x0 t10 h) (
  (eqP (some (.int .i64)) none false .eql x0 (AV.int .i64 41)).bind fun t11 =>
  condE t11 (
  k_code_Point_j0 x0 t11 h) (
  (eqP (some (.int .i64)) none false .eql x0 (AV.int .i64 43)).bind fun t12 =>
  k_code_Point_j0 x0 t12 h)))))))
def T80 : Tab := (35, p1 k_code_Point) :: T79
/- 72: (gantline/fresh.states).put -/
def k_fresh_states_put (x0 : AV) (x1 : AV) (x2 : AV) (h : Heap) : Option (AV × Heap) :=
  mk (bxP x2) h fun t5 h0 =>
  (binP .geq x1 (AV.int .i64 0)).bind fun t7 =>
  gQ (gdW t7 true) h0 (some (x1, h0)) fun t9 h1 =>
  gQ (gdW t7 true) h1 (some (x0, h1)) fun t10 h2 =>
  gQ (gdW t7 true) h2 ((lnL t10).bind fun t11 =>
  some (t11, h2)) fun t11_3 h4 =>
  gQ (gdW t7 true) h4 ((binP .lss t9 t11_3).bind fun t12 =>
  some (t12, h4)) fun t12_5 h6 =>
  (pickP t7 t12_5 (AV.bool false)).bind fun t13 =>
  condE t13 (
  (ldA 3 h6 t5).bind fun t16 =>
  (iaS 3 x0 x1).bind fun t17 =>
  cl (stP 3 h6 t17 t16) fun u h8 =>
  some (AV.tup [], h8)) (
  some (AV.tup [], h6))
def T81 : Tab := (72, p3 k_fresh_states_put) :: T80
/- 70: (gantline/fresh.states).get -/
def k_fresh_states_get (x0 : AV) (x1 : AV) (h : Heap) : Option (AV × Heap) :=
  mk (some (Blk.cells true [(AV.bool false), (AV.bool false), (AV.int .u64 0)], fun i => AV.ptr (some (i, 0)))) h fun t4 h0 =>
  (binP .lss x1 (AV.int .i64 0)).bind fun t6 =>
  gQ (gdW t6 false) h0 (some (x1, h0)) fun t8 h1 =>
  gQ (gdW t6 false) h1 (some (x0, h1)) fun t9 h2 =>
  gQ (gdW t6 false) h2 ((lnL t9).bind fun t10 =>
  some (t10, h2)) fun t10_3 h4 =>
  gQ (gdW t6 false) h4 ((binP .geq t8 t10_3).bind fun t11 =>
  some (t11, h4)) fun t11_5 h6 =>
  (pickP t6 (AV.bool true) t11_5).bind fun t12 =>
  condE t12 (
  (bldS [(0, 1), (1, 1), (2, 1)] [(AV.bool false), (AV.bool false), (AV.int .u64 0)] []).bind fun t13 =>
  cl (stP 3 h6 t4 t13) fun u h7 =>
  (ldA 3 h7 t4).bind fun t =>
  some (t, h7)) (
  (iaS 3 x0 x1).bind fun t16 =>
  (ldA 3 h6 t16).bind fun t17 =>
  cl (stP 3 h6 t4 t17) fun u_8 h9 =>
  (ldA 3 h9 t4).bind fun t_10 =>
  some (t_10, h9))
def T82 : Tab := (70, p2 k_fresh_states_get) :: T81
/- 71: gantline/fresh.bit -/
def k_fresh_bit (x0 : AV) (h : Heap) : Option (AV × Heap) :=
  (binP .lss x0 (AV.int .i64 0)).bind fun t4 =>
  gQ (gdW t4 false) h (some (x0, h)) fun t6 h0 =>
  gQ (gdW t4 false) h0 ((binP .geq t6 (AV.int .i64 64)).bind fun t7 =>
  some (t7, h0)) fun t7_1 h2 =>
  (pickP t4 (AV.bool true) t7_1).bind fun t8 =>
  condE t8 (
  some ((AV.int .u64 0), h2)) (
  (cvI .u64 x0).bind fun t10 =>
  (binP .shl (AV.int .u64 1) t10).bind fun t11 =>
  some (t11, h2))
def T83 : Tab := (71, p1 k_fresh_bit) :: T82
/- 73: (gantline/fresh.states).written -/
def k_fresh_states_written (x0 : AV) (x1 : AV) (x2 : AV) (h : Heap) : Option (AV × Heap) :=
  (binP .geq x1 (AV.int .i64 0)).bind fun t7 =>
  gQ (gdW t7 true) h (some (x1, h)) fun t9 h0 =>
  gQ (gdW t7 true) h0 (some (x0, h0)) fun t10 h1 =>
  gQ (gdW t7 true) h1 ((lnL t10).bind fun t11 =>
  some (t11, h1)) fun t11_2 h3 =>
  gQ (gdW t7 true) h3 ((binP .lss t9 t11_2).bind fun t12 =>
  some (t12, h3)) fun t12_4 h5 =>
  (pickP t7 t12_4 (AV.bool false)).bind fun t13 =>
  condE t13 (
  (iaS 3 x0 x1).bind fun t16 =>
  (faP 2 t16).bind fun t17 =>
  (ldS h5 t17).bind fun t18 =>
  (binP .or t18 x2).bind fun t20 =>
  (iaS 3 x0 x1).bind fun t21 =>
  (faP 2 t21).bind fun t22 =>
  cl (stP 1 h5 t22 t20) fun u h7 =>
  some (AV.tup [], h7)) (
  some (AV.tup [], h5))
def T84 : Tab := (73, p3 k_fresh_states_written) :: T83
/- 74: gantline/fresh.lends -/
def k_fresh_lends (x0 : AV) (h : Heap) : Option (AV × Heap) :=
  (eqP (some (.int .i64)) none false .eql x0 (AV.int .i64 35)).bind fun t5 =>
  condE t5 (
  condE t5 (
  some ((AV.bool true), h)) (
  some ((AV.bool false), h))) (
  (eqP (some (.int .i64)) none false .eql x0 (AV.int .i64 20)).bind fun t6 =>
  condE t6 (
  condE t6 (
  some ((AV.bool true), h)) (
  some ((AV.bool false), h))) (
  (eqP (some (.int .i64)) none false .eql x0 (AV.int .i64 21)).bind fun t7 =>
  condE t7 (
  condE t7 (
  some ((AV.bool true), h)) (
  some ((AV.bool false), h))) (
  (eqP (some (.int .i64)) none false .eql x0 (AV.int .i64 23)).bind fun t8 =>
  condE t8 (
  condE t8 (
  some ((AV.bool true), h)) (
  some ((AV.bool false), h))) (
  (eqP (some (.int .i64)) none false .eql x0 (AV.int .i64 24)).bind fun t9 =>
  condE t9 (
  condE t9 (
  some ((AV.bool true), h)) (
  some ((AV.bool false), h))) (
  (eqP (some (.int .i64)) none false .eql x0 (AV.int .i64 22)).bind fun t10 =>
  condE t10 (
  some ((AV.bool true), h)) (
  some ((AV.bool false), h)))))))
def T85 : Tab := (74, p1 k_fresh_lends) :: T84
/- 75: gantline/fresh.receives -/
def k_fresh_receives_b0 (t49 : AV) (t50 : AV) (q5 : AV) (q51 : AV) (h44 : Heap) : OutV :=
  (binP .lss q51 t50).bind fun t52 =>
  condE t52 (
  (iaS 4 t49 q51).bind fun t53 =>
  (ldA 4 h44 t53).bind fun t54 =>
  mk (some (Blk.cells true [(AV.int .i64 0), (AV.int .i64 0), (AV.int .i64 0), (AV.int .i64 0)], fun i => AV.ptr (some (i, 0)))) h44 fun t7 h47 =>
  cl (stP 4 h47 t7 t54) fun u h48 =>
  (faP 0 t7).bind fun t55 =>
  (ldS h48 t55).bind fun t56 =>
  (eqP (some (.int .i64)) none false .eql t56 (AV.int .i64 0)).bind fun t57 =>
  condE t57 (
  (faP 2 t7).bind fun t59 =>
  (ldS h48 t59).bind fun t60 =>
  mk (bsP 1 [(AV.int .i64 0)] 1 [(0, t60)]) h48 fun t61 h57 =>
  cl (appendA h57 1 8 q5 t61) fun t62 h58 =>
  (binP .add q51 (AV.int .i64 1)).bind fun t63_59 =>
  some (.normal, [t62, t63_59], h58)) (
  (binP .add q51 (AV.int .i64 1)).bind fun t63_60 =>
  some (.normal, [q5, t63_60], h48))) (
  some ((.exit 0), [q5, q51], h44))
def k_fresh_receives_L0 (t49 : AV) (t50 : AV) (q5 : AV) (q51 : AV) (h44 : Heap) : OutV := loopN (fun us g => k_fresh_receives_b0 t49 t50 (us.getD 0 .bot) (us.getD 1 .bot) g) [q5, q51] h44
def k_fresh_receives (x0 : AV) (x1 : AV) (h : Heap) : Option (AV × Heap) :=
  mk (bxP x0) h fun t2 h0 =>
  mk (bxP x1) h0 fun t3 h1 =>
  (faP 0 t3).bind fun t8 =>
  (ldS h1 t8).bind fun t9 =>
  (eqP (some (.int .i64)) none false .neq t9 (AV.int .i64 41)).bind fun t10 =>
  gQ (gdW t10 false) h1 ((faP 1 t3).bind fun t12 =>
  some (t12, h1)) fun t12_2 h3 =>
  gQ (gdW t10 false) h3 ((ldS h3 t12_2).bind fun t13 =>
  some (t13, h3)) fun t13_4 h5 =>
  gQ (gdW t10 false) h5 ((binP .lss t13_4 (AV.int .i64 0)).bind fun t14 =>
  some (t14, h5)) fun t14_6 h7 =>
  (pickP t10 (AV.bool true) t14_6).bind fun t15 =>
  gQ (gdW t15 false) h7 ((faP 2 t3).bind fun t17 =>
  some (t17, h7)) fun t17_8 h9 =>
  gQ (gdW t15 false) h9 ((ldS h9 t17_8).bind fun t18 =>
  some (t18, h9)) fun t18_10 h11 =>
  gQ (gdW t15 false) h11 ((binP .lss t18_10 (AV.int .i64 0)).bind fun t19 =>
  some (t19, h11)) fun t19_12 h13 =>
  (pickP t15 (AV.bool true) t19_12).bind fun t20 =>
  gQ (gdW t20 false) h13 ((faP 1 t3).bind fun t22 =>
  some (t22, h13)) fun t22_14 h15 =>
  gQ (gdW t20 false) h15 ((ldS h15 t22_14).bind fun t23 =>
  some (t23, h15)) fun t23_16 h17 =>
  gQ (gdW t20 false) h17 ((faP 3 t2).bind fun t24 =>
  some (t24, h17)) fun t24_18 h19 =>
  gQ (gdW t20 false) h19 ((ldS h19 t24_18).bind fun t25 =>
  some (t25, h19)) fun t25_20 h21 =>
  gQ (gdW t20 false) h21 ((lnL t25_20).bind fun t26 =>
  some (t26, h21)) fun t26_22 h23 =>
  gQ (gdW t20 false) h23 ((binP .gtr t23_16 t26_22).bind fun t27 =>
  some (t27, h23)) fun t27_24 h25 =>
  (pickP t20 (AV.bool true) t27_24).bind fun t28 =>
  gQ (gdW t28 false) h25 ((faP 2 t3).bind fun t30 =>
  some (t30, h25)) fun t30_26 h27 =>
  gQ (gdW t28 false) h27 ((ldS h27 t30_26).bind fun t31 =>
  some (t31, h27)) fun t31_28 h29 =>
  gQ (gdW t28 false) h29 ((faP 3 t2).bind fun t32 =>
  some (t32, h29)) fun t32_30 h31 =>
  gQ (gdW t28 false) h31 ((ldS h31 t32_30).bind fun t33 =>
  some (t33, h31)) fun t33_32 h33 =>
  gQ (gdW t28 false) h33 ((lnL t33_32).bind fun t34 =>
  some (t34, h33)) fun t34_34 h35 =>
  gQ (gdW t28 false) h35 ((faP 1 t3).bind fun t35 =>
  some (t35, h35)) fun t35_36 h37 =>
  gQ (gdW t28 false) h37 ((ldS h37 t35_36).bind fun t36 =>
  some (t36, h37)) fun t36_38 h39 =>
  gQ (gdW t28 false) h39 ((binP .sub t34_34 t36_38).bind fun t37 =>
  some (t37, h39)) fun t37_40 h41 =>
  gQ (gdW t28 false) h41 ((binP .gtr t31_28 t37_40).bind fun t38 =>
  some (t38, h41)) fun t38_42 h43 =>
  (pickP t28 (AV.bool true) t38_42).bind fun t39 =>
  condE t39 (
  some ((AV.sl none 0 (.ex 0)), h43)) (
  (faP 3 t2).bind fun t40 =>
  (ldS h43 t40).bind fun t41 =>
  (faP 1 t3).bind fun t42 =>
  (ldS h43 t42).bind fun t43 =>
  (faP 1 t3).bind fun t44 =>
  (ldS h43 t44).bind fun t45 =>
  (faP 2 t3).bind fun t46 =>
  (ldS h43 t46).bind fun t47 =>
  (binP .add t45 t47).bind fun t48 =>
  (slcP 4 t41 (some t43) (some t48) none).bind fun t49 =>
  (lnL t49).bind fun t50 =>
  lp (k_fresh_receives_L0 t49 t50 (AV.sl none 0 (.ex 0)) (AV.int .i64 0) h43) fun e vs h61 =>
  thenK (if e = .exit 0 then .normal else e) (
  some ((vs.getD 0 .bot), h61)) (fun e_62 => endE e_62 (some ((AV.sl none 0 (.ex 0)), h61))))
def T86 : Tab := (75, p2 k_fresh_receives) :: T85
/- 60: gantline/fresh.behind -/
def k_fresh_behind_j0 (t4 : AV) (t15 : AV) (t30 : AV) (h123 : Heap) : Option (AV × Heap) :=
  (faP 1 t4).bind fun t81 =>
  (ldS h123 t81).bind fun t82 =>
  (eqP (some (.int .i64)) none false .neq t30 (AV.int .i64 36)).bind fun t84 =>
  (bldS [(0, 1), (1, 1), (2, 1)] [(AV.bool false), (AV.bool false), (AV.int .u64 0)] [(0, (AV.bool true)), (1, t84)]).bind fun t85 =>
  cl (k_fresh_states_put t15 t82 t85 h123) fun t86 h124 =>
  some (t15, h124)
def k_fresh_behind_b0 (t15 : AV) (t46 : AV) (t47 : AV) (q48_373 : AV) (h374 : Heap) : OutV :=
  (binP .lss q48_373 t47).bind fun t49 =>
  condE t49 (
  (iaS 1 t46 q48_373).bind fun t50 =>
  (ldS h374 t50).bind fun t51 =>
  (bldS [(0, 1), (1, 1), (2, 1)] [(AV.bool false), (AV.bool false), (AV.int .u64 0)] []).bind fun t54 =>
  cl (k_fresh_states_put t15 t51 t54 h374) fun t55 h375 =>
  (binP .add q48_373 (AV.int .i64 1)).bind fun t56 =>
  some (.normal, [t56], h375)) (
  some ((.exit 3), [q48_373], h374))
def k_fresh_behind_L0 (t15 : AV) (t46 : AV) (t47 : AV) (q48_373 : AV) (h374 : Heap) : OutV := loopN (fun us g => k_fresh_behind_b0 t15 t46 t47 (us.getD 0 .bot) g) [q48_373] h374
def k_fresh_behind_b1 (t15 : AV) (t59 : AV) (t60 : AV) (q61_378 : AV) (h379 : Heap) : OutV :=
  (binP .lss q61_378 t60).bind fun t62 =>
  condE t62 (
  (iaS 1 t59 q61_378).bind fun t63 =>
  (ldS h379 t63).bind fun t64 =>
  (bldS [(0, 1), (1, 1), (2, 1)] [(AV.bool false), (AV.bool false), (AV.int .u64 0)] []).bind fun t67 =>
  cl (k_fresh_states_put t15 t64 t67 h379) fun t68 h380 =>
  (binP .add q61_378 (AV.int .i64 1)).bind fun t69 =>
  some (.normal, [t69], h380)) (
  some ((.exit 5), [q61_378], h379))
def k_fresh_behind_L1 (t15 : AV) (t59 : AV) (t60 : AV) (q61_378 : AV) (h379 : Heap) : OutV := loopN (fun us g => k_fresh_behind_b1 t15 t59 t60 (us.getD 0 .bot) g) [q61_378] h379
def k_fresh_behind_j1 (t3 : AV) (t4 : AV) (t15 : AV) (h371 : Heap) : Option (AV × Heap) :=
  (ldA 5 h371 t4).bind fun t45 =>
  cl (k_live_Writes t45 h371) fun t46 h372 =>
  (lnL t46).bind fun t47 =>
  lp (k_fresh_behind_L0 t15 t46 t47 (AV.int .i64 0) h372) fun e vs h376 =>
  thenK (if e = .exit 3 then .normal else e) (
  (ldA 6 h376 t3).bind fun t57 =>
  (ldA 5 h376 t4).bind fun t58 =>
  cl (k_fresh_receives t57 t58 h376) fun t59 h377 =>
  (lnL t59).bind fun t60 =>
  lp (k_fresh_behind_L1 t15 t59 t60 (AV.int .i64 0) h377) fun e_381 vs_382 h383 =>
  thenK (if (if e_381 = .exit 5 then .normal else e_381) = .exit 2 then .normal else (if e_381 = .exit 5 then .normal else e_381)) (
  some (t15, h383)) (fun e_384 => endE e_384 (some ((AV.sl none 0 (.ex 0)), h383)))) (fun e_385 => thenK (if e_385 = .exit 2 then .normal else e_385) (
  some (t15, h376)) (fun e_386 => endE e_386 (some ((AV.sl none 0 (.ex 0)), h376))))
def k_fresh_behind_j2 (t3 : AV) (t4 : AV) (t15 : AV) (t30 : AV) (h365 : Heap) : Option (AV × Heap) :=
  (eqP (some (.int .i64)) none false .eql t30 (AV.int .i64 38)).bind fun t39 =>
  condE t39 (
  (faP 2 t4).bind fun t41 =>
  (ldS h365 t41).bind fun t42 =>
  mk (bsP 1 [(AV.int .i64 0)] 1 [(0, t42)]) h365 fun t43 h387 =>
  cl (k_fresh_states_lend t15 t43 h387) fun t44 h388 =>
  k_fresh_behind_j1 t3 t4 t15 h388) (
  k_fresh_behind_j1 t3 t4 t15 h365)
def k_fresh_behind_j3 (t3 : AV) (t4 : AV) (t15 : AV) (h4 : Heap) : Option (AV × Heap) :=
  (faP 0 t4).bind fun t29 =>
  (ldS h4 t29).bind fun t30 =>
  cl (k_code_Maker t30 h4) fun t72 h6 =>
  condE t72 (
  (eqP (some (.int .i64)) none false .eql t30 (AV.int .i64 36)).bind fun t74 =>
  condE t74 (
  (ldA 6 h6 t3).bind fun t76 =>
  (ldA 5 h6 t4).bind fun t77 =>
  cl (k_live_Reads t76 t77 h6) fun t78 h125 =>
  cl (k_fresh_states_lend t15 t78 h125) fun t79 h126 =>
  k_fresh_behind_j0 t4 t15 t30 h126) (
  k_fresh_behind_j0 t4 t15 t30 h6)) (
  (eqP (some (.int .i64)) none false .eql t30 (AV.int .i64 1)).bind fun t89 =>
  condE t89 (
  (faP 2 t4).bind fun t91 =>
  (ldS h6 t91).bind fun t92 =>
  cl (k_fresh_states_get t15 t92 h6) fun t93 h221 =>
  (fvS 0 t93).bind fun t94 =>
  (faP 2 t4).bind fun t96 =>
  (ldS h221 t96).bind fun t97 =>
  mk (bsP 1 [(AV.int .i64 0)] 1 [(0, t97)]) h221 fun t98 h222 =>
  cl (k_fresh_states_lend t15 t98 h222) fun t99 h223 =>
  (faP 1 t4).bind fun t101 =>
  (ldS h223 t101).bind fun t102 =>
  (bldS [(0, 1), (1, 1), (2, 1)] [(AV.bool false), (AV.bool false), (AV.int .u64 0)] [(0, t94)]).bind fun t104 =>
  cl (k_fresh_states_put t15 t102 t104 h223) fun t105 h224 =>
  some (t15, h224)) (
  (eqP (some (.int .i64)) none false .eql t30 (AV.int .i64 28)).bind fun t108 =>
  gQ (gdW t108 false) h6 (some (t30, h6)) fun t110 h225 =>
  gQ (gdW t108 false) h225 ((eqP (some (.int .i64)) none false .eql t110 (AV.int .i64 29)).bind fun t111 =>
  some (t111, h225)) fun t111_226 h227 =>
  (pickP t108 (AV.bool true) t111_226).bind fun t112 =>
  condE t112 (
  (faP 1 t4).bind fun t114 =>
  clC (rdC (fun g => ldS g t114) h227 0 1 []) fun t115 cs =>
  (faP 2 t4).bind fun t116 =>
  (ldS h227 t116).bind fun t117 =>
  cl (k_fresh_bit t117 h227) fun t118 h298 =>
  cl (k_fresh_states_written t15 t115 t118 h298) fun t119 h299 =>
  chk [h227, h298, h299] cs (
  (faP 3 t4).bind fun t121 =>
  (ldS h299 t121).bind fun t122 =>
  mk (bsP 1 [(AV.int .i64 0)] 1 [(0, t122)]) h299 fun t123 h300 =>
  cl (k_fresh_states_lend t15 t123 h300) fun t124 h301 =>
  some (t15, h301))) (
  (eqP (some (.int .i64)) none false .eql t30 (AV.int .i64 31)).bind fun t127 =>
  gQ (gdW t127 false) h227 (some (t30, h227)) fun t129 h302 =>
  gQ (gdW t127 false) h302 ((eqP (some (.int .i64)) none false .eql t129 (AV.int .i64 32)).bind fun t130 =>
  some (t130, h302)) fun t130_303 h304 =>
  (pickP t127 (AV.bool true) t130_303).bind fun t131 =>
  condE t131 (
  (faP 1 t4).bind fun t133 =>
  (ldS h304 t133).bind fun t134 =>
  cl (k_fresh_states_written t15 t134 (AV.int .u64 18446744073709551615) h304) fun t135 h356 =>
  (faP 3 t4).bind fun t137 =>
  (ldS h356 t137).bind fun t138 =>
  mk (bsP 1 [(AV.int .i64 0)] 1 [(0, t138)]) h356 fun t139 h357 =>
  cl (k_fresh_states_lend t15 t139 h357) fun t140 h358 =>
  some (t15, h358)) (
  cl (k_fresh_lends t30 h304) fun t32 h359 =>
  condE t32 (
  (ldA 6 h359 t3).bind fun t34 =>
  (ldA 5 h359 t4).bind fun t35 =>
  cl (k_live_Reads t34 t35 h359) fun t36 h389 =>
  cl (k_fresh_states_lend t15 t36 h389) fun t37 h390 =>
  k_fresh_behind_j2 t3 t4 t15 t30 h390) (
  k_fresh_behind_j2 t3 t4 t15 t30 h359)))))
def k_fresh_behind_b2 (t15 : AV) (t20 : AV) (q21_391 : AV) (h392 : Heap) : OutV :=
  (binP .lss q21_391 t20).bind fun t22 =>
  condE t22 (
  (iaS 3 t15 q21_391).bind fun t26 =>
  (faP 0 t26).bind fun t27 =>
  cl (stP 1 h392 t27 (AV.bool false)) fun u h393 =>
  (binP .add q21_391 (AV.int .i64 1)).bind fun t28 =>
  some (.normal, [t28], h393)) (
  some ((.exit 0), [q21_391], h392))
def k_fresh_behind_L2 (t15 : AV) (t20 : AV) (q21_391 : AV) (h392 : Heap) : OutV := loopN (fun us g => k_fresh_behind_b2 t15 t20 (us.getD 0 .bot) g) [q21_391] h392
def k_fresh_behind_j4 (t4 : AV) (t15 : AV) (t30_398 : AV) (h632 : Heap) : Option (AV × Heap) :=
  (faP 1 t4).bind fun t81_633 =>
  (ldS h632 t81_633).bind fun t82_634 =>
  (eqP (some (.int .i64)) none false .neq t30_398 (AV.int .i64 36)).bind fun t84_635 =>
  (bldS [(0, 1), (1, 1), (2, 1)] [(AV.bool false), (AV.bool false), (AV.int .u64 0)] [(0, (AV.bool true)), (1, t84_635)]).bind fun t85_636 =>
  cl (k_fresh_states_put t15 t82_634 t85_636 h632) fun t86_637 h638 =>
  some (t15, h638)
def k_fresh_behind_b3 (t15 : AV) (t46_932 : AV) (t47_934 : AV) (q48_935 : AV) (h936 : Heap) : OutV :=
  (binP .lss q48_935 t47_934).bind fun t49_937 =>
  condE t49_937 (
  (iaS 1 t46_932 q48_935).bind fun t50_938 =>
  (ldS h936 t50_938).bind fun t51_939 =>
  (bldS [(0, 1), (1, 1), (2, 1)] [(AV.bool false), (AV.bool false), (AV.int .u64 0)] []).bind fun t54_940 =>
  cl (k_fresh_states_put t15 t51_939 t54_940 h936) fun t55_941 h942 =>
  (binP .add q48_935 (AV.int .i64 1)).bind fun t56_943 =>
  some (.normal, [t56_943], h942)) (
  some ((.exit 3), [q48_935], h936))
def k_fresh_behind_L3 (t15 : AV) (t46_932 : AV) (t47_934 : AV) (q48_935 : AV) (h936 : Heap) : OutV := loopN (fun us g => k_fresh_behind_b3 t15 t46_932 t47_934 (us.getD 0 .bot) g) [q48_935] h936
def k_fresh_behind_b4 (t15 : AV) (t59_949 : AV) (t60_951 : AV) (q61_952 : AV) (h953 : Heap) : OutV :=
  (binP .lss q61_952 t60_951).bind fun t62_954 =>
  condE t62_954 (
  (iaS 1 t59_949 q61_952).bind fun t63_955 =>
  (ldS h953 t63_955).bind fun t64_956 =>
  (bldS [(0, 1), (1, 1), (2, 1)] [(AV.bool false), (AV.bool false), (AV.int .u64 0)] []).bind fun t67_957 =>
  cl (k_fresh_states_put t15 t64_956 t67_957 h953) fun t68_958 h959 =>
  (binP .add q61_952 (AV.int .i64 1)).bind fun t69_960 =>
  some (.normal, [t69_960], h959)) (
  some ((.exit 5), [q61_952], h953))
def k_fresh_behind_L4 (t15 : AV) (t59_949 : AV) (t60_951 : AV) (q61_952 : AV) (h953 : Heap) : OutV := loopN (fun us g => k_fresh_behind_b4 t15 t59_949 t60_951 (us.getD 0 .bot) g) [q61_952] h953
def k_fresh_behind_j5 (t3 : AV) (t4 : AV) (t15 : AV) (h930 : Heap) : Option (AV × Heap) :=
  (ldA 5 h930 t4).bind fun t45_931 =>
  cl (k_live_Writes t45_931 h930) fun t46_932 h933 =>
  (lnL t46_932).bind fun t47_934 =>
  lp (k_fresh_behind_L3 t15 t46_932 t47_934 (AV.int .i64 0) h933) fun e_944 vs_945 h946 =>
  thenK (if e_944 = .exit 3 then .normal else e_944) (
  (ldA 6 h946 t3).bind fun t57_947 =>
  (ldA 5 h946 t4).bind fun t58_948 =>
  cl (k_fresh_receives t57_947 t58_948 h946) fun t59_949 h950 =>
  (lnL t59_949).bind fun t60_951 =>
  lp (k_fresh_behind_L4 t15 t59_949 t60_951 (AV.int .i64 0) h950) fun e_961 vs_962 h963 =>
  thenK (if (if e_961 = .exit 5 then .normal else e_961) = .exit 2 then .normal else (if e_961 = .exit 5 then .normal else e_961)) (
  some (t15, h963)) (fun e_964 => endE e_964 (some ((AV.sl none 0 (.ex 0)), h963)))) (fun e_965 => thenK (if e_965 = .exit 2 then .normal else e_965) (
  some (t15, h946)) (fun e_966 => endE e_966 (some ((AV.sl none 0 (.ex 0)), h946))))
def k_fresh_behind_j6 (t3 : AV) (t4 : AV) (t15 : AV) (t30_398 : AV) (h923 : Heap) : Option (AV × Heap) :=
  (eqP (some (.int .i64)) none false .eql t30_398 (AV.int .i64 38)).bind fun t39_924 =>
  condE t39_924 (
  (faP 2 t4).bind fun t41_967 =>
  (ldS h923 t41_967).bind fun t42_968 =>
  mk (bsP 1 [(AV.int .i64 0)] 1 [(0, t42_968)]) h923 fun t43_969 h970 =>
  cl (k_fresh_states_lend t15 t43_969 h970) fun t44_971 h972 =>
  k_fresh_behind_j5 t3 t4 t15 h972) (
  k_fresh_behind_j5 t3 t4 t15 h923)
def k_fresh_behind (x0 : AV) (x1 : AV) (x2 : AV) (h : Heap) : Option (AV × Heap) :=
  mk (bxP x0) h fun t3 h0 =>
  mk (bxP x1) h0 fun t4 h1 =>
  cl (k_slices_Clone_fresh_states_fresh_State x2 h1) fun t15 h2 =>
  (faP 0 t4).bind fun t16 =>
  (ldS h2 t16).bind fun t17 =>
  cl (k_code_Point t17 h2) fun t18 h3 =>
  condE t18 (
  (lnL t15).bind fun t20 =>
  lp (k_fresh_behind_L2 t15 t20 (AV.int .i64 0) h3) fun e_394 vs_395 h396 =>
  thenK (if e_394 = .exit 0 then .normal else e_394) (
  (faP 0 t4).bind fun t29_397 =>
  (ldS h396 t29_397).bind fun t30_398 =>
  cl (k_code_Maker t30_398 h396) fun t72_513 h514 =>
  condE t72_513 (
  (eqP (some (.int .i64)) none false .eql t30_398 (AV.int .i64 36)).bind fun t74_626 =>
  condE t74_626 (
  (ldA 6 h514 t3).bind fun t76_639 =>
  (ldA 5 h514 t4).bind fun t77_640 =>
  cl (k_live_Reads t76_639 t77_640 h514) fun t78_641 h642 =>
  cl (k_fresh_states_lend t15 t78_641 h642) fun t79_643 h644 =>
  k_fresh_behind_j4 t4 t15 t30_398 h644) (
  k_fresh_behind_j4 t4 t15 t30_398 h514)) (
  (eqP (some (.int .i64)) none false .eql t30_398 (AV.int .i64 1)).bind fun t89_645 =>
  condE t89_645 (
  (faP 2 t4).bind fun t91_740 =>
  (ldS h514 t91_740).bind fun t92_741 =>
  cl (k_fresh_states_get t15 t92_741 h514) fun t93_742 h743 =>
  (fvS 0 t93_742).bind fun t94_744 =>
  (faP 2 t4).bind fun t96_745 =>
  (ldS h743 t96_745).bind fun t97_746 =>
  mk (bsP 1 [(AV.int .i64 0)] 1 [(0, t97_746)]) h743 fun t98_747 h748 =>
  cl (k_fresh_states_lend t15 t98_747 h748) fun t99_749 h750 =>
  (faP 1 t4).bind fun t101_751 =>
  (ldS h750 t101_751).bind fun t102_752 =>
  (bldS [(0, 1), (1, 1), (2, 1)] [(AV.bool false), (AV.bool false), (AV.int .u64 0)] [(0, t94_744)]).bind fun t104_753 =>
  cl (k_fresh_states_put t15 t102_752 t104_753 h750) fun t105_754 h755 =>
  some (t15, h755)) (
  (eqP (some (.int .i64)) none false .eql t30_398 (AV.int .i64 28)).bind fun t108_756 =>
  gQ (gdW t108_756 false) h514 (some (t30_398, h514)) fun t110_757 h758 =>
  gQ (gdW t108_756 false) h758 ((eqP (some (.int .i64)) none false .eql t110_757 (AV.int .i64 29)).bind fun t111_759 =>
  some (t111_759, h758)) fun t111_760 h761 =>
  (pickP t108_756 (AV.bool true) t111_760).bind fun t112_762 =>
  condE t112_762 (
  (faP 1 t4).bind fun t114_833 =>
  clC (rdC (fun g => ldS g t114_833) h761 0 1 []) fun t115_834 cs_835 =>
  (faP 2 t4).bind fun t116_836 =>
  (ldS h761 t116_836).bind fun t117_837 =>
  cl (k_fresh_bit t117_837 h761) fun t118_838 h839 =>
  cl (k_fresh_states_written t15 t115_834 t118_838 h839) fun t119_840 h841 =>
  chk [h761, h839, h841] cs_835 (
  (faP 3 t4).bind fun t121_842 =>
  (ldS h841 t121_842).bind fun t122_843 =>
  mk (bsP 1 [(AV.int .i64 0)] 1 [(0, t122_843)]) h841 fun t123_844 h845 =>
  cl (k_fresh_states_lend t15 t123_844 h845) fun t124_846 h847 =>
  some (t15, h847))) (
  (eqP (some (.int .i64)) none false .eql t30_398 (AV.int .i64 31)).bind fun t127_848 =>
  gQ (gdW t127_848 false) h761 (some (t30_398, h761)) fun t129_849 h850 =>
  gQ (gdW t127_848 false) h850 ((eqP (some (.int .i64)) none false .eql t129_849 (AV.int .i64 32)).bind fun t130_851 =>
  some (t130_851, h850)) fun t130_852 h853 =>
  (pickP t127_848 (AV.bool true) t130_852).bind fun t131_854 =>
  condE t131_854 (
  (faP 1 t4).bind fun t133_906 =>
  (ldS h853 t133_906).bind fun t134_907 =>
  cl (k_fresh_states_written t15 t134_907 (AV.int .u64 18446744073709551615) h853) fun t135_908 h909 =>
  (faP 3 t4).bind fun t137_910 =>
  (ldS h909 t137_910).bind fun t138_911 =>
  mk (bsP 1 [(AV.int .i64 0)] 1 [(0, t138_911)]) h909 fun t139_912 h913 =>
  cl (k_fresh_states_lend t15 t139_912 h913) fun t140_914 h915 =>
  some (t15, h915)) (
  cl (k_fresh_lends t30_398 h853) fun t32_916 h917 =>
  condE t32_916 (
  (ldA 6 h917 t3).bind fun t34_973 =>
  (ldA 5 h917 t4).bind fun t35_974 =>
  cl (k_live_Reads t34_973 t35_974 h917) fun t36_975 h976 =>
  cl (k_fresh_states_lend t15 t36_975 h976) fun t37_977 h978 =>
  k_fresh_behind_j6 t3 t4 t15 t30_398 h978) (
  k_fresh_behind_j6 t3 t4 t15 t30_398 h917)))))) (fun e_979 => endE e_979 (some ((AV.sl none 0 (.ex 0)), h396)))) (
  k_fresh_behind_j3 t3 t4 t15 h3)
def T87 : Tab := (60, p3 k_fresh_behind) :: T86
/- 61: gantline/fresh.meet -/
def k_fresh_meet_b0 (x0 : AV) (x1 : AV) (t8 : AV) (t10 : AV) (q11 : AV) (h1 : Heap) : OutV :=
  (binP .lss q11 t10).bind fun t12 =>
  condE t12 (
  (iaS 3 x0 q11).bind fun t18 =>
  (faP 0 t18).bind fun t19 =>
  (ldS h1 t19).bind fun t20 =>
  (gV (gdW t20 true) (some x1) (.tup [])).bind fun t22 =>
  (gV (gdW t20 true) (some q11) (.tup [])).bind fun t23 =>
  (gV (gdW t20 true) (iaS 3 t22 t23) (.tup [])).bind fun t24 =>
  (gV (gdW t20 true) (faP 0 t24) (.tup [])).bind fun t25 =>
  (gV (gdW t20 true) (ldS h1 t25) (.tup [])).bind fun t26 =>
  (pickP t20 t26 (AV.bool false)).bind fun t27 =>
  (iaS 3 x0 q11).bind fun t30 =>
  (faP 1 t30).bind fun t31 =>
  (ldS h1 t31).bind fun t32 =>
  (gV (gdW t32 true) (some x1) (.tup [])).bind fun t34 =>
  (gV (gdW t32 true) (some q11) (.tup [])).bind fun t35 =>
  (gV (gdW t32 true) (iaS 3 t34 t35) (.tup [])).bind fun t36 =>
  (gV (gdW t32 true) (faP 1 t36) (.tup [])).bind fun t37 =>
  (gV (gdW t32 true) (ldS h1 t37) (.tup [])).bind fun t38 =>
  (pickP t32 t38 (AV.bool false)).bind fun t39 =>
  (iaS 3 x0 q11).bind fun t42 =>
  (faP 2 t42).bind fun t43 =>
  (ldS h1 t43).bind fun t44 =>
  (iaS 3 x1 q11).bind fun t47 =>
  (faP 2 t47).bind fun t48 =>
  (ldS h1 t48).bind fun t49 =>
  (binP .or t44 t49).bind fun t50 =>
  (bldS [(0, 1), (1, 1), (2, 1)] [(AV.bool false), (AV.bool false), (AV.int .u64 0)] [(0, t27), (1, t39), (2, t50)]).bind fun t51 =>
  (iaS 3 t8 q11).bind fun t52 =>
  cl (stP 3 h1 t52 t51) fun u h2 =>
  chk [h1, h2] [] (
  (binP .add q11 (AV.int .i64 1)).bind fun t53 =>
  some (.normal, [t53], h2))) (
  some ((.exit 0), [q11], h1))
def k_fresh_meet_L0 (x0 : AV) (x1 : AV) (t8 : AV) (t10 : AV) (q11 : AV) (h1 : Heap) : OutV := loopN (fun us g => k_fresh_meet_b0 x0 x1 t8 t10 (us.getD 0 .bot) g) [q11] h1
def k_fresh_meet (x0 : AV) (x1 : AV) (h : Heap) : Option (AV × Heap) :=
  cl (k_slices_Clone_fresh_states_fresh_State x0 h) fun t8 h0 =>
  (lnL t8).bind fun t10 =>
  lp (k_fresh_meet_L0 x0 x1 t8 t10 (AV.int .i64 0) h0) fun e vs h3 =>
  thenK (if e = .exit 0 then .normal else e) (
  some (t8, h3)) (fun e_4 => endE e_4 (some ((AV.sl none 0 (.ex 0)), h3)))
def T88 : Tab := (61, p2 k_fresh_meet) :: T87
/- 62: slices.Equal[gantline/fresh.states,gantline/fresh.State] -/
def k_slices_Equal_fresh_states_fresh_State_b0 (x0 : AV) (x1 : AV) (t12 : AV) (q4 : AV) (q13 : AV) (h0 : Heap) : OutV :=
  (binP .lss q13 t12).bind fun t14 =>
  condE t14 (
  (iaS 3 x0 q13).bind fun t18 =>
  (ldA 3 h0 t18).bind fun t19 =>
  (iaS 3 x1 q13).bind fun t22 =>
  (ldA 3 h0 t22).bind fun t23 =>
  (eqP (some (.struct #[])) (some [(0, .bool), (1, .bool), (2, (.int .u64))]) false .neq t19 t23).bind fun t24 =>
  chk [h0] [] (
  condE t24 (
  some (.ret, [(AV.bool false), q13], h0)) (
  (binP .add q13 (AV.int .i64 1)).bind fun t25 =>
  some (.normal, [q4, t25], h0)))) (
  some ((.exit 0), [q4, q13], h0))
def k_slices_Equal_fresh_states_fresh_State_L0 (x0 : AV) (x1 : AV) (t12 : AV) (q4 : AV) (q13 : AV) (h0 : Heap) : OutV := loopN (fun us g => k_slices_Equal_fresh_states_fresh_State_b0 x0 x1 t12 (us.getD 0 .bot) (us.getD 1 .bot) g) [q4, q13] h0
def k_slices_Equal_fresh_states_fresh_State (x0 : AV) (x1 : AV) (h : Heap) : Option (AV × Heap) :=
  (lnL x0).bind fun t7 =>
  (lnL x1).bind fun t9 =>
  (eqP (some (.int .i64)) none false .neq t7 t9).bind fun t10 =>
  condE t10 (
  some ((AV.bool false), h)) (
  (lnL x0).bind fun t12 =>
  lp (k_slices_Equal_fresh_states_fresh_State_L0 x0 x1 t12 (AV.bool false) (AV.int .i64 0) h) fun e vs h1 =>
  thenK (if e = .exit 0 then .normal else e) (
  some ((AV.bool true), h1)) (fun e_2 => endE e_2 (some ((vs.getD 0 .bot), h1))))
def T89 : Tab := (62, p2 k_slices_Equal_fresh_states_fresh_State) :: T88
/- 33: gantline/fresh.Sets -/
def k_fresh_Sets_j0 (q67_19 : AV) (q7_53 : AV) (h66 : Heap) : OutV :=
  (binP .add q67_19 (AV.int .i64 1)).bind fun t92_67 =>
  some (.normal, [q7_53, t92_67], h66)
def k_fresh_Sets_b0 (t27 : AV) (t61 : AV) (t65 : AV) (t66 : AV) (q7_18 : AV) (q67_19 : AV) (h20 : Heap) : OutV :=
  (binP .lss q67_19 t66).bind fun t68 =>
  condE t68 (
  (iaS 1 t65 q67_19).bind fun t69 =>
  (ldS h20 t69).bind fun t70 =>
  (iaS 1 t27 t70).bind fun t73 =>
  (ldS h20 t73).bind fun t74 =>
  (eqP (some (.slice 0)) none false .eql t74 (AV.sl none 0 (.ex 0))).bind fun t76 =>
  condE t76 (
  (iaS 1 t27 t70).bind fun t80 =>
  cl (stP 1 h20 t80 t61) fun u_68 h69 =>
  k_fresh_Sets_j0 q67_19 (AV.bool true) h69) (
  cl (k_fresh_meet t74 t61 h20) fun t83 h70 =>
  cl (k_slices_Equal_fresh_states_fresh_State t83 t74 h70) fun t86 h71 =>
  (unA .not t86).bind fun t87 =>
  condE t87 (
  (iaS 1 t27 t70).bind fun t91 =>
  cl (stP 1 h71 t91 t83) fun u_78 h79 =>
  k_fresh_Sets_j0 q67_19 (AV.bool true) h79) (
  k_fresh_Sets_j0 q67_19 q7_18 h71))) (
  some ((.exit 4), [q7_18, q67_19], h20))
def k_fresh_Sets_L0 (t27 : AV) (t61 : AV) (t65 : AV) (t66 : AV) (q7_18 : AV) (q67_19 : AV) (h20 : Heap) : OutV := loopN (fun us g => k_fresh_Sets_b0 t27 t61 t65 t66 (us.getD 0 .bot) (us.getD 1 .bot) g) [q7_18, q67_19] h20
def k_fresh_Sets_b1 (t2 : AV) (t3 : AV) (t27 : AV) (t36 : AV) (t37 : AV) (q7_6 : AV) (q38 : AV) (h7 : Heap) : OutV :=
  (binP .lss q38 t37).bind fun t39 =>
  condE t39 (
  (iaS 5 t36 q38).bind fun t41 =>
  (ldA 5 h7 t41).bind fun t42 =>
  mk (some (Blk.cells true [(AV.int .i64 0), (AV.int .i64 0), (AV.int .i64 0), (AV.int .i64 0), (AV.int .i64 0)], fun i => AV.ptr (some (i, 0)))) h7 fun t9 h10 =>
  cl (stP 5 h10 t9 t42) fun u h11 =>
  (iaS 1 t27 q38).bind fun t45 =>
  (ldS h11 t45).bind fun t46 =>
  (eqP (some (.slice 0)) none false .eql t46 (AV.sl none 0 (.ex 0))).bind fun t47 =>
  condE t47 (
  (binP .add q38 (AV.int .i64 1)).bind fun t93_12 =>
  some (.normal, [q7_6, t93_12], h11)) (
  (iaS 1 t27 q38).bind fun t50 =>
  (ldS h11 t50).bind fun t51 =>
  cl (k_slices_Clone_fresh_states_fresh_State t51 h11) fun t52 h13 =>
  (ldA 6 h13 t2).bind fun t54 =>
  (ldA 5 h13 t9).bind fun t55 =>
  cl (k_fresh_sent t54 t55 h13) fun t56 h14 =>
  cl (k_fresh_states_lend t52 t56 h14) fun t57 h15 =>
  (ldA 6 h15 t2).bind fun t58 =>
  (ldA 5 h15 t9).bind fun t59 =>
  cl (k_fresh_behind t58 t59 t52 h15) fun t61 h16 =>
  (ldA 6 h16 t2).bind fun t62 =>
  (ldA 7 h16 t3).bind fun t63 =>
  cl (k_live_Follows t62 t63 q38 h16) fun t65 h17 =>
  (lnL t65).bind fun t66 =>
  lp (k_fresh_Sets_L0 t27 t61 t65 t66 q7_6 (AV.int .i64 0) h17) fun e vs h80 =>
  thenK (if (if e = .exit 4 then .normal else e) = .exit 3 then .normal else (if e = .exit 4 then .normal else e)) (
  (binP .add q38 (AV.int .i64 1)).bind fun t93_81 =>
  some (.normal, [(vs.getD 0 .bot), t93_81], h80)) (fun e_82 => some (e_82, [(vs.getD 0 .bot), q38], h80)))) (
  some ((.exit 2), [q7_6, q38], h7))
def k_fresh_Sets_L1 (t2 : AV) (t3 : AV) (t27 : AV) (t36 : AV) (t37 : AV) (q7_6 : AV) (q38 : AV) (h7 : Heap) : OutV := loopN (fun us g => k_fresh_Sets_b1 t2 t3 t27 t36 t37 (us.getD 0 .bot) (us.getD 1 .bot) g) [q7_6, q38] h7
def k_fresh_Sets_b2 (t2 : AV) (t3 : AV) (t27 : AV) (q7 : AV) (h5 : Heap) : OutV :=
  condE q7 (
  (faP 5 t3).bind fun t35 =>
  (ldS h5 t35).bind fun t36 =>
  (lnL t36).bind fun t37 =>
  lp (k_fresh_Sets_L1 t2 t3 t27 t36 t37 (AV.bool false) (AV.int .i64 0) h5) fun e_83 vs_84 h85 =>
  some ((if (if e_83 = .exit 2 then .normal else e_83) = .exit 1 then .normal else (if e_83 = .exit 2 then .normal else e_83)), [(vs_84.getD 0 .bot)], h85)) (
  some ((.exit 0), [q7], h5))
def k_fresh_Sets_L2 (t2 : AV) (t3 : AV) (t27 : AV) (q7 : AV) (h5 : Heap) : OutV := loopN (fun us g => k_fresh_Sets_b2 t2 t3 t27 (us.getD 0 .bot) g) [q7] h5
def k_fresh_Sets_j1 (q16 : AV) (q96 : AV) (q18 : AV) (h90 : Heap) : OutV :=
  cl (k_slices_Clone_fresh_states_fresh_State q18 h90) fun t105 h91 =>
  mk (bsP 1 [(AV.sl none 0 (.ex 0))] 1 [(0, t105)]) h91 fun t106 h92 =>
  cl (appendA h92 1 24 q16 t106) fun t107 h93 =>
  (binP .add q96 (AV.int .i64 1)).bind fun t108 =>
  some (.normal, [t107, t108], h93)
def k_fresh_Sets_b3 (t23 : AV) (t27 : AV) (t95 : AV) (q16 : AV) (q96 : AV) (h89 : Heap) : OutV :=
  (binP .lss q96 t95).bind fun t97 =>
  condE t97 (
  (iaS 1 t27 q96).bind fun t98 =>
  (ldS h89 t98).bind fun t99 =>
  (eqP (some (.slice 0)) none false .eql t99 (AV.sl none 0 (.ex 0))).bind fun t101 =>
  condE t101 (
  k_fresh_Sets_j1 q16 q96 t23 h89) (
  k_fresh_Sets_j1 q16 q96 t99 h89)) (
  some ((.exit 6), [q16, q96], h89))
def k_fresh_Sets_L3 (t23 : AV) (t27 : AV) (t95 : AV) (q16 : AV) (q96 : AV) (h89 : Heap) : OutV := loopN (fun us g => k_fresh_Sets_b3 t23 t27 t95 (us.getD 0 .bot) (us.getD 1 .bot) g) [q16, q96] h89
def k_fresh_Sets_j2 (t2 : AV) (t3 : AV) (t23 : AV) (t27 : AV) (h4 : Heap) : Option (AV × Heap) :=
  lp (k_fresh_Sets_L2 t2 t3 t27 (AV.bool true) h4) fun e_86 vs_87 h88 =>
  thenK (if e_86 = .exit 0 then .normal else e_86) (
  (lnL t27).bind fun t95 =>
  lp (k_fresh_Sets_L3 t23 t27 t95 (AV.sl none 0 (.ex 0)) (AV.int .i64 0) h88) fun e_94 vs_95 h96 =>
  thenK (if e_94 = .exit 6 then .normal else e_94) (
  some ((vs_95.getD 0 .bot), h96)) (fun e_97 => endE e_97 (some ((AV.sl none 0 (.ex 0)), h96)))) (fun e_98 => endE e_98 (some ((AV.sl none 0 (.ex 0)), h88)))
def k_fresh_Sets (x0 : AV) (x1 : AV) (h : Heap) : Option (AV × Heap) :=
  mk (bxP x0) h fun t2 h0 =>
  mk (bxP x1) h0 fun t3 h1 =>
  (faP 2 t3).bind fun t19 =>
  (ldS h1 t19).bind fun t20 =>
  (maxP t20 (AV.int .i64 0)).bind fun t21 =>
  (minP t21 (AV.int .i64 64)).bind fun t22 =>
  mk (msP 3 16 [(AV.bool false), (AV.bool false), (AV.int .u64 0)] t22 t22) h1 fun t23 h2 =>
  (faP 5 t3).bind fun t24 =>
  (ldS h2 t24).bind fun t25 =>
  (lnL t25).bind fun t26 =>
  mk (msP 1 24 [(AV.sl none 0 (.ex 0))] t26 t26) h2 fun t27 h3 =>
  (lnL t27).bind fun t29 =>
  (binP .gtr t29 (AV.int .i64 0)).bind fun t30 =>
  condE t30 (
  (iaS 1 t27 (AV.int .i64 0)).bind fun t33 =>
  cl (stP 1 h3 t33 t23) fun u_99 h100 =>
  k_fresh_Sets_j2 t2 t3 t23 t27 h100) (
  k_fresh_Sets_j2 t2 t3 t23 t27 h3)
def T90 : Tab := (33, p2 k_fresh_Sets) :: T89
/- 56: gantline/fresh.SpareIn -/
def k_fresh_SpareIn (x0 : AV) (x1 : AV) (x2 : AV) (h : Heap) : Option (AV × Heap) :=
  mk (bxP x0) h fun t3 h0 =>
  (faP 5 t3).bind fun t12 =>
  (ldS h0 t12).bind fun t13 =>
  (iaS 5 t13 x2).bind fun t15 =>
  (ldA 5 h0 t15).bind fun t16 =>
  mk (some (Blk.cells true [(AV.int .i64 0), (AV.int .i64 0), (AV.int .i64 0), (AV.int .i64 0), (AV.int .i64 0)], fun i => AV.ptr (some (i, 0)))) h0 fun t7 h1 =>
  cl (stP 5 h1 t7 t16) fun u h2 =>
  (faP 0 t7).bind fun t17 =>
  (ldS h2 t17).bind fun t18 =>
  (eqP (some (.int .i64)) none false .eql t18 (AV.int .i64 28)).bind fun t19 =>
  gQ (gdW t19 false) h2 ((faP 0 t7).bind fun t21 =>
  some (t21, h2)) fun t21_3 h4 =>
  gQ (gdW t19 false) h4 ((ldS h4 t21_3).bind fun t22 =>
  some (t22, h4)) fun t22_5 h6 =>
  gQ (gdW t19 false) h6 ((eqP (some (.int .i64)) none false .eql t22_5 (AV.int .i64 29)).bind fun t23 =>
  some (t23, h6)) fun t23_7 h8 =>
  (pickP t19 (AV.bool true) t23_7).bind fun t24 =>
  (unA .not t24).bind fun t26 =>
  gQ (gdW t26 true) h8 ((faP 0 t7).bind fun t28 =>
  some (t28, h8)) fun t28_9 h10 =>
  gQ (gdW t26 true) h10 ((ldS h10 t28_9).bind fun t29 =>
  some (t29, h10)) fun t29_11 h12 =>
  gQ (gdW t26 true) h12 ((eqP (some (.int .i64)) none false .neq t29_11 (AV.int .i64 31)).bind fun t30 =>
  some (t30, h12)) fun t30_13 h14 =>
  (pickP t26 t30_13 (AV.bool false)).bind fun t31 =>
  gQ (gdW t31 true) h14 ((faP 0 t7).bind fun t33 =>
  some (t33, h14)) fun t33_15 h16 =>
  gQ (gdW t31 true) h16 ((ldS h16 t33_15).bind fun t34 =>
  some (t34, h16)) fun t34_17 h18 =>
  gQ (gdW t31 true) h18 ((eqP (some (.int .i64)) none false .neq t34_17 (AV.int .i64 32)).bind fun t35 =>
  some (t35, h18)) fun t35_19 h20 =>
  (pickP t31 t35_19 (AV.bool false)).bind fun t36 =>
  condE t36 (
  some ((AV.bool false), h20)) (
  (faP 1 t7).bind fun t37 =>
  (ldS h20 t37).bind fun t38 =>
  (binP .lss t38 (AV.int .i64 0)).bind fun t39 =>
  gQ (gdW t39 false) h20 ((faP 1 t7).bind fun t41 =>
  some (t41, h20)) fun t41_21 h22 =>
  gQ (gdW t39 false) h22 ((ldS h22 t41_21).bind fun t42 =>
  some (t42, h22)) fun t42_23 h24 =>
  gQ (gdW t39 false) h24 ((binP .geq t42_23 (AV.int .i64 64)).bind fun t43 =>
  some (t43, h24)) fun t43_25 h26 =>
  (pickP t39 (AV.bool true) t43_25).bind fun t44 =>
  gQ (gdW t44 false) h26 ((faP 3 t7).bind fun t46 =>
  some (t46, h26)) fun t46_27 h28 =>
  gQ (gdW t44 false) h28 ((ldS h28 t46_27).bind fun t47 =>
  some (t47, h28)) fun t47_29 h30 =>
  gQ (gdW t44 false) h30 ((binP .lss t47_29 (AV.int .i64 0)).bind fun t48 =>
  some (t48, h30)) fun t48_31 h32 =>
  (pickP t44 (AV.bool true) t48_31).bind fun t49 =>
  gQ (gdW t49 false) h32 ((faP 3 t7).bind fun t51 =>
  some (t51, h32)) fun t51_33 h34 =>
  gQ (gdW t49 false) h34 ((ldS h34 t51_33).bind fun t52 =>
  some (t52, h34)) fun t52_35 h36 =>
  gQ (gdW t49 false) h36 ((binP .geq t52_35 (AV.int .i64 64)).bind fun t53 =>
  some (t53, h36)) fun t53_37 h38 =>
  (pickP t49 (AV.bool true) t53_37).bind fun t54 =>
  condE t54 (
  some ((AV.bool false), h38)) (
  (faP 3 t7).bind fun t55 =>
  (ldS h38 t55).bind fun t56 =>
  (faP 4 t3).bind fun t57 =>
  (ldS h38 t57).bind fun t58 =>
  (lnL t58).bind fun t59 =>
  (binP .lss t56 t59).bind fun t60 =>
  gQ (gdW t60 true) h38 ((faP 4 t3).bind fun t62 =>
  some (t62, h38)) fun t62_39 h40 =>
  gQ (gdW t60 true) h40 ((ldS h40 t62_39).bind fun t63 =>
  some (t63, h40)) fun t63_41 h42 =>
  gQ (gdW t60 true) h42 ((faP 3 t7).bind fun t64 =>
  some (t64, h42)) fun t64_43 h44 =>
  gQ (gdW t60 true) h44 ((ldS h44 t64_43).bind fun t65 =>
  some (t65, h44)) fun t65_45 h46 =>
  gQ (gdW t60 true) h46 ((iaS 1 t63_41 t65_45).bind fun t66 =>
  some (t66, h46)) fun t66_47 h48 =>
  gQ (gdW t60 true) h48 ((ldS h48 t66_47).bind fun t67 =>
  some (t67, h48)) fun t67_49 h50 =>
  gQ (gdW t60 true) h50 ((unA .not t67_49).bind fun t68 =>
  some (t68, h50)) fun t68_51 h52 =>
  (pickP t60 t68_51 (AV.bool false)).bind fun t69 =>
  condE t69 (
  some ((AV.bool true), h52)) (
  (iaS 1 x1 x2).bind fun t72 =>
  (ldS h52 t72).bind fun t73 =>
  (faP 1 t7).bind fun t75 =>
  (ldS (hpN h52 2) t75).bind fun t76 =>
  cl (k_fresh_states_get t73 t76 (hpN h52 2)) fun t77 h53 =>
  (faP 3 t7).bind fun t79 =>
  clC (rdC (fun g => ldS g t79) h53 0 1 []) fun t80 cs =>
  cl (k_fresh_states_get t73 t80 h53) fun t81 h54 =>
  cl (mkAt (some (Blk.cells true [(AV.bool false), (AV.bool false), (AV.int .u64 0)], fun i => AV.ptr (some (i, 0)))) (h52.next + 0) h54) fun t10 h55 =>
  cl (mkAt (some (Blk.cells true [(AV.bool false), (AV.bool false), (AV.int .u64 0)], fun i => AV.ptr (some (i, 0)))) (h52.next + 1) h55) fun t11 h56 =>
  cl (stP 3 h56 t10 t77) fun u_57 h58 =>
  cl (stP 3 h58 t11 t81) fun u_59 h60 =>
  chk [(hpN h52 2), h53, h54, h58, h60] cs (
  condE t24 (
  (faP 1 t10).bind fun t83 =>
  (ldS h60 t83).bind fun t84 =>
  (gV (gdW t84 true) (faP 0 t11) (.tup [])).bind fun t86 =>
  (gV (gdW t84 true) (ldS h60 t86) (.tup [])).bind fun t87 =>
  (pickP t84 t87 (AV.bool false)).bind fun t88 =>
  (gV (gdW t88 true) (faP 2 t10) (.tup [])).bind fun t90 =>
  clC (gV (gdW t88 true) (rdC (fun g => ldS g t90) h60 0 1 []) (.tup [], [])) fun t91 cs_61 =>
  (gV (gdW t88 true) (faP 2 t7) (.tup [])).bind fun t92 =>
  (gV (gdW t88 true) (ldS h60 t92) (.tup [])).bind fun t93 =>
  gQ (gdW t88 true) h60 (cl (k_fresh_bit t93 h60) fun t94 h62 =>
  some (t94, h62)) fun t94_63 h64 =>
  (gV (gdW t88 true) (binP .and t91 t94_63) (.tup [])).bind fun t95 =>
  (gV (gdW t88 true) (eqP (some (.int .u64)) none false .eql t95 (AV.int .u64 0)) (.tup [])).bind fun t96 =>
  (pickP t88 t96 (AV.bool false)).bind fun t97 =>
  chk [h60, h64] cs_61 (
  some (t97, h64))) (
  (faP 1 t10).bind fun t98 =>
  (ldS h60 t98).bind fun t99 =>
  gQ (gdW t99 true) h60 ((faP 0 t11).bind fun t101 =>
  some (t101, h60)) fun t101_65 h66 =>
  gQ (gdW t99 true) h66 ((ldS h66 t101_65).bind fun t102 =>
  some (t102, h66)) fun t102_67 h68 =>
  (pickP t99 t102_67 (AV.bool false)).bind fun t103 =>
  gQ (gdW t103 true) h68 ((faP 2 t10).bind fun t105 =>
  some (t105, h68)) fun t105_69 h70 =>
  gQ (gdW t103 true) h70 ((ldS h70 t105_69).bind fun t106 =>
  some (t106, h70)) fun t106_71 h72 =>
  gQ (gdW t103 true) h72 ((eqP (some (.int .u64)) none false .eql t106_71 (AV.int .u64 0)).bind fun t107 =>
  some (t107, h72)) fun t107_73 h74 =>
  (pickP t103 t107_73 (AV.bool false)).bind fun t108 =>
  some (t108, h74))))))
def T91 : Tab := (56, p3 k_fresh_SpareIn) :: T90
/- 103: (*gantline/verify.checker).bare -/
def k_verify_checker_bare_j0 (x0 : AV) (h11 : Heap) : Option (AV × Heap) :=
  (nilV x0).bind fun t35 =>
  (faP 6 t35).bind fun t36 =>
  (ldA 7 h11 t36).bind fun t37 =>
  (nilV x0).bind fun t39 =>
  (faP 14 t39).bind fun t40 =>
  (ldS h11 t40).bind fun t41 =>
  (nilV x0).bind fun t43 =>
  (faP 16 t43).bind fun t44 =>
  (ldS h11 t44).bind fun t45 =>
  cl (k_fresh_SpareIn t37 t41 t45 h11) fun t46 h12 =>
  chk [h11, h12] [] (
  some (t46, h12))
def k_verify_checker_bare (x0 : AV) (h : Heap) : Option (AV × Heap) :=
  (nilV x0).bind fun t4 =>
  (faP 17 t4).bind fun t5 =>
  (faP 0 t5).bind fun t6 =>
  (ldS h t6).bind fun t7 =>
  (eqP (some (.int .i64)) none false .neq t7 (AV.int .i64 29)).bind fun t8 =>
  gQ (gdW t8 true) h (some (x0, h)) fun t10 h0 =>
  gQ (gdW t8 true) h0 ((nilV t10).bind fun t11 =>
  some (t11, h0)) fun t11_1 h2 =>
  gQ (gdW t8 true) h2 ((faP 17 t11_1).bind fun t12 =>
  some (t12, h2)) fun t12_3 h4 =>
  gQ (gdW t8 true) h4 ((faP 0 t12_3).bind fun t13 =>
  some (t13, h4)) fun t13_5 h6 =>
  gQ (gdW t8 true) h6 ((ldS h6 t13_5).bind fun t14 =>
  some (t14, h6)) fun t14_7 h8 =>
  gQ (gdW t8 true) h8 ((eqP (some (.int .i64)) none false .neq t14_7 (AV.int .i64 32)).bind fun t15 =>
  some (t15, h8)) fun t15_9 h10 =>
  (pickP t8 t15_9 (AV.bool false)).bind fun t16 =>
  condE t16 (
  some ((AV.bool true), h10)) (
  (nilV x0).bind fun t18 =>
  (faP 14 t18).bind fun t19 =>
  (ldS h10 t19).bind fun t20 =>
  (eqP (some (.slice 0)) none false .eql t20 (AV.sl none 0 (.ex 0))).bind fun t21 =>
  condE t21 (
  (nilV x0).bind fun t24 =>
  (faP 0 t24).bind fun t25 =>
  (ldA 6 h10 t25).bind fun t26 =>
  (nilV x0).bind fun t28 =>
  (faP 6 t28).bind fun t29 =>
  (ldA 7 h10 t29).bind fun t30 =>
  cl (k_fresh_Sets t26 t30 h10) fun t31 h13 =>
  (nilV x0).bind fun t32 =>
  (faP 14 t32).bind fun t33 =>
  cl (stP 1 h13 t33 t31) fun u h14 =>
  chk [h10, h13, h14] [] (
  k_verify_checker_bare_j0 x0 h14)) (
  k_verify_checker_bare_j0 x0 h10))
def T92 : Tab := (103, p1 k_verify_checker_bare) :: T91
/- 79: (*gantline/verify.checker).rule -/
def k_verify_checker_rule (x0 : AV) (x1 : AV) (h : Heap) : Option (AV × Heap) :=
  (eqP (some (.int .i64)) none false .eql x1 (AV.int .i64 4)).bind fun t7 =>
  condE t7 (
  cl (k_verify_checker_slots x0 h) fun t9 h0 =>
  some (t9, h0)) (
  (eqP (some (.int .i64)) none false .eql x1 (AV.int .i64 5)).bind fun t11 =>
  condE t11 (
  cl (k_verify_checker_there x0 h) fun t13 h1 =>
  some (t13, h1)) (
  (eqP (some (.int .i64)) none false .eql x1 (AV.int .i64 6)).bind fun t15 =>
  condE t15 (
  cl (k_verify_checker_kinds x0 h) fun t17 h2 =>
  some (t17, h2)) (
  (eqP (some (.int .i64)) none false .eql x1 (AV.int .i64 7)).bind fun t19 =>
  condE t19 (
  cl (k_verify_checker_on x0 h) fun t21 h3 =>
  some (t21, h3)) (
  (eqP (some (.int .i64)) none false .eql x1 (AV.int .i64 8)).bind fun t23 =>
  condE t23 (
  cl (k_verify_checker_back x0 h) fun t25 h4 =>
  some (t25, h4)) (
  (eqP (some (.int .i64)) none false .eql x1 (AV.int .i64 9)).bind fun t27 =>
  condE t27 (
  (nilV x0).bind fun t29 =>
  (faP 6 t29).bind fun t30 =>
  (faP 6 t30).bind fun t31 =>
  (ldS h t31).bind fun t32 =>
  (nilV x0).bind fun t34 =>
  (faP 16 t34).bind fun t35 =>
  (ldS h t35).bind fun t36 =>
  (iaS 1 t32 t36).bind fun t37 =>
  (ldS h t37).bind fun t38 =>
  (nilV x0).bind fun t40 =>
  (faP 13 t40).bind fun t41 =>
  (ldS h t41).bind fun t42 =>
  (nilV x0).bind fun t44 =>
  (faP 16 t44).bind fun t45 =>
  (ldS h t45).bind fun t46 =>
  (iaS 1 t42 t46).bind fun t47 =>
  (ldS h t47).bind fun t48 =>
  (eqP (some (.int .u64)) none false .eql t38 t48).bind fun t49 =>
  chk [h] [] (
  some (t49, h))) (
  cl (k_verify_checker_bare x0 h) fun t51 h5 =>
  some (t51, h5)))))))
def T93 : Tab := (79, p2 k_verify_checker_rule) :: T92
/- 64: gantline/verify.Without -/
def k_verify_Without_b0 (t4 : AV) (t23 : AV) (t24 : AV) (q5 : AV) (q25 : AV) (h4 : Heap) : OutV :=
  (binP .lss q25 t24).bind fun t26 =>
  condE t26 (
  (iaS 7 t23 q25).bind fun t28 =>
  (ldA 7 h4 t28).bind fun t29 =>
  mk (some (Blk.cells true [(AV.int .i64 0), (AV.int .i64 0), (AV.int .i64 0), (AV.int .i64 0), (AV.sl none 0 (.ex 0)), (AV.sl none 0 (.ex 0)), (AV.sl none 0 (.ex 0))], fun i => AV.ptr (some (i, 0)))) h4 fun t8 h5 =>
  cl (stP 7 h5 t8 t29) fun u_6 h7 =>
  (ldA 7 h7 t8).bind fun t30 =>
  cl (k_verify_whole t30 h7) fun t31 h8 =>
  (unA .not t31).bind fun t32 =>
  condE t32 (
  (bldS [(0, 1), (1, 1), (2, 1)] [(AV.int .i64 0), (AV.int .i64 0), (AV.int .i64 0)] [(0, q25), (1, (AV.int .i64 (-1))), (2, (AV.int .i64 3))]).bind fun t34 =>
  cl (stP 3 h8 t4 t34) fun u_9 h10 =>
  some (.ret, [(AV.bool false), q25], h10)) (
  (binP .add q25 (AV.int .i64 1)).bind fun t35 =>
  some (.normal, [q5, t35], h8))) (
  some ((.exit 0), [q5, q25], h4))
def k_verify_Without_L0 (t4 : AV) (t23 : AV) (t24 : AV) (q5 : AV) (q25 : AV) (h4 : Heap) : OutV := loopN (fun us g => k_verify_Without_b0 t4 t23 t24 (us.getD 0 .bot) (us.getD 1 .bot) g) [q5, q25] h4
def k_verify_Without_b1 (x1 : AV) (t4 : AV) (q43 : AV) (t55 : AV) (q59 : AV) (q5_31 : AV) (q15 : AV) (h32 : Heap) : OutV :=
  (binP .leq q15 (AV.int .i64 10)).bind fun t73 =>
  condE t73 (
  cl (k_slices_Contains_int_int x1 q15 h32) fun t78 h33 =>
  (unA .not t78).bind fun t79 =>
  gQ (gdW t79 true) h33 (some (t55, h33)) fun t81 h34 =>
  gQ (gdW t79 true) h34 (some (q15, h34)) fun t82 h35 =>
  gQ (gdW t79 true) h35 (cl (k_verify_checker_rule t81 t82 h35) fun t83 h36 =>
  some (t83, h36)) fun t83_37 h38 =>
  gQ (gdW t79 true) h38 ((unA .not t83_37).bind fun t84 =>
  some (t84, h38)) fun t84_39 h40 =>
  (pickP t79 t84_39 (AV.bool false)).bind fun t85 =>
  condE t85 (
  (bldS [(0, 1), (1, 1), (2, 1)] [(AV.int .i64 0), (AV.int .i64 0), (AV.int .i64 0)] [(0, q43), (1, q59), (2, q15)]).bind fun t89 =>
  cl (stP 3 h40 t4 t89) fun u_41 h42 =>
  some (.ret, [(AV.bool false), q15], h42)) (
  (binP .add q15 (AV.int .i64 1)).bind fun t75 =>
  some (.normal, [q5_31, t75], h40))) (
  some ((.exit 6), [q5_31, q15], h32))
def k_verify_Without_L1 (x1 : AV) (t4 : AV) (q43 : AV) (t55 : AV) (q59 : AV) (q5_31 : AV) (q15 : AV) (h32 : Heap) : OutV := loopN (fun us g => k_verify_Without_b1 x1 t4 q43 t55 q59 (us.getD 0 .bot) (us.getD 1 .bot) g) [q5_31, q15] h32
def k_verify_Without_b2 (x1 : AV) (t4 : AV) (q43 : AV) (t55 : AV) (t57 : AV) (t58 : AV) (q5_21 : AV) (q59 : AV) (h22 : Heap) : OutV :=
  (binP .lss q59 t58).bind fun t60 =>
  condE t60 (
  (iaS 5 t57 q59).bind fun t62 =>
  (ldA 5 h22 t62).bind fun t63 =>
  mk (some (Blk.cells true [(AV.int .i64 0), (AV.int .i64 0), (AV.int .i64 0), (AV.int .i64 0), (AV.int .i64 0)], fun i => AV.ptr (some (i, 0)))) h22 fun t14 h23 =>
  cl (stP 5 h23 t14 t63) fun u_24 h25 =>
  clC (rdC (fun g => ldA 5 g t14) h25 0 1 []) fun t67 cs_26 =>
  (nilV t55).bind fun t68 =>
  (faP 16 t68).bind fun t69 =>
  cl (stP 1 h25 t69 q59) fun u_27 h28 =>
  (nilV t55).bind fun t70 =>
  (faP 17 t70).bind fun t71 =>
  cl (stP 5 h28 t71 t67) fun u_29 h30 =>
  chk [h25, h28, h30] cs_26 (
  lp (k_verify_Without_L1 x1 t4 q43 t55 q59 q5_21 (AV.int .i64 4) h30) fun e_43 vs_44 h45 =>
  thenK (if (if e_43 = .exit 6 then .normal else e_43) = .exit 5 then .normal else (if e_43 = .exit 6 then .normal else e_43)) (
  (binP .add q59 (AV.int .i64 1)).bind fun t90 =>
  some (.normal, [(vs_44.getD 0 .bot), t90], h45)) (fun e_46 => some (e_46, [(vs_44.getD 0 .bot), q59], h45)))) (
  some ((.exit 4), [q5_21, q59], h22))
def k_verify_Without_L2 (x1 : AV) (t4 : AV) (q43 : AV) (t55 : AV) (t57 : AV) (t58 : AV) (q5_21 : AV) (q59 : AV) (h22 : Heap) : OutV := loopN (fun us g => k_verify_Without_b2 x1 t4 q43 t55 t57 t58 (us.getD 0 .bot) (us.getD 1 .bot) g) [q5_21, q59] h22
def k_verify_Without_b3 (x1 : AV) (t2 : AV) (t4 : AV) (t39 : AV) (t41 : AV) (t42 : AV) (q5_13 : AV) (q43 : AV) (h14 : Heap) : OutV :=
  (binP .lss q43 t42).bind fun t44 =>
  condE t44 (
  (iaS 7 t41 q43).bind fun t46 =>
  (ldA 7 h14 t46).bind fun t47 =>
  mk (some (Blk.cells true [(AV.int .i64 0), (AV.int .i64 0), (AV.int .i64 0), (AV.int .i64 0), (AV.sl none 0 (.ex 0)), (AV.sl none 0 (.ex 0)), (AV.sl none 0 (.ex 0))], fun i => AV.ptr (some (i, 0)))) h14 fun t11 h15 =>
  cl (stP 7 h15 t11 t47) fun u_16 h17 =>
  clC (rdC (fun g => ldA 6 g t2) (hpN h17 1) 0 1 []) fun t48 cs =>
  clC (rdC (fun g => ldA 7 g t11) (hpN h17 1) 0 1 cs) fun t49 cs_18 =>
  (ldA 6 (hpN h17 1) t2).bind fun t50 =>
  (ldA 7 (hpN h17 1) t11).bind fun t51 =>
  cl (k_live_Maps t50 t51 (hpN h17 1)) fun t52 h19 =>
  (bldS [(0, 6), (6, 7), (13, 1), (14, 1), (15, 1), (16, 1), (17, 5)] [(AV.sl none 0 (.ex 0)), (AV.sl none 0 (.ex 0)), (AV.sl none 0 (.ex 0)), (AV.sl none 0 (.ex 0)), (AV.sl none 0 (.ex 0)), (AV.int .i64 0), (AV.int .i64 0), (AV.int .i64 0), (AV.int .i64 0), (AV.int .i64 0), (AV.sl none 0 (.ex 0)), (AV.sl none 0 (.ex 0)), (AV.sl none 0 (.ex 0)), (AV.sl none 0 (.ex 0)), (AV.sl none 0 (.ex 0)), (AV.sl none 0 (.ex 0)), (AV.int .i64 0), (AV.int .i64 0), (AV.int .i64 0), (AV.int .i64 0), (AV.int .i64 0), (AV.int .i64 0)] [(0, t48), (1, t49), (2, t52), (4, t39)]).bind fun t54 =>
  cl (mkAt (bxP t54) (h17.next + 0) h19) fun t55 h20 =>
  chk [(hpN h17 1), h19] cs_18 (
  (faP 5 t11).bind fun t56 =>
  (ldS h20 t56).bind fun t57 =>
  (lnL t57).bind fun t58 =>
  lp (k_verify_Without_L2 x1 t4 q43 t55 t57 t58 q5_13 (AV.int .i64 0) h20) fun e_47 vs_48 h49 =>
  thenK (if (if e_47 = .exit 4 then .normal else e_47) = .exit 3 then .normal else (if e_47 = .exit 4 then .normal else e_47)) (
  (binP .add q43 (AV.int .i64 1)).bind fun t91 =>
  some (.normal, [(vs_48.getD 0 .bot), t91], h49)) (fun e_50 => some (e_50, [(vs_48.getD 0 .bot), q43], h49)))) (
  some ((.exit 2), [q5_13, q43], h14))
def k_verify_Without_L3 (x1 : AV) (t2 : AV) (t4 : AV) (t39 : AV) (t41 : AV) (t42 : AV) (q5_13 : AV) (q43 : AV) (h14 : Heap) : OutV := loopN (fun us g => k_verify_Without_b3 x1 t2 t4 t39 t41 t42 (us.getD 0 .bot) (us.getD 1 .bot) g) [q5_13, q43] h14
def k_verify_Without (x0 : AV) (x1 : AV) (h : Heap) : Option (AV × Heap) :=
  mk (bxP x0) h fun t2 h0 =>
  mk (some (Blk.cells true [(AV.int .i64 0), (AV.int .i64 0), (AV.int .i64 0)], fun i => AV.ptr (some (i, 0)))) h0 fun t4 h1 =>
  (ldA 6 h1 t2).bind fun t16 =>
  cl (k_verify_module t16 h1) fun t17 h2 =>
  (binP .gtr t17 (AV.int .i64 0)).bind fun t19 =>
  condE t19 (
  (bldS [(0, 1), (1, 1), (2, 1)] [(AV.int .i64 0), (AV.int .i64 0), (AV.int .i64 0)] [(0, (AV.int .i64 (-1))), (1, (AV.int .i64 (-1))), (2, t17)]).bind fun t21 =>
  cl (stP 3 h2 t4 t21) fun u h3 =>
  (ldA 3 h3 t4).bind fun t =>
  some (AV.tup [t, (AV.bool false)], h3)) (
  (faP 4 t2).bind fun t22 =>
  (ldS h2 t22).bind fun t23 =>
  (lnL t23).bind fun t24 =>
  lp (k_verify_Without_L0 t4 t23 t24 (AV.bool false) (AV.int .i64 0) h2) fun e vs h11 =>
  thenK (if e = .exit 0 then .normal else e) (
  (faP 3 t2).bind fun t36 =>
  (ldS h11 t36).bind fun t37 =>
  (lnL t37).bind fun t38 =>
  mk (msP 1 1 [(AV.bool false)] t38 t38) h11 fun t39 h12 =>
  (faP 4 t2).bind fun t40 =>
  (ldS h12 t40).bind fun t41 =>
  (lnL t41).bind fun t42 =>
  lp (k_verify_Without_L3 x1 t2 t4 t39 t41 t42 (vs.getD 0 .bot) (AV.int .i64 0) h12) fun e_51 vs_52 h53 =>
  thenK (if e_51 = .exit 2 then .normal else e_51) (
  (bldS [(0, 1), (1, 1), (2, 1)] [(AV.int .i64 0), (AV.int .i64 0), (AV.int .i64 0)] []).bind fun t92 =>
  cl (stP 3 h53 t4 t92) fun u_54 h55 =>
  (ldA 3 h55 t4).bind fun t_56 =>
  some (AV.tup [t_56, (AV.bool true)], h55)) (fun e_57 => endE e_57 ((ldA 3 h53 t4).bind fun t_58 =>
  some (AV.tup [t_58, (vs_52.getD 0 .bot)], h53)))) (fun e_59 => endE e_59 ((ldA 3 h11 t4).bind fun t_60 =>
  some (AV.tup [t_60, (vs.getD 0 .bot)], h11))))
def T94 : Tab := (64, p2 k_verify_Without) :: T93
/- 37: gantline/verify.Check -/
def k_verify_Check (x0 : AV) (h : Heap) : Option (AV × Heap) :=
  mk (bxP x0) h fun t1 h0 =>
  mk (some (Blk.cells true [(AV.int .i64 0), (AV.int .i64 0), (AV.int .i64 0)], fun i => AV.ptr (some (i, 0)))) h0 fun t2 h1 =>
  (ldA 6 h1 t1).bind fun t4 =>
  cl (k_verify_Without t4 (AV.sl none 0 (.ex 0)) h1) fun t5 h2 =>
  (extractV 0 t5).bind fun t6 =>
  (extractV 1 t5).bind fun t7 =>
  cl (stP 3 h2 t2 t6) fun u h3 =>
  (ldA 3 h3 t2).bind fun t =>
  some (AV.tup [t, t7], h3)
def T95 : Tab := (37, p1 k_verify_Check) :: T94
/- 63: gantline/verify.Module -/
def k_verify_Module (x0 : AV) (h : Heap) : Option (AV × Heap) :=
  mk (bxP x0) h fun t1 h0 =>
  (ldA 6 h0 t1).bind fun t6 =>
  cl (k_verify_Check t6 h0) fun t7 h1 =>
  (extractV 0 t7).bind fun t8 =>
  (extractV 1 t7).bind fun t9 =>
  mk (some (Blk.cells true [(AV.int .i64 0), (AV.int .i64 0), (AV.int .i64 0)], fun i => AV.ptr (some (i, 0)))) h1 fun t3 h2 =>
  cl (stP 3 h2 t3 t8) fun u h3 =>
  some (t9, h3)
def T96 : Tab := (63, p1 k_verify_Module) :: T95
/- 36: gantline/gantlinelaw12.awake -/
def k_law12_awake (h : Heap) : Option (AV × Heap) :=
  cl (k_law12_one (AV.int .u64 0) h) fun t6 h0 =>
  cl (k_verify_Check t6 h0) fun t7 h1 =>
  (extractV 0 t7).bind fun t8 =>
  (extractV 1 t7).bind fun t9 =>
  mk (some (Blk.cells true [(AV.int .i64 0), (AV.int .i64 0), (AV.int .i64 0)], fun i => AV.ptr (some (i, 0)))) h1 fun t1 h2 =>
  cl (stP 3 h2 t1 t8) fun u h3 =>
  cl (k_law12_one (AV.int .u64 1) h3) fun t11 h4 =>
  cl (k_verify_Check t11 h4) fun t12 h5 =>
  (extractV 0 t12).bind fun t13 =>
  (extractV 1 t12).bind fun t14 =>
  mk (some (Blk.cells true [(AV.int .i64 0), (AV.int .i64 0), (AV.int .i64 0)], fun i => AV.ptr (some (i, 0)))) h5 fun t3 h6 =>
  cl (stP 3 h6 t3 t13) fun u_7 h8 =>
  gQ (gdW t9 true) h8 ((ldA 3 h8 t1).bind fun t17 =>
  some (t17, h8)) fun t17_9 h10 =>
  gQ (gdW t9 true) h10 ((bldS [(0, 1), (1, 1), (2, 1)] [(AV.int .i64 0), (AV.int .i64 0), (AV.int .i64 0)] []).bind fun t18 =>
  some (t18, h10)) fun t18_11 h12 =>
  gQ (gdW t9 true) h12 ((eqP (some (.struct #[])) (some [(0, (.int .i64)), (1, (.int .i64)), (2, (.int .i64))]) false .eql t17_9 t18_11).bind fun t19 =>
  some (t19, h12)) fun t19_13 h14 =>
  (pickP t9 t19_13 (AV.bool false)).bind fun t20 =>
  gQ (gdW t20 true) h14 (some (t14, h14)) fun t22 h15 =>
  gQ (gdW t20 true) h15 ((unA .not t22).bind fun t23 =>
  some (t23, h15)) fun t23_16 h17 =>
  (pickP t20 t23_16 (AV.bool false)).bind fun t24 =>
  gQ (gdW t24 true) h17 ((ldA 3 h17 t3).bind fun t26 =>
  some (t26, h17)) fun t26_18 h19 =>
  gQ (gdW t24 true) h19 ((bldS [(0, 1), (1, 1), (2, 1)] [(AV.int .i64 0), (AV.int .i64 0), (AV.int .i64 0)] [(2, (AV.int .i64 9))]).bind fun t27 =>
  some (t27, h19)) fun t27_20 h21 =>
  gQ (gdW t24 true) h21 ((eqP (some (.struct #[])) (some [(0, (.int .i64)), (1, (.int .i64)), (2, (.int .i64))]) false .eql t26_18 t27_20).bind fun t28 =>
  some (t28, h21)) fun t28_22 h23 =>
  (pickP t24 t28_22 (AV.bool false)).bind fun t29 =>
  gQ (gdW t29 true) h23 (cl (k_law12_one (AV.int .u64 0) h23) fun t31 h24 =>
  some (t31, h24)) fun t31_25 h26 =>
  gQ (gdW t29 true) h26 (cl (k_verify_Module t31_25 h26) fun t32 h27 =>
  some (t32, h27)) fun t32_28 h29 =>
  (pickP t29 t32_28 (AV.bool false)).bind fun t33 =>
  gQ (gdW t33 true) h29 (cl (k_law12_one (AV.int .u64 1) h29) fun t35 h30 =>
  some (t35, h30)) fun t35_31 h32 =>
  gQ (gdW t33 true) h32 (cl (k_verify_Module t35_31 h32) fun t36 h33 =>
  some (t36, h33)) fun t36_34 h35 =>
  gQ (gdW t33 true) h35 ((unA .not t36_34).bind fun t37 =>
  some (t37, h35)) fun t37_36 h37 =>
  (pickP t33 t37_36 (AV.bool false)).bind fun t38 =>
  some (t38, h37)
def T97 : Tab := (36, p0 k_law12_awake) :: T96
/- 12: gantline/gantlinelaw12.VerifyShares -/
def k_law12_VerifyShares_b0 (t5 : AV) (q6 : AV) (h6 : Heap) : OutV :=
  (binP .lss q6 (AV.int .i64 4)).bind fun t21 =>
  condE t21 (
  (faP 3 t5).bind fun t24 =>
  (ldS h6 t24).bind fun t25 =>
  (bldS [(0, 1), (1, 1), (2, 1), (3, 1)] [(AV.int .i64 0), (AV.int .i64 0), (AV.int .i64 0), (AV.int .i64 0)] [(0, (AV.int .i64 0)), (1, (AV.int .i64 0)), (2, (AV.int .i64 (-1))), (3, (AV.int .i64 4))]).bind fun t26 =>
  mk (bsP 4 [(AV.int .i64 0), (AV.int .i64 0), (AV.int .i64 0), (AV.int .i64 0)] 1 [(0, t26)]) h6 fun t27 h7 =>
  cl (appendA h7 4 32 t25 t27) fun t28 h8 =>
  (faP 3 t5).bind fun t29 =>
  cl (stP 1 h8 t29 t28) fun u_9 h10 =>
  (binP .add q6 (AV.int .i64 1)).bind fun t23 =>
  some (.normal, [t23], h10)) (
  some ((.exit 0), [q6], h6))
def k_law12_VerifyShares_L0 (t5 : AV) (q6 : AV) (h6 : Heap) : OutV := loopN (fun us g => k_law12_VerifyShares_b0 t5 (us.getD 0 .bot) g) [q6] h6
def k_law12_VerifyShares_b1 (t5 : AV) (q7 : AV) (h20 : Heap) : OutV :=
  (binP .lss q7 (AV.int .i64 2)).bind fun t55 =>
  condE t55 (
  (faP 4 t5).bind fun t58 =>
  (ldS (hpN h20 1) t58).bind fun t59 =>
  (faP 4 t5).bind fun t61 =>
  (ldS (hpN h20 1) t61).bind fun t62 =>
  (iaS 7 t62 q7).bind fun t64 =>
  (faP 5 t64).bind fun t65 =>
  (ldS (hpN h20 1) t65).bind fun t66 =>
  (lnL t66).bind fun t67 =>
  cl (mkAt (msP 1 8 [(AV.int .u64 0)] t67 t67) (h20.next + 0) (hpN h20 1)) fun t68 h21 =>
  (iaS 7 t59 q7).bind fun t69 =>
  (faP 6 t69).bind fun t70 =>
  cl (stP 1 h21 t70 t68) fun u_22 h23 =>
  chk [(hpN h20 1), h23] [] (
  (binP .add q7 (AV.int .i64 1)).bind fun t57 =>
  some (.normal, [t57], h23))) (
  some ((.exit 2), [q7], h20))
def k_law12_VerifyShares_L1 (t5 : AV) (q7 : AV) (h20 : Heap) : OutV := loopN (fun us g => k_law12_VerifyShares_b1 t5 (us.getD 0 .bot) g) [q7] h20
def k_law12_VerifyShares_b2 (t5 : AV) (q8 : AV) (h27 : Heap) : OutV :=
  (binP .lss q8 (AV.int .i64 2)).bind fun t72 =>
  condE t72 (
  (faP 4 t5).bind fun t75 =>
  clC (rdC (fun g => ldS g t75) h27 0 1 []) fun t76 cs =>
  (ldA 6 h27 t5).bind fun t78 =>
  (faP 4 t5).bind fun t79 =>
  (ldS h27 t79).bind fun t80 =>
  (iaS 7 t80 q8).bind fun t82 =>
  (ldA 7 h27 t82).bind fun t83 =>
  cl (k_live_Maps t78 t83 h27) fun t84 h28 =>
  (iaS 7 t76 q8).bind fun t85 =>
  (faP 6 t85).bind fun t86 =>
  cl (stP 1 h28 t86 t84) fun u_29 h30 =>
  chk [h27, h28, h30] cs (
  (binP .add q8 (AV.int .i64 1)).bind fun t74 =>
  some (.normal, [t74], h30))) (
  some ((.exit 4), [q8], h27))
def k_law12_VerifyShares_L2 (t5 : AV) (q8 : AV) (h27 : Heap) : OutV := loopN (fun us g => k_law12_VerifyShares_b2 t5 (us.getD 0 .bot) g) [q8] h27
def k_law12_VerifyShares_j0 (x0 : AV) (x1 : AV) (t5 : AV) (h19 : Heap) : Option (AV × Heap) :=
  lp (k_law12_VerifyShares_L1 t5 (AV.int .i64 0) h19) fun e_24 vs_25 h26 =>
  thenK (if e_24 = .exit 2 then .normal else e_24) (
  lp (k_law12_VerifyShares_L2 t5 (AV.int .i64 0) h26) fun e_31 vs_32 h33 =>
  thenK (if e_31 = .exit 4 then .normal else e_31) (
  (ldA 6 h33 t5).bind fun t88 =>
  cl (k_verify_Check t88 h33) fun t89 h34 =>
  (extractV 0 t89).bind fun t90 =>
  (extractV 1 t89).bind fun t91 =>
  mk (some (Blk.cells true [(AV.int .i64 0), (AV.int .i64 0), (AV.int .i64 0)], fun i => AV.ptr (some (i, 0)))) h34 fun t9 h35 =>
  cl (stP 3 h35 t9 t90) fun u_36 h37 =>
  (binP .lss x0 (AV.int .i64 2)).bind fun t94 =>
  condE t94 (
  (unA .not t91).bind fun t96 =>
  gQ (gdW t96 true) h37 ((ldA 3 h37 t9).bind fun t98 =>
  some (t98, h37)) fun t98_38 h39 =>
  gQ (gdW t96 true) h39 ((bldS [(0, 1), (1, 1), (2, 1)] [(AV.int .i64 0), (AV.int .i64 0), (AV.int .i64 0)] [(1, (AV.int .i64 2)), (2, (AV.int .i64 5))]).bind fun t99 =>
  some (t99, h39)) fun t99_40 h41 =>
  gQ (gdW t96 true) h41 ((eqP (some (.struct #[])) (some [(0, (.int .i64)), (1, (.int .i64)), (2, (.int .i64))]) false .eql t98_38 t99_40).bind fun t100 =>
  some (t100, h41)) fun t100_42 h43 =>
  (pickP t96 t100_42 (AV.bool false)).bind fun t101 =>
  some (t101, h43)) (
  condE x1 (
  (unA .not t91).bind fun t105 =>
  gQ (gdW t105 true) h37 ((ldA 3 h37 t9).bind fun t107 =>
  some (t107, h37)) fun t107_44 h45 =>
  gQ (gdW t105 true) h45 ((bldS [(0, 1), (1, 1), (2, 1)] [(AV.int .i64 0), (AV.int .i64 0), (AV.int .i64 0)] [(1, (AV.int .i64 3)), (2, (AV.int .i64 5))]).bind fun t108 =>
  some (t108, h45)) fun t108_46 h47 =>
  gQ (gdW t105 true) h47 ((eqP (some (.struct #[])) (some [(0, (.int .i64)), (1, (.int .i64)), (2, (.int .i64))]) false .eql t107_44 t108_46).bind fun t109 =>
  some (t109, h47)) fun t109_48 h49 =>
  (pickP t105 t109_48 (AV.bool false)).bind fun t110 =>
  some (t110, h49)) (
  some (t91, h37)))) (fun e_50 => endE e_50 (some ((AV.bool false), h33)))) (fun e_51 => endE e_51 (some ((AV.bool false), h26)))
def k_law12_VerifyShares (x0 : AV) (x1 : AV) (h : Heap) : Option (AV × Heap) :=
  cl (k_law12_awake h) fun t11 h0 =>
  (unA .not t11).bind fun t12 =>
  condE t12 (
  some ((AV.bool false), h0)) (
  (binP .lss x0 (AV.int .i64 0)).bind fun t14 =>
  gQ (gdW t14 false) h0 (some (x0, h0)) fun t16 h1 =>
  gQ (gdW t14 false) h1 ((binP .gtr t16 (AV.int .i64 2)).bind fun t17 =>
  some (t17, h1)) fun t17_2 h3 =>
  (pickP t14 (AV.bool true) t17_2).bind fun t18 =>
  condE t18 (
  some ((AV.bool true), h3)) (
  (bldS [(0, 1), (1, 1), (2, 1), (3, 1), (4, 1), (5, 1)] [(AV.sl none 0 (.ex 0)), (AV.sl none 0 (.ex 0)), (AV.sl none 0 (.ex 0)), (AV.sl none 0 (.ex 0)), (AV.sl none 0 (.ex 0)), (AV.int .i64 0)] [(0, (AV.sl none 0 (.ex 0)))]).bind fun t19 =>
  mk (some (Blk.cells true [(AV.sl none 0 (.ex 0)), (AV.sl none 0 (.ex 0)), (AV.sl none 0 (.ex 0)), (AV.sl none 0 (.ex 0)), (AV.sl none 0 (.ex 0)), (AV.int .i64 0)], fun i => AV.ptr (some (i, 0)))) h3 fun t5 h4 =>
  cl (stP 6 h4 t5 t19) fun u h5 =>
  lp (k_law12_VerifyShares_L0 t5 (AV.int .i64 0) h5) fun e vs h11 =>
  thenK (if e = .exit 0 then .normal else e) (
  mk (bsP 1 [(AV.bool false)] 1 [(0, (AV.bool true))]) h11 fun t30 h12 =>
  (bldS [(0, 1), (1, 1), (2, 1), (3, 1), (4, 1)] [(AV.int .i64 0), (AV.int .i64 0), (AV.int .i64 0), (AV.int .i64 0), (AV.int .i64 0)] [(0, (AV.int .i64 43))]).bind fun t31 =>
  (bldS [(0, 1), (1, 1), (2, 1), (3, 1), (4, 1)] [(AV.int .i64 0), (AV.int .i64 0), (AV.int .i64 0), (AV.int .i64 0), (AV.int .i64 0)] [(0, (AV.int .i64 41)), (1, (AV.int .i64 0)), (2, (AV.int .i64 2))]).bind fun t32 =>
  (bldS [(0, 1), (1, 1), (2, 1), (3, 1), (4, 1)] [(AV.int .i64 0), (AV.int .i64 0), (AV.int .i64 0), (AV.int .i64 0), (AV.int .i64 0)] [(0, (AV.int .i64 41)), (1, x0), (2, (AV.int .i64 2))]).bind fun t34 =>
  (bldS [(0, 1), (1, 1), (2, 1), (3, 1), (4, 1)] [(AV.int .i64 0), (AV.int .i64 0), (AV.int .i64 0), (AV.int .i64 0), (AV.int .i64 0)] [(0, (AV.int .i64 20)), (1, (AV.int .i64 (-1))), (2, (AV.int .i64 1)), (3, (AV.int .i64 0))]).bind fun t35 =>
  (bldS [(0, 1), (1, 1), (2, 1), (3, 1), (4, 1)] [(AV.int .i64 0), (AV.int .i64 0), (AV.int .i64 0), (AV.int .i64 0), (AV.int .i64 0)] [(0, (AV.int .i64 22)), (1, (AV.int .i64 (-1)))]).bind fun t36 =>
  mk (bsP 5 [(AV.int .i64 0), (AV.int .i64 0), (AV.int .i64 0), (AV.int .i64 0), (AV.int .i64 0)] 5 [(0, t31), (1, t32), (2, t34), (3, t35), (4, t36)]) h12 fun t37 h13 =>
  (bldS [(0, 1), (1, 1), (2, 1), (3, 1), (4, 1), (5, 1), (6, 1)] [(AV.int .i64 0), (AV.int .i64 0), (AV.int .i64 0), (AV.int .i64 0), (AV.sl none 0 (.ex 0)), (AV.sl none 0 (.ex 0)), (AV.sl none 0 (.ex 0))] [(2, (AV.int .i64 1)), (4, t30), (5, t37)]).bind fun t38 =>
  mk (bsP 1 [(AV.bool false)] 1 [(0, (AV.bool true))]) h13 fun t39 h14 =>
  (bldS [(0, 1), (1, 1), (2, 1), (3, 1), (4, 1)] [(AV.int .i64 0), (AV.int .i64 0), (AV.int .i64 0), (AV.int .i64 0), (AV.int .i64 0)] [(0, (AV.int .i64 22)), (1, (AV.int .i64 (-1)))]).bind fun t40 =>
  mk (bsP 5 [(AV.int .i64 0), (AV.int .i64 0), (AV.int .i64 0), (AV.int .i64 0), (AV.int .i64 0)] 1 [(0, t40)]) h14 fun t41 h15 =>
  (bldS [(0, 1), (1, 1), (2, 1), (3, 1), (4, 1), (5, 1), (6, 1)] [(AV.int .i64 0), (AV.int .i64 0), (AV.int .i64 0), (AV.int .i64 0), (AV.sl none 0 (.ex 0)), (AV.sl none 0 (.ex 0)), (AV.sl none 0 (.ex 0))] [(2, (AV.int .i64 1)), (4, t39), (5, t41)]).bind fun t42 =>
  mk (bsP 7 [(AV.int .i64 0), (AV.int .i64 0), (AV.int .i64 0), (AV.int .i64 0), (AV.sl none 0 (.ex 0)), (AV.sl none 0 (.ex 0)), (AV.sl none 0 (.ex 0))] 2 [(0, t38), (1, t42)]) h15 fun t43 h16 =>
  (faP 4 t5).bind fun t44 =>
  cl (stP 1 h16 t44 t43) fun u_17 h18 =>
  condE x1 (
  (faP 4 t5).bind fun t46 =>
  (ldS h18 t46).bind fun t47 =>
  (iaS 7 t47 (AV.int .i64 1)).bind fun t48 =>
  (faP 1 t48).bind fun t49 =>
  cl (stP 1 h18 t49 (AV.int .i64 1)) fun u_52 h53 =>
  k_law12_VerifyShares_j0 x0 x1 t5 h53) (
  (faP 4 t5).bind fun t50 =>
  (ldS h18 t50).bind fun t51 =>
  (iaS 7 t51 (AV.int .i64 1)).bind fun t52 =>
  (faP 0 t52).bind fun t53 =>
  cl (stP 1 h18 t53 (AV.int .i64 1)) fun u_54 h55 =>
  k_law12_VerifyShares_j0 x0 x1 t5 h55)) (fun e_56 => endE e_56 (some ((AV.bool false), h11)))))
def T98 : Tab := (12, p2 k_law12_VerifyShares) :: T97
end
end Go.Ab.F