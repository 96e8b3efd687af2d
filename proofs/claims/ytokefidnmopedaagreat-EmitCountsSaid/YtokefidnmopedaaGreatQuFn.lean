/- PRINTED by Gen.lean: the program's functions on the abstract machine's values and heaps. -/
import Derived.Test.YtokefidnmopedaaGreatAbS
import Derived.Test.YtokefidnmopedaaGreatAbQ
import Derived.Test.YtokefidnmopedaaGreatBs
import Derived.Test.YtokefidnmopedaaGreatAbKeys
namespace Go.Ab.F
open Go Go.Ab Go.Proofs Go.Proofs.YtokefidnmopedaaGreat
set_option linter.all false
noncomputable section
def T0 : Tab := []
/- 16: gantline/emit.Polls$1 -/
def k_emit_Polls_1 (x0 : AV) (x1 : AV) (h : Heap) : Option (AV × Heap) :=
  (binP .lss x0 (AV.int .i64 0)).bind fun t5 =>
  gQ (gdW t5 false) h (some (x0, h)) fun t7 h0 =>
  gQ (gdW t5 false) h0 ((ldS h0 x1).bind fun t8 =>
  some (t8, h0)) fun t8_1 h2 =>
  gQ (gdW t5 false) h2 ((lnL t8_1).bind fun t9 =>
  some (t9, h2)) fun t9_3 h4 =>
  gQ (gdW t5 false) h4 ((binP .geq t7 t9_3).bind fun t10 =>
  some (t10, h4)) fun t10_5 h6 =>
  (pickP t5 (AV.bool true) t10_5).bind fun t11 =>
  condE t11 (
  some (x0, h6)) (
  (ldS h6 x1).bind fun t13 =>
  (iaS 1 t13 x0).bind fun t15 =>
  (ldS h6 t15).bind fun t16 =>
  some (t16, h6))
def T1 : Tab := (16, p2 k_emit_Polls_1) :: T0
/- 73: gantline/head.Good -/
def k_head_Good_j0 (t1 : AV) (q25 : AV) (h22 : Heap) : Option (AV × Heap) :=
  condE q25 (
  (faP 1 t1).bind fun t28 =>
  (ldS h22 t28).bind fun t29 =>
  (eqP (some (.int .i64)) none false .eql t29 (AV.int .i64 0)).bind fun t30 =>
  gQ (gdW t30 true) h22 ((faP 2 t1).bind fun t32 =>
  some (t32, h22)) fun t32_23 h24 =>
  gQ (gdW t30 true) h24 ((ldS h24 t32_23).bind fun t33 =>
  some (t33, h24)) fun t33_25 h26 =>
  gQ (gdW t30 true) h26 ((binP .leq t33_25 (AV.int .u64 1)).bind fun t34 =>
  some (t34, h26)) fun t34_27 h28 =>
  (pickP t30 t34_27 (AV.bool false)).bind fun t35 =>
  some (t35, h28)) (
  some ((AV.bool false), h22))
def k_head_Good_j1 (t1 : AV) (t4 : AV) (q5 : AV) (h1 : Heap) : Option (AV × Heap) :=
  condE q5 (
  (faP 1 t1).bind fun t8 =>
  (ldS h1 t8).bind fun t9 =>
  (binP .geq t9 (AV.int .i64 0)).bind fun t10 =>
  gQ (gdW t10 true) h1 ((faP 1 t1).bind fun t12 =>
  some (t12, h1)) fun t12_2 h3 =>
  gQ (gdW t10 true) h3 ((ldS h3 t12_2).bind fun t13 =>
  some (t13, h3)) fun t13_4 h5 =>
  gQ (gdW t10 true) h5 ((binP .leq t13_4 (AV.int .i64 63)).bind fun t14 =>
  some (t14, h5)) fun t14_6 h7 =>
  (pickP t10 t14_6 (AV.bool false)).bind fun t15 =>
  gQ (gdW t15 true) h7 ((faP 2 t1).bind fun t17 =>
  some (t17, h7)) fun t17_8 h9 =>
  gQ (gdW t15 true) h9 ((ldS h9 t17_8).bind fun t18 =>
  some (t18, h9)) fun t18_10 h11 =>
  gQ (gdW t15 true) h11 ((faP 1 t1).bind fun t19 =>
  some (t19, h11)) fun t19_12 h13 =>
  gQ (gdW t15 true) h13 ((ldS h13 t19_12).bind fun t20 =>
  some (t20, h13)) fun t20_14 h15 =>
  gQ (gdW t15 true) h15 ((cvI .u64 t20_14).bind fun t21 =>
  some (t21, h15)) fun t21_16 h17 =>
  gQ (gdW t15 true) h17 ((binP .shr t18_10 t21_16).bind fun t22 =>
  some (t22, h17)) fun t22_18 h19 =>
  gQ (gdW t15 true) h19 ((eqP (some (.int .u64)) none false .eql t22_18 (AV.int .u64 0)).bind fun t23 =>
  some (t23, h19)) fun t23_20 h21 =>
  (pickP t15 t23_20 (AV.bool false)).bind fun t24 =>
  some (t24, h21)) (
  (eqP (some (.int .i64)) none false .eql t4 (AV.int .i64 1)).bind fun t26 =>
  condE t26 (
  k_head_Good_j0 t1 t26 h1) (
  (eqP (some (.int .i64)) none false .eql t4 (AV.int .i64 3)).bind fun t27 =>
  k_head_Good_j0 t1 t27 h1))
def k_head_Good (x0 : AV) (h : Heap) : Option (AV × Heap) :=
  mk Heap.new (bxP x0) h fun t1 h0 =>
  (faP 0 t1).bind fun t3 =>
  (ldS h0 t3).bind fun t4 =>
  (eqP (some (.int .i64)) none false .eql t4 (AV.int .i64 0)).bind fun t6 =>
  condE t6 (
  k_head_Good_j1 t1 t4 t6 h0) (
  (eqP (some (.int .i64)) none false .eql t4 (AV.int .i64 2)).bind fun t7 =>
  k_head_Good_j1 t1 t4 t7 h0)
def T2 : Tab := (73, p1 k_head_Good) :: T1
/- 72: gantline/verify.module$1 -/
def k_verify_module_1 (x0 : AV) (h : Heap) : Option (AV × Heap) :=
  mk Heap.new (bxP x0) h fun t1 h0 =>
  (ldA 3 h0 t1).bind fun t3 =>
  cl (k_head_Good t3 h0) fun t4 h1 =>
  (unA .not t4).bind fun t5 =>
  some (t5, h1)
def T3 : Tab := (72, p1 k_verify_module_1) :: T2
/- 75: gantline/bits.Wrap -/
def k_bits_Wrap (x0 : AV) (h : Heap) : Option (AV × Heap) :=
  (binP .shl x0 (AV.int .u64 1)).bind fun t4 =>
  (binP .shr t4 (AV.int .u64 1)).bind fun t5 =>
  some (t5, h)
def T4 : Tab := (75, p1 k_bits_Wrap) :: T3
/- 74: gantline/verify.module$2 -/
def k_verify_module_2 (x0 : AV) (h : Heap) : Option (AV × Heap) :=
  cl (k_bits_Wrap x0 h) fun t4 h0 =>
  (eqP (some (.int .i64)) none false .neq t4 x0).bind fun t6 =>
  some (t6, h0)
def T5 : Tab := (74, p1 k_verify_module_2) :: T4
/- 67: gantline/live.Follows$1 -/
def k_live_Follows_1 (x0 : AV) (x1 : AV) (h : Heap) : Option (AV × Heap) :=
  (binP .lss x0 (AV.int .i64 0)).bind fun t5 =>
  gQ (gdW t5 false) h (some (x0, h)) fun t7 h0 =>
  gQ (gdW t5 false) h0 ((faP 5 x1).bind fun t8 =>
  some (t8, h0)) fun t8_1 h2 =>
  gQ (gdW t5 false) h2 ((ldS h2 t8_1).bind fun t9 =>
  some (t9, h2)) fun t9_3 h4 =>
  gQ (gdW t5 false) h4 ((lnL t9_3).bind fun t10 =>
  some (t10, h4)) fun t10_5 h6 =>
  gQ (gdW t5 false) h6 ((binP .geq t7 t10_5).bind fun t11 =>
  some (t11, h6)) fun t11_7 h8 =>
  (pickP t5 (AV.bool true) t11_7).bind fun t12 =>
  some (t12, h8)
def T6 : Tab := (67, p2 k_live_Follows_1) :: T5
/- 110: gantline/live.given$1 -/
def k_live_given_1 (x0 : AV) (h : Heap) : Option (AV × Heap) :=
  (eqP (some (.int .i64)) none false .eql x0 (AV.int .i64 (-1))).bind fun t4 =>
  some (t4, h)
def T7 : Tab := (110, p1 k_live_given_1) :: T6
/- 95: (*gantline/verify.checker).slot -/
def k_verify_checker_slot (x0 : AV) (x1 : AV) (h : Heap) : Option (AV × Heap) :=
  (binP .geq x1 (AV.int .i64 0)).bind fun t6 =>
  gQ (gdW t6 true) h (some (x1, h)) fun t8 h0 =>
  gQ (gdW t6 true) h0 (some (x0, h0)) fun t9 h1 =>
  gQ (gdW t6 true) h1 ((nilV t9).bind fun t10 =>
  some (t10, h1)) fun t10_2 h3 =>
  gQ (gdW t6 true) h3 ((faP 6 t10_2).bind fun t11 =>
  some (t11, h3)) fun t11_4 h5 =>
  gQ (gdW t6 true) h5 ((faP 2 t11_4).bind fun t12 =>
  some (t12, h5)) fun t12_6 h7 =>
  gQ (gdW t6 true) h7 ((ldS h7 t12_6).bind fun t13 =>
  some (t13, h7)) fun t13_8 h9 =>
  gQ (gdW t6 true) h9 ((binP .lss t8 t13_8).bind fun t14 =>
  some (t14, h9)) fun t14_10 h11 =>
  (pickP t6 t14_10 (AV.bool false)).bind fun t15 =>
  some (t15, h11)
def T8 : Tab := (95, p2 k_verify_checker_slot) :: T7
/- 94: (*gantline/verify.checker).slots$1 -/
def k_verify_checker_slots_1 (x0 : AV) (x1 : AV) (h : Heap) : Option (AV × Heap) :=
  (eqP (some (.int .i64)) none false .eql x0 (AV.int .i64 (-1))).bind fun t5 =>
  gQ (gdW t5 false) h ((ldS h x1).bind fun t7 =>
  some (t7, h)) fun t7_0 h1 =>
  gQ (gdW t5 false) h1 (some (x0, h1)) fun t8 h2 =>
  gQ (gdW t5 false) h2 (cl (k_verify_checker_slot t7_0 t8 h2) fun t9 h3 =>
  some (t9, h3)) fun t9_4 h5 =>
  (pickP t5 (AV.bool true) t9_4).bind fun t10 =>
  some (t10, h5)
def T9 : Tab := (94, p2 k_verify_checker_slots_1) :: T8
/- 103: (*gantline/verify.checker).slots$3 -/
def k_verify_checker_slots_3 (x0 : AV) (x1 : AV) (h : Heap) : Option (AV × Heap) :=
  (ldS h x1).bind fun t4 =>
  cl (k_verify_checker_slot t4 x0 h) fun t6 h0 =>
  (unA .not t6).bind fun t7 =>
  some (t7, h0)
def T10 : Tab := (103, p2 k_verify_checker_slots_3) :: T9
/- 123: (*gantline/verify.checker).is$1 -/
def k_verify_checker_is_1 (x0 : AV) (x1 : AV) (x2 : AV) (h : Heap) : Option (AV × Heap) :=
  (ldS h x1).bind fun t5 =>
  (nilV t5).bind fun t6 =>
  (faP 6 t6).bind fun t7 =>
  (faP 4 t7).bind fun t8 =>
  (ldS h t8).bind fun t9 =>
  (iaS 1 t9 x0).bind fun t11 =>
  (ldS h t11).bind fun t12 =>
  (ldS h x2).bind fun t13 =>
  (eqP (some .bool) none false .neq t12 t13).bind fun t14 =>
  chk [h] [] (
  some (t14, h))
def T11 : Tab := (123, p3 k_verify_checker_is_1) :: T10
/- 20: gantline/emit.Emit$1 -/
def k_emit_Emit_1 (x0 : AV) (h : Heap) : Option (AV × Heap) :=
  mk Heap.new (bxP x0) h fun t1 h0 =>
  (faP 5 t1).bind fun t3 =>
  (ldS h0 t3).bind fun t4 =>
  (lnL t4).bind fun t5 =>
  (binP .gtr t5 (AV.int .i64 4096)).bind fun t6 =>
  some (t6, h0)
def T12 : Tab := (20, p1 k_emit_Emit_1) :: T11
/- 23: slices.Equal[[]bool,bool] -/
def k_slices_Equal_bool_bool_b0 (x0 : AV) (x1 : AV) (t12 : AV) (q4 : AV) (q13 : AV) (h0 : Heap) : OutV :=
  (binP .lss q13 t12).bind fun t14 =>
  condE t14 (
  (iaS 1 x0 q13).bind fun t18 =>
  (ldS h0 t18).bind fun t19 =>
  (iaS 1 x1 q13).bind fun t22 =>
  (ldS h0 t22).bind fun t23 =>
  (eqP (some .bool) none false .neq t19 t23).bind fun t24 =>
  chk [h0] [] (
  condE t24 (
  some (.ret, [(AV.bool false), q13], h0)) (
  (binP .add q13 (AV.int .i64 1)).bind fun t25 =>
  some (.normal, [q4, t25], h0)))) (
  some ((.exit 0), [q4, q13], h0))
def k_slices_Equal_bool_bool_L0 (x0 : AV) (x1 : AV) (t12 : AV) (q4 : AV) (q13 : AV) (h0 : Heap) : OutV := loopN (fun us g => k_slices_Equal_bool_bool_b0 x0 x1 t12 (us.getD 0 .bot) (us.getD 1 .bot) g) [q4, q13] h0
def k_slices_Equal_bool_bool (x0 : AV) (x1 : AV) (h : Heap) : Option (AV × Heap) :=
  (lnL x0).bind fun t7 =>
  (lnL x1).bind fun t9 =>
  (eqP (some (.int .i64)) none false .neq t7 t9).bind fun t10 =>
  condE t10 (
  some ((AV.bool false), h)) (
  (lnL x0).bind fun t12 =>
  lp (k_slices_Equal_bool_bool_L0 x0 x1 t12 (AV.bool false) (AV.int .i64 0) h) fun e vs h1 =>
  thenK (if e = .exit 0 then .normal else e) (
  some ((AV.bool true), h1)) (fun e_2 => endE e_2 (some ((vs.getD 0 .bot), h1))))
def T13 : Tab := (23, p2 k_slices_Equal_bool_bool) :: T12
/- 24: slices.Equal[[]gantline/code.Instr,gantline/code.Instr] -/
def k_slices_Equal_code_Instr_code_Instr_b0 (x0 : AV) (x1 : AV) (t12 : AV) (q4 : AV) (q13 : AV) (h0 : Heap) : OutV :=
  (binP .lss q13 t12).bind fun t14 =>
  condE t14 (
  (iaS 5 x0 q13).bind fun t18 =>
  (ldA 5 h0 t18).bind fun t19 =>
  (iaS 5 x1 q13).bind fun t22 =>
  (ldA 5 h0 t22).bind fun t23 =>
  (eqP (some (.struct #[])) (some [(0, (.int .i64)), (1, (.int .i64)), (2, (.int .i64)), (3, (.int .i64)), (4, (.int .i64))]) false .neq t19 t23).bind fun t24 =>
  chk [h0] [] (
  condE t24 (
  some (.ret, [(AV.bool false), q13], h0)) (
  (binP .add q13 (AV.int .i64 1)).bind fun t25 =>
  some (.normal, [q4, t25], h0)))) (
  some ((.exit 0), [q4, q13], h0))
def k_slices_Equal_code_Instr_code_Instr_L0 (x0 : AV) (x1 : AV) (t12 : AV) (q4 : AV) (q13 : AV) (h0 : Heap) : OutV := loopN (fun us g => k_slices_Equal_code_Instr_code_Instr_b0 x0 x1 t12 (us.getD 0 .bot) (us.getD 1 .bot) g) [q4, q13] h0
def k_slices_Equal_code_Instr_code_Instr (x0 : AV) (x1 : AV) (h : Heap) : Option (AV × Heap) :=
  (lnL x0).bind fun t7 =>
  (lnL x1).bind fun t9 =>
  (eqP (some (.int .i64)) none false .neq t7 t9).bind fun t10 =>
  condE t10 (
  some ((AV.bool false), h)) (
  (lnL x0).bind fun t12 =>
  lp (k_slices_Equal_code_Instr_code_Instr_L0 x0 x1 t12 (AV.bool false) (AV.int .i64 0) h) fun e vs h1 =>
  thenK (if e = .exit 0 then .normal else e) (
  some ((AV.bool true), h1)) (fun e_2 => endE e_2 (some ((vs.getD 0 .bot), h1))))
def T14 : Tab := (24, p2 k_slices_Equal_code_Instr_code_Instr) :: T13
/- 25: slices.Equal[[]uint64,uint64] -/
def k_slices_Equal_uint64_uint64_b0 (x0 : AV) (x1 : AV) (t12 : AV) (q4 : AV) (q13 : AV) (h0 : Heap) : OutV :=
  (binP .lss q13 t12).bind fun t14 =>
  condE t14 (
  (iaS 1 x0 q13).bind fun t18 =>
  (ldS h0 t18).bind fun t19 =>
  (iaS 1 x1 q13).bind fun t22 =>
  (ldS h0 t22).bind fun t23 =>
  (eqP (some (.int .u64)) none false .neq t19 t23).bind fun t24 =>
  chk [h0] [] (
  condE t24 (
  some (.ret, [(AV.bool false), q13], h0)) (
  (binP .add q13 (AV.int .i64 1)).bind fun t25 =>
  some (.normal, [q4, t25], h0)))) (
  some ((.exit 0), [q4, q13], h0))
def k_slices_Equal_uint64_uint64_L0 (x0 : AV) (x1 : AV) (t12 : AV) (q4 : AV) (q13 : AV) (h0 : Heap) : OutV := loopN (fun us g => k_slices_Equal_uint64_uint64_b0 x0 x1 t12 (us.getD 0 .bot) (us.getD 1 .bot) g) [q4, q13] h0
def k_slices_Equal_uint64_uint64 (x0 : AV) (x1 : AV) (h : Heap) : Option (AV × Heap) :=
  (lnL x0).bind fun t7 =>
  (lnL x1).bind fun t9 =>
  (eqP (some (.int .i64)) none false .neq t7 t9).bind fun t10 =>
  condE t10 (
  some ((AV.bool false), h)) (
  (lnL x0).bind fun t12 =>
  lp (k_slices_Equal_uint64_uint64_L0 x0 x1 t12 (AV.bool false) (AV.int .i64 0) h) fun e vs h1 =>
  thenK (if e = .exit 0 then .normal else e) (
  some ((AV.bool true), h1)) (fun e_2 => endE e_2 (some ((vs.getD 0 .bot), h1))))
def T15 : Tab := (25, p2 k_slices_Equal_uint64_uint64) :: T14
/- 22: gantline/code.Same$1 -/
def k_code_Same_1 (x0 : AV) (x1 : AV) (h : Heap) : Option (AV × Heap) :=
  mk Heap.new (bxP x0) h fun t2 h0 =>
  mk Heap.new (bxP x1) h0 fun t3 h1 =>
  (faP 0 t2).bind fun t5 =>
  (ldS h1 t5).bind fun t6 =>
  (faP 0 t3).bind fun t7 =>
  (ldS h1 t7).bind fun t8 =>
  (eqP (some (.int .i64)) none false .eql t6 t8).bind fun t9 =>
  gQ (gdW t9 true) h1 ((faP 1 t2).bind fun t11 =>
  some (t11, h1)) fun t11_2 h3 =>
  gQ (gdW t9 true) h3 ((ldS h3 t11_2).bind fun t12 =>
  some (t12, h3)) fun t12_4 h5 =>
  gQ (gdW t9 true) h5 ((faP 1 t3).bind fun t13 =>
  some (t13, h5)) fun t13_6 h7 =>
  gQ (gdW t9 true) h7 ((ldS h7 t13_6).bind fun t14 =>
  some (t14, h7)) fun t14_8 h9 =>
  gQ (gdW t9 true) h9 ((eqP (some (.int .i64)) none false .eql t12_4 t14_8).bind fun t15 =>
  some (t15, h9)) fun t15_10 h11 =>
  (pickP t9 t15_10 (AV.bool false)).bind fun t16 =>
  gQ (gdW t16 true) h11 ((faP 2 t2).bind fun t18 =>
  some (t18, h11)) fun t18_12 h13 =>
  gQ (gdW t16 true) h13 ((ldS h13 t18_12).bind fun t19 =>
  some (t19, h13)) fun t19_14 h15 =>
  gQ (gdW t16 true) h15 ((faP 2 t3).bind fun t20 =>
  some (t20, h15)) fun t20_16 h17 =>
  gQ (gdW t16 true) h17 ((ldS h17 t20_16).bind fun t21 =>
  some (t21, h17)) fun t21_18 h19 =>
  gQ (gdW t16 true) h19 ((eqP (some (.int .i64)) none false .eql t19_14 t21_18).bind fun t22 =>
  some (t22, h19)) fun t22_20 h21 =>
  (pickP t16 t22_20 (AV.bool false)).bind fun t23 =>
  gQ (gdW t23 true) h21 ((faP 3 t2).bind fun t25 =>
  some (t25, h21)) fun t25_22 h23 =>
  gQ (gdW t23 true) h23 ((ldS h23 t25_22).bind fun t26 =>
  some (t26, h23)) fun t26_24 h25 =>
  gQ (gdW t23 true) h25 ((faP 3 t3).bind fun t27 =>
  some (t27, h25)) fun t27_26 h27 =>
  gQ (gdW t23 true) h27 ((ldS h27 t27_26).bind fun t28 =>
  some (t28, h27)) fun t28_28 h29 =>
  gQ (gdW t23 true) h29 ((eqP (some (.int .i64)) none false .eql t26_24 t28_28).bind fun t29 =>
  some (t29, h29)) fun t29_30 h31 =>
  (pickP t23 t29_30 (AV.bool false)).bind fun t30 =>
  gQ (gdW t30 true) h31 ((faP 4 t2).bind fun t32 =>
  some (t32, h31)) fun t32_32 h33 =>
  gQ (gdW t30 true) h33 ((ldS h33 t32_32).bind fun t33 =>
  some (t33, h33)) fun t33_34 h35 =>
  gQ (gdW t30 true) h35 ((faP 4 t3).bind fun t34 =>
  some (t34, h35)) fun t34_36 h37 =>
  gQ (gdW t30 true) h37 ((ldS h37 t34_36).bind fun t35 =>
  some (t35, h37)) fun t35_38 h39 =>
  gQ (gdW t30 true) h39 (cl (k_slices_Equal_bool_bool t33_34 t35_38 h39) fun t36 h40 =>
  some (t36, h40)) fun t36_41 h42 =>
  (pickP t30 t36_41 (AV.bool false)).bind fun t37 =>
  gQ (gdW t37 true) h42 ((faP 5 t2).bind fun t39 =>
  some (t39, h42)) fun t39_43 h44 =>
  gQ (gdW t37 true) h44 ((ldS h44 t39_43).bind fun t40 =>
  some (t40, h44)) fun t40_45 h46 =>
  gQ (gdW t37 true) h46 ((faP 5 t3).bind fun t41 =>
  some (t41, h46)) fun t41_47 h48 =>
  gQ (gdW t37 true) h48 ((ldS h48 t41_47).bind fun t42 =>
  some (t42, h48)) fun t42_49 h50 =>
  gQ (gdW t37 true) h50 (cl (k_slices_Equal_code_Instr_code_Instr t40_45 t42_49 h50) fun t43 h51 =>
  some (t43, h51)) fun t43_52 h53 =>
  (pickP t37 t43_52 (AV.bool false)).bind fun t44 =>
  gQ (gdW t44 true) h53 ((faP 6 t2).bind fun t46 =>
  some (t46, h53)) fun t46_54 h55 =>
  gQ (gdW t44 true) h55 ((ldS h55 t46_54).bind fun t47 =>
  some (t47, h55)) fun t47_56 h57 =>
  gQ (gdW t44 true) h57 ((faP 6 t3).bind fun t48 =>
  some (t48, h57)) fun t48_58 h59 =>
  gQ (gdW t44 true) h59 ((ldS h59 t48_58).bind fun t49 =>
  some (t49, h59)) fun t49_60 h61 =>
  gQ (gdW t44 true) h61 (cl (k_slices_Equal_uint64_uint64 t47_56 t49_60 h61) fun t50 h62 =>
  some (t50, h62)) fun t50_63 h64 =>
  (pickP t44 t50_63 (AV.bool false)).bind fun t51 =>
  some (t51, h64)
def T16 : Tab := (22, p2 k_code_Same_1) :: T15
/- 65: gantline/live.cases -/
def k_live_cases (x0 : AV) (x1 : AV) (h : Heap) : Option (AV × Heap) :=
  mk Heap.new (bxP x0) h fun t2 h0 =>
  mk Heap.new (bxP x1) h0 fun t3 h1 =>
  (faP 1 t3).bind fun t5 =>
  (ldS h1 t5).bind fun t6 =>
  (binP .lss t6 (AV.int .i64 0)).bind fun t7 =>
  gQ (gdW t7 false) h1 ((faP 2 t3).bind fun t9 =>
  some (t9, h1)) fun t9_2 h3 =>
  gQ (gdW t7 false) h3 ((ldS h3 t9_2).bind fun t10 =>
  some (t10, h3)) fun t10_4 h5 =>
  gQ (gdW t7 false) h5 ((binP .lss t10_4 (AV.int .i64 0)).bind fun t11 =>
  some (t11, h5)) fun t11_6 h7 =>
  (pickP t7 (AV.bool true) t11_6).bind fun t12 =>
  gQ (gdW t12 false) h7 ((faP 1 t3).bind fun t14 =>
  some (t14, h7)) fun t14_8 h9 =>
  gQ (gdW t12 false) h9 ((ldS h9 t14_8).bind fun t15 =>
  some (t15, h9)) fun t15_10 h11 =>
  gQ (gdW t12 false) h11 ((faP 3 t2).bind fun t16 =>
  some (t16, h11)) fun t16_12 h13 =>
  gQ (gdW t12 false) h13 ((ldS h13 t16_12).bind fun t17 =>
  some (t17, h13)) fun t17_14 h15 =>
  gQ (gdW t12 false) h15 ((lnL t17_14).bind fun t18 =>
  some (t18, h15)) fun t18_16 h17 =>
  gQ (gdW t12 false) h17 ((binP .gtr t15_10 t18_16).bind fun t19 =>
  some (t19, h17)) fun t19_18 h19 =>
  (pickP t12 (AV.bool true) t19_18).bind fun t20 =>
  gQ (gdW t20 false) h19 ((faP 2 t3).bind fun t22 =>
  some (t22, h19)) fun t22_20 h21 =>
  gQ (gdW t20 false) h21 ((ldS h21 t22_20).bind fun t23 =>
  some (t23, h21)) fun t23_22 h23 =>
  gQ (gdW t20 false) h23 ((faP 3 t2).bind fun t24 =>
  some (t24, h23)) fun t24_24 h25 =>
  gQ (gdW t20 false) h25 ((ldS h25 t24_24).bind fun t25 =>
  some (t25, h25)) fun t25_26 h27 =>
  gQ (gdW t20 false) h27 ((lnL t25_26).bind fun t26 =>
  some (t26, h27)) fun t26_28 h29 =>
  gQ (gdW t20 false) h29 ((faP 1 t3).bind fun t27 =>
  some (t27, h29)) fun t27_30 h31 =>
  gQ (gdW t20 false) h31 ((ldS h31 t27_30).bind fun t28 =>
  some (t28, h31)) fun t28_32 h33 =>
  gQ (gdW t20 false) h33 ((binP .sub t26_28 t28_32).bind fun t29 =>
  some (t29, h33)) fun t29_34 h35 =>
  gQ (gdW t20 false) h35 ((binP .gtr t23_22 t29_34).bind fun t30 =>
  some (t30, h35)) fun t30_36 h37 =>
  (pickP t20 (AV.bool true) t30_36).bind fun t31 =>
  condE t31 (
  some ((AV.sl none 0 (.ex 0)), h37)) (
  (faP 3 t2).bind fun t32 =>
  (ldS h37 t32).bind fun t33 =>
  (faP 1 t3).bind fun t34 =>
  (ldS h37 t34).bind fun t35 =>
  (faP 1 t3).bind fun t36 =>
  (ldS h37 t36).bind fun t37 =>
  (faP 2 t3).bind fun t38 =>
  (ldS h37 t38).bind fun t39 =>
  (binP .add t37 t39).bind fun t40 =>
  (slcP 4 t33 (some t35) (some t40) none).bind fun t41 =>
  some (t41, h37))
def T17 : Tab := (65, p2 k_live_cases) :: T16
/- 71: gantline/live.bitsOf -/
def k_live_bitsOf_b0 (x0 : AV) (t7 : AV) (q3 : AV) (q8 : AV) (h0 : Heap) : OutV :=
  (binP .lss q8 t7).bind fun t9 =>
  condE t9 (
  (iaS 1 x0 q8).bind fun t10 =>
  (ldS h0 t10).bind fun t11 =>
  (binP .geq t11 (AV.int .i64 0)).bind fun t13 =>
  gQ (gdW t13 true) h0 (some (t11, h0)) fun t15 h3 =>
  gQ (gdW t13 true) h3 ((binP .lss t15 (AV.int .i64 64)).bind fun t16 =>
  some (t16, h3)) fun t16_4 h5 =>
  (pickP t13 t16_4 (AV.bool false)).bind fun t17 =>
  condE t17 (
  (cvI .u64 t11).bind fun t20 =>
  (binP .shl (AV.int .u64 1) t20).bind fun t21 =>
  (binP .or q3 t21).bind fun t22 =>
  (binP .add q8 (AV.int .i64 1)).bind fun t23_14 =>
  some (.normal, [t22, t23_14], h5)) (
  (binP .add q8 (AV.int .i64 1)).bind fun t23_15 =>
  some (.normal, [q3, t23_15], h5))) (
  some ((.exit 0), [q3, q8], h0))
def k_live_bitsOf_L0 (x0 : AV) (t7 : AV) (q3 : AV) (q8 : AV) (h0 : Heap) : OutV := loopN (fun us g => k_live_bitsOf_b0 x0 t7 (us.getD 0 .bot) (us.getD 1 .bot) g) [q3, q8] h0
def k_live_bitsOf (x0 : AV) (h : Heap) : Option (AV × Heap) :=
  (lnL x0).bind fun t7 =>
  lp (k_live_bitsOf_L0 x0 t7 (AV.int .u64 0) (AV.int .i64 0) h) fun e vs h16 =>
  thenK (if e = .exit 0 then .normal else e) (
  some ((vs.getD 0 .bot), h16)) (fun e_17 => endE e_17 (some ((AV.int .u64 0), h16)))
def T18 : Tab := (71, p1 k_live_bitsOf) :: T17
/- 89: slices.IndexFunc[[]int,int] -/
def k_slices_IndexFunc_int_int_b0 (x0 : AV) (x1 : AV) (t7 : AV) (q4 : AV) (q8 : AV) (h0 : Heap) : OutV :=
  (binP .lss q8 t7).bind fun t9 =>
  condE t9 (
  (iaS 1 x0 q8).bind fun t14 =>
  (ldS h0 t14).bind fun t15 =>
  clF (lookT T18) (cvP x1 [t15]) h0 fun t16 h1 =>
  condE t16 (
  some (.ret, [q8, q8], h1)) (
  (binP .add q8 (AV.int .i64 1)).bind fun t18 =>
  some (.normal, [q4, t18], h1))) (
  some ((.exit 0), [q4, q8], h0))
def k_slices_IndexFunc_int_int_L0 (x0 : AV) (x1 : AV) (t7 : AV) (q4 : AV) (q8 : AV) (h0 : Heap) : OutV := loopN (fun us g => k_slices_IndexFunc_int_int_b0 x0 x1 t7 (us.getD 0 .bot) (us.getD 1 .bot) g) [q4, q8] h0
def k_slices_IndexFunc_int_int (x0 : AV) (x1 : AV) (h : Heap) : Option (AV × Heap) :=
  (lnL x0).bind fun t7 =>
  lp (k_slices_IndexFunc_int_int_L0 x0 x1 t7 (AV.int .i64 0) (AV.int .i64 0) h) fun e vs h2 =>
  thenK (if e = .exit 0 then .normal else e) (
  some ((AV.int .i64 (-1)), h2)) (fun e_3 => endE e_3 (some ((vs.getD 0 .bot), h2)))
def T19 : Tab := (89, p2 k_slices_IndexFunc_int_int) :: T18
/- 66: slices.DeleteFunc[[]int,int] -/
def k_slices_DeleteFunc_int_int_b0 (x0 : AV) (x1 : AV) (q5 : AV) (q6 : AV) (h1 : Heap) : OutV :=
  (lnL x0).bind fun t18 =>
  (binP .lss q6 t18).bind fun t19 =>
  condE t19 (
  (iaS 1 x0 q6).bind fun t24 =>
  (ldS h1 t24).bind fun t25 =>
  clF (lookT T19) (cvP x1 [t25]) h1 fun t28 h4 =>
  (unA .not t28).bind fun t29 =>
  condE t29 (
  (iaS 1 x0 q5).bind fun t33 =>
  cl (stP 1 h4 t33 t25) fun u h14 =>
  (binP .add q5 (AV.int .i64 1)).bind fun t35 =>
  (binP .add q6 (AV.int .i64 1)).bind fun t21_15 =>
  some (.normal, [t35, t21_15], h14)) (
  (binP .add q6 (AV.int .i64 1)).bind fun t21_16 =>
  some (.normal, [q5, t21_16], h4))) (
  some ((.exit 0), [q5, q6], h1))
def k_slices_DeleteFunc_int_int_L0 (x0 : AV) (x1 : AV) (q5 : AV) (q6 : AV) (h1 : Heap) : OutV := loopN (fun us g => k_slices_DeleteFunc_int_int_b0 x0 x1 (us.getD 0 .bot) (us.getD 1 .bot) g) [q5, q6] h1
def k_slices_DeleteFunc_int_int (x0 : AV) (x1 : AV) (h : Heap) : Option (AV × Heap) :=
  cl (k_slices_IndexFunc_int_int x0 x1 h) fun t10 h0 =>
  (eqP (some (.int .i64)) none false .eql t10 (AV.int .i64 (-1))).bind fun t12 =>
  condE t12 (
  some (x0, h0)) (
  (binP .add t10 (AV.int .i64 1)).bind fun t15 =>
  lp (k_slices_DeleteFunc_int_int_L0 x0 x1 t10 t15 h0) fun e vs h17 =>
  thenK (if e = .exit 0 then .normal else e) (
  (slcP 1 x0 (some (vs.getD 0 .bot)) none none).bind fun t38 =>
  cl (clL 1 [(AV.int .i64 0)] h17 t38) fun u_18 h19 =>
  (slcP 1 x0 none (some (vs.getD 0 .bot)) none).bind fun t41 =>
  some (t41, h19)) (fun e_20 => endE e_20 (some ((AV.sl none 0 (.ex 0)), h17))))
def T20 : Tab := (66, p2 k_slices_DeleteFunc_int_int) :: T19
/- 68: slices.Sort[[]int,int] -/
def k_slices_Sort_int_int (a : AV) (h : Heap) : Option (AV × Heap) := sortV a h
def T21 : Tab := (68, p1 k_slices_Sort_int_int) :: T20
/- 69: slices.Compact[[]int,int] -/
def k_slices_Compact_int_int_b0 (x0 : AV) (t28 : AV) (q3_1 : AV) (q5 : AV) (h2 : Heap) : OutV :=
  (lnL t28).bind fun t31 =>
  (binP .lss q5 t31).bind fun t32 =>
  condE t32 (
  (iaS 1 t28 q5).bind fun t37 =>
  (ldS h2 t37).bind fun t38 =>
  (binP .sub q5 (AV.int .i64 1)).bind fun t41 =>
  (iaS 1 t28 t41).bind fun t42 =>
  (ldS h2 t42).bind fun t43 =>
  (eqP (some (.int .i64)) none false .neq t38 t43).bind fun t44 =>
  chk [h2] [] (
  condE t44 (
  (iaS 1 t28 q5).bind fun t49 =>
  (ldS h2 t49).bind fun t50 =>
  (iaS 1 x0 q3_1).bind fun t51 =>
  cl (stP 1 h2 t51 t50) fun u h17 =>
  (binP .add q3_1 (AV.int .i64 1)).bind fun t53 =>
  (binP .add q5 (AV.int .i64 1)).bind fun t34_18 =>
  some (.normal, [t53, t34_18], h17)) (
  (binP .add q5 (AV.int .i64 1)).bind fun t34_19 =>
  some (.normal, [q3_1, t34_19], h2)))) (
  some ((.exit 2), [q3_1, q5], h2))
def k_slices_Compact_int_int_L0 (x0 : AV) (t28 : AV) (q3_1 : AV) (q5 : AV) (h2 : Heap) : OutV := loopN (fun us g => k_slices_Compact_int_int_b0 x0 t28 (us.getD 0 .bot) (us.getD 1 .bot) g) [q3_1, q5] h2
def k_slices_Compact_int_int_b1 (x0 : AV) (q2 : AV) (q3 : AV) (h0 : Heap) : OutV :=
  (lnL x0).bind fun t12 =>
  (binP .lss q3 t12).bind fun t13 =>
  condE t13 (
  (iaS 1 x0 q3).bind fun t18 =>
  (ldS h0 t18).bind fun t19 =>
  (binP .sub q3 (AV.int .i64 1)).bind fun t22 =>
  (iaS 1 x0 t22).bind fun t23 =>
  (ldS h0 t23).bind fun t24 =>
  (eqP (some (.int .i64)) none false .eql t19 t24).bind fun t25 =>
  chk [h0] [] (
  condE t25 (
  (slcP 1 x0 (some q3) none none).bind fun t28 =>
  lp (k_slices_Compact_int_int_L0 x0 t28 q3 (AV.int .i64 1) h0) fun e vs h20 =>
  thenK (if e = .exit 2 then .normal else e) (
  (slcP 1 x0 (some (vs.getD 0 .bot)) none none).bind fun t56 =>
  cl (clL 1 [(AV.int .i64 0)] h20 t56) fun u_21 h22 =>
  (slcP 1 x0 none (some (vs.getD 0 .bot)) none).bind fun t59 =>
  some (.ret, [t59, (vs.getD 0 .bot)], h22)) (fun e_23 => thenK (if e_23 = .exit 1 then .normal else e_23) (
  (binP .add (vs.getD 0 .bot) (AV.int .i64 1)).bind fun t15 =>
  some (.normal, [q2, t15], h20)) (fun e_24 => some (e_24, [q2, (vs.getD 0 .bot)], h20)))) (
  (binP .add q3 (AV.int .i64 1)).bind fun t15_25 =>
  some (.normal, [q2, t15_25], h0)))) (
  some ((.exit 0), [q2, q3], h0))
def k_slices_Compact_int_int_L1 (x0 : AV) (q2 : AV) (q3 : AV) (h0 : Heap) : OutV := loopN (fun us g => k_slices_Compact_int_int_b1 x0 (us.getD 0 .bot) (us.getD 1 .bot) g) [q2, q3] h0
def k_slices_Compact_int_int (x0 : AV) (h : Heap) : Option (AV × Heap) :=
  (lnL x0).bind fun t7 =>
  (binP .lss t7 (AV.int .i64 2)).bind fun t8 =>
  condE t8 (
  some (x0, h)) (
  lp (k_slices_Compact_int_int_L1 x0 (AV.sl none 0 (.ex 0)) (AV.int .i64 1) h) fun e_26 vs_27 h28 =>
  thenK (if e_26 = .exit 0 then .normal else e_26) (
  some (x0, h28)) (fun e_29 => endE e_29 (some ((vs_27.getD 0 .bot), h28))))
def T22 : Tab := (69, p1 k_slices_Compact_int_int) :: T21
/- 47: gantline/live.Follows -/
def k_live_Follows_j0 (t4 : AV) (q7 : AV) (h13 : Heap) : Option (AV × Heap) :=
  cl (k_slices_DeleteFunc_int_int q7 (AV.fn 67 [] [t4]) h13) fun t63 h14 =>
  cl (k_slices_Sort_int_int t63 h14) fun t65 h15 =>
  cl (k_slices_Compact_int_int t63 h15) fun t67 h16 =>
  some (t67, h16)
def k_live_Follows_b0 (t49 : AV) (t50 : AV) (q7_130 : AV) (q51_131 : AV) (h132 : Heap) : OutV :=
  (binP .lss q51_131 t50).bind fun t52 =>
  condE t52 (
  (iaS 4 t49 q51_131).bind fun t53 =>
  (ldA 4 h132 t53).bind fun t54 =>
  mk Heap.new (some (Blk.cells true [(AV.int .i64 0), (AV.int .i64 0), (AV.int .i64 0), (AV.int .i64 0)], fun i => AV.ptr (some (i, 0)))) h132 fun t10 h133 =>
  cl (stP 4 h133 t10 t54) fun u_134 h135 =>
  (faP 3 t10).bind fun t56 =>
  (ldS h135 t56).bind fun t57 =>
  mk Heap.new (bsP 1 [(AV.int .i64 0)] 1 [(0, t57)]) h135 fun t58 h136 =>
  cl (appendA h136 1 8 q7_130 t58) fun t59 h137 =>
  (binP .add q51_131 (AV.int .i64 1)).bind fun t60 =>
  some (.normal, [t59, t60], h137)) (
  some ((.exit 1), [q7_130, q51_131], h132))
def k_live_Follows_L0 (t49 : AV) (t50 : AV) (q7_130 : AV) (q51_131 : AV) (h132 : Heap) : OutV := loopN (fun us g => k_live_Follows_b0 t49 t50 (us.getD 0 .bot) (us.getD 1 .bot) g) [q7_130, q51_131] h132
def k_live_Follows_j1 (x2 : AV) (t3 : AV) (t4 : AV) (t8 : AV) (t26 : AV) (q42_85 : AV) (h86 : Heap) : Option (AV × Heap) :=
  condE q42_85 (
  k_live_Follows_j0 t4 (AV.sl none 0 (.ex 0)) h86) (
  (eqP (some (.int .i64)) none false .eql t26 (AV.int .i64 41)).bind fun t46 =>
  condE t46 (
  (ldA 6 h86 t3).bind fun t47 =>
  (ldA 5 h86 t8).bind fun t48 =>
  cl (k_live_cases t47 t48 h86) fun t49 h129 =>
  (lnL t49).bind fun t50 =>
  lp (k_live_Follows_L0 t49 t50 (AV.sl none 0 (.ex 0)) (AV.int .i64 0) h129) fun e vs h138 =>
  thenK (if (if e = .exit 1 then .normal else e) = .exit 0 then .normal else (if e = .exit 1 then .normal else e)) (
  cl (k_slices_DeleteFunc_int_int (vs.getD 0 .bot) (AV.fn 67 [] [t4]) h138) fun t63_139 h140 =>
  cl (k_slices_Sort_int_int t63_139 h140) fun t65_141 h142 =>
  cl (k_slices_Compact_int_int t63_139 h142) fun t67_143 h144 =>
  some (t67_143, h144)) (fun e_145 => endE e_145 (some ((AV.sl none 0 (.ex 0)), h138)))) (
  (binP .add x2 (AV.int .i64 1)).bind fun t28 =>
  mk Heap.new (bsP 1 [(AV.int .i64 0)] 1 [(0, t28)]) h86 fun t29 h146 =>
  k_live_Follows_j0 t4 t29 h146))
def k_live_Follows (x0 : AV) (x1 : AV) (x2 : AV) (h : Heap) : Option (AV × Heap) :=
  mk Heap.new (bxP x0) h fun t3 h0 =>
  mk Heap.new (bxP x1) h0 fun t4 h1 =>
  (binP .lss x2 (AV.int .i64 0)).bind fun t12 =>
  gQ (gdW t12 false) h1 (some (x2, h1)) fun t14 h2 =>
  gQ (gdW t12 false) h2 ((faP 5 t4).bind fun t15 =>
  some (t15, h2)) fun t15_3 h4 =>
  gQ (gdW t12 false) h4 ((ldS h4 t15_3).bind fun t16 =>
  some (t16, h4)) fun t16_5 h6 =>
  gQ (gdW t12 false) h6 ((lnL t16_5).bind fun t17 =>
  some (t17, h6)) fun t17_7 h8 =>
  gQ (gdW t12 false) h8 ((binP .geq t14 t17_7).bind fun t18 =>
  some (t18, h8)) fun t18_9 h10 =>
  (pickP t12 (AV.bool true) t18_9).bind fun t19 =>
  condE t19 (
  some ((AV.sl none 0 (.ex 0)), h10)) (
  (faP 5 t4).bind fun t20 =>
  (ldS h10 t20).bind fun t21 =>
  (iaS 5 t21 x2).bind fun t23 =>
  (ldA 5 h10 t23).bind fun t24 =>
  mk Heap.new (some (Blk.cells true [(AV.int .i64 0), (AV.int .i64 0), (AV.int .i64 0), (AV.int .i64 0), (AV.int .i64 0)], fun i => AV.ptr (some (i, 0)))) h10 fun t8 h11 =>
  cl (stP 5 h11 t8 t24) fun u h12 =>
  (faP 0 t8).bind fun t25 =>
  (ldS h12 t25).bind fun t26 =>
  (eqP (some (.int .i64)) none false .eql t26 (AV.int .i64 18)).bind fun t31 =>
  condE t31 (
  (faP 1 t8).bind fun t32 =>
  (ldS h12 t32).bind fun t33 =>
  mk Heap.new (bsP 1 [(AV.int .i64 0)] 1 [(0, t33)]) h12 fun t34 h52 =>
  k_live_Follows_j0 t4 t34 h52) (
  (eqP (some (.int .i64)) none false .eql t26 (AV.int .i64 19)).bind fun t36 =>
  condE t36 (
  (faP 2 t8).bind fun t37 =>
  (ldS h12 t37).bind fun t38 =>
  (binP .add x2 (AV.int .i64 1)).bind fun t40 =>
  mk Heap.new (bsP 1 [(AV.int .i64 0)] 2 [(0, t38), (1, t40)]) h12 fun t41 h83 =>
  k_live_Follows_j0 t4 t41 h83) (
  (eqP (some (.int .i64)) none false .eql t26 (AV.int .i64 22)).bind fun t43 =>
  condE t43 (
  k_live_Follows_j1 x2 t3 t4 t8 t26 t43 h12) (
  (eqP (some (.int .i64)) none false .eql t26 (AV.int .i64 44)).bind fun t44 =>
  k_live_Follows_j1 x2 t3 t4 t8 t26 t44 h12))))
def T23 : Tab := (47, p3 k_live_Follows) :: T22
/- 70: gantline/live.Sets$1 -/
def k_live_Sets_1_b0 (x1 : AV) (x3 : AV) (t23 : AV) (t24 : AV) (q6 : AV) (q25 : AV) (h3 : Heap) : OutV :=
  (binP .lss q25 t24).bind fun t26 =>
  condE t26 (
  (iaS 4 t23 q25).bind fun t27 =>
  (ldA 4 h3 t27).bind fun t28 =>
  mk Heap.new (some (Blk.cells true [(AV.int .i64 0), (AV.int .i64 0), (AV.int .i64 0), (AV.int .i64 0)], fun i => AV.ptr (some (i, 0)))) h3 fun t9 h6 =>
  cl (stP 4 h6 t9 t28) fun u_7 h8 =>
  (faP 3 t9).bind fun t29 =>
  (ldS h8 t29).bind fun t30 =>
  (binP .lss t30 (AV.int .i64 0)).bind fun t31 =>
  gQ (gdW t31 false) h8 ((faP 3 t9).bind fun t33 =>
  some (t33, h8)) fun t33_9 h10 =>
  gQ (gdW t31 false) h10 ((ldS h10 t33_9).bind fun t34 =>
  some (t34, h10)) fun t34_11 h12 =>
  gQ (gdW t31 false) h12 ((faP 5 x1).bind fun t35 =>
  some (t35, h12)) fun t35_13 h14 =>
  gQ (gdW t31 false) h14 ((ldS h14 t35_13).bind fun t36 =>
  some (t36, h14)) fun t36_15 h16 =>
  gQ (gdW t31 false) h16 ((lnL t36_15).bind fun t37 =>
  some (t37, h16)) fun t37_17 h18 =>
  gQ (gdW t31 false) h18 ((binP .geq t34_11 t37_17).bind fun t38 =>
  some (t38, h18)) fun t38_19 h20 =>
  (pickP t31 (AV.bool true) t38_19).bind fun t39 =>
  condE t39 (
  (binP .add q25 (AV.int .i64 1)).bind fun t59_21 =>
  some (.normal, [q6, t59_21], h20)) (
  (ldS h20 x3).bind fun t40 =>
  (faP 3 t9).bind fun t41 =>
  (ldS h20 t41).bind fun t42 =>
  (iaS 1 t40 t42).bind fun t43 =>
  (ldS h20 t43).bind fun t44 =>
  (faP 0 t9).bind fun t45 =>
  (ldS h20 t45).bind fun t46 =>
  (eqP (some (.int .i64)) none false .eql t46 (AV.int .i64 0)).bind fun t47 =>
  condE t47 (
  (faP 2 t9).bind fun t50 =>
  (ldS h20 t50).bind fun t51 =>
  mk Heap.new (bsP 1 [(AV.int .i64 0)] 1 [(0, t51)]) h20 fun t52 h36 =>
  cl (k_live_bitsOf t52 h36) fun t53 h37 =>
  (binP .andNot t44 t53).bind fun t54 =>
  (binP .or q6 t54).bind fun t55 =>
  (binP .add q25 (AV.int .i64 1)).bind fun t59_38 =>
  some (.normal, [t55, t59_38], h37)) (
  (binP .or q6 t44).bind fun t58 =>
  (binP .add q25 (AV.int .i64 1)).bind fun t59_39 =>
  some (.normal, [t58, t59_39], h20)))) (
  some ((.exit 0), [q6, q25], h3))
def k_live_Sets_1_L0 (x1 : AV) (x3 : AV) (t23 : AV) (t24 : AV) (q6 : AV) (q25 : AV) (h3 : Heap) : OutV := loopN (fun us g => k_live_Sets_1_b0 x1 x3 t23 t24 (us.getD 0 .bot) (us.getD 1 .bot) g) [q6, q25] h3
def k_live_Sets_1_b1 (x3 : AV) (t64 : AV) (t65 : AV) (q6_43 : AV) (q66 : AV) (h44 : Heap) : OutV :=
  (binP .lss q66 t65).bind fun t67 =>
  condE t67 (
  (iaS 1 t64 q66).bind fun t68 =>
  (ldS h44 t68).bind fun t69 =>
  (ldS h44 x3).bind fun t71 =>
  (iaS 1 t71 t69).bind fun t73 =>
  (ldS h44 t73).bind fun t74 =>
  (binP .or q6_43 t74).bind fun t75 =>
  (binP .add q66 (AV.int .i64 1)).bind fun t76 =>
  some (.normal, [t75, t76], h44)) (
  some ((.exit 2), [q6_43, q66], h44))
def k_live_Sets_1_L1 (x3 : AV) (t64 : AV) (t65 : AV) (q6_43 : AV) (q66 : AV) (h44 : Heap) : OutV := loopN (fun us g => k_live_Sets_1_b1 x3 t64 t65 (us.getD 0 .bot) (us.getD 1 .bot) g) [q6_43, q66] h44
def k_live_Sets_1_b2 (x3 : AV) (t64_52 : AV) (t65_54 : AV) (q6_55 : AV) (q66_56 : AV) (h57 : Heap) : OutV :=
  (binP .lss q66_56 t65_54).bind fun t67_58 =>
  condE t67_58 (
  (iaS 1 t64_52 q66_56).bind fun t68_59 =>
  (ldS h57 t68_59).bind fun t69_60 =>
  (ldS h57 x3).bind fun t71_61 =>
  (iaS 1 t71_61 t69_60).bind fun t73_62 =>
  (ldS h57 t73_62).bind fun t74_63 =>
  (binP .or q6_55 t74_63).bind fun t75_64 =>
  (binP .add q66_56 (AV.int .i64 1)).bind fun t76_65 =>
  some (.normal, [t75_64, t76_65], h57)) (
  some ((.exit 2), [q6_55, q66_56], h57))
def k_live_Sets_1_L2 (x3 : AV) (t64_52 : AV) (t65_54 : AV) (q6_55 : AV) (q66_56 : AV) (h57 : Heap) : OutV := loopN (fun us g => k_live_Sets_1_b2 x3 t64_52 t65_54 (us.getD 0 .bot) (us.getD 1 .bot) g) [q6_55, q66_56] h57
def k_live_Sets_1 (x0 : AV) (x1 : AV) (x2 : AV) (x3 : AV) (h : Heap) : Option (AV × Heap) :=
  (faP 5 x1).bind fun t13 =>
  (ldS h t13).bind fun t14 =>
  (iaS 5 t14 x0).bind fun t16 =>
  (ldA 5 h t16).bind fun t17 =>
  mk Heap.new (some (Blk.cells true [(AV.int .i64 0), (AV.int .i64 0), (AV.int .i64 0), (AV.int .i64 0), (AV.int .i64 0)], fun i => AV.ptr (some (i, 0)))) h fun t7 h0 =>
  cl (stP 5 h0 t7 t17) fun u h1 =>
  (faP 0 t7).bind fun t18 =>
  (ldS h1 t18).bind fun t19 =>
  (eqP (some (.int .i64)) none false .eql t19 (AV.int .i64 41)).bind fun t20 =>
  condE t20 (
  (ldA 6 h1 x2).bind fun t21 =>
  (ldA 5 h1 t7).bind fun t22 =>
  cl (k_live_cases t21 t22 h1) fun t23 h2 =>
  (lnL t23).bind fun t24 =>
  lp (k_live_Sets_1_L0 x1 x3 t23 t24 (AV.int .u64 0) (AV.int .i64 0) h2) fun e vs h40 =>
  thenK (if e = .exit 0 then .normal else e) (
  some ((vs.getD 0 .bot), h40)) (fun e_41 => thenK e_41 (
  (ldA 6 h40 x2).bind fun t61 =>
  (ldA 7 h40 x1).bind fun t62 =>
  cl (k_live_Follows t61 t62 x0 h40) fun t64 h42 =>
  (lnL t64).bind fun t65 =>
  lp (k_live_Sets_1_L1 x3 t64 t65 (vs.getD 0 .bot) (AV.int .i64 0) h42) fun e_45 vs_46 h47 =>
  thenK (if e_45 = .exit 2 then .normal else e_45) (
  some ((vs_46.getD 0 .bot), h47)) (fun e_48 => endE e_48 (some ((AV.int .u64 0), h47)))) (fun e_49 => endE e_49 (some ((AV.int .u64 0), h40))))) (
  (ldA 6 h1 x2).bind fun t61_50 =>
  (ldA 7 h1 x1).bind fun t62_51 =>
  cl (k_live_Follows t61_50 t62_51 x0 h1) fun t64_52 h53 =>
  (lnL t64_52).bind fun t65_54 =>
  lp (k_live_Sets_1_L2 x3 t64_52 t65_54 (AV.int .u64 0) (AV.int .i64 0) h53) fun e_66 vs_67 h68 =>
  thenK (if e_66 = .exit 2 then .normal else e_66) (
  some ((vs_67.getD 0 .bot), h68)) (fun e_69 => endE e_69 (some ((AV.int .u64 0), h68))))
def T24 : Tab := (70, p4 k_live_Sets_1) :: T23
/- 101: (*gantline/verify.checker).slots$2 -/
def k_verify_checker_slots_2 (x0 : AV) (x1 : AV) (x2 : AV) (h : Heap) : Option (AV × Heap) :=
  mk Heap.new (bxP x0) h fun t3 h0 =>
  (faP 0 t3).bind fun t5 =>
  (ldS h0 t5).bind fun t6 =>
  (eqP (some (.int .i64)) none false .eql t6 (AV.int .i64 0)).bind fun t7 =>
  gQ (gdW t7 true) h0 ((ldS h0 x1).bind fun t9 =>
  some (t9, h0)) fun t9_1 h2 =>
  gQ (gdW t7 true) h2 ((faP 1 t3).bind fun t10 =>
  some (t10, h2)) fun t10_3 h4 =>
  gQ (gdW t7 true) h4 ((ldS h4 t10_3).bind fun t11 =>
  some (t11, h4)) fun t11_5 h6 =>
  gQ (gdW t7 true) h6 (cl (k_verify_checker_slot t9_1 t11_5 h6) fun t12 h7 =>
  some (t12, h7)) fun t12_8 h9 =>
  gQ (gdW t7 true) h9 (some (t12_8, h9)) fun t13 h10 =>
  gQ (gdW t13 true) h10 ((ldS h10 x2).bind fun t14 =>
  some (t14, h10)) fun t14_11 h12 =>
  gQ (gdW t13 true) h12 ((faP 2 t3).bind fun t15 =>
  some (t15, h12)) fun t15_13 h14 =>
  gQ (gdW t13 true) h14 ((ldS h14 t15_13).bind fun t16 =>
  some (t16, h14)) fun t16_15 h16 =>
  gQ (gdW t13 true) h16 (clF (lookT T24) (cvP t14_11 [t16_15]) h16 fun t17 h17 =>
  some (t17, h17)) fun t17_18 h19 =>
  gQ (gdW t7 true) h19 ((pickP t13 t17_18 (AV.bool false)).bind fun t18 =>
  some (t18, h19)) fun t18_20 h21 =>
  gQ (gdW t7 true) h21 ((unA .not t18_20).bind fun t19 =>
  some (t19, h21)) fun t19_22 h23 =>
  (pickP t7 t19_22 (AV.bool false)).bind fun t20 =>
  gQ (gdW t20 false) h23 ((faP 0 t3).bind fun t22 =>
  some (t22, h23)) fun t22_24 h25 =>
  gQ (gdW t20 false) h25 ((ldS h25 t22_24).bind fun t23 =>
  some (t23, h25)) fun t23_26 h27 =>
  gQ (gdW t20 false) h27 ((eqP (some (.int .i64)) none false .eql t23_26 (AV.int .i64 1)).bind fun t24 =>
  some (t24, h27)) fun t24_28 h29 =>
  gQ (gdW t20 false) h29 (some (t24_28, h29)) fun t25 h30 =>
  gQ (gdW t25 true) h30 ((ldS h30 x1).bind fun t26 =>
  some (t26, h30)) fun t26_31 h32 =>
  gQ (gdW t25 true) h32 ((faP 1 t3).bind fun t27 =>
  some (t27, h32)) fun t27_33 h34 =>
  gQ (gdW t25 true) h34 ((ldS h34 t27_33).bind fun t28 =>
  some (t28, h34)) fun t28_35 h36 =>
  gQ (gdW t25 true) h36 (cl (k_verify_checker_slot t26_31 t28_35 h36) fun t29 h37 =>
  some (t29, h37)) fun t29_38 h39 =>
  gQ (gdW t25 true) h39 (some (t29_38, h39)) fun t30 h40 =>
  gQ (gdW t30 true) h40 ((ldS h40 x1).bind fun t31 =>
  some (t31, h40)) fun t31_41 h42 =>
  gQ (gdW t30 true) h42 ((faP 2 t3).bind fun t32 =>
  some (t32, h42)) fun t32_43 h44 =>
  gQ (gdW t30 true) h44 ((ldS h44 t32_43).bind fun t33 =>
  some (t33, h44)) fun t33_45 h46 =>
  gQ (gdW t30 true) h46 (cl (k_verify_checker_slot t31_41 t33_45 h46) fun t34 h47 =>
  some (t34, h47)) fun t34_48 h49 =>
  gQ (gdW t25 true) h49 ((pickP t30 t34_48 (AV.bool false)).bind fun t35 =>
  some (t35, h49)) fun t35_50 h51 =>
  gQ (gdW t25 true) h51 ((unA .not t35_50).bind fun t36 =>
  some (t36, h51)) fun t36_52 h53 =>
  gQ (gdW t20 false) h53 ((pickP t25 t36_52 (AV.bool false)).bind fun t37 =>
  some (t37, h53)) fun t37_54 h55 =>
  (pickP t20 (AV.bool true) t37_54).bind fun t38 =>
  some (t38, h55)
def T25 : Tab := (101, p3 k_verify_checker_slots_2) :: T24
/- 102: slices.ContainsFunc[[]int,int] -/
def k_slices_ContainsFunc_int_int (x0 : AV) (x1 : AV) (h : Heap) : Option (AV × Heap) :=
  cl (k_slices_IndexFunc_int_int x0 x1 h) fun t7 h0 =>
  (binP .geq t7 (AV.int .i64 0)).bind fun t8 =>
  some (t8, h0)
def T26 : Tab := (102, p2 k_slices_ContainsFunc_int_int) :: T25
/- 106: (*gantline/verify.checker).is -/
def k_verify_checker_is (x0 : AV) (x1 : AV) (x2 : AV) (h : Heap) : Option (AV × Heap) :=
  mk Heap.new (bxP x0) h fun t3 h0 =>
  mk Heap.new (bxP x1) h0 fun t4 h1 =>
  cl (k_slices_ContainsFunc_int_int x2 (AV.fn 123 [] [t3, t4]) h1) fun t9 h2 =>
  (unA .not t9).bind fun t10 =>
  some (t10, h2)
def T27 : Tab := (106, p3 k_verify_checker_is) :: T26
/- 107: (*gantline/verify.checker).kinds$1 -/
def k_verify_checker_kinds_1 (x0 : AV) (x1 : AV) (h : Heap) : Option (AV × Heap) :=
  mk Heap.new (bxP x0) h fun t2 h0 =>
  (faP 0 t2).bind fun t4 =>
  (ldS h0 t4).bind fun t5 =>
  (eqP (some (.int .i64)) none false .neq t5 (AV.int .i64 2)).bind fun t6 =>
  gQ (gdW t6 true) h0 ((ldS h0 x1).bind fun t8 =>
  some (t8, h0)) fun t8_1 h2 =>
  gQ (gdW t6 true) h2 ((faP 1 t2).bind fun t9 =>
  some (t9, h2)) fun t9_3 h4 =>
  gQ (gdW t6 true) h4 ((ldS h4 t9_3).bind fun t10 =>
  some (t10, h4)) fun t10_5 h6 =>
  gQ (gdW t6 true) h6 (mk Heap.new (bsP 1 [(AV.int .i64 0)] 1 [(0, t10_5)]) h6 fun t11 h7 =>
  some (t11, h7)) fun t11_8 h9 =>
  gQ (gdW t6 true) h9 (cl (k_verify_checker_is t8_1 (AV.bool true) t11_8 h9) fun t12 h10 =>
  some (t12, h10)) fun t12_11 h12 =>
  gQ (gdW t6 true) h12 ((unA .not t12_11).bind fun t13 =>
  some (t13, h12)) fun t13_13 h14 =>
  (pickP t6 t13_13 (AV.bool false)).bind fun t14 =>
  some (t14, h14)
def T28 : Tab := (107, p2 k_verify_checker_kinds_1) :: T27
/- 8: gantline/gantlinelaw24.loop -/
def k_law24_loop (h : Heap) : Option (AV × Heap) :=
  mk Heap.new (some (Blk.cells true [(AV.sl none 0 (.ex 0)), (AV.sl none 0 (.ex 0)), (AV.sl none 0 (.ex 0)), (AV.sl none 0 (.ex 0)), (AV.sl none 0 (.ex 0)), (AV.int .i64 0)], fun i => AV.ptr (some (i, 0)))) h fun t0 h0 =>
  (bldS [(0, 1), (1, 1), (2, 1), (3, 1), (4, 1)] [(AV.int .i64 0), (AV.int .i64 0), (AV.int .i64 0), (AV.int .i64 0), (AV.int .i64 0)] [(0, (AV.int .i64 18))]).bind fun t1 =>
  mk Heap.new (bsP 5 [(AV.int .i64 0), (AV.int .i64 0), (AV.int .i64 0), (AV.int .i64 0), (AV.int .i64 0)] 1 [(0, t1)]) h0 fun t2 h1 =>
  mk Heap.new (bsP 1 [(AV.int .u64 0)] 1 [(0, (AV.int .u64 0))]) h1 fun t3 h2 =>
  (bldS [(0, 1), (1, 1), (2, 1), (3, 1), (4, 1), (5, 1), (6, 1)] [(AV.int .i64 0), (AV.int .i64 0), (AV.int .i64 0), (AV.int .i64 0), (AV.sl none 0 (.ex 0)), (AV.sl none 0 (.ex 0)), (AV.sl none 0 (.ex 0))] [(5, t2), (6, t3)]).bind fun t4 =>
  mk Heap.new (bsP 7 [(AV.int .i64 0), (AV.int .i64 0), (AV.int .i64 0), (AV.int .i64 0), (AV.sl none 0 (.ex 0)), (AV.sl none 0 (.ex 0)), (AV.sl none 0 (.ex 0))] 1 [(0, t4)]) h2 fun t5 h3 =>
  (bldS [(0, 1), (1, 1), (2, 1), (3, 1), (4, 1), (5, 1)] [(AV.sl none 0 (.ex 0)), (AV.sl none 0 (.ex 0)), (AV.sl none 0 (.ex 0)), (AV.sl none 0 (.ex 0)), (AV.sl none 0 (.ex 0)), (AV.int .i64 0)] [(4, t5)]).bind fun t6 =>
  cl (stP 6 h3 t0 t6) fun u h4 =>
  (ldA 6 h4 t0).bind fun t =>
  some (t, h4)
def T29 : Tab := (8, p0 k_law24_loop) :: T28
/- 33: slices.Clone[[]gantline/head.Shape,gantline/head.Shape] -/
def k_slices_Clone_head_Shape_head_Shape (x0 : AV) (h : Heap) : Option (AV × Heap) :=
  (eqP (some (.slice 0)) none false .eql x0 (AV.sl none 0 (.ex 0))).bind fun t4 =>
  condE t4 (
  some ((AV.sl none 0 (.ex 0)), h)) (
  mk Heap.new (bsP 3 [(AV.int .i64 0), (AV.int .i64 0), (AV.int .u64 0)] 0 []) h fun t5 h0 =>
  cl (appendA h0 3 24 t5 x0) fun t7 h1 =>
  some (t7, h1))
def T30 : Tab := (33, p1 k_slices_Clone_head_Shape_head_Shape) :: T29
/- 34: slices.Clone[[]bool,bool] -/
def k_slices_Clone_bool_bool (x0 : AV) (h : Heap) : Option (AV × Heap) :=
  (eqP (some (.slice 0)) none false .eql x0 (AV.sl none 0 (.ex 0))).bind fun t4 =>
  condE t4 (
  some ((AV.sl none 0 (.ex 0)), h)) (
  mk Heap.new (bsP 1 [(AV.bool false)] 0 []) h fun t5 h0 =>
  cl (appendA h0 1 1 t5 x0) fun t7 h1 =>
  some (t7, h1))
def T31 : Tab := (34, p1 k_slices_Clone_bool_bool) :: T30
/- 35: slices.Clone[[]int64,int64] -/
def k_slices_Clone_int64_int64 (x0 : AV) (h : Heap) : Option (AV × Heap) :=
  (eqP (some (.slice 0)) none false .eql x0 (AV.sl none 0 (.ex 0))).bind fun t4 =>
  condE t4 (
  some ((AV.sl none 0 (.ex 0)), h)) (
  mk Heap.new (bsP 1 [(AV.int .i64 0)] 0 []) h fun t5 h0 =>
  cl (appendA h0 1 8 t5 x0) fun t7 h1 =>
  some (t7, h1))
def T32 : Tab := (35, p1 k_slices_Clone_int64_int64) :: T31
/- 36: slices.Clone[[]gantline/code.Case,gantline/code.Case] -/
def k_slices_Clone_code_Case_code_Case (x0 : AV) (h : Heap) : Option (AV × Heap) :=
  (eqP (some (.slice 0)) none false .eql x0 (AV.sl none 0 (.ex 0))).bind fun t4 =>
  condE t4 (
  some ((AV.sl none 0 (.ex 0)), h)) (
  mk Heap.new (bsP 4 [(AV.int .i64 0), (AV.int .i64 0), (AV.int .i64 0), (AV.int .i64 0)] 0 []) h fun t5 h0 =>
  cl (appendA h0 4 32 t5 x0) fun t7 h1 =>
  some (t7, h1))
def T33 : Tab := (36, p1 k_slices_Clone_code_Case_code_Case) :: T32
/- 37: slices.Clone[[]gantline/code.Func,gantline/code.Func] -/
def k_slices_Clone_code_Func_code_Func (x0 : AV) (h : Heap) : Option (AV × Heap) :=
  (eqP (some (.slice 0)) none false .eql x0 (AV.sl none 0 (.ex 0))).bind fun t4 =>
  condE t4 (
  some ((AV.sl none 0 (.ex 0)), h)) (
  mk Heap.new (bsP 7 [(AV.int .i64 0), (AV.int .i64 0), (AV.int .i64 0), (AV.int .i64 0), (AV.sl none 0 (.ex 0)), (AV.sl none 0 (.ex 0)), (AV.sl none 0 (.ex 0))] 0 []) h fun t5 h0 =>
  cl (appendA h0 7 104 t5 x0) fun t7 h1 =>
  some (t7, h1))
def T34 : Tab := (37, p1 k_slices_Clone_code_Func_code_Func) :: T33
/- 38: slices.Clone[[]gantline/code.Instr,gantline/code.Instr] -/
def k_slices_Clone_code_Instr_code_Instr (x0 : AV) (h : Heap) : Option (AV × Heap) :=
  (eqP (some (.slice 0)) none false .eql x0 (AV.sl none 0 (.ex 0))).bind fun t4 =>
  condE t4 (
  some ((AV.sl none 0 (.ex 0)), h)) (
  mk Heap.new (bsP 5 [(AV.int .i64 0), (AV.int .i64 0), (AV.int .i64 0), (AV.int .i64 0), (AV.int .i64 0)] 0 []) h fun t5 h0 =>
  cl (appendA h0 5 40 t5 x0) fun t7 h1 =>
  some (t7, h1))
def T35 : Tab := (38, p1 k_slices_Clone_code_Instr_code_Instr) :: T34
/- 39: slices.Clone[[]uint64,uint64] -/
def k_slices_Clone_uint64_uint64 (x0 : AV) (h : Heap) : Option (AV × Heap) :=
  (eqP (some (.slice 0)) none false .eql x0 (AV.sl none 0 (.ex 0))).bind fun t4 =>
  condE t4 (
  some ((AV.sl none 0 (.ex 0)), h)) (
  mk Heap.new (bsP 1 [(AV.int .u64 0)] 0 []) h fun t5 h0 =>
  cl (appendA h0 1 8 t5 x0) fun t7 h1 =>
  some (t7, h1))
def T36 : Tab := (39, p1 k_slices_Clone_uint64_uint64) :: T35
/- 14: gantline/emit.clone -/
def k_emit_clone_b0 (t1 : AV) (t27 : AV) (q28 : AV) (h18 : Heap) : OutV :=
  (binP .lss q28 t27).bind fun t29 =>
  condE t29 (
  (faP 4 t1).bind fun t31 =>
  (ldS h18 t31).bind fun t32 =>
  (iaS 7 t32 q28).bind fun t34 =>
  (nilV t34).bind fun t39 =>
  (faP 4 t39).bind fun t40 =>
  (ldS h18 t40).bind fun t41 =>
  cl (k_slices_Clone_bool_bool t41 h18) fun t42 h19 =>
  (nilV t34).bind fun t44 =>
  (faP 5 t44).bind fun t45 =>
  clC (rdC (fun g => ldS g t45) h19 0 1 []) fun t46 cs_20 =>
  cl (k_slices_Clone_code_Instr_code_Instr t46 h19) fun t47 h21 =>
  (nilV t34).bind fun t49 =>
  (faP 6 t49).bind fun t50 =>
  clC (rdC (fun g => ldS g t50) h21 0 2 cs_20) fun t51 cs_22 =>
  cl (k_slices_Clone_uint64_uint64 t51 h21) fun t52 h23 =>
  (nilV t34).bind fun t53 =>
  (faP 4 t53).bind fun t54 =>
  cl (stP 1 h23 t54 t42) fun u_24 h25 =>
  (nilV t34).bind fun t55 =>
  (faP 5 t55).bind fun t56 =>
  cl (stP 1 h25 t56 t47) fun u_26 h27 =>
  (nilV t34).bind fun t57 =>
  (faP 6 t57).bind fun t58 =>
  cl (stP 1 h27 t58 t52) fun u_28 h29 =>
  chk [h18, h19, h21, h23, h25, h27, h29] cs_22 (
  (binP .add q28 (AV.int .i64 1)).bind fun t59 =>
  some (.normal, [t59], h29))) (
  some ((.exit 0), [q28], h18))
def k_emit_clone_L0 (t1 : AV) (t27 : AV) (q28 : AV) (h18 : Heap) : OutV := loopN (fun us g => k_emit_clone_b0 t1 t27 (us.getD 0 .bot) g) [q28] h18
def k_emit_clone (x0 : AV) (h : Heap) : Option (AV × Heap) :=
  mk Heap.new (bxP x0) h fun t1 h0 =>
  mk Heap.new (some (Blk.cells true [(AV.sl none 0 (.ex 0)), (AV.sl none 0 (.ex 0)), (AV.sl none 0 (.ex 0)), (AV.sl none 0 (.ex 0)), (AV.sl none 0 (.ex 0)), (AV.int .i64 0)], fun i => AV.ptr (some (i, 0)))) h0 fun t2 h1 =>
  (faP 0 t1).bind fun t5 =>
  (ldS h1 t5).bind fun t6 =>
  cl (k_slices_Clone_head_Shape_head_Shape t6 h1) fun t7 h2 =>
  (faP 1 t1).bind fun t8 =>
  clC (rdC (fun g => ldS g t8) h2 0 1 []) fun t9 cs =>
  cl (k_slices_Clone_bool_bool t9 h2) fun t10 h3 =>
  (faP 2 t1).bind fun t11 =>
  clC (rdC (fun g => ldS g t11) h3 0 2 cs) fun t12 cs_4 =>
  cl (k_slices_Clone_int64_int64 t12 h3) fun t13 h5 =>
  (faP 3 t1).bind fun t14 =>
  clC (rdC (fun g => ldS g t14) h5 0 3 cs_4) fun t15 cs_6 =>
  cl (k_slices_Clone_code_Case_code_Case t15 h5) fun t16 h7 =>
  (faP 0 t1).bind fun t17 =>
  cl (stP 1 h7 t17 t7) fun u h8 =>
  (faP 1 t1).bind fun t18 =>
  cl (stP 1 h8 t18 t10) fun u_9 h10 =>
  (faP 2 t1).bind fun t19 =>
  cl (stP 1 h10 t19 t13) fun u_11 h12 =>
  (faP 3 t1).bind fun t20 =>
  cl (stP 1 h12 t20 t16) fun u_13 h14 =>
  chk [h1, h2, h3, h5, h7, h8, h10, h12, h14] cs_6 (
  (faP 4 t1).bind fun t21 =>
  (ldS h14 t21).bind fun t22 =>
  cl (k_slices_Clone_code_Func_code_Func t22 h14) fun t23 h15 =>
  (faP 4 t1).bind fun t24 =>
  cl (stP 1 h15 t24 t23) fun u_16 h17 =>
  (faP 4 t1).bind fun t25 =>
  (ldS h17 t25).bind fun t26 =>
  (lnL t26).bind fun t27 =>
  lp (k_emit_clone_L0 t1 t27 (AV.int .i64 0) h17) fun e vs h30 =>
  thenK (if e = .exit 0 then .normal else e) (
  (ldA 6 h30 t1).bind fun t60 =>
  cl (stP 6 h30 t2 t60) fun u_31 h32 =>
  (ldA 6 h32 t2).bind fun t =>
  some (t, h32)) (fun e_33 => endE e_33 ((ldA 6 h30 t2).bind fun t_34 =>
  some (t_34, h30))))
def T37 : Tab := (14, p1 k_emit_clone) :: T36
/- 17: gantline/emit.cases -/
def k_emit_cases (x0 : AV) (x1 : AV) (h : Heap) : Option (AV × Heap) :=
  mk Heap.new (bxP x0) h fun t2 h0 =>
  mk Heap.new (bxP x1) h0 fun t3 h1 =>
  (faP 0 t3).bind fun t6 =>
  (ldS h1 t6).bind fun t7 =>
  (eqP (some (.int .i64)) none false .neq t7 (AV.int .i64 41)).bind fun t8 =>
  gQ (gdW t8 false) h1 ((faP 1 t3).bind fun t10 =>
  some (t10, h1)) fun t10_2 h3 =>
  gQ (gdW t8 false) h3 ((ldS h3 t10_2).bind fun t11 =>
  some (t11, h3)) fun t11_4 h5 =>
  gQ (gdW t8 false) h5 ((binP .lss t11_4 (AV.int .i64 0)).bind fun t12 =>
  some (t12, h5)) fun t12_6 h7 =>
  (pickP t8 (AV.bool true) t12_6).bind fun t13 =>
  gQ (gdW t13 false) h7 ((faP 2 t3).bind fun t15 =>
  some (t15, h7)) fun t15_8 h9 =>
  gQ (gdW t13 false) h9 ((ldS h9 t15_8).bind fun t16 =>
  some (t16, h9)) fun t16_10 h11 =>
  gQ (gdW t13 false) h11 ((binP .lss t16_10 (AV.int .i64 0)).bind fun t17 =>
  some (t17, h11)) fun t17_12 h13 =>
  (pickP t13 (AV.bool true) t17_12).bind fun t18 =>
  gQ (gdW t18 false) h13 ((faP 1 t3).bind fun t20 =>
  some (t20, h13)) fun t20_14 h15 =>
  gQ (gdW t18 false) h15 ((ldS h15 t20_14).bind fun t21 =>
  some (t21, h15)) fun t21_16 h17 =>
  gQ (gdW t18 false) h17 ((faP 3 t2).bind fun t22 =>
  some (t22, h17)) fun t22_18 h19 =>
  gQ (gdW t18 false) h19 ((ldS h19 t22_18).bind fun t23 =>
  some (t23, h19)) fun t23_20 h21 =>
  gQ (gdW t18 false) h21 ((lnL t23_20).bind fun t24 =>
  some (t24, h21)) fun t24_22 h23 =>
  gQ (gdW t18 false) h23 ((binP .gtr t21_16 t24_22).bind fun t25 =>
  some (t25, h23)) fun t25_24 h25 =>
  (pickP t18 (AV.bool true) t25_24).bind fun t26 =>
  gQ (gdW t26 false) h25 ((faP 2 t3).bind fun t28 =>
  some (t28, h25)) fun t28_26 h27 =>
  gQ (gdW t26 false) h27 ((ldS h27 t28_26).bind fun t29 =>
  some (t29, h27)) fun t29_28 h29 =>
  gQ (gdW t26 false) h29 ((faP 3 t2).bind fun t30 =>
  some (t30, h29)) fun t30_30 h31 =>
  gQ (gdW t26 false) h31 ((ldS h31 t30_30).bind fun t31 =>
  some (t31, h31)) fun t31_32 h33 =>
  gQ (gdW t26 false) h33 ((lnL t31_32).bind fun t32 =>
  some (t32, h33)) fun t32_34 h35 =>
  gQ (gdW t26 false) h35 ((faP 1 t3).bind fun t33 =>
  some (t33, h35)) fun t33_36 h37 =>
  gQ (gdW t26 false) h37 ((ldS h37 t33_36).bind fun t34 =>
  some (t34, h37)) fun t34_38 h39 =>
  gQ (gdW t26 false) h39 ((binP .sub t32_34 t34_38).bind fun t35 =>
  some (t35, h39)) fun t35_40 h41 =>
  gQ (gdW t26 false) h41 ((binP .gtr t29_28 t35_40).bind fun t36 =>
  some (t36, h41)) fun t36_42 h43 =>
  (pickP t26 (AV.bool true) t36_42).bind fun t37 =>
  condE t37 (
  some (AV.tup [(AV.int .i64 0), (AV.int .i64 0)], h43)) (
  (faP 1 t3).bind fun t38 =>
  (ldS h43 t38).bind fun t39 =>
  (faP 1 t3).bind fun t40 =>
  (ldS h43 t40).bind fun t41 =>
  (faP 2 t3).bind fun t42 =>
  (ldS h43 t42).bind fun t43 =>
  (binP .add t41 t43).bind fun t44 =>
  chk [h43] [] (
  some (AV.tup [t39, t44], h43)))
def T38 : Tab := (17, p2 k_emit_cases) :: T37
/- 40: gantline/emit.targets -/
def k_emit_targets_b0 (t32 : AV) (t33 : AV) (q5 : AV) (q34 : AV) (h5 : Heap) : OutV :=
  (binP .lss q34 t33).bind fun t35 =>
  condE t35 (
  (iaS 4 t32 q34).bind fun t36 =>
  (ldA 4 h5 t36).bind fun t37 =>
  mk Heap.new (some (Blk.cells true [(AV.int .i64 0), (AV.int .i64 0), (AV.int .i64 0), (AV.int .i64 0)], fun i => AV.ptr (some (i, 0)))) h5 fun t9 h6 =>
  cl (stP 4 h6 t9 t37) fun u h7 =>
  (faP 3 t9).bind fun t39 =>
  (ldS h7 t39).bind fun t40 =>
  mk Heap.new (bsP 1 [(AV.int .i64 0)] 1 [(0, t40)]) h7 fun t41 h8 =>
  cl (appendA h8 1 8 q5 t41) fun t42 h9 =>
  (binP .add q34 (AV.int .i64 1)).bind fun t43 =>
  some (.normal, [t42, t43], h9)) (
  some ((.exit 1), [q5, q34], h5))
def k_emit_targets_L0 (t32 : AV) (t33 : AV) (q5 : AV) (q34 : AV) (h5 : Heap) : OutV := loopN (fun us g => k_emit_targets_b0 t32 t33 (us.getD 0 .bot) (us.getD 1 .bot) g) [q5, q34] h5
def k_emit_targets (x0 : AV) (x1 : AV) (h : Heap) : Option (AV × Heap) :=
  mk Heap.new (bxP x0) h fun t2 h0 =>
  mk Heap.new (bxP x1) h0 fun t3 h1 =>
  (faP 0 t3).bind fun t10 =>
  (ldS h1 t10).bind fun t11 =>
  (eqP (some (.int .i64)) none false .eql t11 (AV.int .i64 18)).bind fun t13 =>
  condE t13 (
  (faP 1 t3).bind fun t14 =>
  (ldS h1 t14).bind fun t15 =>
  mk Heap.new (bsP 1 [(AV.int .i64 0)] 1 [(0, t15)]) h1 fun t16 h2 =>
  some (t16, h2)) (
  (eqP (some (.int .i64)) none false .eql t11 (AV.int .i64 19)).bind fun t18 =>
  condE t18 (
  (faP 2 t3).bind fun t19 =>
  (ldS h1 t19).bind fun t20 =>
  mk Heap.new (bsP 1 [(AV.int .i64 0)] 1 [(0, t20)]) h1 fun t21 h3 =>
  some (t21, h3)) (
  (ldA 6 h1 t2).bind fun t23 =>
  (ldA 5 h1 t3).bind fun t24 =>
  cl (k_emit_cases t23 t24 h1) fun t25 h4 =>
  (extractV 0 t25).bind fun t26 =>
  (extractV 1 t25).bind fun t27 =>
  (faP 3 t2).bind fun t28 =>
  (ldS h4 t28).bind fun t29 =>
  (slcP 4 t29 (some t26) (some t27) none).bind fun t32 =>
  (lnL t32).bind fun t33 =>
  lp (k_emit_targets_L0 t32 t33 (AV.sl none 0 (.ex 0)) (AV.int .i64 0) h4) fun e vs h10 =>
  thenK (if e = .exit 1 then .normal else e) (
  some ((vs.getD 0 .bot), h10)) (fun e_11 => endE e_11 (some ((AV.sl none 0 (.ex 0)), h10)))))
def T39 : Tab := (40, p2 k_emit_targets) :: T38
/- 15: gantline/emit.polled -/
def k_emit_polled_b0 (t3 : AV) (t13 : AV) (q17 : AV) (t24 : AV) (t25 : AV) (q26 : AV) (h7 : Heap) : OutV :=
  (binP .lss q26 t25).bind fun t27 =>
  condE t27 (
  (iaS 1 t24 q26).bind fun t28 =>
  (ldS h7 t28).bind fun t29 =>
  (binP .geq t29 (AV.int .i64 0)).bind fun t31 =>
  gQ (gdW t31 true) h7 (some (t29, h7)) fun t33 h9 =>
  gQ (gdW t31 true) h9 (some (q17, h9)) fun t34 h10 =>
  gQ (gdW t31 true) h10 ((binP .leq t33 t34).bind fun t35 =>
  some (t35, h10)) fun t35_11 h12 =>
  (pickP t31 t35_11 (AV.bool false)).bind fun t36 =>
  gQ (gdW t36 true) h12 ((faP 5 t3).bind fun t38 =>
  some (t38, h12)) fun t38_13 h14 =>
  gQ (gdW t36 true) h14 ((ldS h14 t38_13).bind fun t39 =>
  some (t39, h14)) fun t39_15 h16 =>
  gQ (gdW t36 true) h16 (some (t29, h16)) fun t40 h17 =>
  gQ (gdW t36 true) h17 ((iaS 5 t39_15 t40).bind fun t41 =>
  some (t41, h17)) fun t41_18 h19 =>
  gQ (gdW t36 true) h19 ((faP 0 t41_18).bind fun t42 =>
  some (t42, h19)) fun t42_20 h21 =>
  gQ (gdW t36 true) h21 ((ldS h21 t42_20).bind fun t43 =>
  some (t43, h21)) fun t43_22 h23 =>
  gQ (gdW t36 true) h23 ((eqP (some (.int .i64)) none false .neq t43_22 (AV.int .i64 43)).bind fun t44 =>
  some (t44, h23)) fun t44_24 h25 =>
  (pickP t36 t44_24 (AV.bool false)).bind fun t45 =>
  condE t45 (
  (iaS 1 t13 t29).bind fun t48 =>
  cl (stP 1 h25 t48 (AV.bool true)) fun u_31 h32 =>
  (binP .add q26 (AV.int .i64 1)).bind fun t49_33 =>
  some (.normal, [t49_33], h32)) (
  (binP .add q26 (AV.int .i64 1)).bind fun t49_34 =>
  some (.normal, [t49_34], h25))) (
  some ((.exit 2), [q26], h7))
def k_emit_polled_L0 (t3 : AV) (t13 : AV) (q17 : AV) (t24 : AV) (t25 : AV) (q26 : AV) (h7 : Heap) : OutV := loopN (fun us g => k_emit_polled_b0 t3 t13 q17 t24 t25 (us.getD 0 .bot) g) [q26] h7
def k_emit_polled_b1 (t2 : AV) (t3 : AV) (t13 : AV) (t15 : AV) (t16 : AV) (q17 : AV) (h3 : Heap) : OutV :=
  (binP .lss q17 t16).bind fun t18 =>
  condE t18 (
  (iaS 5 t15 q17).bind fun t20 =>
  (ldA 5 h3 t20).bind fun t21 =>
  mk Heap.new (some (Blk.cells true [(AV.int .i64 0), (AV.int .i64 0), (AV.int .i64 0), (AV.int .i64 0), (AV.int .i64 0)], fun i => AV.ptr (some (i, 0)))) h3 fun t7 h4 =>
  cl (stP 5 h4 t7 t21) fun u h5 =>
  (ldA 6 h5 t2).bind fun t22 =>
  (ldA 5 h5 t7).bind fun t23 =>
  cl (k_emit_targets t22 t23 h5) fun t24 h6 =>
  (lnL t24).bind fun t25 =>
  lp (k_emit_polled_L0 t3 t13 q17 t24 t25 (AV.int .i64 0) h6) fun e vs h35 =>
  thenK (if (if e = .exit 2 then .normal else e) = .exit 1 then .normal else (if e = .exit 2 then .normal else e)) (
  (binP .add q17 (AV.int .i64 1)).bind fun t50 =>
  some (.normal, [t50], h35)) (fun e_36 => some (e_36, [q17], h35))) (
  some ((.exit 0), [q17], h3))
def k_emit_polled_L1 (t2 : AV) (t3 : AV) (t13 : AV) (t15 : AV) (t16 : AV) (q17 : AV) (h3 : Heap) : OutV := loopN (fun us g => k_emit_polled_b1 t2 t3 t13 t15 t16 (us.getD 0 .bot) g) [q17] h3
def k_emit_polled (x0 : AV) (x1 : AV) (h : Heap) : Option (AV × Heap) :=
  mk Heap.new (bxP x0) h fun t2 h0 =>
  mk Heap.new (bxP x1) h0 fun t3 h1 =>
  (faP 5 t3).bind fun t10 =>
  (ldS h1 t10).bind fun t11 =>
  (lnL t11).bind fun t12 =>
  mk Heap.new (msP 1 1 [(AV.bool false)] t12 t12) h1 fun t13 h2 =>
  (faP 5 t3).bind fun t14 =>
  (ldS h2 t14).bind fun t15 =>
  (lnL t15).bind fun t16 =>
  lp (k_emit_polled_L1 t2 t3 t13 t15 t16 (AV.int .i64 0) h2) fun e_37 vs_38 h39 =>
  thenK (if e_37 = .exit 0 then .normal else e_37) (
  some (t13, h39)) (fun e_40 => endE e_40 (some ((AV.sl none 0 (.ex 0)), h39)))
def T40 : Tab := (15, p2 k_emit_polled) :: T39
/- 7: gantline/emit.Polls -/
def k_emit_Polls (a : AV) (h : Heap) : Option (AV × Heap) := bodyK Tryz.prog (lookT T40) ann 7 [a] h
def T41 : Tab := (7, p1 k_emit_Polls) :: T40
/- 6: gantline/emit.Count -/
def k_emit_Count_j0 (q19 : AV) (q2_8 : AV) (q3_9 : AV) (q4_10 : AV) (h11 : Heap) : OutV :=
  (binP .add q19 (AV.int .i64 1)).bind fun t39 =>
  some (.normal, [q2_8, q3_9, q4_10, t39], h11)
def k_emit_Count_j1 (q2_4 : AV) (q3_5 : AV) (q4_6 : AV) (q19 : AV) (q34_63 : AV) (h64 : Heap) : OutV :=
  condE q34_63 (
  (binP .add q4_6 (AV.int .i64 1)).bind fun t38 =>
  k_emit_Count_j0 q19 q2_4 q3_5 t38 h64) (
  k_emit_Count_j0 q19 q2_4 q3_5 q4_6 h64)
def k_emit_Count_j2 (q2_4 : AV) (q3_5 : AV) (q4_6 : AV) (q19 : AV) (t24 : AV) (q29_50 : AV) (h51 : Heap) : OutV :=
  condE q29_50 (
  (binP .add q3_5 (AV.int .i64 1)).bind fun t33 =>
  k_emit_Count_j0 q19 q2_4 t33 q4_6 h51) (
  (eqP (some (.int .i64)) none false .eql t24 (AV.int .i64 28)).bind fun t35 =>
  condE t35 (
  k_emit_Count_j1 q2_4 q3_5 q4_6 q19 t35 h51) (
  (eqP (some (.int .i64)) none false .eql t24 (AV.int .i64 31)).bind fun t36 =>
  k_emit_Count_j1 q2_4 q3_5 q4_6 q19 t36 h51))
def k_emit_Count_b0 (t17 : AV) (t18 : AV) (q2_4 : AV) (q3_5 : AV) (q4_6 : AV) (q19 : AV) (h7 : Heap) : OutV :=
  (binP .lss q19 t18).bind fun t20 =>
  condE t20 (
  (iaS 5 t17 q19).bind fun t21 =>
  (ldA 5 h7 t21).bind fun t22 =>
  mk Heap.new (some (Blk.cells true [(AV.int .i64 0), (AV.int .i64 0), (AV.int .i64 0), (AV.int .i64 0), (AV.int .i64 0)], fun i => AV.ptr (some (i, 0)))) h7 fun t8 h12 =>
  cl (stP 5 h12 t8 t22) fun u_13 h14 =>
  (faP 0 t8).bind fun t23 =>
  (ldS h14 t23).bind fun t24 =>
  (eqP (some (.int .i64)) none false .eql t24 (AV.int .i64 43)).bind fun t26 =>
  condE t26 (
  (binP .add q2_4 (AV.int .i64 1)).bind fun t28 =>
  k_emit_Count_j0 q19 t28 q3_5 q4_6 h14) (
  (eqP (some (.int .i64)) none false .eql t24 (AV.int .i64 29)).bind fun t30 =>
  condE t30 (
  k_emit_Count_j2 q2_4 q3_5 q4_6 q19 t24 t30 h14) (
  (eqP (some (.int .i64)) none false .eql t24 (AV.int .i64 32)).bind fun t31 =>
  k_emit_Count_j2 q2_4 q3_5 q4_6 q19 t24 t31 h14))) (
  some ((.exit 2), [q2_4, q3_5, q4_6, q19], h7))
def k_emit_Count_L0 (t17 : AV) (t18 : AV) (q2_4 : AV) (q3_5 : AV) (q4_6 : AV) (q19 : AV) (h7 : Heap) : OutV := loopN (fun us g => k_emit_Count_b0 t17 t18 (us.getD 0 .bot) (us.getD 1 .bot) (us.getD 2 .bot) (us.getD 3 .bot) g) [q2_4, q3_5, q4_6, q19] h7
def k_emit_Count_b1 (t10 : AV) (t11 : AV) (q2 : AV) (q3 : AV) (q4 : AV) (q12 : AV) (h1 : Heap) : OutV :=
  (binP .lss q12 t11).bind fun t13 =>
  condE t13 (
  (iaS 7 t10 q12).bind fun t14 =>
  (ldA 7 h1 t14).bind fun t15 =>
  mk Heap.new (some (Blk.cells true [(AV.int .i64 0), (AV.int .i64 0), (AV.int .i64 0), (AV.int .i64 0), (AV.sl none 0 (.ex 0)), (AV.sl none 0 (.ex 0)), (AV.sl none 0 (.ex 0))], fun i => AV.ptr (some (i, 0)))) h1 fun t6 h2 =>
  cl (stP 7 h2 t6 t15) fun u h3 =>
  (faP 5 t6).bind fun t16 =>
  (ldS h3 t16).bind fun t17 =>
  (lnL t17).bind fun t18 =>
  lp (k_emit_Count_L0 t17 t18 q2 q3 q4 (AV.int .i64 0) h3) fun e vs h69 =>
  thenK (if (if e = .exit 2 then .normal else e) = .exit 1 then .normal else (if e = .exit 2 then .normal else e)) (
  (binP .add q12 (AV.int .i64 1)).bind fun t40 =>
  some (.normal, [(vs.getD 0 .bot), (vs.getD 1 .bot), (vs.getD 2 .bot), t40], h69)) (fun e_70 => some (e_70, [(vs.getD 0 .bot), (vs.getD 1 .bot), (vs.getD 2 .bot), q12], h69))) (
  some ((.exit 0), [q2, q3, q4, q12], h1))
def k_emit_Count_L1 (t10 : AV) (t11 : AV) (q2 : AV) (q3 : AV) (q4 : AV) (q12 : AV) (h1 : Heap) : OutV := loopN (fun us g => k_emit_Count_b1 t10 t11 (us.getD 0 .bot) (us.getD 1 .bot) (us.getD 2 .bot) (us.getD 3 .bot) g) [q2, q3, q4, q12] h1
def k_emit_Count (x0 : AV) (h : Heap) : Option (AV × Heap) :=
  mk Heap.new (bxP x0) h fun t1 h0 =>
  (faP 4 t1).bind fun t9 =>
  (ldS h0 t9).bind fun t10 =>
  (lnL t10).bind fun t11 =>
  lp (k_emit_Count_L1 t10 t11 (AV.int .i64 0) (AV.int .i64 0) (AV.int .i64 0) (AV.int .i64 0) h0) fun e_71 vs_72 h73 =>
  thenK (if e_71 = .exit 0 then .normal else e_71) (
  some (AV.tup [(vs_72.getD 0 .bot), (vs_72.getD 1 .bot), (vs_72.getD 2 .bot)], h73)) (fun e_74 => endE e_74 (some (AV.tup [(vs_72.getD 0 .bot), (vs_72.getD 1 .bot), (vs_72.getD 2 .bot)], h73)))
def T42 : Tab := (6, p1 k_emit_Count) :: T41
/- 92: slices.IndexFunc[[]gantline/head.Shape,gantline/head.Shape] -/
def k_slices_IndexFunc_head_Shape_head_Shape_b0 (x0 : AV) (x1 : AV) (t7 : AV) (q4 : AV) (q8 : AV) (h0 : Heap) : OutV :=
  (binP .lss q8 t7).bind fun t9 =>
  condE t9 (
  (iaS 3 x0 q8).bind fun t14 =>
  (ldA 3 h0 t14).bind fun t15 =>
  clF (lookT T42) (cvP x1 [t15]) h0 fun t16 h1 =>
  condE t16 (
  some (.ret, [q8, q8], h1)) (
  (binP .add q8 (AV.int .i64 1)).bind fun t18 =>
  some (.normal, [q4, t18], h1))) (
  some ((.exit 0), [q4, q8], h0))
def k_slices_IndexFunc_head_Shape_head_Shape_L0 (x0 : AV) (x1 : AV) (t7 : AV) (q4 : AV) (q8 : AV) (h0 : Heap) : OutV := loopN (fun us g => k_slices_IndexFunc_head_Shape_head_Shape_b0 x0 x1 t7 (us.getD 0 .bot) (us.getD 1 .bot) g) [q4, q8] h0
def k_slices_IndexFunc_head_Shape_head_Shape (x0 : AV) (x1 : AV) (h : Heap) : Option (AV × Heap) :=
  (lnL x0).bind fun t7 =>
  lp (k_slices_IndexFunc_head_Shape_head_Shape_L0 x0 x1 t7 (AV.int .i64 0) (AV.int .i64 0) h) fun e vs h2 =>
  thenK (if e = .exit 0 then .normal else e) (
  some ((AV.int .i64 (-1)), h2)) (fun e_3 => endE e_3 (some ((vs.getD 0 .bot), h2)))
def T43 : Tab := (92, p2 k_slices_IndexFunc_head_Shape_head_Shape) :: T42
/- 76: slices.ContainsFunc[[]gantline/head.Shape,gantline/head.Shape] -/
def k_slices_ContainsFunc_head_Shape_head_Shape (x0 : AV) (x1 : AV) (h : Heap) : Option (AV × Heap) :=
  cl (k_slices_IndexFunc_head_Shape_head_Shape x0 x1 h) fun t7 h0 =>
  (binP .geq t7 (AV.int .i64 0)).bind fun t8 =>
  some (t8, h0)
def T44 : Tab := (76, p2 k_slices_ContainsFunc_head_Shape_head_Shape) :: T43
/- 93: slices.IndexFunc[[]int64,int64] -/
def k_slices_IndexFunc_int64_int64_b0 (x0 : AV) (x1 : AV) (t7 : AV) (q4 : AV) (q8 : AV) (h0 : Heap) : OutV :=
  (binP .lss q8 t7).bind fun t9 =>
  condE t9 (
  (iaS 1 x0 q8).bind fun t14 =>
  (ldS h0 t14).bind fun t15 =>
  clF (lookT T44) (cvP x1 [t15]) h0 fun t16 h1 =>
  condE t16 (
  some (.ret, [q8, q8], h1)) (
  (binP .add q8 (AV.int .i64 1)).bind fun t18 =>
  some (.normal, [q4, t18], h1))) (
  some ((.exit 0), [q4, q8], h0))
def k_slices_IndexFunc_int64_int64_L0 (x0 : AV) (x1 : AV) (t7 : AV) (q4 : AV) (q8 : AV) (h0 : Heap) : OutV := loopN (fun us g => k_slices_IndexFunc_int64_int64_b0 x0 x1 t7 (us.getD 0 .bot) (us.getD 1 .bot) g) [q4, q8] h0
def k_slices_IndexFunc_int64_int64 (x0 : AV) (x1 : AV) (h : Heap) : Option (AV × Heap) :=
  (lnL x0).bind fun t7 =>
  lp (k_slices_IndexFunc_int64_int64_L0 x0 x1 t7 (AV.int .i64 0) (AV.int .i64 0) h) fun e vs h2 =>
  thenK (if e = .exit 0 then .normal else e) (
  some ((AV.int .i64 (-1)), h2)) (fun e_3 => endE e_3 (some ((vs.getD 0 .bot), h2)))
def T45 : Tab := (93, p2 k_slices_IndexFunc_int64_int64) :: T44
/- 77: slices.ContainsFunc[[]int64,int64] -/
def k_slices_ContainsFunc_int64_int64 (x0 : AV) (x1 : AV) (h : Heap) : Option (AV × Heap) :=
  cl (k_slices_IndexFunc_int64_int64 x0 x1 h) fun t7 h0 =>
  (binP .geq t7 (AV.int .i64 0)).bind fun t8 =>
  some (t8, h0)
def T46 : Tab := (77, p2 k_slices_ContainsFunc_int64_int64) :: T45
/- 53: gantline/verify.module -/
def k_verify_module (x0 : AV) (h : Heap) : Option (AV × Heap) :=
  mk Heap.new (bxP x0) h fun t1 h0 =>
  (faP 0 t1).bind fun t7 =>
  (ldS h0 t7).bind fun t8 =>
  cl (k_slices_ContainsFunc_head_Shape_head_Shape t8 (AV.fn 72 [] []) h0) fun t10 h1 =>
  gQ (gdW t10 false) h1 ((faP 0 t1).bind fun t12 =>
  some (t12, h1)) fun t12_2 h3 =>
  gQ (gdW t10 false) h3 ((ldS h3 t12_2).bind fun t13 =>
  some (t13, h3)) fun t13_4 h5 =>
  gQ (gdW t10 false) h5 ((lnL t13_4).bind fun t14 =>
  some (t14, h5)) fun t14_6 h7 =>
  gQ (gdW t10 false) h7 ((binP .gtr t14_6 (AV.int .i64 1024)).bind fun t15 =>
  some (t15, h7)) fun t15_8 h9 =>
  (pickP t10 (AV.bool true) t15_8).bind fun t16 =>
  gQ (gdW t16 false) h9 ((faP 1 t1).bind fun t18 =>
  some (t18, h9)) fun t18_10 h11 =>
  gQ (gdW t16 false) h11 ((ldS h11 t18_10).bind fun t19 =>
  some (t19, h11)) fun t19_12 h13 =>
  gQ (gdW t16 false) h13 ((lnL t19_12).bind fun t20 =>
  some (t20, h13)) fun t20_14 h15 =>
  gQ (gdW t16 false) h15 ((binP .gtr t20_14 (AV.int .i64 256)).bind fun t21 =>
  some (t21, h15)) fun t21_16 h17 =>
  (pickP t16 (AV.bool true) t21_16).bind fun t22 =>
  gQ (gdW t22 false) h17 ((faP 2 t1).bind fun t24 =>
  some (t24, h17)) fun t24_18 h19 =>
  gQ (gdW t22 false) h19 ((ldS h19 t24_18).bind fun t25 =>
  some (t25, h19)) fun t25_20 h21 =>
  gQ (gdW t22 false) h21 ((lnL t25_20).bind fun t26 =>
  some (t26, h21)) fun t26_22 h23 =>
  gQ (gdW t22 false) h23 ((binP .gtr t26_22 (AV.int .i64 4096)).bind fun t27 =>
  some (t27, h23)) fun t27_24 h25 =>
  (pickP t22 (AV.bool true) t27_24).bind fun t28 =>
  gQ (gdW t28 false) h25 ((faP 2 t1).bind fun t30 =>
  some (t30, h25)) fun t30_26 h27 =>
  gQ (gdW t28 false) h27 ((ldS h27 t30_26).bind fun t31 =>
  some (t31, h27)) fun t31_28 h29 =>
  gQ (gdW t28 false) h29 (some ((AV.fn 74 [] []), h29)) fun t32 h30 =>
  gQ (gdW t28 false) h30 (cl (k_slices_ContainsFunc_int64_int64 t31_28 t32 h30) fun t33 h31 =>
  some (t33, h31)) fun t33_32 h33 =>
  (pickP t28 (AV.bool true) t33_32).bind fun t34 =>
  gQ (gdW t34 false) h33 ((faP 3 t1).bind fun t36 =>
  some (t36, h33)) fun t36_34 h35 =>
  gQ (gdW t34 false) h35 ((ldS h35 t36_34).bind fun t37 =>
  some (t37, h35)) fun t37_36 h37 =>
  gQ (gdW t34 false) h37 ((lnL t37_36).bind fun t38 =>
  some (t38, h37)) fun t38_38 h39 =>
  gQ (gdW t34 false) h39 ((binP .gtr t38_38 (AV.int .i64 1024)).bind fun t39 =>
  some (t39, h39)) fun t39_40 h41 =>
  (pickP t34 (AV.bool true) t39_40).bind fun t40 =>
  gQ (gdW t40 false) h41 ((faP 4 t1).bind fun t42 =>
  some (t42, h41)) fun t42_42 h43 =>
  gQ (gdW t40 false) h43 ((ldS h43 t42_42).bind fun t43 =>
  some (t43, h43)) fun t43_44 h45 =>
  gQ (gdW t40 false) h45 ((lnL t43_44).bind fun t44 =>
  some (t44, h45)) fun t44_46 h47 =>
  gQ (gdW t40 false) h47 ((binP .gtr t44_46 (AV.int .i64 128)).bind fun t45 =>
  some (t45, h47)) fun t45_48 h49 =>
  (pickP t40 (AV.bool true) t45_48).bind fun t46 =>
  gQ (gdW t46 false) h49 ((faP 4 t1).bind fun t48 =>
  some (t48, h49)) fun t48_50 h51 =>
  gQ (gdW t46 false) h51 ((ldS h51 t48_50).bind fun t49 =>
  some (t49, h51)) fun t49_52 h53 =>
  gQ (gdW t46 false) h53 ((lnL t49_52).bind fun t50 =>
  some (t50, h53)) fun t50_54 h55 =>
  gQ (gdW t46 false) h55 ((binP .lss t50_54 (AV.int .i64 1)).bind fun t51 =>
  some (t51, h55)) fun t51_56 h57 =>
  (pickP t46 (AV.bool true) t51_56).bind fun t52 =>
  condE t52 (
  some ((AV.int .i64 1), h57)) (
  (faP 5 t1).bind fun t54 =>
  (ldS h57 t54).bind fun t55 =>
  (binP .lss t55 (AV.int .i64 0)).bind fun t56 =>
  gQ (gdW t56 false) h57 ((faP 5 t1).bind fun t58 =>
  some (t58, h57)) fun t58_58 h59 =>
  gQ (gdW t56 false) h59 ((ldS h59 t58_58).bind fun t59 =>
  some (t59, h59)) fun t59_60 h61 =>
  gQ (gdW t56 false) h61 ((faP 4 t1).bind fun t60 =>
  some (t60, h61)) fun t60_62 h63 =>
  gQ (gdW t56 false) h63 ((ldS h63 t60_62).bind fun t61 =>
  some (t61, h63)) fun t61_64 h65 =>
  gQ (gdW t56 false) h65 ((lnL t61_64).bind fun t62 =>
  some (t62, h65)) fun t62_66 h67 =>
  gQ (gdW t56 false) h67 ((binP .geq t59_60 t62_66).bind fun t63 =>
  some (t63, h67)) fun t63_68 h69 =>
  (pickP t56 (AV.bool true) t63_68).bind fun t64 =>
  condE t64 (
  some ((AV.int .i64 2), h69)) (
  (faP 4 t1).bind fun t65 =>
  (ldS h69 t65).bind fun t66 =>
  (faP 5 t1).bind fun t67 =>
  (ldS h69 t67).bind fun t68 =>
  (iaS 7 t66 t68).bind fun t69 =>
  (ldA 7 h69 t69).bind fun t70 =>
  mk Heap.new (some (Blk.cells true [(AV.int .i64 0), (AV.int .i64 0), (AV.int .i64 0), (AV.int .i64 0), (AV.sl none 0 (.ex 0)), (AV.sl none 0 (.ex 0)), (AV.sl none 0 (.ex 0))], fun i => AV.ptr (some (i, 0)))) h69 fun t5 h70 =>
  cl (stP 7 h70 t5 t70) fun u h71 =>
  (faP 0 t5).bind fun t71 =>
  (ldS h71 t71).bind fun t72 =>
  (eqP (some (.int .i64)) none false .neq t72 (AV.int .i64 0)).bind fun t73 =>
  gQ (gdW t73 false) h71 ((faP 1 t5).bind fun t75 =>
  some (t75, h71)) fun t75_72 h73 =>
  gQ (gdW t73 false) h73 ((ldS h73 t75_72).bind fun t76 =>
  some (t76, h73)) fun t76_74 h75 =>
  gQ (gdW t73 false) h75 ((eqP (some (.int .i64)) none false .neq t76_74 (AV.int .i64 0)).bind fun t77 =>
  some (t77, h75)) fun t77_76 h77 =>
  (pickP t73 (AV.bool true) t77_76).bind fun t78 =>
  gQ (gdW t78 false) h77 ((faP 3 t5).bind fun t80 =>
  some (t80, h77)) fun t80_78 h79 =>
  gQ (gdW t78 false) h79 ((ldS h79 t80_78).bind fun t81 =>
  some (t81, h79)) fun t81_80 h81 =>
  gQ (gdW t78 false) h81 ((eqP (some (.int .i64)) none false .neq t81_80 (AV.int .i64 0)).bind fun t82 =>
  some (t82, h81)) fun t82_82 h83 =>
  (pickP t78 (AV.bool true) t82_82).bind fun t83 =>
  condE t83 (
  some ((AV.int .i64 2), h83)) (
  some ((AV.int .i64 0), h83))))
def T47 : Tab := (53, p1 k_verify_module) :: T46
/- 54: gantline/verify.whole -/
def k_verify_whole (x0 : AV) (h : Heap) : Option (AV × Heap) :=
  mk Heap.new (bxP x0) h fun t1 h0 =>
  (faP 5 t1).bind fun t4 =>
  (ldS h0 t4).bind fun t5 =>
  (lnL t5).bind fun t6 =>
  (faP 0 t1).bind fun t7 =>
  (ldS h0 t7).bind fun t8 =>
  (binP .geq t8 (AV.int .i64 0)).bind fun t9 =>
  gQ (gdW t9 true) h0 ((faP 1 t1).bind fun t11 =>
  some (t11, h0)) fun t11_1 h2 =>
  gQ (gdW t9 true) h2 ((ldS h2 t11_1).bind fun t12 =>
  some (t12, h2)) fun t12_3 h4 =>
  gQ (gdW t9 true) h4 ((binP .geq t12_3 (AV.int .i64 0)).bind fun t13 =>
  some (t13, h4)) fun t13_5 h6 =>
  (pickP t9 t13_5 (AV.bool false)).bind fun t14 =>
  gQ (gdW t14 true) h6 ((faP 1 t1).bind fun t16 =>
  some (t16, h6)) fun t16_7 h8 =>
  gQ (gdW t14 true) h8 ((ldS h8 t16_7).bind fun t17 =>
  some (t17, h8)) fun t17_9 h10 =>
  gQ (gdW t14 true) h10 ((binP .leq t17_9 (AV.int .i64 62)).bind fun t18 =>
  some (t18, h10)) fun t18_11 h12 =>
  (pickP t14 t18_11 (AV.bool false)).bind fun t19 =>
  gQ (gdW t19 true) h12 ((faP 2 t1).bind fun t21 =>
  some (t21, h12)) fun t21_13 h14 =>
  gQ (gdW t19 true) h14 ((ldS h14 t21_13).bind fun t22 =>
  some (t22, h14)) fun t22_15 h16 =>
  gQ (gdW t19 true) h16 ((binP .geq t22_15 (AV.int .i64 0)).bind fun t23 =>
  some (t23, h16)) fun t23_17 h18 =>
  (pickP t19 t23_17 (AV.bool false)).bind fun t24 =>
  gQ (gdW t24 true) h18 ((faP 2 t1).bind fun t26 =>
  some (t26, h18)) fun t26_19 h20 =>
  gQ (gdW t24 true) h20 ((ldS h20 t26_19).bind fun t27 =>
  some (t27, h20)) fun t27_21 h22 =>
  gQ (gdW t24 true) h22 ((binP .leq t27_21 (AV.int .i64 64)).bind fun t28 =>
  some (t28, h22)) fun t28_23 h24 =>
  (pickP t24 t28_23 (AV.bool false)).bind fun t29 =>
  gQ (gdW t29 true) h24 ((faP 0 t1).bind fun t31 =>
  some (t31, h24)) fun t31_25 h26 =>
  gQ (gdW t29 true) h26 ((ldS h26 t31_25).bind fun t32 =>
  some (t32, h26)) fun t32_27 h28 =>
  gQ (gdW t29 true) h28 ((faP 2 t1).bind fun t33 =>
  some (t33, h28)) fun t33_29 h30 =>
  gQ (gdW t29 true) h30 ((ldS h30 t33_29).bind fun t34 =>
  some (t34, h30)) fun t34_31 h32 =>
  gQ (gdW t29 true) h32 ((binP .leq t32_27 t34_31).bind fun t35 =>
  some (t35, h32)) fun t35_33 h34 =>
  (pickP t29 t35_33 (AV.bool false)).bind fun t36 =>
  gQ (gdW t36 true) h34 ((faP 1 t1).bind fun t38 =>
  some (t38, h34)) fun t38_35 h36 =>
  gQ (gdW t36 true) h36 ((ldS h36 t38_35).bind fun t39 =>
  some (t39, h36)) fun t39_37 h38 =>
  gQ (gdW t36 true) h38 ((faP 2 t1).bind fun t40 =>
  some (t40, h38)) fun t40_39 h40 =>
  gQ (gdW t36 true) h40 ((ldS h40 t40_39).bind fun t41 =>
  some (t41, h40)) fun t41_41 h42 =>
  gQ (gdW t36 true) h42 ((faP 0 t1).bind fun t42 =>
  some (t42, h42)) fun t42_43 h44 =>
  gQ (gdW t36 true) h44 ((ldS h44 t42_43).bind fun t43 =>
  some (t43, h44)) fun t43_45 h46 =>
  gQ (gdW t36 true) h46 ((binP .sub t41_41 t43_45).bind fun t44 =>
  some (t44, h46)) fun t44_47 h48 =>
  gQ (gdW t36 true) h48 ((binP .leq t39_37 t44_47).bind fun t45 =>
  some (t45, h48)) fun t45_49 h50 =>
  (pickP t36 t45_49 (AV.bool false)).bind fun t46 =>
  gQ (gdW t46 true) h50 ((faP 4 t1).bind fun t48 =>
  some (t48, h50)) fun t48_51 h52 =>
  gQ (gdW t46 true) h52 ((ldS h52 t48_51).bind fun t49 =>
  some (t49, h52)) fun t49_53 h54 =>
  gQ (gdW t46 true) h54 ((lnL t49_53).bind fun t50 =>
  some (t50, h54)) fun t50_55 h56 =>
  gQ (gdW t46 true) h56 ((faP 2 t1).bind fun t51 =>
  some (t51, h56)) fun t51_57 h58 =>
  gQ (gdW t46 true) h58 ((ldS h58 t51_57).bind fun t52 =>
  some (t52, h58)) fun t52_59 h60 =>
  gQ (gdW t46 true) h60 ((eqP (some (.int .i64)) none false .eql t50_55 t52_59).bind fun t53 =>
  some (t53, h60)) fun t53_61 h62 =>
  (pickP t46 t53_61 (AV.bool false)).bind fun t54 =>
  gQ (gdW t54 true) h62 ((faP 3 t1).bind fun t56 =>
  some (t56, h62)) fun t56_63 h64 =>
  gQ (gdW t54 true) h64 ((ldS h64 t56_63).bind fun t57 =>
  some (t57, h64)) fun t57_65 h66 =>
  gQ (gdW t54 true) h66 ((binP .geq t57_65 (AV.int .i64 0)).bind fun t58 =>
  some (t58, h66)) fun t58_67 h68 =>
  (pickP t54 t58_67 (AV.bool false)).bind fun t59 =>
  gQ (gdW t59 true) h68 ((faP 3 t1).bind fun t61 =>
  some (t61, h68)) fun t61_69 h70 =>
  gQ (gdW t59 true) h70 ((ldS h70 t61_69).bind fun t62 =>
  some (t62, h70)) fun t62_71 h72 =>
  gQ (gdW t59 true) h72 ((binP .leq t62_71 (AV.int .i64 2)).bind fun t63 =>
  some (t63, h72)) fun t63_73 h74 =>
  (pickP t59 t63_73 (AV.bool false)).bind fun t64 =>
  gQ (gdW t64 true) h74 (some (t6, h74)) fun t66 h75 =>
  gQ (gdW t64 true) h75 ((binP .geq t66 (AV.int .i64 1)).bind fun t67 =>
  some (t67, h75)) fun t67_76 h77 =>
  (pickP t64 t67_76 (AV.bool false)).bind fun t68 =>
  gQ (gdW t68 true) h77 (some (t6, h77)) fun t70 h78 =>
  gQ (gdW t68 true) h78 ((binP .leq t70 (AV.int .i64 4096)).bind fun t71 =>
  some (t71, h78)) fun t71_79 h80 =>
  (pickP t68 t71_79 (AV.bool false)).bind fun t72 =>
  gQ (gdW t72 true) h80 ((faP 6 t1).bind fun t74 =>
  some (t74, h80)) fun t74_81 h82 =>
  gQ (gdW t72 true) h82 ((ldS h82 t74_81).bind fun t75 =>
  some (t75, h82)) fun t75_83 h84 =>
  gQ (gdW t72 true) h84 ((lnL t75_83).bind fun t76 =>
  some (t76, h84)) fun t76_85 h86 =>
  gQ (gdW t72 true) h86 (some (t6, h86)) fun t77 h87 =>
  gQ (gdW t72 true) h87 ((eqP (some (.int .i64)) none false .eql t76_85 t77).bind fun t78 =>
  some (t78, h87)) fun t78_88 h89 =>
  (pickP t72 t78_88 (AV.bool false)).bind fun t79 =>
  some (t79, h89)
def T48 : Tab := (54, p1 k_verify_whole) :: T47
/- 86: gantline/live.fn -/
def k_live_fn (x0 : AV) (x1 : AV) (h : Heap) : Option (AV × Heap) :=
  mk Heap.new (bxP x0) h fun t2 h0 =>
  mk Heap.new (some (Blk.cells true [(AV.int .i64 0), (AV.int .i64 0), (AV.int .i64 0), (AV.int .i64 0), (AV.sl none 0 (.ex 0)), (AV.sl none 0 (.ex 0)), (AV.sl none 0 (.ex 0))], fun i => AV.ptr (some (i, 0)))) h0 fun t4 h1 =>
  (binP .lss x1 (AV.int .i64 0)).bind fun t6 =>
  gQ (gdW t6 false) h1 (some (x1, h1)) fun t8 h2 =>
  gQ (gdW t6 false) h2 ((faP 4 t2).bind fun t9 =>
  some (t9, h2)) fun t9_3 h4 =>
  gQ (gdW t6 false) h4 ((ldS h4 t9_3).bind fun t10 =>
  some (t10, h4)) fun t10_5 h6 =>
  gQ (gdW t6 false) h6 ((lnL t10_5).bind fun t11 =>
  some (t11, h6)) fun t11_7 h8 =>
  gQ (gdW t6 false) h8 ((binP .geq t8 t11_7).bind fun t12 =>
  some (t12, h8)) fun t12_9 h10 =>
  (pickP t6 (AV.bool true) t12_9).bind fun t13 =>
  condE t13 (
  (bldS [(0, 1), (1, 1), (2, 1), (3, 1), (4, 1), (5, 1), (6, 1)] [(AV.int .i64 0), (AV.int .i64 0), (AV.int .i64 0), (AV.int .i64 0), (AV.sl none 0 (.ex 0)), (AV.sl none 0 (.ex 0)), (AV.sl none 0 (.ex 0))] []).bind fun t14 =>
  cl (stP 7 h10 t4 t14) fun u h11 =>
  (ldA 7 h11 t4).bind fun t =>
  some (t, h11)) (
  (faP 4 t2).bind fun t15 =>
  (ldS h10 t15).bind fun t16 =>
  (iaS 7 t16 x1).bind fun t18 =>
  (ldA 7 h10 t18).bind fun t19 =>
  cl (stP 7 h10 t4 t19) fun u_12 h13 =>
  (ldA 7 h13 t4).bind fun t_14 =>
  some (t_14, h13))
def T49 : Tab := (86, p2 k_live_fn) :: T48
/- 85: gantline/live.run -/
def k_live_run_b0 (x0 : AV) (x1 : AV) (q5_1 : AV) (q10_2 : AV) (h3 : Heap) : OutV :=
  (binP .lss q10_2 x1).bind fun t11 =>
  condE t11 (
  (binP .add x0 q10_2).bind fun t16 =>
  mk Heap.new (bsP 1 [(AV.int .i64 0)] 1 [(0, t16)]) h3 fun t17 h4 =>
  cl (appendA h4 1 8 q5_1 t17) fun t18 h5 =>
  (binP .add q10_2 (AV.int .i64 1)).bind fun t19 =>
  some (.normal, [t18, t19], h5)) (
  some ((.exit 0), [q5_1, q10_2], h3))
def k_live_run_L0 (x0 : AV) (x1 : AV) (q5_1 : AV) (q10_2 : AV) (h3 : Heap) : OutV := loopN (fun us g => k_live_run_b0 x0 x1 (us.getD 0 .bot) (us.getD 1 .bot) g) [q5_1, q10_2] h3
def k_live_run (x0 : AV) (x1 : AV) (h : Heap) : Option (AV × Heap) :=
  (binP .leq x1 (AV.int .i64 64)).bind fun t8 =>
  condE t8 (
  lp (k_live_run_L0 x0 x1 (AV.sl none 0 (.ex 0)) (AV.int .i64 0) h) fun e vs h6 =>
  thenK (if e = .exit 0 then .normal else e) (
  some ((vs.getD 0 .bot), h6)) (fun e_7 => endE e_7 (some ((AV.sl none 0 (.ex 0)), h6)))) (
  some ((AV.sl none 0 (.ex 0)), h))
def T50 : Tab := (85, p2 k_live_run) :: T49
/- 87: gantline/live.given -/
def k_live_given (x0 : AV) (h : Heap) : Option (AV × Heap) :=
  cl (k_slices_DeleteFunc_int_int x0 (AV.fn 110 [] []) h) fun t4 h0 =>
  some (t4, h0)
def T51 : Tab := (87, p1 k_live_given) :: T50
/- 88: gantline/live.readsOf -/
def k_live_readsOf_j0 (q8 : AV) (t5 : AV) (q3_10 : AV) (h11 : Heap) : OutV :=
  (faP 0 t5).bind fun t20 =>
  (ldS h11 t20).bind fun t21 =>
  (eqP (some (.int .i64)) none false .eql t21 (AV.int .i64 1)).bind fun t22 =>
  condE t22 (
  (faP 2 t5).bind fun t24 =>
  (ldS h11 t24).bind fun t25 =>
  mk Heap.new (bsP 1 [(AV.int .i64 0)] 1 [(0, t25)]) h11 fun t26 h20 =>
  cl (appendA h20 1 8 q3_10 t26) fun t27 h21 =>
  (binP .add q8 (AV.int .i64 1)).bind fun t28_22 =>
  some (.normal, [t27, t28_22], h21)) (
  (binP .add q8 (AV.int .i64 1)).bind fun t28_23 =>
  some (.normal, [q3_10, t28_23], h11))
def k_live_readsOf_b0 (x0 : AV) (t7 : AV) (q3 : AV) (q8 : AV) (h0 : Heap) : OutV :=
  (binP .lss q8 t7).bind fun t9 =>
  condE t9 (
  (iaS 4 x0 q8).bind fun t10 =>
  (ldA 4 h0 t10).bind fun t11 =>
  mk Heap.new (some (Blk.cells true [(AV.int .i64 0), (AV.int .i64 0), (AV.int .i64 0), (AV.int .i64 0)], fun i => AV.ptr (some (i, 0)))) h0 fun t5 h3 =>
  cl (stP 4 h3 t5 t11) fun u h4 =>
  (faP 0 t5).bind fun t12 =>
  (ldS h4 t12).bind fun t13 =>
  (eqP (some (.int .i64)) none false .neq t13 (AV.int .i64 2)).bind fun t14 =>
  condE t14 (
  (faP 1 t5).bind fun t16 =>
  (ldS h4 t16).bind fun t17 =>
  mk Heap.new (bsP 1 [(AV.int .i64 0)] 1 [(0, t17)]) h4 fun t18 h24 =>
  cl (appendA h24 1 8 q3 t18) fun t19 h25 =>
  k_live_readsOf_j0 q8 t5 t19 h25) (
  k_live_readsOf_j0 q8 t5 q3 h4)) (
  some ((.exit 0), [q3, q8], h0))
def k_live_readsOf_L0 (x0 : AV) (t7 : AV) (q3 : AV) (q8 : AV) (h0 : Heap) : OutV := loopN (fun us g => k_live_readsOf_b0 x0 t7 (us.getD 0 .bot) (us.getD 1 .bot) g) [q3, q8] h0
def k_live_readsOf (x0 : AV) (h : Heap) : Option (AV × Heap) :=
  (lnL x0).bind fun t7 =>
  lp (k_live_readsOf_L0 x0 t7 (AV.sl none 0 (.ex 0)) (AV.int .i64 0) h) fun e vs h26 =>
  thenK (if e = .exit 0 then .normal else e) (
  some ((vs.getD 0 .bot), h26)) (fun e_27 => endE e_27 (some ((AV.sl none 0 (.ex 0)), h26)))
def T52 : Tab := (88, p1 k_live_readsOf) :: T51
/- 59: gantline/live.Reads -/
def k_live_Reads (x0 : AV) (x1 : AV) (h : Heap) : Option (AV × Heap) :=
  mk Heap.new (bxP x0) h fun t2 h0 =>
  mk Heap.new (bxP x1) h0 fun t3 h1 =>
  (faP 0 t3).bind fun t6 =>
  (ldS h1 t6).bind fun t7 =>
  (eqP (some (.int .i64)) none false .eql t7 (AV.int .i64 1)).bind fun t10 =>
  gQ (gdW t10 false) h1 (some (t7, h1)) fun t12 h2 =>
  gQ (gdW t10 false) h2 ((eqP (some (.int .i64)) none false .eql t12 (AV.int .i64 17)).bind fun t13 =>
  some (t13, h2)) fun t13_3 h4 =>
  (pickP t10 (AV.bool true) t13_3).bind fun t14 =>
  gQ (gdW t14 false) h4 (some (t7, h4)) fun t16 h5 =>
  gQ (gdW t14 false) h5 ((eqP (some (.int .i64)) none false .eql t16 (AV.int .i64 33)).bind fun t17 =>
  some (t17, h5)) fun t17_6 h7 =>
  (pickP t14 (AV.bool true) t17_6).bind fun t18 =>
  gQ (gdW t18 false) h7 (some (t7, h7)) fun t20 h8 =>
  gQ (gdW t18 false) h8 ((eqP (some (.int .i64)) none false .eql t20 (AV.int .i64 35)).bind fun t21 =>
  some (t21, h8)) fun t21_9 h10 =>
  (pickP t18 (AV.bool true) t21_9).bind fun t22 =>
  gQ (gdW t22 false) h10 (some (t7, h10)) fun t24 h11 =>
  gQ (gdW t22 false) h11 ((eqP (some (.int .i64)) none false .eql t24 (AV.int .i64 27)).bind fun t25 =>
  some (t25, h11)) fun t25_12 h13 =>
  (pickP t22 (AV.bool true) t25_12).bind fun t26 =>
  gQ (gdW t26 false) h13 (some (t7, h13)) fun t28 h14 =>
  gQ (gdW t26 false) h14 ((eqP (some (.int .i64)) none false .eql t28 (AV.int .i64 39)).bind fun t29 =>
  some (t29, h14)) fun t29_15 h16 =>
  (pickP t26 (AV.bool true) t29_15).bind fun t30 =>
  condE t30 (
  (faP 2 t3).bind fun t31 =>
  (ldS h16 t31).bind fun t32 =>
  mk Heap.new (bsP 1 [(AV.int .i64 0)] 1 [(0, t32)]) h16 fun t33 h17 =>
  some (t33, h17)) (
  (binP .geq t7 (AV.int .i64 3)).bind fun t36 =>
  gQ (gdW t36 true) h16 (some (t7, h16)) fun t38 h18 =>
  gQ (gdW t36 true) h18 ((binP .leq t38 (AV.int .i64 16)).bind fun t39 =>
  some (t39, h18)) fun t39_19 h20 =>
  (pickP t36 t39_19 (AV.bool false)).bind fun t40 =>
  gQ (gdW t40 false) h20 (some (t7, h20)) fun t42 h21 =>
  gQ (gdW t40 false) h21 ((eqP (some (.int .i64)) none false .eql t42 (AV.int .i64 30)).bind fun t43 =>
  some (t43, h21)) fun t43_22 h23 =>
  (pickP t40 (AV.bool true) t43_22).bind fun t44 =>
  condE t44 (
  (faP 2 t3).bind fun t45 =>
  (ldS h23 t45).bind fun t46 =>
  (faP 3 t3).bind fun t47 =>
  (ldS h23 t47).bind fun t48 =>
  mk Heap.new (bsP 1 [(AV.int .i64 0)] 2 [(0, t46), (1, t48)]) h23 fun t49 h24 =>
  some (t49, h24)) (
  (eqP (some (.int .i64)) none false .eql t7 (AV.int .i64 19)).bind fun t52 =>
  gQ (gdW t52 false) h23 (some (t7, h23)) fun t54 h25 =>
  gQ (gdW t52 false) h25 ((eqP (some (.int .i64)) none false .eql t54 (AV.int .i64 40)).bind fun t55 =>
  some (t55, h25)) fun t55_26 h27 =>
  (pickP t52 (AV.bool true) t55_26).bind fun t56 =>
  gQ (gdW t56 false) h27 (some (t7, h27)) fun t58 h28 =>
  gQ (gdW t56 false) h28 ((eqP (some (.int .i64)) none false .eql t58 (AV.int .i64 42)).bind fun t59 =>
  some (t59, h28)) fun t59_29 h30 =>
  (pickP t56 (AV.bool true) t59_29).bind fun t60 =>
  condE t60 (
  (faP 1 t3).bind fun t61 =>
  (ldS h30 t61).bind fun t62 =>
  mk Heap.new (bsP 1 [(AV.int .i64 0)] 1 [(0, t62)]) h30 fun t63 h31 =>
  some (t63, h31)) (
  (eqP (some (.int .i64)) none false .eql t7 (AV.int .i64 20)).bind fun t66 =>
  condE t66 (
  (faP 3 t3).bind fun t67 =>
  clC (rdC (fun g => ldS g t67) h30 0 1 []) fun t68 cs =>
  (ldA 6 h30 t2).bind fun t69 =>
  (faP 2 t3).bind fun t70 =>
  (ldS h30 t70).bind fun t71 =>
  cl (k_live_fn t69 t71 h30) fun t72 h32 =>
  (fvS 0 t72).bind fun t73 =>
  cl (k_live_run t68 t73 h32) fun t74 h33 =>
  chk [h30, h32, h33] cs (
  some (t74, h33))) (
  (eqP (some (.int .i64)) none false .eql t7 (AV.int .i64 21)).bind fun t77 =>
  condE t77 (
  (faP 2 t3).bind fun t78 =>
  clC (rdC (fun g => ldS g t78) (hpN h30 1) 0 1 []) fun t79 cs_34 =>
  (faP 3 t3).bind fun t81 =>
  (ldS (hpN h30 1) t81).bind fun t82 =>
  (faP 4 t3).bind fun t83 =>
  (ldS (hpN h30 1) t83).bind fun t84 =>
  cl (k_live_run t82 t84 (hpN h30 1)) fun t85 h35 =>
  cl (mkAt Heap.put (bsP 1 [(AV.int .i64 0)] 1 [(0, t79)]) (h30.next + 0) h35) fun t80 h36 =>
  cl (appendA h36 1 8 t80 t85) fun t86 h37 =>
  chk [(hpN h30 1), h35, h37] cs_34 (
  some (t86, h37))) (
  (eqP (some (.int .i64)) none false .eql t7 (AV.int .i64 22)).bind fun t89 =>
  condE t89 (
  (faP 1 t3).bind fun t90 =>
  (ldS h30 t90).bind fun t91 =>
  mk Heap.new (bsP 1 [(AV.int .i64 0)] 1 [(0, t91)]) h30 fun t92 h38 =>
  cl (k_live_given t92 h38) fun t93 h39 =>
  some (t93, h39)) (
  (eqP (some (.int .i64)) none false .eql t7 (AV.int .i64 23)).bind fun t96 =>
  condE t96 (
  (faP 2 t3).bind fun t97 =>
  clC (rdC (fun g => ldS g t97) h30 0 1 []) fun t98 cs_40 =>
  (ldA 6 h30 t2).bind fun t99 =>
  (faP 1 t3).bind fun t100 =>
  (ldS h30 t100).bind fun t101 =>
  cl (k_live_fn t99 t101 h30) fun t102 h41 =>
  (fvS 0 t102).bind fun t103 =>
  cl (k_live_run t98 t103 h41) fun t104 h42 =>
  chk [h30, h41, h42] cs_40 (
  some (t104, h42))) (
  (eqP (some (.int .i64)) none false .eql t7 (AV.int .i64 24)).bind fun t107 =>
  condE t107 (
  (faP 1 t3).bind fun t108 =>
  clC (rdC (fun g => ldS g t108) (hpN h30 1) 0 1 []) fun t109 cs_43 =>
  (faP 2 t3).bind fun t111 =>
  (ldS (hpN h30 1) t111).bind fun t112 =>
  (faP 3 t3).bind fun t113 =>
  (ldS (hpN h30 1) t113).bind fun t114 =>
  cl (k_live_run t112 t114 (hpN h30 1)) fun t115 h44 =>
  cl (mkAt Heap.put (bsP 1 [(AV.int .i64 0)] 1 [(0, t109)]) (h30.next + 0) h44) fun t110 h45 =>
  cl (appendA h45 1 8 t110 t115) fun t116 h46 =>
  chk [(hpN h30 1), h44, h46] cs_43 (
  some (t116, h46))) (
  (eqP (some (.int .i64)) none false .eql t7 (AV.int .i64 26)).bind fun t119 =>
  gQ (gdW t119 false) h30 (some (t7, h30)) fun t121 h47 =>
  gQ (gdW t119 false) h47 ((eqP (some (.int .i64)) none false .eql t121 (AV.int .i64 37)).bind fun t122 =>
  some (t122, h47)) fun t122_48 h49 =>
  (pickP t119 (AV.bool true) t122_48).bind fun t123 =>
  condE t123 (
  (faP 3 t3).bind fun t124 =>
  (ldS h49 t124).bind fun t125 =>
  mk Heap.new (bsP 1 [(AV.int .i64 0)] 1 [(0, t125)]) h49 fun t126 h50 =>
  some (t126, h50)) (
  (eqP (some (.int .i64)) none false .eql t7 (AV.int .i64 28)).bind fun t129 =>
  gQ (gdW t129 false) h49 (some (t7, h49)) fun t131 h51 =>
  gQ (gdW t129 false) h51 ((eqP (some (.int .i64)) none false .eql t131 (AV.int .i64 29)).bind fun t132 =>
  some (t132, h51)) fun t132_52 h53 =>
  (pickP t129 (AV.bool true) t132_52).bind fun t133 =>
  condE t133 (
  (faP 1 t3).bind fun t134 =>
  (ldS h53 t134).bind fun t135 =>
  (faP 3 t3).bind fun t136 =>
  (ldS h53 t136).bind fun t137 =>
  mk Heap.new (bsP 1 [(AV.int .i64 0)] 2 [(0, t135), (1, t137)]) h53 fun t138 h54 =>
  some (t138, h54)) (
  (eqP (some (.int .i64)) none false .eql t7 (AV.int .i64 31)).bind fun t141 =>
  gQ (gdW t141 false) h53 (some (t7, h53)) fun t143 h55 =>
  gQ (gdW t141 false) h55 ((eqP (some (.int .i64)) none false .eql t143 (AV.int .i64 32)).bind fun t144 =>
  some (t144, h55)) fun t144_56 h57 =>
  (pickP t141 (AV.bool true) t144_56).bind fun t145 =>
  condE t145 (
  (faP 1 t3).bind fun t146 =>
  (ldS h57 t146).bind fun t147 =>
  (faP 2 t3).bind fun t148 =>
  (ldS h57 t148).bind fun t149 =>
  (faP 3 t3).bind fun t150 =>
  (ldS h57 t150).bind fun t151 =>
  mk Heap.new (bsP 1 [(AV.int .i64 0)] 3 [(0, t147), (1, t149), (2, t151)]) h57 fun t152 h58 =>
  some (t152, h58)) (
  (eqP (some (.int .i64)) none false .eql t7 (AV.int .i64 36)).bind fun t155 =>
  condE t155 (
  (faP 3 t3).bind fun t156 =>
  clC (rdC (fun g => ldS g t156) h57 0 1 []) fun t157 cs_59 =>
  (ldA 6 h57 t2).bind fun t158 =>
  (faP 2 t3).bind fun t159 =>
  (ldS h57 t159).bind fun t160 =>
  cl (k_live_fn t158 t160 h57) fun t161 h60 =>
  (fvS 1 t161).bind fun t162 =>
  cl (k_live_run t157 t162 h60) fun t163 h61 =>
  chk [h57, h60, h61] cs_59 (
  some (t163, h61))) (
  (eqP (some (.int .i64)) none false .eql t7 (AV.int .i64 38)).bind fun t166 =>
  condE t166 (
  (faP 1 t3).bind fun t167 =>
  (ldS h57 t167).bind fun t168 =>
  (faP 2 t3).bind fun t169 =>
  (ldS h57 t169).bind fun t170 =>
  mk Heap.new (bsP 1 [(AV.int .i64 0)] 2 [(0, t168), (1, t170)]) h57 fun t171 h62 =>
  some (t171, h62)) (
  (eqP (some (.int .i64)) none false .eql t7 (AV.int .i64 41)).bind fun t174 =>
  condE t174 (
  (ldA 6 h57 t2).bind fun t175 =>
  (ldA 5 h57 t3).bind fun t176 =>
  cl (k_live_cases t175 t176 h57) fun t177 h63 =>
  cl (k_live_readsOf t177 h63) fun t178 h64 =>
  some (t178, h64)) (
  some ((AV.sl none 0 (.ex 0)), h57)))))))))))))))
def T53 : Tab := (59, p2 k_live_Reads) :: T52
/- 63: gantline/live.Writes -/
def k_live_Writes (x0 : AV) (h : Heap) : Option (AV × Heap) :=
  mk Heap.new (bxP x0) h fun t1 h0 =>
  (faP 0 t1).bind fun t4 =>
  (ldS h0 t4).bind fun t5 =>
  (binP .geq t5 (AV.int .i64 0)).bind fun t8 =>
  gQ (gdW t8 true) h0 (some (t5, h0)) fun t10 h1 =>
  gQ (gdW t8 true) h1 ((binP .leq t10 (AV.int .i64 17)).bind fun t11 =>
  some (t11, h1)) fun t11_2 h3 =>
  (pickP t8 t11_2 (AV.bool false)).bind fun t12 =>
  gQ (gdW t12 false) h3 (some (t5, h3)) fun t14 h4 =>
  gQ (gdW t12 false) h4 ((binP .geq t14 (AV.int .i64 25)).bind fun t15 =>
  some (t15, h4)) fun t15_5 h6 =>
  gQ (gdW t12 false) h6 (some (t15_5, h6)) fun t16 h7 =>
  gQ (gdW t16 true) h7 (some (t5, h7)) fun t17 h8 =>
  gQ (gdW t16 true) h8 ((binP .leq t17 (AV.int .i64 27)).bind fun t18 =>
  some (t18, h8)) fun t18_9 h10 =>
  gQ (gdW t12 false) h10 ((pickP t16 t18_9 (AV.bool false)).bind fun t19 =>
  some (t19, h10)) fun t19_11 h12 =>
  (pickP t12 (AV.bool true) t19_11).bind fun t20 =>
  gQ (gdW t20 false) h12 (some (t5, h12)) fun t22 h13 =>
  gQ (gdW t20 false) h13 ((eqP (some (.int .i64)) none false .eql t22 (AV.int .i64 30)).bind fun t23 =>
  some (t23, h13)) fun t23_14 h15 =>
  (pickP t20 (AV.bool true) t23_14).bind fun t24 =>
  gQ (gdW t24 false) h15 (some (t5, h15)) fun t26 h16 =>
  gQ (gdW t24 false) h16 ((eqP (some (.int .i64)) none false .eql t26 (AV.int .i64 33)).bind fun t27 =>
  some (t27, h16)) fun t27_17 h18 =>
  (pickP t24 (AV.bool true) t27_17).bind fun t28 =>
  gQ (gdW t28 false) h18 (some (t5, h18)) fun t30 h19 =>
  gQ (gdW t28 false) h19 ((eqP (some (.int .i64)) none false .eql t30 (AV.int .i64 34)).bind fun t31 =>
  some (t31, h19)) fun t31_20 h21 =>
  (pickP t28 (AV.bool true) t31_20).bind fun t32 =>
  gQ (gdW t32 false) h21 (some (t5, h21)) fun t34 h22 =>
  gQ (gdW t32 false) h22 ((eqP (some (.int .i64)) none false .eql t34 (AV.int .i64 36)).bind fun t35 =>
  some (t35, h22)) fun t35_23 h24 =>
  (pickP t32 (AV.bool true) t35_23).bind fun t36 =>
  gQ (gdW t36 false) h24 (some (t5, h24)) fun t38 h25 =>
  gQ (gdW t36 false) h25 ((eqP (some (.int .i64)) none false .eql t38 (AV.int .i64 37)).bind fun t39 =>
  some (t39, h25)) fun t39_26 h27 =>
  (pickP t36 (AV.bool true) t39_26).bind fun t40 =>
  condE t40 (
  (faP 1 t1).bind fun t41 =>
  (ldS h27 t41).bind fun t42 =>
  mk Heap.new (bsP 1 [(AV.int .i64 0)] 1 [(0, t42)]) h27 fun t43 h28 =>
  some (t43, h28)) (
  (eqP (some (.int .i64)) none false .eql t5 (AV.int .i64 20)).bind fun t46 =>
  gQ (gdW t46 false) h27 (some (t5, h27)) fun t48 h29 =>
  gQ (gdW t46 false) h29 ((eqP (some (.int .i64)) none false .eql t48 (AV.int .i64 21)).bind fun t49 =>
  some (t49, h29)) fun t49_30 h31 =>
  (pickP t46 (AV.bool true) t49_30).bind fun t50 =>
  condE t50 (
  (faP 1 t1).bind fun t51 =>
  (ldS h31 t51).bind fun t52 =>
  mk Heap.new (bsP 1 [(AV.int .i64 0)] 1 [(0, t52)]) h31 fun t53 h32 =>
  cl (k_live_given t53 h32) fun t54 h33 =>
  some (t54, h33)) (
  (eqP (some (.int .i64)) none false .eql t5 (AV.int .i64 39)).bind fun t57 =>
  condE t57 (
  (faP 1 t1).bind fun t58 =>
  (ldS h31 t58).bind fun t59 =>
  (faP 3 t1).bind fun t60 =>
  (ldS h31 t60).bind fun t61 =>
  mk Heap.new (bsP 1 [(AV.int .i64 0)] 2 [(0, t59), (1, t61)]) h31 fun t62 h34 =>
  cl (k_live_given t62 h34) fun t63 h35 =>
  some (t63, h35)) (
  some ((AV.sl none 0 (.ex 0)), h31))))
def T54 : Tab := (63, p1 k_live_Writes) :: T53
/- 52: gantline/live.Sets -/
def k_live_Sets_b0 (t2 : AV) (t3 : AV) (t5 : AV) (q7_6 : AV) (q8 : AV) (h7 : Heap) : OutV :=
  (binP .geq q8 (AV.int .i64 0)).bind fun t22 =>
  condE t22 (
  (faP 5 t3).bind fun t25 =>
  (ldS h7 t25).bind fun t26 =>
  (iaS 5 t26 q8).bind fun t28 =>
  (ldA 5 h7 t28).bind fun t29 =>
  mk Heap.new (some (Blk.cells true [(AV.int .i64 0), (AV.int .i64 0), (AV.int .i64 0), (AV.int .i64 0), (AV.int .i64 0)], fun i => AV.ptr (some (i, 0)))) h7 fun t9 h10 =>
  cl (stP 5 h10 t9 t29) fun u_11 h12 =>
  (ldA 6 h12 t2).bind fun t30 =>
  (ldA 5 h12 t9).bind fun t31 =>
  cl (k_live_Reads t30 t31 h12) fun t32 h13 =>
  cl (k_live_bitsOf t32 h13) fun t33 h14 =>
  clF (lookT T54) (cvP (AV.fn 70 [] [t3, t2, t5]) [q8]) h14 fun t36 h15 =>
  clC (rdC (fun g => ldA 5 g t9) h15 0 3 []) fun t37 cs =>
  cl (k_live_Writes t37 h15) fun t38 h16 =>
  cl (k_live_bitsOf t38 h16) fun t39 h17 =>
  (binP .andNot t36 t39).bind fun t40 =>
  (binP .or t33 t40).bind fun t41 =>
  chk [h12, h13, h14, h15, h16, h17] cs (
  (ldS h17 t5).bind fun t43 =>
  (iaS 1 t43 q8).bind fun t45 =>
  (ldS h17 t45).bind fun t46 =>
  (eqP (some (.int .u64)) none false .neq t41 t46).bind fun t47 =>
  condE t47 (
  (ldS h17 t5).bind fun t48 =>
  (iaS 1 t48 q8).bind fun t51 =>
  cl (stP 1 h17 t51 t41) fun u_25 h26 =>
  (binP .sub q8 (AV.int .i64 1)).bind fun t24_27 =>
  some (.normal, [(AV.bool true), t24_27], h26)) (
  (binP .sub q8 (AV.int .i64 1)).bind fun t24_28 =>
  some (.normal, [q7_6, t24_28], h17)))) (
  some ((.exit 2), [q7_6, q8], h7))
def k_live_Sets_L0 (t2 : AV) (t3 : AV) (t5 : AV) (q7_6 : AV) (q8 : AV) (h7 : Heap) : OutV := loopN (fun us g => k_live_Sets_b0 t2 t3 t5 (us.getD 0 .bot) (us.getD 1 .bot) g) [q7_6, q8] h7
def k_live_Sets_b1 (t2 : AV) (t3 : AV) (t5 : AV) (q7 : AV) (h5 : Heap) : OutV :=
  condE q7 (
  (faP 5 t3).bind fun t17 =>
  (ldS h5 t17).bind fun t18 =>
  (lnL t18).bind fun t19 =>
  (binP .sub t19 (AV.int .i64 1)).bind fun t20 =>
  lp (k_live_Sets_L0 t2 t3 t5 (AV.bool false) t20 h5) fun e vs h29 =>
  some ((if (if e = .exit 2 then .normal else e) = .exit 1 then .normal else (if e = .exit 2 then .normal else e)), [(vs.getD 0 .bot)], h29)) (
  some ((.exit 0), [q7], h5))
def k_live_Sets_L1 (t2 : AV) (t3 : AV) (t5 : AV) (q7 : AV) (h5 : Heap) : OutV := loopN (fun us g => k_live_Sets_b1 t2 t3 t5 (us.getD 0 .bot) g) [q7] h5
def k_live_Sets (x0 : AV) (x1 : AV) (h : Heap) : Option (AV × Heap) :=
  mk Heap.new (bxP x0) h fun t2 h0 =>
  mk Heap.new (bxP x1) h0 fun t3 h1 =>
  (faP 5 t3).bind fun t11 =>
  (ldS h1 t11).bind fun t12 =>
  (lnL t12).bind fun t13 =>
  mk Heap.new (msP 1 8 [(AV.int .u64 0)] t13 t13) h1 fun t14 h2 =>
  mk Heap.new (some (Blk.cells true [(AV.sl none 0 (.ex 0))], fun i => AV.ptr (some (i, 0)))) h2 fun t5 h3 =>
  cl (stP 1 h3 t5 t14) fun u h4 =>
  lp (k_live_Sets_L1 t2 t3 t5 (AV.bool true) h4) fun e_30 vs_31 h32 =>
  thenK (if e_30 = .exit 0 then .normal else e_30) (
  (ldS h32 t5).bind fun t52 =>
  some (t52, h32)) (fun e_33 => endE e_33 (some ((AV.sl none 0 (.ex 0)), h32)))
def T55 : Tab := (52, p2 k_live_Sets) :: T54
/- 32: gantline/live.Maps -/
def k_live_Maps_b0 (t16 : AV) (t17 : AV) (q5 : AV) (q18 : AV) (h2 : Heap) : OutV :=
  (binP .lss q18 t17).bind fun t19 =>
  condE t19 (
  (iaS 1 t16 q18).bind fun t21 =>
  (ldS h2 t21).bind fun t22 =>
  condE t22 (
  (cvI .u64 q18).bind fun t26 =>
  (binP .shl (AV.int .u64 1) t26).bind fun t27 =>
  (binP .or q5 t27).bind fun t28 =>
  (binP .add q18 (AV.int .i64 1)).bind fun t29_13 =>
  some (.normal, [t28, t29_13], h2)) (
  (binP .add q18 (AV.int .i64 1)).bind fun t29_14 =>
  some (.normal, [q5, t29_14], h2))) (
  some ((.exit 0), [q5, q18], h2))
def k_live_Maps_L0 (t16 : AV) (t17 : AV) (q5 : AV) (q18 : AV) (h2 : Heap) : OutV := loopN (fun us g => k_live_Maps_b0 t16 t17 (us.getD 0 .bot) (us.getD 1 .bot) g) [q5, q18] h2
def k_live_Maps_b1 (vs : List AV) (t32 : AV) (t34 : AV) (q35 : AV) (h17 : Heap) : OutV :=
  (binP .lss q35 t34).bind fun t36 =>
  condE t36 (
  (iaS 1 t32 q35).bind fun t40 =>
  (ldS h17 t40).bind fun t41 =>
  (binP .and t41 (vs.getD 0 .bot)).bind fun t43 =>
  (iaS 1 t32 q35).bind fun t44 =>
  cl (stP 1 h17 t44 t43) fun u h18 =>
  (binP .add q35 (AV.int .i64 1)).bind fun t45 =>
  some (.normal, [t45], h18)) (
  some ((.exit 2), [q35], h17))
def k_live_Maps_L1 (vs : List AV) (t32 : AV) (t34 : AV) (q35 : AV) (h17 : Heap) : OutV := loopN (fun us g => k_live_Maps_b1 vs t32 t34 (us.getD 0 .bot) g) [q35] h17
def k_live_Maps (x0 : AV) (x1 : AV) (h : Heap) : Option (AV × Heap) :=
  mk Heap.new (bxP x0) h fun t2 h0 =>
  mk Heap.new (bxP x1) h0 fun t3 h1 =>
  (faP 4 t3).bind fun t10 =>
  (ldS h1 t10).bind fun t11 =>
  (faP 4 t3).bind fun t12 =>
  (ldS h1 t12).bind fun t13 =>
  (lnL t13).bind fun t14 =>
  (minP t14 (AV.int .i64 64)).bind fun t15 =>
  (slcP 1 t11 none (some t15) none).bind fun t16 =>
  (lnL t16).bind fun t17 =>
  lp (k_live_Maps_L0 t16 t17 (AV.int .u64 0) (AV.int .i64 0) h1) fun e vs h15 =>
  thenK (if e = .exit 0 then .normal else e) (
  (ldA 6 h15 t2).bind fun t30 =>
  (ldA 7 h15 t3).bind fun t31 =>
  cl (k_live_Sets t30 t31 h15) fun t32 h16 =>
  (lnL t32).bind fun t34 =>
  lp (k_live_Maps_L1 vs t32 t34 (AV.int .i64 0) h16) fun e_19 vs_20 h21 =>
  thenK (if e_19 = .exit 2 then .normal else e_19) (
  some (t32, h21)) (fun e_22 => endE e_22 (some ((AV.sl none 0 (.ex 0)), h21)))) (fun e_23 => endE e_23 (some ((AV.sl none 0 (.ex 0)), h15)))
def T56 : Tab := (32, p2 k_live_Maps) :: T55
/- 78: slices.Index[[]int,int] -/
def k_slices_Index_int_int_b0 (x0 : AV) (x1 : AV) (t7 : AV) (q4 : AV) (q8 : AV) (h0 : Heap) : OutV :=
  (binP .lss q8 t7).bind fun t9 =>
  condE t9 (
  (iaS 1 x0 q8).bind fun t14 =>
  (ldS h0 t14).bind fun t15 =>
  (eqP (some (.int .i64)) none false .eql x1 t15).bind fun t16 =>
  condE t16 (
  some (.ret, [q8, q8], h0)) (
  (binP .add q8 (AV.int .i64 1)).bind fun t18 =>
  some (.normal, [q4, t18], h0))) (
  some ((.exit 0), [q4, q8], h0))
def k_slices_Index_int_int_L0 (x0 : AV) (x1 : AV) (t7 : AV) (q4 : AV) (q8 : AV) (h0 : Heap) : OutV := loopN (fun us g => k_slices_Index_int_int_b0 x0 x1 t7 (us.getD 0 .bot) (us.getD 1 .bot) g) [q4, q8] h0
def k_slices_Index_int_int (x0 : AV) (x1 : AV) (h : Heap) : Option (AV × Heap) :=
  (lnL x0).bind fun t7 =>
  lp (k_slices_Index_int_int_L0 x0 x1 t7 (AV.int .i64 0) (AV.int .i64 0) h) fun e vs h1 =>
  thenK (if e = .exit 0 then .normal else e) (
  some ((AV.int .i64 (-1)), h1)) (fun e_2 => endE e_2 (some ((vs.getD 0 .bot), h1)))
def T57 : Tab := (78, p2 k_slices_Index_int_int) :: T56
/- 55: slices.Contains[[]int,int] -/
def k_slices_Contains_int_int (x0 : AV) (x1 : AV) (h : Heap) : Option (AV × Heap) :=
  cl (k_slices_Index_int_int x0 x1 h) fun t7 h0 =>
  (binP .geq t7 (AV.int .i64 0)).bind fun t8 =>
  some (t8, h0)
def T58 : Tab := (55, p2 k_slices_Contains_int_int) :: T57
/- 98: (*gantline/verify.checker).fn -/
def k_verify_checker_fn (x0 : AV) (x1 : AV) (h : Heap) : Option (AV × Heap) :=
  mk Heap.new (some (Blk.cells true [(AV.int .i64 0), (AV.int .i64 0), (AV.int .i64 0), (AV.int .i64 0), (AV.sl none 0 (.ex 0)), (AV.sl none 0 (.ex 0)), (AV.sl none 0 (.ex 0))], fun i => AV.ptr (some (i, 0)))) h fun t4 h0 =>
  (binP .lss x1 (AV.int .i64 0)).bind fun t7 =>
  gQ (gdW t7 false) h0 (some (x1, h0)) fun t9 h1 =>
  gQ (gdW t7 false) h1 (some (x0, h1)) fun t10 h2 =>
  gQ (gdW t7 false) h2 ((nilV t10).bind fun t11 =>
  some (t11, h2)) fun t11_3 h4 =>
  gQ (gdW t7 false) h4 ((faP 0 t11_3).bind fun t12 =>
  some (t12, h4)) fun t12_5 h6 =>
  gQ (gdW t7 false) h6 ((faP 4 t12_5).bind fun t13 =>
  some (t13, h6)) fun t13_7 h8 =>
  gQ (gdW t7 false) h8 ((ldS h8 t13_7).bind fun t14 =>
  some (t14, h8)) fun t14_9 h10 =>
  gQ (gdW t7 false) h10 ((lnL t14_9).bind fun t15 =>
  some (t15, h10)) fun t15_11 h12 =>
  gQ (gdW t7 false) h12 ((binP .geq t9 t15_11).bind fun t16 =>
  some (t16, h12)) fun t16_13 h14 =>
  (pickP t7 (AV.bool true) t16_13).bind fun t17 =>
  condE t17 (
  (bldS [(0, 1), (1, 1), (2, 1), (3, 1), (4, 1), (5, 1), (6, 1)] [(AV.int .i64 0), (AV.int .i64 0), (AV.int .i64 0), (AV.int .i64 0), (AV.sl none 0 (.ex 0)), (AV.sl none 0 (.ex 0)), (AV.sl none 0 (.ex 0))] []).bind fun t18 =>
  cl (stP 7 h14 t4 t18) fun u h15 =>
  (ldA 7 h15 t4).bind fun t =>
  some (AV.tup [t, (AV.bool false)], h15)) (
  (nilV x0).bind fun t20 =>
  (faP 0 t20).bind fun t21 =>
  (faP 4 t21).bind fun t22 =>
  (ldS h14 t22).bind fun t23 =>
  (iaS 7 t23 x1).bind fun t25 =>
  (ldA 7 h14 t25).bind fun t26 =>
  cl (stP 7 h14 t4 t26) fun u_16 h17 =>
  (ldA 7 h17 t4).bind fun t_18 =>
  some (AV.tup [t_18, (AV.bool true)], h17))
def T59 : Tab := (98, p2 k_verify_checker_fn) :: T58
/- 97: (*gantline/verify.checker).params -/
def k_verify_checker_params (x0 : AV) (x1 : AV) (h : Heap) : Option (AV × Heap) :=
  cl (k_verify_checker_fn x0 x1 h) fun t10 h0 =>
  (extractV 0 t10).bind fun t11 =>
  (extractV 1 t10).bind fun t12 =>
  mk Heap.new (some (Blk.cells true [(AV.int .i64 0), (AV.int .i64 0), (AV.int .i64 0), (AV.int .i64 0), (AV.sl none 0 (.ex 0)), (AV.sl none 0 (.ex 0)), (AV.sl none 0 (.ex 0))], fun i => AV.ptr (some (i, 0)))) h0 fun t5 h1 =>
  cl (stP 7 h1 t5 t11) fun u h2 =>
  (faP 0 t5).bind fun t13 =>
  (ldS h2 t13).bind fun t14 =>
  some (t14, h2)
def T60 : Tab := (97, p2 k_verify_checker_params) :: T59
/- 96: (*gantline/verify.checker).run -/
def k_verify_checker_run (x0 : AV) (x1 : AV) (x2 : AV) (h : Heap) : Option (AV × Heap) :=
  (binP .leq x2 (AV.int .i64 0)).bind fun t8 =>
  gQ (gdW t8 false) h (some (x1, h)) fun t10 h0 =>
  gQ (gdW t8 false) h0 ((binP .geq t10 (AV.int .i64 0)).bind fun t11 =>
  some (t11, h0)) fun t11_1 h2 =>
  gQ (gdW t8 false) h2 (some (t11_1, h2)) fun t12 h3 =>
  gQ (gdW t12 true) h3 (some (x2, h3)) fun t13 h4 =>
  gQ (gdW t12 true) h4 (some (x0, h4)) fun t14 h5 =>
  gQ (gdW t12 true) h5 ((nilV t14).bind fun t15 =>
  some (t15, h5)) fun t15_6 h7 =>
  gQ (gdW t12 true) h7 ((faP 6 t15_6).bind fun t16 =>
  some (t16, h7)) fun t16_8 h9 =>
  gQ (gdW t12 true) h9 ((faP 2 t16_8).bind fun t17 =>
  some (t17, h9)) fun t17_10 h11 =>
  gQ (gdW t12 true) h11 ((ldS h11 t17_10).bind fun t18 =>
  some (t18, h11)) fun t18_12 h13 =>
  gQ (gdW t12 true) h13 ((binP .leq t13 t18_12).bind fun t19 =>
  some (t19, h13)) fun t19_14 h15 =>
  gQ (gdW t8 false) h15 ((pickP t12 t19_14 (AV.bool false)).bind fun t20 =>
  some (t20, h15)) fun t20_16 h17 =>
  gQ (gdW t8 false) h17 (some (t20_16, h17)) fun t21 h18 =>
  gQ (gdW t21 true) h18 (some (x1, h18)) fun t22 h19 =>
  gQ (gdW t21 true) h19 (some (x0, h19)) fun t23 h20 =>
  gQ (gdW t21 true) h20 ((nilV t23).bind fun t24 =>
  some (t24, h20)) fun t24_21 h22 =>
  gQ (gdW t21 true) h22 ((faP 6 t24_21).bind fun t25 =>
  some (t25, h22)) fun t25_23 h24 =>
  gQ (gdW t21 true) h24 ((faP 2 t25_23).bind fun t26 =>
  some (t26, h24)) fun t26_25 h26 =>
  gQ (gdW t21 true) h26 ((ldS h26 t26_25).bind fun t27 =>
  some (t27, h26)) fun t27_27 h28 =>
  gQ (gdW t21 true) h28 (some (x2, h28)) fun t28 h29 =>
  gQ (gdW t21 true) h29 ((binP .sub t27_27 t28).bind fun t29 =>
  some (t29, h29)) fun t29_30 h31 =>
  gQ (gdW t21 true) h31 ((binP .leq t22 t29_30).bind fun t30 =>
  some (t30, h31)) fun t30_32 h33 =>
  gQ (gdW t8 false) h33 ((pickP t21 t30_32 (AV.bool false)).bind fun t31 =>
  some (t31, h33)) fun t31_34 h35 =>
  (pickP t8 (AV.bool true) t31_34).bind fun t32 =>
  some (t32, h35)
def T61 : Tab := (96, p3 k_verify_checker_run) :: T60
/- 99: (*gantline/verify.checker).cases -/
def k_verify_checker_cases (x0 : AV) (h : Heap) : Option (AV × Heap) :=
  (nilV x0).bind fun t5 =>
  (faP 17 t5).bind fun t6 =>
  (faP 1 t6).bind fun t7 =>
  (ldS h t7).bind fun t8 =>
  (binP .lss t8 (AV.int .i64 0)).bind fun t9 =>
  (gV (gdW t9 false) (some x0) (.tup [])).bind fun t11 =>
  (gV (gdW t9 false) (nilV t11) (.tup [])).bind fun t12 =>
  (gV (gdW t9 false) (faP 17 t12) (.tup [])).bind fun t13 =>
  (gV (gdW t9 false) (faP 2 t13) (.tup [])).bind fun t14 =>
  (gV (gdW t9 false) (ldS h t14) (.tup [])).bind fun t15 =>
  (gV (gdW t9 false) (binP .lss t15 (AV.int .i64 1)) (.tup [])).bind fun t16 =>
  (pickP t9 (AV.bool true) t16).bind fun t17 =>
  (gV (gdW t17 false) (some x0) (.tup [])).bind fun t19 =>
  (gV (gdW t17 false) (nilV t19) (.tup [])).bind fun t20 =>
  (gV (gdW t17 false) (faP 17 t20) (.tup [])).bind fun t21 =>
  (gV (gdW t17 false) (faP 1 t21) (.tup [])).bind fun t22 =>
  (gV (gdW t17 false) (ldS h t22) (.tup [])).bind fun t23 =>
  (gV (gdW t17 false) (some x0) (.tup [])).bind fun t24 =>
  (gV (gdW t17 false) (nilV t24) (.tup [])).bind fun t25 =>
  (gV (gdW t17 false) (faP 0 t25) (.tup [])).bind fun t26 =>
  (gV (gdW t17 false) (faP 3 t26) (.tup [])).bind fun t27 =>
  (gV (gdW t17 false) (ldS h t27) (.tup [])).bind fun t28 =>
  (gV (gdW t17 false) (lnL t28) (.tup [])).bind fun t29 =>
  (gV (gdW t17 false) (binP .gtr t23 t29) (.tup [])).bind fun t30 =>
  (pickP t17 (AV.bool true) t30).bind fun t31 =>
  (gV (gdW t31 false) (some x0) (.tup [])).bind fun t33 =>
  (gV (gdW t31 false) (nilV t33) (.tup [])).bind fun t34 =>
  (gV (gdW t31 false) (faP 17 t34) (.tup [])).bind fun t35 =>
  (gV (gdW t31 false) (faP 2 t35) (.tup [])).bind fun t36 =>
  (gV (gdW t31 false) (ldS h t36) (.tup [])).bind fun t37 =>
  (gV (gdW t31 false) (some x0) (.tup [])).bind fun t38 =>
  (gV (gdW t31 false) (nilV t38) (.tup [])).bind fun t39 =>
  (gV (gdW t31 false) (faP 0 t39) (.tup [])).bind fun t40 =>
  (gV (gdW t31 false) (faP 3 t40) (.tup [])).bind fun t41 =>
  (gV (gdW t31 false) (ldS h t41) (.tup [])).bind fun t42 =>
  (gV (gdW t31 false) (lnL t42) (.tup [])).bind fun t43 =>
  (gV (gdW t31 false) (some x0) (.tup [])).bind fun t44 =>
  (gV (gdW t31 false) (nilV t44) (.tup [])).bind fun t45 =>
  (gV (gdW t31 false) (faP 17 t45) (.tup [])).bind fun t46 =>
  (gV (gdW t31 false) (faP 1 t46) (.tup [])).bind fun t47 =>
  (gV (gdW t31 false) (ldS h t47) (.tup [])).bind fun t48 =>
  (gV (gdW t31 false) (binP .sub t43 t48) (.tup [])).bind fun t49 =>
  (gV (gdW t31 false) (binP .gtr t37 t49) (.tup [])).bind fun t50 =>
  (pickP t31 (AV.bool true) t50).bind fun t51 =>
  chk [h] [] (
  condE t51 (
  some (AV.tup [(AV.sl none 0 (.ex 0)), (AV.bool false)], h)) (
  (nilV x0).bind fun t53 =>
  (faP 0 t53).bind fun t54 =>
  (faP 3 t54).bind fun t55 =>
  (ldS h t55).bind fun t56 =>
  (nilV x0).bind fun t58 =>
  (faP 17 t58).bind fun t59 =>
  (faP 1 t59).bind fun t60 =>
  (ldS h t60).bind fun t61 =>
  (nilV x0).bind fun t63 =>
  (faP 17 t63).bind fun t64 =>
  (faP 1 t64).bind fun t65 =>
  (ldS h t65).bind fun t66 =>
  (nilV x0).bind fun t68 =>
  (faP 17 t68).bind fun t69 =>
  (faP 2 t69).bind fun t70 =>
  (ldS h t70).bind fun t71 =>
  (binP .add t66 t71).bind fun t72 =>
  (slcP 4 t56 (some t61) (some t72) none).bind fun t73 =>
  chk [h] [] (
  some (AV.tup [t73, (AV.bool true)], h))))
def T62 : Tab := (99, p1 k_verify_checker_cases) :: T61
/- 122: slices.IndexFunc[[]gantline/code.Case,gantline/code.Case] -/
def k_slices_IndexFunc_code_Case_code_Case_b0 (x0 : AV) (x1 : AV) (t7 : AV) (q4 : AV) (q8 : AV) (h0 : Heap) : OutV :=
  (binP .lss q8 t7).bind fun t9 =>
  condE t9 (
  (iaS 4 x0 q8).bind fun t14 =>
  (ldA 4 h0 t14).bind fun t15 =>
  clF (lookT T62) (cvP x1 [t15]) h0 fun t16 h1 =>
  condE t16 (
  some (.ret, [q8, q8], h1)) (
  (binP .add q8 (AV.int .i64 1)).bind fun t18 =>
  some (.normal, [q4, t18], h1))) (
  some ((.exit 0), [q4, q8], h0))
def k_slices_IndexFunc_code_Case_code_Case_L0 (x0 : AV) (x1 : AV) (t7 : AV) (q4 : AV) (q8 : AV) (h0 : Heap) : OutV := loopN (fun us g => k_slices_IndexFunc_code_Case_code_Case_b0 x0 x1 t7 (us.getD 0 .bot) (us.getD 1 .bot) g) [q4, q8] h0
def k_slices_IndexFunc_code_Case_code_Case (x0 : AV) (x1 : AV) (h : Heap) : Option (AV × Heap) :=
  (lnL x0).bind fun t7 =>
  lp (k_slices_IndexFunc_code_Case_code_Case_L0 x0 x1 t7 (AV.int .i64 0) (AV.int .i64 0) h) fun e vs h2 =>
  thenK (if e = .exit 0 then .normal else e) (
  some ((AV.int .i64 (-1)), h2)) (fun e_3 => endE e_3 (some ((vs.getD 0 .bot), h2)))
def T63 : Tab := (122, p2 k_slices_IndexFunc_code_Case_code_Case) :: T62
/- 100: slices.ContainsFunc[[]gantline/code.Case,gantline/code.Case] -/
def k_slices_ContainsFunc_code_Case_code_Case (x0 : AV) (x1 : AV) (h : Heap) : Option (AV × Heap) :=
  cl (k_slices_IndexFunc_code_Case_code_Case x0 x1 h) fun t7 h0 =>
  (binP .geq t7 (AV.int .i64 0)).bind fun t8 =>
  some (t8, h0)
def T64 : Tab := (100, p2 k_slices_ContainsFunc_code_Case_code_Case) :: T63
/- 79: (*gantline/verify.checker).slots -/
def k_verify_checker_slots (x0 : AV) (h : Heap) : Option (AV × Heap) :=
  mk Heap.new (bxP x0) h fun t1 h0 =>
  (ldS h0 t1).bind fun t10 =>
  (nilV t10).bind fun t11 =>
  (faP 17 t11).bind fun t12 =>
  (ldA 5 h0 t12).bind fun t13 =>
  mk Heap.new (some (Blk.cells true [(AV.int .i64 0), (AV.int .i64 0), (AV.int .i64 0), (AV.int .i64 0), (AV.int .i64 0)], fun i => AV.ptr (some (i, 0)))) h0 fun t3 h1 =>
  cl (stP 5 h1 t3 t13) fun u h2 =>
  mk Heap.new (some (Blk.cells true [AV.nilFn], fun i => AV.ptr (some (i, 0)))) h2 fun t4 h3 =>
  cl (stP 1 h3 t4 (AV.fn 94 [] [t1])) fun u_4 h5 =>
  (faP 0 t3).bind fun t15 =>
  (ldS h5 t15).bind fun t16 =>
  (binP .lss t16 (AV.int .i64 0)).bind fun t19 =>
  gQ (gdW t19 false) h5 (some (t16, h5)) fun t21 h6 =>
  gQ (gdW t19 false) h6 ((binP .gtr t21 (AV.int .i64 44)).bind fun t22 =>
  some (t22, h6)) fun t22_7 h8 =>
  (pickP t19 (AV.bool true) t22_7).bind fun t23 =>
  condE t23 (
  some ((AV.bool false), h8)) (
  (eqP (some (.int .i64)) none false .eql t16 (AV.int .i64 20)).bind fun t26 =>
  condE t26 (
  (ldS h8 t4).bind fun t27 =>
  (faP 1 t3).bind fun t28 =>
  (ldS h8 t28).bind fun t29 =>
  clF (lookT T64) (cvP t27 [t29]) h8 fun t30 h9 =>
  clC (gV (gdW t30 true) (rdC (fun g => ldS g t1) h9 1 2 []) (.tup [], [])) fun t32 cs =>
  (gV (gdW t30 true) (faP 3 t3) (.tup [])).bind fun t33 =>
  clC (gV (gdW t30 true) (rdC (fun g => ldS g t33) h9 1 2 cs) (.tup [], cs)) fun t34 cs_10 =>
  (gV (gdW t30 true) (ldS h9 t1) (.tup [])).bind fun t35 =>
  (gV (gdW t30 true) (faP 2 t3) (.tup [])).bind fun t36 =>
  (gV (gdW t30 true) (ldS h9 t36) (.tup [])).bind fun t37 =>
  gQ (gdW t30 true) h9 (cl (k_verify_checker_params t35 t37 h9) fun t38 h11 =>
  some (t38, h11)) fun t38_12 h13 =>
  gQ (gdW t30 true) h13 (cl (k_verify_checker_run t32 t34 t38_12 h13) fun t39 h14 =>
  some (t39, h14)) fun t39_15 h16 =>
  (pickP t30 t39_15 (AV.bool false)).bind fun t40 =>
  chk [h8, h9, h13, h16] cs_10 (
  some (t40, h16))) (
  (eqP (some (.int .i64)) none false .eql t16 (AV.int .i64 21)).bind fun t43 =>
  condE t43 (
  (ldS h8 t4).bind fun t44 =>
  (faP 1 t3).bind fun t45 =>
  (ldS h8 t45).bind fun t46 =>
  clF (lookT T64) (cvP t44 [t46]) h8 fun t47 h17 =>
  gQ (gdW t47 true) h17 ((ldS h17 t1).bind fun t49 =>
  some (t49, h17)) fun t49_18 h19 =>
  gQ (gdW t47 true) h19 ((faP 2 t3).bind fun t50 =>
  some (t50, h19)) fun t50_20 h21 =>
  gQ (gdW t47 true) h21 ((ldS h21 t50_20).bind fun t51 =>
  some (t51, h21)) fun t51_22 h23 =>
  gQ (gdW t47 true) h23 (cl (k_verify_checker_slot t49_18 t51_22 h23) fun t52 h24 =>
  some (t52, h24)) fun t52_25 h26 =>
  (pickP t47 t52_25 (AV.bool false)).bind fun t53 =>
  gQ (gdW t53 true) h26 ((ldS h26 t1).bind fun t55 =>
  some (t55, h26)) fun t55_27 h28 =>
  gQ (gdW t53 true) h28 ((faP 3 t3).bind fun t56 =>
  some (t56, h28)) fun t56_29 h30 =>
  gQ (gdW t53 true) h30 ((ldS h30 t56_29).bind fun t57 =>
  some (t57, h30)) fun t57_31 h32 =>
  gQ (gdW t53 true) h32 ((faP 4 t3).bind fun t58 =>
  some (t58, h32)) fun t58_33 h34 =>
  gQ (gdW t53 true) h34 ((ldS h34 t58_33).bind fun t59 =>
  some (t59, h34)) fun t59_35 h36 =>
  gQ (gdW t53 true) h36 (cl (k_verify_checker_run t55_27 t57_31 t59_35 h36) fun t60 h37 =>
  some (t60, h37)) fun t60_38 h39 =>
  (pickP t53 t60_38 (AV.bool false)).bind fun t61 =>
  some (t61, h39)) (
  (eqP (some (.int .i64)) none false .eql t16 (AV.int .i64 22)).bind fun t64 =>
  condE t64 (
  (ldS h8 t4).bind fun t65 =>
  (faP 1 t3).bind fun t66 =>
  (ldS h8 t66).bind fun t67 =>
  clF (lookT T64) (cvP t65 [t67]) h8 fun t68 h40 =>
  some (t68, h40)) (
  (eqP (some (.int .i64)) none false .eql t16 (AV.int .i64 23)).bind fun t71 =>
  condE t71 (
  clC (rdC (fun g => ldS g t1) h8 0 1 []) fun t72 cs_41 =>
  (faP 2 t3).bind fun t73 =>
  clC (rdC (fun g => ldS g t73) h8 0 1 cs_41) fun t74 cs_42 =>
  (ldS h8 t1).bind fun t75 =>
  (faP 1 t3).bind fun t76 =>
  (ldS h8 t76).bind fun t77 =>
  cl (k_verify_checker_params t75 t77 h8) fun t78 h43 =>
  cl (k_verify_checker_run t72 t74 t78 h43) fun t79 h44 =>
  chk [h8, h43, h44] cs_42 (
  some (t79, h44))) (
  (eqP (some (.int .i64)) none false .eql t16 (AV.int .i64 24)).bind fun t82 =>
  condE t82 (
  (ldS h8 t1).bind fun t83 =>
  (faP 1 t3).bind fun t84 =>
  (ldS h8 t84).bind fun t85 =>
  cl (k_verify_checker_slot t83 t85 h8) fun t86 h45 =>
  gQ (gdW t86 true) h45 ((ldS h45 t1).bind fun t88 =>
  some (t88, h45)) fun t88_46 h47 =>
  gQ (gdW t86 true) h47 ((faP 2 t3).bind fun t89 =>
  some (t89, h47)) fun t89_48 h49 =>
  gQ (gdW t86 true) h49 ((ldS h49 t89_48).bind fun t90 =>
  some (t90, h49)) fun t90_50 h51 =>
  gQ (gdW t86 true) h51 ((faP 3 t3).bind fun t91 =>
  some (t91, h51)) fun t91_52 h53 =>
  gQ (gdW t86 true) h53 ((ldS h53 t91_52).bind fun t92 =>
  some (t92, h53)) fun t92_54 h55 =>
  gQ (gdW t86 true) h55 (cl (k_verify_checker_run t88_46 t90_50 t92_54 h55) fun t93 h56 =>
  some (t93, h56)) fun t93_57 h58 =>
  (pickP t86 t93_57 (AV.bool false)).bind fun t94 =>
  some (t94, h58)) (
  (eqP (some (.int .i64)) none false .eql t16 (AV.int .i64 36)).bind fun t97 =>
  condE t97 (
  (ldS h8 t1).bind fun t99 =>
  (faP 2 t3).bind fun t100 =>
  (ldS h8 t100).bind fun t101 =>
  cl (k_verify_checker_fn t99 t101 h8) fun t102 h59 =>
  (extractV 0 t102).bind fun t103 =>
  (extractV 1 t102).bind fun t104 =>
  mk Heap.new (some (Blk.cells true [(AV.int .i64 0), (AV.int .i64 0), (AV.int .i64 0), (AV.int .i64 0), (AV.sl none 0 (.ex 0)), (AV.sl none 0 (.ex 0)), (AV.sl none 0 (.ex 0))], fun i => AV.ptr (some (i, 0)))) h59 fun t6 h60 =>
  cl (stP 7 h60 t6 t103) fun u_61 h62 =>
  (ldS h62 t1).bind fun t105 =>
  (faP 1 t3).bind fun t106 =>
  (ldS h62 t106).bind fun t107 =>
  cl (k_verify_checker_slot t105 t107 h62) fun t108 h63 =>
  gQ (gdW t108 true) h63 ((ldS h63 t1).bind fun t110 =>
  some (t110, h63)) fun t110_64 h65 =>
  gQ (gdW t108 true) h65 ((faP 3 t3).bind fun t111 =>
  some (t111, h65)) fun t111_66 h67 =>
  gQ (gdW t108 true) h67 ((ldS h67 t111_66).bind fun t112 =>
  some (t112, h67)) fun t112_68 h69 =>
  gQ (gdW t108 true) h69 ((faP 1 t6).bind fun t113 =>
  some (t113, h69)) fun t113_70 h71 =>
  gQ (gdW t108 true) h71 ((ldS h71 t113_70).bind fun t114 =>
  some (t114, h71)) fun t114_72 h73 =>
  gQ (gdW t108 true) h73 (cl (k_verify_checker_run t110_64 t112_68 t114_72 h73) fun t115 h74 =>
  some (t115, h74)) fun t115_75 h76 =>
  (pickP t108 t115_75 (AV.bool false)).bind fun t116 =>
  some (t116, h76)) (
  (eqP (some (.int .i64)) none false .eql t16 (AV.int .i64 39)).bind fun t119 =>
  condE t119 (
  (ldS h8 t4).bind fun t120 =>
  (faP 1 t3).bind fun t121 =>
  (ldS h8 t121).bind fun t122 =>
  clF (lookT T64) (cvP t120 [t122]) h8 fun t123 h77 =>
  gQ (gdW t123 true) h77 ((ldS h77 t1).bind fun t125 =>
  some (t125, h77)) fun t125_78 h79 =>
  gQ (gdW t123 true) h79 ((faP 2 t3).bind fun t126 =>
  some (t126, h79)) fun t126_80 h81 =>
  gQ (gdW t123 true) h81 ((ldS h81 t126_80).bind fun t127 =>
  some (t127, h81)) fun t127_82 h83 =>
  gQ (gdW t123 true) h83 (cl (k_verify_checker_slot t125_78 t127_82 h83) fun t128 h84 =>
  some (t128, h84)) fun t128_85 h86 =>
  (pickP t123 t128_85 (AV.bool false)).bind fun t129 =>
  gQ (gdW t129 true) h86 ((ldS h86 t4).bind fun t131 =>
  some (t131, h86)) fun t131_87 h88 =>
  gQ (gdW t129 true) h88 ((faP 3 t3).bind fun t132 =>
  some (t132, h88)) fun t132_89 h90 =>
  gQ (gdW t129 true) h90 ((ldS h90 t132_89).bind fun t133 =>
  some (t133, h90)) fun t133_91 h92 =>
  gQ (gdW t129 true) h92 (clF (lookT T64) (cvP t131_87 [t133_91]) h92 fun t134 h93 =>
  some (t134, h93)) fun t134_94 h95 =>
  (pickP t129 t134_94 (AV.bool false)).bind fun t135 =>
  some (t135, h95)) (
  (eqP (some (.int .i64)) none false .eql t16 (AV.int .i64 41)).bind fun t138 =>
  condE t138 (
  (ldS h8 t1).bind fun t140 =>
  cl (k_verify_checker_cases t140 h8) fun t141 h96 =>
  (extractV 0 t141).bind fun t142 =>
  (extractV 1 t141).bind fun t143 =>
  cl (k_slices_ContainsFunc_code_Case_code_Case t142 (AV.fn 101 [] [t1, t4]) h96) fun t146 h97 =>
  (unA .not t146).bind fun t147 =>
  some (t147, h97)) (
  (ldS h8 t1).bind fun t148 =>
  (nilV t148).bind fun t149 =>
  (faP 0 t149).bind fun t150 =>
  (ldA 6 h8 t150).bind fun t151 =>
  (ldA 5 h8 t3).bind fun t152 =>
  cl (k_live_Reads t151 t152 h8) fun t153 h98 =>
  clC (rdC (fun g => ldA 5 g t3) h98 0 1 []) fun t154 cs_99 =>
  cl (k_live_Writes t154 h98) fun t155 h100 =>
  cl (appendA h100 1 8 t153 t155) fun t156 h101 =>
  cl (k_slices_ContainsFunc_int_int t156 (AV.fn 103 [] [t1]) h101) fun t158 h102 =>
  (unA .not t158).bind fun t159 =>
  chk [h8, h98, h100, h101, h102] cs_99 (
  some (t159, h102)))))))))))
def T65 : Tab := (79, p1 k_verify_checker_slots) :: T64
/- 104: (*gantline/verify.checker).shape -/
def k_verify_checker_shape (x0 : AV) (x1 : AV) (x2 : AV) (h : Heap) : Option (AV × Heap) :=
  (binP .geq x1 (AV.int .i64 0)).bind fun t8 =>
  gQ (gdW t8 true) h (some (x1, h)) fun t10 h0 =>
  gQ (gdW t8 true) h0 (some (x0, h0)) fun t11 h1 =>
  gQ (gdW t8 true) h1 ((nilV t11).bind fun t12 =>
  some (t12, h1)) fun t12_2 h3 =>
  gQ (gdW t8 true) h3 ((faP 0 t12_2).bind fun t13 =>
  some (t13, h3)) fun t13_4 h5 =>
  gQ (gdW t8 true) h5 ((faP 0 t13_4).bind fun t14 =>
  some (t14, h5)) fun t14_6 h7 =>
  gQ (gdW t8 true) h7 ((ldS h7 t14_6).bind fun t15 =>
  some (t15, h7)) fun t15_8 h9 =>
  gQ (gdW t8 true) h9 ((lnL t15_8).bind fun t16 =>
  some (t16, h9)) fun t16_10 h11 =>
  gQ (gdW t8 true) h11 ((binP .lss t10 t16_10).bind fun t17 =>
  some (t17, h11)) fun t17_12 h13 =>
  (pickP t8 t17_12 (AV.bool false)).bind fun t18 =>
  gQ (gdW t18 true) h13 (some (x0, h13)) fun t20 h14 =>
  gQ (gdW t18 true) h14 ((nilV t20).bind fun t21 =>
  some (t21, h14)) fun t21_15 h16 =>
  gQ (gdW t18 true) h16 ((faP 0 t21_15).bind fun t22 =>
  some (t22, h16)) fun t22_17 h18 =>
  gQ (gdW t18 true) h18 ((faP 0 t22_17).bind fun t23 =>
  some (t23, h18)) fun t23_19 h20 =>
  gQ (gdW t18 true) h20 ((ldS h20 t23_19).bind fun t24 =>
  some (t24, h20)) fun t24_21 h22 =>
  gQ (gdW t18 true) h22 (some (x1, h22)) fun t25 h23 =>
  gQ (gdW t18 true) h23 ((iaS 3 t24_21 t25).bind fun t26 =>
  some (t26, h23)) fun t26_24 h25 =>
  gQ (gdW t18 true) h25 ((faP 0 t26_24).bind fun t27 =>
  some (t27, h25)) fun t27_26 h27 =>
  gQ (gdW t18 true) h27 ((ldS h27 t27_26).bind fun t28 =>
  some (t28, h27)) fun t28_28 h29 =>
  gQ (gdW t18 true) h29 (some (x2, h29)) fun t29 h30 =>
  gQ (gdW t18 true) h30 ((eqP (some (.int .i64)) none false .eql t28_28 t29).bind fun t30 =>
  some (t30, h30)) fun t30_31 h32 =>
  (pickP t18 t30_31 (AV.bool false)).bind fun t31 =>
  some (t31, h32)
def T66 : Tab := (104, p3 k_verify_checker_shape) :: T65
/- 105: (*gantline/verify.checker).fresh -/
def k_verify_checker_fresh_j0 (q2 : AV) (q18 : AV) (q5_9 : AV) (h10 : Heap) : OutV :=
  (binP .add q18 (AV.int .i64 1)).bind fun t51_11 =>
  some (.normal, [q2, q5_9, t51_11], h10)
def k_verify_checker_fresh_b0 (x0 : AV) (t12 : AV) (t17 : AV) (q2 : AV) (q5 : AV) (q18 : AV) (h1 : Heap) : OutV :=
  (binP .lss q18 t17).bind fun t19 =>
  condE t19 (
  (iaS 4 t12 q18).bind fun t21 =>
  (ldA 4 h1 t21).bind fun t22 =>
  mk Heap.new (some (Blk.cells true [(AV.int .i64 0), (AV.int .i64 0), (AV.int .i64 0), (AV.int .i64 0)], fun i => AV.ptr (some (i, 0)))) h1 fun t7 h5 =>
  cl (stP 4 h5 t7 t22) fun u h6 =>
  (faP 0 t7).bind fun t23 =>
  (ldS h6 t23).bind fun t24 =>
  (binP .lss t24 (AV.int .i64 0)).bind fun t25 =>
  (gV (gdW t25 false) (faP 0 t7) (.tup [])).bind fun t27 =>
  (gV (gdW t25 false) (ldS h6 t27) (.tup [])).bind fun t28 =>
  (gV (gdW t25 false) (binP .gtr t28 (AV.int .i64 2)) (.tup [])).bind fun t29 =>
  (pickP t25 (AV.bool true) t29).bind fun t30 =>
  (gV (gdW t30 false) (some x0) (.tup [])).bind fun t32 =>
  (gV (gdW t30 false) (nilV t32) (.tup [])).bind fun t33 =>
  (gV (gdW t30 false) (faP 15 t33) (.tup [])).bind fun t34 =>
  (gV (gdW t30 false) (ldS h6 t34) (.tup [])).bind fun t35 =>
  (gV (gdW t30 false) (some x0) (.tup [])).bind fun t36 =>
  (gV (gdW t30 false) (nilV t36) (.tup [])).bind fun t37 =>
  (gV (gdW t30 false) (faP 17 t37) (.tup [])).bind fun t38 =>
  (gV (gdW t30 false) (faP 1 t38) (.tup [])).bind fun t39 =>
  (gV (gdW t30 false) (ldS h6 t39) (.tup [])).bind fun t40 =>
  (gV (gdW t30 false) (some q18) (.tup [])).bind fun t41 =>
  (gV (gdW t30 false) (binP .add t40 t41) (.tup [])).bind fun t42 =>
  (gV (gdW t30 false) (iaS 1 t35 t42) (.tup [])).bind fun t43 =>
  (gV (gdW t30 false) (ldS h6 t43) (.tup [])).bind fun t44 =>
  (pickP t30 (AV.bool true) t44).bind fun t45 =>
  chk [h6] [] (
  condE t45 (
  some (.ret, [(AV.bool false), q5, q18], h6)) (
  (faP 0 t7).bind fun t46 =>
  (ldS h6 t46).bind fun t47 =>
  (eqP (some (.int .i64)) none false .eql t47 (AV.int .i64 2)).bind fun t48 =>
  condE t48 (
  (binP .add q5 (AV.int .i64 1)).bind fun t50 =>
  k_verify_checker_fresh_j0 q2 q18 t50 h6) (
  k_verify_checker_fresh_j0 q2 q18 q5 h6)))) (
  some ((.exit 0), [q2, q5, q18], h1))
def k_verify_checker_fresh_L0 (x0 : AV) (t12 : AV) (t17 : AV) (q2 : AV) (q5 : AV) (q18 : AV) (h1 : Heap) : OutV := loopN (fun us g => k_verify_checker_fresh_b0 x0 t12 t17 (us.getD 0 .bot) (us.getD 1 .bot) (us.getD 2 .bot) g) [q2, q5, q18] h1
def k_verify_checker_fresh_b1 (x0 : AV) (t53 : AV) (q54 : AV) (h13 : Heap) : OutV :=
  (binP .lss q54 t53).bind fun t55 =>
  condE t55 (
  (nilV x0).bind fun t58 =>
  (faP 15 t58).bind fun t59 =>
  (ldS h13 t59).bind fun t60 =>
  (nilV x0).bind fun t62 =>
  (faP 17 t62).bind fun t63 =>
  (faP 1 t63).bind fun t64 =>
  (ldS h13 t64).bind fun t65 =>
  (binP .add t65 q54).bind fun t67 =>
  (iaS 1 t60 t67).bind fun t68 =>
  cl (stP 1 h13 t68 (AV.bool true)) fun u_14 h15 =>
  chk [h13, h15] [] (
  (binP .add q54 (AV.int .i64 1)).bind fun t69 =>
  some (.normal, [t69], h15))) (
  some ((.exit 2), [q54], h13))
def k_verify_checker_fresh_L1 (x0 : AV) (t53 : AV) (q54 : AV) (h13 : Heap) : OutV := loopN (fun us g => k_verify_checker_fresh_b1 x0 t53 (us.getD 0 .bot) g) [q54] h13
def k_verify_checker_fresh (x0 : AV) (h : Heap) : Option (AV × Heap) :=
  cl (k_verify_checker_cases x0 h) fun t11 h0 =>
  (extractV 0 t11).bind fun t12 =>
  (extractV 1 t11).bind fun t13 =>
  (unA .not t13).bind fun t15 =>
  condE t15 (
  some ((AV.bool false), h0)) (
  (lnL t12).bind fun t17 =>
  lp (k_verify_checker_fresh_L0 x0 t12 t17 (AV.bool false) (AV.int .i64 0) (AV.int .i64 0) h0) fun e vs h12 =>
  thenK (if e = .exit 0 then .normal else e) (
  (lnL t12).bind fun t53 =>
  lp (k_verify_checker_fresh_L1 x0 t53 (AV.int .i64 0) h12) fun e_16 vs_17 h18 =>
  thenK (if e_16 = .exit 2 then .normal else e_16) (
  (binP .leq (vs.getD 1 .bot) (AV.int .i64 1)).bind fun t71 =>
  some (t71, h18)) (fun e_19 => endE e_19 (some ((vs.getD 0 .bot), h18)))) (fun e_20 => endE e_20 (some ((vs.getD 0 .bot), h12))))
def T67 : Tab := (105, p1 k_verify_checker_fresh) :: T66
/- 80: (*gantline/verify.checker).there -/
def k_verify_checker_there (x0 : AV) (h : Heap) : Option (AV × Heap) :=
  (nilV x0).bind fun t11 =>
  (faP 17 t11).bind fun t12 =>
  (ldA 5 h t12).bind fun t13 =>
  mk Heap.new (some (Blk.cells true [(AV.int .i64 0), (AV.int .i64 0), (AV.int .i64 0), (AV.int .i64 0), (AV.int .i64 0)], fun i => AV.ptr (some (i, 0)))) h fun t3 h0 =>
  cl (stP 5 h0 t3 t13) fun u h1 =>
  (faP 0 t3).bind fun t14 =>
  (ldS h1 t14).bind fun t15 =>
  (eqP (some (.int .i64)) none false .eql t15 (AV.int .i64 0)).bind fun t17 =>
  condE t17 (
  (faP 2 t3).bind fun t18 =>
  (ldS h1 t18).bind fun t19 =>
  (binP .geq t19 (AV.int .i64 0)).bind fun t20 =>
  (gV (gdW t20 true) (faP 2 t3) (.tup [])).bind fun t22 =>
  (gV (gdW t20 true) (ldS h1 t22) (.tup [])).bind fun t23 =>
  (gV (gdW t20 true) (some x0) (.tup [])).bind fun t24 =>
  (gV (gdW t20 true) (nilV t24) (.tup [])).bind fun t25 =>
  (gV (gdW t20 true) (faP 0 t25) (.tup [])).bind fun t26 =>
  (gV (gdW t20 true) (faP 2 t26) (.tup [])).bind fun t27 =>
  (gV (gdW t20 true) (ldS h1 t27) (.tup [])).bind fun t28 =>
  (gV (gdW t20 true) (lnL t28) (.tup [])).bind fun t29 =>
  (gV (gdW t20 true) (binP .lss t23 t29) (.tup [])).bind fun t30 =>
  (pickP t20 t30 (AV.bool false)).bind fun t31 =>
  chk [h1] [] (
  some (t31, h1))) (
  (eqP (some (.int .i64)) none false .eql t15 (AV.int .i64 25)).bind fun t33 =>
  condE t33 (
  (faP 2 t3).bind fun t35 =>
  (ldS h1 t35).bind fun t36 =>
  cl (k_verify_checker_shape x0 t36 (AV.int .i64 0) h1) fun t37 h2 =>
  some (t37, h2)) (
  (eqP (some (.int .i64)) none false .eql t15 (AV.int .i64 26)).bind fun t39 =>
  condE t39 (
  (faP 2 t3).bind fun t41 =>
  (ldS h1 t41).bind fun t42 =>
  cl (k_verify_checker_shape x0 t42 (AV.int .i64 1) h1) fun t43 h3 =>
  some (t43, h3)) (
  (eqP (some (.int .i64)) none false .eql t15 (AV.int .i64 37)).bind fun t45 =>
  condE t45 (
  (faP 2 t3).bind fun t47 =>
  (ldS h1 t47).bind fun t48 =>
  cl (k_verify_checker_shape x0 t48 (AV.int .i64 3) h1) fun t49 h4 =>
  some (t49, h4)) (
  (eqP (some (.int .i64)) none false .eql t15 (AV.int .i64 34)).bind fun t51 =>
  condE t51 (
  (faP 2 t3).bind fun t52 =>
  (ldS h1 t52).bind fun t53 =>
  (binP .geq t53 (AV.int .i64 0)).bind fun t54 =>
  (gV (gdW t54 true) (faP 2 t3) (.tup [])).bind fun t56 =>
  (gV (gdW t54 true) (ldS h1 t56) (.tup [])).bind fun t57 =>
  (gV (gdW t54 true) (some x0) (.tup [])).bind fun t58 =>
  (gV (gdW t54 true) (nilV t58) (.tup [])).bind fun t59 =>
  (gV (gdW t54 true) (faP 0 t59) (.tup [])).bind fun t60 =>
  (gV (gdW t54 true) (faP 1 t60) (.tup [])).bind fun t61 =>
  (gV (gdW t54 true) (ldS h1 t61) (.tup [])).bind fun t62 =>
  (gV (gdW t54 true) (lnL t62) (.tup [])).bind fun t63 =>
  (gV (gdW t54 true) (binP .lss t57 t63) (.tup [])).bind fun t64 =>
  (pickP t54 t64 (AV.bool false)).bind fun t65 =>
  chk [h1] [] (
  some (t65, h1))) (
  (eqP (some (.int .i64)) none false .eql t15 (AV.int .i64 35)).bind fun t67 =>
  condE t67 (
  (faP 1 t3).bind fun t68 =>
  (ldS h1 t68).bind fun t69 =>
  (binP .geq t69 (AV.int .i64 0)).bind fun t70 =>
  (gV (gdW t70 true) (faP 1 t3) (.tup [])).bind fun t72 =>
  (gV (gdW t70 true) (ldS h1 t72) (.tup [])).bind fun t73 =>
  (gV (gdW t70 true) (some x0) (.tup [])).bind fun t74 =>
  (gV (gdW t70 true) (nilV t74) (.tup [])).bind fun t75 =>
  (gV (gdW t70 true) (faP 0 t75) (.tup [])).bind fun t76 =>
  (gV (gdW t70 true) (faP 1 t76) (.tup [])).bind fun t77 =>
  (gV (gdW t70 true) (ldS h1 t77) (.tup [])).bind fun t78 =>
  (gV (gdW t70 true) (lnL t78) (.tup [])).bind fun t79 =>
  (gV (gdW t70 true) (binP .lss t73 t79) (.tup [])).bind fun t80 =>
  (pickP t70 t80 (AV.bool false)).bind fun t81 =>
  chk [h1] [] (
  some (t81, h1))) (
  (eqP (some (.int .i64)) none false .eql t15 (AV.int .i64 20)).bind fun t83 =>
  condE t83 (
  (faP 2 t3).bind fun t86 =>
  (ldS h1 t86).bind fun t87 =>
  cl (k_verify_checker_fn x0 t87 h1) fun t88 h5 =>
  (extractV 0 t88).bind fun t89 =>
  (extractV 1 t88).bind fun t90 =>
  mk Heap.new (some (Blk.cells true [(AV.int .i64 0), (AV.int .i64 0), (AV.int .i64 0), (AV.int .i64 0), (AV.sl none 0 (.ex 0)), (AV.sl none 0 (.ex 0)), (AV.sl none 0 (.ex 0))], fun i => AV.ptr (some (i, 0)))) h5 fun t4 h6 =>
  cl (stP 7 h6 t4 t89) fun u_7 h8 =>
  gQ (gdW t90 true) h8 ((faP 1 t4).bind fun t93 =>
  some (t93, h8)) fun t93_9 h10 =>
  gQ (gdW t90 true) h10 ((ldS h10 t93_9).bind fun t94 =>
  some (t94, h10)) fun t94_11 h12 =>
  gQ (gdW t90 true) h12 ((eqP (some (.int .i64)) none false .eql t94_11 (AV.int .i64 0)).bind fun t95 =>
  some (t95, h12)) fun t95_13 h14 =>
  (pickP t90 t95_13 (AV.bool false)).bind fun t96 =>
  some (t96, h14)) (
  (eqP (some (.int .i64)) none false .eql t15 (AV.int .i64 23)).bind fun t98 =>
  condE t98 (
  (faP 1 t3).bind fun t101 =>
  (ldS h1 t101).bind fun t102 =>
  cl (k_verify_checker_fn x0 t102 h1) fun t103 h15 =>
  (extractV 0 t103).bind fun t104 =>
  (extractV 1 t103).bind fun t105 =>
  mk Heap.new (some (Blk.cells true [(AV.int .i64 0), (AV.int .i64 0), (AV.int .i64 0), (AV.int .i64 0), (AV.sl none 0 (.ex 0)), (AV.sl none 0 (.ex 0)), (AV.sl none 0 (.ex 0))], fun i => AV.ptr (some (i, 0)))) h15 fun t6 h16 =>
  cl (stP 7 h16 t6 t104) fun u_17 h18 =>
  gQ (gdW t105 true) h18 ((faP 1 t6).bind fun t108 =>
  some (t108, h18)) fun t108_19 h20 =>
  gQ (gdW t105 true) h20 ((ldS h20 t108_19).bind fun t109 =>
  some (t109, h20)) fun t109_21 h22 =>
  gQ (gdW t105 true) h22 ((eqP (some (.int .i64)) none false .eql t109_21 (AV.int .i64 0)).bind fun t110 =>
  some (t110, h22)) fun t110_23 h24 =>
  (pickP t105 t110_23 (AV.bool false)).bind fun t111 =>
  gQ (gdW t111 true) h24 ((faP 3 t6).bind fun t113 =>
  some (t113, h24)) fun t113_25 h26 =>
  gQ (gdW t111 true) h26 ((ldS h26 t113_25).bind fun t114 =>
  some (t114, h26)) fun t114_27 h28 =>
  gQ (gdW t111 true) h28 ((eqP (some (.int .i64)) none false .eql t114_27 (AV.int .i64 0)).bind fun t115 =>
  some (t115, h28)) fun t115_29 h30 =>
  (pickP t111 t115_29 (AV.bool false)).bind fun t116 =>
  some (t116, h30)) (
  (eqP (some (.int .i64)) none false .eql t15 (AV.int .i64 36)).bind fun t118 =>
  condE t118 (
  (faP 2 t3).bind fun t121 =>
  (ldS h1 t121).bind fun t122 =>
  cl (k_verify_checker_fn x0 t122 h1) fun t123 h31 =>
  (extractV 0 t123).bind fun t124 =>
  (extractV 1 t123).bind fun t125 =>
  mk Heap.new (some (Blk.cells true [(AV.int .i64 0), (AV.int .i64 0), (AV.int .i64 0), (AV.int .i64 0), (AV.sl none 0 (.ex 0)), (AV.sl none 0 (.ex 0)), (AV.sl none 0 (.ex 0))], fun i => AV.ptr (some (i, 0)))) h31 fun t8 h32 =>
  cl (stP 7 h32 t8 t124) fun u_33 h34 =>
  some (t125, h34)) (
  (eqP (some (.int .i64)) none false .eql t15 (AV.int .i64 21)).bind fun t128 =>
  condE t128 (
  (faP 4 t3).bind fun t129 =>
  (ldS h1 t129).bind fun t130 =>
  (binP .geq t130 (AV.int .i64 0)).bind fun t131 =>
  some (t131, h1)) (
  (eqP (some (.int .i64)) none false .eql t15 (AV.int .i64 24)).bind fun t133 =>
  condE t133 (
  (faP 3 t3).bind fun t134 =>
  (ldS h1 t134).bind fun t135 =>
  (binP .geq t135 (AV.int .i64 0)).bind fun t136 =>
  some (t136, h1)) (
  (eqP (some (.int .i64)) none false .eql t15 (AV.int .i64 44)).bind fun t138 =>
  condE t138 (
  (faP 1 t3).bind fun t139 =>
  (ldS h1 t139).bind fun t140 =>
  (binP .geq t140 (AV.int .i64 1)).bind fun t141 =>
  gQ (gdW t141 true) h1 ((faP 1 t3).bind fun t143 =>
  some (t143, h1)) fun t143_35 h36 =>
  gQ (gdW t141 true) h36 ((ldS h36 t143_35).bind fun t144 =>
  some (t144, h36)) fun t144_37 h38 =>
  gQ (gdW t141 true) h38 ((binP .leq t144_37 (AV.int .i64 6)).bind fun t145 =>
  some (t145, h38)) fun t145_39 h40 =>
  (pickP t141 t145_39 (AV.bool false)).bind fun t146 =>
  some (t146, h40)) (
  (eqP (some (.int .i64)) none false .eql t15 (AV.int .i64 41)).bind fun t148 =>
  condE t148 (
  cl (k_verify_checker_fresh x0 h1) fun t150 h41 =>
  some (t150, h41)) (
  some ((AV.bool true), h1))))))))))))))
def T68 : Tab := (80, p1 k_verify_checker_there) :: T67
/- 124: (*gantline/verify.checker).args -/
def k_verify_checker_args_b0 (x0 : AV) (x2 : AV) (x3 : AV) (x4 : AV) (t6 : AV) (q10 : AV) (q13 : AV) (h1 : Heap) : OutV :=
  (binP .lss q13 x4).bind fun t14 =>
  condE t14 (
  (nilV x0).bind fun t17 =>
  (faP 6 t17).bind fun t18 =>
  (faP 4 t18).bind fun t19 =>
  (ldS h1 t19).bind fun t20 =>
  (binP .add x3 q13).bind fun t23 =>
  (iaS 1 t20 t23).bind fun t24 =>
  (ldS h1 t24).bind fun t25 =>
  (faP 4 t6).bind fun t26 =>
  (ldS h1 t26).bind fun t27 =>
  (binP .add x2 q13).bind fun t30 =>
  (iaS 1 t27 t30).bind fun t31 =>
  (ldS h1 t31).bind fun t32 =>
  (eqP (some .bool) none false .neq t25 t32).bind fun t33 =>
  chk [h1] [] (
  condE t33 (
  some (.ret, [(AV.bool false), q13], h1)) (
  (binP .add q13 (AV.int .i64 1)).bind fun t34 =>
  some (.normal, [q10, t34], h1)))) (
  some ((.exit 0), [q10, q13], h1))
def k_verify_checker_args_L0 (x0 : AV) (x2 : AV) (x3 : AV) (x4 : AV) (t6 : AV) (q10 : AV) (q13 : AV) (h1 : Heap) : OutV := loopN (fun us g => k_verify_checker_args_b0 x0 x2 x3 x4 t6 (us.getD 0 .bot) (us.getD 1 .bot) g) [q10, q13] h1
def k_verify_checker_args (x0 : AV) (x1 : AV) (x2 : AV) (x3 : AV) (x4 : AV) (h : Heap) : Option (AV × Heap) :=
  mk Heap.new (bxP x1) h fun t6 h0 =>
  lp (k_verify_checker_args_L0 x0 x2 x3 x4 t6 (AV.bool false) (AV.int .i64 0) h0) fun e vs h2 =>
  thenK (if e = .exit 0 then .normal else e) (
  some ((AV.bool true), h2)) (fun e_3 => endE e_3 (some ((vs.getD 0 .bot), h2)))
def T69 : Tab := (124, p5 k_verify_checker_args) :: T68
/- 108: (*gantline/verify.checker).calls -/
def k_verify_checker_calls (x0 : AV) (h : Heap) : Option (AV × Heap) :=
  (nilV x0).bind fun t11 =>
  (faP 17 t11).bind fun t12 =>
  (ldA 5 h t12).bind fun t13 =>
  mk Heap.new (some (Blk.cells true [(AV.int .i64 0), (AV.int .i64 0), (AV.int .i64 0), (AV.int .i64 0), (AV.int .i64 0)], fun i => AV.ptr (some (i, 0)))) h fun t3 h0 =>
  cl (stP 5 h0 t3 t13) fun u h1 =>
  (faP 0 t3).bind fun t14 =>
  (ldS h1 t14).bind fun t15 =>
  (eqP (some (.int .i64)) none false .eql t15 (AV.int .i64 20)).bind fun t17 =>
  condE t17 (
  (faP 2 t3).bind fun t20 =>
  (ldS h1 t20).bind fun t21 =>
  cl (k_verify_checker_fn x0 t21 h1) fun t22 h2 =>
  (extractV 0 t22).bind fun t23 =>
  (extractV 1 t22).bind fun t24 =>
  mk Heap.new (some (Blk.cells true [(AV.int .i64 0), (AV.int .i64 0), (AV.int .i64 0), (AV.int .i64 0), (AV.sl none 0 (.ex 0)), (AV.sl none 0 (.ex 0)), (AV.sl none 0 (.ex 0))], fun i => AV.ptr (some (i, 0)))) h2 fun t4 h3 =>
  cl (stP 7 h3 t4 t23) fun u_4 h5 =>
  (ldA 7 h5 t4).bind fun t26 =>
  (faP 3 t3).bind fun t27 =>
  (ldS h5 t27).bind fun t28 =>
  (faP 0 t4).bind fun t29 =>
  (ldS h5 t29).bind fun t30 =>
  cl (k_verify_checker_args x0 t26 (AV.int .i64 0) t28 t30 h5) fun t31 h6 =>
  (unA .not t31).bind fun t32 =>
  condE t32 (
  some ((AV.bool false), h6)) (
  (faP 1 t3).bind fun t33 =>
  (ldS h6 t33).bind fun t34 =>
  (eqP (some (.int .i64)) none false .eql t34 (AV.int .i64 (-1))).bind fun t35 =>
  gQ (gdW t35 false) h6 ((faP 3 t4).bind fun t37 =>
  some (t37, h6)) fun t37_7 h8 =>
  gQ (gdW t35 false) h8 ((ldS h8 t37_7).bind fun t38 =>
  some (t38, h8)) fun t38_9 h10 =>
  gQ (gdW t35 false) h10 ((binP .gtr t38_9 (AV.int .i64 0)).bind fun t39 =>
  some (t39, h10)) fun t39_11 h12 =>
  gQ (gdW t35 false) h12 (some (t39_11, h12)) fun t40 h13 =>
  gQ (gdW t40 true) h13 (some (x0, h13)) fun t41 h14 =>
  gQ (gdW t40 true) h14 ((faP 3 t4).bind fun t42 =>
  some (t42, h14)) fun t42_15 h16 =>
  gQ (gdW t40 true) h16 ((ldS h16 t42_15).bind fun t43 =>
  some (t43, h16)) fun t43_17 h18 =>
  gQ (gdW t40 true) h18 ((eqP (some (.int .i64)) none false .eql t43_17 (AV.int .i64 2)).bind fun t44 =>
  some (t44, h18)) fun t44_19 h20 =>
  gQ (gdW t40 true) h20 ((faP 1 t3).bind fun t45 =>
  some (t45, h20)) fun t45_21 h22 =>
  gQ (gdW t40 true) h22 ((ldS h22 t45_21).bind fun t46 =>
  some (t46, h22)) fun t46_23 h24 =>
  gQ (gdW t40 true) h24 (mk Heap.new (bsP 1 [(AV.int .i64 0)] 1 [(0, t46_23)]) h24 fun t47 h25 =>
  some (t47, h25)) fun t47_26 h27 =>
  gQ (gdW t40 true) h27 (cl (k_verify_checker_is t41 t44_19 t47_26 h27) fun t48 h28 =>
  some (t48, h28)) fun t48_29 h30 =>
  gQ (gdW t35 false) h30 ((pickP t40 t48_29 (AV.bool false)).bind fun t49 =>
  some (t49, h30)) fun t49_31 h32 =>
  (pickP t35 (AV.bool true) t49_31).bind fun t50 =>
  some (t50, h32))) (
  (eqP (some (.int .i64)) none false .eql t15 (AV.int .i64 23)).bind fun t52 =>
  condE t52 (
  (faP 1 t3).bind fun t55 =>
  (ldS h1 t55).bind fun t56 =>
  cl (k_verify_checker_fn x0 t56 h1) fun t57 h33 =>
  (extractV 0 t57).bind fun t58 =>
  (extractV 1 t57).bind fun t59 =>
  mk Heap.new (some (Blk.cells true [(AV.int .i64 0), (AV.int .i64 0), (AV.int .i64 0), (AV.int .i64 0), (AV.sl none 0 (.ex 0)), (AV.sl none 0 (.ex 0)), (AV.sl none 0 (.ex 0))], fun i => AV.ptr (some (i, 0)))) h33 fun t6 h34 =>
  cl (stP 7 h34 t6 t58) fun u_35 h36 =>
  (ldA 7 h36 t6).bind fun t61 =>
  (faP 2 t3).bind fun t62 =>
  (ldS h36 t62).bind fun t63 =>
  (faP 0 t6).bind fun t64 =>
  (ldS h36 t64).bind fun t65 =>
  cl (k_verify_checker_args x0 t61 (AV.int .i64 0) t63 t65 h36) fun t66 h37 =>
  some (t66, h37)) (
  (eqP (some (.int .i64)) none false .eql t15 (AV.int .i64 36)).bind fun t68 =>
  condE t68 (
  (faP 2 t3).bind fun t71 =>
  (ldS h1 t71).bind fun t72 =>
  cl (k_verify_checker_fn x0 t72 h1) fun t73 h38 =>
  (extractV 0 t73).bind fun t74 =>
  (extractV 1 t73).bind fun t75 =>
  mk Heap.new (some (Blk.cells true [(AV.int .i64 0), (AV.int .i64 0), (AV.int .i64 0), (AV.int .i64 0), (AV.sl none 0 (.ex 0)), (AV.sl none 0 (.ex 0)), (AV.sl none 0 (.ex 0))], fun i => AV.ptr (some (i, 0)))) h38 fun t8 h39 =>
  cl (stP 7 h39 t8 t74) fun u_40 h41 =>
  (faP 1 t3).bind fun t77 =>
  (ldS h41 t77).bind fun t78 =>
  mk Heap.new (bsP 1 [(AV.int .i64 0)] 1 [(0, t78)]) h41 fun t79 h42 =>
  cl (k_verify_checker_is x0 (AV.bool true) t79 h42) fun t80 h43 =>
  gQ (gdW t80 true) h43 (some (x0, h43)) fun t82 h44 =>
  gQ (gdW t80 true) h44 ((ldA 7 h44 t8).bind fun t83 =>
  some (t83, h44)) fun t83_45 h46 =>
  gQ (gdW t80 true) h46 ((faP 0 t8).bind fun t84 =>
  some (t84, h46)) fun t84_47 h48 =>
  gQ (gdW t80 true) h48 ((ldS h48 t84_47).bind fun t85 =>
  some (t85, h48)) fun t85_49 h50 =>
  gQ (gdW t80 true) h50 ((faP 3 t3).bind fun t86 =>
  some (t86, h50)) fun t86_51 h52 =>
  gQ (gdW t80 true) h52 ((ldS h52 t86_51).bind fun t87 =>
  some (t87, h52)) fun t87_53 h54 =>
  gQ (gdW t80 true) h54 ((faP 1 t8).bind fun t88 =>
  some (t88, h54)) fun t88_55 h56 =>
  gQ (gdW t80 true) h56 ((ldS h56 t88_55).bind fun t89 =>
  some (t89, h56)) fun t89_57 h58 =>
  gQ (gdW t80 true) h58 (cl (k_verify_checker_args t82 t83_45 t85_49 t87_53 t89_57 h58) fun t90 h59 =>
  some (t90, h59)) fun t90_60 h61 =>
  (pickP t80 t90_60 (AV.bool false)).bind fun t91 =>
  some (t91, h61)) (
  (eqP (some (.int .i64)) none false .eql t15 (AV.int .i64 22)).bind fun t93 =>
  condE t93 (
  (faP 1 t3).bind fun t94 =>
  (ldS h1 t94).bind fun t95 =>
  (eqP (some (.int .i64)) none false .eql t95 (AV.int .i64 (-1))).bind fun t96 =>
  condE t96 (
  (nilV x0).bind fun t98 =>
  (faP 6 t98).bind fun t99 =>
  (faP 3 t99).bind fun t100 =>
  (ldS h1 t100).bind fun t101 =>
  (eqP (some (.int .i64)) none false .eql t101 (AV.int .i64 0)).bind fun t102 =>
  some (t102, h1)) (
  (nilV x0).bind fun t104 =>
  (faP 6 t104).bind fun t105 =>
  (faP 3 t105).bind fun t106 =>
  (ldS (hpN h1 1) t106).bind fun t107 =>
  (binP .gtr t107 (AV.int .i64 0)).bind fun t108 =>
  (gV (gdW t108 true) (some x0) (.tup [])).bind fun t110 =>
  (gV (gdW t108 true) (some x0) (.tup [])).bind fun t111 =>
  (gV (gdW t108 true) (nilV t111) (.tup [])).bind fun t112 =>
  (gV (gdW t108 true) (faP 6 t112) (.tup [])).bind fun t113 =>
  (gV (gdW t108 true) (faP 3 t113) (.tup [])).bind fun t114 =>
  (gV (gdW t108 true) (ldS (hpN h1 1) t114) (.tup [])).bind fun t115 =>
  (gV (gdW t108 true) (eqP (some (.int .i64)) none false .eql t115 (AV.int .i64 2)) (.tup [])).bind fun t116 =>
  (gV (gdW t108 true) (faP 1 t3) (.tup [])).bind fun t117 =>
  (gV (gdW t108 true) (ldS (hpN h1 1) t117) (.tup [])).bind fun t118 =>
  cl (gV (gdW t108 true) (mkAt Heap.put (bsP 1 [(AV.int .i64 0)] 1 [(0, t118)]) (h1.next + 0) (hpN h1 1)) (.tup [], (hpN h1 1))) fun t119 h62 =>
  gQ (gdW t108 true) h62 (cl (k_verify_checker_is t110 t116 t119 h62) fun t120 h63 =>
  some (t120, h63)) fun t120_64 h65 =>
  (pickP t108 t120_64 (AV.bool false)).bind fun t121 =>
  chk [(hpN h1 1), h65] [] (
  some (t121, h65)))) (
  some ((AV.bool true), h1)))))
def T70 : Tab := (108, p1 k_verify_checker_calls) :: T69
/- 81: (*gantline/verify.checker).kinds -/
def k_verify_checker_kinds (x0 : AV) (h : Heap) : Option (AV × Heap) :=
  mk Heap.new (bxP x0) h fun t1 h0 =>
  (ldS h0 t1).bind fun t7 =>
  (nilV t7).bind fun t8 =>
  (faP 17 t8).bind fun t9 =>
  (ldA 5 h0 t9).bind fun t10 =>
  mk Heap.new (some (Blk.cells true [(AV.int .i64 0), (AV.int .i64 0), (AV.int .i64 0), (AV.int .i64 0), (AV.int .i64 0)], fun i => AV.ptr (some (i, 0)))) h0 fun t3 h1 =>
  cl (stP 5 h1 t3 t10) fun u h2 =>
  (faP 0 t3).bind fun t11 =>
  (ldS h2 t11).bind fun t12 =>
  (eqP (some (.int .i64)) none false .eql t12 (AV.int .i64 0)).bind fun t15 =>
  gQ (gdW t15 false) h2 (some (t12, h2)) fun t17 h3 =>
  gQ (gdW t15 false) h3 ((eqP (some (.int .i64)) none false .eql t17 (AV.int .i64 19)).bind fun t18 =>
  some (t18, h3)) fun t18_4 h5 =>
  (pickP t15 (AV.bool true) t18_4).bind fun t19 =>
  gQ (gdW t19 false) h5 (some (t12, h5)) fun t21 h6 =>
  gQ (gdW t19 false) h6 ((eqP (some (.int .i64)) none false .eql t21 (AV.int .i64 42)).bind fun t22 =>
  some (t22, h6)) fun t22_7 h8 =>
  (pickP t19 (AV.bool true) t22_7).bind fun t23 =>
  condE t23 (
  (ldS h8 t1).bind fun t24 =>
  (faP 1 t3).bind fun t25 =>
  (ldS h8 t25).bind fun t26 =>
  mk Heap.new (bsP 1 [(AV.int .i64 0)] 1 [(0, t26)]) h8 fun t27 h9 =>
  cl (k_verify_checker_is t24 (AV.bool false) t27 h9) fun t28 h10 =>
  some (t28, h10)) (
  (eqP (some (.int .i64)) none false .eql t12 (AV.int .i64 1)).bind fun t31 =>
  condE t31 (
  (ldS (hpN h8 1) t1).bind fun t32 =>
  (ldS (hpN h8 1) t1).bind fun t33 =>
  (nilV t33).bind fun t34 =>
  (faP 6 t34).bind fun t35 =>
  (faP 4 t35).bind fun t36 =>
  (ldS (hpN h8 1) t36).bind fun t37 =>
  (faP 2 t3).bind fun t38 =>
  (ldS (hpN h8 1) t38).bind fun t39 =>
  (iaS 1 t37 t39).bind fun t40 =>
  (ldS (hpN h8 1) t40).bind fun t41 =>
  (faP 1 t3).bind fun t42 =>
  (ldS (hpN h8 1) t42).bind fun t43 =>
  cl (mkAt Heap.put (bsP 1 [(AV.int .i64 0)] 1 [(0, t43)]) (h8.next + 0) (hpN h8 1)) fun t44 h11 =>
  cl (k_verify_checker_is t32 t41 t44 h11) fun t45 h12 =>
  chk [(hpN h8 1), h12] [] (
  some (t45, h12))) (
  (eqP (some (.int .i64)) none false .eql t12 (AV.int .i64 2)).bind fun t48 =>
  gQ (gdW t48 false) h8 (some (t12, h8)) fun t50 h13 =>
  gQ (gdW t48 false) h13 ((eqP (some (.int .i64)) none false .eql t50 (AV.int .i64 25)).bind fun t51 =>
  some (t51, h13)) fun t51_14 h15 =>
  (pickP t48 (AV.bool true) t51_14).bind fun t52 =>
  gQ (gdW t52 false) h15 (some (t12, h15)) fun t54 h16 =>
  gQ (gdW t52 false) h16 ((eqP (some (.int .i64)) none false .eql t54 (AV.int .i64 40)).bind fun t55 =>
  some (t55, h16)) fun t55_17 h18 =>
  (pickP t52 (AV.bool true) t55_17).bind fun t56 =>
  condE t56 (
  (ldS h18 t1).bind fun t57 =>
  (faP 1 t3).bind fun t58 =>
  (ldS h18 t58).bind fun t59 =>
  mk Heap.new (bsP 1 [(AV.int .i64 0)] 1 [(0, t59)]) h18 fun t60 h19 =>
  cl (k_verify_checker_is t57 (AV.bool true) t60 h19) fun t61 h20 =>
  some (t61, h20)) (
  (binP .geq t12 (AV.int .i64 3)).bind fun t64 =>
  gQ (gdW t64 true) h18 (some (t12, h18)) fun t66 h21 =>
  gQ (gdW t64 true) h21 ((binP .leq t66 (AV.int .i64 15)).bind fun t67 =>
  some (t67, h21)) fun t67_22 h23 =>
  (pickP t64 t67_22 (AV.bool false)).bind fun t68 =>
  condE t68 (
  (ldS h23 t1).bind fun t69 =>
  (faP 1 t3).bind fun t70 =>
  (ldS h23 t70).bind fun t71 =>
  (faP 2 t3).bind fun t72 =>
  (ldS h23 t72).bind fun t73 =>
  (faP 3 t3).bind fun t74 =>
  (ldS h23 t74).bind fun t75 =>
  mk Heap.new (bsP 1 [(AV.int .i64 0)] 3 [(0, t71), (1, t73), (2, t75)]) h23 fun t76 h24 =>
  cl (k_verify_checker_is t69 (AV.bool false) t76 h24) fun t77 h25 =>
  some (t77, h25)) (
  (eqP (some (.int .i64)) none false .eql t12 (AV.int .i64 16)).bind fun t80 =>
  condE t80 (
  (ldS h23 t1).bind fun t81 =>
  (faP 1 t3).bind fun t82 =>
  (ldS h23 t82).bind fun t83 =>
  mk Heap.new (bsP 1 [(AV.int .i64 0)] 1 [(0, t83)]) h23 fun t84 h26 =>
  cl (k_verify_checker_is t81 (AV.bool false) t84 h26) fun t85 h27 =>
  gQ (gdW t85 true) h27 ((ldS h27 t1).bind fun t87 =>
  some (t87, h27)) fun t87_28 h29 =>
  gQ (gdW t85 true) h29 ((faP 2 t3).bind fun t88 =>
  some (t88, h29)) fun t88_30 h31 =>
  gQ (gdW t85 true) h31 ((ldS h31 t88_30).bind fun t89 =>
  some (t89, h31)) fun t89_32 h33 =>
  gQ (gdW t85 true) h33 ((faP 3 t3).bind fun t90 =>
  some (t90, h33)) fun t90_34 h35 =>
  gQ (gdW t85 true) h35 ((ldS h35 t90_34).bind fun t91 =>
  some (t91, h35)) fun t91_36 h37 =>
  gQ (gdW t85 true) h37 (mk Heap.new (bsP 1 [(AV.int .i64 0)] 2 [(0, t89_32), (1, t91_36)]) h37 fun t92 h38 =>
  some (t92, h38)) fun t92_39 h40 =>
  gQ (gdW t85 true) h40 (cl (k_verify_checker_is t87_28 (AV.bool true) t92_39 h40) fun t93 h41 =>
  some (t93, h41)) fun t93_42 h43 =>
  (pickP t85 t93_42 (AV.bool false)).bind fun t94 =>
  some (t94, h43)) (
  (eqP (some (.int .i64)) none false .eql t12 (AV.int .i64 17)).bind fun t97 =>
  condE t97 (
  (ldS h23 t1).bind fun t98 =>
  (faP 1 t3).bind fun t99 =>
  (ldS h23 t99).bind fun t100 =>
  (faP 2 t3).bind fun t101 =>
  (ldS h23 t101).bind fun t102 =>
  mk Heap.new (bsP 1 [(AV.int .i64 0)] 2 [(0, t100), (1, t102)]) h23 fun t103 h44 =>
  cl (k_verify_checker_is t98 (AV.bool false) t103 h44) fun t104 h45 =>
  some (t104, h45)) (
  (eqP (some (.int .i64)) none false .eql t12 (AV.int .i64 26)).bind fun t107 =>
  gQ (gdW t107 false) h23 (some (t12, h23)) fun t109 h46 =>
  gQ (gdW t107 false) h46 ((eqP (some (.int .i64)) none false .eql t109 (AV.int .i64 37)).bind fun t110 =>
  some (t110, h46)) fun t110_47 h48 =>
  (pickP t107 (AV.bool true) t110_47).bind fun t111 =>
  condE t111 (
  (ldS h48 t1).bind fun t112 =>
  (faP 1 t3).bind fun t113 =>
  (ldS h48 t113).bind fun t114 =>
  mk Heap.new (bsP 1 [(AV.int .i64 0)] 1 [(0, t114)]) h48 fun t115 h49 =>
  cl (k_verify_checker_is t112 (AV.bool true) t115 h49) fun t116 h50 =>
  gQ (gdW t116 true) h50 ((ldS h50 t1).bind fun t118 =>
  some (t118, h50)) fun t118_51 h52 =>
  gQ (gdW t116 true) h52 ((faP 3 t3).bind fun t119 =>
  some (t119, h52)) fun t119_53 h54 =>
  gQ (gdW t116 true) h54 ((ldS h54 t119_53).bind fun t120 =>
  some (t120, h54)) fun t120_55 h56 =>
  gQ (gdW t116 true) h56 (mk Heap.new (bsP 1 [(AV.int .i64 0)] 1 [(0, t120_55)]) h56 fun t121 h57 =>
  some (t121, h57)) fun t121_58 h59 =>
  gQ (gdW t116 true) h59 (cl (k_verify_checker_is t118_51 (AV.bool false) t121_58 h59) fun t122 h60 =>
  some (t122, h60)) fun t122_61 h62 =>
  (pickP t116 t122_61 (AV.bool false)).bind fun t123 =>
  some (t123, h62)) (
  (eqP (some (.int .i64)) none false .eql t12 (AV.int .i64 27)).bind fun t126 =>
  gQ (gdW t126 false) h48 (some (t12, h48)) fun t128 h63 =>
  gQ (gdW t126 false) h63 ((eqP (some (.int .i64)) none false .eql t128 (AV.int .i64 21)).bind fun t129 =>
  some (t129, h63)) fun t129_64 h65 =>
  (pickP t126 (AV.bool true) t129_64).bind fun t130 =>
  condE t130 (
  (ldS h65 t1).bind fun t131 =>
  (faP 2 t3).bind fun t132 =>
  (ldS h65 t132).bind fun t133 =>
  mk Heap.new (bsP 1 [(AV.int .i64 0)] 1 [(0, t133)]) h65 fun t134 h66 =>
  cl (k_verify_checker_is t131 (AV.bool true) t134 h66) fun t135 h67 =>
  some (t135, h67)) (
  (eqP (some (.int .i64)) none false .eql t12 (AV.int .i64 28)).bind fun t138 =>
  gQ (gdW t138 false) h65 (some (t12, h65)) fun t140 h68 =>
  gQ (gdW t138 false) h68 ((eqP (some (.int .i64)) none false .eql t140 (AV.int .i64 29)).bind fun t141 =>
  some (t141, h68)) fun t141_69 h70 =>
  (pickP t138 (AV.bool true) t141_69).bind fun t142 =>
  gQ (gdW t142 false) h70 (some (t12, h70)) fun t144 h71 =>
  gQ (gdW t142 false) h71 ((eqP (some (.int .i64)) none false .eql t144 (AV.int .i64 24)).bind fun t145 =>
  some (t145, h71)) fun t145_72 h73 =>
  (pickP t142 (AV.bool true) t145_72).bind fun t146 =>
  gQ (gdW t146 false) h73 (some (t12, h73)) fun t148 h74 =>
  gQ (gdW t146 false) h74 ((eqP (some (.int .i64)) none false .eql t148 (AV.int .i64 38)).bind fun t149 =>
  some (t149, h74)) fun t149_75 h76 =>
  (pickP t146 (AV.bool true) t149_75).bind fun t150 =>
  condE t150 (
  (ldS h76 t1).bind fun t151 =>
  (faP 1 t3).bind fun t152 =>
  (ldS h76 t152).bind fun t153 =>
  mk Heap.new (bsP 1 [(AV.int .i64 0)] 1 [(0, t153)]) h76 fun t154 h77 =>
  cl (k_verify_checker_is t151 (AV.bool true) t154 h77) fun t155 h78 =>
  some (t155, h78)) (
  (eqP (some (.int .i64)) none false .eql t12 (AV.int .i64 30)).bind fun t158 =>
  condE t158 (
  (ldS h76 t1).bind fun t159 =>
  (faP 2 t3).bind fun t160 =>
  (ldS h76 t160).bind fun t161 =>
  mk Heap.new (bsP 1 [(AV.int .i64 0)] 1 [(0, t161)]) h76 fun t162 h79 =>
  cl (k_verify_checker_is t159 (AV.bool true) t162 h79) fun t163 h80 =>
  gQ (gdW t163 true) h80 ((ldS h80 t1).bind fun t165 =>
  some (t165, h80)) fun t165_81 h82 =>
  gQ (gdW t163 true) h82 ((faP 3 t3).bind fun t166 =>
  some (t166, h82)) fun t166_83 h84 =>
  gQ (gdW t163 true) h84 ((ldS h84 t166_83).bind fun t167 =>
  some (t167, h84)) fun t167_85 h86 =>
  gQ (gdW t163 true) h86 (mk Heap.new (bsP 1 [(AV.int .i64 0)] 1 [(0, t167_85)]) h86 fun t168 h87 =>
  some (t168, h87)) fun t168_88 h89 =>
  gQ (gdW t163 true) h89 (cl (k_verify_checker_is t165_81 (AV.bool false) t168_88 h89) fun t169 h90 =>
  some (t169, h90)) fun t169_91 h92 =>
  (pickP t163 t169_91 (AV.bool false)).bind fun t170 =>
  some (t170, h92)) (
  (eqP (some (.int .i64)) none false .eql t12 (AV.int .i64 31)).bind fun t173 =>
  gQ (gdW t173 false) h76 (some (t12, h76)) fun t175 h93 =>
  gQ (gdW t173 false) h93 ((eqP (some (.int .i64)) none false .eql t175 (AV.int .i64 32)).bind fun t176 =>
  some (t176, h93)) fun t176_94 h95 =>
  (pickP t173 (AV.bool true) t176_94).bind fun t177 =>
  condE t177 (
  (ldS h95 t1).bind fun t178 =>
  (faP 1 t3).bind fun t179 =>
  (ldS h95 t179).bind fun t180 =>
  mk Heap.new (bsP 1 [(AV.int .i64 0)] 1 [(0, t180)]) h95 fun t181 h96 =>
  cl (k_verify_checker_is t178 (AV.bool true) t181 h96) fun t182 h97 =>
  gQ (gdW t182 true) h97 ((ldS h97 t1).bind fun t184 =>
  some (t184, h97)) fun t184_98 h99 =>
  gQ (gdW t182 true) h99 ((faP 2 t3).bind fun t185 =>
  some (t185, h99)) fun t185_100 h101 =>
  gQ (gdW t182 true) h101 ((ldS h101 t185_100).bind fun t186 =>
  some (t186, h101)) fun t186_102 h103 =>
  gQ (gdW t182 true) h103 (mk Heap.new (bsP 1 [(AV.int .i64 0)] 1 [(0, t186_102)]) h103 fun t187 h104 =>
  some (t187, h104)) fun t187_105 h106 =>
  gQ (gdW t182 true) h106 (cl (k_verify_checker_is t184_98 (AV.bool false) t187_105 h106) fun t188 h107 =>
  some (t188, h107)) fun t188_108 h109 =>
  (pickP t182 t188_108 (AV.bool false)).bind fun t189 =>
  some (t189, h109)) (
  (eqP (some (.int .i64)) none false .eql t12 (AV.int .i64 33)).bind fun t192 =>
  condE t192 (
  (ldS h95 t1).bind fun t193 =>
  (faP 1 t3).bind fun t194 =>
  (ldS h95 t194).bind fun t195 =>
  mk Heap.new (bsP 1 [(AV.int .i64 0)] 1 [(0, t195)]) h95 fun t196 h110 =>
  cl (k_verify_checker_is t193 (AV.bool false) t196 h110) fun t197 h111 =>
  gQ (gdW t197 true) h111 ((ldS h111 t1).bind fun t199 =>
  some (t199, h111)) fun t199_112 h113 =>
  gQ (gdW t197 true) h113 ((faP 2 t3).bind fun t200 =>
  some (t200, h113)) fun t200_114 h115 =>
  gQ (gdW t197 true) h115 ((ldS h115 t200_114).bind fun t201 =>
  some (t201, h115)) fun t201_116 h117 =>
  gQ (gdW t197 true) h117 (mk Heap.new (bsP 1 [(AV.int .i64 0)] 1 [(0, t201_116)]) h117 fun t202 h118 =>
  some (t202, h118)) fun t202_119 h120 =>
  gQ (gdW t197 true) h120 (cl (k_verify_checker_is t199_112 (AV.bool true) t202_119 h120) fun t203 h121 =>
  some (t203, h121)) fun t203_122 h123 =>
  (pickP t197 t203_122 (AV.bool false)).bind fun t204 =>
  some (t204, h123)) (
  (eqP (some (.int .i64)) none false .eql t12 (AV.int .i64 34)).bind fun t207 =>
  condE t207 (
  (ldS (hpN h95 1) t1).bind fun t208 =>
  (ldS (hpN h95 1) t1).bind fun t209 =>
  (nilV t209).bind fun t210 =>
  (faP 0 t210).bind fun t211 =>
  (faP 1 t211).bind fun t212 =>
  (ldS (hpN h95 1) t212).bind fun t213 =>
  (faP 2 t3).bind fun t214 =>
  (ldS (hpN h95 1) t214).bind fun t215 =>
  (iaS 1 t213 t215).bind fun t216 =>
  (ldS (hpN h95 1) t216).bind fun t217 =>
  (faP 1 t3).bind fun t218 =>
  (ldS (hpN h95 1) t218).bind fun t219 =>
  cl (mkAt Heap.put (bsP 1 [(AV.int .i64 0)] 1 [(0, t219)]) (h95.next + 0) (hpN h95 1)) fun t220 h124 =>
  cl (k_verify_checker_is t208 t217 t220 h124) fun t221 h125 =>
  chk [(hpN h95 1), h125] [] (
  some (t221, h125))) (
  (eqP (some (.int .i64)) none false .eql t12 (AV.int .i64 35)).bind fun t224 =>
  condE t224 (
  (ldS (hpN h95 1) t1).bind fun t225 =>
  (ldS (hpN h95 1) t1).bind fun t226 =>
  (nilV t226).bind fun t227 =>
  (faP 0 t227).bind fun t228 =>
  (faP 1 t228).bind fun t229 =>
  (ldS (hpN h95 1) t229).bind fun t230 =>
  (faP 1 t3).bind fun t231 =>
  (ldS (hpN h95 1) t231).bind fun t232 =>
  (iaS 1 t230 t232).bind fun t233 =>
  (ldS (hpN h95 1) t233).bind fun t234 =>
  (faP 2 t3).bind fun t235 =>
  (ldS (hpN h95 1) t235).bind fun t236 =>
  cl (mkAt Heap.put (bsP 1 [(AV.int .i64 0)] 1 [(0, t236)]) (h95.next + 0) (hpN h95 1)) fun t237 h126 =>
  cl (k_verify_checker_is t225 t234 t237 h126) fun t238 h127 =>
  chk [(hpN h95 1), h127] [] (
  some (t238, h127))) (
  (eqP (some (.int .i64)) none false .eql t12 (AV.int .i64 39)).bind fun t241 =>
  condE t241 (
  (ldS h95 t1).bind fun t242 =>
  (faP 2 t3).bind fun t243 =>
  (ldS h95 t243).bind fun t244 =>
  mk Heap.new (bsP 1 [(AV.int .i64 0)] 1 [(0, t244)]) h95 fun t245 h128 =>
  cl (k_verify_checker_is t242 (AV.bool true) t245 h128) fun t246 h129 =>
  gQ (gdW t246 true) h129 ((faP 3 t3).bind fun t248 =>
  some (t248, h129)) fun t248_130 h131 =>
  gQ (gdW t246 true) h131 ((ldS h131 t248_130).bind fun t249 =>
  some (t249, h131)) fun t249_132 h133 =>
  gQ (gdW t246 true) h133 ((eqP (some (.int .i64)) none false .eql t249_132 (AV.int .i64 (-1))).bind fun t250 =>
  some (t250, h133)) fun t250_134 h135 =>
  gQ (gdW t246 true) h135 (some (t250_134, h135)) fun t251 h136 =>
  gQ (gdW t251 false) h136 ((ldS h136 t1).bind fun t252 =>
  some (t252, h136)) fun t252_137 h138 =>
  gQ (gdW t251 false) h138 ((faP 3 t3).bind fun t253 =>
  some (t253, h138)) fun t253_139 h140 =>
  gQ (gdW t251 false) h140 ((ldS h140 t253_139).bind fun t254 =>
  some (t254, h140)) fun t254_141 h142 =>
  gQ (gdW t251 false) h142 (mk Heap.new (bsP 1 [(AV.int .i64 0)] 1 [(0, t254_141)]) h142 fun t255 h143 =>
  some (t255, h143)) fun t255_144 h145 =>
  gQ (gdW t251 false) h145 (cl (k_verify_checker_is t252_137 (AV.bool false) t255_144 h145) fun t256 h146 =>
  some (t256, h146)) fun t256_147 h148 =>
  gQ (gdW t246 true) h148 ((pickP t251 (AV.bool true) t256_147).bind fun t257 =>
  some (t257, h148)) fun t257_149 h150 =>
  (pickP t246 t257_149 (AV.bool false)).bind fun t258 =>
  some (t258, h150)) (
  (eqP (some (.int .i64)) none false .eql t12 (AV.int .i64 41)).bind fun t261 =>
  condE t261 (
  (ldS h95 t1).bind fun t263 =>
  cl (k_verify_checker_cases t263 h95) fun t264 h151 =>
  (extractV 0 t264).bind fun t265 =>
  (extractV 1 t264).bind fun t266 =>
  cl (k_slices_ContainsFunc_code_Case_code_Case t265 (AV.fn 107 [] [t1]) h151) fun t269 h152 =>
  (unA .not t269).bind fun t270 =>
  some (t270, h152)) (
  (ldS h95 t1).bind fun t271 =>
  cl (k_verify_checker_calls t271 h95) fun t272 h153 =>
  some (t272, h153)))))))))))))))))
def T71 : Tab := (81, p1 k_verify_checker_kinds) :: T70
/- 109: (*gantline/verify.checker).targets -/
def k_verify_checker_targets_b0 (t34 : AV) (t37 : AV) (q3 : AV) (q38 : AV) (h3 : Heap) : OutV :=
  (binP .lss q38 t37).bind fun t39 =>
  condE t39 (
  (iaS 4 t34 q38).bind fun t40 =>
  (ldA 4 h3 t40).bind fun t41 =>
  mk Heap.new (some (Blk.cells true [(AV.int .i64 0), (AV.int .i64 0), (AV.int .i64 0), (AV.int .i64 0)], fun i => AV.ptr (some (i, 0)))) h3 fun t7 h4 =>
  cl (stP 4 h4 t7 t41) fun u h5 =>
  (faP 3 t7).bind fun t43 =>
  (ldS h5 t43).bind fun t44 =>
  mk Heap.new (bsP 1 [(AV.int .i64 0)] 1 [(0, t44)]) h5 fun t45 h6 =>
  cl (appendA h6 1 8 q3 t45) fun t46 h7 =>
  (binP .add q38 (AV.int .i64 1)).bind fun t47 =>
  some (.normal, [t46, t47], h7)) (
  some ((.exit 1), [q3, q38], h3))
def k_verify_checker_targets_L0 (t34 : AV) (t37 : AV) (q3 : AV) (q38 : AV) (h3 : Heap) : OutV := loopN (fun us g => k_verify_checker_targets_b0 t34 t37 (us.getD 0 .bot) (us.getD 1 .bot) g) [q3, q38] h3
def k_verify_checker_targets (x0 : AV) (h : Heap) : Option (AV × Heap) :=
  (nilV x0).bind fun t9 =>
  (faP 17 t9).bind fun t10 =>
  (faP 0 t10).bind fun t11 =>
  (ldS h t11).bind fun t12 =>
  (eqP (some (.int .i64)) none false .eql t12 (AV.int .i64 18)).bind fun t14 =>
  condE t14 (
  (nilV x0).bind fun t16 =>
  (faP 17 t16).bind fun t17 =>
  (faP 1 t17).bind fun t18 =>
  (ldS h t18).bind fun t19 =>
  mk Heap.new (bsP 1 [(AV.int .i64 0)] 1 [(0, t19)]) h fun t20 h0 =>
  some (t20, h0)) (
  (eqP (some (.int .i64)) none false .eql t12 (AV.int .i64 19)).bind fun t22 =>
  condE t22 (
  (nilV x0).bind fun t24 =>
  (faP 17 t24).bind fun t25 =>
  (faP 2 t25).bind fun t26 =>
  (ldS h t26).bind fun t27 =>
  mk Heap.new (bsP 1 [(AV.int .i64 0)] 1 [(0, t27)]) h fun t28 h1 =>
  some (t28, h1)) (
  (eqP (some (.int .i64)) none false .eql t12 (AV.int .i64 41)).bind fun t30 =>
  condE t30 (
  cl (k_verify_checker_cases x0 h) fun t33 h2 =>
  (extractV 0 t33).bind fun t34 =>
  (extractV 1 t33).bind fun t35 =>
  (lnL t34).bind fun t37 =>
  lp (k_verify_checker_targets_L0 t34 t37 (AV.sl none 0 (.ex 0)) (AV.int .i64 0) h2) fun e vs h8 =>
  thenK (if e = .exit 1 then .normal else e) (
  some ((vs.getD 0 .bot), h8)) (fun e_9 => thenK (if e_9 = .exit 0 then .normal else e_9) (
  some ((AV.sl none 0 (.ex 0)), h8)) (fun e_10 => endE e_10 (some ((AV.sl none 0 (.ex 0)), h8))))) (
  some ((AV.sl none 0 (.ex 0)), h))))
def T72 : Tab := (109, p1 k_verify_checker_targets) :: T71
/- 82: (*gantline/verify.checker).on -/
def k_verify_checker_on_b0 (x0 : AV) (t6 : AV) (t7 : AV) (q2 : AV) (q8 : AV) (h1 : Heap) : OutV :=
  (binP .lss q8 t7).bind fun t9 =>
  condE t9 (
  (iaS 1 t6 q8).bind fun t10 =>
  (ldS h1 t10).bind fun t11 =>
  (binP .lss t11 (AV.int .i64 0)).bind fun t13 =>
  gQ (gdW t13 false) h1 (some (t11, h1)) fun t15 h2 =>
  gQ (gdW t13 false) h2 (some (x0, h2)) fun t16 h3 =>
  gQ (gdW t13 false) h3 ((nilV t16).bind fun t17 =>
  some (t17, h3)) fun t17_4 h5 =>
  gQ (gdW t13 false) h5 ((faP 6 t17_4).bind fun t18 =>
  some (t18, h5)) fun t18_6 h7 =>
  gQ (gdW t13 false) h7 ((faP 5 t18_6).bind fun t19 =>
  some (t19, h7)) fun t19_8 h9 =>
  gQ (gdW t13 false) h9 ((ldS h9 t19_8).bind fun t20 =>
  some (t20, h9)) fun t20_10 h11 =>
  gQ (gdW t13 false) h11 ((lnL t20_10).bind fun t21 =>
  some (t21, h11)) fun t21_12 h13 =>
  gQ (gdW t13 false) h13 ((binP .geq t15 t21_12).bind fun t22 =>
  some (t22, h13)) fun t22_14 h15 =>
  (pickP t13 (AV.bool true) t22_14).bind fun t23 =>
  condE t23 (
  some (.ret, [(AV.bool false), q8], h15)) (
  (binP .add q8 (AV.int .i64 1)).bind fun t24 =>
  some (.normal, [q2, t24], h15))) (
  some ((.exit 0), [q2, q8], h1))
def k_verify_checker_on_L0 (x0 : AV) (t6 : AV) (t7 : AV) (q2 : AV) (q8 : AV) (h1 : Heap) : OutV := loopN (fun us g => k_verify_checker_on_b0 x0 t6 t7 (us.getD 0 .bot) (us.getD 1 .bot) g) [q2, q8] h1
def k_verify_checker_on (x0 : AV) (h : Heap) : Option (AV × Heap) :=
  cl (k_verify_checker_targets x0 h) fun t6 h0 =>
  (lnL t6).bind fun t7 =>
  lp (k_verify_checker_on_L0 x0 t6 t7 (AV.bool false) (AV.int .i64 0) h0) fun e vs h16 =>
  thenK (if e = .exit 0 then .normal else e) (
  (nilV x0).bind fun t26 =>
  (faP 16 t26).bind fun t27 =>
  (ldS h16 t27).bind fun t28 =>
  (nilV x0).bind fun t30 =>
  (faP 6 t30).bind fun t31 =>
  (faP 5 t31).bind fun t32 =>
  (ldS h16 t32).bind fun t33 =>
  (lnL t33).bind fun t34 =>
  (binP .sub t34 (AV.int .i64 1)).bind fun t35 =>
  (binP .lss t28 t35).bind fun t36 =>
  chk [h16] [] (
  condE t36 (
  some ((AV.bool true), h16)) (
  (nilV x0).bind fun t38 =>
  (faP 17 t38).bind fun t39 =>
  (faP 0 t39).bind fun t40 =>
  (ldS h16 t40).bind fun t41 =>
  (eqP (some (.int .i64)) none false .eql t41 (AV.int .i64 18)).bind fun t43 =>
  condE t43 (
  condE t43 (
  some ((AV.bool true), h16)) (
  some ((AV.bool false), h16))) (
  (eqP (some (.int .i64)) none false .eql t41 (AV.int .i64 22)).bind fun t44 =>
  condE t44 (
  condE t44 (
  some ((AV.bool true), h16)) (
  some ((AV.bool false), h16))) (
  (eqP (some (.int .i64)) none false .eql t41 (AV.int .i64 44)).bind fun t45 =>
  condE t45 (
  condE t45 (
  some ((AV.bool true), h16)) (
  some ((AV.bool false), h16))) (
  (eqP (some (.int .i64)) none false .eql t41 (AV.int .i64 41)).bind fun t46 =>
  condE t46 (
  some ((AV.bool true), h16)) (
  some ((AV.bool false), h16)))))))) (fun e_25 => endE e_25 (some ((vs.getD 0 .bot), h16)))
def T73 : Tab := (82, p1 k_verify_checker_on) :: T72
/- 83: (*gantline/verify.checker).back -/
def k_verify_checker_back_b0 (x0 : AV) (t6 : AV) (t7 : AV) (q2 : AV) (q8 : AV) (h1 : Heap) : OutV :=
  (binP .lss q8 t7).bind fun t9 =>
  condE t9 (
  (iaS 1 t6 q8).bind fun t10 =>
  (ldS h1 t10).bind fun t11 =>
  (nilV x0).bind fun t14 =>
  (faP 16 t14).bind fun t15 =>
  (ldS h1 t15).bind fun t16 =>
  (binP .leq t11 t16).bind fun t17 =>
  gQ (gdW t17 true) h1 (some (x0, h1)) fun t19 h2 =>
  gQ (gdW t17 true) h2 ((nilV t19).bind fun t20 =>
  some (t20, h2)) fun t20_3 h4 =>
  gQ (gdW t17 true) h4 ((faP 6 t20_3).bind fun t21 =>
  some (t21, h4)) fun t21_5 h6 =>
  gQ (gdW t17 true) h6 ((faP 5 t21_5).bind fun t22 =>
  some (t22, h6)) fun t22_7 h8 =>
  gQ (gdW t17 true) h8 ((ldS h8 t22_7).bind fun t23 =>
  some (t23, h8)) fun t23_9 h10 =>
  gQ (gdW t17 true) h10 (some (t11, h10)) fun t24 h11 =>
  gQ (gdW t17 true) h11 ((iaS 5 t23_9 t24).bind fun t25 =>
  some (t25, h11)) fun t25_12 h13 =>
  gQ (gdW t17 true) h13 ((faP 0 t25_12).bind fun t26 =>
  some (t26, h13)) fun t26_14 h15 =>
  gQ (gdW t17 true) h15 ((ldS h15 t26_14).bind fun t27 =>
  some (t27, h15)) fun t27_16 h17 =>
  gQ (gdW t17 true) h17 ((eqP (some (.int .i64)) none false .neq t27_16 (AV.int .i64 43)).bind fun t28 =>
  some (t28, h17)) fun t28_18 h19 =>
  (pickP t17 t28_18 (AV.bool false)).bind fun t29 =>
  condE t29 (
  some (.ret, [(AV.bool false), q8], h19)) (
  (binP .add q8 (AV.int .i64 1)).bind fun t30 =>
  some (.normal, [q2, t30], h19))) (
  some ((.exit 0), [q2, q8], h1))
def k_verify_checker_back_L0 (x0 : AV) (t6 : AV) (t7 : AV) (q2 : AV) (q8 : AV) (h1 : Heap) : OutV := loopN (fun us g => k_verify_checker_back_b0 x0 t6 t7 (us.getD 0 .bot) (us.getD 1 .bot) g) [q2, q8] h1
def k_verify_checker_back (x0 : AV) (h : Heap) : Option (AV × Heap) :=
  cl (k_verify_checker_targets x0 h) fun t6 h0 =>
  (lnL t6).bind fun t7 =>
  lp (k_verify_checker_back_L0 x0 t6 t7 (AV.bool false) (AV.int .i64 0) h0) fun e vs h20 =>
  thenK (if e = .exit 0 then .normal else e) (
  some ((AV.bool true), h20)) (fun e_21 => endE e_21 (some ((vs.getD 0 .bot), h20)))
def T74 : Tab := (83, p1 k_verify_checker_back) :: T73
/- 43: slices.Clone[gantline/fresh.states,gantline/fresh.State] -/
def k_slices_Clone_fresh_states_fresh_State (x0 : AV) (h : Heap) : Option (AV × Heap) :=
  (eqP (some (.slice 0)) none false .eql x0 (AV.sl none 0 (.ex 0))).bind fun t4 =>
  condE t4 (
  some ((AV.sl none 0 (.ex 0)), h)) (
  mk Heap.new (bsP 3 [(AV.bool false), (AV.bool false), (AV.int .u64 0)] 0 []) h fun t5 h0 =>
  cl (appendA h0 3 16 t5 x0) fun t7 h1 =>
  some (t7, h1))
def T75 : Tab := (43, p1 k_slices_Clone_fresh_states_fresh_State) :: T74
/- 45: gantline/fresh.sent -/
def k_fresh_sent_b0 (t49 : AV) (t50 : AV) (q5 : AV) (q51 : AV) (h44 : Heap) : OutV :=
  (binP .lss q51 t50).bind fun t52 =>
  condE t52 (
  (iaS 4 t49 q51).bind fun t53 =>
  (ldA 4 h44 t53).bind fun t54 =>
  mk Heap.new (some (Blk.cells true [(AV.int .i64 0), (AV.int .i64 0), (AV.int .i64 0), (AV.int .i64 0)], fun i => AV.ptr (some (i, 0)))) h44 fun t7 h47 =>
  cl (stP 4 h47 t7 t54) fun u h48 =>
  (faP 0 t7).bind fun t55 =>
  (ldS h48 t55).bind fun t56 =>
  (eqP (some (.int .i64)) none false .eql t56 (AV.int .i64 1)).bind fun t57 =>
  condE t57 (
  (faP 2 t7).bind fun t59 =>
  (ldS h48 t59).bind fun t60 =>
  mk Heap.new (bsP 1 [(AV.int .i64 0)] 1 [(0, t60)]) h48 fun t61 h57 =>
  cl (appendA h57 1 8 q5 t61) fun t62 h58 =>
  (binP .add q51 (AV.int .i64 1)).bind fun t63_59 =>
  some (.normal, [t62, t63_59], h58)) (
  (binP .add q51 (AV.int .i64 1)).bind fun t63_60 =>
  some (.normal, [q5, t63_60], h48))) (
  some ((.exit 0), [q5, q51], h44))
def k_fresh_sent_L0 (t49 : AV) (t50 : AV) (q5 : AV) (q51 : AV) (h44 : Heap) : OutV := loopN (fun us g => k_fresh_sent_b0 t49 t50 (us.getD 0 .bot) (us.getD 1 .bot) g) [q5, q51] h44
def k_fresh_sent (x0 : AV) (x1 : AV) (h : Heap) : Option (AV × Heap) :=
  mk Heap.new (bxP x0) h fun t2 h0 =>
  mk Heap.new (bxP x1) h0 fun t3 h1 =>
  (faP 0 t3).bind fun t8 =>
  (ldS h1 t8).bind fun t9 =>
  (eqP (some (.int .i64)) none false .neq t9 (AV.int .i64 41)).bind fun t10 =>
  gQ (gdW t10 false) h1 ((faP 1 t3).bind fun t12 =>
  some (t12, h1)) fun t12_2 h3 =>
  gQ (gdW t10 false) h3 ((ldS h3 t12_2).bind fun t13 =>
  some (t13, h3)) fun t13_4 h5 =>
  gQ (gdW t10 false) h5 ((binP .lss t13_4 (AV.int .i64 0)).bind fun t14 =>
  some (t14, h5)) fun t14_6 h7 =>
  (pickP t10 (AV.bool true) t14_6).bind fun t15 =>
  gQ (gdW t15 false) h7 ((faP 2 t3).bind fun t17 =>
  some (t17, h7)) fun t17_8 h9 =>
  gQ (gdW t15 false) h9 ((ldS h9 t17_8).bind fun t18 =>
  some (t18, h9)) fun t18_10 h11 =>
  gQ (gdW t15 false) h11 ((binP .lss t18_10 (AV.int .i64 0)).bind fun t19 =>
  some (t19, h11)) fun t19_12 h13 =>
  (pickP t15 (AV.bool true) t19_12).bind fun t20 =>
  gQ (gdW t20 false) h13 ((faP 1 t3).bind fun t22 =>
  some (t22, h13)) fun t22_14 h15 =>
  gQ (gdW t20 false) h15 ((ldS h15 t22_14).bind fun t23 =>
  some (t23, h15)) fun t23_16 h17 =>
  gQ (gdW t20 false) h17 ((faP 3 t2).bind fun t24 =>
  some (t24, h17)) fun t24_18 h19 =>
  gQ (gdW t20 false) h19 ((ldS h19 t24_18).bind fun t25 =>
  some (t25, h19)) fun t25_20 h21 =>
  gQ (gdW t20 false) h21 ((lnL t25_20).bind fun t26 =>
  some (t26, h21)) fun t26_22 h23 =>
  gQ (gdW t20 false) h23 ((binP .gtr t23_16 t26_22).bind fun t27 =>
  some (t27, h23)) fun t27_24 h25 =>
  (pickP t20 (AV.bool true) t27_24).bind fun t28 =>
  gQ (gdW t28 false) h25 ((faP 2 t3).bind fun t30 =>
  some (t30, h25)) fun t30_26 h27 =>
  gQ (gdW t28 false) h27 ((ldS h27 t30_26).bind fun t31 =>
  some (t31, h27)) fun t31_28 h29 =>
  gQ (gdW t28 false) h29 ((faP 3 t2).bind fun t32 =>
  some (t32, h29)) fun t32_30 h31 =>
  gQ (gdW t28 false) h31 ((ldS h31 t32_30).bind fun t33 =>
  some (t33, h31)) fun t33_32 h33 =>
  gQ (gdW t28 false) h33 ((lnL t33_32).bind fun t34 =>
  some (t34, h33)) fun t34_34 h35 =>
  gQ (gdW t28 false) h35 ((faP 1 t3).bind fun t35 =>
  some (t35, h35)) fun t35_36 h37 =>
  gQ (gdW t28 false) h37 ((ldS h37 t35_36).bind fun t36 =>
  some (t36, h37)) fun t36_38 h39 =>
  gQ (gdW t28 false) h39 ((binP .sub t34_34 t36_38).bind fun t37 =>
  some (t37, h39)) fun t37_40 h41 =>
  gQ (gdW t28 false) h41 ((binP .gtr t31_28 t37_40).bind fun t38 =>
  some (t38, h41)) fun t38_42 h43 =>
  (pickP t28 (AV.bool true) t38_42).bind fun t39 =>
  condE t39 (
  some ((AV.sl none 0 (.ex 0)), h43)) (
  (faP 3 t2).bind fun t40 =>
  (ldS h43 t40).bind fun t41 =>
  (faP 1 t3).bind fun t42 =>
  (ldS h43 t42).bind fun t43 =>
  (faP 1 t3).bind fun t44 =>
  (ldS h43 t44).bind fun t45 =>
  (faP 2 t3).bind fun t46 =>
  (ldS h43 t46).bind fun t47 =>
  (binP .add t45 t47).bind fun t48 =>
  (slcP 4 t41 (some t43) (some t48) none).bind fun t49 =>
  (lnL t49).bind fun t50 =>
  lp (k_fresh_sent_L0 t49 t50 (AV.sl none 0 (.ex 0)) (AV.int .i64 0) h43) fun e vs h61 =>
  thenK (if e = .exit 0 then .normal else e) (
  some ((vs.getD 0 .bot), h61)) (fun e_62 => endE e_62 (some ((AV.sl none 0 (.ex 0)), h61))))
def T76 : Tab := (45, p2 k_fresh_sent) :: T75
/- 44: (gantline/fresh.states).lend -/
def k_fresh_states_lend_b0 (x0 : AV) (x1 : AV) (t7 : AV) (q8 : AV) (h0 : Heap) : OutV :=
  (binP .lss q8 t7).bind fun t9 =>
  condE t9 (
  (iaS 1 x1 q8).bind fun t10 =>
  (ldS h0 t10).bind fun t11 =>
  (binP .geq t11 (AV.int .i64 0)).bind fun t13 =>
  gQ (gdW t13 true) h0 (some (t11, h0)) fun t15 h2 =>
  gQ (gdW t13 true) h2 (some (x0, h2)) fun t16 h3 =>
  gQ (gdW t13 true) h3 ((lnL t16).bind fun t17 =>
  some (t17, h3)) fun t17_4 h5 =>
  gQ (gdW t13 true) h5 ((binP .lss t15 t17_4).bind fun t18 =>
  some (t18, h5)) fun t18_6 h7 =>
  (pickP t13 t18_6 (AV.bool false)).bind fun t19 =>
  condE t19 (
  (iaS 3 x0 t11).bind fun t22 =>
  (faP 1 t22).bind fun t23 =>
  cl (stP 1 h7 t23 (AV.bool false)) fun u h14 =>
  (binP .add q8 (AV.int .i64 1)).bind fun t24_15 =>
  some (.normal, [t24_15], h14)) (
  (binP .add q8 (AV.int .i64 1)).bind fun t24_16 =>
  some (.normal, [t24_16], h7))) (
  some ((.exit 0), [q8], h0))
def k_fresh_states_lend_L0 (x0 : AV) (x1 : AV) (t7 : AV) (q8 : AV) (h0 : Heap) : OutV := loopN (fun us g => k_fresh_states_lend_b0 x0 x1 t7 (us.getD 0 .bot) g) [q8] h0
def k_fresh_states_lend (x0 : AV) (x1 : AV) (h : Heap) : Option (AV × Heap) :=
  (lnL x1).bind fun t7 =>
  lp (k_fresh_states_lend_L0 x0 x1 t7 (AV.int .i64 0) h) fun e vs h17 =>
  endE (if e = .exit 0 then .normal else e) (some (AV.tup [], h17))
def T77 : Tab := (44, p2 k_fresh_states_lend) :: T76
/- 58: gantline/code.Maker -/
def k_code_Maker (x0 : AV) (h : Heap) : Option (AV × Heap) :=
  (eqP (some (.int .i64)) none false .eql x0 (AV.int .i64 25)).bind fun t4 =>
  gQ (gdW t4 false) h (some (x0, h)) fun t6 h0 =>
  gQ (gdW t4 false) h0 ((eqP (some (.int .i64)) none false .eql t6 (AV.int .i64 26)).bind fun t7 =>
  some (t7, h0)) fun t7_1 h2 =>
  (pickP t4 (AV.bool true) t7_1).bind fun t8 =>
  gQ (gdW t8 false) h2 (some (x0, h2)) fun t10 h3 =>
  gQ (gdW t8 false) h3 ((eqP (some (.int .i64)) none false .eql t10 (AV.int .i64 36)).bind fun t11 =>
  some (t11, h3)) fun t11_4 h5 =>
  (pickP t8 (AV.bool true) t11_4).bind fun t12 =>
  gQ (gdW t12 false) h5 (some (x0, h5)) fun t14 h6 =>
  gQ (gdW t12 false) h6 ((eqP (some (.int .i64)) none false .eql t14 (AV.int .i64 37)).bind fun t15 =>
  some (t15, h6)) fun t15_7 h8 =>
  (pickP t12 (AV.bool true) t15_7).bind fun t16 =>
  some (t16, h8)
def T78 : Tab := (58, p1 k_code_Maker) :: T77
/- 57: gantline/code.Point -/
def k_code_Point_j0 (x0 : AV) (q4 : AV) (h0 : Heap) : Option (AV × Heap) :=
  condE q4 (
  some ((AV.bool true), h0)) (
  cl (k_code_Maker x0 h0) fun t14 h1 =>
  some (t14, h1))
def k_code_Point (x0 : AV) (h : Heap) : Option (AV × Heap) :=
  (eqP (some (.int .i64)) none false .eql x0 (AV.int .i64 20)).bind fun t5 =>
  condE t5 (
  k_code_Point_j0 x0 t5 h) (
  (eqP (some (.int .i64)) none false .eql x0 (AV.int .i64 21)).bind fun t6 =>
  condE t6 (
  k_code_Point_j0 x0 t6 h) (
  (eqP (some (.int .i64)) none false .eql x0 (AV.int .i64 23)).bind fun t7 =>
  condE t7 (
  k_code_Point_j0 x0 t7 h) (
  (eqP (some (.int .i64)) none false .eql x0 (AV.int .i64 24)).bind fun t8 =>
  condE t8 (
  k_code_Point_j0 x0 t8 h) (
  (eqP (some (.int .i64)) none false .eql x0 (AV.int .i64 38)).bind fun t9 =>
  condE t9 (
  k_code_Point_j0 x0 t9 h) (
  (eqP (some (.int .i64)) none false .eql x0 (AV.int .i64 39)).bind fun t10 =>
  condE t10 (
  k_code_Point_j0 x0 t10 h) (
  (eqP (some (.int .i64)) none false .eql x0 (AV.int .i64 41)).bind fun t11 =>
  condE t11 (
  k_code_Point_j0 x0 t11 h) (
  (eqP (some (.int .i64)) none false .eql x0 (AV.int .i64 43)).bind fun t12 =>
  k_code_Point_j0 x0 t12 h)))))))
def T79 : Tab := (57, p1 k_code_Point) :: T78
/- 60: (gantline/fresh.states).put -/
def k_fresh_states_put (x0 : AV) (x1 : AV) (x2 : AV) (h : Heap) : Option (AV × Heap) :=
  mk Heap.new (bxP x2) h fun t5 h0 =>
  (binP .geq x1 (AV.int .i64 0)).bind fun t7 =>
  gQ (gdW t7 true) h0 (some (x1, h0)) fun t9 h1 =>
  gQ (gdW t7 true) h1 (some (x0, h1)) fun t10 h2 =>
  gQ (gdW t7 true) h2 ((lnL t10).bind fun t11 =>
  some (t11, h2)) fun t11_3 h4 =>
  gQ (gdW t7 true) h4 ((binP .lss t9 t11_3).bind fun t12 =>
  some (t12, h4)) fun t12_5 h6 =>
  (pickP t7 t12_5 (AV.bool false)).bind fun t13 =>
  condE t13 (
  (ldA 3 h6 t5).bind fun t16 =>
  (iaS 3 x0 x1).bind fun t17 =>
  cl (stP 3 h6 t17 t16) fun u h8 =>
  some (AV.tup [], h8)) (
  some (AV.tup [], h6))
def T80 : Tab := (60, p3 k_fresh_states_put) :: T79
/- 50: (gantline/fresh.states).get -/
def k_fresh_states_get (x0 : AV) (x1 : AV) (h : Heap) : Option (AV × Heap) :=
  mk Heap.new (some (Blk.cells true [(AV.bool false), (AV.bool false), (AV.int .u64 0)], fun i => AV.ptr (some (i, 0)))) h fun t4 h0 =>
  (binP .lss x1 (AV.int .i64 0)).bind fun t6 =>
  gQ (gdW t6 false) h0 (some (x1, h0)) fun t8 h1 =>
  gQ (gdW t6 false) h1 (some (x0, h1)) fun t9 h2 =>
  gQ (gdW t6 false) h2 ((lnL t9).bind fun t10 =>
  some (t10, h2)) fun t10_3 h4 =>
  gQ (gdW t6 false) h4 ((binP .geq t8 t10_3).bind fun t11 =>
  some (t11, h4)) fun t11_5 h6 =>
  (pickP t6 (AV.bool true) t11_5).bind fun t12 =>
  condE t12 (
  (bldS [(0, 1), (1, 1), (2, 1)] [(AV.bool false), (AV.bool false), (AV.int .u64 0)] []).bind fun t13 =>
  cl (stP 3 h6 t4 t13) fun u h7 =>
  (ldA 3 h7 t4).bind fun t =>
  some (t, h7)) (
  (iaS 3 x0 x1).bind fun t16 =>
  (ldA 3 h6 t16).bind fun t17 =>
  cl (stP 3 h6 t4 t17) fun u_8 h9 =>
  (ldA 3 h9 t4).bind fun t_10 =>
  some (t_10, h9))
def T81 : Tab := (50, p2 k_fresh_states_get) :: T80
/- 51: gantline/fresh.bit -/
def k_fresh_bit (x0 : AV) (h : Heap) : Option (AV × Heap) :=
  (binP .lss x0 (AV.int .i64 0)).bind fun t4 =>
  gQ (gdW t4 false) h (some (x0, h)) fun t6 h0 =>
  gQ (gdW t4 false) h0 ((binP .geq t6 (AV.int .i64 64)).bind fun t7 =>
  some (t7, h0)) fun t7_1 h2 =>
  (pickP t4 (AV.bool true) t7_1).bind fun t8 =>
  condE t8 (
  some ((AV.int .u64 0), h2)) (
  (cvI .u64 x0).bind fun t10 =>
  (binP .shl (AV.int .u64 1) t10).bind fun t11 =>
  some (t11, h2))
def T82 : Tab := (51, p1 k_fresh_bit) :: T81
/- 61: (gantline/fresh.states).written -/
def k_fresh_states_written (x0 : AV) (x1 : AV) (x2 : AV) (h : Heap) : Option (AV × Heap) :=
  (binP .geq x1 (AV.int .i64 0)).bind fun t7 =>
  gQ (gdW t7 true) h (some (x1, h)) fun t9 h0 =>
  gQ (gdW t7 true) h0 (some (x0, h0)) fun t10 h1 =>
  gQ (gdW t7 true) h1 ((lnL t10).bind fun t11 =>
  some (t11, h1)) fun t11_2 h3 =>
  gQ (gdW t7 true) h3 ((binP .lss t9 t11_2).bind fun t12 =>
  some (t12, h3)) fun t12_4 h5 =>
  (pickP t7 t12_4 (AV.bool false)).bind fun t13 =>
  condE t13 (
  (iaS 3 x0 x1).bind fun t16 =>
  (faP 2 t16).bind fun t17 =>
  (ldS h5 t17).bind fun t18 =>
  (binP .or t18 x2).bind fun t20 =>
  (iaS 3 x0 x1).bind fun t21 =>
  (faP 2 t21).bind fun t22 =>
  cl (stP 1 h5 t22 t20) fun u h7 =>
  some (AV.tup [], h7)) (
  some (AV.tup [], h5))
def T83 : Tab := (61, p3 k_fresh_states_written) :: T82
/- 62: gantline/fresh.lends -/
def k_fresh_lends (x0 : AV) (h : Heap) : Option (AV × Heap) :=
  (eqP (some (.int .i64)) none false .eql x0 (AV.int .i64 35)).bind fun t5 =>
  condE t5 (
  condE t5 (
  some ((AV.bool true), h)) (
  some ((AV.bool false), h))) (
  (eqP (some (.int .i64)) none false .eql x0 (AV.int .i64 20)).bind fun t6 =>
  condE t6 (
  condE t6 (
  some ((AV.bool true), h)) (
  some ((AV.bool false), h))) (
  (eqP (some (.int .i64)) none false .eql x0 (AV.int .i64 21)).bind fun t7 =>
  condE t7 (
  condE t7 (
  some ((AV.bool true), h)) (
  some ((AV.bool false), h))) (
  (eqP (some (.int .i64)) none false .eql x0 (AV.int .i64 23)).bind fun t8 =>
  condE t8 (
  condE t8 (
  some ((AV.bool true), h)) (
  some ((AV.bool false), h))) (
  (eqP (some (.int .i64)) none false .eql x0 (AV.int .i64 24)).bind fun t9 =>
  condE t9 (
  condE t9 (
  some ((AV.bool true), h)) (
  some ((AV.bool false), h))) (
  (eqP (some (.int .i64)) none false .eql x0 (AV.int .i64 22)).bind fun t10 =>
  condE t10 (
  some ((AV.bool true), h)) (
  some ((AV.bool false), h)))))))
def T84 : Tab := (62, p1 k_fresh_lends) :: T83
/- 64: gantline/fresh.receives -/
def k_fresh_receives_b0 (t49 : AV) (t50 : AV) (q5 : AV) (q51 : AV) (h44 : Heap) : OutV :=
  (binP .lss q51 t50).bind fun t52 =>
  condE t52 (
  (iaS 4 t49 q51).bind fun t53 =>
  (ldA 4 h44 t53).bind fun t54 =>
  mk Heap.new (some (Blk.cells true [(AV.int .i64 0), (AV.int .i64 0), (AV.int .i64 0), (AV.int .i64 0)], fun i => AV.ptr (some (i, 0)))) h44 fun t7 h47 =>
  cl (stP 4 h47 t7 t54) fun u h48 =>
  (faP 0 t7).bind fun t55 =>
  (ldS h48 t55).bind fun t56 =>
  (eqP (some (.int .i64)) none false .eql t56 (AV.int .i64 0)).bind fun t57 =>
  condE t57 (
  (faP 2 t7).bind fun t59 =>
  (ldS h48 t59).bind fun t60 =>
  mk Heap.new (bsP 1 [(AV.int .i64 0)] 1 [(0, t60)]) h48 fun t61 h57 =>
  cl (appendA h57 1 8 q5 t61) fun t62 h58 =>
  (binP .add q51 (AV.int .i64 1)).bind fun t63_59 =>
  some (.normal, [t62, t63_59], h58)) (
  (binP .add q51 (AV.int .i64 1)).bind fun t63_60 =>
  some (.normal, [q5, t63_60], h48))) (
  some ((.exit 0), [q5, q51], h44))
def k_fresh_receives_L0 (t49 : AV) (t50 : AV) (q5 : AV) (q51 : AV) (h44 : Heap) : OutV := loopN (fun us g => k_fresh_receives_b0 t49 t50 (us.getD 0 .bot) (us.getD 1 .bot) g) [q5, q51] h44
def k_fresh_receives (x0 : AV) (x1 : AV) (h : Heap) : Option (AV × Heap) :=
  mk Heap.new (bxP x0) h fun t2 h0 =>
  mk Heap.new (bxP x1) h0 fun t3 h1 =>
  (faP 0 t3).bind fun t8 =>
  (ldS h1 t8).bind fun t9 =>
  (eqP (some (.int .i64)) none false .neq t9 (AV.int .i64 41)).bind fun t10 =>
  gQ (gdW t10 false) h1 ((faP 1 t3).bind fun t12 =>
  some (t12, h1)) fun t12_2 h3 =>
  gQ (gdW t10 false) h3 ((ldS h3 t12_2).bind fun t13 =>
  some (t13, h3)) fun t13_4 h5 =>
  gQ (gdW t10 false) h5 ((binP .lss t13_4 (AV.int .i64 0)).bind fun t14 =>
  some (t14, h5)) fun t14_6 h7 =>
  (pickP t10 (AV.bool true) t14_6).bind fun t15 =>
  gQ (gdW t15 false) h7 ((faP 2 t3).bind fun t17 =>
  some (t17, h7)) fun t17_8 h9 =>
  gQ (gdW t15 false) h9 ((ldS h9 t17_8).bind fun t18 =>
  some (t18, h9)) fun t18_10 h11 =>
  gQ (gdW t15 false) h11 ((binP .lss t18_10 (AV.int .i64 0)).bind fun t19 =>
  some (t19, h11)) fun t19_12 h13 =>
  (pickP t15 (AV.bool true) t19_12).bind fun t20 =>
  gQ (gdW t20 false) h13 ((faP 1 t3).bind fun t22 =>
  some (t22, h13)) fun t22_14 h15 =>
  gQ (gdW t20 false) h15 ((ldS h15 t22_14).bind fun t23 =>
  some (t23, h15)) fun t23_16 h17 =>
  gQ (gdW t20 false) h17 ((faP 3 t2).bind fun t24 =>
  some (t24, h17)) fun t24_18 h19 =>
  gQ (gdW t20 false) h19 ((ldS h19 t24_18).bind fun t25 =>
  some (t25, h19)) fun t25_20 h21 =>
  gQ (gdW t20 false) h21 ((lnL t25_20).bind fun t26 =>
  some (t26, h21)) fun t26_22 h23 =>
  gQ (gdW t20 false) h23 ((binP .gtr t23_16 t26_22).bind fun t27 =>
  some (t27, h23)) fun t27_24 h25 =>
  (pickP t20 (AV.bool true) t27_24).bind fun t28 =>
  gQ (gdW t28 false) h25 ((faP 2 t3).bind fun t30 =>
  some (t30, h25)) fun t30_26 h27 =>
  gQ (gdW t28 false) h27 ((ldS h27 t30_26).bind fun t31 =>
  some (t31, h27)) fun t31_28 h29 =>
  gQ (gdW t28 false) h29 ((faP 3 t2).bind fun t32 =>
  some (t32, h29)) fun t32_30 h31 =>
  gQ (gdW t28 false) h31 ((ldS h31 t32_30).bind fun t33 =>
  some (t33, h31)) fun t33_32 h33 =>
  gQ (gdW t28 false) h33 ((lnL t33_32).bind fun t34 =>
  some (t34, h33)) fun t34_34 h35 =>
  gQ (gdW t28 false) h35 ((faP 1 t3).bind fun t35 =>
  some (t35, h35)) fun t35_36 h37 =>
  gQ (gdW t28 false) h37 ((ldS h37 t35_36).bind fun t36 =>
  some (t36, h37)) fun t36_38 h39 =>
  gQ (gdW t28 false) h39 ((binP .sub t34_34 t36_38).bind fun t37 =>
  some (t37, h39)) fun t37_40 h41 =>
  gQ (gdW t28 false) h41 ((binP .gtr t31_28 t37_40).bind fun t38 =>
  some (t38, h41)) fun t38_42 h43 =>
  (pickP t28 (AV.bool true) t38_42).bind fun t39 =>
  condE t39 (
  some ((AV.sl none 0 (.ex 0)), h43)) (
  (faP 3 t2).bind fun t40 =>
  (ldS h43 t40).bind fun t41 =>
  (faP 1 t3).bind fun t42 =>
  (ldS h43 t42).bind fun t43 =>
  (faP 1 t3).bind fun t44 =>
  (ldS h43 t44).bind fun t45 =>
  (faP 2 t3).bind fun t46 =>
  (ldS h43 t46).bind fun t47 =>
  (binP .add t45 t47).bind fun t48 =>
  (slcP 4 t41 (some t43) (some t48) none).bind fun t49 =>
  (lnL t49).bind fun t50 =>
  lp (k_fresh_receives_L0 t49 t50 (AV.sl none 0 (.ex 0)) (AV.int .i64 0) h43) fun e vs h61 =>
  thenK (if e = .exit 0 then .normal else e) (
  some ((vs.getD 0 .bot), h61)) (fun e_62 => endE e_62 (some ((AV.sl none 0 (.ex 0)), h61))))
def T85 : Tab := (64, p2 k_fresh_receives) :: T84
/- 46: gantline/fresh.behind -/
def k_fresh_behind_j0 (t4 : AV) (t15 : AV) (t30 : AV) (h123 : Heap) : Option (AV × Heap) :=
  (faP 1 t4).bind fun t81 =>
  (ldS h123 t81).bind fun t82 =>
  (eqP (some (.int .i64)) none false .neq t30 (AV.int .i64 36)).bind fun t84 =>
  (bldS [(0, 1), (1, 1), (2, 1)] [(AV.bool false), (AV.bool false), (AV.int .u64 0)] [(0, (AV.bool true)), (1, t84)]).bind fun t85 =>
  cl (k_fresh_states_put t15 t82 t85 h123) fun t86 h124 =>
  some (t15, h124)
def k_fresh_behind_b0 (t15 : AV) (t46 : AV) (t47 : AV) (q48_373 : AV) (h374 : Heap) : OutV :=
  (binP .lss q48_373 t47).bind fun t49 =>
  condE t49 (
  (iaS 1 t46 q48_373).bind fun t50 =>
  (ldS h374 t50).bind fun t51 =>
  (bldS [(0, 1), (1, 1), (2, 1)] [(AV.bool false), (AV.bool false), (AV.int .u64 0)] []).bind fun t54 =>
  cl (k_fresh_states_put t15 t51 t54 h374) fun t55 h375 =>
  (binP .add q48_373 (AV.int .i64 1)).bind fun t56 =>
  some (.normal, [t56], h375)) (
  some ((.exit 3), [q48_373], h374))
def k_fresh_behind_L0 (t15 : AV) (t46 : AV) (t47 : AV) (q48_373 : AV) (h374 : Heap) : OutV := loopN (fun us g => k_fresh_behind_b0 t15 t46 t47 (us.getD 0 .bot) g) [q48_373] h374
def k_fresh_behind_b1 (t15 : AV) (t59 : AV) (t60 : AV) (q61_378 : AV) (h379 : Heap) : OutV :=
  (binP .lss q61_378 t60).bind fun t62 =>
  condE t62 (
  (iaS 1 t59 q61_378).bind fun t63 =>
  (ldS h379 t63).bind fun t64 =>
  (bldS [(0, 1), (1, 1), (2, 1)] [(AV.bool false), (AV.bool false), (AV.int .u64 0)] []).bind fun t67 =>
  cl (k_fresh_states_put t15 t64 t67 h379) fun t68 h380 =>
  (binP .add q61_378 (AV.int .i64 1)).bind fun t69 =>
  some (.normal, [t69], h380)) (
  some ((.exit 5), [q61_378], h379))
def k_fresh_behind_L1 (t15 : AV) (t59 : AV) (t60 : AV) (q61_378 : AV) (h379 : Heap) : OutV := loopN (fun us g => k_fresh_behind_b1 t15 t59 t60 (us.getD 0 .bot) g) [q61_378] h379
def k_fresh_behind_j1 (t3 : AV) (t4 : AV) (t15 : AV) (h371 : Heap) : Option (AV × Heap) :=
  (ldA 5 h371 t4).bind fun t45 =>
  cl (k_live_Writes t45 h371) fun t46 h372 =>
  (lnL t46).bind fun t47 =>
  lp (k_fresh_behind_L0 t15 t46 t47 (AV.int .i64 0) h372) fun e vs h376 =>
  thenK (if e = .exit 3 then .normal else e) (
  (ldA 6 h376 t3).bind fun t57 =>
  (ldA 5 h376 t4).bind fun t58 =>
  cl (k_fresh_receives t57 t58 h376) fun t59 h377 =>
  (lnL t59).bind fun t60 =>
  lp (k_fresh_behind_L1 t15 t59 t60 (AV.int .i64 0) h377) fun e_381 vs_382 h383 =>
  thenK (if (if e_381 = .exit 5 then .normal else e_381) = .exit 2 then .normal else (if e_381 = .exit 5 then .normal else e_381)) (
  some (t15, h383)) (fun e_384 => endE e_384 (some ((AV.sl none 0 (.ex 0)), h383)))) (fun e_385 => thenK (if e_385 = .exit 2 then .normal else e_385) (
  some (t15, h376)) (fun e_386 => endE e_386 (some ((AV.sl none 0 (.ex 0)), h376))))
def k_fresh_behind_j2 (t3 : AV) (t4 : AV) (t15 : AV) (t30 : AV) (h365 : Heap) : Option (AV × Heap) :=
  (eqP (some (.int .i64)) none false .eql t30 (AV.int .i64 38)).bind fun t39 =>
  condE t39 (
  (faP 2 t4).bind fun t41 =>
  (ldS h365 t41).bind fun t42 =>
  mk Heap.new (bsP 1 [(AV.int .i64 0)] 1 [(0, t42)]) h365 fun t43 h387 =>
  cl (k_fresh_states_lend t15 t43 h387) fun t44 h388 =>
  k_fresh_behind_j1 t3 t4 t15 h388) (
  k_fresh_behind_j1 t3 t4 t15 h365)
def k_fresh_behind_j3 (t3 : AV) (t4 : AV) (t15 : AV) (h4 : Heap) : Option (AV × Heap) :=
  (faP 0 t4).bind fun t29 =>
  (ldS h4 t29).bind fun t30 =>
  cl (k_code_Maker t30 h4) fun t72 h6 =>
  condE t72 (
  (eqP (some (.int .i64)) none false .eql t30 (AV.int .i64 36)).bind fun t74 =>
  condE t74 (
  (ldA 6 h6 t3).bind fun t76 =>
  (ldA 5 h6 t4).bind fun t77 =>
  cl (k_live_Reads t76 t77 h6) fun t78 h125 =>
  cl (k_fresh_states_lend t15 t78 h125) fun t79 h126 =>
  k_fresh_behind_j0 t4 t15 t30 h126) (
  k_fresh_behind_j0 t4 t15 t30 h6)) (
  (eqP (some (.int .i64)) none false .eql t30 (AV.int .i64 1)).bind fun t89 =>
  condE t89 (
  (faP 2 t4).bind fun t91 =>
  (ldS h6 t91).bind fun t92 =>
  cl (k_fresh_states_get t15 t92 h6) fun t93 h221 =>
  (fvS 0 t93).bind fun t94 =>
  (faP 2 t4).bind fun t96 =>
  (ldS h221 t96).bind fun t97 =>
  mk Heap.new (bsP 1 [(AV.int .i64 0)] 1 [(0, t97)]) h221 fun t98 h222 =>
  cl (k_fresh_states_lend t15 t98 h222) fun t99 h223 =>
  (faP 1 t4).bind fun t101 =>
  (ldS h223 t101).bind fun t102 =>
  (bldS [(0, 1), (1, 1), (2, 1)] [(AV.bool false), (AV.bool false), (AV.int .u64 0)] [(0, t94)]).bind fun t104 =>
  cl (k_fresh_states_put t15 t102 t104 h223) fun t105 h224 =>
  some (t15, h224)) (
  (eqP (some (.int .i64)) none false .eql t30 (AV.int .i64 28)).bind fun t108 =>
  gQ (gdW t108 false) h6 (some (t30, h6)) fun t110 h225 =>
  gQ (gdW t108 false) h225 ((eqP (some (.int .i64)) none false .eql t110 (AV.int .i64 29)).bind fun t111 =>
  some (t111, h225)) fun t111_226 h227 =>
  (pickP t108 (AV.bool true) t111_226).bind fun t112 =>
  condE t112 (
  (faP 1 t4).bind fun t114 =>
  clC (rdC (fun g => ldS g t114) h227 0 1 []) fun t115 cs =>
  (faP 2 t4).bind fun t116 =>
  (ldS h227 t116).bind fun t117 =>
  cl (k_fresh_bit t117 h227) fun t118 h298 =>
  cl (k_fresh_states_written t15 t115 t118 h298) fun t119 h299 =>
  chk [h227, h298, h299] cs (
  (faP 3 t4).bind fun t121 =>
  (ldS h299 t121).bind fun t122 =>
  mk Heap.new (bsP 1 [(AV.int .i64 0)] 1 [(0, t122)]) h299 fun t123 h300 =>
  cl (k_fresh_states_lend t15 t123 h300) fun t124 h301 =>
  some (t15, h301))) (
  (eqP (some (.int .i64)) none false .eql t30 (AV.int .i64 31)).bind fun t127 =>
  gQ (gdW t127 false) h227 (some (t30, h227)) fun t129 h302 =>
  gQ (gdW t127 false) h302 ((eqP (some (.int .i64)) none false .eql t129 (AV.int .i64 32)).bind fun t130 =>
  some (t130, h302)) fun t130_303 h304 =>
  (pickP t127 (AV.bool true) t130_303).bind fun t131 =>
  condE t131 (
  (faP 1 t4).bind fun t133 =>
  (ldS h304 t133).bind fun t134 =>
  cl (k_fresh_states_written t15 t134 (AV.int .u64 18446744073709551615) h304) fun t135 h356 =>
  (faP 3 t4).bind fun t137 =>
  (ldS h356 t137).bind fun t138 =>
  mk Heap.new (bsP 1 [(AV.int .i64 0)] 1 [(0, t138)]) h356 fun t139 h357 =>
  cl (k_fresh_states_lend t15 t139 h357) fun t140 h358 =>
  some (t15, h358)) (
  cl (k_fresh_lends t30 h304) fun t32 h359 =>
  condE t32 (
  (ldA 6 h359 t3).bind fun t34 =>
  (ldA 5 h359 t4).bind fun t35 =>
  cl (k_live_Reads t34 t35 h359) fun t36 h389 =>
  cl (k_fresh_states_lend t15 t36 h389) fun t37 h390 =>
  k_fresh_behind_j2 t3 t4 t15 t30 h390) (
  k_fresh_behind_j2 t3 t4 t15 t30 h359)))))
def k_fresh_behind_b2 (t15 : AV) (t20 : AV) (q21_391 : AV) (h392 : Heap) : OutV :=
  (binP .lss q21_391 t20).bind fun t22 =>
  condE t22 (
  (iaS 3 t15 q21_391).bind fun t26 =>
  (faP 0 t26).bind fun t27 =>
  cl (stP 1 h392 t27 (AV.bool false)) fun u h393 =>
  (binP .add q21_391 (AV.int .i64 1)).bind fun t28 =>
  some (.normal, [t28], h393)) (
  some ((.exit 0), [q21_391], h392))
def k_fresh_behind_L2 (t15 : AV) (t20 : AV) (q21_391 : AV) (h392 : Heap) : OutV := loopN (fun us g => k_fresh_behind_b2 t15 t20 (us.getD 0 .bot) g) [q21_391] h392
def k_fresh_behind_j4 (t4 : AV) (t15 : AV) (t30_398 : AV) (h632 : Heap) : Option (AV × Heap) :=
  (faP 1 t4).bind fun t81_633 =>
  (ldS h632 t81_633).bind fun t82_634 =>
  (eqP (some (.int .i64)) none false .neq t30_398 (AV.int .i64 36)).bind fun t84_635 =>
  (bldS [(0, 1), (1, 1), (2, 1)] [(AV.bool false), (AV.bool false), (AV.int .u64 0)] [(0, (AV.bool true)), (1, t84_635)]).bind fun t85_636 =>
  cl (k_fresh_states_put t15 t82_634 t85_636 h632) fun t86_637 h638 =>
  some (t15, h638)
def k_fresh_behind_b3 (t15 : AV) (t46_932 : AV) (t47_934 : AV) (q48_935 : AV) (h936 : Heap) : OutV :=
  (binP .lss q48_935 t47_934).bind fun t49_937 =>
  condE t49_937 (
  (iaS 1 t46_932 q48_935).bind fun t50_938 =>
  (ldS h936 t50_938).bind fun t51_939 =>
  (bldS [(0, 1), (1, 1), (2, 1)] [(AV.bool false), (AV.bool false), (AV.int .u64 0)] []).bind fun t54_940 =>
  cl (k_fresh_states_put t15 t51_939 t54_940 h936) fun t55_941 h942 =>
  (binP .add q48_935 (AV.int .i64 1)).bind fun t56_943 =>
  some (.normal, [t56_943], h942)) (
  some ((.exit 3), [q48_935], h936))
def k_fresh_behind_L3 (t15 : AV) (t46_932 : AV) (t47_934 : AV) (q48_935 : AV) (h936 : Heap) : OutV := loopN (fun us g => k_fresh_behind_b3 t15 t46_932 t47_934 (us.getD 0 .bot) g) [q48_935] h936
def k_fresh_behind_b4 (t15 : AV) (t59_949 : AV) (t60_951 : AV) (q61_952 : AV) (h953 : Heap) : OutV :=
  (binP .lss q61_952 t60_951).bind fun t62_954 =>
  condE t62_954 (
  (iaS 1 t59_949 q61_952).bind fun t63_955 =>
  (ldS h953 t63_955).bind fun t64_956 =>
  (bldS [(0, 1), (1, 1), (2, 1)] [(AV.bool false), (AV.bool false), (AV.int .u64 0)] []).bind fun t67_957 =>
  cl (k_fresh_states_put t15 t64_956 t67_957 h953) fun t68_958 h959 =>
  (binP .add q61_952 (AV.int .i64 1)).bind fun t69_960 =>
  some (.normal, [t69_960], h959)) (
  some ((.exit 5), [q61_952], h953))
def k_fresh_behind_L4 (t15 : AV) (t59_949 : AV) (t60_951 : AV) (q61_952 : AV) (h953 : Heap) : OutV := loopN (fun us g => k_fresh_behind_b4 t15 t59_949 t60_951 (us.getD 0 .bot) g) [q61_952] h953
def k_fresh_behind_j5 (t3 : AV) (t4 : AV) (t15 : AV) (h930 : Heap) : Option (AV × Heap) :=
  (ldA 5 h930 t4).bind fun t45_931 =>
  cl (k_live_Writes t45_931 h930) fun t46_932 h933 =>
  (lnL t46_932).bind fun t47_934 =>
  lp (k_fresh_behind_L3 t15 t46_932 t47_934 (AV.int .i64 0) h933) fun e_944 vs_945 h946 =>
  thenK (if e_944 = .exit 3 then .normal else e_944) (
  (ldA 6 h946 t3).bind fun t57_947 =>
  (ldA 5 h946 t4).bind fun t58_948 =>
  cl (k_fresh_receives t57_947 t58_948 h946) fun t59_949 h950 =>
  (lnL t59_949).bind fun t60_951 =>
  lp (k_fresh_behind_L4 t15 t59_949 t60_951 (AV.int .i64 0) h950) fun e_961 vs_962 h963 =>
  thenK (if (if e_961 = .exit 5 then .normal else e_961) = .exit 2 then .normal else (if e_961 = .exit 5 then .normal else e_961)) (
  some (t15, h963)) (fun e_964 => endE e_964 (some ((AV.sl none 0 (.ex 0)), h963)))) (fun e_965 => thenK (if e_965 = .exit 2 then .normal else e_965) (
  some (t15, h946)) (fun e_966 => endE e_966 (some ((AV.sl none 0 (.ex 0)), h946))))
def k_fresh_behind_j6 (t3 : AV) (t4 : AV) (t15 : AV) (t30_398 : AV) (h923 : Heap) : Option (AV × Heap) :=
  (eqP (some (.int .i64)) none false .eql t30_398 (AV.int .i64 38)).bind fun t39_924 =>
  condE t39_924 (
  (faP 2 t4).bind fun t41_967 =>
  (ldS h923 t41_967).bind fun t42_968 =>
  mk Heap.new (bsP 1 [(AV.int .i64 0)] 1 [(0, t42_968)]) h923 fun t43_969 h970 =>
  cl (k_fresh_states_lend t15 t43_969 h970) fun t44_971 h972 =>
  k_fresh_behind_j5 t3 t4 t15 h972) (
  k_fresh_behind_j5 t3 t4 t15 h923)
def k_fresh_behind (x0 : AV) (x1 : AV) (x2 : AV) (h : Heap) : Option (AV × Heap) :=
  mk Heap.new (bxP x0) h fun t3 h0 =>
  mk Heap.new (bxP x1) h0 fun t4 h1 =>
  cl (k_slices_Clone_fresh_states_fresh_State x2 h1) fun t15 h2 =>
  (faP 0 t4).bind fun t16 =>
  (ldS h2 t16).bind fun t17 =>
  cl (k_code_Point t17 h2) fun t18 h3 =>
  condE t18 (
  (lnL t15).bind fun t20 =>
  lp (k_fresh_behind_L2 t15 t20 (AV.int .i64 0) h3) fun e_394 vs_395 h396 =>
  thenK (if e_394 = .exit 0 then .normal else e_394) (
  (faP 0 t4).bind fun t29_397 =>
  (ldS h396 t29_397).bind fun t30_398 =>
  cl (k_code_Maker t30_398 h396) fun t72_513 h514 =>
  condE t72_513 (
  (eqP (some (.int .i64)) none false .eql t30_398 (AV.int .i64 36)).bind fun t74_626 =>
  condE t74_626 (
  (ldA 6 h514 t3).bind fun t76_639 =>
  (ldA 5 h514 t4).bind fun t77_640 =>
  cl (k_live_Reads t76_639 t77_640 h514) fun t78_641 h642 =>
  cl (k_fresh_states_lend t15 t78_641 h642) fun t79_643 h644 =>
  k_fresh_behind_j4 t4 t15 t30_398 h644) (
  k_fresh_behind_j4 t4 t15 t30_398 h514)) (
  (eqP (some (.int .i64)) none false .eql t30_398 (AV.int .i64 1)).bind fun t89_645 =>
  condE t89_645 (
  (faP 2 t4).bind fun t91_740 =>
  (ldS h514 t91_740).bind fun t92_741 =>
  cl (k_fresh_states_get t15 t92_741 h514) fun t93_742 h743 =>
  (fvS 0 t93_742).bind fun t94_744 =>
  (faP 2 t4).bind fun t96_745 =>
  (ldS h743 t96_745).bind fun t97_746 =>
  mk Heap.new (bsP 1 [(AV.int .i64 0)] 1 [(0, t97_746)]) h743 fun t98_747 h748 =>
  cl (k_fresh_states_lend t15 t98_747 h748) fun t99_749 h750 =>
  (faP 1 t4).bind fun t101_751 =>
  (ldS h750 t101_751).bind fun t102_752 =>
  (bldS [(0, 1), (1, 1), (2, 1)] [(AV.bool false), (AV.bool false), (AV.int .u64 0)] [(0, t94_744)]).bind fun t104_753 =>
  cl (k_fresh_states_put t15 t102_752 t104_753 h750) fun t105_754 h755 =>
  some (t15, h755)) (
  (eqP (some (.int .i64)) none false .eql t30_398 (AV.int .i64 28)).bind fun t108_756 =>
  gQ (gdW t108_756 false) h514 (some (t30_398, h514)) fun t110_757 h758 =>
  gQ (gdW t108_756 false) h758 ((eqP (some (.int .i64)) none false .eql t110_757 (AV.int .i64 29)).bind fun t111_759 =>
  some (t111_759, h758)) fun t111_760 h761 =>
  (pickP t108_756 (AV.bool true) t111_760).bind fun t112_762 =>
  condE t112_762 (
  (faP 1 t4).bind fun t114_833 =>
  clC (rdC (fun g => ldS g t114_833) h761 0 1 []) fun t115_834 cs_835 =>
  (faP 2 t4).bind fun t116_836 =>
  (ldS h761 t116_836).bind fun t117_837 =>
  cl (k_fresh_bit t117_837 h761) fun t118_838 h839 =>
  cl (k_fresh_states_written t15 t115_834 t118_838 h839) fun t119_840 h841 =>
  chk [h761, h839, h841] cs_835 (
  (faP 3 t4).bind fun t121_842 =>
  (ldS h841 t121_842).bind fun t122_843 =>
  mk Heap.new (bsP 1 [(AV.int .i64 0)] 1 [(0, t122_843)]) h841 fun t123_844 h845 =>
  cl (k_fresh_states_lend t15 t123_844 h845) fun t124_846 h847 =>
  some (t15, h847))) (
  (eqP (some (.int .i64)) none false .eql t30_398 (AV.int .i64 31)).bind fun t127_848 =>
  gQ (gdW t127_848 false) h761 (some (t30_398, h761)) fun t129_849 h850 =>
  gQ (gdW t127_848 false) h850 ((eqP (some (.int .i64)) none false .eql t129_849 (AV.int .i64 32)).bind fun t130_851 =>
  some (t130_851, h850)) fun t130_852 h853 =>
  (pickP t127_848 (AV.bool true) t130_852).bind fun t131_854 =>
  condE t131_854 (
  (faP 1 t4).bind fun t133_906 =>
  (ldS h853 t133_906).bind fun t134_907 =>
  cl (k_fresh_states_written t15 t134_907 (AV.int .u64 18446744073709551615) h853) fun t135_908 h909 =>
  (faP 3 t4).bind fun t137_910 =>
  (ldS h909 t137_910).bind fun t138_911 =>
  mk Heap.new (bsP 1 [(AV.int .i64 0)] 1 [(0, t138_911)]) h909 fun t139_912 h913 =>
  cl (k_fresh_states_lend t15 t139_912 h913) fun t140_914 h915 =>
  some (t15, h915)) (
  cl (k_fresh_lends t30_398 h853) fun t32_916 h917 =>
  condE t32_916 (
  (ldA 6 h917 t3).bind fun t34_973 =>
  (ldA 5 h917 t4).bind fun t35_974 =>
  cl (k_live_Reads t34_973 t35_974 h917) fun t36_975 h976 =>
  cl (k_fresh_states_lend t15 t36_975 h976) fun t37_977 h978 =>
  k_fresh_behind_j6 t3 t4 t15 t30_398 h978) (
  k_fresh_behind_j6 t3 t4 t15 t30_398 h917)))))) (fun e_979 => endE e_979 (some ((AV.sl none 0 (.ex 0)), h396)))) (
  k_fresh_behind_j3 t3 t4 t15 h3)
def T86 : Tab := (46, p3 k_fresh_behind) :: T85
/- 48: gantline/fresh.meet -/
def k_fresh_meet_b0 (x0 : AV) (x1 : AV) (t8 : AV) (t10 : AV) (q11 : AV) (h1 : Heap) : OutV :=
  (binP .lss q11 t10).bind fun t12 =>
  condE t12 (
  (iaS 3 x0 q11).bind fun t18 =>
  (faP 0 t18).bind fun t19 =>
  (ldS h1 t19).bind fun t20 =>
  (gV (gdW t20 true) (some x1) (.tup [])).bind fun t22 =>
  (gV (gdW t20 true) (some q11) (.tup [])).bind fun t23 =>
  (gV (gdW t20 true) (iaS 3 t22 t23) (.tup [])).bind fun t24 =>
  (gV (gdW t20 true) (faP 0 t24) (.tup [])).bind fun t25 =>
  (gV (gdW t20 true) (ldS h1 t25) (.tup [])).bind fun t26 =>
  (pickP t20 t26 (AV.bool false)).bind fun t27 =>
  (iaS 3 x0 q11).bind fun t30 =>
  (faP 1 t30).bind fun t31 =>
  (ldS h1 t31).bind fun t32 =>
  (gV (gdW t32 true) (some x1) (.tup [])).bind fun t34 =>
  (gV (gdW t32 true) (some q11) (.tup [])).bind fun t35 =>
  (gV (gdW t32 true) (iaS 3 t34 t35) (.tup [])).bind fun t36 =>
  (gV (gdW t32 true) (faP 1 t36) (.tup [])).bind fun t37 =>
  (gV (gdW t32 true) (ldS h1 t37) (.tup [])).bind fun t38 =>
  (pickP t32 t38 (AV.bool false)).bind fun t39 =>
  (iaS 3 x0 q11).bind fun t42 =>
  (faP 2 t42).bind fun t43 =>
  (ldS h1 t43).bind fun t44 =>
  (iaS 3 x1 q11).bind fun t47 =>
  (faP 2 t47).bind fun t48 =>
  (ldS h1 t48).bind fun t49 =>
  (binP .or t44 t49).bind fun t50 =>
  (bldS [(0, 1), (1, 1), (2, 1)] [(AV.bool false), (AV.bool false), (AV.int .u64 0)] [(0, t27), (1, t39), (2, t50)]).bind fun t51 =>
  (iaS 3 t8 q11).bind fun t52 =>
  cl (stP 3 h1 t52 t51) fun u h2 =>
  chk [h1, h2] [] (
  (binP .add q11 (AV.int .i64 1)).bind fun t53 =>
  some (.normal, [t53], h2))) (
  some ((.exit 0), [q11], h1))
def k_fresh_meet_L0 (x0 : AV) (x1 : AV) (t8 : AV) (t10 : AV) (q11 : AV) (h1 : Heap) : OutV := loopN (fun us g => k_fresh_meet_b0 x0 x1 t8 t10 (us.getD 0 .bot) g) [q11] h1
def k_fresh_meet (x0 : AV) (x1 : AV) (h : Heap) : Option (AV × Heap) :=
  cl (k_slices_Clone_fresh_states_fresh_State x0 h) fun t8 h0 =>
  (lnL t8).bind fun t10 =>
  lp (k_fresh_meet_L0 x0 x1 t8 t10 (AV.int .i64 0) h0) fun e vs h3 =>
  thenK (if e = .exit 0 then .normal else e) (
  some (t8, h3)) (fun e_4 => endE e_4 (some ((AV.sl none 0 (.ex 0)), h3)))
def T87 : Tab := (48, p2 k_fresh_meet) :: T86
/- 49: slices.Equal[gantline/fresh.states,gantline/fresh.State] -/
def k_slices_Equal_fresh_states_fresh_State_b0 (x0 : AV) (x1 : AV) (t12 : AV) (q4 : AV) (q13 : AV) (h0 : Heap) : OutV :=
  (binP .lss q13 t12).bind fun t14 =>
  condE t14 (
  (iaS 3 x0 q13).bind fun t18 =>
  (ldA 3 h0 t18).bind fun t19 =>
  (iaS 3 x1 q13).bind fun t22 =>
  (ldA 3 h0 t22).bind fun t23 =>
  (eqP (some (.struct #[])) (some [(0, .bool), (1, .bool), (2, (.int .u64))]) false .neq t19 t23).bind fun t24 =>
  chk [h0] [] (
  condE t24 (
  some (.ret, [(AV.bool false), q13], h0)) (
  (binP .add q13 (AV.int .i64 1)).bind fun t25 =>
  some (.normal, [q4, t25], h0)))) (
  some ((.exit 0), [q4, q13], h0))
def k_slices_Equal_fresh_states_fresh_State_L0 (x0 : AV) (x1 : AV) (t12 : AV) (q4 : AV) (q13 : AV) (h0 : Heap) : OutV := loopN (fun us g => k_slices_Equal_fresh_states_fresh_State_b0 x0 x1 t12 (us.getD 0 .bot) (us.getD 1 .bot) g) [q4, q13] h0
def k_slices_Equal_fresh_states_fresh_State (x0 : AV) (x1 : AV) (h : Heap) : Option (AV × Heap) :=
  (lnL x0).bind fun t7 =>
  (lnL x1).bind fun t9 =>
  (eqP (some (.int .i64)) none false .neq t7 t9).bind fun t10 =>
  condE t10 (
  some ((AV.bool false), h)) (
  (lnL x0).bind fun t12 =>
  lp (k_slices_Equal_fresh_states_fresh_State_L0 x0 x1 t12 (AV.bool false) (AV.int .i64 0) h) fun e vs h1 =>
  thenK (if e = .exit 0 then .normal else e) (
  some ((AV.bool true), h1)) (fun e_2 => endE e_2 (some ((vs.getD 0 .bot), h1))))
def T88 : Tab := (49, p2 k_slices_Equal_fresh_states_fresh_State) :: T87
/- 30: gantline/fresh.Sets -/
def k_fresh_Sets_j0 (q67_19 : AV) (q7_53 : AV) (h66 : Heap) : OutV :=
  (binP .add q67_19 (AV.int .i64 1)).bind fun t92_67 =>
  some (.normal, [q7_53, t92_67], h66)
def k_fresh_Sets_b0 (t27 : AV) (t61 : AV) (t65 : AV) (t66 : AV) (q7_18 : AV) (q67_19 : AV) (h20 : Heap) : OutV :=
  (binP .lss q67_19 t66).bind fun t68 =>
  condE t68 (
  (iaS 1 t65 q67_19).bind fun t69 =>
  (ldS h20 t69).bind fun t70 =>
  (iaS 1 t27 t70).bind fun t73 =>
  (ldS h20 t73).bind fun t74 =>
  (eqP (some (.slice 0)) none false .eql t74 (AV.sl none 0 (.ex 0))).bind fun t76 =>
  condE t76 (
  (iaS 1 t27 t70).bind fun t80 =>
  cl (stP 1 h20 t80 t61) fun u_68 h69 =>
  k_fresh_Sets_j0 q67_19 (AV.bool true) h69) (
  cl (k_fresh_meet t74 t61 h20) fun t83 h70 =>
  cl (k_slices_Equal_fresh_states_fresh_State t83 t74 h70) fun t86 h71 =>
  (unA .not t86).bind fun t87 =>
  condE t87 (
  (iaS 1 t27 t70).bind fun t91 =>
  cl (stP 1 h71 t91 t83) fun u_78 h79 =>
  k_fresh_Sets_j0 q67_19 (AV.bool true) h79) (
  k_fresh_Sets_j0 q67_19 q7_18 h71))) (
  some ((.exit 4), [q7_18, q67_19], h20))
def k_fresh_Sets_L0 (t27 : AV) (t61 : AV) (t65 : AV) (t66 : AV) (q7_18 : AV) (q67_19 : AV) (h20 : Heap) : OutV := loopN (fun us g => k_fresh_Sets_b0 t27 t61 t65 t66 (us.getD 0 .bot) (us.getD 1 .bot) g) [q7_18, q67_19] h20
def k_fresh_Sets_b1 (t2 : AV) (t3 : AV) (t27 : AV) (t36 : AV) (t37 : AV) (q7_6 : AV) (q38 : AV) (h7 : Heap) : OutV :=
  (binP .lss q38 t37).bind fun t39 =>
  condE t39 (
  (iaS 5 t36 q38).bind fun t41 =>
  (ldA 5 h7 t41).bind fun t42 =>
  mk Heap.new (some (Blk.cells true [(AV.int .i64 0), (AV.int .i64 0), (AV.int .i64 0), (AV.int .i64 0), (AV.int .i64 0)], fun i => AV.ptr (some (i, 0)))) h7 fun t9 h10 =>
  cl (stP 5 h10 t9 t42) fun u h11 =>
  (iaS 1 t27 q38).bind fun t45 =>
  (ldS h11 t45).bind fun t46 =>
  (eqP (some (.slice 0)) none false .eql t46 (AV.sl none 0 (.ex 0))).bind fun t47 =>
  condE t47 (
  (binP .add q38 (AV.int .i64 1)).bind fun t93_12 =>
  some (.normal, [q7_6, t93_12], h11)) (
  (iaS 1 t27 q38).bind fun t50 =>
  (ldS h11 t50).bind fun t51 =>
  cl (k_slices_Clone_fresh_states_fresh_State t51 h11) fun t52 h13 =>
  (ldA 6 h13 t2).bind fun t54 =>
  (ldA 5 h13 t9).bind fun t55 =>
  cl (k_fresh_sent t54 t55 h13) fun t56 h14 =>
  cl (k_fresh_states_lend t52 t56 h14) fun t57 h15 =>
  (ldA 6 h15 t2).bind fun t58 =>
  (ldA 5 h15 t9).bind fun t59 =>
  cl (k_fresh_behind t58 t59 t52 h15) fun t61 h16 =>
  (ldA 6 h16 t2).bind fun t62 =>
  (ldA 7 h16 t3).bind fun t63 =>
  cl (k_live_Follows t62 t63 q38 h16) fun t65 h17 =>
  (lnL t65).bind fun t66 =>
  lp (k_fresh_Sets_L0 t27 t61 t65 t66 q7_6 (AV.int .i64 0) h17) fun e vs h80 =>
  thenK (if (if e = .exit 4 then .normal else e) = .exit 3 then .normal else (if e = .exit 4 then .normal else e)) (
  (binP .add q38 (AV.int .i64 1)).bind fun t93_81 =>
  some (.normal, [(vs.getD 0 .bot), t93_81], h80)) (fun e_82 => some (e_82, [(vs.getD 0 .bot), q38], h80)))) (
  some ((.exit 2), [q7_6, q38], h7))
def k_fresh_Sets_L1 (t2 : AV) (t3 : AV) (t27 : AV) (t36 : AV) (t37 : AV) (q7_6 : AV) (q38 : AV) (h7 : Heap) : OutV := loopN (fun us g => k_fresh_Sets_b1 t2 t3 t27 t36 t37 (us.getD 0 .bot) (us.getD 1 .bot) g) [q7_6, q38] h7
def k_fresh_Sets_b2 (t2 : AV) (t3 : AV) (t27 : AV) (q7 : AV) (h5 : Heap) : OutV :=
  condE q7 (
  (faP 5 t3).bind fun t35 =>
  (ldS h5 t35).bind fun t36 =>
  (lnL t36).bind fun t37 =>
  lp (k_fresh_Sets_L1 t2 t3 t27 t36 t37 (AV.bool false) (AV.int .i64 0) h5) fun e_83 vs_84 h85 =>
  some ((if (if e_83 = .exit 2 then .normal else e_83) = .exit 1 then .normal else (if e_83 = .exit 2 then .normal else e_83)), [(vs_84.getD 0 .bot)], h85)) (
  some ((.exit 0), [q7], h5))
def k_fresh_Sets_L2 (t2 : AV) (t3 : AV) (t27 : AV) (q7 : AV) (h5 : Heap) : OutV := loopN (fun us g => k_fresh_Sets_b2 t2 t3 t27 (us.getD 0 .bot) g) [q7] h5
def k_fresh_Sets_j1 (q16 : AV) (q96 : AV) (q18 : AV) (h90 : Heap) : OutV :=
  cl (k_slices_Clone_fresh_states_fresh_State q18 h90) fun t105 h91 =>
  mk Heap.new (bsP 1 [(AV.sl none 0 (.ex 0))] 1 [(0, t105)]) h91 fun t106 h92 =>
  cl (appendA h92 1 24 q16 t106) fun t107 h93 =>
  (binP .add q96 (AV.int .i64 1)).bind fun t108 =>
  some (.normal, [t107, t108], h93)
def k_fresh_Sets_b3 (t23 : AV) (t27 : AV) (t95 : AV) (q16 : AV) (q96 : AV) (h89 : Heap) : OutV :=
  (binP .lss q96 t95).bind fun t97 =>
  condE t97 (
  (iaS 1 t27 q96).bind fun t98 =>
  (ldS h89 t98).bind fun t99 =>
  (eqP (some (.slice 0)) none false .eql t99 (AV.sl none 0 (.ex 0))).bind fun t101 =>
  condE t101 (
  k_fresh_Sets_j1 q16 q96 t23 h89) (
  k_fresh_Sets_j1 q16 q96 t99 h89)) (
  some ((.exit 6), [q16, q96], h89))
def k_fresh_Sets_L3 (t23 : AV) (t27 : AV) (t95 : AV) (q16 : AV) (q96 : AV) (h89 : Heap) : OutV := loopN (fun us g => k_fresh_Sets_b3 t23 t27 t95 (us.getD 0 .bot) (us.getD 1 .bot) g) [q16, q96] h89
def k_fresh_Sets_j2 (t2 : AV) (t3 : AV) (t23 : AV) (t27 : AV) (h4 : Heap) : Option (AV × Heap) :=
  lp (k_fresh_Sets_L2 t2 t3 t27 (AV.bool true) h4) fun e_86 vs_87 h88 =>
  thenK (if e_86 = .exit 0 then .normal else e_86) (
  (lnL t27).bind fun t95 =>
  lp (k_fresh_Sets_L3 t23 t27 t95 (AV.sl none 0 (.ex 0)) (AV.int .i64 0) h88) fun e_94 vs_95 h96 =>
  thenK (if e_94 = .exit 6 then .normal else e_94) (
  some ((vs_95.getD 0 .bot), h96)) (fun e_97 => endE e_97 (some ((AV.sl none 0 (.ex 0)), h96)))) (fun e_98 => endE e_98 (some ((AV.sl none 0 (.ex 0)), h88)))
def k_fresh_Sets (x0 : AV) (x1 : AV) (h : Heap) : Option (AV × Heap) :=
  mk Heap.new (bxP x0) h fun t2 h0 =>
  mk Heap.new (bxP x1) h0 fun t3 h1 =>
  (faP 2 t3).bind fun t19 =>
  (ldS h1 t19).bind fun t20 =>
  (maxP t20 (AV.int .i64 0)).bind fun t21 =>
  (minP t21 (AV.int .i64 64)).bind fun t22 =>
  mk Heap.new (msP 3 16 [(AV.bool false), (AV.bool false), (AV.int .u64 0)] t22 t22) h1 fun t23 h2 =>
  (faP 5 t3).bind fun t24 =>
  (ldS h2 t24).bind fun t25 =>
  (lnL t25).bind fun t26 =>
  mk Heap.new (msP 1 24 [(AV.sl none 0 (.ex 0))] t26 t26) h2 fun t27 h3 =>
  (lnL t27).bind fun t29 =>
  (binP .gtr t29 (AV.int .i64 0)).bind fun t30 =>
  condE t30 (
  (iaS 1 t27 (AV.int .i64 0)).bind fun t33 =>
  cl (stP 1 h3 t33 t23) fun u_99 h100 =>
  k_fresh_Sets_j2 t2 t3 t23 t27 h100) (
  k_fresh_Sets_j2 t2 t3 t23 t27 h3)
def T89 : Tab := (30, p2 k_fresh_Sets) :: T88
/- 31: gantline/fresh.SpareIn -/
def k_fresh_SpareIn (x0 : AV) (x1 : AV) (x2 : AV) (h : Heap) : Option (AV × Heap) :=
  mk Heap.new (bxP x0) h fun t3 h0 =>
  (faP 5 t3).bind fun t12 =>
  (ldS h0 t12).bind fun t13 =>
  (iaS 5 t13 x2).bind fun t15 =>
  (ldA 5 h0 t15).bind fun t16 =>
  mk Heap.new (some (Blk.cells true [(AV.int .i64 0), (AV.int .i64 0), (AV.int .i64 0), (AV.int .i64 0), (AV.int .i64 0)], fun i => AV.ptr (some (i, 0)))) h0 fun t7 h1 =>
  cl (stP 5 h1 t7 t16) fun u h2 =>
  (faP 0 t7).bind fun t17 =>
  (ldS h2 t17).bind fun t18 =>
  (eqP (some (.int .i64)) none false .eql t18 (AV.int .i64 28)).bind fun t19 =>
  gQ (gdW t19 false) h2 ((faP 0 t7).bind fun t21 =>
  some (t21, h2)) fun t21_3 h4 =>
  gQ (gdW t19 false) h4 ((ldS h4 t21_3).bind fun t22 =>
  some (t22, h4)) fun t22_5 h6 =>
  gQ (gdW t19 false) h6 ((eqP (some (.int .i64)) none false .eql t22_5 (AV.int .i64 29)).bind fun t23 =>
  some (t23, h6)) fun t23_7 h8 =>
  (pickP t19 (AV.bool true) t23_7).bind fun t24 =>
  (unA .not t24).bind fun t26 =>
  gQ (gdW t26 true) h8 ((faP 0 t7).bind fun t28 =>
  some (t28, h8)) fun t28_9 h10 =>
  gQ (gdW t26 true) h10 ((ldS h10 t28_9).bind fun t29 =>
  some (t29, h10)) fun t29_11 h12 =>
  gQ (gdW t26 true) h12 ((eqP (some (.int .i64)) none false .neq t29_11 (AV.int .i64 31)).bind fun t30 =>
  some (t30, h12)) fun t30_13 h14 =>
  (pickP t26 t30_13 (AV.bool false)).bind fun t31 =>
  gQ (gdW t31 true) h14 ((faP 0 t7).bind fun t33 =>
  some (t33, h14)) fun t33_15 h16 =>
  gQ (gdW t31 true) h16 ((ldS h16 t33_15).bind fun t34 =>
  some (t34, h16)) fun t34_17 h18 =>
  gQ (gdW t31 true) h18 ((eqP (some (.int .i64)) none false .neq t34_17 (AV.int .i64 32)).bind fun t35 =>
  some (t35, h18)) fun t35_19 h20 =>
  (pickP t31 t35_19 (AV.bool false)).bind fun t36 =>
  condE t36 (
  some ((AV.bool false), h20)) (
  (faP 1 t7).bind fun t37 =>
  (ldS h20 t37).bind fun t38 =>
  (binP .lss t38 (AV.int .i64 0)).bind fun t39 =>
  gQ (gdW t39 false) h20 ((faP 1 t7).bind fun t41 =>
  some (t41, h20)) fun t41_21 h22 =>
  gQ (gdW t39 false) h22 ((ldS h22 t41_21).bind fun t42 =>
  some (t42, h22)) fun t42_23 h24 =>
  gQ (gdW t39 false) h24 ((binP .geq t42_23 (AV.int .i64 64)).bind fun t43 =>
  some (t43, h24)) fun t43_25 h26 =>
  (pickP t39 (AV.bool true) t43_25).bind fun t44 =>
  gQ (gdW t44 false) h26 ((faP 3 t7).bind fun t46 =>
  some (t46, h26)) fun t46_27 h28 =>
  gQ (gdW t44 false) h28 ((ldS h28 t46_27).bind fun t47 =>
  some (t47, h28)) fun t47_29 h30 =>
  gQ (gdW t44 false) h30 ((binP .lss t47_29 (AV.int .i64 0)).bind fun t48 =>
  some (t48, h30)) fun t48_31 h32 =>
  (pickP t44 (AV.bool true) t48_31).bind fun t49 =>
  gQ (gdW t49 false) h32 ((faP 3 t7).bind fun t51 =>
  some (t51, h32)) fun t51_33 h34 =>
  gQ (gdW t49 false) h34 ((ldS h34 t51_33).bind fun t52 =>
  some (t52, h34)) fun t52_35 h36 =>
  gQ (gdW t49 false) h36 ((binP .geq t52_35 (AV.int .i64 64)).bind fun t53 =>
  some (t53, h36)) fun t53_37 h38 =>
  (pickP t49 (AV.bool true) t53_37).bind fun t54 =>
  condE t54 (
  some ((AV.bool false), h38)) (
  (faP 3 t7).bind fun t55 =>
  (ldS h38 t55).bind fun t56 =>
  (faP 4 t3).bind fun t57 =>
  (ldS h38 t57).bind fun t58 =>
  (lnL t58).bind fun t59 =>
  (binP .lss t56 t59).bind fun t60 =>
  gQ (gdW t60 true) h38 ((faP 4 t3).bind fun t62 =>
  some (t62, h38)) fun t62_39 h40 =>
  gQ (gdW t60 true) h40 ((ldS h40 t62_39).bind fun t63 =>
  some (t63, h40)) fun t63_41 h42 =>
  gQ (gdW t60 true) h42 ((faP 3 t7).bind fun t64 =>
  some (t64, h42)) fun t64_43 h44 =>
  gQ (gdW t60 true) h44 ((ldS h44 t64_43).bind fun t65 =>
  some (t65, h44)) fun t65_45 h46 =>
  gQ (gdW t60 true) h46 ((iaS 1 t63_41 t65_45).bind fun t66 =>
  some (t66, h46)) fun t66_47 h48 =>
  gQ (gdW t60 true) h48 ((ldS h48 t66_47).bind fun t67 =>
  some (t67, h48)) fun t67_49 h50 =>
  gQ (gdW t60 true) h50 ((unA .not t67_49).bind fun t68 =>
  some (t68, h50)) fun t68_51 h52 =>
  (pickP t60 t68_51 (AV.bool false)).bind fun t69 =>
  condE t69 (
  some ((AV.bool true), h52)) (
  (iaS 1 x1 x2).bind fun t72 =>
  (ldS h52 t72).bind fun t73 =>
  (faP 1 t7).bind fun t75 =>
  (ldS (hpN h52 2) t75).bind fun t76 =>
  cl (k_fresh_states_get t73 t76 (hpN h52 2)) fun t77 h53 =>
  (faP 3 t7).bind fun t79 =>
  clC (rdC (fun g => ldS g t79) h53 0 1 []) fun t80 cs =>
  cl (k_fresh_states_get t73 t80 h53) fun t81 h54 =>
  cl (mkAt Heap.put (some (Blk.cells true [(AV.bool false), (AV.bool false), (AV.int .u64 0)], fun i => AV.ptr (some (i, 0)))) (h52.next + 0) h54) fun t10 h55 =>
  cl (mkAt Heap.put (some (Blk.cells true [(AV.bool false), (AV.bool false), (AV.int .u64 0)], fun i => AV.ptr (some (i, 0)))) (h52.next + 1) h55) fun t11 h56 =>
  cl (stP 3 h56 t10 t77) fun u_57 h58 =>
  cl (stP 3 h58 t11 t81) fun u_59 h60 =>
  chk [(hpN h52 2), h53, h54, h58, h60] cs (
  condE t24 (
  (faP 1 t10).bind fun t83 =>
  (ldS h60 t83).bind fun t84 =>
  (gV (gdW t84 true) (faP 0 t11) (.tup [])).bind fun t86 =>
  (gV (gdW t84 true) (ldS h60 t86) (.tup [])).bind fun t87 =>
  (pickP t84 t87 (AV.bool false)).bind fun t88 =>
  (gV (gdW t88 true) (faP 2 t10) (.tup [])).bind fun t90 =>
  clC (gV (gdW t88 true) (rdC (fun g => ldS g t90) h60 0 1 []) (.tup [], [])) fun t91 cs_61 =>
  (gV (gdW t88 true) (faP 2 t7) (.tup [])).bind fun t92 =>
  (gV (gdW t88 true) (ldS h60 t92) (.tup [])).bind fun t93 =>
  gQ (gdW t88 true) h60 (cl (k_fresh_bit t93 h60) fun t94 h62 =>
  some (t94, h62)) fun t94_63 h64 =>
  (gV (gdW t88 true) (binP .and t91 t94_63) (.tup [])).bind fun t95 =>
  (gV (gdW t88 true) (eqP (some (.int .u64)) none false .eql t95 (AV.int .u64 0)) (.tup [])).bind fun t96 =>
  (pickP t88 t96 (AV.bool false)).bind fun t97 =>
  chk [h60, h64] cs_61 (
  some (t97, h64))) (
  (faP 1 t10).bind fun t98 =>
  (ldS h60 t98).bind fun t99 =>
  gQ (gdW t99 true) h60 ((faP 0 t11).bind fun t101 =>
  some (t101, h60)) fun t101_65 h66 =>
  gQ (gdW t99 true) h66 ((ldS h66 t101_65).bind fun t102 =>
  some (t102, h66)) fun t102_67 h68 =>
  (pickP t99 t102_67 (AV.bool false)).bind fun t103 =>
  gQ (gdW t103 true) h68 ((faP 2 t10).bind fun t105 =>
  some (t105, h68)) fun t105_69 h70 =>
  gQ (gdW t103 true) h70 ((ldS h70 t105_69).bind fun t106 =>
  some (t106, h70)) fun t106_71 h72 =>
  gQ (gdW t103 true) h72 ((eqP (some (.int .u64)) none false .eql t106_71 (AV.int .u64 0)).bind fun t107 =>
  some (t107, h72)) fun t107_73 h74 =>
  (pickP t103 t107_73 (AV.bool false)).bind fun t108 =>
  some (t108, h74))))))
def T90 : Tab := (31, p3 k_fresh_SpareIn) :: T89
/- 84: (*gantline/verify.checker).bare -/
def k_verify_checker_bare_j0 (x0 : AV) (h11 : Heap) : Option (AV × Heap) :=
  (nilV x0).bind fun t35 =>
  (faP 6 t35).bind fun t36 =>
  (ldA 7 h11 t36).bind fun t37 =>
  (nilV x0).bind fun t39 =>
  (faP 14 t39).bind fun t40 =>
  (ldS h11 t40).bind fun t41 =>
  (nilV x0).bind fun t43 =>
  (faP 16 t43).bind fun t44 =>
  (ldS h11 t44).bind fun t45 =>
  cl (k_fresh_SpareIn t37 t41 t45 h11) fun t46 h12 =>
  chk [h11, h12] [] (
  some (t46, h12))
def k_verify_checker_bare (x0 : AV) (h : Heap) : Option (AV × Heap) :=
  (nilV x0).bind fun t4 =>
  (faP 17 t4).bind fun t5 =>
  (faP 0 t5).bind fun t6 =>
  (ldS h t6).bind fun t7 =>
  (eqP (some (.int .i64)) none false .neq t7 (AV.int .i64 29)).bind fun t8 =>
  gQ (gdW t8 true) h (some (x0, h)) fun t10 h0 =>
  gQ (gdW t8 true) h0 ((nilV t10).bind fun t11 =>
  some (t11, h0)) fun t11_1 h2 =>
  gQ (gdW t8 true) h2 ((faP 17 t11_1).bind fun t12 =>
  some (t12, h2)) fun t12_3 h4 =>
  gQ (gdW t8 true) h4 ((faP 0 t12_3).bind fun t13 =>
  some (t13, h4)) fun t13_5 h6 =>
  gQ (gdW t8 true) h6 ((ldS h6 t13_5).bind fun t14 =>
  some (t14, h6)) fun t14_7 h8 =>
  gQ (gdW t8 true) h8 ((eqP (some (.int .i64)) none false .neq t14_7 (AV.int .i64 32)).bind fun t15 =>
  some (t15, h8)) fun t15_9 h10 =>
  (pickP t8 t15_9 (AV.bool false)).bind fun t16 =>
  condE t16 (
  some ((AV.bool true), h10)) (
  (nilV x0).bind fun t18 =>
  (faP 14 t18).bind fun t19 =>
  (ldS h10 t19).bind fun t20 =>
  (eqP (some (.slice 0)) none false .eql t20 (AV.sl none 0 (.ex 0))).bind fun t21 =>
  condE t21 (
  (nilV x0).bind fun t24 =>
  (faP 0 t24).bind fun t25 =>
  (ldA 6 h10 t25).bind fun t26 =>
  (nilV x0).bind fun t28 =>
  (faP 6 t28).bind fun t29 =>
  (ldA 7 h10 t29).bind fun t30 =>
  cl (k_fresh_Sets t26 t30 h10) fun t31 h13 =>
  (nilV x0).bind fun t32 =>
  (faP 14 t32).bind fun t33 =>
  cl (stP 1 h13 t33 t31) fun u h14 =>
  chk [h10, h13, h14] [] (
  k_verify_checker_bare_j0 x0 h14)) (
  k_verify_checker_bare_j0 x0 h10))
def T91 : Tab := (84, p1 k_verify_checker_bare) :: T90
/- 56: (*gantline/verify.checker).rule -/
def k_verify_checker_rule (x0 : AV) (x1 : AV) (h : Heap) : Option (AV × Heap) :=
  (eqP (some (.int .i64)) none false .eql x1 (AV.int .i64 4)).bind fun t7 =>
  condE t7 (
  cl (k_verify_checker_slots x0 h) fun t9 h0 =>
  some (t9, h0)) (
  (eqP (some (.int .i64)) none false .eql x1 (AV.int .i64 5)).bind fun t11 =>
  condE t11 (
  cl (k_verify_checker_there x0 h) fun t13 h1 =>
  some (t13, h1)) (
  (eqP (some (.int .i64)) none false .eql x1 (AV.int .i64 6)).bind fun t15 =>
  condE t15 (
  cl (k_verify_checker_kinds x0 h) fun t17 h2 =>
  some (t17, h2)) (
  (eqP (some (.int .i64)) none false .eql x1 (AV.int .i64 7)).bind fun t19 =>
  condE t19 (
  cl (k_verify_checker_on x0 h) fun t21 h3 =>
  some (t21, h3)) (
  (eqP (some (.int .i64)) none false .eql x1 (AV.int .i64 8)).bind fun t23 =>
  condE t23 (
  cl (k_verify_checker_back x0 h) fun t25 h4 =>
  some (t25, h4)) (
  (eqP (some (.int .i64)) none false .eql x1 (AV.int .i64 9)).bind fun t27 =>
  condE t27 (
  (nilV x0).bind fun t29 =>
  (faP 6 t29).bind fun t30 =>
  (faP 6 t30).bind fun t31 =>
  (ldS h t31).bind fun t32 =>
  (nilV x0).bind fun t34 =>
  (faP 16 t34).bind fun t35 =>
  (ldS h t35).bind fun t36 =>
  (iaS 1 t32 t36).bind fun t37 =>
  (ldS h t37).bind fun t38 =>
  (nilV x0).bind fun t40 =>
  (faP 13 t40).bind fun t41 =>
  (ldS h t41).bind fun t42 =>
  (nilV x0).bind fun t44 =>
  (faP 16 t44).bind fun t45 =>
  (ldS h t45).bind fun t46 =>
  (iaS 1 t42 t46).bind fun t47 =>
  (ldS h t47).bind fun t48 =>
  (eqP (some (.int .u64)) none false .eql t38 t48).bind fun t49 =>
  chk [h] [] (
  some (t49, h))) (
  cl (k_verify_checker_bare x0 h) fun t51 h5 =>
  some (t51, h5)))))))
def T92 : Tab := (56, p2 k_verify_checker_rule) :: T91
/- 41: gantline/verify.Without -/
def k_verify_Without_b0 (t4 : AV) (t23 : AV) (t24 : AV) (q5 : AV) (q25 : AV) (h4 : Heap) : OutV :=
  (binP .lss q25 t24).bind fun t26 =>
  condE t26 (
  (iaS 7 t23 q25).bind fun t28 =>
  (ldA 7 h4 t28).bind fun t29 =>
  mk Heap.new (some (Blk.cells true [(AV.int .i64 0), (AV.int .i64 0), (AV.int .i64 0), (AV.int .i64 0), (AV.sl none 0 (.ex 0)), (AV.sl none 0 (.ex 0)), (AV.sl none 0 (.ex 0))], fun i => AV.ptr (some (i, 0)))) h4 fun t8 h5 =>
  cl (stP 7 h5 t8 t29) fun u_6 h7 =>
  (ldA 7 h7 t8).bind fun t30 =>
  cl (k_verify_whole t30 h7) fun t31 h8 =>
  (unA .not t31).bind fun t32 =>
  condE t32 (
  (bldS [(0, 1), (1, 1), (2, 1)] [(AV.int .i64 0), (AV.int .i64 0), (AV.int .i64 0)] [(0, q25), (1, (AV.int .i64 (-1))), (2, (AV.int .i64 3))]).bind fun t34 =>
  cl (stP 3 h8 t4 t34) fun u_9 h10 =>
  some (.ret, [(AV.bool false), q25], h10)) (
  (binP .add q25 (AV.int .i64 1)).bind fun t35 =>
  some (.normal, [q5, t35], h8))) (
  some ((.exit 0), [q5, q25], h4))
def k_verify_Without_L0 (t4 : AV) (t23 : AV) (t24 : AV) (q5 : AV) (q25 : AV) (h4 : Heap) : OutV := loopN (fun us g => k_verify_Without_b0 t4 t23 t24 (us.getD 0 .bot) (us.getD 1 .bot) g) [q5, q25] h4
def k_verify_Without_b1 (x1 : AV) (t4 : AV) (q43 : AV) (t55 : AV) (q59 : AV) (q5_31 : AV) (q15 : AV) (h32 : Heap) : OutV :=
  (binP .leq q15 (AV.int .i64 10)).bind fun t73 =>
  condE t73 (
  cl (k_slices_Contains_int_int x1 q15 h32) fun t78 h33 =>
  (unA .not t78).bind fun t79 =>
  gQ (gdW t79 true) h33 (some (t55, h33)) fun t81 h34 =>
  gQ (gdW t79 true) h34 (some (q15, h34)) fun t82 h35 =>
  gQ (gdW t79 true) h35 (cl (k_verify_checker_rule t81 t82 h35) fun t83 h36 =>
  some (t83, h36)) fun t83_37 h38 =>
  gQ (gdW t79 true) h38 ((unA .not t83_37).bind fun t84 =>
  some (t84, h38)) fun t84_39 h40 =>
  (pickP t79 t84_39 (AV.bool false)).bind fun t85 =>
  condE t85 (
  (bldS [(0, 1), (1, 1), (2, 1)] [(AV.int .i64 0), (AV.int .i64 0), (AV.int .i64 0)] [(0, q43), (1, q59), (2, q15)]).bind fun t89 =>
  cl (stP 3 h40 t4 t89) fun u_41 h42 =>
  some (.ret, [(AV.bool false), q15], h42)) (
  (binP .add q15 (AV.int .i64 1)).bind fun t75 =>
  some (.normal, [q5_31, t75], h40))) (
  some ((.exit 6), [q5_31, q15], h32))
def k_verify_Without_L1 (x1 : AV) (t4 : AV) (q43 : AV) (t55 : AV) (q59 : AV) (q5_31 : AV) (q15 : AV) (h32 : Heap) : OutV := loopN (fun us g => k_verify_Without_b1 x1 t4 q43 t55 q59 (us.getD 0 .bot) (us.getD 1 .bot) g) [q5_31, q15] h32
def k_verify_Without_b2 (x1 : AV) (t4 : AV) (q43 : AV) (t55 : AV) (t57 : AV) (t58 : AV) (q5_21 : AV) (q59 : AV) (h22 : Heap) : OutV :=
  (binP .lss q59 t58).bind fun t60 =>
  condE t60 (
  (iaS 5 t57 q59).bind fun t62 =>
  (ldA 5 h22 t62).bind fun t63 =>
  mk Heap.new (some (Blk.cells true [(AV.int .i64 0), (AV.int .i64 0), (AV.int .i64 0), (AV.int .i64 0), (AV.int .i64 0)], fun i => AV.ptr (some (i, 0)))) h22 fun t14 h23 =>
  cl (stP 5 h23 t14 t63) fun u_24 h25 =>
  clC (rdC (fun g => ldA 5 g t14) h25 0 1 []) fun t67 cs_26 =>
  (nilV t55).bind fun t68 =>
  (faP 16 t68).bind fun t69 =>
  cl (stP 1 h25 t69 q59) fun u_27 h28 =>
  (nilV t55).bind fun t70 =>
  (faP 17 t70).bind fun t71 =>
  cl (stP 5 h28 t71 t67) fun u_29 h30 =>
  chk [h25, h28, h30] cs_26 (
  lp (k_verify_Without_L1 x1 t4 q43 t55 q59 q5_21 (AV.int .i64 4) h30) fun e_43 vs_44 h45 =>
  thenK (if (if e_43 = .exit 6 then .normal else e_43) = .exit 5 then .normal else (if e_43 = .exit 6 then .normal else e_43)) (
  (binP .add q59 (AV.int .i64 1)).bind fun t90 =>
  some (.normal, [(vs_44.getD 0 .bot), t90], h45)) (fun e_46 => some (e_46, [(vs_44.getD 0 .bot), q59], h45)))) (
  some ((.exit 4), [q5_21, q59], h22))
def k_verify_Without_L2 (x1 : AV) (t4 : AV) (q43 : AV) (t55 : AV) (t57 : AV) (t58 : AV) (q5_21 : AV) (q59 : AV) (h22 : Heap) : OutV := loopN (fun us g => k_verify_Without_b2 x1 t4 q43 t55 t57 t58 (us.getD 0 .bot) (us.getD 1 .bot) g) [q5_21, q59] h22
def k_verify_Without_b3 (x1 : AV) (t2 : AV) (t4 : AV) (t39 : AV) (t41 : AV) (t42 : AV) (q5_13 : AV) (q43 : AV) (h14 : Heap) : OutV :=
  (binP .lss q43 t42).bind fun t44 =>
  condE t44 (
  (iaS 7 t41 q43).bind fun t46 =>
  (ldA 7 h14 t46).bind fun t47 =>
  mk Heap.new (some (Blk.cells true [(AV.int .i64 0), (AV.int .i64 0), (AV.int .i64 0), (AV.int .i64 0), (AV.sl none 0 (.ex 0)), (AV.sl none 0 (.ex 0)), (AV.sl none 0 (.ex 0))], fun i => AV.ptr (some (i, 0)))) h14 fun t11 h15 =>
  cl (stP 7 h15 t11 t47) fun u_16 h17 =>
  clC (rdC (fun g => ldA 6 g t2) (hpN h17 1) 0 1 []) fun t48 cs =>
  clC (rdC (fun g => ldA 7 g t11) (hpN h17 1) 0 1 cs) fun t49 cs_18 =>
  (ldA 6 (hpN h17 1) t2).bind fun t50 =>
  (ldA 7 (hpN h17 1) t11).bind fun t51 =>
  cl (k_live_Maps t50 t51 (hpN h17 1)) fun t52 h19 =>
  (bldS [(0, 6), (6, 7), (13, 1), (14, 1), (15, 1), (16, 1), (17, 5)] [(AV.sl none 0 (.ex 0)), (AV.sl none 0 (.ex 0)), (AV.sl none 0 (.ex 0)), (AV.sl none 0 (.ex 0)), (AV.sl none 0 (.ex 0)), (AV.int .i64 0), (AV.int .i64 0), (AV.int .i64 0), (AV.int .i64 0), (AV.int .i64 0), (AV.sl none 0 (.ex 0)), (AV.sl none 0 (.ex 0)), (AV.sl none 0 (.ex 0)), (AV.sl none 0 (.ex 0)), (AV.sl none 0 (.ex 0)), (AV.sl none 0 (.ex 0)), (AV.int .i64 0), (AV.int .i64 0), (AV.int .i64 0), (AV.int .i64 0), (AV.int .i64 0), (AV.int .i64 0)] [(0, t48), (1, t49), (2, t52), (4, t39)]).bind fun t54 =>
  cl (mkAt Heap.put (bxP t54) (h17.next + 0) h19) fun t55 h20 =>
  chk [(hpN h17 1), h19] cs_18 (
  (faP 5 t11).bind fun t56 =>
  (ldS h20 t56).bind fun t57 =>
  (lnL t57).bind fun t58 =>
  lp (k_verify_Without_L2 x1 t4 q43 t55 t57 t58 q5_13 (AV.int .i64 0) h20) fun e_47 vs_48 h49 =>
  thenK (if (if e_47 = .exit 4 then .normal else e_47) = .exit 3 then .normal else (if e_47 = .exit 4 then .normal else e_47)) (
  (binP .add q43 (AV.int .i64 1)).bind fun t91 =>
  some (.normal, [(vs_48.getD 0 .bot), t91], h49)) (fun e_50 => some (e_50, [(vs_48.getD 0 .bot), q43], h49)))) (
  some ((.exit 2), [q5_13, q43], h14))
def k_verify_Without_L3 (x1 : AV) (t2 : AV) (t4 : AV) (t39 : AV) (t41 : AV) (t42 : AV) (q5_13 : AV) (q43 : AV) (h14 : Heap) : OutV := loopN (fun us g => k_verify_Without_b3 x1 t2 t4 t39 t41 t42 (us.getD 0 .bot) (us.getD 1 .bot) g) [q5_13, q43] h14
def k_verify_Without (x0 : AV) (x1 : AV) (h : Heap) : Option (AV × Heap) :=
  mk Heap.new (bxP x0) h fun t2 h0 =>
  mk Heap.new (some (Blk.cells true [(AV.int .i64 0), (AV.int .i64 0), (AV.int .i64 0)], fun i => AV.ptr (some (i, 0)))) h0 fun t4 h1 =>
  (ldA 6 h1 t2).bind fun t16 =>
  cl (k_verify_module t16 h1) fun t17 h2 =>
  (binP .gtr t17 (AV.int .i64 0)).bind fun t19 =>
  condE t19 (
  (bldS [(0, 1), (1, 1), (2, 1)] [(AV.int .i64 0), (AV.int .i64 0), (AV.int .i64 0)] [(0, (AV.int .i64 (-1))), (1, (AV.int .i64 (-1))), (2, t17)]).bind fun t21 =>
  cl (stP 3 h2 t4 t21) fun u h3 =>
  (ldA 3 h3 t4).bind fun t =>
  some (AV.tup [t, (AV.bool false)], h3)) (
  (faP 4 t2).bind fun t22 =>
  (ldS h2 t22).bind fun t23 =>
  (lnL t23).bind fun t24 =>
  lp (k_verify_Without_L0 t4 t23 t24 (AV.bool false) (AV.int .i64 0) h2) fun e vs h11 =>
  thenK (if e = .exit 0 then .normal else e) (
  (faP 3 t2).bind fun t36 =>
  (ldS h11 t36).bind fun t37 =>
  (lnL t37).bind fun t38 =>
  mk Heap.new (msP 1 1 [(AV.bool false)] t38 t38) h11 fun t39 h12 =>
  (faP 4 t2).bind fun t40 =>
  (ldS h12 t40).bind fun t41 =>
  (lnL t41).bind fun t42 =>
  lp (k_verify_Without_L3 x1 t2 t4 t39 t41 t42 (vs.getD 0 .bot) (AV.int .i64 0) h12) fun e_51 vs_52 h53 =>
  thenK (if e_51 = .exit 2 then .normal else e_51) (
  (bldS [(0, 1), (1, 1), (2, 1)] [(AV.int .i64 0), (AV.int .i64 0), (AV.int .i64 0)] []).bind fun t92 =>
  cl (stP 3 h53 t4 t92) fun u_54 h55 =>
  (ldA 3 h55 t4).bind fun t_56 =>
  some (AV.tup [t_56, (AV.bool true)], h55)) (fun e_57 => endE e_57 ((ldA 3 h53 t4).bind fun t_58 =>
  some (AV.tup [t_58, (vs_52.getD 0 .bot)], h53)))) (fun e_59 => endE e_59 ((ldA 3 h11 t4).bind fun t_60 =>
  some (AV.tup [t_60, (vs.getD 0 .bot)], h11))))
def T93 : Tab := (41, p2 k_verify_Without) :: T92
/- 18: gantline/lower.Loose -/
def k_lower_Loose (x0 : AV) (h : Heap) : Option (AV × Heap) :=
  mk Heap.new (bxP x0) h fun t1 h0 =>
  (ldA 6 h0 t1).bind fun t6 =>
  mk Heap.new (bsP 1 [(AV.int .i64 0)] 2 [(0, (AV.int .i64 8)), (1, (AV.int .i64 9))]) h0 fun t7 h1 =>
  cl (k_verify_Without t6 t7 h1) fun t8 h2 =>
  (extractV 0 t8).bind fun t9 =>
  (extractV 1 t8).bind fun t10 =>
  mk Heap.new (some (Blk.cells true [(AV.int .i64 0), (AV.int .i64 0), (AV.int .i64 0)], fun i => AV.ptr (some (i, 0)))) h2 fun t3 h3 =>
  cl (stP 3 h3 t3 t9) fun u h4 =>
  some (t10, h4)
def T94 : Tab := (18, p1 k_lower_Loose) :: T93
/- 42: slices.IndexFunc[[]gantline/code.Func,gantline/code.Func] -/
def k_slices_IndexFunc_code_Func_code_Func_b0 (x0 : AV) (x1 : AV) (t7 : AV) (q4 : AV) (q8 : AV) (h0 : Heap) : OutV :=
  (binP .lss q8 t7).bind fun t9 =>
  condE t9 (
  (iaS 7 x0 q8).bind fun t14 =>
  (ldA 7 h0 t14).bind fun t15 =>
  clF (lookT T94) (cvP x1 [t15]) h0 fun t16 h1 =>
  condE t16 (
  some (.ret, [q8, q8], h1)) (
  (binP .add q8 (AV.int .i64 1)).bind fun t18 =>
  some (.normal, [q4, t18], h1))) (
  some ((.exit 0), [q4, q8], h0))
def k_slices_IndexFunc_code_Func_code_Func_L0 (x0 : AV) (x1 : AV) (t7 : AV) (q4 : AV) (q8 : AV) (h0 : Heap) : OutV := loopN (fun us g => k_slices_IndexFunc_code_Func_code_Func_b0 x0 x1 t7 (us.getD 0 .bot) (us.getD 1 .bot) g) [q4, q8] h0
def k_slices_IndexFunc_code_Func_code_Func (x0 : AV) (x1 : AV) (h : Heap) : Option (AV × Heap) :=
  (lnL x0).bind fun t7 =>
  lp (k_slices_IndexFunc_code_Func_code_Func_L0 x0 x1 t7 (AV.int .i64 0) (AV.int .i64 0) h) fun e vs h2 =>
  thenK (if e = .exit 0 then .normal else e) (
  some ((AV.int .i64 (-1)), h2)) (fun e_3 => endE e_3 (some ((vs.getD 0 .bot), h2)))
def T95 : Tab := (42, p2 k_slices_IndexFunc_code_Func_code_Func) :: T94
/- 19: slices.ContainsFunc[[]gantline/code.Func,gantline/code.Func] -/
def k_slices_ContainsFunc_code_Func_code_Func (x0 : AV) (x1 : AV) (h : Heap) : Option (AV × Heap) :=
  cl (k_slices_IndexFunc_code_Func_code_Func x0 x1 h) fun t7 h0 =>
  (binP .geq t7 (AV.int .i64 0)).bind fun t8 =>
  some (t8, h0)
def T96 : Tab := (19, p2 k_slices_ContainsFunc_code_Func_code_Func) :: T95
/- 12: gantline/emit.Spares -/
def k_emit_Spares_b0 (t1 : AV) (q15 : AV) (t5 : AV) (t22 : AV) (t24 : AV) (t25 : AV) (q26 : AV) (h12 : Heap) : OutV :=
  (binP .lss q26 t25).bind fun t27 =>
  condE t27 (
  (iaS 5 t24 q26).bind fun t29 =>
  (ldA 5 h12 t29).bind fun t30 =>
  mk Heap.new (some (Blk.cells true [(AV.int .i64 0), (AV.int .i64 0), (AV.int .i64 0), (AV.int .i64 0), (AV.int .i64 0)], fun i => AV.ptr (some (i, 0)))) h12 fun t8 h14 =>
  cl (stP 5 h14 t8 t30) fun u_15 h16 =>
  (faP 0 t8).bind fun t31 =>
  (ldS h16 t31).bind fun t32 =>
  (eqP (some (.int .i64)) none false .neq t32 (AV.int .i64 28)).bind fun t33 =>
  gQ (gdW t33 true) h16 ((faP 0 t8).bind fun t35 =>
  some (t35, h16)) fun t35_17 h18 =>
  gQ (gdW t33 true) h18 ((ldS h18 t35_17).bind fun t36 =>
  some (t36, h18)) fun t36_19 h20 =>
  gQ (gdW t33 true) h20 ((eqP (some (.int .i64)) none false .neq t36_19 (AV.int .i64 31)).bind fun t37 =>
  some (t37, h20)) fun t37_21 h22 =>
  (pickP t33 t37_21 (AV.bool false)).bind fun t38 =>
  gQ (gdW t38 false) h22 ((ldA 7 h22 t5).bind fun t40 =>
  some (t40, h22)) fun t40_23 h24 =>
  gQ (gdW t38 false) h24 (some (t22, h24)) fun t41 h25 =>
  gQ (gdW t38 false) h25 (some (q26, h25)) fun t42 h26 =>
  gQ (gdW t38 false) h26 (cl (k_fresh_SpareIn t40_23 t41 t42 h26) fun t43 h27 =>
  some (t43, h27)) fun t43_28 h29 =>
  gQ (gdW t38 false) h29 ((unA .not t43_28).bind fun t44 =>
  some (t44, h29)) fun t44_30 h31 =>
  (pickP t38 (AV.bool true) t44_30).bind fun t45 =>
  condE t45 (
  (binP .add q26 (AV.int .i64 1)).bind fun t59_32 =>
  some (.normal, [t59_32], h31)) (
  (faP 4 t1).bind fun t46 =>
  (ldS h31 t46).bind fun t47 =>
  (iaS 7 t47 q15).bind fun t49 =>
  (faP 5 t49).bind fun t50 =>
  (ldS h31 t50).bind fun t51 =>
  (iaS 5 t51 q26).bind fun t53 =>
  (faP 0 t53).bind fun t54 =>
  (ldS h31 t54).bind fun t55 =>
  (binP .add t55 (AV.int .i64 1)).bind fun t56 =>
  (iaS 5 t51 q26).bind fun t57 =>
  (faP 0 t57).bind fun t58 =>
  cl (stP 1 h31 t58 t56) fun u_33 h34 =>
  (binP .add q26 (AV.int .i64 1)).bind fun t59_35 =>
  some (.normal, [t59_35], h34))) (
  some ((.exit 2), [q26], h12))
def k_emit_Spares_L0 (t1 : AV) (q15 : AV) (t5 : AV) (t22 : AV) (t24 : AV) (t25 : AV) (q26 : AV) (h12 : Heap) : OutV := loopN (fun us g => k_emit_Spares_b0 t1 q15 t5 t22 t24 t25 (us.getD 0 .bot) g) [q26] h12
def k_emit_Spares_b1 (t1 : AV) (t3 : AV) (t13 : AV) (t14 : AV) (q15 : AV) (h7 : Heap) : OutV :=
  (binP .lss q15 t14).bind fun t16 =>
  condE t16 (
  (iaS 7 t13 q15).bind fun t18 =>
  (ldA 7 h7 t18).bind fun t19 =>
  mk Heap.new (some (Blk.cells true [(AV.int .i64 0), (AV.int .i64 0), (AV.int .i64 0), (AV.int .i64 0), (AV.sl none 0 (.ex 0)), (AV.sl none 0 (.ex 0)), (AV.sl none 0 (.ex 0))], fun i => AV.ptr (some (i, 0)))) h7 fun t5 h8 =>
  cl (stP 7 h8 t5 t19) fun u_9 h10 =>
  (ldA 6 h10 t3).bind fun t20 =>
  (ldA 7 h10 t5).bind fun t21 =>
  cl (k_fresh_Sets t20 t21 h10) fun t22 h11 =>
  (faP 5 t5).bind fun t23 =>
  (ldS h11 t23).bind fun t24 =>
  (lnL t24).bind fun t25 =>
  lp (k_emit_Spares_L0 t1 q15 t5 t22 t24 t25 (AV.int .i64 0) h11) fun e vs h36 =>
  thenK (if (if e = .exit 2 then .normal else e) = .exit 1 then .normal else (if e = .exit 2 then .normal else e)) (
  (binP .add q15 (AV.int .i64 1)).bind fun t60 =>
  some (.normal, [t60], h36)) (fun e_37 => some (e_37, [q15], h36))) (
  some ((.exit 0), [q15], h7))
def k_emit_Spares_L1 (t1 : AV) (t3 : AV) (t13 : AV) (t14 : AV) (q15 : AV) (h7 : Heap) : OutV := loopN (fun us g => k_emit_Spares_b1 t1 t3 t13 t14 (us.getD 0 .bot) g) [q15] h7
def k_emit_Spares (x0 : AV) (h : Heap) : Option (AV × Heap) :=
  mk Heap.new (bxP x0) h fun t1 h0 =>
  mk Heap.new (some (Blk.cells true [(AV.sl none 0 (.ex 0)), (AV.sl none 0 (.ex 0)), (AV.sl none 0 (.ex 0)), (AV.sl none 0 (.ex 0)), (AV.sl none 0 (.ex 0)), (AV.int .i64 0)], fun i => AV.ptr (some (i, 0)))) h0 fun t2 h1 =>
  (ldA 6 h1 t1).bind fun t9 =>
  mk Heap.new (some (Blk.cells true [(AV.sl none 0 (.ex 0)), (AV.sl none 0 (.ex 0)), (AV.sl none 0 (.ex 0)), (AV.sl none 0 (.ex 0)), (AV.sl none 0 (.ex 0)), (AV.int .i64 0)], fun i => AV.ptr (some (i, 0)))) h1 fun t3 h2 =>
  cl (stP 6 h2 t3 t9) fun u h3 =>
  (ldA 6 h3 t1).bind fun t10 =>
  cl (k_emit_clone t10 h3) fun t11 h4 =>
  cl (stP 6 h4 t1 t11) fun u_5 h6 =>
  (faP 4 t3).bind fun t12 =>
  (ldS h6 t12).bind fun t13 =>
  (lnL t13).bind fun t14 =>
  lp (k_emit_Spares_L1 t1 t3 t13 t14 (AV.int .i64 0) h6) fun e_38 vs_39 h40 =>
  thenK (if e_38 = .exit 0 then .normal else e_38) (
  (ldA 6 h40 t1).bind fun t61 =>
  cl (stP 6 h40 t2 t61) fun u_41 h42 =>
  (ldA 6 h42 t2).bind fun t =>
  some (t, h42)) (fun e_43 => endE e_43 ((ldA 6 h40 t2).bind fun t_44 =>
  some (t_44, h40)))
def T97 : Tab := (12, p1 k_emit_Spares) :: T96
/- 13: gantline/emit.Maps -/
def k_emit_Maps_b0 (t1 : AV) (t3 : AV) (t10 : AV) (t11 : AV) (q12 : AV) (h7 : Heap) : OutV :=
  (binP .lss q12 t11).bind fun t13 =>
  condE t13 (
  (iaS 7 t10 q12).bind fun t15 =>
  (ldA 7 h7 t15).bind fun t16 =>
  mk Heap.new (some (Blk.cells true [(AV.int .i64 0), (AV.int .i64 0), (AV.int .i64 0), (AV.int .i64 0), (AV.sl none 0 (.ex 0)), (AV.sl none 0 (.ex 0)), (AV.sl none 0 (.ex 0))], fun i => AV.ptr (some (i, 0)))) h7 fun t5 h8 =>
  cl (stP 7 h8 t5 t16) fun u_9 h10 =>
  (faP 4 t1).bind fun t17 =>
  clC (rdC (fun g => ldS g t17) h10 0 1 []) fun t18 cs =>
  (ldA 6 h10 t3).bind fun t20 =>
  (ldA 7 h10 t5).bind fun t21 =>
  cl (k_live_Maps t20 t21 h10) fun t22 h11 =>
  (iaS 7 t18 q12).bind fun t23 =>
  (faP 6 t23).bind fun t24 =>
  cl (stP 1 h11 t24 t22) fun u_12 h13 =>
  chk [h10, h11, h13] cs (
  (binP .add q12 (AV.int .i64 1)).bind fun t25 =>
  some (.normal, [t25], h13))) (
  some ((.exit 0), [q12], h7))
def k_emit_Maps_L0 (t1 : AV) (t3 : AV) (t10 : AV) (t11 : AV) (q12 : AV) (h7 : Heap) : OutV := loopN (fun us g => k_emit_Maps_b0 t1 t3 t10 t11 (us.getD 0 .bot) g) [q12] h7
def k_emit_Maps (x0 : AV) (h : Heap) : Option (AV × Heap) :=
  mk Heap.new (bxP x0) h fun t1 h0 =>
  mk Heap.new (some (Blk.cells true [(AV.sl none 0 (.ex 0)), (AV.sl none 0 (.ex 0)), (AV.sl none 0 (.ex 0)), (AV.sl none 0 (.ex 0)), (AV.sl none 0 (.ex 0)), (AV.int .i64 0)], fun i => AV.ptr (some (i, 0)))) h0 fun t2 h1 =>
  (ldA 6 h1 t1).bind fun t6 =>
  mk Heap.new (some (Blk.cells true [(AV.sl none 0 (.ex 0)), (AV.sl none 0 (.ex 0)), (AV.sl none 0 (.ex 0)), (AV.sl none 0 (.ex 0)), (AV.sl none 0 (.ex 0)), (AV.int .i64 0)], fun i => AV.ptr (some (i, 0)))) h1 fun t3 h2 =>
  cl (stP 6 h2 t3 t6) fun u h3 =>
  (ldA 6 h3 t1).bind fun t7 =>
  cl (k_emit_clone t7 h3) fun t8 h4 =>
  cl (stP 6 h4 t1 t8) fun u_5 h6 =>
  (faP 4 t3).bind fun t9 =>
  (ldS h6 t9).bind fun t10 =>
  (lnL t10).bind fun t11 =>
  lp (k_emit_Maps_L0 t1 t3 t10 t11 (AV.int .i64 0) h6) fun e vs h14 =>
  thenK (if e = .exit 0 then .normal else e) (
  (ldA 6 h14 t1).bind fun t26 =>
  cl (stP 6 h14 t2 t26) fun u_15 h16 =>
  (ldA 6 h16 t2).bind fun t =>
  some (t, h16)) (fun e_17 => endE e_17 ((ldA 6 h14 t2).bind fun t_18 =>
  some (t_18, h14)))
def T98 : Tab := (13, p1 k_emit_Maps) :: T97
/- 9: gantline/emit.Emit -/
def k_emit_Emit (x0 : AV) (h : Heap) : Option (AV × Heap) :=
  mk Heap.new (bxP x0) h fun t1 h0 =>
  mk Heap.new (some (Blk.cells true [(AV.sl none 0 (.ex 0)), (AV.sl none 0 (.ex 0)), (AV.sl none 0 (.ex 0)), (AV.sl none 0 (.ex 0)), (AV.sl none 0 (.ex 0)), (AV.int .i64 0)], fun i => AV.ptr (some (i, 0)))) h0 fun t2 h1 =>
  (ldA 6 h1 t1).bind fun t4 =>
  cl (k_lower_Loose t4 h1) fun t5 h2 =>
  (unA .not t5).bind fun t6 =>
  condE t6 (
  (bldS [(0, 1), (1, 1), (2, 1), (3, 1), (4, 1), (5, 1)] [(AV.sl none 0 (.ex 0)), (AV.sl none 0 (.ex 0)), (AV.sl none 0 (.ex 0)), (AV.sl none 0 (.ex 0)), (AV.sl none 0 (.ex 0)), (AV.int .i64 0)] []).bind fun t7 =>
  cl (stP 6 h2 t2 t7) fun u h3 =>
  (ldA 6 h3 t2).bind fun t =>
  some (AV.tup [t, (AV.int .i64 8)], h3)) (
  (ldA 6 h2 t1).bind fun t8 =>
  cl (k_emit_Polls t8 h2) fun t9 h4 =>
  cl (stP 6 h4 t1 t9) fun u_5 h6 =>
  (faP 4 t1).bind fun t10 =>
  (ldS h6 t10).bind fun t11 =>
  cl (k_slices_ContainsFunc_code_Func_code_Func t11 (AV.fn 20 [] []) h6) fun t12 h7 =>
  condE t12 (
  (bldS [(0, 1), (1, 1), (2, 1), (3, 1), (4, 1), (5, 1)] [(AV.sl none 0 (.ex 0)), (AV.sl none 0 (.ex 0)), (AV.sl none 0 (.ex 0)), (AV.sl none 0 (.ex 0)), (AV.sl none 0 (.ex 0)), (AV.int .i64 0)] []).bind fun t13 =>
  cl (stP 6 h7 t2 t13) fun u_8 h9 =>
  (ldA 6 h9 t2).bind fun t_10 =>
  some (AV.tup [t_10, (AV.int .i64 2)], h9)) (
  (ldA 6 h7 t1).bind fun t14 =>
  cl (k_emit_Spares t14 h7) fun t15 h11 =>
  cl (k_emit_Maps t15 h11) fun t16 h12 =>
  cl (stP 6 h12 t2 t16) fun u_13 h14 =>
  (ldA 6 h14 t2).bind fun t_15 =>
  some (AV.tup [t_15, (AV.int .i64 0)], h14)))
def T99 : Tab := (9, p1 k_emit_Emit) :: T98
/- 21: gantline/verify.Check -/
def k_verify_Check (x0 : AV) (h : Heap) : Option (AV × Heap) :=
  mk Heap.new (bxP x0) h fun t1 h0 =>
  mk Heap.new (some (Blk.cells true [(AV.int .i64 0), (AV.int .i64 0), (AV.int .i64 0)], fun i => AV.ptr (some (i, 0)))) h0 fun t2 h1 =>
  (ldA 6 h1 t1).bind fun t4 =>
  cl (k_verify_Without t4 (AV.sl none 0 (.ex 0)) h1) fun t5 h2 =>
  (extractV 0 t5).bind fun t6 =>
  (extractV 1 t5).bind fun t7 =>
  cl (stP 3 h2 t2 t6) fun u h3 =>
  (ldA 3 h3 t2).bind fun t =>
  some (AV.tup [t, t7], h3)
def T100 : Tab := (21, p1 k_verify_Check) :: T99
/- 10: gantline/verify.Module -/
def k_verify_Module (x0 : AV) (h : Heap) : Option (AV × Heap) :=
  mk Heap.new (bxP x0) h fun t1 h0 =>
  (ldA 6 h0 t1).bind fun t6 =>
  cl (k_verify_Check t6 h0) fun t7 h1 =>
  (extractV 0 t7).bind fun t8 =>
  (extractV 1 t7).bind fun t9 =>
  mk Heap.new (some (Blk.cells true [(AV.int .i64 0), (AV.int .i64 0), (AV.int .i64 0)], fun i => AV.ptr (some (i, 0)))) h1 fun t3 h2 =>
  cl (stP 3 h2 t3 t8) fun u h3 =>
  some (t9, h3)
def T101 : Tab := (10, p1 k_verify_Module) :: T100
/- 26: slices.Equal[[]gantline/head.Shape,gantline/head.Shape] -/
def k_slices_Equal_head_Shape_head_Shape_b0 (x0 : AV) (x1 : AV) (t12 : AV) (q4 : AV) (q13 : AV) (h0 : Heap) : OutV :=
  (binP .lss q13 t12).bind fun t14 =>
  condE t14 (
  (iaS 3 x0 q13).bind fun t18 =>
  (ldA 3 h0 t18).bind fun t19 =>
  (iaS 3 x1 q13).bind fun t22 =>
  (ldA 3 h0 t22).bind fun t23 =>
  (eqP (some (.struct #[])) (some [(0, (.int .i64)), (1, (.int .i64)), (2, (.int .u64))]) false .neq t19 t23).bind fun t24 =>
  chk [h0] [] (
  condE t24 (
  some (.ret, [(AV.bool false), q13], h0)) (
  (binP .add q13 (AV.int .i64 1)).bind fun t25 =>
  some (.normal, [q4, t25], h0)))) (
  some ((.exit 0), [q4, q13], h0))
def k_slices_Equal_head_Shape_head_Shape_L0 (x0 : AV) (x1 : AV) (t12 : AV) (q4 : AV) (q13 : AV) (h0 : Heap) : OutV := loopN (fun us g => k_slices_Equal_head_Shape_head_Shape_b0 x0 x1 t12 (us.getD 0 .bot) (us.getD 1 .bot) g) [q4, q13] h0
def k_slices_Equal_head_Shape_head_Shape (x0 : AV) (x1 : AV) (h : Heap) : Option (AV × Heap) :=
  (lnL x0).bind fun t7 =>
  (lnL x1).bind fun t9 =>
  (eqP (some (.int .i64)) none false .neq t7 t9).bind fun t10 =>
  condE t10 (
  some ((AV.bool false), h)) (
  (lnL x0).bind fun t12 =>
  lp (k_slices_Equal_head_Shape_head_Shape_L0 x0 x1 t12 (AV.bool false) (AV.int .i64 0) h) fun e vs h1 =>
  thenK (if e = .exit 0 then .normal else e) (
  some ((AV.bool true), h1)) (fun e_2 => endE e_2 (some ((vs.getD 0 .bot), h1))))
def T102 : Tab := (26, p2 k_slices_Equal_head_Shape_head_Shape) :: T101
/- 27: slices.Equal[[]int64,int64] -/
def k_slices_Equal_int64_int64_b0 (x0 : AV) (x1 : AV) (t12 : AV) (q4 : AV) (q13 : AV) (h0 : Heap) : OutV :=
  (binP .lss q13 t12).bind fun t14 =>
  condE t14 (
  (iaS 1 x0 q13).bind fun t18 =>
  (ldS h0 t18).bind fun t19 =>
  (iaS 1 x1 q13).bind fun t22 =>
  (ldS h0 t22).bind fun t23 =>
  (eqP (some (.int .i64)) none false .neq t19 t23).bind fun t24 =>
  chk [h0] [] (
  condE t24 (
  some (.ret, [(AV.bool false), q13], h0)) (
  (binP .add q13 (AV.int .i64 1)).bind fun t25 =>
  some (.normal, [q4, t25], h0)))) (
  some ((.exit 0), [q4, q13], h0))
def k_slices_Equal_int64_int64_L0 (x0 : AV) (x1 : AV) (t12 : AV) (q4 : AV) (q13 : AV) (h0 : Heap) : OutV := loopN (fun us g => k_slices_Equal_int64_int64_b0 x0 x1 t12 (us.getD 0 .bot) (us.getD 1 .bot) g) [q4, q13] h0
def k_slices_Equal_int64_int64 (x0 : AV) (x1 : AV) (h : Heap) : Option (AV × Heap) :=
  (lnL x0).bind fun t7 =>
  (lnL x1).bind fun t9 =>
  (eqP (some (.int .i64)) none false .neq t7 t9).bind fun t10 =>
  condE t10 (
  some ((AV.bool false), h)) (
  (lnL x0).bind fun t12 =>
  lp (k_slices_Equal_int64_int64_L0 x0 x1 t12 (AV.bool false) (AV.int .i64 0) h) fun e vs h1 =>
  thenK (if e = .exit 0 then .normal else e) (
  some ((AV.bool true), h1)) (fun e_2 => endE e_2 (some ((vs.getD 0 .bot), h1))))
def T103 : Tab := (27, p2 k_slices_Equal_int64_int64) :: T102
/- 28: slices.Equal[[]gantline/code.Case,gantline/code.Case] -/
def k_slices_Equal_code_Case_code_Case_b0 (x0 : AV) (x1 : AV) (t12 : AV) (q4 : AV) (q13 : AV) (h0 : Heap) : OutV :=
  (binP .lss q13 t12).bind fun t14 =>
  condE t14 (
  (iaS 4 x0 q13).bind fun t18 =>
  (ldA 4 h0 t18).bind fun t19 =>
  (iaS 4 x1 q13).bind fun t22 =>
  (ldA 4 h0 t22).bind fun t23 =>
  (eqP (some (.struct #[])) (some [(0, (.int .i64)), (1, (.int .i64)), (2, (.int .i64)), (3, (.int .i64))]) false .neq t19 t23).bind fun t24 =>
  chk [h0] [] (
  condE t24 (
  some (.ret, [(AV.bool false), q13], h0)) (
  (binP .add q13 (AV.int .i64 1)).bind fun t25 =>
  some (.normal, [q4, t25], h0)))) (
  some ((.exit 0), [q4, q13], h0))
def k_slices_Equal_code_Case_code_Case_L0 (x0 : AV) (x1 : AV) (t12 : AV) (q4 : AV) (q13 : AV) (h0 : Heap) : OutV := loopN (fun us g => k_slices_Equal_code_Case_code_Case_b0 x0 x1 t12 (us.getD 0 .bot) (us.getD 1 .bot) g) [q4, q13] h0
def k_slices_Equal_code_Case_code_Case (x0 : AV) (x1 : AV) (h : Heap) : Option (AV × Heap) :=
  (lnL x0).bind fun t7 =>
  (lnL x1).bind fun t9 =>
  (eqP (some (.int .i64)) none false .neq t7 t9).bind fun t10 =>
  condE t10 (
  some ((AV.bool false), h)) (
  (lnL x0).bind fun t12 =>
  lp (k_slices_Equal_code_Case_code_Case_L0 x0 x1 t12 (AV.bool false) (AV.int .i64 0) h) fun e vs h1 =>
  thenK (if e = .exit 0 then .normal else e) (
  some ((AV.bool true), h1)) (fun e_2 => endE e_2 (some ((vs.getD 0 .bot), h1))))
def T104 : Tab := (28, p2 k_slices_Equal_code_Case_code_Case) :: T103
/- 29: slices.EqualFunc[[]gantline/code.Func,[]gantline/code.Func,gantline/code.Func,gantline/code.Func] -/
def k_slices_EqualFunc_code_Func_code_Func_code_Func_code_Func_b0 (x0 : AV) (x1 : AV) (x2 : AV) (t16 : AV) (q6 : AV) (q17 : AV) (h0 : Heap) : OutV :=
  (binP .lss q17 t16).bind fun t18 =>
  condE t18 (
  (iaS 7 x0 q17).bind fun t20 =>
  (ldA 7 h0 t20).bind fun t21 =>
  mk Heap.new (some (Blk.cells true [(AV.int .i64 0), (AV.int .i64 0), (AV.int .i64 0), (AV.int .i64 0), (AV.sl none 0 (.ex 0)), (AV.sl none 0 (.ex 0)), (AV.sl none 0 (.ex 0))], fun i => AV.ptr (some (i, 0)))) h0 fun t8 h1 =>
  cl (stP 7 h1 t8 t21) fun u h2 =>
  (iaS 7 x1 q17).bind fun t24 =>
  (ldA 7 h2 t24).bind fun t25 =>
  mk Heap.new (some (Blk.cells true [(AV.int .i64 0), (AV.int .i64 0), (AV.int .i64 0), (AV.int .i64 0), (AV.sl none 0 (.ex 0)), (AV.sl none 0 (.ex 0)), (AV.sl none 0 (.ex 0))], fun i => AV.ptr (some (i, 0)))) h2 fun t9 h3 =>
  cl (stP 7 h3 t9 t25) fun u_4 h5 =>
  (ldA 7 h5 t8).bind fun t27 =>
  (ldA 7 h5 t9).bind fun t28 =>
  clF (lookT T104) (cvP x2 [t27, t28]) h5 fun t29 h6 =>
  (unA .not t29).bind fun t30 =>
  condE t30 (
  some (.ret, [(AV.bool false), q17], h6)) (
  (binP .add q17 (AV.int .i64 1)).bind fun t31 =>
  some (.normal, [q6, t31], h6))) (
  some ((.exit 0), [q6, q17], h0))
def k_slices_EqualFunc_code_Func_code_Func_code_Func_code_Func_L0 (x0 : AV) (x1 : AV) (x2 : AV) (t16 : AV) (q6 : AV) (q17 : AV) (h0 : Heap) : OutV := loopN (fun us g => k_slices_EqualFunc_code_Func_code_Func_code_Func_code_Func_b0 x0 x1 x2 t16 (us.getD 0 .bot) (us.getD 1 .bot) g) [q6, q17] h0
def k_slices_EqualFunc_code_Func_code_Func_code_Func_code_Func (x0 : AV) (x1 : AV) (x2 : AV) (h : Heap) : Option (AV × Heap) :=
  (lnL x0).bind fun t11 =>
  (lnL x1).bind fun t13 =>
  (eqP (some (.int .i64)) none false .neq t11 t13).bind fun t14 =>
  condE t14 (
  some ((AV.bool false), h)) (
  (lnL x0).bind fun t16 =>
  lp (k_slices_EqualFunc_code_Func_code_Func_code_Func_code_Func_L0 x0 x1 x2 t16 (AV.bool false) (AV.int .i64 0) h) fun e vs h7 =>
  thenK (if e = .exit 0 then .normal else e) (
  some ((AV.bool true), h7)) (fun e_8 => endE e_8 (some ((vs.getD 0 .bot), h7))))
def T105 : Tab := (29, p3 k_slices_EqualFunc_code_Func_code_Func_code_Func_code_Func) :: T104
/- 11: gantline/code.Same -/
def k_code_Same (x0 : AV) (x1 : AV) (h : Heap) : Option (AV × Heap) :=
  mk Heap.new (bxP x0) h fun t2 h0 =>
  mk Heap.new (bxP x1) h0 fun t3 h1 =>
  (faP 0 t2).bind fun t6 =>
  (ldS h1 t6).bind fun t7 =>
  (faP 0 t3).bind fun t8 =>
  (ldS h1 t8).bind fun t9 =>
  cl (k_slices_Equal_head_Shape_head_Shape t7 t9 h1) fun t10 h2 =>
  gQ (gdW t10 true) h2 ((faP 1 t2).bind fun t12 =>
  some (t12, h2)) fun t12_3 h4 =>
  gQ (gdW t10 true) h4 ((ldS h4 t12_3).bind fun t13 =>
  some (t13, h4)) fun t13_5 h6 =>
  gQ (gdW t10 true) h6 ((faP 1 t3).bind fun t14 =>
  some (t14, h6)) fun t14_7 h8 =>
  gQ (gdW t10 true) h8 ((ldS h8 t14_7).bind fun t15 =>
  some (t15, h8)) fun t15_9 h10 =>
  gQ (gdW t10 true) h10 (cl (k_slices_Equal_bool_bool t13_5 t15_9 h10) fun t16 h11 =>
  some (t16, h11)) fun t16_12 h13 =>
  (pickP t10 t16_12 (AV.bool false)).bind fun t17 =>
  gQ (gdW t17 true) h13 ((faP 2 t2).bind fun t19 =>
  some (t19, h13)) fun t19_14 h15 =>
  gQ (gdW t17 true) h15 ((ldS h15 t19_14).bind fun t20 =>
  some (t20, h15)) fun t20_16 h17 =>
  gQ (gdW t17 true) h17 ((faP 2 t3).bind fun t21 =>
  some (t21, h17)) fun t21_18 h19 =>
  gQ (gdW t17 true) h19 ((ldS h19 t21_18).bind fun t22 =>
  some (t22, h19)) fun t22_20 h21 =>
  gQ (gdW t17 true) h21 (cl (k_slices_Equal_int64_int64 t20_16 t22_20 h21) fun t23 h22 =>
  some (t23, h22)) fun t23_23 h24 =>
  (pickP t17 t23_23 (AV.bool false)).bind fun t24 =>
  gQ (gdW t24 true) h24 ((faP 3 t2).bind fun t26 =>
  some (t26, h24)) fun t26_25 h26 =>
  gQ (gdW t24 true) h26 ((ldS h26 t26_25).bind fun t27 =>
  some (t27, h26)) fun t27_27 h28 =>
  gQ (gdW t24 true) h28 ((faP 3 t3).bind fun t28 =>
  some (t28, h28)) fun t28_29 h30 =>
  gQ (gdW t24 true) h30 ((ldS h30 t28_29).bind fun t29 =>
  some (t29, h30)) fun t29_31 h32 =>
  gQ (gdW t24 true) h32 (cl (k_slices_Equal_code_Case_code_Case t27_27 t29_31 h32) fun t30 h33 =>
  some (t30, h33)) fun t30_34 h35 =>
  (pickP t24 t30_34 (AV.bool false)).bind fun t31 =>
  gQ (gdW t31 true) h35 ((faP 4 t2).bind fun t33 =>
  some (t33, h35)) fun t33_36 h37 =>
  gQ (gdW t31 true) h37 ((ldS h37 t33_36).bind fun t34 =>
  some (t34, h37)) fun t34_38 h39 =>
  gQ (gdW t31 true) h39 ((faP 4 t3).bind fun t35 =>
  some (t35, h39)) fun t35_40 h41 =>
  gQ (gdW t31 true) h41 ((ldS h41 t35_40).bind fun t36 =>
  some (t36, h41)) fun t36_42 h43 =>
  gQ (gdW t31 true) h43 (some ((AV.fn 22 [] []), h43)) fun t37 h44 =>
  gQ (gdW t31 true) h44 (cl (k_slices_EqualFunc_code_Func_code_Func_code_Func_code_Func t34_38 t36_42 t37 h44) fun t38 h45 =>
  some (t38, h45)) fun t38_46 h47 =>
  (pickP t31 t38_46 (AV.bool false)).bind fun t39 =>
  gQ (gdW t39 true) h47 ((faP 5 t2).bind fun t41 =>
  some (t41, h47)) fun t41_48 h49 =>
  gQ (gdW t39 true) h49 ((ldS h49 t41_48).bind fun t42 =>
  some (t42, h49)) fun t42_50 h51 =>
  gQ (gdW t39 true) h51 ((faP 5 t3).bind fun t43 =>
  some (t43, h51)) fun t43_52 h53 =>
  gQ (gdW t39 true) h53 ((ldS h53 t43_52).bind fun t44 =>
  some (t44, h53)) fun t44_54 h55 =>
  gQ (gdW t39 true) h55 ((eqP (some (.int .i64)) none false .eql t42_50 t44_54).bind fun t45 =>
  some (t45, h55)) fun t45_56 h57 =>
  (pickP t39 t45_56 (AV.bool false)).bind fun t46 =>
  some (t46, h57)
def T106 : Tab := (11, p2 k_code_Same) :: T105
/- 4: gantline/gantlinelaw24.awake -/
def k_law24_awakeR (h : Heap) : Option (AV × Heap) :=
  cl (k_law24_loop h) fun t7 h0 =>
  cl (k_emit_Polls t7 h0) fun t8 h1 =>
  mk Heap.new (some (Blk.cells true [(AV.sl none 0 (.ex 0)), (AV.sl none 0 (.ex 0)), (AV.sl none 0 (.ex 0)), (AV.sl none 0 (.ex 0)), (AV.sl none 0 (.ex 0)), (AV.int .i64 0)], fun i => AV.ptr (some (i, 0)))) h1 fun t1 h2 =>
  cl (stP 6 h2 t1 t8) fun u h3 =>
  (ldA 6 h3 t1).bind fun t10 =>
  cl (k_emit_Count t10 h3) fun t11 h4 =>
  (extractV 0 t11).bind fun t12 =>
  (extractV 1 t11).bind fun t13 =>
  (extractV 2 t11).bind fun t14 =>
  cl (k_law24_loop h4) fun t16 h5 =>
  cl (k_emit_Emit t16 h5) fun t17 h6 =>
  (extractV 0 t17).bind fun t18 =>
  (extractV 1 t17).bind fun t19 =>
  mk Heap.new (some (Blk.cells true [(AV.sl none 0 (.ex 0)), (AV.sl none 0 (.ex 0)), (AV.sl none 0 (.ex 0)), (AV.sl none 0 (.ex 0)), (AV.sl none 0 (.ex 0)), (AV.int .i64 0)], fun i => AV.ptr (some (i, 0)))) h6 fun t5 h7 =>
  cl (stP 6 h7 t5 t18) fun u_8 h9 =>
  (faP 4 t1).bind fun t20 =>
  (ldS h9 t20).bind fun t21 =>
  (lnL t21).bind fun t22 =>
  (eqP (some (.int .i64)) none false .eql t22 (AV.int .i64 1)).bind fun t23 =>
  gQ (gdW t23 true) h9 ((faP 4 t1).bind fun t25 =>
  some (t25, h9)) fun t25_10 h11 =>
  gQ (gdW t23 true) h11 ((ldS h11 t25_10).bind fun t26 =>
  some (t26, h11)) fun t26_12 h13 =>
  gQ (gdW t23 true) h13 ((iaS 7 t26_12 (AV.int .i64 0)).bind fun t27 =>
  some (t27, h13)) fun t27_14 h15 =>
  gQ (gdW t23 true) h15 ((faP 5 t27_14).bind fun t28 =>
  some (t28, h15)) fun t28_16 h17 =>
  gQ (gdW t23 true) h17 ((ldS h17 t28_16).bind fun t29 =>
  some (t29, h17)) fun t29_18 h19 =>
  gQ (gdW t23 true) h19 ((lnL t29_18).bind fun t30 =>
  some (t30, h19)) fun t30_20 h21 =>
  gQ (gdW t23 true) h21 ((eqP (some (.int .i64)) none false .eql t30_20 (AV.int .i64 2)).bind fun t31 =>
  some (t31, h21)) fun t31_22 h23 =>
  (pickP t23 t31_22 (AV.bool false)).bind fun t32 =>
  gQ (gdW t32 true) h23 ((faP 4 t1).bind fun t34 =>
  some (t34, h23)) fun t34_24 h25 =>
  gQ (gdW t32 true) h25 ((ldS h25 t34_24).bind fun t35 =>
  some (t35, h25)) fun t35_26 h27 =>
  gQ (gdW t32 true) h27 ((iaS 7 t35_26 (AV.int .i64 0)).bind fun t36 =>
  some (t36, h27)) fun t36_28 h29 =>
  gQ (gdW t32 true) h29 ((faP 5 t36_28).bind fun t37 =>
  some (t37, h29)) fun t37_30 h31 =>
  gQ (gdW t32 true) h31 ((ldS h31 t37_30).bind fun t38 =>
  some (t38, h31)) fun t38_32 h33 =>
  gQ (gdW t32 true) h33 ((iaS 5 t38_32 (AV.int .i64 0)).bind fun t39 =>
  some (t39, h33)) fun t39_34 h35 =>
  gQ (gdW t32 true) h35 ((ldA 5 h35 t39_34).bind fun t40 =>
  some (t40, h35)) fun t40_36 h37 =>
  gQ (gdW t32 true) h37 ((bldS [(0, 1), (1, 1), (2, 1), (3, 1), (4, 1)] [(AV.int .i64 0), (AV.int .i64 0), (AV.int .i64 0), (AV.int .i64 0), (AV.int .i64 0)] [(0, (AV.int .i64 43))]).bind fun t41 =>
  some (t41, h37)) fun t41_38 h39 =>
  gQ (gdW t32 true) h39 ((eqP (some (.struct #[])) (some [(0, (.int .i64)), (1, (.int .i64)), (2, (.int .i64)), (3, (.int .i64)), (4, (.int .i64))]) false .eql t40_36 t41_38).bind fun t42 =>
  some (t42, h39)) fun t42_40 h41 =>
  (pickP t32 t42_40 (AV.bool false)).bind fun t43 =>
  gQ (gdW t43 true) h41 ((faP 4 t1).bind fun t45 =>
  some (t45, h41)) fun t45_42 h43 =>
  gQ (gdW t43 true) h43 ((ldS h43 t45_42).bind fun t46 =>
  some (t46, h43)) fun t46_44 h45 =>
  gQ (gdW t43 true) h45 ((iaS 7 t46_44 (AV.int .i64 0)).bind fun t47 =>
  some (t47, h45)) fun t47_46 h47 =>
  gQ (gdW t43 true) h47 ((faP 5 t47_46).bind fun t48 =>
  some (t48, h47)) fun t48_48 h49 =>
  gQ (gdW t43 true) h49 ((ldS h49 t48_48).bind fun t49 =>
  some (t49, h49)) fun t49_50 h51 =>
  gQ (gdW t43 true) h51 ((iaS 5 t49_50 (AV.int .i64 1)).bind fun t50 =>
  some (t50, h51)) fun t50_52 h53 =>
  gQ (gdW t43 true) h53 ((ldA 5 h53 t50_52).bind fun t51 =>
  some (t51, h53)) fun t51_54 h55 =>
  gQ (gdW t43 true) h55 ((bldS [(0, 1), (1, 1), (2, 1), (3, 1), (4, 1)] [(AV.int .i64 0), (AV.int .i64 0), (AV.int .i64 0), (AV.int .i64 0), (AV.int .i64 0)] [(0, (AV.int .i64 18))]).bind fun t52 =>
  some (t52, h55)) fun t52_56 h57 =>
  gQ (gdW t43 true) h57 ((eqP (some (.struct #[])) (some [(0, (.int .i64)), (1, (.int .i64)), (2, (.int .i64)), (3, (.int .i64)), (4, (.int .i64))]) false .eql t51_54 t52_56).bind fun t53 =>
  some (t53, h57)) fun t53_58 h59 =>
  (pickP t43 t53_58 (AV.bool false)).bind fun t54 =>
  gQ (gdW t54 true) h59 (some (t12, h59)) fun t56 h60 =>
  gQ (gdW t54 true) h60 ((eqP (some (.int .i64)) none false .eql t56 (AV.int .i64 1)).bind fun t57 =>
  some (t57, h60)) fun t57_61 h62 =>
  (pickP t54 t57_61 (AV.bool false)).bind fun t58 =>
  gQ (gdW t58 true) h62 (some (t19, h62)) fun t60 h63 =>
  gQ (gdW t58 true) h63 ((eqP (some (.int .i64)) none false .eql t60 (AV.int .i64 0)).bind fun t61 =>
  some (t61, h63)) fun t61_64 h65 =>
  (pickP t58 t61_64 (AV.bool false)).bind fun t62 =>
  gQ (gdW t62 true) h65 ((ldA 6 h65 t5).bind fun t64 =>
  some (t64, h65)) fun t64_66 h67 =>
  gQ (gdW t62 true) h67 (cl (k_verify_Module t64_66 h67) fun t65 h68 =>
  some (t65, h68)) fun t65_69 h70 =>
  (pickP t62 t65_69 (AV.bool false)).bind fun t66 =>
  gQ (gdW t66 true) h70 (cl (k_law24_loop h70) fun t68 h71 =>
  some (t68, h71)) fun t68_72 h73 =>
  gQ (gdW t66 true) h73 (cl (k_emit_Spares t68_72 h73) fun t69 h74 =>
  some (t69, h74)) fun t69_75 h76 =>
  gQ (gdW t66 true) h76 (cl (k_law24_loop h76) fun t70 h77 =>
  some (t70, h77)) fun t70_78 h79 =>
  gQ (gdW t66 true) h79 (cl (k_code_Same t69_75 t70_78 h79) fun t71 h80 =>
  some (t71, h80)) fun t71_81 h82 =>
  (pickP t66 t71_81 (AV.bool false)).bind fun t72 =>
  gQ (gdW t72 true) h82 (cl (k_law24_loop h82) fun t74 h83 =>
  some (t74, h83)) fun t74_84 h85 =>
  gQ (gdW t72 true) h85 (cl (k_emit_Maps t74_84 h85) fun t75 h86 =>
  some (t75, h86)) fun t75_87 h88 =>
  gQ (gdW t72 true) h88 (cl (k_law24_loop h88) fun t76 h89 =>
  some (t76, h89)) fun t76_90 h91 =>
  gQ (gdW t72 true) h91 (cl (k_code_Same t75_87 t76_90 h91) fun t77 h92 =>
  some (t77, h92)) fun t77_93 h94 =>
  (pickP t72 t77_93 (AV.bool false)).bind fun t78 =>
  some (t78, h94)
def k_law24_awake : Heap → Option (AV × Heap) := quiet hQ0
def T107 : Tab := (4, p0 k_law24_awake) :: T106
/- 5: gantline/gantlineref17.Big -/
def k_ref17_Big_b0 (t1 : AV) (q2 : AV) (q3 : AV) (h33 : Heap) : OutV :=
  (faP 4 t1).bind fun t33 =>
  (ldS h33 t33).bind fun t34 =>
  (lnL t34).bind fun t35 =>
  (binP .lss q3 t35).bind fun t36 =>
  condE t36 (
  (faP 4 t1).bind fun t39 =>
  (ldS h33 t39).bind fun t40 =>
  (iaS 7 t40 q3).bind fun t42 =>
  (faP 5 t42).bind fun t43 =>
  (ldS h33 t43).bind fun t44 =>
  (lnL t44).bind fun t45 =>
  (binP .gtr t45 (AV.int .i64 200)).bind fun t46 =>
  gQ (gdW t46 false) h33 ((faP 4 t1).bind fun t48 =>
  some (t48, h33)) fun t48_34 h35 =>
  gQ (gdW t46 false) h35 ((ldS h35 t48_34).bind fun t49 =>
  some (t49, h35)) fun t49_36 h37 =>
  gQ (gdW t46 false) h37 (some (q3, h37)) fun t50 h38 =>
  gQ (gdW t46 false) h38 ((iaS 7 t49_36 t50).bind fun t51 =>
  some (t51, h38)) fun t51_39 h40 =>
  gQ (gdW t46 false) h40 ((faP 6 t51_39).bind fun t52 =>
  some (t52, h40)) fun t52_41 h42 =>
  gQ (gdW t46 false) h42 ((ldS h42 t52_41).bind fun t53 =>
  some (t53, h42)) fun t53_43 h44 =>
  gQ (gdW t46 false) h44 ((lnL t53_43).bind fun t54 =>
  some (t54, h44)) fun t54_45 h46 =>
  gQ (gdW t46 false) h46 ((binP .gtr t54_45 (AV.int .i64 300)).bind fun t55 =>
  some (t55, h46)) fun t55_47 h48 =>
  (pickP t46 (AV.bool true) t55_47).bind fun t56 =>
  gQ (gdW t56 false) h48 ((faP 4 t1).bind fun t58 =>
  some (t58, h48)) fun t58_49 h50 =>
  gQ (gdW t56 false) h50 ((ldS h50 t58_49).bind fun t59 =>
  some (t59, h50)) fun t59_51 h52 =>
  gQ (gdW t56 false) h52 (some (q3, h52)) fun t60 h53 =>
  gQ (gdW t56 false) h53 ((iaS 7 t59_51 t60).bind fun t61 =>
  some (t61, h53)) fun t61_54 h55 =>
  gQ (gdW t56 false) h55 ((faP 4 t61_54).bind fun t62 =>
  some (t62, h55)) fun t62_56 h57 =>
  gQ (gdW t56 false) h57 ((ldS h57 t62_56).bind fun t63 =>
  some (t63, h57)) fun t63_58 h59 =>
  gQ (gdW t56 false) h59 ((lnL t63_58).bind fun t64 =>
  some (t64, h59)) fun t64_60 h61 =>
  gQ (gdW t56 false) h61 ((binP .gtr t64_60 (AV.int .i64 100)).bind fun t65 =>
  some (t65, h61)) fun t65_62 h63 =>
  (pickP t56 (AV.bool true) t65_62).bind fun t66 =>
  condE t66 (
  some (.ret, [(AV.bool true), q3], h63)) (
  (binP .add q3 (AV.int .i64 1)).bind fun t38 =>
  some (.normal, [q2, t38], h63))) (
  some ((.exit 0), [q2, q3], h33))
def k_ref17_Big_L0 (t1 : AV) (q2 : AV) (q3 : AV) (h33 : Heap) : OutV := loopN (fun us g => k_ref17_Big_b0 t1 (us.getD 0 .bot) (us.getD 1 .bot) g) [q2, q3] h33
def k_ref17_Big (x0 : AV) (h : Heap) : Option (AV × Heap) :=
  mk Heap.new (bxP x0) h fun t1 h0 =>
  (faP 0 t1).bind fun t4 =>
  (ldS h0 t4).bind fun t5 =>
  (lnL t5).bind fun t6 =>
  (binP .gtr t6 (AV.int .i64 40)).bind fun t7 =>
  gQ (gdW t7 false) h0 ((faP 1 t1).bind fun t9 =>
  some (t9, h0)) fun t9_1 h2 =>
  gQ (gdW t7 false) h2 ((ldS h2 t9_1).bind fun t10 =>
  some (t10, h2)) fun t10_3 h4 =>
  gQ (gdW t7 false) h4 ((lnL t10_3).bind fun t11 =>
  some (t11, h4)) fun t11_5 h6 =>
  gQ (gdW t7 false) h6 ((binP .gtr t11_5 (AV.int .i64 300)).bind fun t12 =>
  some (t12, h6)) fun t12_7 h8 =>
  (pickP t7 (AV.bool true) t12_7).bind fun t13 =>
  gQ (gdW t13 false) h8 ((faP 2 t1).bind fun t15 =>
  some (t15, h8)) fun t15_9 h10 =>
  gQ (gdW t13 false) h10 ((ldS h10 t15_9).bind fun t16 =>
  some (t16, h10)) fun t16_11 h12 =>
  gQ (gdW t13 false) h12 ((lnL t16_11).bind fun t17 =>
  some (t17, h12)) fun t17_13 h14 =>
  gQ (gdW t13 false) h14 ((binP .gtr t17_13 (AV.int .i64 100)).bind fun t18 =>
  some (t18, h14)) fun t18_15 h16 =>
  (pickP t13 (AV.bool true) t18_15).bind fun t19 =>
  gQ (gdW t19 false) h16 ((faP 3 t1).bind fun t21 =>
  some (t21, h16)) fun t21_17 h18 =>
  gQ (gdW t19 false) h18 ((ldS h18 t21_17).bind fun t22 =>
  some (t22, h18)) fun t22_19 h20 =>
  gQ (gdW t19 false) h20 ((lnL t22_19).bind fun t23 =>
  some (t23, h20)) fun t23_21 h22 =>
  gQ (gdW t19 false) h22 ((binP .gtr t23_21 (AV.int .i64 60)).bind fun t24 =>
  some (t24, h22)) fun t24_23 h24 =>
  (pickP t19 (AV.bool true) t24_23).bind fun t25 =>
  gQ (gdW t25 false) h24 ((faP 4 t1).bind fun t27 =>
  some (t27, h24)) fun t27_25 h26 =>
  gQ (gdW t25 false) h26 ((ldS h26 t27_25).bind fun t28 =>
  some (t28, h26)) fun t28_27 h28 =>
  gQ (gdW t25 false) h28 ((lnL t28_27).bind fun t29 =>
  some (t29, h28)) fun t29_29 h30 =>
  gQ (gdW t25 false) h30 ((binP .gtr t29_29 (AV.int .i64 20)).bind fun t30 =>
  some (t30, h30)) fun t30_31 h32 =>
  (pickP t25 (AV.bool true) t30_31).bind fun t31 =>
  condE t31 (
  some ((AV.bool true), h32)) (
  lp (k_ref17_Big_L0 t1 (AV.bool false) (AV.int .i64 0) h32) fun e vs h64 =>
  thenK (if e = .exit 0 then .normal else e) (
  some ((AV.bool false), h64)) (fun e_65 => endE e_65 (some ((vs.getD 0 .bot), h64))))
def T108 : Tab := (5, p1 k_ref17_Big) :: T107
/- 3: gantline/gantlinelaw24.EmitCounts -/
def k_law24_EmitCounts_j0 (q7 : AV) (q3_8 : AV) (q4_9 : AV) (q5_10 : AV) (h11 : Heap) : OutV :=
  (binP .add q7 (AV.int .i64 1)).bind fun t32 =>
  some (.normal, [q3_8, q4_9, q5_10, t32], h11)
def k_law24_EmitCounts_j1 (q3_4 : AV) (q4_5 : AV) (q5_6 : AV) (q7 : AV) (q52_60 : AV) (h61 : Heap) : OutV :=
  condE q52_60 (
  (binP .add q5_6 (AV.int .i64 1)).bind fun t56 =>
  k_law24_EmitCounts_j0 q7 q3_4 q4_5 t56 h61) (
  k_law24_EmitCounts_j0 q7 q3_4 q4_5 q5_6 h61)
def k_law24_EmitCounts_j2 (q3_4 : AV) (q4_5 : AV) (q5_6 : AV) (q7 : AV) (t42 : AV) (q47_47 : AV) (h48 : Heap) : OutV :=
  condE q47_47 (
  (binP .add q4_5 (AV.int .i64 1)).bind fun t51 =>
  k_law24_EmitCounts_j0 q7 q3_4 t51 q5_6 h48) (
  (eqP (some (.int .i64)) none false .eql t42 (AV.int .i64 28)).bind fun t53 =>
  condE t53 (
  k_law24_EmitCounts_j1 q3_4 q4_5 q5_6 q7 t53 h48) (
  (eqP (some (.int .i64)) none false .eql t42 (AV.int .i64 31)).bind fun t54 =>
  k_law24_EmitCounts_j1 q3_4 q4_5 q5_6 q7 t54 h48))
def k_law24_EmitCounts_b0 (t1 : AV) (q6 : AV) (q3_4 : AV) (q4_5 : AV) (q5_6 : AV) (q7 : AV) (h7 : Heap) : OutV :=
  (faP 4 t1).bind fun t23 =>
  (ldS h7 t23).bind fun t24 =>
  (iaS 7 t24 q6).bind fun t26 =>
  (faP 5 t26).bind fun t27 =>
  (ldS h7 t27).bind fun t28 =>
  (lnL t28).bind fun t29 =>
  (binP .lss q7 t29).bind fun t30 =>
  condE t30 (
  (faP 4 t1).bind fun t33 =>
  (ldS h7 t33).bind fun t34 =>
  (iaS 7 t34 q6).bind fun t36 =>
  (faP 5 t36).bind fun t37 =>
  (ldS h7 t37).bind fun t38 =>
  (iaS 5 t38 q7).bind fun t40 =>
  (faP 0 t40).bind fun t41 =>
  (ldS h7 t41).bind fun t42 =>
  (eqP (some (.int .i64)) none false .eql t42 (AV.int .i64 43)).bind fun t44 =>
  condE t44 (
  (binP .add q3_4 (AV.int .i64 1)).bind fun t46 =>
  k_law24_EmitCounts_j0 q7 t46 q4_5 q5_6 h7) (
  (eqP (some (.int .i64)) none false .eql t42 (AV.int .i64 29)).bind fun t48 =>
  condE t48 (
  k_law24_EmitCounts_j2 q3_4 q4_5 q5_6 q7 t42 t48 h7) (
  (eqP (some (.int .i64)) none false .eql t42 (AV.int .i64 32)).bind fun t49 =>
  k_law24_EmitCounts_j2 q3_4 q4_5 q5_6 q7 t42 t49 h7))) (
  some ((.exit 2), [q3_4, q4_5, q5_6, q7], h7))
def k_law24_EmitCounts_L0 (t1 : AV) (q6 : AV) (q3_4 : AV) (q4_5 : AV) (q5_6 : AV) (q7 : AV) (h7 : Heap) : OutV := loopN (fun us g => k_law24_EmitCounts_b0 t1 q6 (us.getD 0 .bot) (us.getD 1 .bot) (us.getD 2 .bot) (us.getD 3 .bot) g) [q3_4, q4_5, q5_6, q7] h7
def k_law24_EmitCounts_b1 (t1 : AV) (q3 : AV) (q4 : AV) (q5 : AV) (q6 : AV) (h3 : Heap) : OutV :=
  (faP 4 t1).bind fun t16 =>
  (ldS h3 t16).bind fun t17 =>
  (lnL t17).bind fun t18 =>
  (binP .lss q6 t18).bind fun t19 =>
  condE t19 (
  lp (k_law24_EmitCounts_L0 t1 q6 q3 q4 q5 (AV.int .i64 0) h3) fun e vs h66 =>
  thenK (if (if e = .exit 2 then .normal else e) = .exit 1 then .normal else (if e = .exit 2 then .normal else e)) (
  (binP .add q6 (AV.int .i64 1)).bind fun t21 =>
  some (.normal, [(vs.getD 0 .bot), (vs.getD 1 .bot), (vs.getD 2 .bot), t21], h66)) (fun e_67 => some (e_67, [(vs.getD 0 .bot), (vs.getD 1 .bot), (vs.getD 2 .bot), q6], h66))) (
  some ((.exit 0), [q3, q4, q5, q6], h3))
def k_law24_EmitCounts_L1 (t1 : AV) (q3 : AV) (q4 : AV) (q5 : AV) (q6 : AV) (h3 : Heap) : OutV := loopN (fun us g => k_law24_EmitCounts_b1 t1 (us.getD 0 .bot) (us.getD 1 .bot) (us.getD 2 .bot) (us.getD 3 .bot) g) [q3, q4, q5, q6] h3
def k_law24_EmitCounts (x0 : AV) (h : Heap) : Option (AV × Heap) :=
  mk Heap.new (bxP x0) h fun t1 h0 =>
  cl (k_law24_awake h0) fun t11 h1 =>
  (unA .not t11).bind fun t12 =>
  condE t12 (
  some ((AV.bool false), h1)) (
  (ldA 6 h1 t1).bind fun t13 =>
  cl (k_ref17_Big t13 h1) fun t14 h2 =>
  condE t14 (
  some ((AV.bool true), h2)) (
  lp (k_law24_EmitCounts_L1 t1 (AV.int .i64 0) (AV.int .i64 0) (AV.int .i64 0) (AV.int .i64 0) h2) fun e_68 vs_69 h70 =>
  thenK (if e_68 = .exit 0 then .normal else e_68) (
  (ldA 6 h70 t1).bind fun t58 =>
  cl (k_emit_Count t58 h70) fun t59 h71 =>
  (extractV 0 t59).bind fun t60 =>
  (extractV 1 t59).bind fun t61 =>
  (extractV 2 t59).bind fun t62 =>
  (eqP (some (.int .i64)) none false .eql t60 (vs_69.getD 0 .bot)).bind fun t65 =>
  gQ (gdW t65 true) h71 (some (t61, h71)) fun t67 h72 =>
  gQ (gdW t65 true) h72 (some ((vs_69.getD 1 .bot), h72)) fun t68 h73 =>
  gQ (gdW t65 true) h73 ((eqP (some (.int .i64)) none false .eql t67 t68).bind fun t69 =>
  some (t69, h73)) fun t69_74 h75 =>
  (pickP t65 t69_74 (AV.bool false)).bind fun t70 =>
  gQ (gdW t70 true) h75 (some (t62, h75)) fun t72 h76 =>
  gQ (gdW t70 true) h76 (some ((vs_69.getD 2 .bot), h76)) fun t73 h77 =>
  gQ (gdW t70 true) h77 ((eqP (some (.int .i64)) none false .eql t72 t73).bind fun t74 =>
  some (t74, h77)) fun t74_78 h79 =>
  (pickP t70 t74_78 (AV.bool false)).bind fun t75 =>
  some (t75, h79)) (fun e_80 => endE e_80 (some ((AV.bool false), h70)))))
def T109 : Tab := (3, p1 k_law24_EmitCounts) :: T108
end
end Go.Ab.F