/- PRINTED by Gen.lean: the program's functions on the abstract machine's values and heaps. -/
import Derived.Test.YtcnoappnnfnhiaaDoorAbS
import Derived.Test.YtcnoappnnfnhiaaDoorAbQ
namespace Go.Ab.F
open Go Go.Ab
set_option linter.all false
noncomputable section
def T0 : Tab := []
/- 5: gantline/arena.New -/
def k_arena_New_b0 (t18 : AV) (t23 : AV) (q24 : AV) (h6 : Heap) : OutV :=
  (binP .lss q24 t23).bind fun t25 =>
  condE t25 (
  (nilV t18).bind fun t28 =>
  (faP 1 t28).bind fun t29 =>
  (ldS h6 t29).bind fun t30 =>
  (iaS 3 t30 q24).bind fun t32 =>
  (faP 0 t32).bind fun t33 =>
  cl (stP 1 h6 t33 (AV.int .i64 (-1))) fun u h7 =>
  (binP .add q24 (AV.int .i64 1)).bind fun t34 =>
  some (.normal, [t34], h7)) (
  some ((.exit 0), [q24], h6))
def k_arena_New_L0 (t18 : AV) (t23 : AV) (q24 : AV) (h6 : Heap) : OutV := loopN (fun us g => k_arena_New_b0 t18 t23 (us.getD 0 .bot) g) [q24] h6
def k_arena_New (x0 : AV) (h : Heap) : Option (AV × Heap) :=
  (binP .lss x0 (AV.int .i64 8)).bind fun t7 =>
  gQ (gdW t7 false) h (some (x0, h)) fun t9 h0 =>
  gQ (gdW t7 false) h0 ((binP .gtr t9 (AV.int .i64 512)).bind fun t10 =>
  some (t10, h0)) fun t10_1 h2 =>
  (pickP t7 (AV.bool true) t10_1).bind fun t11 =>
  condE t11 (
  some (AV.tup [(AV.ptr none), (AV.int .i64 1)], h2)) (
  (binP .mul x0 (AV.int .i64 64)).bind fun t13 =>
  cl (mkAt Heap.put (msP 1 8 [(AV.int .i64 0)] t13 t13) (h2.next + 0) (hpN h2 3)) fun t14 h3 =>
  cl (mkAt Heap.put (msP 3 24 [(AV.int .i64 0), (AV.int .u64 0), (AV.int .u64 0)] x0 x0) (h2.next + 1) h3) fun t16 h4 =>
  (bldS [(0, 1), (1, 1)] [(AV.sl none 0 (.ex 0)), (AV.sl none 0 (.ex 0))] [(0, t14), (1, t16)]).bind fun t17 =>
  cl (mkAt Heap.put (bxP t17) (h2.next + 2) h4) fun t18 h5 =>
  chk [(hpN h2 3)] [] (
  (nilV t18).bind fun t20 =>
  (faP 1 t20).bind fun t21 =>
  (ldS h5 t21).bind fun t22 =>
  (lnL t22).bind fun t23 =>
  lp (k_arena_New_L0 t18 t23 (AV.int .i64 0) h5) fun e vs h8 =>
  thenK (if e = .exit 0 then .normal else e) (
  some (AV.tup [t18, (AV.int .i64 0)], h8)) (fun e_9 => endE e_9 (some (AV.tup [(AV.ptr none), (AV.int .i64 0)], h8)))))
def T1 : Tab := (5, p1 k_arena_New) :: T0
/- 26: (*gantline/arena.Arena).has -/
def k_arena_Arena_has (x0 : AV) (x1 : AV) (h : Heap) : Option (AV × Heap) :=
  (binP .geq x1 (AV.int .i64 1)).bind fun t6 =>
  gQ (gdW t6 true) h (some (x1, h)) fun t8 h0 =>
  gQ (gdW t6 true) h0 (some (x0, h0)) fun t9 h1 =>
  gQ (gdW t6 true) h1 ((nilV t9).bind fun t10 =>
  some (t10, h1)) fun t10_2 h3 =>
  gQ (gdW t6 true) h3 ((faP 1 t10_2).bind fun t11 =>
  some (t11, h3)) fun t11_4 h5 =>
  gQ (gdW t6 true) h5 ((ldS h5 t11_4).bind fun t12 =>
  some (t12, h5)) fun t12_6 h7 =>
  gQ (gdW t6 true) h7 ((lnL t12_6).bind fun t13 =>
  some (t13, h7)) fun t13_8 h9 =>
  gQ (gdW t6 true) h9 ((binP .lss t8 t13_8).bind fun t14 =>
  some (t14, h9)) fun t14_10 h11 =>
  (pickP t6 t14_10 (AV.bool false)).bind fun t15 =>
  some (t15, h11)
def T2 : Tab := (26, p2 k_arena_Arena_has) :: T1
/- 27: gantline/geom.Words -/
def k_geom_Words (x0 : AV) (h : Heap) : Option (AV × Heap) :=
  (binP .lss x0 (AV.int .i64 0)).bind fun t4 =>
  gQ (gdW t4 false) h (some (x0, h)) fun t6 h0 =>
  gQ (gdW t4 false) h0 ((binP .geq t6 (AV.int .i64 6)).bind fun t7 =>
  some (t7, h0)) fun t7_1 h2 =>
  (pickP t4 (AV.bool true) t7_1).bind fun t8 =>
  condE t8 (
  some ((AV.int .i64 0), h2)) (
  (cvI .u64 x0).bind fun t10 =>
  (binP .shl (AV.int .i64 2) t10).bind fun t11 =>
  some (t11, h2))
def T3 : Tab := (27, p1 k_geom_Words) :: T2
/- 7: (*gantline/arena.Arena).Set -/
def k_arena_Arena_Set (x0 : AV) (x1 : AV) (x2 : AV) (h : Heap) : Option (AV × Heap) :=
  cl (k_arena_Arena_has x0 x1 h) fun t10 h0 =>
  (unA .not t10).bind fun t11 =>
  gQ (gdW t11 false) h0 (some (x2, h0)) fun t13 h1 =>
  gQ (gdW t11 false) h1 (cl (k_geom_Words t13 h1) fun t14 h2 =>
  some (t14, h2)) fun t14_3 h4 =>
  gQ (gdW t11 false) h4 ((eqP (some (.int .i64)) none false .eql t14_3 (AV.int .i64 0)).bind fun t15 =>
  some (t15, h4)) fun t15_5 h6 =>
  (pickP t11 (AV.bool true) t15_5).bind fun t16 =>
  condE t16 (
  some ((AV.int .i64 1), h6)) (
  (nilV x0).bind fun t19 =>
  (faP 1 t19).bind fun t20 =>
  (ldS h6 t20).bind fun t21 =>
  (iaS 3 t21 x1).bind fun t23 =>
  (faP 0 t23).bind fun t24 =>
  (ldS h6 t24).bind fun t25 =>
  (eqP (some (.int .i64)) none false .neq t25 (AV.int .i64 (-1))).bind fun t26 =>
  condE t26 (
  some ((AV.int .i64 5), h6)) (
  (nilV x0).bind fun t28 =>
  (faP 1 t28).bind fun t29 =>
  (ldS h6 t29).bind fun t30 =>
  (bldS [(0, 1), (1, 1), (2, 1)] [(AV.int .i64 0), (AV.int .u64 0), (AV.int .u64 0)] [(0, x2)]).bind fun t33 =>
  (iaS 3 t30 x1).bind fun t34 =>
  cl (stP 3 h6 t34 t33) fun u h7 =>
  some ((AV.int .i64 0), h7)))
def T4 : Tab := (7, p3 k_arena_Arena_Set) :: T3
/- 21: (*gantline/arena.Arena).Class -/
def k_arena_Arena_Class (x0 : AV) (x1 : AV) (h : Heap) : Option (AV × Heap) :=
  cl (k_arena_Arena_has x0 x1 h) fun t7 h0 =>
  (unA .not t7).bind fun t8 =>
  condE t8 (
  some ((AV.int .i64 (-1)), h0)) (
  (nilV x0).bind fun t10 =>
  (faP 1 t10).bind fun t11 =>
  (ldS h0 t11).bind fun t12 =>
  (iaS 3 t12 x1).bind fun t14 =>
  (faP 0 t14).bind fun t15 =>
  (ldS h0 t15).bind fun t16 =>
  some (t16, h0))
def T5 : Tab := (21, p2 k_arena_Arena_Class) :: T4
/- 41: math/bits.TrailingZeros64 -/
def k_mbits_TrailingZeros64 (x0 : AV) (h : Heap) : Option (AV × Heap) :=
  (eqP (some (.int .u64)) none false .eql x0 (AV.int .u64 0)).bind fun t4 =>
  condE t4 (
  some ((AV.int .i64 64), h)) (
  (unA .neg x0).bind fun t7 =>
  (binP .and x0 t7).bind fun t8 =>
  (binP .mul t8 (AV.int .u64 285870213051353865)).bind fun t9 =>
  (binP .shr t9 (AV.int .u64 58)).bind fun t10 =>
  (iaA 64 1 (AV.ptr (some (0, 0))) t10).bind fun t11 =>
  (ldS h t11).bind fun t12 =>
  (cvI .i64 t12).bind fun t13 =>
  some (t13, h))
def T6 : Tab := (41, p1 k_mbits_TrailingZeros64) :: T5
/- 28: gantline/bits.First -/
def k_bits_First (x0 : AV) (h : Heap) : Option (AV × Heap) :=
  (unA .xor x0).bind fun t4 =>
  cl (k_mbits_TrailingZeros64 t4 h) fun t5 h0 =>
  some (t5, h0)
def T7 : Tab := (28, p1 k_bits_First) :: T6
/- 29: gantline/geom.Places -/
def k_geom_Places (x0 : AV) (h : Heap) : Option (AV × Heap) :=
  cl (k_geom_Words x0 h) fun t4 h0 =>
  (eqP (some (.int .i64)) none false .eql t4 (AV.int .i64 0)).bind fun t5 =>
  condE t5 (
  some ((AV.int .i64 0), h0)) (
  cl (k_geom_Words x0 h0) fun t7 h1 =>
  (binP .quo (AV.int .i64 64) t7).bind fun t8 =>
  some (t8, h1))
def T8 : Tab := (29, p1 k_geom_Places) :: T7
/- 30: gantline/geom.Addr -/
def k_geom_Addr (x0 : AV) (x1 : AV) (x2 : AV) (h : Heap) : Option (AV × Heap) :=
  (binP .lss x0 (AV.int .i64 1)).bind fun t8 =>
  gQ (gdW t8 false) h (some (x0, h)) fun t10 h0 =>
  gQ (gdW t8 false) h0 ((binP .geq t10 (AV.int .i64 512)).bind fun t11 =>
  some (t11, h0)) fun t11_1 h2 =>
  (pickP t8 (AV.bool true) t11_1).bind fun t12 =>
  gQ (gdW t12 false) h2 (some (x1, h2)) fun t14 h3 =>
  gQ (gdW t12 false) h3 ((binP .lss t14 (AV.int .i64 0)).bind fun t15 =>
  some (t15, h3)) fun t15_4 h5 =>
  (pickP t12 (AV.bool true) t15_4).bind fun t16 =>
  gQ (gdW t16 false) h5 (some (x1, h5)) fun t18 h6 =>
  gQ (gdW t16 false) h6 (some (x2, h6)) fun t19 h7 =>
  gQ (gdW t16 false) h7 (cl (k_geom_Places t19 h7) fun t20 h8 =>
  some (t20, h8)) fun t20_9 h10 =>
  gQ (gdW t16 false) h10 ((binP .geq t18 t20_9).bind fun t21 =>
  some (t21, h10)) fun t21_11 h12 =>
  (pickP t16 (AV.bool true) t21_11).bind fun t22 =>
  condE t22 (
  some ((AV.int .i64 0), h12)) (
  (binP .mul x0 (AV.int .i64 64)).bind fun t24 =>
  cl (k_geom_Words x2 h12) fun t27 h13 =>
  (binP .mul x1 t27).bind fun t28 =>
  (binP .add t24 t28).bind fun t29 =>
  some (t29, h13))
def T9 : Tab := (30, p3 k_geom_Addr) :: T8
/- 8: (*gantline/arena.Arena).Take -/
def k_arena_Arena_Take (x0 : AV) (x1 : AV) (h : Heap) : Option (AV × Heap) :=
  cl (k_arena_Arena_Class x0 x1 h) fun t12 h0 =>
  (eqP (some (.int .i64)) none false .eql t12 (AV.int .i64 (-1))).bind fun t14 =>
  condE t14 (
  some (AV.tup [(AV.int .i64 0), (AV.int .i64 4)], h0)) (
  (nilV x0).bind fun t16 =>
  (faP 1 t16).bind fun t17 =>
  (ldS h0 t17).bind fun t18 =>
  (iaS 3 t18 x1).bind fun t20 =>
  (nilV t20).bind fun t22 =>
  (faP 1 t22).bind fun t23 =>
  (ldS h0 t23).bind fun t24 =>
  cl (k_bits_First t24 h0) fun t25 h1 =>
  cl (k_geom_Places t12 h1) fun t28 h2 =>
  (binP .geq t25 t28).bind fun t29 =>
  condE t29 (
  some (AV.tup [(AV.int .i64 0), (AV.int .i64 5)], h2)) (
  (nilV t20).bind fun t31 =>
  (faP 1 t31).bind fun t32 =>
  (ldS h2 t32).bind fun t33 =>
  (cvI .u64 t25).bind fun t35 =>
  (binP .shl (AV.int .u64 1) t35).bind fun t36 =>
  (binP .or t33 t36).bind fun t37 =>
  (nilV t20).bind fun t38 =>
  (faP 1 t38).bind fun t39 =>
  cl (stP 1 h2 t39 t37) fun u h3 =>
  (nilV t20).bind fun t41 =>
  (faP 2 t41).bind fun t42 =>
  (ldS h3 t42).bind fun t43 =>
  (cvI .u64 t25).bind fun t45 =>
  (binP .shl (AV.int .u64 1) t45).bind fun t46 =>
  (binP .andNot t43 t46).bind fun t47 =>
  (nilV t20).bind fun t48 =>
  (faP 2 t48).bind fun t49 =>
  cl (stP 1 h3 t49 t47) fun u_4 h5 =>
  cl (k_geom_Addr x1 t25 t12 h5) fun t53 h6 =>
  (nilV x0).bind fun t55 =>
  (faP 0 t55).bind fun t56 =>
  clC (rdC (fun g => ldS g t56) h6 0 1 []) fun t57 cs =>
  cl (k_geom_Words t12 h6) fun t61 h7 =>
  (binP .add t53 t61).bind fun t62 =>
  (slcP 1 t57 (some t53) (some t62) none).bind fun t63 =>
  cl (clL 1 [(AV.int .i64 0)] h7 t63) fun u_8 h9 =>
  chk [h6, h7, h9] cs (
  some (AV.tup [t53, (AV.int .i64 0)], h9))))
def T10 : Tab := (8, p2 k_arena_Arena_Take) :: T9
/- 42: gantline/geom.Span -/
def k_geom_Span (x0 : AV) (h : Heap) : Option (AV × Heap) :=
  (binP .lss x0 (AV.int .i64 0)).bind fun t4 =>
  gQ (gdW t4 false) h (some (x0, h)) fun t6 h0 =>
  gQ (gdW t4 false) h0 ((binP .geq t6 (AV.int .i64 32768)).bind fun t7 =>
  some (t7, h0)) fun t7_1 h2 =>
  (pickP t4 (AV.bool true) t7_1).bind fun t8 =>
  condE t8 (
  some ((AV.int .i64 (-1)), h2)) (
  (binP .quo x0 (AV.int .i64 64)).bind fun t10 =>
  some (t10, h2))
def T11 : Tab := (42, p1 k_geom_Span) :: T10
/- 43: gantline/geom.Place -/
def k_geom_Place (x0 : AV) (x1 : AV) (h : Heap) : Option (AV × Heap) :=
  cl (k_geom_Words x1 h) fun t7 h0 =>
  (eqP (some (.int .i64)) none false .eql t7 (AV.int .i64 0)).bind fun t8 =>
  gQ (gdW t8 false) h0 (some (x0, h0)) fun t10 h1 =>
  gQ (gdW t8 false) h1 (cl (k_geom_Span t10 h1) fun t11 h2 =>
  some (t11, h2)) fun t11_3 h4 =>
  gQ (gdW t8 false) h4 ((eqP (some (.int .i64)) none false .eql t11_3 (AV.int .i64 (-1))).bind fun t12 =>
  some (t12, h4)) fun t12_5 h6 =>
  (pickP t8 (AV.bool true) t12_5).bind fun t13 =>
  condE t13 (
  some ((AV.int .i64 (-1)), h6)) (
  (binP .rem x0 (AV.int .i64 64)).bind fun t15 =>
  cl (k_geom_Words x1 h6) fun t18 h7 =>
  (binP .rem t15 t18).bind fun t19 =>
  (eqP (some (.int .i64)) none false .neq t19 (AV.int .i64 0)).bind fun t20 =>
  condE t20 (
  some ((AV.int .i64 (-1)), h7)) (
  cl (k_geom_Words x1 h7) fun t23 h8 =>
  (binP .quo t15 t23).bind fun t24 =>
  some (t24, h8)))
def T12 : Tab := (43, p2 k_geom_Place) :: T11
/- 34: (*gantline/arena.Arena).find -/
def k_arena_Arena_find (x0 : AV) (x1 : AV) (h : Heap) : Option (AV × Heap) :=
  cl (k_geom_Span x1 h) fun t10 h0 =>
  cl (k_arena_Arena_Class x0 t10 h0) fun t13 h1 =>
  cl (k_geom_Place x1 t13 h1) fun t16 h2 =>
  (binP .lss t16 (AV.int .i64 0)).bind fun t18 =>
  gQ (gdW t18 false) h2 (some (x0, h2)) fun t20 h3 =>
  gQ (gdW t18 false) h3 ((nilV t20).bind fun t21 =>
  some (t21, h3)) fun t21_4 h5 =>
  gQ (gdW t18 false) h5 ((faP 1 t21_4).bind fun t22 =>
  some (t22, h5)) fun t22_6 h7 =>
  gQ (gdW t18 false) h7 ((ldS h7 t22_6).bind fun t23 =>
  some (t23, h7)) fun t23_8 h9 =>
  gQ (gdW t18 false) h9 (some (t10, h9)) fun t24 h10 =>
  gQ (gdW t18 false) h10 ((iaS 3 t23_8 t24).bind fun t25 =>
  some (t25, h10)) fun t25_11 h12 =>
  gQ (gdW t18 false) h12 ((faP 1 t25_11).bind fun t26 =>
  some (t26, h12)) fun t26_13 h14 =>
  gQ (gdW t18 false) h14 ((ldS h14 t26_13).bind fun t27 =>
  some (t27, h14)) fun t27_15 h16 =>
  gQ (gdW t18 false) h16 (some (t16, h16)) fun t28 h17 =>
  gQ (gdW t18 false) h17 ((cvI .u64 t28).bind fun t29 =>
  some (t29, h17)) fun t29_18 h19 =>
  gQ (gdW t18 false) h19 ((binP .shr t27_15 t29_18).bind fun t30 =>
  some (t30, h19)) fun t30_20 h21 =>
  gQ (gdW t18 false) h21 ((binP .and t30_20 (AV.int .u64 1)).bind fun t31 =>
  some (t31, h21)) fun t31_22 h23 =>
  gQ (gdW t18 false) h23 ((eqP (some (.int .u64)) none false .eql t31_22 (AV.int .u64 0)).bind fun t32 =>
  some (t32, h23)) fun t32_24 h25 =>
  (pickP t18 (AV.bool true) t32_24).bind fun t33 =>
  condE t33 (
  some (AV.tup [(AV.ptr none), (AV.int .u64 0)], h25)) (
  (nilV x0).bind fun t35 =>
  (faP 1 t35).bind fun t36 =>
  (ldS h25 t36).bind fun t37 =>
  (iaS 3 t37 t10).bind fun t39 =>
  (cvI .u64 t16).bind fun t41 =>
  (binP .shl (AV.int .u64 1) t41).bind fun t42 =>
  some (AV.tup [t39, t42], h25))
def T13 : Tab := (34, p2 k_arena_Arena_find) :: T12
/- 37: (*gantline/arena.Arena).word -/
def k_arena_Arena_word (x0 : AV) (x1 : AV) (x2 : AV) (h : Heap) : Option (AV × Heap) :=
  cl (k_arena_Arena_find x0 x1 h) fun t12 h0 =>
  (extractV 0 t12).bind fun t13 =>
  (extractV 1 t12).bind fun t14 =>
  (eqP (some (.pointer 0)) none false .eql t13 (AV.ptr none)).bind fun t16 =>
  gQ (gdW t16 false) h0 (some (x2, h0)) fun t18 h1 =>
  gQ (gdW t16 false) h1 ((binP .lss t18 (AV.int .i64 0)).bind fun t19 =>
  some (t19, h1)) fun t19_2 h3 =>
  (pickP t16 (AV.bool true) t19_2).bind fun t20 =>
  gQ (gdW t20 false) h3 (some (x2, h3)) fun t22 h4 =>
  gQ (gdW t20 false) h4 (some (t13, h4)) fun t23 h5 =>
  gQ (gdW t20 false) h5 ((nilV t23).bind fun t24 =>
  some (t24, h5)) fun t24_6 h7 =>
  gQ (gdW t20 false) h7 ((faP 0 t24_6).bind fun t25 =>
  some (t25, h7)) fun t25_8 h9 =>
  gQ (gdW t20 false) h9 ((ldS h9 t25_8).bind fun t26 =>
  some (t26, h9)) fun t26_10 h11 =>
  gQ (gdW t20 false) h11 (cl (k_geom_Words t26_10 h11) fun t27 h12 =>
  some (t27, h12)) fun t27_13 h14 =>
  gQ (gdW t20 false) h14 ((binP .geq t22 t27_13).bind fun t28 =>
  some (t28, h14)) fun t28_15 h16 =>
  (pickP t20 (AV.bool true) t28_15).bind fun t29 =>
  condE t29 (
  some ((AV.ptr none), h16)) (
  (nilV x0).bind fun t31 =>
  (faP 0 t31).bind fun t32 =>
  (ldS h16 t32).bind fun t33 =>
  (binP .add x1 x2).bind fun t36 =>
  (iaS 1 t33 t36).bind fun t37 =>
  some (t37, h16))
def T14 : Tab := (37, p3 k_arena_Arena_word) :: T13
/- 17: (*gantline/arena.Arena).Write -/
def k_arena_Arena_Write (x0 : AV) (x1 : AV) (x2 : AV) (x3 : AV) (h : Heap) : Option (AV × Heap) :=
  cl (k_arena_Arena_word x0 x1 x2 h) fun t13 h0 =>
  (eqP (some (.pointer 0)) none false .eql t13 (AV.ptr none)).bind fun t15 =>
  condE t15 (
  some ((AV.int .i64 1), h0)) (
  (nilV t13).bind fun t18 =>
  cl (stP 1 h0 t18 x3) fun u h1 =>
  some ((AV.int .i64 0), h1))
def T15 : Tab := (17, p4 k_arena_Arena_Write) :: T14
/- 18: (*gantline/arena.Arena).Read -/
def k_arena_Arena_Read (x0 : AV) (x1 : AV) (x2 : AV) (h : Heap) : Option (AV × Heap) :=
  cl (k_arena_Arena_word x0 x1 x2 h) fun t12 h0 =>
  (eqP (some (.pointer 0)) none false .eql t12 (AV.ptr none)).bind fun t14 =>
  condE t14 (
  some (AV.tup [(AV.int .i64 0), (AV.int .i64 1)], h0)) (
  (nilV t12).bind fun t16 =>
  (ldS h0 t16).bind fun t17 =>
  some (AV.tup [t17, (AV.int .i64 0)], h0))
def T16 : Tab := (18, p3 k_arena_Arena_Read) :: T15
/- 10: (*gantline/arena.Arena).Mark -/
def k_arena_Arena_Mark (x0 : AV) (x1 : AV) (h : Heap) : Option (AV × Heap) :=
  cl (k_arena_Arena_find x0 x1 h) fun t10 h0 =>
  (extractV 0 t10).bind fun t11 =>
  (extractV 1 t10).bind fun t12 =>
  (eqP (some (.pointer 0)) none false .eql t11 (AV.ptr none)).bind fun t14 =>
  gQ (gdW t14 false) h0 (some (t11, h0)) fun t16 h1 =>
  gQ (gdW t14 false) h1 ((nilV t16).bind fun t17 =>
  some (t17, h1)) fun t17_2 h3 =>
  gQ (gdW t14 false) h3 ((faP 2 t17_2).bind fun t18 =>
  some (t18, h3)) fun t18_4 h5 =>
  gQ (gdW t14 false) h5 ((ldS h5 t18_4).bind fun t19 =>
  some (t19, h5)) fun t19_6 h7 =>
  gQ (gdW t14 false) h7 (some (t12, h7)) fun t20 h8 =>
  gQ (gdW t14 false) h8 ((binP .and t19_6 t20).bind fun t21 =>
  some (t21, h8)) fun t21_9 h10 =>
  gQ (gdW t14 false) h10 ((eqP (some (.int .u64)) none false .neq t21_9 (AV.int .u64 0)).bind fun t22 =>
  some (t22, h10)) fun t22_11 h12 =>
  (pickP t14 (AV.bool true) t22_11).bind fun t23 =>
  condE t23 (
  some ((AV.bool false), h12)) (
  (nilV t11).bind fun t25 =>
  (faP 2 t25).bind fun t26 =>
  (ldS h12 t26).bind fun t27 =>
  (binP .or t27 t12).bind fun t29 =>
  (nilV t11).bind fun t30 =>
  (faP 2 t30).bind fun t31 =>
  cl (stP 1 h12 t31 t29) fun u h13 =>
  some ((AV.bool true), h13))
def T17 : Tab := (10, p2 k_arena_Arena_Mark) :: T16
/- 39: slices.Clone[[]int64,int64] -/
def k_slices_Clone_int64_int64 (x0 : AV) (h : Heap) : Option (AV × Heap) :=
  (eqP (some (.slice 0)) none false .eql x0 (AV.sl none 0 (.ex 0))).bind fun t4 =>
  condE t4 (
  some ((AV.sl none 0 (.ex 0)), h)) (
  mk Heap.new (bsP 1 [(AV.int .i64 0)] 0 []) h fun t5 h0 =>
  cl (appendA h0 1 8 t5 x0) fun t7 h1 =>
  some (t7, h1))
def T18 : Tab := (39, p1 k_slices_Clone_int64_int64) :: T17
/- 40: slices.Clone[[]gantline/arena.span,gantline/arena.span] -/
def k_slices_Clone_arena_span_arena_span (x0 : AV) (h : Heap) : Option (AV × Heap) :=
  (eqP (some (.slice 0)) none false .eql x0 (AV.sl none 0 (.ex 0))).bind fun t4 =>
  condE t4 (
  some ((AV.sl none 0 (.ex 0)), h)) (
  mk Heap.new (bsP 3 [(AV.int .i64 0), (AV.int .u64 0), (AV.int .u64 0)] 0 []) h fun t5 h0 =>
  cl (appendA h0 3 24 t5 x0) fun t7 h1 =>
  some (t7, h1))
def T19 : Tab := (40, p1 k_slices_Clone_arena_span_arena_span) :: T18
/- 20: (*gantline/arena.Arena).Copy -/
def k_arena_Arena_Copy (x0 : AV) (h : Heap) : Option (AV × Heap) :=
  (nilV x0).bind fun t4 =>
  (faP 0 t4).bind fun t5 =>
  (ldS (hpN h 1) t5).bind fun t6 =>
  cl (k_slices_Clone_int64_int64 t6 (hpN h 1)) fun t7 h0 =>
  (nilV x0).bind fun t9 =>
  (faP 1 t9).bind fun t10 =>
  clC (rdC (fun g => ldS g t10) h0 0 1 []) fun t11 cs =>
  cl (k_slices_Clone_arena_span_arena_span t11 h0) fun t12 h1 =>
  (bldS [(0, 1), (1, 1)] [(AV.sl none 0 (.ex 0)), (AV.sl none 0 (.ex 0))] [(0, t7), (1, t12)]).bind fun t13 =>
  cl (mkAt Heap.put (bxP t13) (h.next + 0) h1) fun t14 h2 =>
  chk [(hpN h 1), h0, h1] cs (
  some (t14, h2))
def T20 : Tab := (20, p1 k_arena_Arena_Copy) :: T19
/- 12: (*gantline/arena.Arena).Clear -/
def k_arena_Arena_Clear_b0 (x0 : AV) (t7 : AV) (q8 : AV) (h0 : Heap) : OutV :=
  (binP .lss q8 t7).bind fun t9 =>
  condE t9 (
  (nilV x0).bind fun t12 =>
  (faP 1 t12).bind fun t13 =>
  (ldS h0 t13).bind fun t14 =>
  (iaS 3 t14 q8).bind fun t16 =>
  (faP 2 t16).bind fun t17 =>
  cl (stP 1 h0 t17 (AV.int .u64 0)) fun u h1 =>
  (binP .add q8 (AV.int .i64 1)).bind fun t18 =>
  some (.normal, [t18], h1)) (
  some ((.exit 0), [q8], h0))
def k_arena_Arena_Clear_L0 (x0 : AV) (t7 : AV) (q8 : AV) (h0 : Heap) : OutV := loopN (fun us g => k_arena_Arena_Clear_b0 x0 t7 (us.getD 0 .bot) g) [q8] h0
def k_arena_Arena_Clear (x0 : AV) (h : Heap) : Option (AV × Heap) :=
  (nilV x0).bind fun t4 =>
  (faP 1 t4).bind fun t5 =>
  (ldS h t5).bind fun t6 =>
  (lnL t6).bind fun t7 =>
  lp (k_arena_Arena_Clear_L0 x0 t7 (AV.int .i64 0) h) fun e vs h2 =>
  endE (if e = .exit 0 then .normal else e) (some (AV.tup [], h2))
def T21 : Tab := (12, p1 k_arena_Arena_Clear) :: T20
/- 44: math/bits.OnesCount64 -/
def k_mbits_OnesCount64 (x0 : AV) (h : Heap) : Option (AV × Heap) :=
  (binP .shr x0 (AV.int .u64 1)).bind fun t4 =>
  (binP .and t4 (AV.int .u64 6148914691236517205)).bind fun t5 =>
  (binP .and x0 (AV.int .u64 6148914691236517205)).bind fun t7 =>
  (binP .add t5 t7).bind fun t8 =>
  (binP .shr t8 (AV.int .u64 2)).bind fun t10 =>
  (binP .and t10 (AV.int .u64 3689348814741910323)).bind fun t11 =>
  (binP .and t8 (AV.int .u64 3689348814741910323)).bind fun t13 =>
  (binP .add t11 t13).bind fun t14 =>
  (binP .shr t14 (AV.int .u64 4)).bind fun t16 =>
  (binP .add t16 t14).bind fun t18 =>
  (binP .and t18 (AV.int .u64 1085102592571150095)).bind fun t19 =>
  (binP .shr t19 (AV.int .u64 8)).bind fun t22 =>
  (binP .add t19 t22).bind fun t23 =>
  (binP .shr t23 (AV.int .u64 16)).bind fun t26 =>
  (binP .add t23 t26).bind fun t27 =>
  (binP .shr t27 (AV.int .u64 32)).bind fun t30 =>
  (binP .add t27 t30).bind fun t31 =>
  (cvI .i64 t31).bind fun t33 =>
  (binP .and t33 (AV.int .i64 127)).bind fun t34 =>
  some (t34, h)
def T22 : Tab := (44, p1 k_mbits_OnesCount64) :: T21
/- 36: gantline/bits.Ones -/
def k_bits_Ones (x0 : AV) (h : Heap) : Option (AV × Heap) :=
  cl (k_mbits_OnesCount64 x0 h) fun t4 h0 =>
  some (t4, h0)
def T23 : Tab := (36, p1 k_bits_Ones) :: T22
/- 15: (*gantline/arena.Arena).Sweep -/
def k_arena_Arena_Sweep (x0 : AV) (x1 : AV) (h : Heap) : Option (AV × Heap) :=
  cl (k_arena_Arena_Class x0 x1 h) fun t9 h0 =>
  (eqP (some (.int .i64)) none false .eql t9 (AV.int .i64 (-1))).bind fun t10 =>
  condE t10 (
  some ((AV.int .i64 0), h0)) (
  (nilV x0).bind fun t12 =>
  (faP 1 t12).bind fun t13 =>
  (ldS h0 t13).bind fun t14 =>
  (iaS 3 t14 x1).bind fun t16 =>
  (nilV t16).bind fun t18 =>
  (faP 1 t18).bind fun t19 =>
  (ldS h0 t19).bind fun t20 =>
  (nilV t16).bind fun t22 =>
  (faP 2 t22).bind fun t23 =>
  (ldS h0 t23).bind fun t24 =>
  (binP .andNot t20 t24).bind fun t25 =>
  cl (k_bits_Ones t25 h0) fun t26 h1 =>
  chk [h0, h1] [] (
  (nilV t16).bind fun t28 =>
  (faP 1 t28).bind fun t29 =>
  (ldS h1 t29).bind fun t30 =>
  (nilV t16).bind fun t32 =>
  (faP 2 t32).bind fun t33 =>
  (ldS h1 t33).bind fun t34 =>
  (binP .and t30 t34).bind fun t35 =>
  (nilV t16).bind fun t36 =>
  (faP 1 t36).bind fun t37 =>
  cl (stP 1 h1 t37 t35) fun u h2 =>
  chk [h1, h2] [] (
  (nilV t16).bind fun t39 =>
  (faP 1 t39).bind fun t40 =>
  (ldS h2 t40).bind fun t41 =>
  (eqP (some (.int .u64)) none false .eql t41 (AV.int .u64 0)).bind fun t42 =>
  condE t42 (
  (bldS [(0, 1), (1, 1), (2, 1)] [(AV.int .i64 0), (AV.int .u64 0), (AV.int .u64 0)] [(0, (AV.int .i64 (-1)))]).bind fun t44 =>
  (nilV t16).bind fun t45 =>
  cl (stP 3 h2 t45 t44) fun u_4 h5 =>
  some (t26, h5)) (
  some (t26, h2)))))
def T24 : Tab := (15, p2 k_arena_Arena_Sweep) :: T23
/- 22: (*gantline/arena.Arena).Spans -/
def k_arena_Arena_Spans (x0 : AV) (h : Heap) : Option (AV × Heap) :=
  (nilV x0).bind fun t4 =>
  (faP 1 t4).bind fun t5 =>
  (ldS h t5).bind fun t6 =>
  (lnL t6).bind fun t7 =>
  some (t7, h)
def T25 : Tab := (22, p1 k_arena_Arena_Spans) :: T24
/- 23: (*gantline/arena.Arena).Is -/
def k_arena_Arena_Is (x0 : AV) (x1 : AV) (h : Heap) : Option (AV × Heap) :=
  cl (k_arena_Arena_find x0 x1 h) fun t10 h0 =>
  (extractV 0 t10).bind fun t11 =>
  (extractV 1 t10).bind fun t12 =>
  (eqP (some (.pointer 0)) none false .neq t11 (AV.ptr none)).bind fun t14 =>
  some (t14, h0)
def T26 : Tab := (23, p2 k_arena_Arena_Is) :: T25
/- 24: (*gantline/arena.Arena).Marked -/
def k_arena_Arena_Marked (x0 : AV) (x1 : AV) (h : Heap) : Option (AV × Heap) :=
  cl (k_arena_Arena_Class x0 x1 h) fun t7 h0 =>
  (eqP (some (.int .i64)) none false .eql t7 (AV.int .i64 (-1))).bind fun t8 =>
  condE t8 (
  some ((AV.int .u64 0), h0)) (
  (nilV x0).bind fun t10 =>
  (faP 1 t10).bind fun t11 =>
  (ldS h0 t11).bind fun t12 =>
  (iaS 3 t12 x1).bind fun t14 =>
  (faP 2 t14).bind fun t15 =>
  (ldS h0 t15).bind fun t16 =>
  some (t16, h0))
def T27 : Tab := (24, p2 k_arena_Arena_Marked) :: T26
/- 25: (*gantline/arena.Arena).Taken -/
def k_arena_Arena_Taken (x0 : AV) (x1 : AV) (h : Heap) : Option (AV × Heap) :=
  cl (k_arena_Arena_Class x0 x1 h) fun t7 h0 =>
  (eqP (some (.int .i64)) none false .eql t7 (AV.int .i64 (-1))).bind fun t8 =>
  condE t8 (
  some ((AV.int .u64 0), h0)) (
  (nilV x0).bind fun t10 =>
  (faP 1 t10).bind fun t11 =>
  (ldS h0 t11).bind fun t12 =>
  (iaS 3 t12 x1).bind fun t14 =>
  (faP 1 t14).bind fun t15 =>
  (ldS h0 t15).bind fun t16 =>
  some (t16, h0))
def T28 : Tab := (25, p2 k_arena_Arena_Taken) :: T27
/- 4: gantline/gantlinelaw4.awake -/
def k_law4_awakeR (h : Heap) : Option (AV × Heap) :=
  cl (k_arena_New (AV.int .i64 8) h) fun t15 h0 =>
  (extractV 0 t15).bind fun t16 =>
  (extractV 1 t15).bind fun t17 =>
  (eqP (some (.int .i64)) none false .neq t17 (AV.int .i64 0)).bind fun t19 =>
  gQ (gdW t19 false) h0 (some (t16, h0)) fun t21 h1 =>
  gQ (gdW t19 false) h1 ((eqP (some (.pointer 0)) none false .eql t21 (AV.ptr none)).bind fun t22 =>
  some (t22, h1)) fun t22_2 h3 =>
  (pickP t19 (AV.bool true) t22_2).bind fun t23 =>
  condE t23 (
  some ((AV.bool false), h3)) (
  cl (k_arena_Arena_Set t16 (AV.int .i64 1) (AV.int .i64 0) h3) fun t25 h4 =>
  cl (k_arena_Arena_Take t16 (AV.int .i64 1) h4) fun t28 h5 =>
  (extractV 0 t28).bind fun t29 =>
  (extractV 1 t28).bind fun t30 =>
  cl (k_arena_Arena_Take t16 (AV.int .i64 1) h5) fun t33 h6 =>
  (extractV 0 t33).bind fun t34 =>
  (extractV 1 t33).bind fun t35 =>
  cl (k_arena_Arena_Write t16 (AV.int .i64 66) (AV.int .i64 1) (AV.int .i64 5) h6) fun t37 h7 =>
  cl (k_arena_Arena_Read t16 (AV.int .i64 66) (AV.int .i64 1) h7) fun t40 h8 =>
  (extractV 0 t40).bind fun t41 =>
  (extractV 1 t40).bind fun t42 =>
  cl (k_arena_Arena_Mark t16 (AV.int .i64 64) h8) fun t44 h9 =>
  cl (k_arena_Arena_Copy t16 h9) fun t46 h10 =>
  cl (k_arena_Arena_Clear t16 h10) fun t48 h11 =>
  cl (k_arena_Arena_Sweep t16 (AV.int .i64 1) h11) fun t50 h12 =>
  (eqP (some (.int .i64)) none false .eql t25 (AV.int .i64 0)).bind fun t52 =>
  gQ (gdW t52 true) h12 (some (t30, h12)) fun t54 h13 =>
  gQ (gdW t52 true) h13 ((eqP (some (.int .i64)) none false .eql t54 (AV.int .i64 0)).bind fun t55 =>
  some (t55, h13)) fun t55_14 h15 =>
  (pickP t52 t55_14 (AV.bool false)).bind fun t56 =>
  gQ (gdW t56 true) h15 (some (t29, h15)) fun t58 h16 =>
  gQ (gdW t56 true) h16 ((eqP (some (.int .i64)) none false .eql t58 (AV.int .i64 64)).bind fun t59 =>
  some (t59, h16)) fun t59_17 h18 =>
  (pickP t56 t59_17 (AV.bool false)).bind fun t60 =>
  gQ (gdW t60 true) h18 (some (t35, h18)) fun t62 h19 =>
  gQ (gdW t60 true) h19 ((eqP (some (.int .i64)) none false .eql t62 (AV.int .i64 0)).bind fun t63 =>
  some (t63, h19)) fun t63_20 h21 =>
  (pickP t60 t63_20 (AV.bool false)).bind fun t64 =>
  gQ (gdW t64 true) h21 (some (t34, h21)) fun t66 h22 =>
  gQ (gdW t64 true) h22 ((eqP (some (.int .i64)) none false .eql t66 (AV.int .i64 66)).bind fun t67 =>
  some (t67, h22)) fun t67_23 h24 =>
  (pickP t64 t67_23 (AV.bool false)).bind fun t68 =>
  gQ (gdW t68 true) h24 (some (t37, h24)) fun t70 h25 =>
  gQ (gdW t68 true) h25 ((eqP (some (.int .i64)) none false .eql t70 (AV.int .i64 0)).bind fun t71 =>
  some (t71, h25)) fun t71_26 h27 =>
  (pickP t68 t71_26 (AV.bool false)).bind fun t72 =>
  gQ (gdW t72 true) h27 (some (t42, h27)) fun t74 h28 =>
  gQ (gdW t72 true) h28 ((eqP (some (.int .i64)) none false .eql t74 (AV.int .i64 0)).bind fun t75 =>
  some (t75, h28)) fun t75_29 h30 =>
  (pickP t72 t75_29 (AV.bool false)).bind fun t76 =>
  gQ (gdW t76 true) h30 (some (t41, h30)) fun t78 h31 =>
  gQ (gdW t76 true) h31 ((eqP (some (.int .i64)) none false .eql t78 (AV.int .i64 5)).bind fun t79 =>
  some (t79, h31)) fun t79_32 h33 =>
  (pickP t76 t79_32 (AV.bool false)).bind fun t80 =>
  gQ (gdW t80 true) h33 (some (t44, h33)) fun t82 h34 =>
  (pickP t80 t82 (AV.bool false)).bind fun t83 =>
  gQ (gdW t83 true) h34 (some (t50, h34)) fun t85 h35 =>
  gQ (gdW t83 true) h35 ((eqP (some (.int .i64)) none false .eql t85 (AV.int .i64 2)).bind fun t86 =>
  some (t86, h35)) fun t86_36 h37 =>
  (pickP t83 t86_36 (AV.bool false)).bind fun t87 =>
  gQ (gdW t87 true) h37 (some (t16, h37)) fun t89 h38 =>
  gQ (gdW t87 true) h38 (cl (k_arena_Arena_Class t89 (AV.int .i64 1) h38) fun t90 h39 =>
  some (t90, h39)) fun t90_40 h41 =>
  gQ (gdW t87 true) h41 ((eqP (some (.int .i64)) none false .eql t90_40 (AV.int .i64 (-1))).bind fun t91 =>
  some (t91, h41)) fun t91_42 h43 =>
  (pickP t87 t91_42 (AV.bool false)).bind fun t92 =>
  gQ (gdW t92 true) h43 (some (t16, h43)) fun t94 h44 =>
  gQ (gdW t92 true) h44 (cl (k_arena_Arena_Spans t94 h44) fun t95 h45 =>
  some (t95, h45)) fun t95_46 h47 =>
  gQ (gdW t92 true) h47 ((eqP (some (.int .i64)) none false .eql t95_46 (AV.int .i64 8)).bind fun t96 =>
  some (t96, h47)) fun t96_48 h49 =>
  (pickP t92 t96_48 (AV.bool false)).bind fun t97 =>
  gQ (gdW t97 true) h49 (some (t46, h49)) fun t99 h50 =>
  gQ (gdW t97 true) h50 (cl (k_arena_Arena_Is t99 (AV.int .i64 64) h50) fun t100 h51 =>
  some (t100, h51)) fun t100_52 h53 =>
  (pickP t97 t100_52 (AV.bool false)).bind fun t101 =>
  gQ (gdW t101 true) h53 (some (t46, h53)) fun t103 h54 =>
  gQ (gdW t101 true) h54 (cl (k_arena_Arena_Marked t103 (AV.int .i64 1) h54) fun t104 h55 =>
  some (t104, h55)) fun t104_56 h57 =>
  gQ (gdW t101 true) h57 ((eqP (some (.int .u64)) none false .eql t104_56 (AV.int .u64 1)).bind fun t105 =>
  some (t105, h57)) fun t105_58 h59 =>
  (pickP t101 t105_58 (AV.bool false)).bind fun t106 =>
  gQ (gdW t106 true) h59 (some (t46, h59)) fun t108 h60 =>
  gQ (gdW t106 true) h60 (cl (k_arena_Arena_Taken t108 (AV.int .i64 1) h60) fun t109 h61 =>
  some (t109, h61)) fun t109_62 h63 =>
  gQ (gdW t106 true) h63 ((eqP (some (.int .u64)) none false .eql t109_62 (AV.int .u64 3)).bind fun t110 =>
  some (t110, h63)) fun t110_64 h65 =>
  (pickP t106 t110_64 (AV.bool false)).bind fun t111 =>
  gQ (gdW t111 true) h65 (some (t16, h65)) fun t113 h66 =>
  gQ (gdW t111 true) h66 (cl (k_arena_Arena_Is t113 (AV.int .i64 64) h66) fun t114 h67 =>
  some (t114, h67)) fun t114_68 h69 =>
  gQ (gdW t111 true) h69 ((unA .not t114_68).bind fun t115 =>
  some (t115, h69)) fun t115_70 h71 =>
  (pickP t111 t115_70 (AV.bool false)).bind fun t116 =>
  some (t116, h71))
def k_law4_awake : Heap → Option (AV × Heap) := quiet hQ1
def T29 : Tab := (4, p0 k_law4_awake) :: T28
/- 6: gantline/gantlineref4.NewArena -/
def k_ref4_NewArena_b0 (x0 : AV) (t6 : AV) (q4 : AV) (h1 : Heap) : OutV :=
  (binP .lss q4 x0).bind fun t9 =>
  condE t9 (
  (nilV t6).bind fun t14 =>
  (faP 0 t14).bind fun t15 =>
  (ldS h1 t15).bind fun t16 =>
  mk Heap.new (bsP 1 [(AV.int .i64 0)] 1 [(0, (AV.int .i64 (-1)))]) h1 fun t17 h2 =>
  cl (appendA h2 1 8 t16 t17) fun t18 h3 =>
  (nilV t6).bind fun t19 =>
  (faP 0 t19).bind fun t20 =>
  cl (stP 1 h3 t20 t18) fun u h4 =>
  (binP .add q4 (AV.int .i64 1)).bind fun t11 =>
  some (.normal, [t11], h4)) (
  some ((.exit 0), [q4], h1))
def k_ref4_NewArena_L0 (x0 : AV) (t6 : AV) (q4 : AV) (h1 : Heap) : OutV := loopN (fun us g => k_ref4_NewArena_b0 x0 t6 (us.getD 0 .bot) g) [q4] h1
def k_ref4_NewArena (x0 : AV) (h : Heap) : Option (AV × Heap) :=
  (bldS [(0, 1), (1, 1)] [(AV.sl none 0 (.ex 0)), (AV.sl none 0 (.ex 0))] []).bind fun t5 =>
  mk Heap.new (bxP t5) h fun t6 h0 =>
  lp (k_ref4_NewArena_L0 x0 t6 (AV.int .i64 0) h0) fun e vs h5 =>
  thenK (if e = .exit 0 then .normal else e) (
  some (t6, h5)) (fun e_6 => endE e_6 (some ((AV.ptr none), h5)))
def T30 : Tab := (6, p1 k_ref4_NewArena) :: T29
/- 33: gantline/gantlineref1.Words -/
def k_ref1_Words (x0 : AV) (h : Heap) : Option (AV × Heap) :=
  (binP .lss x0 (AV.int .i64 0)).bind fun t4 =>
  gQ (gdW t4 false) h (some (x0, h)) fun t6 h0 =>
  gQ (gdW t4 false) h0 ((binP .gtr t6 (AV.int .i64 5)).bind fun t7 =>
  some (t7, h0)) fun t7_1 h2 =>
  (pickP t4 (AV.bool true) t7_1).bind fun t8 =>
  condE t8 (
  some ((AV.int .i64 0), h2)) (
  mk Heap.new (bsP 1 [(AV.int .i64 0)] 6 [(0, (AV.int .i64 2)), (1, (AV.int .i64 4)), (2, (AV.int .i64 8)), (3, (AV.int .i64 16)), (4, (AV.int .i64 32)), (5, (AV.int .i64 64))]) h2 fun t9 h3 =>
  (iaS 1 t9 x0).bind fun t11 =>
  (ldS h3 t11).bind fun t12 =>
  some (t12, h3))
def T31 : Tab := (33, p1 k_ref1_Words) :: T30
/- 31: gantline/gantlineref1.Places -/
def k_ref1_Places (x0 : AV) (h : Heap) : Option (AV × Heap) :=
  (binP .lss x0 (AV.int .i64 0)).bind fun t4 =>
  gQ (gdW t4 false) h (some (x0, h)) fun t6 h0 =>
  gQ (gdW t4 false) h0 ((binP .gtr t6 (AV.int .i64 5)).bind fun t7 =>
  some (t7, h0)) fun t7_1 h2 =>
  (pickP t4 (AV.bool true) t7_1).bind fun t8 =>
  condE t8 (
  some ((AV.int .i64 0), h2)) (
  cl (k_ref1_Words x0 h2) fun t10 h3 =>
  (binP .quo (AV.int .i64 64) t10).bind fun t11 =>
  some (t11, h3))
def T32 : Tab := (31, p1 k_ref1_Places) :: T31
/- 32: gantline/gantlineref1.Addr -/
def k_ref1_Addr (x0 : AV) (x1 : AV) (x2 : AV) (h : Heap) : Option (AV × Heap) :=
  (binP .lss x0 (AV.int .i64 1)).bind fun t8 =>
  gQ (gdW t8 false) h (some (x0, h)) fun t10 h0 =>
  gQ (gdW t8 false) h0 ((binP .gtr t10 (AV.int .i64 511)).bind fun t11 =>
  some (t11, h0)) fun t11_1 h2 =>
  (pickP t8 (AV.bool true) t11_1).bind fun t12 =>
  gQ (gdW t12 false) h2 (some (x1, h2)) fun t14 h3 =>
  gQ (gdW t12 false) h3 ((binP .lss t14 (AV.int .i64 0)).bind fun t15 =>
  some (t15, h3)) fun t15_4 h5 =>
  (pickP t12 (AV.bool true) t15_4).bind fun t16 =>
  gQ (gdW t16 false) h5 (some (x1, h5)) fun t18 h6 =>
  gQ (gdW t16 false) h6 (some (x2, h6)) fun t19 h7 =>
  gQ (gdW t16 false) h7 (cl (k_ref1_Places t19 h7) fun t20 h8 =>
  some (t20, h8)) fun t20_9 h10 =>
  gQ (gdW t16 false) h10 ((binP .geq t18 t20_9).bind fun t21 =>
  some (t21, h10)) fun t21_11 h12 =>
  (pickP t16 (AV.bool true) t21_11).bind fun t22 =>
  condE t22 (
  some ((AV.int .i64 0), h12)) (
  (binP .mul (AV.int .i64 64) x0).bind fun t24 =>
  cl (k_ref1_Words x2 h12) fun t27 h13 =>
  (binP .mul x1 t27).bind fun t28 =>
  (binP .add t24 t28).bind fun t29 =>
  some (t29, h13))
def T33 : Tab := (32, p3 k_ref1_Addr) :: T32
/- 16: (*gantline/gantlineref4.Arena).Find -/
def k_ref4_Arena_Find_b0 (x0 : AV) (x1 : AV) (q4 : AV) (q5 : AV) (h0 : Heap) : OutV :=
  (nilV x0).bind fun t8 =>
  (faP 1 t8).bind fun t9 =>
  (ldS h0 t9).bind fun t10 =>
  (lnL t10).bind fun t11 =>
  (binP .lss q5 t11).bind fun t12 =>
  condE t12 (
  (nilV x0).bind fun t16 =>
  (faP 1 t16).bind fun t17 =>
  (ldS h0 t17).bind fun t18 =>
  (iaS 3 t18 q5).bind fun t20 =>
  (faP 0 t20).bind fun t21 =>
  (ldS h0 t21).bind fun t22 =>
  (eqP (some (.int .i64)) none false .eql t22 x1).bind fun t24 =>
  condE t24 (
  some (.ret, [q5, q5], h0)) (
  (binP .add q5 (AV.int .i64 1)).bind fun t14 =>
  some (.normal, [q4, t14], h0))) (
  some ((.exit 0), [q4, q5], h0))
def k_ref4_Arena_Find_L0 (x0 : AV) (x1 : AV) (q4 : AV) (q5 : AV) (h0 : Heap) : OutV := loopN (fun us g => k_ref4_Arena_Find_b0 x0 x1 (us.getD 0 .bot) (us.getD 1 .bot) g) [q4, q5] h0
def k_ref4_Arena_Find (x0 : AV) (x1 : AV) (h : Heap) : Option (AV × Heap) :=
  lp (k_ref4_Arena_Find_L0 x0 x1 (AV.int .i64 0) (AV.int .i64 0) h) fun e vs h1 =>
  thenK (if e = .exit 0 then .normal else e) (
  some ((AV.int .i64 (-1)), h1)) (fun e_2 => endE e_2 (some ((vs.getD 0 .bot), h1)))
def T34 : Tab := (16, p2 k_ref4_Arena_Find) :: T33
/- 9: (*gantline/gantlineref4.Arena).Take -/
def k_ref4_Arena_Take_b0 (x0 : AV) (t26 : AV) (q8 : AV) (h4 : Heap) : OutV :=
  (nilV x0).bind fun t33 =>
  (faP 1 t33).bind fun t34 =>
  (ldS h4 t34).bind fun t35 =>
  (lnL t35).bind fun t36 =>
  (binP .lss q8 t36).bind fun t37 =>
  gQ (gdW t37 true) h4 (some (x0, h4)) fun t39 h5 =>
  gQ (gdW t37 true) h5 ((nilV t39).bind fun t40 =>
  some (t40, h5)) fun t40_6 h7 =>
  gQ (gdW t37 true) h7 ((faP 1 t40_6).bind fun t41 =>
  some (t41, h7)) fun t41_8 h9 =>
  gQ (gdW t37 true) h9 ((ldS h9 t41_8).bind fun t42 =>
  some (t42, h9)) fun t42_10 h11 =>
  gQ (gdW t37 true) h11 (some (q8, h11)) fun t43 h12 =>
  gQ (gdW t37 true) h12 ((iaS 3 t42_10 t43).bind fun t44 =>
  some (t44, h12)) fun t44_13 h14 =>
  gQ (gdW t37 true) h14 ((faP 0 t44_13).bind fun t45 =>
  some (t45, h14)) fun t45_15 h16 =>
  gQ (gdW t37 true) h16 ((ldS h16 t45_15).bind fun t46 =>
  some (t46, h16)) fun t46_17 h18 =>
  gQ (gdW t37 true) h18 (some (t26, h18)) fun t47 h19 =>
  gQ (gdW t37 true) h19 ((binP .lss t46_17 t47).bind fun t48 =>
  some (t48, h19)) fun t48_20 h21 =>
  (pickP t37 t48_20 (AV.bool false)).bind fun t49 =>
  condE t49 (
  (binP .add q8 (AV.int .i64 1)).bind fun t51 =>
  some (.normal, [t51], h21)) (
  some ((.exit 2), [q8], h21))
def k_ref4_Arena_Take_L0 (x0 : AV) (t26 : AV) (q8 : AV) (h4 : Heap) : OutV := loopN (fun us g => k_ref4_Arena_Take_b0 x0 t26 (us.getD 0 .bot) g) [q8] h4
def k_ref4_Arena_Take_b1 (x0 : AV) (x1 : AV) (t16 : AV) (q4 : AV) (q6 : AV) (h0 : Heap) : OutV :=
  cl (k_ref1_Places t16 h0) fun t19 h1 =>
  (binP .lss q6 t19).bind fun t20 =>
  condE t20 (
  cl (k_ref1_Addr x1 q6 t16 h1) fun t26 h2 =>
  cl (k_ref4_Arena_Find x0 t26 h2) fun t29 h3 =>
  (binP .lss t29 (AV.int .i64 0)).bind fun t30 =>
  condE t30 (
  lp (k_ref4_Arena_Take_L0 x0 t26 (AV.int .i64 0) h3) fun e vs h22 =>
  thenK (if e = .exit 2 then .normal else e) (
  mk Heap.new (bsP 3 [(AV.int .i64 0), (AV.sl none 0 (.ex 0)), (AV.bool false)] 0 []) h22 fun t52 h23 =>
  (nilV x0).bind fun t54 =>
  (faP 1 t54).bind fun t55 =>
  (ldS h23 t55).bind fun t56 =>
  (slcP 3 t56 none (some (vs.getD 0 .bot)) none).bind fun t58 =>
  cl (appendA h23 3 40 t52 t58) fun t59 h24 =>
  cl (k_ref1_Words t16 h24) fun t63 h25 =>
  mk Heap.new (msP 1 8 [(AV.int .i64 0)] t63 t63) h25 fun t64 h26 =>
  (bldS [(0, 1), (1, 1), (2, 1)] [(AV.int .i64 0), (AV.sl none 0 (.ex 0)), (AV.bool false)] [(0, t26), (1, t64)]).bind fun t65 =>
  mk Heap.new (bsP 3 [(AV.int .i64 0), (AV.sl none 0 (.ex 0)), (AV.bool false)] 1 [(0, t65)]) h26 fun t66 h27 =>
  cl (appendA h27 3 40 t59 t66) fun t67 h28 =>
  (nilV x0).bind fun t71 =>
  (faP 1 t71).bind fun t72 =>
  (ldS h28 t72).bind fun t73 =>
  (slcP 3 t73 (some (vs.getD 0 .bot)) none none).bind fun t75 =>
  cl (appendA h28 3 40 t67 t75) fun t76 h29 =>
  (nilV x0).bind fun t77 =>
  (faP 1 t77).bind fun t78 =>
  cl (stP 1 h29 t78 t76) fun u h30 =>
  some (.ret, [t26, q6], h30)) (fun e_31 => thenK (if e_31 = .exit 1 then .normal else e_31) (
  (binP .add q6 (AV.int .i64 1)).bind fun t22 =>
  some (.normal, [q4, t22], h22)) (fun e_32 => some (e_32, [q4, q6], h22)))) (
  (binP .add q6 (AV.int .i64 1)).bind fun t22_33 =>
  some (.normal, [q4, t22_33], h3))) (
  some ((.exit 0), [q4, q6], h1))
def k_ref4_Arena_Take_L1 (x0 : AV) (x1 : AV) (t16 : AV) (q4 : AV) (q6 : AV) (h0 : Heap) : OutV := loopN (fun us g => k_ref4_Arena_Take_b1 x0 x1 t16 (us.getD 0 .bot) (us.getD 1 .bot) g) [q4, q6] h0
def k_ref4_Arena_Take (x0 : AV) (x1 : AV) (h : Heap) : Option (AV × Heap) :=
  (nilV x0).bind fun t11 =>
  (faP 0 t11).bind fun t12 =>
  (ldS h t12).bind fun t13 =>
  (iaS 1 t13 x1).bind fun t15 =>
  (ldS h t15).bind fun t16 =>
  lp (k_ref4_Arena_Take_L1 x0 x1 t16 (AV.int .i64 0) (AV.int .i64 0) h) fun e_34 vs_35 h36 =>
  thenK (if e_34 = .exit 0 then .normal else e_34) (
  some ((AV.int .i64 0), h36)) (fun e_37 => endE e_37 (some ((vs_35.getD 0 .bot), h36)))
def T35 : Tab := (9, p2 k_ref4_Arena_Take) :: T34
/- 11: (*gantline/gantlineref4.Arena).Mark -/
def k_ref4_Arena_Mark (x0 : AV) (x1 : AV) (h : Heap) : Option (AV × Heap) :=
  cl (k_ref4_Arena_Find x0 x1 h) fun t8 h0 =>
  (binP .lss t8 (AV.int .i64 0)).bind fun t10 =>
  gQ (gdW t10 false) h0 (some (x0, h0)) fun t12 h1 =>
  gQ (gdW t10 false) h1 ((nilV t12).bind fun t13 =>
  some (t13, h1)) fun t13_2 h3 =>
  gQ (gdW t10 false) h3 ((faP 1 t13_2).bind fun t14 =>
  some (t14, h3)) fun t14_4 h5 =>
  gQ (gdW t10 false) h5 ((ldS h5 t14_4).bind fun t15 =>
  some (t15, h5)) fun t15_6 h7 =>
  gQ (gdW t10 false) h7 (some (t8, h7)) fun t16 h8 =>
  gQ (gdW t10 false) h8 ((iaS 3 t15_6 t16).bind fun t17 =>
  some (t17, h8)) fun t17_9 h10 =>
  gQ (gdW t10 false) h10 ((faP 2 t17_9).bind fun t18 =>
  some (t18, h10)) fun t18_11 h12 =>
  gQ (gdW t10 false) h12 ((ldS h12 t18_11).bind fun t19 =>
  some (t19, h12)) fun t19_13 h14 =>
  (pickP t10 (AV.bool true) t19_13).bind fun t20 =>
  condE t20 (
  some ((AV.bool false), h14)) (
  (nilV x0).bind fun t22 =>
  (faP 1 t22).bind fun t23 =>
  (ldS h14 t23).bind fun t24 =>
  (iaS 3 t24 t8).bind fun t26 =>
  (faP 2 t26).bind fun t27 =>
  cl (stP 1 h14 t27 (AV.bool true)) fun u h15 =>
  some ((AV.bool true), h15))
def T36 : Tab := (11, p2 k_ref4_Arena_Mark) :: T35
/- 13: (*gantline/gantlineref4.Arena).Clear -/
def k_ref4_Arena_Clear_b0 (x0 : AV) (q2 : AV) (h0 : Heap) : OutV :=
  (nilV x0).bind fun t5 =>
  (faP 1 t5).bind fun t6 =>
  (ldS h0 t6).bind fun t7 =>
  (lnL t7).bind fun t8 =>
  (binP .lss q2 t8).bind fun t9 =>
  condE t9 (
  (nilV x0).bind fun t13 =>
  (faP 1 t13).bind fun t14 =>
  (ldS h0 t14).bind fun t15 =>
  (iaS 3 t15 q2).bind fun t17 =>
  (faP 2 t17).bind fun t18 =>
  cl (stP 1 h0 t18 (AV.bool false)) fun u h1 =>
  (binP .add q2 (AV.int .i64 1)).bind fun t11 =>
  some (.normal, [t11], h1)) (
  some ((.exit 0), [q2], h0))
def k_ref4_Arena_Clear_L0 (x0 : AV) (q2 : AV) (h0 : Heap) : OutV := loopN (fun us g => k_ref4_Arena_Clear_b0 x0 (us.getD 0 .bot) g) [q2] h0
def k_ref4_Arena_Clear (x0 : AV) (h : Heap) : Option (AV × Heap) :=
  lp (k_ref4_Arena_Clear_L0 x0 (AV.int .i64 0) h) fun e vs h2 =>
  endE (if e = .exit 0 then .normal else e) (some (AV.tup [], h2))
def T37 : Tab := (13, p1 k_ref4_Arena_Clear) :: T36
/- 35: gantline/gantlineref1.Span -/
def k_ref1_Span (x0 : AV) (h : Heap) : Option (AV × Heap) :=
  (binP .lss x0 (AV.int .i64 0)).bind fun t4 =>
  gQ (gdW t4 false) h (some (x0, h)) fun t6 h0 =>
  gQ (gdW t4 false) h0 ((binP .geq t6 (AV.int .i64 32768)).bind fun t7 =>
  some (t7, h0)) fun t7_1 h2 =>
  (pickP t4 (AV.bool true) t7_1).bind fun t8 =>
  condE t8 (
  some ((AV.int .i64 (-1)), h2)) (
  (binP .quo x0 (AV.int .i64 64)).bind fun t10 =>
  some (t10, h2))
def T38 : Tab := (35, p1 k_ref1_Span) :: T37
/- 14: (*gantline/gantlineref4.Arena).Sweep -/
def k_ref4_Arena_Sweep_j0 (q8 : AV) (q6_1 : AV) (q7_2 : AV) (q5_3 : AV) (h4 : Heap) : OutV :=
  (binP .add q8 (AV.int .i64 1)).bind fun t26 =>
  some (.normal, [q5_3, q6_1, q7_2, t26], h4)
def k_ref4_Arena_Sweep_j1 (x0 : AV) (q5 : AV) (q6 : AV) (q8 : AV) (q7_24 : AV) (h25 : Heap) : OutV :=
  (nilV x0).bind fun t57 =>
  (faP 1 t57).bind fun t58 =>
  (ldS h25 t58).bind fun t59 =>
  (iaS 3 t59 q8).bind fun t61 =>
  (ldA 3 h25 t61).bind fun t62 =>
  mk Heap.new (bsP 3 [(AV.int .i64 0), (AV.sl none 0 (.ex 0)), (AV.bool false)] 1 [(0, t62)]) h25 fun t63 h26 =>
  cl (appendA h26 3 40 q5 t63) fun t64 h27 =>
  k_ref4_Arena_Sweep_j0 q8 q6 q7_24 t64 h27
def k_ref4_Arena_Sweep_b0 (x0 : AV) (x1 : AV) (q5 : AV) (q6 : AV) (q7 : AV) (q8 : AV) (h0 : Heap) : OutV :=
  (nilV x0).bind fun t20 =>
  (faP 1 t20).bind fun t21 =>
  (ldS h0 t21).bind fun t22 =>
  (lnL t22).bind fun t23 =>
  (binP .lss q8 t23).bind fun t24 =>
  condE t24 (
  (nilV x0).bind fun t28 =>
  (faP 1 t28).bind fun t29 =>
  (ldS h0 t29).bind fun t30 =>
  (iaS 3 t30 q8).bind fun t32 =>
  (faP 0 t32).bind fun t33 =>
  (ldS h0 t33).bind fun t34 =>
  cl (k_ref1_Span t34 h0) fun t35 h5 =>
  (eqP (some (.int .i64)) none false .eql t35 x1).bind fun t37 =>
  gQ (gdW t37 true) h5 (some (x0, h5)) fun t40 h6 =>
  gQ (gdW t37 true) h6 ((nilV t40).bind fun t41 =>
  some (t41, h6)) fun t41_7 h8 =>
  gQ (gdW t37 true) h8 ((faP 1 t41_7).bind fun t42 =>
  some (t42, h8)) fun t42_9 h10 =>
  gQ (gdW t37 true) h10 ((ldS h10 t42_9).bind fun t43 =>
  some (t43, h10)) fun t43_11 h12 =>
  gQ (gdW t37 true) h12 (some (q8, h12)) fun t44 h13 =>
  gQ (gdW t37 true) h13 ((iaS 3 t43_11 t44).bind fun t45 =>
  some (t45, h13)) fun t45_14 h15 =>
  gQ (gdW t37 true) h15 ((faP 2 t45_14).bind fun t46 =>
  some (t46, h15)) fun t46_16 h17 =>
  gQ (gdW t37 true) h17 ((ldS h17 t46_16).bind fun t47 =>
  some (t47, h17)) fun t47_18 h19 =>
  gQ (gdW t37 true) h19 ((unA .not t47_18).bind fun t48 =>
  some (t48, h19)) fun t48_20 h21 =>
  (pickP t37 t48_20 (AV.bool false)).bind fun t49 =>
  condE t49 (
  (binP .add q6 (AV.int .i64 1)).bind fun t51 =>
  k_ref4_Arena_Sweep_j0 q8 t51 q7 q5 h21) (
  condE t37 (
  (binP .add q7 (AV.int .i64 1)).bind fun t54 =>
  k_ref4_Arena_Sweep_j1 x0 q5 q6 q8 t54 h21) (
  k_ref4_Arena_Sweep_j1 x0 q5 q6 q8 q7 h21))) (
  some ((.exit 0), [q5, q6, q7, q8], h0))
def k_ref4_Arena_Sweep_L0 (x0 : AV) (x1 : AV) (q5 : AV) (q6 : AV) (q7 : AV) (q8 : AV) (h0 : Heap) : OutV := loopN (fun us g => k_ref4_Arena_Sweep_b0 x0 x1 (us.getD 0 .bot) (us.getD 1 .bot) (us.getD 2 .bot) (us.getD 3 .bot) g) [q5, q6, q7, q8] h0
def k_ref4_Arena_Sweep (x0 : AV) (x1 : AV) (h : Heap) : Option (AV × Heap) :=
  (nilV x0).bind fun t11 =>
  (faP 0 t11).bind fun t12 =>
  (ldS h t12).bind fun t13 =>
  (iaS 1 t13 x1).bind fun t15 =>
  (ldS h t15).bind fun t16 =>
  (binP .lss t16 (AV.int .i64 0)).bind fun t17 =>
  condE t17 (
  some ((AV.int .i64 0), h)) (
  lp (k_ref4_Arena_Sweep_L0 x0 x1 (AV.sl none 0 (.ex 0)) (AV.int .i64 0) (AV.int .i64 0) (AV.int .i64 0) h) fun e vs h28 =>
  thenK (if e = .exit 0 then .normal else e) (
  (nilV x0).bind fun t67 =>
  (faP 1 t67).bind fun t68 =>
  cl (stP 1 h28 t68 (vs.getD 0 .bot)) fun u h29 =>
  (eqP (some (.int .i64)) none false .eql (vs.getD 2 .bot) (AV.int .i64 0)).bind fun t70 =>
  condE t70 (
  (nilV x0).bind fun t72 =>
  (faP 0 t72).bind fun t73 =>
  (ldS h29 t73).bind fun t74 =>
  (iaS 1 t74 x1).bind fun t76 =>
  cl (stP 1 h29 t76 (AV.int .i64 (-1))) fun u_31 h32 =>
  some ((vs.getD 1 .bot), h32)) (
  some ((vs.getD 1 .bot), h29))) (fun e_33 => endE e_33 (some ((AV.int .i64 0), h28))))
def T39 : Tab := (14, p2 k_ref4_Arena_Sweep) :: T38
/- 45: gantline/gantlineref1.Place -/
def k_ref1_Place (x0 : AV) (x1 : AV) (h : Heap) : Option (AV × Heap) :=
  cl (k_ref1_Words x1 h) fun t6 h0 =>
  (eqP (some (.int .i64)) none false .eql t6 (AV.int .i64 0)).bind fun t7 =>
  gQ (gdW t7 false) h0 (some (x0, h0)) fun t9 h1 =>
  gQ (gdW t7 false) h1 (cl (k_ref1_Span t9 h1) fun t10 h2 =>
  some (t10, h2)) fun t10_3 h4 =>
  gQ (gdW t7 false) h4 ((binP .lss t10_3 (AV.int .i64 0)).bind fun t11 =>
  some (t11, h4)) fun t11_5 h6 =>
  (pickP t7 (AV.bool true) t11_5).bind fun t12 =>
  gQ (gdW t12 false) h6 (some (x0, h6)) fun t14 h7 =>
  gQ (gdW t12 false) h7 ((binP .rem t14 (AV.int .i64 64)).bind fun t15 =>
  some (t15, h7)) fun t15_8 h9 =>
  gQ (gdW t12 false) h9 (some (x1, h9)) fun t16 h10 =>
  gQ (gdW t12 false) h10 (cl (k_ref1_Words t16 h10) fun t17 h11 =>
  some (t17, h11)) fun t17_12 h13 =>
  gQ (gdW t12 false) h13 ((binP .rem t15_8 t17_12).bind fun t18 =>
  some (t18, h13)) fun t18_14 h15 =>
  gQ (gdW t12 false) h15 ((eqP (some (.int .i64)) none false .neq t18_14 (AV.int .i64 0)).bind fun t19 =>
  some (t19, h15)) fun t19_16 h17 =>
  (pickP t12 (AV.bool true) t19_16).bind fun t20 =>
  condE t20 (
  some ((AV.int .i64 (-1)), h17)) (
  (binP .rem x0 (AV.int .i64 64)).bind fun t22 =>
  cl (k_ref1_Words x1 h17) fun t24 h18 =>
  (binP .quo t22 t24).bind fun t25 =>
  some (t25, h18))
def T40 : Tab := (45, p2 k_ref1_Place) :: T39
/- 38: (*gantline/gantlineref4.Arena).Maps -/
def k_ref4_Arena_Maps_j0 (q8 : AV) (q6_27 : AV) (q7_39 : AV) (h40 : Heap) : OutV :=
  (binP .add q8 (AV.int .i64 1)).bind fun t18_41 =>
  some (.normal, [q6_27, q7_39, t18_41], h40)
def k_ref4_Arena_Maps_b0 (x0 : AV) (x1 : AV) (q6 : AV) (q7 : AV) (q8 : AV) (h0 : Heap) : OutV :=
  (nilV x0).bind fun t12 =>
  (faP 1 t12).bind fun t13 =>
  (ldS h0 t13).bind fun t14 =>
  (lnL t14).bind fun t15 =>
  (binP .lss q8 t15).bind fun t16 =>
  condE t16 (
  (nilV x0).bind fun t20 =>
  (faP 1 t20).bind fun t21 =>
  (ldS h0 t21).bind fun t22 =>
  (iaS 3 t22 q8).bind fun t24 =>
  (faP 0 t24).bind fun t25 =>
  (ldS h0 t25).bind fun t26 =>
  cl (k_ref1_Span t26 h0) fun t27 h4 =>
  (eqP (some (.int .i64)) none false .eql t27 x1).bind fun t29 =>
  condE t29 (
  (nilV x0).bind fun t31 =>
  (faP 1 t31).bind fun t32 =>
  (ldS h4 t32).bind fun t33 =>
  (iaS 3 t33 q8).bind fun t35 =>
  (faP 0 t35).bind fun t36 =>
  (ldS h4 t36).bind fun t37 =>
  (nilV x0).bind fun t39 =>
  (faP 0 t39).bind fun t40 =>
  (ldS h4 t40).bind fun t41 =>
  (iaS 1 t41 x1).bind fun t43 =>
  (ldS h4 t43).bind fun t44 =>
  cl (k_ref1_Place t37 t44 h4) fun t45 h42 =>
  (cvI .u64 t45).bind fun t46 =>
  (binP .shl (AV.int .u64 1) t46).bind fun t47 =>
  chk [h4, h42] [] (
  (binP .or q6 t47).bind fun t50 =>
  (nilV x0).bind fun t52 =>
  (faP 1 t52).bind fun t53 =>
  (ldS h42 t53).bind fun t54 =>
  (iaS 3 t54 q8).bind fun t56 =>
  (faP 2 t56).bind fun t57 =>
  (ldS h42 t57).bind fun t58 =>
  condE t58 (
  (binP .or q7 t47).bind fun t61 =>
  k_ref4_Arena_Maps_j0 q8 t50 t61 h42) (
  k_ref4_Arena_Maps_j0 q8 t50 q7 h42))) (
  k_ref4_Arena_Maps_j0 q8 q6 q7 h4)) (
  some ((.exit 0), [q6, q7, q8], h0))
def k_ref4_Arena_Maps_L0 (x0 : AV) (x1 : AV) (q6 : AV) (q7 : AV) (q8 : AV) (h0 : Heap) : OutV := loopN (fun us g => k_ref4_Arena_Maps_b0 x0 x1 (us.getD 0 .bot) (us.getD 1 .bot) (us.getD 2 .bot) g) [q6, q7, q8] h0
def k_ref4_Arena_Maps (x0 : AV) (x1 : AV) (h : Heap) : Option (AV × Heap) :=
  lp (k_ref4_Arena_Maps_L0 x0 x1 (AV.int .u64 0) (AV.int .u64 0) (AV.int .i64 0) h) fun e vs h48 =>
  thenK (if e = .exit 0 then .normal else e) (
  some (AV.tup [(vs.getD 0 .bot), (vs.getD 1 .bot)], h48)) (fun e_49 => endE e_49 (some (AV.tup [(AV.int .u64 0), (AV.int .u64 0)], h48)))
def T41 : Tab := (38, p2 k_ref4_Arena_Maps) :: T40
/- 19: gantline/gantlinelaw4.alike -/
def k_law4_alike_b0 (x0 : AV) (x1 : AV) (q4 : AV) (q5 : AV) (h1 : Heap) : OutV :=
  (nilV x1).bind fun t22 =>
  (faP 0 t22).bind fun t23 =>
  (ldS h1 t23).bind fun t24 =>
  (lnL t24).bind fun t25 =>
  (binP .lss q5 t25).bind fun t26 =>
  condE t26 (
  cl (k_ref4_Arena_Maps x1 q5 h1) fun t32 h2 =>
  (extractV 0 t32).bind fun t33 =>
  (extractV 1 t32).bind fun t34 =>
  cl (k_arena_Arena_Class x0 q5 h2) fun t37 h3 =>
  (nilV x1).bind fun t39 =>
  (faP 0 t39).bind fun t40 =>
  clC (rdC (fun g => ldS g t40) h3 0 1 []) fun t41 cs_4 =>
  (iaS 1 t41 q5).bind fun t43 =>
  clC (rdC (fun g => ldS g t43) h3 0 1 cs_4) fun t44 cs_5 =>
  (eqP (some (.int .i64)) none false .neq t37 t44).bind fun t45 =>
  (gV (gdW t45 false) (some x0) (.tup [])).bind fun t47 =>
  (gV (gdW t45 false) (some q5) (.tup [])).bind fun t48 =>
  gQ (gdW t45 false) h3 (cl (k_arena_Arena_Taken t47 t48 h3) fun t49 h6 =>
  some (t49, h6)) fun t49_7 h8 =>
  (gV (gdW t45 false) (some t33) (.tup [])).bind fun t50 =>
  (gV (gdW t45 false) (eqP (some (.int .u64)) none false .neq t49_7 t50) (.tup [])).bind fun t51 =>
  (pickP t45 (AV.bool true) t51).bind fun t52 =>
  (gV (gdW t52 false) (some x0) (.tup [])).bind fun t54 =>
  (gV (gdW t52 false) (some q5) (.tup [])).bind fun t55 =>
  gQ (gdW t52 false) h8 (cl (k_arena_Arena_Marked t54 t55 h8) fun t56 h9 =>
  some (t56, h9)) fun t56_10 h11 =>
  (gV (gdW t52 false) (some t34) (.tup [])).bind fun t57 =>
  (gV (gdW t52 false) (eqP (some (.int .u64)) none false .neq t56_10 t57) (.tup [])).bind fun t58 =>
  (pickP t52 (AV.bool true) t58).bind fun t59 =>
  chk [h2, h3, h8, h11] cs_5 (
  condE t59 (
  some (.ret, [(AV.bool false), q5], h11)) (
  (binP .add q5 (AV.int .i64 1)).bind fun t28 =>
  some (.normal, [q4, t28], h11)))) (
  some ((.exit 0), [q4, q5], h1))
def k_law4_alike_L0 (x0 : AV) (x1 : AV) (q4 : AV) (q5 : AV) (h1 : Heap) : OutV := loopN (fun us g => k_law4_alike_b0 x0 x1 (us.getD 0 .bot) (us.getD 1 .bot) g) [q4, q5] h1
def k_law4_alike_b1 (x0 : AV) (x1 : AV) (q8 : AV) (q4_15 : AV) (q9 : AV) (h16 : Heap) : OutV :=
  (nilV x1).bind fun t71 =>
  (faP 1 t71).bind fun t72 =>
  (ldS h16 t72).bind fun t73 =>
  (iaS 3 t73 q8).bind fun t75 =>
  (faP 1 t75).bind fun t76 =>
  (ldS h16 t76).bind fun t77 =>
  (lnL t77).bind fun t78 =>
  (binP .lss q9 t78).bind fun t79 =>
  condE t79 (
  (nilV x1).bind fun t85 =>
  (faP 1 t85).bind fun t86 =>
  (ldS h16 t86).bind fun t87 =>
  (iaS 3 t87 q8).bind fun t89 =>
  (faP 0 t89).bind fun t90 =>
  (ldS h16 t90).bind fun t91 =>
  cl (k_arena_Arena_Read x0 t91 q9 h16) fun t93 h17 =>
  (extractV 0 t93).bind fun t94 =>
  (extractV 1 t93).bind fun t95 =>
  (eqP (some (.int .i64)) none false .neq t95 (AV.int .i64 0)).bind fun t97 =>
  gQ (gdW t97 false) h17 (some (t94, h17)) fun t99 h18 =>
  gQ (gdW t97 false) h18 (some (x1, h18)) fun t100 h19 =>
  gQ (gdW t97 false) h19 ((nilV t100).bind fun t101 =>
  some (t101, h19)) fun t101_20 h21 =>
  gQ (gdW t97 false) h21 ((faP 1 t101_20).bind fun t102 =>
  some (t102, h21)) fun t102_22 h23 =>
  gQ (gdW t97 false) h23 ((ldS h23 t102_22).bind fun t103 =>
  some (t103, h23)) fun t103_24 h25 =>
  gQ (gdW t97 false) h25 (some (q8, h25)) fun t104 h26 =>
  gQ (gdW t97 false) h26 ((iaS 3 t103_24 t104).bind fun t105 =>
  some (t105, h26)) fun t105_27 h28 =>
  gQ (gdW t97 false) h28 ((faP 1 t105_27).bind fun t106 =>
  some (t106, h28)) fun t106_29 h30 =>
  gQ (gdW t97 false) h30 ((ldS h30 t106_29).bind fun t107 =>
  some (t107, h30)) fun t107_31 h32 =>
  gQ (gdW t97 false) h32 (some (q9, h32)) fun t108 h33 =>
  gQ (gdW t97 false) h33 ((iaS 1 t107_31 t108).bind fun t109 =>
  some (t109, h33)) fun t109_34 h35 =>
  gQ (gdW t97 false) h35 ((ldS h35 t109_34).bind fun t110 =>
  some (t110, h35)) fun t110_36 h37 =>
  gQ (gdW t97 false) h37 ((eqP (some (.int .i64)) none false .neq t99 t110_36).bind fun t111 =>
  some (t111, h37)) fun t111_38 h39 =>
  (pickP t97 (AV.bool true) t111_38).bind fun t112 =>
  gQ (gdW t112 false) h39 (some (x0, h39)) fun t114 h40 =>
  gQ (gdW t112 false) h40 (some (x1, h40)) fun t115 h41 =>
  gQ (gdW t112 false) h41 ((nilV t115).bind fun t116 =>
  some (t116, h41)) fun t116_42 h43 =>
  gQ (gdW t112 false) h43 ((faP 1 t116_42).bind fun t117 =>
  some (t117, h43)) fun t117_44 h45 =>
  gQ (gdW t112 false) h45 ((ldS h45 t117_44).bind fun t118 =>
  some (t118, h45)) fun t118_46 h47 =>
  gQ (gdW t112 false) h47 (some (q8, h47)) fun t119 h48 =>
  gQ (gdW t112 false) h48 ((iaS 3 t118_46 t119).bind fun t120 =>
  some (t120, h48)) fun t120_49 h50 =>
  gQ (gdW t112 false) h50 ((faP 0 t120_49).bind fun t121 =>
  some (t121, h50)) fun t121_51 h52 =>
  gQ (gdW t112 false) h52 ((ldS h52 t121_51).bind fun t122 =>
  some (t122, h52)) fun t122_53 h54 =>
  gQ (gdW t112 false) h54 (cl (k_arena_Arena_Is t114 t122_53 h54) fun t123 h55 =>
  some (t123, h55)) fun t123_56 h57 =>
  gQ (gdW t112 false) h57 ((unA .not t123_56).bind fun t124 =>
  some (t124, h57)) fun t124_58 h59 =>
  (pickP t112 (AV.bool true) t124_58).bind fun t125 =>
  condE t125 (
  some (.ret, [(AV.bool false), q9], h59)) (
  (binP .add q9 (AV.int .i64 1)).bind fun t81 =>
  some (.normal, [q4_15, t81], h59))) (
  some ((.exit 4), [q4_15, q9], h16))
def k_law4_alike_L1 (x0 : AV) (x1 : AV) (q8 : AV) (q4_15 : AV) (q9 : AV) (h16 : Heap) : OutV := loopN (fun us g => k_law4_alike_b1 x0 x1 q8 (us.getD 0 .bot) (us.getD 1 .bot) g) [q4_15, q9] h16
def k_law4_alike_b2 (x0 : AV) (x1 : AV) (q4_13 : AV) (q8 : AV) (h14 : Heap) : OutV :=
  (nilV x1).bind fun t62 =>
  (faP 1 t62).bind fun t63 =>
  (ldS h14 t63).bind fun t64 =>
  (lnL t64).bind fun t65 =>
  (binP .lss q8 t65).bind fun t66 =>
  condE t66 (
  lp (k_law4_alike_L1 x0 x1 q8 q4_13 (AV.int .i64 0) h14) fun e_60 vs_61 h62 =>
  thenK (if (if e_60 = .exit 4 then .normal else e_60) = .exit 3 then .normal else (if e_60 = .exit 4 then .normal else e_60)) (
  (binP .add q8 (AV.int .i64 1)).bind fun t68 =>
  some (.normal, [(vs_61.getD 0 .bot), t68], h62)) (fun e_63 => some (e_63, [(vs_61.getD 0 .bot), q8], h62))) (
  some ((.exit 2), [q4_13, q8], h14))
def k_law4_alike_L2 (x0 : AV) (x1 : AV) (q4_13 : AV) (q8 : AV) (h14 : Heap) : OutV := loopN (fun us g => k_law4_alike_b2 x0 x1 (us.getD 0 .bot) (us.getD 1 .bot) g) [q4_13, q8] h14
def k_law4_alike (x0 : AV) (x1 : AV) (h : Heap) : Option (AV × Heap) :=
  cl (k_arena_Arena_Spans x0 h) fun t13 h0 =>
  (nilV x1).bind fun t15 =>
  (faP 0 t15).bind fun t16 =>
  clC (rdC (fun g => ldS g t16) h0 0 1 []) fun t17 cs =>
  (lnL t17).bind fun t18 =>
  (eqP (some (.int .i64)) none false .neq t13 t18).bind fun t19 =>
  chk [h, h0] cs (
  condE t19 (
  some ((AV.bool false), h0)) (
  lp (k_law4_alike_L0 x0 x1 (AV.bool false) (AV.int .i64 0) h0) fun e vs h12 =>
  thenK (if e = .exit 0 then .normal else e) (
  lp (k_law4_alike_L2 x0 x1 (vs.getD 0 .bot) (AV.int .i64 0) h12) fun e_64 vs_65 h66 =>
  thenK (if e_64 = .exit 2 then .normal else e_64) (
  some ((AV.bool true), h66)) (fun e_67 => endE e_67 (some ((vs_65.getD 0 .bot), h66)))) (fun e_68 => endE e_68 (some ((vs.getD 0 .bot), h12)))))
def T42 : Tab := (19, p2 k_law4_alike) :: T41
/- 3: gantline/gantlinelaw4.ArenaPlays -/
def k_law4_ArenaPlays_j0 (q8 : AV) (q4_78 : AV) (h264 : Heap) : OutV :=
  (binP .add q8 (AV.int .i64 1)).bind fun t68_265 =>
  some (.normal, [q4_78, t68_265], h264)
def k_law4_ArenaPlays_j1 (q4 : AV) (q8 : AV) (t188 : AV) (q12_507 : AV) (h526 : Heap) : OutV :=
  (eqP (some (.int .i64)) none false .neq t188 q12_507).bind fun t221 =>
  condE t221 (
  some (.ret, [(AV.bool false), q8], h526)) (
  k_law4_ArenaPlays_j0 q8 q4 h526)
def k_law4_ArenaPlays_j2 (t26 : AV) (q4 : AV) (q8 : AV) (t9 : AV) (q16_1123 : AV) (h1124 : Heap) : OutV :=
  (faP 1 t9).bind fun t297 =>
  (ldS h1124 t297).bind fun t298 =>
  cl (k_arena_Arena_Sweep t26 t298 h1124) fun t299 h1125 =>
  (eqP (some (.int .i64)) none false .neq t299 q16_1123).bind fun t301 =>
  condE t301 (
  some (.ret, [(AV.bool false), q8], h1125)) (
  k_law4_ArenaPlays_j0 q8 q4 h1125)
def k_law4_ArenaPlays_b0 (x0 : AV) (x1 : AV) (t26 : AV) (t62 : AV) (q4 : AV) (q8 : AV) (h23 : Heap) : OutV :=
  (lnL x1).bind fun t65 =>
  (binP .lss q8 t65).bind fun t66 =>
  condE t66 (
  (iaS 6 x1 q8).bind fun t71 =>
  (ldA 6 h23 t71).bind fun t72 =>
  mk Heap.new (some (Blk.cells true [(AV.int .i64 0), (AV.int .i64 0), (AV.int .i64 0), (AV.int .i64 0), (AV.int .i64 0), (AV.int .i64 0)], fun i => AV.ptr (some (i, 0)))) h23 fun t9 h26 =>
  cl (stP 6 h26 t9 t72) fun u h27 =>
  (faP 1 t9).bind fun t73 =>
  (ldS h27 t73).bind fun t74 =>
  (binP .geq t74 (AV.int .i64 1)).bind fun t75 =>
  gQ (gdW t75 true) h27 ((faP 1 t9).bind fun t77 =>
  some (t77, h27)) fun t77_28 h29 =>
  gQ (gdW t75 true) h29 ((ldS h29 t77_28).bind fun t78 =>
  some (t78, h29)) fun t78_30 h31 =>
  gQ (gdW t75 true) h31 (some (x0, h31)) fun t79 h32 =>
  gQ (gdW t75 true) h32 ((binP .lss t78_30 t79).bind fun t80 =>
  some (t80, h32)) fun t80_33 h34 =>
  (pickP t75 t80_33 (AV.bool false)).bind fun t81 =>
  (faP 0 t9).bind fun t82 =>
  (ldS h34 t82).bind fun t83 =>
  (eqP (some (.int .i64)) none false .eql t83 (AV.int .i64 0)).bind fun t182 =>
  condE t182 (
  (faP 1 t9).bind fun t184 =>
  (ldS h34 t184).bind fun t185 =>
  (faP 2 t9).bind fun t186 =>
  (ldS h34 t186).bind fun t187 =>
  cl (k_arena_Arena_Set t26 t185 t187 h34) fun t188 h494 =>
  (unA .not t81).bind fun t190 =>
  gQ (gdW t190 false) h494 ((faP 2 t9).bind fun t192 =>
  some (t192, h494)) fun t192_495 h496 =>
  gQ (gdW t190 false) h496 ((ldS h496 t192_495).bind fun t193 =>
  some (t193, h496)) fun t193_497 h498 =>
  gQ (gdW t190 false) h498 ((binP .lss t193_497 (AV.int .i64 0)).bind fun t194 =>
  some (t194, h498)) fun t194_499 h500 =>
  (pickP t190 (AV.bool true) t194_499).bind fun t195 =>
  gQ (gdW t195 false) h500 ((faP 2 t9).bind fun t197 =>
  some (t197, h500)) fun t197_501 h502 =>
  gQ (gdW t195 false) h502 ((ldS h502 t197_501).bind fun t198 =>
  some (t198, h502)) fun t198_503 h504 =>
  gQ (gdW t195 false) h504 ((binP .gtr t198_503 (AV.int .i64 5)).bind fun t199 =>
  some (t199, h504)) fun t199_505 h506 =>
  (pickP t195 (AV.bool true) t199_505).bind fun t200 =>
  condE t200 (
  k_law4_ArenaPlays_j1 q4 q8 t188 (AV.int .i64 1) h506) (
  (nilV t62).bind fun t202 =>
  (faP 0 t202).bind fun t203 =>
  (ldS h506 t203).bind fun t204 =>
  (faP 1 t9).bind fun t205 =>
  (ldS h506 t205).bind fun t206 =>
  (iaS 1 t204 t206).bind fun t207 =>
  (ldS h506 t207).bind fun t208 =>
  (binP .geq t208 (AV.int .i64 0)).bind fun t209 =>
  chk [h506] [] (
  condE t209 (
  k_law4_ArenaPlays_j1 q4 q8 t188 (AV.int .i64 5) h506) (
  (nilV t62).bind fun t211 =>
  (faP 0 t211).bind fun t212 =>
  (ldS h506 t212).bind fun t213 =>
  (faP 1 t9).bind fun t214 =>
  (ldS h506 t214).bind fun t215 =>
  (faP 2 t9).bind fun t216 =>
  (ldS h506 t216).bind fun t217 =>
  (iaS 1 t213 t215).bind fun t218 =>
  cl (stP 1 h506 t218 t217) fun u_538 h539 =>
  chk [h506, h539] [] (
  k_law4_ArenaPlays_j1 q4 q8 t188 (AV.int .i64 0) h539))))) (
  (eqP (some (.int .i64)) none false .eql t83 (AV.int .i64 1)).bind fun t223 =>
  condE t223 (
  (faP 1 t9).bind fun t226 =>
  (ldS h34 t226).bind fun t227 =>
  cl (k_arena_Arena_Take t26 t227 h34) fun t228 h725 =>
  (extractV 0 t228).bind fun t229 =>
  (extractV 1 t228).bind fun t230 =>
  (unA .not t81).bind fun t232 =>
  (gV (gdW t232 false) (some t62) (.tup [])).bind fun t234 =>
  (gV (gdW t232 false) (nilV t234) (.tup [])).bind fun t235 =>
  (gV (gdW t232 false) (faP 0 t235) (.tup [])).bind fun t236 =>
  (gV (gdW t232 false) (ldS h725 t236) (.tup [])).bind fun t237 =>
  (gV (gdW t232 false) (faP 1 t9) (.tup [])).bind fun t238 =>
  (gV (gdW t232 false) (ldS h725 t238) (.tup [])).bind fun t239 =>
  (gV (gdW t232 false) (iaS 1 t237 t239) (.tup [])).bind fun t240 =>
  (gV (gdW t232 false) (ldS h725 t240) (.tup [])).bind fun t241 =>
  (gV (gdW t232 false) (binP .lss t241 (AV.int .i64 0)) (.tup [])).bind fun t242 =>
  (pickP t232 (AV.bool true) t242).bind fun t243 =>
  chk [h725] [] (
  condE t243 (
  (eqP (some (.int .i64)) none false .neq t230 (AV.int .i64 4)).bind fun t245 =>
  gQ (gdW t245 false) h725 (some (t229, h725)) fun t247 h726 =>
  gQ (gdW t245 false) h726 ((eqP (some (.int .i64)) none false .neq t247 (AV.int .i64 0)).bind fun t248 =>
  some (t248, h726)) fun t248_727 h728 =>
  (pickP t245 (AV.bool true) t248_727).bind fun t249 =>
  condE t249 (
  some (.ret, [(AV.bool false), q8], h728)) (
  k_law4_ArenaPlays_j0 q8 q4 h728)) (
  (faP 1 t9).bind fun t251 =>
  (ldS h725 t251).bind fun t252 =>
  cl (k_ref4_Arena_Take t62 t252 h725) fun t253 h729 =>
  (eqP (some (.int .i64)) none false .neq t229 t253).bind fun t256 =>
  gQ (gdW t256 false) h729 (some (t230, h729)) fun t258 h730 =>
  gQ (gdW t256 false) h730 ((eqP (some (.int .i64)) none false .eql t258 (AV.int .i64 0)).bind fun t259 =>
  some (t259, h730)) fun t259_731 h732 =>
  gQ (gdW t256 false) h732 (some (t253, h732)) fun t260 h733 =>
  gQ (gdW t256 false) h733 ((eqP (some (.int .i64)) none false .neq t260 (AV.int .i64 0)).bind fun t261 =>
  some (t261, h733)) fun t261_734 h735 =>
  gQ (gdW t256 false) h735 ((eqP (some .bool) none false .neq t259_731 t261_734).bind fun t262 =>
  some (t262, h735)) fun t262_736 h737 =>
  (pickP t256 (AV.bool true) t262_736).bind fun t263 =>
  gQ (gdW t263 false) h737 (some (t253, h737)) fun t265 h738 =>
  gQ (gdW t263 false) h738 ((eqP (some (.int .i64)) none false .eql t265 (AV.int .i64 0)).bind fun t266 =>
  some (t266, h738)) fun t266_739 h740 =>
  gQ (gdW t263 false) h740 (some (t266_739, h740)) fun t267 h741 =>
  gQ (gdW t267 true) h741 (some (t230, h741)) fun t268 h742 =>
  gQ (gdW t267 true) h742 ((eqP (some (.int .i64)) none false .neq t268 (AV.int .i64 5)).bind fun t269 =>
  some (t269, h742)) fun t269_743 h744 =>
  gQ (gdW t263 false) h744 ((pickP t267 t269_743 (AV.bool false)).bind fun t270 =>
  some (t270, h744)) fun t270_745 h746 =>
  (pickP t263 (AV.bool true) t270_745).bind fun t271 =>
  condE t271 (
  some (.ret, [(AV.bool false), q8], h746)) (
  k_law4_ArenaPlays_j0 q8 q4 h746)))) (
  (eqP (some (.int .i64)) none false .eql t83 (AV.int .i64 2)).bind fun t273 =>
  condE t273 (
  (faP 4 t9).bind fun t275 =>
  (ldS h34 t275).bind fun t276 =>
  cl (k_arena_Arena_Mark t26 t276 h34) fun t277 h879 =>
  (faP 4 t9).bind fun t279 =>
  clC (rdC (fun g => ldS g t279) h879 0 1 []) fun t280 cs =>
  cl (k_ref4_Arena_Mark t62 t280 h879) fun t281 h880 =>
  (eqP (some .bool) none false .neq t277 t281).bind fun t282 =>
  chk [h34, h879, h880] cs (
  condE t282 (
  some (.ret, [(AV.bool false), q8], h880)) (
  k_law4_ArenaPlays_j0 q8 q4 h880))) (
  (eqP (some (.int .i64)) none false .eql t83 (AV.int .i64 3)).bind fun t284 =>
  condE t284 (
  cl (k_arena_Arena_Clear t26 h34) fun t286 h1002 =>
  cl (k_ref4_Arena_Clear t62 h1002) fun t288 h1003 =>
  k_law4_ArenaPlays_j0 q8 q4 h1003) (
  (eqP (some (.int .i64)) none false .eql t83 (AV.int .i64 4)).bind fun t290 =>
  condE t290 (
  condE t81 (
  (faP 1 t9).bind fun t293 =>
  (ldS h34 t293).bind fun t294 =>
  cl (k_ref4_Arena_Sweep t62 t294 h34) fun t295 h1126 =>
  k_law4_ArenaPlays_j2 t26 q4 q8 t9 t295 h1126) (
  k_law4_ArenaPlays_j2 t26 q4 q8 t9 (AV.int .i64 0) h34)) (
  (faP 4 t9).bind fun t85 =>
  (ldS h34 t85).bind fun t86 =>
  cl (k_ref4_Arena_Find t62 t86 h34) fun t87 h1127 =>
  (binP .geq t87 (AV.int .i64 0)).bind fun t89 =>
  (gV (gdW t89 true) (faP 3 t9) (.tup [])).bind fun t91 =>
  (gV (gdW t89 true) (ldS h1127 t91) (.tup [])).bind fun t92 =>
  (gV (gdW t89 true) (binP .geq t92 (AV.int .i64 0)) (.tup [])).bind fun t93 =>
  (pickP t89 t93 (AV.bool false)).bind fun t94 =>
  (gV (gdW t94 true) (faP 3 t9) (.tup [])).bind fun t96 =>
  (gV (gdW t94 true) (ldS h1127 t96) (.tup [])).bind fun t97 =>
  (gV (gdW t94 true) (some t62) (.tup [])).bind fun t98 =>
  (gV (gdW t94 true) (nilV t98) (.tup [])).bind fun t99 =>
  (gV (gdW t94 true) (faP 1 t99) (.tup [])).bind fun t100 =>
  (gV (gdW t94 true) (ldS h1127 t100) (.tup [])).bind fun t101 =>
  (gV (gdW t94 true) (some t87) (.tup [])).bind fun t102 =>
  (gV (gdW t94 true) (iaS 3 t101 t102) (.tup [])).bind fun t103 =>
  (gV (gdW t94 true) (faP 1 t103) (.tup [])).bind fun t104 =>
  (gV (gdW t94 true) (ldS h1127 t104) (.tup [])).bind fun t105 =>
  (gV (gdW t94 true) (lnL t105) (.tup [])).bind fun t106 =>
  (gV (gdW t94 true) (binP .lss t97 t106) (.tup [])).bind fun t107 =>
  (pickP t94 t107 (AV.bool false)).bind fun t108 =>
  chk [h1127] [] (
  (faP 0 t9).bind fun t109 =>
  (ldS h1127 t109).bind fun t110 =>
  (eqP (some (.int .i64)) none false .eql t110 (AV.int .i64 5)).bind fun t111 =>
  condE t111 (
  (faP 4 t9).bind fun t113 =>
  (ldS h1127 t113).bind fun t114 =>
  (faP 3 t9).bind fun t115 =>
  (ldS h1127 t115).bind fun t116 =>
  (faP 5 t9).bind fun t117 =>
  (ldS h1127 t117).bind fun t118 =>
  cl (k_arena_Arena_Write t26 t114 t116 t118 h1127) fun t119 h1128 =>
  (eqP (some (.int .i64)) none false .eql t119 (AV.int .i64 0)).bind fun t120 =>
  (eqP (some .bool) none false .neq t120 t108).bind fun t122 =>
  condE t122 (
  some (.ret, [(AV.bool false), q8], h1128)) (
  condE t108 (
  (nilV t62).bind fun t125 =>
  (faP 1 t125).bind fun t126 =>
  (ldS h1128 t126).bind fun t127 =>
  (iaS 3 t127 t87).bind fun t129 =>
  (faP 1 t129).bind fun t130 =>
  (ldS h1128 t130).bind fun t131 =>
  (faP 3 t9).bind fun t132 =>
  (ldS h1128 t132).bind fun t133 =>
  (faP 5 t9).bind fun t134 =>
  (ldS h1128 t134).bind fun t135 =>
  (iaS 1 t131 t133).bind fun t136 =>
  cl (stP 1 h1128 t136 t135) fun u_1143 h1144 =>
  chk [h1128, h1144] [] (
  k_law4_ArenaPlays_j0 q8 q4 h1144)) (
  k_law4_ArenaPlays_j0 q8 q4 h1128))) (
  (faP 4 t9).bind fun t139 =>
  (ldS h1127 t139).bind fun t140 =>
  (faP 3 t9).bind fun t141 =>
  (ldS h1127 t141).bind fun t142 =>
  cl (k_arena_Arena_Read t26 t140 t142 h1127) fun t143 h1145 =>
  (extractV 0 t143).bind fun t144 =>
  (extractV 1 t143).bind fun t145 =>
  (eqP (some (.int .i64)) none false .eql t145 (AV.int .i64 0)).bind fun t147 =>
  (eqP (some .bool) none false .neq t147 t108).bind fun t149 =>
  (gV (gdW t149 false) (some t108) (.tup [])).bind fun t151 =>
  (gV (gdW t149 false) (unA .not t151) (.tup [])).bind fun t152 =>
  (gV (gdW t149 false) (some t152) (.tup [])).bind fun t153 =>
  (gV (gdW t153 true) (some t145) (.tup [])).bind fun t154 =>
  (gV (gdW t153 true) (eqP (some (.int .i64)) none false .neq t154 (AV.int .i64 1)) (.tup [])).bind fun t155 =>
  (gV (gdW t153 true) (some t155) (.tup [])).bind fun t156 =>
  (gV (gdW t156 false) (some t144) (.tup [])).bind fun t157 =>
  (gV (gdW t156 false) (eqP (some (.int .i64)) none false .neq t157 (AV.int .i64 0)) (.tup [])).bind fun t158 =>
  (gV (gdW t153 true) (pickP t156 (AV.bool true) t158) (.tup [])).bind fun t159 =>
  (gV (gdW t149 false) (pickP t153 t159 (AV.bool false)) (.tup [])).bind fun t160 =>
  (pickP t149 (AV.bool true) t160).bind fun t161 =>
  (gV (gdW t161 false) (some t108) (.tup [])).bind fun t163 =>
  (gV (gdW t161 false) (some t163) (.tup [])).bind fun t164 =>
  (gV (gdW t164 true) (some t144) (.tup [])).bind fun t165 =>
  (gV (gdW t164 true) (some t62) (.tup [])).bind fun t166 =>
  (gV (gdW t164 true) (nilV t166) (.tup [])).bind fun t167 =>
  (gV (gdW t164 true) (faP 1 t167) (.tup [])).bind fun t168 =>
  (gV (gdW t164 true) (ldS h1145 t168) (.tup [])).bind fun t169 =>
  (gV (gdW t164 true) (some t87) (.tup [])).bind fun t170 =>
  (gV (gdW t164 true) (iaS 3 t169 t170) (.tup [])).bind fun t171 =>
  (gV (gdW t164 true) (faP 1 t171) (.tup [])).bind fun t172 =>
  (gV (gdW t164 true) (ldS h1145 t172) (.tup [])).bind fun t173 =>
  (gV (gdW t164 true) (faP 3 t9) (.tup [])).bind fun t174 =>
  (gV (gdW t164 true) (ldS h1145 t174) (.tup [])).bind fun t175 =>
  (gV (gdW t164 true) (iaS 1 t173 t175) (.tup [])).bind fun t176 =>
  (gV (gdW t164 true) (ldS h1145 t176) (.tup [])).bind fun t177 =>
  (gV (gdW t164 true) (eqP (some (.int .i64)) none false .neq t165 t177) (.tup [])).bind fun t178 =>
  (gV (gdW t161 false) (pickP t164 t178 (AV.bool false)) (.tup [])).bind fun t179 =>
  (pickP t161 (AV.bool true) t179).bind fun t180 =>
  chk [h1145] [] (
  condE t180 (
  some (.ret, [(AV.bool false), q8], h1145)) (
  k_law4_ArenaPlays_j0 q8 q4 h1145)))))))))) (
  some ((.exit 0), [q4, q8], h23))
def k_law4_ArenaPlays_L0 (x0 : AV) (x1 : AV) (t26 : AV) (t62 : AV) (q4 : AV) (q8 : AV) (h23 : Heap) : OutV := loopN (fun us g => k_law4_ArenaPlays_b0 x0 x1 t26 t62 (us.getD 0 .bot) (us.getD 1 .bot) g) [q4, q8] h23
def k_law4_ArenaPlays (x0 : AV) (x1 : AV) (h : Heap) : Option (AV × Heap) :=
  cl (k_law4_awake h) fun t21 h0 =>
  (unA .not t21).bind fun t22 =>
  condE t22 (
  some ((AV.bool false), h0)) (
  cl (k_arena_New x0 h0) fun t25 h1 =>
  (extractV 0 t25).bind fun t26 =>
  (extractV 1 t25).bind fun t27 =>
  (binP .lss x0 (AV.int .i64 8)).bind fun t29 =>
  gQ (gdW t29 false) h1 (some (x0, h1)) fun t31 h2 =>
  gQ (gdW t29 false) h2 ((binP .gtr t31 (AV.int .i64 512)).bind fun t32 =>
  some (t32, h2)) fun t32_3 h4 =>
  (pickP t29 (AV.bool true) t32_3).bind fun t33 =>
  condE t33 (
  (eqP (some (.int .i64)) none false .eql t27 (AV.int .i64 1)).bind fun t35 =>
  gQ (gdW t35 true) h4 (some (t26, h4)) fun t37 h5 =>
  gQ (gdW t35 true) h5 ((eqP (some (.pointer 0)) none false .eql t37 (AV.ptr none)).bind fun t38 =>
  some (t38, h5)) fun t38_6 h7 =>
  (pickP t35 t38_6 (AV.bool false)).bind fun t39 =>
  some (t39, h7)) (
  (eqP (some (.int .i64)) none false .neq t27 (AV.int .i64 0)).bind fun t41 =>
  gQ (gdW t41 false) h4 (some (t26, h4)) fun t43 h8 =>
  gQ (gdW t41 false) h8 ((eqP (some (.pointer 0)) none false .eql t43 (AV.ptr none)).bind fun t44 =>
  some (t44, h8)) fun t44_9 h10 =>
  (pickP t41 (AV.bool true) t44_9).bind fun t45 =>
  gQ (gdW t45 false) h10 (some (x1, h10)) fun t47 h11 =>
  gQ (gdW t45 false) h11 ((lnL t47).bind fun t48 =>
  some (t48, h11)) fun t48_12 h13 =>
  gQ (gdW t45 false) h13 ((binP .gtr t48_12 (AV.int .i64 80)).bind fun t49 =>
  some (t49, h13)) fun t49_14 h15 =>
  (pickP t45 (AV.bool true) t49_14).bind fun t50 =>
  gQ (gdW t50 false) h15 (some (x0, h15)) fun t52 h16 =>
  gQ (gdW t50 false) h16 ((binP .gtr t52 (AV.int .i64 20)).bind fun t53 =>
  some (t53, h16)) fun t53_17 h18 =>
  (pickP t50 (AV.bool true) t53_17).bind fun t54 =>
  condE t54 (
  (eqP (some (.int .i64)) none false .eql t27 (AV.int .i64 0)).bind fun t56 =>
  gQ (gdW t56 true) h18 (some (t26, h18)) fun t58 h19 =>
  gQ (gdW t56 true) h19 ((eqP (some (.pointer 0)) none false .neq t58 (AV.ptr none)).bind fun t59 =>
  some (t59, h19)) fun t59_20 h21 =>
  (pickP t56 t59_20 (AV.bool false)).bind fun t60 =>
  some (t60, h21)) (
  cl (k_ref4_NewArena x0 h18) fun t62 h22 =>
  lp (k_law4_ArenaPlays_L0 x0 x1 t26 t62 (AV.bool false) (AV.int .i64 0) h22) fun e vs h1146 =>
  thenK (if e = .exit 0 then .normal else e) (
  cl (k_law4_alike t26 t62 h1146) fun t304 h1147 =>
  some (t304, h1147)) (fun e_1148 => endE e_1148 (some ((vs.getD 0 .bot), h1146))))))
def T43 : Tab := (3, p2 k_law4_ArenaPlays) :: T42
end
end Go.Ab.F