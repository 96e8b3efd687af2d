/- PRINTED by Gen.lean: the program's functions on the abstract machine's values and heaps. -/
import Derived.Test.YtfenhliknhmihaaDoorAbS
import Derived.Test.YtfenhliknhmihaaDoorAbQ
namespace Go.Ab.F
open Go Go.Ab
set_option linter.all false
noncomputable section
def T0 : Tab := []
/- 13: gantline/arena.New -/
def k_arena_New_b0 (t18 : AV) (t23 : AV) (q24 : AV) (h6 : Heap) : OutV :=
  (binP .lss q24 t23).bind fun t25 =>
  condE t25 (
  (nilV t18).bind fun t28 =>
  (faP 1 t28).bind fun t29 =>
  (ldS h6 t29).bind fun t30 =>
  (iaS 3 t30 q24).bind fun t32 =>
  (faP 0 t32).bind fun t33 =>
  cl (stP 1 h6 t33 (AV.int .i64 (-1))) fun u h7 =>
  (binP .add q24 (AV.int .i64 1)).bind fun t34 =>
  some (.normal, [t34], h7)) (
  some ((.exit 0), [q24], h6))
def k_arena_New_L0 (t18 : AV) (t23 : AV) (q24 : AV) (h6 : Heap) : OutV := loopN (fun us g => k_arena_New_b0 t18 t23 (us.getD 0 .bot) g) [q24] h6
def k_arena_New (x0 : AV) (h : Heap) : Option (AV × Heap) :=
  (binP .lss x0 (AV.int .i64 8)).bind fun t7 =>
  gQ (gdW t7 false) h (some (x0, h)) fun t9 h0 =>
  gQ (gdW t7 false) h0 ((binP .gtr t9 (AV.int .i64 512)).bind fun t10 =>
  some (t10, h0)) fun t10_1 h2 =>
  (pickP t7 (AV.bool true) t10_1).bind fun t11 =>
  condE t11 (
  some (AV.tup [(AV.ptr none), (AV.int .i64 1)], h2)) (
  (binP .mul x0 (AV.int .i64 64)).bind fun t13 =>
  cl (mkAt Heap.put (msP 1 8 [(AV.int .i64 0)] t13 t13) (h2.next + 0) (hpN h2 3)) fun t14 h3 =>
  cl (mkAt Heap.put (msP 3 24 [(AV.int .i64 0), (AV.int .u64 0), (AV.int .u64 0)] x0 x0) (h2.next + 1) h3) fun t16 h4 =>
  (bldS [(0, 1), (1, 1)] [(AV.sl none 0 (.ex 0)), (AV.sl none 0 (.ex 0))] [(0, t14), (1, t16)]).bind fun t17 =>
  cl (mkAt Heap.put (bxP t17) (h2.next + 2) h4) fun t18 h5 =>
  chk [(hpN h2 3)] [] (
  (nilV t18).bind fun t20 =>
  (faP 1 t20).bind fun t21 =>
  (ldS h5 t21).bind fun t22 =>
  (lnL t22).bind fun t23 =>
  lp (k_arena_New_L0 t18 t23 (AV.int .i64 0) h5) fun e vs h8 =>
  thenK (if e = .exit 0 then .normal else e) (
  some (AV.tup [t18, (AV.int .i64 0)], h8)) (fun e_9 => endE e_9 (some (AV.tup [(AV.ptr none), (AV.int .i64 0)], h8)))))
def T1 : Tab := (13, p1 k_arena_New) :: T0
/- 50: (*gantline/arena.Arena).has -/
def k_arena_Arena_has (x0 : AV) (x1 : AV) (h : Heap) : Option (AV × Heap) :=
  (binP .geq x1 (AV.int .i64 1)).bind fun t6 =>
  gQ (gdW t6 true) h (some (x1, h)) fun t8 h0 =>
  gQ (gdW t6 true) h0 (some (x0, h0)) fun t9 h1 =>
  gQ (gdW t6 true) h1 ((nilV t9).bind fun t10 =>
  some (t10, h1)) fun t10_2 h3 =>
  gQ (gdW t6 true) h3 ((faP 1 t10_2).bind fun t11 =>
  some (t11, h3)) fun t11_4 h5 =>
  gQ (gdW t6 true) h5 ((ldS h5 t11_4).bind fun t12 =>
  some (t12, h5)) fun t12_6 h7 =>
  gQ (gdW t6 true) h7 ((lnL t12_6).bind fun t13 =>
  some (t13, h7)) fun t13_8 h9 =>
  gQ (gdW t6 true) h9 ((binP .lss t8 t13_8).bind fun t14 =>
  some (t14, h9)) fun t14_10 h11 =>
  (pickP t6 t14_10 (AV.bool false)).bind fun t15 =>
  some (t15, h11)
def T2 : Tab := (50, p2 k_arena_Arena_has) :: T1
/- 49: gantline/geom.Words -/
def k_geom_Words (x0 : AV) (h : Heap) : Option (AV × Heap) :=
  (binP .lss x0 (AV.int .i64 0)).bind fun t4 =>
  gQ (gdW t4 false) h (some (x0, h)) fun t6 h0 =>
  gQ (gdW t4 false) h0 ((binP .geq t6 (AV.int .i64 6)).bind fun t7 =>
  some (t7, h0)) fun t7_1 h2 =>
  (pickP t4 (AV.bool true) t7_1).bind fun t8 =>
  condE t8 (
  some ((AV.int .i64 0), h2)) (
  (cvI .u64 x0).bind fun t10 =>
  (binP .shl (AV.int .i64 2) t10).bind fun t11 =>
  some (t11, h2))
def T3 : Tab := (49, p1 k_geom_Words) :: T2
/- 15: (*gantline/arena.Arena).Set -/
def k_arena_Arena_Set (x0 : AV) (x1 : AV) (x2 : AV) (h : Heap) : Option (AV × Heap) :=
  cl (k_arena_Arena_has x0 x1 h) fun t10 h0 =>
  (unA .not t10).bind fun t11 =>
  gQ (gdW t11 false) h0 (some (x2, h0)) fun t13 h1 =>
  gQ (gdW t11 false) h1 (cl (k_geom_Words t13 h1) fun t14 h2 =>
  some (t14, h2)) fun t14_3 h4 =>
  gQ (gdW t11 false) h4 ((eqP (some (.int .i64)) none false .eql t14_3 (AV.int .i64 0)).bind fun t15 =>
  some (t15, h4)) fun t15_5 h6 =>
  (pickP t11 (AV.bool true) t15_5).bind fun t16 =>
  condE t16 (
  some ((AV.int .i64 1), h6)) (
  (nilV x0).bind fun t19 =>
  (faP 1 t19).bind fun t20 =>
  (ldS h6 t20).bind fun t21 =>
  (iaS 3 t21 x1).bind fun t23 =>
  (faP 0 t23).bind fun t24 =>
  (ldS h6 t24).bind fun t25 =>
  (eqP (some (.int .i64)) none false .neq t25 (AV.int .i64 (-1))).bind fun t26 =>
  condE t26 (
  some ((AV.int .i64 5), h6)) (
  (nilV x0).bind fun t28 =>
  (faP 1 t28).bind fun t29 =>
  (ldS h6 t29).bind fun t30 =>
  (bldS [(0, 1), (1, 1), (2, 1)] [(AV.int .i64 0), (AV.int .u64 0), (AV.int .u64 0)] [(0, x2)]).bind fun t33 =>
  (iaS 3 t30 x1).bind fun t34 =>
  cl (stP 3 h6 t34 t33) fun u h7 =>
  some ((AV.int .i64 0), h7)))
def T4 : Tab := (15, p3 k_arena_Arena_Set) :: T3
/- 18: (*gantline/arena.Arena).Class -/
def k_arena_Arena_Class (x0 : AV) (x1 : AV) (h : Heap) : Option (AV × Heap) :=
  cl (k_arena_Arena_has x0 x1 h) fun t7 h0 =>
  (unA .not t7).bind fun t8 =>
  condE t8 (
  some ((AV.int .i64 (-1)), h0)) (
  (nilV x0).bind fun t10 =>
  (faP 1 t10).bind fun t11 =>
  (ldS h0 t11).bind fun t12 =>
  (iaS 3 t12 x1).bind fun t14 =>
  (faP 0 t14).bind fun t15 =>
  (ldS h0 t15).bind fun t16 =>
  some (t16, h0))
def T5 : Tab := (18, p2 k_arena_Arena_Class) :: T4
/- 67: math/bits.TrailingZeros64 -/
def k_mbits_TrailingZeros64 (x0 : AV) (h : Heap) : Option (AV × Heap) :=
  (eqP (some (.int .u64)) none false .eql x0 (AV.int .u64 0)).bind fun t4 =>
  condE t4 (
  some ((AV.int .i64 64), h)) (
  (unA .neg x0).bind fun t7 =>
  (binP .and x0 t7).bind fun t8 =>
  (binP .mul t8 (AV.int .u64 285870213051353865)).bind fun t9 =>
  (binP .shr t9 (AV.int .u64 58)).bind fun t10 =>
  (iaA 64 1 (AV.ptr (some (0, 0))) t10).bind fun t11 =>
  (ldS h t11).bind fun t12 =>
  (cvI .i64 t12).bind fun t13 =>
  some (t13, h))
def T6 : Tab := (67, p1 k_mbits_TrailingZeros64) :: T5
/- 46: gantline/bits.First -/
def k_bits_First (x0 : AV) (h : Heap) : Option (AV × Heap) :=
  (unA .xor x0).bind fun t4 =>
  cl (k_mbits_TrailingZeros64 t4 h) fun t5 h0 =>
  some (t5, h0)
def T7 : Tab := (46, p1 k_bits_First) :: T6
/- 47: gantline/geom.Places -/
def k_geom_Places (x0 : AV) (h : Heap) : Option (AV × Heap) :=
  cl (k_geom_Words x0 h) fun t4 h0 =>
  (eqP (some (.int .i64)) none false .eql t4 (AV.int .i64 0)).bind fun t5 =>
  condE t5 (
  some ((AV.int .i64 0), h0)) (
  cl (k_geom_Words x0 h0) fun t7 h1 =>
  (binP .quo (AV.int .i64 64) t7).bind fun t8 =>
  some (t8, h1))
def T8 : Tab := (47, p1 k_geom_Places) :: T7
/- 48: gantline/geom.Addr -/
def k_geom_Addr (x0 : AV) (x1 : AV) (x2 : AV) (h : Heap) : Option (AV × Heap) :=
  (binP .lss x0 (AV.int .i64 1)).bind fun t8 =>
  gQ (gdW t8 false) h (some (x0, h)) fun t10 h0 =>
  gQ (gdW t8 false) h0 ((binP .geq t10 (AV.int .i64 512)).bind fun t11 =>
  some (t11, h0)) fun t11_1 h2 =>
  (pickP t8 (AV.bool true) t11_1).bind fun t12 =>
  gQ (gdW t12 false) h2 (some (x1, h2)) fun t14 h3 =>
  gQ (gdW t12 false) h3 ((binP .lss t14 (AV.int .i64 0)).bind fun t15 =>
  some (t15, h3)) fun t15_4 h5 =>
  (pickP t12 (AV.bool true) t15_4).bind fun t16 =>
  gQ (gdW t16 false) h5 (some (x1, h5)) fun t18 h6 =>
  gQ (gdW t16 false) h6 (some (x2, h6)) fun t19 h7 =>
  gQ (gdW t16 false) h7 (cl (k_geom_Places t19 h7) fun t20 h8 =>
  some (t20, h8)) fun t20_9 h10 =>
  gQ (gdW t16 false) h10 ((binP .geq t18 t20_9).bind fun t21 =>
  some (t21, h10)) fun t21_11 h12 =>
  (pickP t16 (AV.bool true) t21_11).bind fun t22 =>
  condE t22 (
  some ((AV.int .i64 0), h12)) (
  (binP .mul x0 (AV.int .i64 64)).bind fun t24 =>
  cl (k_geom_Words x2 h12) fun t27 h13 =>
  (binP .mul x1 t27).bind fun t28 =>
  (binP .add t24 t28).bind fun t29 =>
  some (t29, h13))
def T9 : Tab := (48, p3 k_geom_Addr) :: T8
/- 14: (*gantline/arena.Arena).Take -/
def k_arena_Arena_Take (x0 : AV) (x1 : AV) (h : Heap) : Option (AV × Heap) :=
  cl (k_arena_Arena_Class x0 x1 h) fun t12 h0 =>
  (eqP (some (.int .i64)) none false .eql t12 (AV.int .i64 (-1))).bind fun t14 =>
  condE t14 (
  some (AV.tup [(AV.int .i64 0), (AV.int .i64 4)], h0)) (
  (nilV x0).bind fun t16 =>
  (faP 1 t16).bind fun t17 =>
  (ldS h0 t17).bind fun t18 =>
  (iaS 3 t18 x1).bind fun t20 =>
  (nilV t20).bind fun t22 =>
  (faP 1 t22).bind fun t23 =>
  (ldS h0 t23).bind fun t24 =>
  cl (k_bits_First t24 h0) fun t25 h1 =>
  cl (k_geom_Places t12 h1) fun t28 h2 =>
  (binP .geq t25 t28).bind fun t29 =>
  condE t29 (
  some (AV.tup [(AV.int .i64 0), (AV.int .i64 5)], h2)) (
  (nilV t20).bind fun t31 =>
  (faP 1 t31).bind fun t32 =>
  (ldS h2 t32).bind fun t33 =>
  (cvI .u64 t25).bind fun t35 =>
  (binP .shl (AV.int .u64 1) t35).bind fun t36 =>
  (binP .or t33 t36).bind fun t37 =>
  (nilV t20).bind fun t38 =>
  (faP 1 t38).bind fun t39 =>
  cl (stP 1 h2 t39 t37) fun u h3 =>
  (nilV t20).bind fun t41 =>
  (faP 2 t41).bind fun t42 =>
  (ldS h3 t42).bind fun t43 =>
  (cvI .u64 t25).bind fun t45 =>
  (binP .shl (AV.int .u64 1) t45).bind fun t46 =>
  (binP .andNot t43 t46).bind fun t47 =>
  (nilV t20).bind fun t48 =>
  (faP 2 t48).bind fun t49 =>
  cl (stP 1 h3 t49 t47) fun u_4 h5 =>
  cl (k_geom_Addr x1 t25 t12 h5) fun t53 h6 =>
  (nilV x0).bind fun t55 =>
  (faP 0 t55).bind fun t56 =>
  clC (rdC (fun g => ldS g t56) h6 0 1 []) fun t57 cs =>
  cl (k_geom_Words t12 h6) fun t61 h7 =>
  (binP .add t53 t61).bind fun t62 =>
  (slcP 1 t57 (some t53) (some t62) none).bind fun t63 =>
  cl (clL 1 [(AV.int .i64 0)] h7 t63) fun u_8 h9 =>
  chk [h6, h7, h9] cs (
  some (AV.tup [t53, (AV.int .i64 0)], h9))))
def T10 : Tab := (14, p2 k_arena_Arena_Take) :: T9
/- 68: gantline/geom.Span -/
def k_geom_Span (x0 : AV) (h : Heap) : Option (AV × Heap) :=
  (binP .lss x0 (AV.int .i64 0)).bind fun t4 =>
  gQ (gdW t4 false) h (some (x0, h)) fun t6 h0 =>
  gQ (gdW t4 false) h0 ((binP .geq t6 (AV.int .i64 32768)).bind fun t7 =>
  some (t7, h0)) fun t7_1 h2 =>
  (pickP t4 (AV.bool true) t7_1).bind fun t8 =>
  condE t8 (
  some ((AV.int .i64 (-1)), h2)) (
  (binP .quo x0 (AV.int .i64 64)).bind fun t10 =>
  some (t10, h2))
def T11 : Tab := (68, p1 k_geom_Span) :: T10
/- 69: gantline/geom.Place -/
def k_geom_Place (x0 : AV) (x1 : AV) (h : Heap) : Option (AV × Heap) :=
  cl (k_geom_Words x1 h) fun t7 h0 =>
  (eqP (some (.int .i64)) none false .eql t7 (AV.int .i64 0)).bind fun t8 =>
  gQ (gdW t8 false) h0 (some (x0, h0)) fun t10 h1 =>
  gQ (gdW t8 false) h1 (cl (k_geom_Span t10 h1) fun t11 h2 =>
  some (t11, h2)) fun t11_3 h4 =>
  gQ (gdW t8 false) h4 ((eqP (some (.int .i64)) none false .eql t11_3 (AV.int .i64 (-1))).bind fun t12 =>
  some (t12, h4)) fun t12_5 h6 =>
  (pickP t8 (AV.bool true) t12_5).bind fun t13 =>
  condE t13 (
  some ((AV.int .i64 (-1)), h6)) (
  (binP .rem x0 (AV.int .i64 64)).bind fun t15 =>
  cl (k_geom_Words x1 h6) fun t18 h7 =>
  (binP .rem t15 t18).bind fun t19 =>
  (eqP (some (.int .i64)) none false .neq t19 (AV.int .i64 0)).bind fun t20 =>
  condE t20 (
  some ((AV.int .i64 (-1)), h7)) (
  cl (k_geom_Words x1 h7) fun t23 h8 =>
  (binP .quo t15 t23).bind fun t24 =>
  some (t24, h8)))
def T12 : Tab := (69, p2 k_geom_Place) :: T11
/- 52: (*gantline/arena.Arena).find -/
def k_arena_Arena_find (x0 : AV) (x1 : AV) (h : Heap) : Option (AV × Heap) :=
  cl (k_geom_Span x1 h) fun t10 h0 =>
  cl (k_arena_Arena_Class x0 t10 h0) fun t13 h1 =>
  cl (k_geom_Place x1 t13 h1) fun t16 h2 =>
  (binP .lss t16 (AV.int .i64 0)).bind fun t18 =>
  gQ (gdW t18 false) h2 (some (x0, h2)) fun t20 h3 =>
  gQ (gdW t18 false) h3 ((nilV t20).bind fun t21 =>
  some (t21, h3)) fun t21_4 h5 =>
  gQ (gdW t18 false) h5 ((faP 1 t21_4).bind fun t22 =>
  some (t22, h5)) fun t22_6 h7 =>
  gQ (gdW t18 false) h7 ((ldS h7 t22_6).bind fun t23 =>
  some (t23, h7)) fun t23_8 h9 =>
  gQ (gdW t18 false) h9 (some (t10, h9)) fun t24 h10 =>
  gQ (gdW t18 false) h10 ((iaS 3 t23_8 t24).bind fun t25 =>
  some (t25, h10)) fun t25_11 h12 =>
  gQ (gdW t18 false) h12 ((faP 1 t25_11).bind fun t26 =>
  some (t26, h12)) fun t26_13 h14 =>
  gQ (gdW t18 false) h14 ((ldS h14 t26_13).bind fun t27 =>
  some (t27, h14)) fun t27_15 h16 =>
  gQ (gdW t18 false) h16 (some (t16, h16)) fun t28 h17 =>
  gQ (gdW t18 false) h17 ((cvI .u64 t28).bind fun t29 =>
  some (t29, h17)) fun t29_18 h19 =>
  gQ (gdW t18 false) h19 ((binP .shr t27_15 t29_18).bind fun t30 =>
  some (t30, h19)) fun t30_20 h21 =>
  gQ (gdW t18 false) h21 ((binP .and t30_20 (AV.int .u64 1)).bind fun t31 =>
  some (t31, h21)) fun t31_22 h23 =>
  gQ (gdW t18 false) h23 ((eqP (some (.int .u64)) none false .eql t31_22 (AV.int .u64 0)).bind fun t32 =>
  some (t32, h23)) fun t32_24 h25 =>
  (pickP t18 (AV.bool true) t32_24).bind fun t33 =>
  condE t33 (
  some (AV.tup [(AV.ptr none), (AV.int .u64 0)], h25)) (
  (nilV x0).bind fun t35 =>
  (faP 1 t35).bind fun t36 =>
  (ldS h25 t36).bind fun t37 =>
  (iaS 3 t37 t10).bind fun t39 =>
  (cvI .u64 t16).bind fun t41 =>
  (binP .shl (AV.int .u64 1) t41).bind fun t42 =>
  some (AV.tup [t39, t42], h25))
def T13 : Tab := (52, p2 k_arena_Arena_find) :: T12
/- 51: (*gantline/arena.Arena).word -/
def k_arena_Arena_word (x0 : AV) (x1 : AV) (x2 : AV) (h : Heap) : Option (AV × Heap) :=
  cl (k_arena_Arena_find x0 x1 h) fun t12 h0 =>
  (extractV 0 t12).bind fun t13 =>
  (extractV 1 t12).bind fun t14 =>
  (eqP (some (.pointer 0)) none false .eql t13 (AV.ptr none)).bind fun t16 =>
  gQ (gdW t16 false) h0 (some (x2, h0)) fun t18 h1 =>
  gQ (gdW t16 false) h1 ((binP .lss t18 (AV.int .i64 0)).bind fun t19 =>
  some (t19, h1)) fun t19_2 h3 =>
  (pickP t16 (AV.bool true) t19_2).bind fun t20 =>
  gQ (gdW t20 false) h3 (some (x2, h3)) fun t22 h4 =>
  gQ (gdW t20 false) h4 (some (t13, h4)) fun t23 h5 =>
  gQ (gdW t20 false) h5 ((nilV t23).bind fun t24 =>
  some (t24, h5)) fun t24_6 h7 =>
  gQ (gdW t20 false) h7 ((faP 0 t24_6).bind fun t25 =>
  some (t25, h7)) fun t25_8 h9 =>
  gQ (gdW t20 false) h9 ((ldS h9 t25_8).bind fun t26 =>
  some (t26, h9)) fun t26_10 h11 =>
  gQ (gdW t20 false) h11 (cl (k_geom_Words t26_10 h11) fun t27 h12 =>
  some (t27, h12)) fun t27_13 h14 =>
  gQ (gdW t20 false) h14 ((binP .geq t22 t27_13).bind fun t28 =>
  some (t28, h14)) fun t28_15 h16 =>
  (pickP t20 (AV.bool true) t28_15).bind fun t29 =>
  condE t29 (
  some ((AV.ptr none), h16)) (
  (nilV x0).bind fun t31 =>
  (faP 0 t31).bind fun t32 =>
  (ldS h16 t32).bind fun t33 =>
  (binP .add x1 x2).bind fun t36 =>
  (iaS 1 t33 t36).bind fun t37 =>
  some (t37, h16))
def T14 : Tab := (51, p3 k_arena_Arena_word) :: T13
/- 17: (*gantline/arena.Arena).Write -/
def k_arena_Arena_Write (x0 : AV) (x1 : AV) (x2 : AV) (x3 : AV) (h : Heap) : Option (AV × Heap) :=
  cl (k_arena_Arena_word x0 x1 x2 h) fun t13 h0 =>
  (eqP (some (.pointer 0)) none false .eql t13 (AV.ptr none)).bind fun t15 =>
  condE t15 (
  some ((AV.int .i64 1), h0)) (
  (nilV t13).bind fun t18 =>
  cl (stP 1 h0 t18 x3) fun u h1 =>
  some ((AV.int .i64 0), h1))
def T15 : Tab := (17, p4 k_arena_Arena_Write) :: T14
/- 16: (*gantline/arena.Arena).Read -/
def k_arena_Arena_Read (x0 : AV) (x1 : AV) (x2 : AV) (h : Heap) : Option (AV × Heap) :=
  cl (k_arena_Arena_word x0 x1 x2 h) fun t12 h0 =>
  (eqP (some (.pointer 0)) none false .eql t12 (AV.ptr none)).bind fun t14 =>
  condE t14 (
  some (AV.tup [(AV.int .i64 0), (AV.int .i64 1)], h0)) (
  (nilV t12).bind fun t16 =>
  (ldS h0 t16).bind fun t17 =>
  some (AV.tup [t17, (AV.int .i64 0)], h0))
def T16 : Tab := (16, p3 k_arena_Arena_Read) :: T15
/- 19: (*gantline/arena.Arena).Mark -/
def k_arena_Arena_Mark (x0 : AV) (x1 : AV) (h : Heap) : Option (AV × Heap) :=
  cl (k_arena_Arena_find x0 x1 h) fun t10 h0 =>
  (extractV 0 t10).bind fun t11 =>
  (extractV 1 t10).bind fun t12 =>
  (eqP (some (.pointer 0)) none false .eql t11 (AV.ptr none)).bind fun t14 =>
  gQ (gdW t14 false) h0 (some (t11, h0)) fun t16 h1 =>
  gQ (gdW t14 false) h1 ((nilV t16).bind fun t17 =>
  some (t17, h1)) fun t17_2 h3 =>
  gQ (gdW t14 false) h3 ((faP 2 t17_2).bind fun t18 =>
  some (t18, h3)) fun t18_4 h5 =>
  gQ (gdW t14 false) h5 ((ldS h5 t18_4).bind fun t19 =>
  some (t19, h5)) fun t19_6 h7 =>
  gQ (gdW t14 false) h7 (some (t12, h7)) fun t20 h8 =>
  gQ (gdW t14 false) h8 ((binP .and t19_6 t20).bind fun t21 =>
  some (t21, h8)) fun t21_9 h10 =>
  gQ (gdW t14 false) h10 ((eqP (some (.int .u64)) none false .neq t21_9 (AV.int .u64 0)).bind fun t22 =>
  some (t22, h10)) fun t22_11 h12 =>
  (pickP t14 (AV.bool true) t22_11).bind fun t23 =>
  condE t23 (
  some ((AV.bool false), h12)) (
  (nilV t11).bind fun t25 =>
  (faP 2 t25).bind fun t26 =>
  (ldS h12 t26).bind fun t27 =>
  (binP .or t27 t12).bind fun t29 =>
  (nilV t11).bind fun t30 =>
  (faP 2 t30).bind fun t31 =>
  cl (stP 1 h12 t31 t29) fun u h13 =>
  some ((AV.bool true), h13))
def T17 : Tab := (19, p2 k_arena_Arena_Mark) :: T16
/- 57: slices.Clone[[]int64,int64] -/
def k_slices_Clone_int64_int64 (x0 : AV) (h : Heap) : Option (AV × Heap) :=
  (eqP (some (.slice 0)) none false .eql x0 (AV.sl none 0 (.ex 0))).bind fun t4 =>
  condE t4 (
  some ((AV.sl none 0 (.ex 0)), h)) (
  mk Heap.new (bsP 1 [(AV.int .i64 0)] 0 []) h fun t5 h0 =>
  cl (appendA h0 1 8 t5 x0) fun t7 h1 =>
  some (t7, h1))
def T18 : Tab := (57, p1 k_slices_Clone_int64_int64) :: T17
/- 58: slices.Clone[[]gantline/arena.span,gantline/arena.span] -/
def k_slices_Clone_arena_span_arena_span (x0 : AV) (h : Heap) : Option (AV × Heap) :=
  (eqP (some (.slice 0)) none false .eql x0 (AV.sl none 0 (.ex 0))).bind fun t4 =>
  condE t4 (
  some ((AV.sl none 0 (.ex 0)), h)) (
  mk Heap.new (bsP 3 [(AV.int .i64 0), (AV.int .u64 0), (AV.int .u64 0)] 0 []) h fun t5 h0 =>
  cl (appendA h0 3 24 t5 x0) fun t7 h1 =>
  some (t7, h1))
def T19 : Tab := (58, p1 k_slices_Clone_arena_span_arena_span) :: T18
/- 32: (*gantline/arena.Arena).Copy -/
def k_arena_Arena_Copy (x0 : AV) (h : Heap) : Option (AV × Heap) :=
  (nilV x0).bind fun t4 =>
  (faP 0 t4).bind fun t5 =>
  (ldS (hpN h 1) t5).bind fun t6 =>
  cl (k_slices_Clone_int64_int64 t6 (hpN h 1)) fun t7 h0 =>
  (nilV x0).bind fun t9 =>
  (faP 1 t9).bind fun t10 =>
  clC (rdC (fun g => ldS g t10) h0 0 1 []) fun t11 cs =>
  cl (k_slices_Clone_arena_span_arena_span t11 h0) fun t12 h1 =>
  (bldS [(0, 1), (1, 1)] [(AV.sl none 0 (.ex 0)), (AV.sl none 0 (.ex 0))] [(0, t7), (1, t12)]).bind fun t13 =>
  cl (mkAt Heap.put (bxP t13) (h.next + 0) h1) fun t14 h2 =>
  chk [(hpN h 1), h0, h1] cs (
  some (t14, h2))
def T20 : Tab := (32, p1 k_arena_Arena_Copy) :: T19
/- 24: (*gantline/arena.Arena).Clear -/
def k_arena_Arena_Clear_b0 (x0 : AV) (t7 : AV) (q8 : AV) (h0 : Heap) : OutV :=
  (binP .lss q8 t7).bind fun t9 =>
  condE t9 (
  (nilV x0).bind fun t12 =>
  (faP 1 t12).bind fun t13 =>
  (ldS h0 t13).bind fun t14 =>
  (iaS 3 t14 q8).bind fun t16 =>
  (faP 2 t16).bind fun t17 =>
  cl (stP 1 h0 t17 (AV.int .u64 0)) fun u h1 =>
  (binP .add q8 (AV.int .i64 1)).bind fun t18 =>
  some (.normal, [t18], h1)) (
  some ((.exit 0), [q8], h0))
def k_arena_Arena_Clear_L0 (x0 : AV) (t7 : AV) (q8 : AV) (h0 : Heap) : OutV := loopN (fun us g => k_arena_Arena_Clear_b0 x0 t7 (us.getD 0 .bot) g) [q8] h0
def k_arena_Arena_Clear (x0 : AV) (h : Heap) : Option (AV × Heap) :=
  (nilV x0).bind fun t4 =>
  (faP 1 t4).bind fun t5 =>
  (ldS h t5).bind fun t6 =>
  (lnL t6).bind fun t7 =>
  lp (k_arena_Arena_Clear_L0 x0 t7 (AV.int .i64 0) h) fun e vs h2 =>
  endE (if e = .exit 0 then .normal else e) (some (AV.tup [], h2))
def T21 : Tab := (24, p1 k_arena_Arena_Clear) :: T20
/- 70: math/bits.OnesCount64 -/
def k_mbits_OnesCount64 (x0 : AV) (h : Heap) : Option (AV × Heap) :=
  (binP .shr x0 (AV.int .u64 1)).bind fun t4 =>
  (binP .and t4 (AV.int .u64 6148914691236517205)).bind fun t5 =>
  (binP .and x0 (AV.int .u64 6148914691236517205)).bind fun t7 =>
  (binP .add t5 t7).bind fun t8 =>
  (binP .shr t8 (AV.int .u64 2)).bind fun t10 =>
  (binP .and t10 (AV.int .u64 3689348814741910323)).bind fun t11 =>
  (binP .and t8 (AV.int .u64 3689348814741910323)).bind fun t13 =>
  (binP .add t11 t13).bind fun t14 =>
  (binP .shr t14 (AV.int .u64 4)).bind fun t16 =>
  (binP .add t16 t14).bind fun t18 =>
  (binP .and t18 (AV.int .u64 1085102592571150095)).bind fun t19 =>
  (binP .shr t19 (AV.int .u64 8)).bind fun t22 =>
  (binP .add t19 t22).bind fun t23 =>
  (binP .shr t23 (AV.int .u64 16)).bind fun t26 =>
  (binP .add t23 t26).bind fun t27 =>
  (binP .shr t27 (AV.int .u64 32)).bind fun t30 =>
  (binP .add t27 t30).bind fun t31 =>
  (cvI .i64 t31).bind fun t33 =>
  (binP .and t33 (AV.int .i64 127)).bind fun t34 =>
  some (t34, h)
def T22 : Tab := (70, p1 k_mbits_OnesCount64) :: T21
/- 53: gantline/bits.Ones -/
def k_bits_Ones (x0 : AV) (h : Heap) : Option (AV × Heap) :=
  cl (k_mbits_OnesCount64 x0 h) fun t4 h0 =>
  some (t4, h0)
def T23 : Tab := (53, p1 k_bits_Ones) :: T22
/- 20: (*gantline/arena.Arena).Sweep -/
def k_arena_Arena_Sweep (x0 : AV) (x1 : AV) (h : Heap) : Option (AV × Heap) :=
  cl (k_arena_Arena_Class x0 x1 h) fun t9 h0 =>
  (eqP (some (.int .i64)) none false .eql t9 (AV.int .i64 (-1))).bind fun t10 =>
  condE t10 (
  some ((AV.int .i64 0), h0)) (
  (nilV x0).bind fun t12 =>
  (faP 1 t12).bind fun t13 =>
  (ldS h0 t13).bind fun t14 =>
  (iaS 3 t14 x1).bind fun t16 =>
  (nilV t16).bind fun t18 =>
  (faP 1 t18).bind fun t19 =>
  (ldS h0 t19).bind fun t20 =>
  (nilV t16).bind fun t22 =>
  (faP 2 t22).bind fun t23 =>
  (ldS h0 t23).bind fun t24 =>
  (binP .andNot t20 t24).bind fun t25 =>
  cl (k_bits_Ones t25 h0) fun t26 h1 =>
  chk [h0, h1] [] (
  (nilV t16).bind fun t28 =>
  (faP 1 t28).bind fun t29 =>
  (ldS h1 t29).bind fun t30 =>
  (nilV t16).bind fun t32 =>
  (faP 2 t32).bind fun t33 =>
  (ldS h1 t33).bind fun t34 =>
  (binP .and t30 t34).bind fun t35 =>
  (nilV t16).bind fun t36 =>
  (faP 1 t36).bind fun t37 =>
  cl (stP 1 h1 t37 t35) fun u h2 =>
  chk [h1, h2] [] (
  (nilV t16).bind fun t39 =>
  (faP 1 t39).bind fun t40 =>
  (ldS h2 t40).bind fun t41 =>
  (eqP (some (.int .u64)) none false .eql t41 (AV.int .u64 0)).bind fun t42 =>
  condE t42 (
  (bldS [(0, 1), (1, 1), (2, 1)] [(AV.int .i64 0), (AV.int .u64 0), (AV.int .u64 0)] [(0, (AV.int .i64 (-1)))]).bind fun t44 =>
  (nilV t16).bind fun t45 =>
  cl (stP 3 h2 t45 t44) fun u_4 h5 =>
  some (t26, h5)) (
  some (t26, h2)))))
def T24 : Tab := (20, p2 k_arena_Arena_Sweep) :: T23
/- 45: (*gantline/arena.Arena).Spans -/
def k_arena_Arena_Spans (x0 : AV) (h : Heap) : Option (AV × Heap) :=
  (nilV x0).bind fun t4 =>
  (faP 1 t4).bind fun t5 =>
  (ldS h t5).bind fun t6 =>
  (lnL t6).bind fun t7 =>
  some (t7, h)
def T25 : Tab := (45, p1 k_arena_Arena_Spans) :: T24
/- 30: (*gantline/arena.Arena).Is -/
def k_arena_Arena_Is (x0 : AV) (x1 : AV) (h : Heap) : Option (AV × Heap) :=
  cl (k_arena_Arena_find x0 x1 h) fun t10 h0 =>
  (extractV 0 t10).bind fun t11 =>
  (extractV 1 t10).bind fun t12 =>
  (eqP (some (.pointer 0)) none false .neq t11 (AV.ptr none)).bind fun t14 =>
  some (t14, h0)
def T26 : Tab := (30, p2 k_arena_Arena_Is) :: T25
/- 34: (*gantline/arena.Arena).Marked -/
def k_arena_Arena_Marked (x0 : AV) (x1 : AV) (h : Heap) : Option (AV × Heap) :=
  cl (k_arena_Arena_Class x0 x1 h) fun t7 h0 =>
  (eqP (some (.int .i64)) none false .eql t7 (AV.int .i64 (-1))).bind fun t8 =>
  condE t8 (
  some ((AV.int .u64 0), h0)) (
  (nilV x0).bind fun t10 =>
  (faP 1 t10).bind fun t11 =>
  (ldS h0 t11).bind fun t12 =>
  (iaS 3 t12 x1).bind fun t14 =>
  (faP 2 t14).bind fun t15 =>
  (ldS h0 t15).bind fun t16 =>
  some (t16, h0))
def T27 : Tab := (34, p2 k_arena_Arena_Marked) :: T26
/- 33: (*gantline/arena.Arena).Taken -/
def k_arena_Arena_Taken (x0 : AV) (x1 : AV) (h : Heap) : Option (AV × Heap) :=
  cl (k_arena_Arena_Class x0 x1 h) fun t7 h0 =>
  (eqP (some (.int .i64)) none false .eql t7 (AV.int .i64 (-1))).bind fun t8 =>
  condE t8 (
  some ((AV.int .u64 0), h0)) (
  (nilV x0).bind fun t10 =>
  (faP 1 t10).bind fun t11 =>
  (ldS h0 t11).bind fun t12 =>
  (iaS 3 t12 x1).bind fun t14 =>
  (faP 1 t14).bind fun t15 =>
  (ldS h0 t15).bind fun t16 =>
  some (t16, h0))
def T28 : Tab := (33, p2 k_arena_Arena_Taken) :: T27
/- 12: gantline/gantlinelaw4.awake -/
def k_law4_awakeR (h : Heap) : Option (AV × Heap) :=
  cl (k_arena_New (AV.int .i64 8) h) fun t15 h0 =>
  (extractV 0 t15).bind fun t16 =>
  (extractV 1 t15).bind fun t17 =>
  (eqP (some (.int .i64)) none false .neq t17 (AV.int .i64 0)).bind fun t19 =>
  gQ (gdW t19 false) h0 (some (t16, h0)) fun t21 h1 =>
  gQ (gdW t19 false) h1 ((eqP (some (.pointer 0)) none false .eql t21 (AV.ptr none)).bind fun t22 =>
  some (t22, h1)) fun t22_2 h3 =>
  (pickP t19 (AV.bool true) t22_2).bind fun t23 =>
  condE t23 (
  some ((AV.bool false), h3)) (
  cl (k_arena_Arena_Set t16 (AV.int .i64 1) (AV.int .i64 0) h3) fun t25 h4 =>
  cl (k_arena_Arena_Take t16 (AV.int .i64 1) h4) fun t28 h5 =>
  (extractV 0 t28).bind fun t29 =>
  (extractV 1 t28).bind fun t30 =>
  cl (k_arena_Arena_Take t16 (AV.int .i64 1) h5) fun t33 h6 =>
  (extractV 0 t33).bind fun t34 =>
  (extractV 1 t33).bind fun t35 =>
  cl (k_arena_Arena_Write t16 (AV.int .i64 66) (AV.int .i64 1) (AV.int .i64 5) h6) fun t37 h7 =>
  cl (k_arena_Arena_Read t16 (AV.int .i64 66) (AV.int .i64 1) h7) fun t40 h8 =>
  (extractV 0 t40).bind fun t41 =>
  (extractV 1 t40).bind fun t42 =>
  cl (k_arena_Arena_Mark t16 (AV.int .i64 64) h8) fun t44 h9 =>
  cl (k_arena_Arena_Copy t16 h9) fun t46 h10 =>
  cl (k_arena_Arena_Clear t16 h10) fun t48 h11 =>
  cl (k_arena_Arena_Sweep t16 (AV.int .i64 1) h11) fun t50 h12 =>
  (eqP (some (.int .i64)) none false .eql t25 (AV.int .i64 0)).bind fun t52 =>
  gQ (gdW t52 true) h12 (some (t30, h12)) fun t54 h13 =>
  gQ (gdW t52 true) h13 ((eqP (some (.int .i64)) none false .eql t54 (AV.int .i64 0)).bind fun t55 =>
  some (t55, h13)) fun t55_14 h15 =>
  (pickP t52 t55_14 (AV.bool false)).bind fun t56 =>
  gQ (gdW t56 true) h15 (some (t29, h15)) fun t58 h16 =>
  gQ (gdW t56 true) h16 ((eqP (some (.int .i64)) none false .eql t58 (AV.int .i64 64)).bind fun t59 =>
  some (t59, h16)) fun t59_17 h18 =>
  (pickP t56 t59_17 (AV.bool false)).bind fun t60 =>
  gQ (gdW t60 true) h18 (some (t35, h18)) fun t62 h19 =>
  gQ (gdW t60 true) h19 ((eqP (some (.int .i64)) none false .eql t62 (AV.int .i64 0)).bind fun t63 =>
  some (t63, h19)) fun t63_20 h21 =>
  (pickP t60 t63_20 (AV.bool false)).bind fun t64 =>
  gQ (gdW t64 true) h21 (some (t34, h21)) fun t66 h22 =>
  gQ (gdW t64 true) h22 ((eqP (some (.int .i64)) none false .eql t66 (AV.int .i64 66)).bind fun t67 =>
  some (t67, h22)) fun t67_23 h24 =>
  (pickP t64 t67_23 (AV.bool false)).bind fun t68 =>
  gQ (gdW t68 true) h24 (some (t37, h24)) fun t70 h25 =>
  gQ (gdW t68 true) h25 ((eqP (some (.int .i64)) none false .eql t70 (AV.int .i64 0)).bind fun t71 =>
  some (t71, h25)) fun t71_26 h27 =>
  (pickP t68 t71_26 (AV.bool false)).bind fun t72 =>
  gQ (gdW t72 true) h27 (some (t42, h27)) fun t74 h28 =>
  gQ (gdW t72 true) h28 ((eqP (some (.int .i64)) none false .eql t74 (AV.int .i64 0)).bind fun t75 =>
  some (t75, h28)) fun t75_29 h30 =>
  (pickP t72 t75_29 (AV.bool false)).bind fun t76 =>
  gQ (gdW t76 true) h30 (some (t41, h30)) fun t78 h31 =>
  gQ (gdW t76 true) h31 ((eqP (some (.int .i64)) none false .eql t78 (AV.int .i64 5)).bind fun t79 =>
  some (t79, h31)) fun t79_32 h33 =>
  (pickP t76 t79_32 (AV.bool false)).bind fun t80 =>
  gQ (gdW t80 true) h33 (some (t44, h33)) fun t82 h34 =>
  (pickP t80 t82 (AV.bool false)).bind fun t83 =>
  gQ (gdW t83 true) h34 (some (t50, h34)) fun t85 h35 =>
  gQ (gdW t83 true) h35 ((eqP (some (.int .i64)) none false .eql t85 (AV.int .i64 2)).bind fun t86 =>
  some (t86, h35)) fun t86_36 h37 =>
  (pickP t83 t86_36 (AV.bool false)).bind fun t87 =>
  gQ (gdW t87 true) h37 (some (t16, h37)) fun t89 h38 =>
  gQ (gdW t87 true) h38 (cl (k_arena_Arena_Class t89 (AV.int .i64 1) h38) fun t90 h39 =>
  some (t90, h39)) fun t90_40 h41 =>
  gQ (gdW t87 true) h41 ((eqP (some (.int .i64)) none false .eql t90_40 (AV.int .i64 (-1))).bind fun t91 =>
  some (t91, h41)) fun t91_42 h43 =>
  (pickP t87 t91_42 (AV.bool false)).bind fun t92 =>
  gQ (gdW t92 true) h43 (some (t16, h43)) fun t94 h44 =>
  gQ (gdW t92 true) h44 (cl (k_arena_Arena_Spans t94 h44) fun t95 h45 =>
  some (t95, h45)) fun t95_46 h47 =>
  gQ (gdW t92 true) h47 ((eqP (some (.int .i64)) none false .eql t95_46 (AV.int .i64 8)).bind fun t96 =>
  some (t96, h47)) fun t96_48 h49 =>
  (pickP t92 t96_48 (AV.bool false)).bind fun t97 =>
  gQ (gdW t97 true) h49 (some (t46, h49)) fun t99 h50 =>
  gQ (gdW t97 true) h50 (cl (k_arena_Arena_Is t99 (AV.int .i64 64) h50) fun t100 h51 =>
  some (t100, h51)) fun t100_52 h53 =>
  (pickP t97 t100_52 (AV.bool false)).bind fun t101 =>
  gQ (gdW t101 true) h53 (some (t46, h53)) fun t103 h54 =>
  gQ (gdW t101 true) h54 (cl (k_arena_Arena_Marked t103 (AV.int .i64 1) h54) fun t104 h55 =>
  some (t104, h55)) fun t104_56 h57 =>
  gQ (gdW t101 true) h57 ((eqP (some (.int .u64)) none false .eql t104_56 (AV.int .u64 1)).bind fun t105 =>
  some (t105, h57)) fun t105_58 h59 =>
  (pickP t101 t105_58 (AV.bool false)).bind fun t106 =>
  gQ (gdW t106 true) h59 (some (t46, h59)) fun t108 h60 =>
  gQ (gdW t106 true) h60 (cl (k_arena_Arena_Taken t108 (AV.int .i64 1) h60) fun t109 h61 =>
  some (t109, h61)) fun t109_62 h63 =>
  gQ (gdW t106 true) h63 ((eqP (some (.int .u64)) none false .eql t109_62 (AV.int .u64 3)).bind fun t110 =>
  some (t110, h63)) fun t110_64 h65 =>
  (pickP t106 t110_64 (AV.bool false)).bind fun t111 =>
  gQ (gdW t111 true) h65 (some (t16, h65)) fun t113 h66 =>
  gQ (gdW t111 true) h66 (cl (k_arena_Arena_Is t113 (AV.int .i64 64) h66) fun t114 h67 =>
  some (t114, h67)) fun t114_68 h69 =>
  gQ (gdW t111 true) h69 ((unA .not t114_68).bind fun t115 =>
  some (t115, h69)) fun t115_70 h71 =>
  (pickP t111 t115_70 (AV.bool false)).bind fun t116 =>
  some (t116, h71))
def k_law4_awake : Heap → Option (AV × Heap) := quiet hQ1
def T29 : Tab := (12, p0 k_law4_awake) :: T28
/- 21: gantline/gantlineref4.NewArena -/
def k_ref4_NewArena_b0 (x0 : AV) (t6 : AV) (q4 : AV) (h1 : Heap) : OutV :=
  (binP .lss q4 x0).bind fun t9 =>
  condE t9 (
  (nilV t6).bind fun t14 =>
  (faP 0 t14).bind fun t15 =>
  (ldS h1 t15).bind fun t16 =>
  mk Heap.new (bsP 1 [(AV.int .i64 0)] 1 [(0, (AV.int .i64 (-1)))]) h1 fun t17 h2 =>
  cl (appendA h2 1 8 t16 t17) fun t18 h3 =>
  (nilV t6).bind fun t19 =>
  (faP 0 t19).bind fun t20 =>
  cl (stP 1 h3 t20 t18) fun u h4 =>
  (binP .add q4 (AV.int .i64 1)).bind fun t11 =>
  some (.normal, [t11], h4)) (
  some ((.exit 0), [q4], h1))
def k_ref4_NewArena_L0 (x0 : AV) (t6 : AV) (q4 : AV) (h1 : Heap) : OutV := loopN (fun us g => k_ref4_NewArena_b0 x0 t6 (us.getD 0 .bot) g) [q4] h1
def k_ref4_NewArena (x0 : AV) (h : Heap) : Option (AV × Heap) :=
  (bldS [(0, 1), (1, 1)] [(AV.sl none 0 (.ex 0)), (AV.sl none 0 (.ex 0))] []).bind fun t5 =>
  mk Heap.new (bxP t5) h fun t6 h0 =>
  lp (k_ref4_NewArena_L0 x0 t6 (AV.int .i64 0) h0) fun e vs h5 =>
  thenK (if e = .exit 0 then .normal else e) (
  some (t6, h5)) (fun e_6 => endE e_6 (some ((AV.ptr none), h5)))
def T30 : Tab := (21, p1 k_ref4_NewArena) :: T29
/- 29: gantline/gantlineref1.Words -/
def k_ref1_Words (x0 : AV) (h : Heap) : Option (AV × Heap) :=
  (binP .lss x0 (AV.int .i64 0)).bind fun t4 =>
  gQ (gdW t4 false) h (some (x0, h)) fun t6 h0 =>
  gQ (gdW t4 false) h0 ((binP .gtr t6 (AV.int .i64 5)).bind fun t7 =>
  some (t7, h0)) fun t7_1 h2 =>
  (pickP t4 (AV.bool true) t7_1).bind fun t8 =>
  condE t8 (
  some ((AV.int .i64 0), h2)) (
  mk Heap.new (bsP 1 [(AV.int .i64 0)] 6 [(0, (AV.int .i64 2)), (1, (AV.int .i64 4)), (2, (AV.int .i64 8)), (3, (AV.int .i64 16)), (4, (AV.int .i64 32)), (5, (AV.int .i64 64))]) h2 fun t9 h3 =>
  (iaS 1 t9 x0).bind fun t11 =>
  (ldS h3 t11).bind fun t12 =>
  some (t12, h3))
def T31 : Tab := (29, p1 k_ref1_Words) :: T30
/- 42: gantline/gantlineref1.Places -/
def k_ref1_Places (x0 : AV) (h : Heap) : Option (AV × Heap) :=
  (binP .lss x0 (AV.int .i64 0)).bind fun t4 =>
  gQ (gdW t4 false) h (some (x0, h)) fun t6 h0 =>
  gQ (gdW t4 false) h0 ((binP .gtr t6 (AV.int .i64 5)).bind fun t7 =>
  some (t7, h0)) fun t7_1 h2 =>
  (pickP t4 (AV.bool true) t7_1).bind fun t8 =>
  condE t8 (
  some ((AV.int .i64 0), h2)) (
  cl (k_ref1_Words x0 h2) fun t10 h3 =>
  (binP .quo (AV.int .i64 64) t10).bind fun t11 =>
  some (t11, h3))
def T32 : Tab := (42, p1 k_ref1_Places) :: T31
/- 54: gantline/gantlineref1.Addr -/
def k_ref1_Addr (x0 : AV) (x1 : AV) (x2 : AV) (h : Heap) : Option (AV × Heap) :=
  (binP .lss x0 (AV.int .i64 1)).bind fun t8 =>
  gQ (gdW t8 false) h (some (x0, h)) fun t10 h0 =>
  gQ (gdW t8 false) h0 ((binP .gtr t10 (AV.int .i64 511)).bind fun t11 =>
  some (t11, h0)) fun t11_1 h2 =>
  (pickP t8 (AV.bool true) t11_1).bind fun t12 =>
  gQ (gdW t12 false) h2 (some (x1, h2)) fun t14 h3 =>
  gQ (gdW t12 false) h3 ((binP .lss t14 (AV.int .i64 0)).bind fun t15 =>
  some (t15, h3)) fun t15_4 h5 =>
  (pickP t12 (AV.bool true) t15_4).bind fun t16 =>
  gQ (gdW t16 false) h5 (some (x1, h5)) fun t18 h6 =>
  gQ (gdW t16 false) h6 (some (x2, h6)) fun t19 h7 =>
  gQ (gdW t16 false) h7 (cl (k_ref1_Places t19 h7) fun t20 h8 =>
  some (t20, h8)) fun t20_9 h10 =>
  gQ (gdW t16 false) h10 ((binP .geq t18 t20_9).bind fun t21 =>
  some (t21, h10)) fun t21_11 h12 =>
  (pickP t16 (AV.bool true) t21_11).bind fun t22 =>
  condE t22 (
  some ((AV.int .i64 0), h12)) (
  (binP .mul (AV.int .i64 64) x0).bind fun t24 =>
  cl (k_ref1_Words x2 h12) fun t27 h13 =>
  (binP .mul x1 t27).bind fun t28 =>
  (binP .add t24 t28).bind fun t29 =>
  some (t29, h13))
def T33 : Tab := (54, p3 k_ref1_Addr) :: T32
/- 27: (*gantline/gantlineref4.Arena).Find -/
def k_ref4_Arena_Find_b0 (x0 : AV) (x1 : AV) (q4 : AV) (q5 : AV) (h0 : Heap) : OutV :=
  (nilV x0).bind fun t8 =>
  (faP 1 t8).bind fun t9 =>
  (ldS h0 t9).bind fun t10 =>
  (lnL t10).bind fun t11 =>
  (binP .lss q5 t11).bind fun t12 =>
  condE t12 (
  (nilV x0).bind fun t16 =>
  (faP 1 t16).bind fun t17 =>
  (ldS h0 t17).bind fun t18 =>
  (iaS 3 t18 q5).bind fun t20 =>
  (faP 0 t20).bind fun t21 =>
  (ldS h0 t21).bind fun t22 =>
  (eqP (some (.int .i64)) none false .eql t22 x1).bind fun t24 =>
  condE t24 (
  some (.ret, [q5, q5], h0)) (
  (binP .add q5 (AV.int .i64 1)).bind fun t14 =>
  some (.normal, [q4, t14], h0))) (
  some ((.exit 0), [q4, q5], h0))
def k_ref4_Arena_Find_L0 (x0 : AV) (x1 : AV) (q4 : AV) (q5 : AV) (h0 : Heap) : OutV := loopN (fun us g => k_ref4_Arena_Find_b0 x0 x1 (us.getD 0 .bot) (us.getD 1 .bot) g) [q4, q5] h0
def k_ref4_Arena_Find (x0 : AV) (x1 : AV) (h : Heap) : Option (AV × Heap) :=
  lp (k_ref4_Arena_Find_L0 x0 x1 (AV.int .i64 0) (AV.int .i64 0) h) fun e vs h1 =>
  thenK (if e = .exit 0 then .normal else e) (
  some ((AV.int .i64 (-1)), h1)) (fun e_2 => endE e_2 (some ((vs.getD 0 .bot), h1)))
def T34 : Tab := (27, p2 k_ref4_Arena_Find) :: T33
/- 22: (*gantline/gantlineref4.Arena).Take -/
def k_ref4_Arena_Take_b0 (x0 : AV) (t26 : AV) (q8 : AV) (h4 : Heap) : OutV :=
  (nilV x0).bind fun t33 =>
  (faP 1 t33).bind fun t34 =>
  (ldS h4 t34).bind fun t35 =>
  (lnL t35).bind fun t36 =>
  (binP .lss q8 t36).bind fun t37 =>
  gQ (gdW t37 true) h4 (some (x0, h4)) fun t39 h5 =>
  gQ (gdW t37 true) h5 ((nilV t39).bind fun t40 =>
  some (t40, h5)) fun t40_6 h7 =>
  gQ (gdW t37 true) h7 ((faP 1 t40_6).bind fun t41 =>
  some (t41, h7)) fun t41_8 h9 =>
  gQ (gdW t37 true) h9 ((ldS h9 t41_8).bind fun t42 =>
  some (t42, h9)) fun t42_10 h11 =>
  gQ (gdW t37 true) h11 (some (q8, h11)) fun t43 h12 =>
  gQ (gdW t37 true) h12 ((iaS 3 t42_10 t43).bind fun t44 =>
  some (t44, h12)) fun t44_13 h14 =>
  gQ (gdW t37 true) h14 ((faP 0 t44_13).bind fun t45 =>
  some (t45, h14)) fun t45_15 h16 =>
  gQ (gdW t37 true) h16 ((ldS h16 t45_15).bind fun t46 =>
  some (t46, h16)) fun t46_17 h18 =>
  gQ (gdW t37 true) h18 (some (t26, h18)) fun t47 h19 =>
  gQ (gdW t37 true) h19 ((binP .lss t46_17 t47).bind fun t48 =>
  some (t48, h19)) fun t48_20 h21 =>
  (pickP t37 t48_20 (AV.bool false)).bind fun t49 =>
  condE t49 (
  (binP .add q8 (AV.int .i64 1)).bind fun t51 =>
  some (.normal, [t51], h21)) (
  some ((.exit 2), [q8], h21))
def k_ref4_Arena_Take_L0 (x0 : AV) (t26 : AV) (q8 : AV) (h4 : Heap) : OutV := loopN (fun us g => k_ref4_Arena_Take_b0 x0 t26 (us.getD 0 .bot) g) [q8] h4
def k_ref4_Arena_Take_b1 (x0 : AV) (x1 : AV) (t16 : AV) (q4 : AV) (q6 : AV) (h0 : Heap) : OutV :=
  cl (k_ref1_Places t16 h0) fun t19 h1 =>
  (binP .lss q6 t19).bind fun t20 =>
  condE t20 (
  cl (k_ref1_Addr x1 q6 t16 h1) fun t26 h2 =>
  cl (k_ref4_Arena_Find x0 t26 h2) fun t29 h3 =>
  (binP .lss t29 (AV.int .i64 0)).bind fun t30 =>
  condE t30 (
  lp (k_ref4_Arena_Take_L0 x0 t26 (AV.int .i64 0) h3) fun e vs h22 =>
  thenK (if e = .exit 2 then .normal else e) (
  mk Heap.new (bsP 3 [(AV.int .i64 0), (AV.sl none 0 (.ex 0)), (AV.bool false)] 0 []) h22 fun t52 h23 =>
  (nilV x0).bind fun t54 =>
  (faP 1 t54).bind fun t55 =>
  (ldS h23 t55).bind fun t56 =>
  (slcP 3 t56 none (some (vs.getD 0 .bot)) none).bind fun t58 =>
  cl (appendA h23 3 40 t52 t58) fun t59 h24 =>
  cl (k_ref1_Words t16 h24) fun t63 h25 =>
  mk Heap.new (msP 1 8 [(AV.int .i64 0)] t63 t63) h25 fun t64 h26 =>
  (bldS [(0, 1), (1, 1), (2, 1)] [(AV.int .i64 0), (AV.sl none 0 (.ex 0)), (AV.bool false)] [(0, t26), (1, t64)]).bind fun t65 =>
  mk Heap.new (bsP 3 [(AV.int .i64 0), (AV.sl none 0 (.ex 0)), (AV.bool false)] 1 [(0, t65)]) h26 fun t66 h27 =>
  cl (appendA h27 3 40 t59 t66) fun t67 h28 =>
  (nilV x0).bind fun t71 =>
  (faP 1 t71).bind fun t72 =>
  (ldS h28 t72).bind fun t73 =>
  (slcP 3 t73 (some (vs.getD 0 .bot)) none none).bind fun t75 =>
  cl (appendA h28 3 40 t67 t75) fun t76 h29 =>
  (nilV x0).bind fun t77 =>
  (faP 1 t77).bind fun t78 =>
  cl (stP 1 h29 t78 t76) fun u h30 =>
  some (.ret, [t26, q6], h30)) (fun e_31 => thenK (if e_31 = .exit 1 then .normal else e_31) (
  (binP .add q6 (AV.int .i64 1)).bind fun t22 =>
  some (.normal, [q4, t22], h22)) (fun e_32 => some (e_32, [q4, q6], h22)))) (
  (binP .add q6 (AV.int .i64 1)).bind fun t22_33 =>
  some (.normal, [q4, t22_33], h3))) (
  some ((.exit 0), [q4, q6], h1))
def k_ref4_Arena_Take_L1 (x0 : AV) (x1 : AV) (t16 : AV) (q4 : AV) (q6 : AV) (h0 : Heap) : OutV := loopN (fun us g => k_ref4_Arena_Take_b1 x0 x1 t16 (us.getD 0 .bot) (us.getD 1 .bot) g) [q4, q6] h0
def k_ref4_Arena_Take (x0 : AV) (x1 : AV) (h : Heap) : Option (AV × Heap) :=
  (nilV x0).bind fun t11 =>
  (faP 0 t11).bind fun t12 =>
  (ldS h t12).bind fun t13 =>
  (iaS 1 t13 x1).bind fun t15 =>
  (ldS h t15).bind fun t16 =>
  lp (k_ref4_Arena_Take_L1 x0 x1 t16 (AV.int .i64 0) (AV.int .i64 0) h) fun e_34 vs_35 h36 =>
  thenK (if e_34 = .exit 0 then .normal else e_34) (
  some ((AV.int .i64 0), h36)) (fun e_37 => endE e_37 (some ((vs_35.getD 0 .bot), h36)))
def T35 : Tab := (22, p2 k_ref4_Arena_Take) :: T34
/- 23: (*gantline/gantlineref4.Arena).Mark -/
def k_ref4_Arena_Mark (x0 : AV) (x1 : AV) (h : Heap) : Option (AV × Heap) :=
  cl (k_ref4_Arena_Find x0 x1 h) fun t8 h0 =>
  (binP .lss t8 (AV.int .i64 0)).bind fun t10 =>
  gQ (gdW t10 false) h0 (some (x0, h0)) fun t12 h1 =>
  gQ (gdW t10 false) h1 ((nilV t12).bind fun t13 =>
  some (t13, h1)) fun t13_2 h3 =>
  gQ (gdW t10 false) h3 ((faP 1 t13_2).bind fun t14 =>
  some (t14, h3)) fun t14_4 h5 =>
  gQ (gdW t10 false) h5 ((ldS h5 t14_4).bind fun t15 =>
  some (t15, h5)) fun t15_6 h7 =>
  gQ (gdW t10 false) h7 (some (t8, h7)) fun t16 h8 =>
  gQ (gdW t10 false) h8 ((iaS 3 t15_6 t16).bind fun t17 =>
  some (t17, h8)) fun t17_9 h10 =>
  gQ (gdW t10 false) h10 ((faP 2 t17_9).bind fun t18 =>
  some (t18, h10)) fun t18_11 h12 =>
  gQ (gdW t10 false) h12 ((ldS h12 t18_11).bind fun t19 =>
  some (t19, h12)) fun t19_13 h14 =>
  (pickP t10 (AV.bool true) t19_13).bind fun t20 =>
  condE t20 (
  some ((AV.bool false), h14)) (
  (nilV x0).bind fun t22 =>
  (faP 1 t22).bind fun t23 =>
  (ldS h14 t23).bind fun t24 =>
  (iaS 3 t24 t8).bind fun t26 =>
  (faP 2 t26).bind fun t27 =>
  cl (stP 1 h14 t27 (AV.bool true)) fun u h15 =>
  some ((AV.bool true), h15))
def T36 : Tab := (23, p2 k_ref4_Arena_Mark) :: T35
/- 25: (*gantline/gantlineref4.Arena).Clear -/
def k_ref4_Arena_Clear_b0 (x0 : AV) (q2 : AV) (h0 : Heap) : OutV :=
  (nilV x0).bind fun t5 =>
  (faP 1 t5).bind fun t6 =>
  (ldS h0 t6).bind fun t7 =>
  (lnL t7).bind fun t8 =>
  (binP .lss q2 t8).bind fun t9 =>
  condE t9 (
  (nilV x0).bind fun t13 =>
  (faP 1 t13).bind fun t14 =>
  (ldS h0 t14).bind fun t15 =>
  (iaS 3 t15 q2).bind fun t17 =>
  (faP 2 t17).bind fun t18 =>
  cl (stP 1 h0 t18 (AV.bool false)) fun u h1 =>
  (binP .add q2 (AV.int .i64 1)).bind fun t11 =>
  some (.normal, [t11], h1)) (
  some ((.exit 0), [q2], h0))
def k_ref4_Arena_Clear_L0 (x0 : AV) (q2 : AV) (h0 : Heap) : OutV := loopN (fun us g => k_ref4_Arena_Clear_b0 x0 (us.getD 0 .bot) g) [q2] h0
def k_ref4_Arena_Clear (x0 : AV) (h : Heap) : Option (AV × Heap) :=
  lp (k_ref4_Arena_Clear_L0 x0 (AV.int .i64 0) h) fun e vs h2 =>
  endE (if e = .exit 0 then .normal else e) (some (AV.tup [], h2))
def T37 : Tab := (25, p1 k_ref4_Arena_Clear) :: T36
/- 55: gantline/gantlineref1.Span -/
def k_ref1_Span (x0 : AV) (h : Heap) : Option (AV × Heap) :=
  (binP .lss x0 (AV.int .i64 0)).bind fun t4 =>
  gQ (gdW t4 false) h (some (x0, h)) fun t6 h0 =>
  gQ (gdW t4 false) h0 ((binP .geq t6 (AV.int .i64 32768)).bind fun t7 =>
  some (t7, h0)) fun t7_1 h2 =>
  (pickP t4 (AV.bool true) t7_1).bind fun t8 =>
  condE t8 (
  some ((AV.int .i64 (-1)), h2)) (
  (binP .quo x0 (AV.int .i64 64)).bind fun t10 =>
  some (t10, h2))
def T38 : Tab := (55, p1 k_ref1_Span) :: T37
/- 26: (*gantline/gantlineref4.Arena).Sweep -/
def k_ref4_Arena_Sweep_j0 (q8 : AV) (q6_1 : AV) (q7_2 : AV) (q5_3 : AV) (h4 : Heap) : OutV :=
  (binP .add q8 (AV.int .i64 1)).bind fun t26 =>
  some (.normal, [q5_3, q6_1, q7_2, t26], h4)
def k_ref4_Arena_Sweep_j1 (x0 : AV) (q5 : AV) (q6 : AV) (q8 : AV) (q7_24 : AV) (h25 : Heap) : OutV :=
  (nilV x0).bind fun t57 =>
  (faP 1 t57).bind fun t58 =>
  (ldS h25 t58).bind fun t59 =>
  (iaS 3 t59 q8).bind fun t61 =>
  (ldA 3 h25 t61).bind fun t62 =>
  mk Heap.new (bsP 3 [(AV.int .i64 0), (AV.sl none 0 (.ex 0)), (AV.bool false)] 1 [(0, t62)]) h25 fun t63 h26 =>
  cl (appendA h26 3 40 q5 t63) fun t64 h27 =>
  k_ref4_Arena_Sweep_j0 q8 q6 q7_24 t64 h27
def k_ref4_Arena_Sweep_b0 (x0 : AV) (x1 : AV) (q5 : AV) (q6 : AV) (q7 : AV) (q8 : AV) (h0 : Heap) : OutV :=
  (nilV x0).bind fun t20 =>
  (faP 1 t20).bind fun t21 =>
  (ldS h0 t21).bind fun t22 =>
  (lnL t22).bind fun t23 =>
  (binP .lss q8 t23).bind fun t24 =>
  condE t24 (
  (nilV x0).bind fun t28 =>
  (faP 1 t28).bind fun t29 =>
  (ldS h0 t29).bind fun t30 =>
  (iaS 3 t30 q8).bind fun t32 =>
  (faP 0 t32).bind fun t33 =>
  (ldS h0 t33).bind fun t34 =>
  cl (k_ref1_Span t34 h0) fun t35 h5 =>
  (eqP (some (.int .i64)) none false .eql t35 x1).bind fun t37 =>
  gQ (gdW t37 true) h5 (some (x0, h5)) fun t40 h6 =>
  gQ (gdW t37 true) h6 ((nilV t40).bind fun t41 =>
  some (t41, h6)) fun t41_7 h8 =>
  gQ (gdW t37 true) h8 ((faP 1 t41_7).bind fun t42 =>
  some (t42, h8)) fun t42_9 h10 =>
  gQ (gdW t37 true) h10 ((ldS h10 t42_9).bind fun t43 =>
  some (t43, h10)) fun t43_11 h12 =>
  gQ (gdW t37 true) h12 (some (q8, h12)) fun t44 h13 =>
  gQ (gdW t37 true) h13 ((iaS 3 t43_11 t44).bind fun t45 =>
  some (t45, h13)) fun t45_14 h15 =>
  gQ (gdW t37 true) h15 ((faP 2 t45_14).bind fun t46 =>
  some (t46, h15)) fun t46_16 h17 =>
  gQ (gdW t37 true) h17 ((ldS h17 t46_16).bind fun t47 =>
  some (t47, h17)) fun t47_18 h19 =>
  gQ (gdW t37 true) h19 ((unA .not t47_18).bind fun t48 =>
  some (t48, h19)) fun t48_20 h21 =>
  (pickP t37 t48_20 (AV.bool false)).bind fun t49 =>
  condE t49 (
  (binP .add q6 (AV.int .i64 1)).bind fun t51 =>
  k_ref4_Arena_Sweep_j0 q8 t51 q7 q5 h21) (
  condE t37 (
  (binP .add q7 (AV.int .i64 1)).bind fun t54 =>
  k_ref4_Arena_Sweep_j1 x0 q5 q6 q8 t54 h21) (
  k_ref4_Arena_Sweep_j1 x0 q5 q6 q8 q7 h21))) (
  some ((.exit 0), [q5, q6, q7, q8], h0))
def k_ref4_Arena_Sweep_L0 (x0 : AV) (x1 : AV) (q5 : AV) (q6 : AV) (q7 : AV) (q8 : AV) (h0 : Heap) : OutV := loopN (fun us g => k_ref4_Arena_Sweep_b0 x0 x1 (us.getD 0 .bot) (us.getD 1 .bot) (us.getD 2 .bot) (us.getD 3 .bot) g) [q5, q6, q7, q8] h0
def k_ref4_Arena_Sweep (x0 : AV) (x1 : AV) (h : Heap) : Option (AV × Heap) :=
  (nilV x0).bind fun t11 =>
  (faP 0 t11).bind fun t12 =>
  (ldS h t12).bind fun t13 =>
  (iaS 1 t13 x1).bind fun t15 =>
  (ldS h t15).bind fun t16 =>
  (binP .lss t16 (AV.int .i64 0)).bind fun t17 =>
  condE t17 (
  some ((AV.int .i64 0), h)) (
  lp (k_ref4_Arena_Sweep_L0 x0 x1 (AV.sl none 0 (.ex 0)) (AV.int .i64 0) (AV.int .i64 0) (AV.int .i64 0) h) fun e vs h28 =>
  thenK (if e = .exit 0 then .normal else e) (
  (nilV x0).bind fun t67 =>
  (faP 1 t67).bind fun t68 =>
  cl (stP 1 h28 t68 (vs.getD 0 .bot)) fun u h29 =>
  (eqP (some (.int .i64)) none false .eql (vs.getD 2 .bot) (AV.int .i64 0)).bind fun t70 =>
  condE t70 (
  (nilV x0).bind fun t72 =>
  (faP 0 t72).bind fun t73 =>
  (ldS h29 t73).bind fun t74 =>
  (iaS 1 t74 x1).bind fun t76 =>
  cl (stP 1 h29 t76 (AV.int .i64 (-1))) fun u_31 h32 =>
  some ((vs.getD 1 .bot), h32)) (
  some ((vs.getD 1 .bot), h29))) (fun e_33 => endE e_33 (some ((AV.int .i64 0), h28))))
def T39 : Tab := (26, p2 k_ref4_Arena_Sweep) :: T38
/- 71: gantline/gantlineref1.Place -/
def k_ref1_Place (x0 : AV) (x1 : AV) (h : Heap) : Option (AV × Heap) :=
  cl (k_ref1_Words x1 h) fun t6 h0 =>
  (eqP (some (.int .i64)) none false .eql t6 (AV.int .i64 0)).bind fun t7 =>
  gQ (gdW t7 false) h0 (some (x0, h0)) fun t9 h1 =>
  gQ (gdW t7 false) h1 (cl (k_ref1_Span t9 h1) fun t10 h2 =>
  some (t10, h2)) fun t10_3 h4 =>
  gQ (gdW t7 false) h4 ((binP .lss t10_3 (AV.int .i64 0)).bind fun t11 =>
  some (t11, h4)) fun t11_5 h6 =>
  (pickP t7 (AV.bool true) t11_5).bind fun t12 =>
  gQ (gdW t12 false) h6 (some (x0, h6)) fun t14 h7 =>
  gQ (gdW t12 false) h7 ((binP .rem t14 (AV.int .i64 64)).bind fun t15 =>
  some (t15, h7)) fun t15_8 h9 =>
  gQ (gdW t12 false) h9 (some (x1, h9)) fun t16 h10 =>
  gQ (gdW t12 false) h10 (cl (k_ref1_Words t16 h10) fun t17 h11 =>
  some (t17, h11)) fun t17_12 h13 =>
  gQ (gdW t12 false) h13 ((binP .rem t15_8 t17_12).bind fun t18 =>
  some (t18, h13)) fun t18_14 h15 =>
  gQ (gdW t12 false) h15 ((eqP (some (.int .i64)) none false .neq t18_14 (AV.int .i64 0)).bind fun t19 =>
  some (t19, h15)) fun t19_16 h17 =>
  (pickP t12 (AV.bool true) t19_16).bind fun t20 =>
  condE t20 (
  some ((AV.int .i64 (-1)), h17)) (
  (binP .rem x0 (AV.int .i64 64)).bind fun t22 =>
  cl (k_ref1_Words x1 h17) fun t24 h18 =>
  (binP .quo t22 t24).bind fun t25 =>
  some (t25, h18))
def T40 : Tab := (71, p2 k_ref1_Place) :: T39
/- 56: (*gantline/gantlineref4.Arena).Maps -/
def k_ref4_Arena_Maps_j0 (q8 : AV) (q6_27 : AV) (q7_39 : AV) (h40 : Heap) : OutV :=
  (binP .add q8 (AV.int .i64 1)).bind fun t18_41 =>
  some (.normal, [q6_27, q7_39, t18_41], h40)
def k_ref4_Arena_Maps_b0 (x0 : AV) (x1 : AV) (q6 : AV) (q7 : AV) (q8 : AV) (h0 : Heap) : OutV :=
  (nilV x0).bind fun t12 =>
  (faP 1 t12).bind fun t13 =>
  (ldS h0 t13).bind fun t14 =>
  (lnL t14).bind fun t15 =>
  (binP .lss q8 t15).bind fun t16 =>
  condE t16 (
  (nilV x0).bind fun t20 =>
  (faP 1 t20).bind fun t21 =>
  (ldS h0 t21).bind fun t22 =>
  (iaS 3 t22 q8).bind fun t24 =>
  (faP 0 t24).bind fun t25 =>
  (ldS h0 t25).bind fun t26 =>
  cl (k_ref1_Span t26 h0) fun t27 h4 =>
  (eqP (some (.int .i64)) none false .eql t27 x1).bind fun t29 =>
  condE t29 (
  (nilV x0).bind fun t31 =>
  (faP 1 t31).bind fun t32 =>
  (ldS h4 t32).bind fun t33 =>
  (iaS 3 t33 q8).bind fun t35 =>
  (faP 0 t35).bind fun t36 =>
  (ldS h4 t36).bind fun t37 =>
  (nilV x0).bind fun t39 =>
  (faP 0 t39).bind fun t40 =>
  (ldS h4 t40).bind fun t41 =>
  (iaS 1 t41 x1).bind fun t43 =>
  (ldS h4 t43).bind fun t44 =>
  cl (k_ref1_Place t37 t44 h4) fun t45 h42 =>
  (cvI .u64 t45).bind fun t46 =>
  (binP .shl (AV.int .u64 1) t46).bind fun t47 =>
  chk [h4, h42] [] (
  (binP .or q6 t47).bind fun t50 =>
  (nilV x0).bind fun t52 =>
  (faP 1 t52).bind fun t53 =>
  (ldS h42 t53).bind fun t54 =>
  (iaS 3 t54 q8).bind fun t56 =>
  (faP 2 t56).bind fun t57 =>
  (ldS h42 t57).bind fun t58 =>
  condE t58 (
  (binP .or q7 t47).bind fun t61 =>
  k_ref4_Arena_Maps_j0 q8 t50 t61 h42) (
  k_ref4_Arena_Maps_j0 q8 t50 q7 h42))) (
  k_ref4_Arena_Maps_j0 q8 q6 q7 h4)) (
  some ((.exit 0), [q6, q7, q8], h0))
def k_ref4_Arena_Maps_L0 (x0 : AV) (x1 : AV) (q6 : AV) (q7 : AV) (q8 : AV) (h0 : Heap) : OutV := loopN (fun us g => k_ref4_Arena_Maps_b0 x0 x1 (us.getD 0 .bot) (us.getD 1 .bot) (us.getD 2 .bot) g) [q6, q7, q8] h0
def k_ref4_Arena_Maps (x0 : AV) (x1 : AV) (h : Heap) : Option (AV × Heap) :=
  lp (k_ref4_Arena_Maps_L0 x0 x1 (AV.int .u64 0) (AV.int .u64 0) (AV.int .i64 0) h) fun e vs h48 =>
  thenK (if e = .exit 0 then .normal else e) (
  some (AV.tup [(vs.getD 0 .bot), (vs.getD 1 .bot)], h48)) (fun e_49 => endE e_49 (some (AV.tup [(AV.int .u64 0), (AV.int .u64 0)], h48)))
def T41 : Tab := (56, p2 k_ref4_Arena_Maps) :: T40
/- 28: gantline/gantlinelaw4.alike -/
def k_law4_alike_b0 (x0 : AV) (x1 : AV) (q4 : AV) (q5 : AV) (h1 : Heap) : OutV :=
  (nilV x1).bind fun t22 =>
  (faP 0 t22).bind fun t23 =>
  (ldS h1 t23).bind fun t24 =>
  (lnL t24).bind fun t25 =>
  (binP .lss q5 t25).bind fun t26 =>
  condE t26 (
  cl (k_ref4_Arena_Maps x1 q5 h1) fun t32 h2 =>
  (extractV 0 t32).bind fun t33 =>
  (extractV 1 t32).bind fun t34 =>
  cl (k_arena_Arena_Class x0 q5 h2) fun t37 h3 =>
  (nilV x1).bind fun t39 =>
  (faP 0 t39).bind fun t40 =>
  clC (rdC (fun g => ldS g t40) h3 0 1 []) fun t41 cs_4 =>
  (iaS 1 t41 q5).bind fun t43 =>
  clC (rdC (fun g => ldS g t43) h3 0 1 cs_4) fun t44 cs_5 =>
  (eqP (some (.int .i64)) none false .neq t37 t44).bind fun t45 =>
  (gV (gdW t45 false) (some x0) (.tup [])).bind fun t47 =>
  (gV (gdW t45 false) (some q5) (.tup [])).bind fun t48 =>
  gQ (gdW t45 false) h3 (cl (k_arena_Arena_Taken t47 t48 h3) fun t49 h6 =>
  some (t49, h6)) fun t49_7 h8 =>
  (gV (gdW t45 false) (some t33) (.tup [])).bind fun t50 =>
  (gV (gdW t45 false) (eqP (some (.int .u64)) none false .neq t49_7 t50) (.tup [])).bind fun t51 =>
  (pickP t45 (AV.bool true) t51).bind fun t52 =>
  (gV (gdW t52 false) (some x0) (.tup [])).bind fun t54 =>
  (gV (gdW t52 false) (some q5) (.tup [])).bind fun t55 =>
  gQ (gdW t52 false) h8 (cl (k_arena_Arena_Marked t54 t55 h8) fun t56 h9 =>
  some (t56, h9)) fun t56_10 h11 =>
  (gV (gdW t52 false) (some t34) (.tup [])).bind fun t57 =>
  (gV (gdW t52 false) (eqP (some (.int .u64)) none false .neq t56_10 t57) (.tup [])).bind fun t58 =>
  (pickP t52 (AV.bool true) t58).bind fun t59 =>
  chk [h2, h3, h8, h11] cs_5 (
  condE t59 (
  some (.ret, [(AV.bool false), q5], h11)) (
  (binP .add q5 (AV.int .i64 1)).bind fun t28 =>
  some (.normal, [q4, t28], h11)))) (
  some ((.exit 0), [q4, q5], h1))
def k_law4_alike_L0 (x0 : AV) (x1 : AV) (q4 : AV) (q5 : AV) (h1 : Heap) : OutV := loopN (fun us g => k_law4_alike_b0 x0 x1 (us.getD 0 .bot) (us.getD 1 .bot) g) [q4, q5] h1
def k_law4_alike_b1 (x0 : AV) (x1 : AV) (q8 : AV) (q4_15 : AV) (q9 : AV) (h16 : Heap) : OutV :=
  (nilV x1).bind fun t71 =>
  (faP 1 t71).bind fun t72 =>
  (ldS h16 t72).bind fun t73 =>
  (iaS 3 t73 q8).bind fun t75 =>
  (faP 1 t75).bind fun t76 =>
  (ldS h16 t76).bind fun t77 =>
  (lnL t77).bind fun t78 =>
  (binP .lss q9 t78).bind fun t79 =>
  condE t79 (
  (nilV x1).bind fun t85 =>
  (faP 1 t85).bind fun t86 =>
  (ldS h16 t86).bind fun t87 =>
  (iaS 3 t87 q8).bind fun t89 =>
  (faP 0 t89).bind fun t90 =>
  (ldS h16 t90).bind fun t91 =>
  cl (k_arena_Arena_Read x0 t91 q9 h16) fun t93 h17 =>
  (extractV 0 t93).bind fun t94 =>
  (extractV 1 t93).bind fun t95 =>
  (eqP (some (.int .i64)) none false .neq t95 (AV.int .i64 0)).bind fun t97 =>
  gQ (gdW t97 false) h17 (some (t94, h17)) fun t99 h18 =>
  gQ (gdW t97 false) h18 (some (x1, h18)) fun t100 h19 =>
  gQ (gdW t97 false) h19 ((nilV t100).bind fun t101 =>
  some (t101, h19)) fun t101_20 h21 =>
  gQ (gdW t97 false) h21 ((faP 1 t101_20).bind fun t102 =>
  some (t102, h21)) fun t102_22 h23 =>
  gQ (gdW t97 false) h23 ((ldS h23 t102_22).bind fun t103 =>
  some (t103, h23)) fun t103_24 h25 =>
  gQ (gdW t97 false) h25 (some (q8, h25)) fun t104 h26 =>
  gQ (gdW t97 false) h26 ((iaS 3 t103_24 t104).bind fun t105 =>
  some (t105, h26)) fun t105_27 h28 =>
  gQ (gdW t97 false) h28 ((faP 1 t105_27).bind fun t106 =>
  some (t106, h28)) fun t106_29 h30 =>
  gQ (gdW t97 false) h30 ((ldS h30 t106_29).bind fun t107 =>
  some (t107, h30)) fun t107_31 h32 =>
  gQ (gdW t97 false) h32 (some (q9, h32)) fun t108 h33 =>
  gQ (gdW t97 false) h33 ((iaS 1 t107_31 t108).bind fun t109 =>
  some (t109, h33)) fun t109_34 h35 =>
  gQ (gdW t97 false) h35 ((ldS h35 t109_34).bind fun t110 =>
  some (t110, h35)) fun t110_36 h37 =>
  gQ (gdW t97 false) h37 ((eqP (some (.int .i64)) none false .neq t99 t110_36).bind fun t111 =>
  some (t111, h37)) fun t111_38 h39 =>
  (pickP t97 (AV.bool true) t111_38).bind fun t112 =>
  gQ (gdW t112 false) h39 (some (x0, h39)) fun t114 h40 =>
  gQ (gdW t112 false) h40 (some (x1, h40)) fun t115 h41 =>
  gQ (gdW t112 false) h41 ((nilV t115).bind fun t116 =>
  some (t116, h41)) fun t116_42 h43 =>
  gQ (gdW t112 false) h43 ((faP 1 t116_42).bind fun t117 =>
  some (t117, h43)) fun t117_44 h45 =>
  gQ (gdW t112 false) h45 ((ldS h45 t117_44).bind fun t118 =>
  some (t118, h45)) fun t118_46 h47 =>
  gQ (gdW t112 false) h47 (some (q8, h47)) fun t119 h48 =>
  gQ (gdW t112 false) h48 ((iaS 3 t118_46 t119).bind fun t120 =>
  some (t120, h48)) fun t120_49 h50 =>
  gQ (gdW t112 false) h50 ((faP 0 t120_49).bind fun t121 =>
  some (t121, h50)) fun t121_51 h52 =>
  gQ (gdW t112 false) h52 ((ldS h52 t121_51).bind fun t122 =>
  some (t122, h52)) fun t122_53 h54 =>
  gQ (gdW t112 false) h54 (cl (k_arena_Arena_Is t114 t122_53 h54) fun t123 h55 =>
  some (t123, h55)) fun t123_56 h57 =>
  gQ (gdW t112 false) h57 ((unA .not t123_56).bind fun t124 =>
  some (t124, h57)) fun t124_58 h59 =>
  (pickP t112 (AV.bool true) t124_58).bind fun t125 =>
  condE t125 (
  some (.ret, [(AV.bool false), q9], h59)) (
  (binP .add q9 (AV.int .i64 1)).bind fun t81 =>
  some (.normal, [q4_15, t81], h59))) (
  some ((.exit 4), [q4_15, q9], h16))
def k_law4_alike_L1 (x0 : AV) (x1 : AV) (q8 : AV) (q4_15 : AV) (q9 : AV) (h16 : Heap) : OutV := loopN (fun us g => k_law4_alike_b1 x0 x1 q8 (us.getD 0 .bot) (us.getD 1 .bot) g) [q4_15, q9] h16
def k_law4_alike_b2 (x0 : AV) (x1 : AV) (q4_13 : AV) (q8 : AV) (h14 : Heap) : OutV :=
  (nilV x1).bind fun t62 =>
  (faP 1 t62).bind fun t63 =>
  (ldS h14 t63).bind fun t64 =>
  (lnL t64).bind fun t65 =>
  (binP .lss q8 t65).bind fun t66 =>
  condE t66 (
  lp (k_law4_alike_L1 x0 x1 q8 q4_13 (AV.int .i64 0) h14) fun e_60 vs_61 h62 =>
  thenK (if (if e_60 = .exit 4 then .normal else e_60) = .exit 3 then .normal else (if e_60 = .exit 4 then .normal else e_60)) (
  (binP .add q8 (AV.int .i64 1)).bind fun t68 =>
  some (.normal, [(vs_61.getD 0 .bot), t68], h62)) (fun e_63 => some (e_63, [(vs_61.getD 0 .bot), q8], h62))) (
  some ((.exit 2), [q4_13, q8], h14))
def k_law4_alike_L2 (x0 : AV) (x1 : AV) (q4_13 : AV) (q8 : AV) (h14 : Heap) : OutV := loopN (fun us g => k_law4_alike_b2 x0 x1 (us.getD 0 .bot) (us.getD 1 .bot) g) [q4_13, q8] h14
def k_law4_alike (x0 : AV) (x1 : AV) (h : Heap) : Option (AV × Heap) :=
  cl (k_arena_Arena_Spans x0 h) fun t13 h0 =>
  (nilV x1).bind fun t15 =>
  (faP 0 t15).bind fun t16 =>
  clC (rdC (fun g => ldS g t16) h0 0 1 []) fun t17 cs =>
  (lnL t17).bind fun t18 =>
  (eqP (some (.int .i64)) none false .neq t13 t18).bind fun t19 =>
  chk [h, h0] cs (
  condE t19 (
  some ((AV.bool false), h0)) (
  lp (k_law4_alike_L0 x0 x1 (AV.bool false) (AV.int .i64 0) h0) fun e vs h12 =>
  thenK (if e = .exit 0 then .normal else e) (
  lp (k_law4_alike_L2 x0 x1 (vs.getD 0 .bot) (AV.int .i64 0) h12) fun e_64 vs_65 h66 =>
  thenK (if e_64 = .exit 2 then .normal else e_64) (
  some ((AV.bool true), h66)) (fun e_67 => endE e_67 (some ((vs_65.getD 0 .bot), h66)))) (fun e_68 => endE e_68 (some ((vs.getD 0 .bot), h12)))))
def T42 : Tab := (28, p2 k_law4_alike) :: T41
/- 4: gantline/gantlinelaw4.ArenaPlays -/
def k_law4_ArenaPlays_j0 (q8 : AV) (q4_78 : AV) (h264 : Heap) : OutV :=
  (binP .add q8 (AV.int .i64 1)).bind fun t68_265 =>
  some (.normal, [q4_78, t68_265], h264)
def k_law4_ArenaPlays_j1 (q4 : AV) (q8 : AV) (t188 : AV) (q12_507 : AV) (h526 : Heap) : OutV :=
  (eqP (some (.int .i64)) none false .neq t188 q12_507).bind fun t221 =>
  condE t221 (
  some (.ret, [(AV.bool false), q8], h526)) (
  k_law4_ArenaPlays_j0 q8 q4 h526)
def k_law4_ArenaPlays_j2 (t26 : AV) (q4 : AV) (q8 : AV) (t9 : AV) (q16_1123 : AV) (h1124 : Heap) : OutV :=
  (faP 1 t9).bind fun t297 =>
  (ldS h1124 t297).bind fun t298 =>
  cl (k_arena_Arena_Sweep t26 t298 h1124) fun t299 h1125 =>
  (eqP (some (.int .i64)) none false .neq t299 q16_1123).bind fun t301 =>
  condE t301 (
  some (.ret, [(AV.bool false), q8], h1125)) (
  k_law4_ArenaPlays_j0 q8 q4 h1125)
def k_law4_ArenaPlays_b0 (x0 : AV) (x1 : AV) (t26 : AV) (t62 : AV) (q4 : AV) (q8 : AV) (h23 : Heap) : OutV :=
  (lnL x1).bind fun t65 =>
  (binP .lss q8 t65).bind fun t66 =>
  condE t66 (
  (iaS 6 x1 q8).bind fun t71 =>
  (ldA 6 h23 t71).bind fun t72 =>
  mk Heap.new (some (Blk.cells true [(AV.int .i64 0), (AV.int .i64 0), (AV.int .i64 0), (AV.int .i64 0), (AV.int .i64 0), (AV.int .i64 0)], fun i => AV.ptr (some (i, 0)))) h23 fun t9 h26 =>
  cl (stP 6 h26 t9 t72) fun u h27 =>
  (faP 1 t9).bind fun t73 =>
  (ldS h27 t73).bind fun t74 =>
  (binP .geq t74 (AV.int .i64 1)).bind fun t75 =>
  gQ (gdW t75 true) h27 ((faP 1 t9).bind fun t77 =>
  some (t77, h27)) fun t77_28 h29 =>
  gQ (gdW t75 true) h29 ((ldS h29 t77_28).bind fun t78 =>
  some (t78, h29)) fun t78_30 h31 =>
  gQ (gdW t75 true) h31 (some (x0, h31)) fun t79 h32 =>
  gQ (gdW t75 true) h32 ((binP .lss t78_30 t79).bind fun t80 =>
  some (t80, h32)) fun t80_33 h34 =>
  (pickP t75 t80_33 (AV.bool false)).bind fun t81 =>
  (faP 0 t9).bind fun t82 =>
  (ldS h34 t82).bind fun t83 =>
  (eqP (some (.int .i64)) none false .eql t83 (AV.int .i64 0)).bind fun t182 =>
  condE t182 (
  (faP 1 t9).bind fun t184 =>
  (ldS h34 t184).bind fun t185 =>
  (faP 2 t9).bind fun t186 =>
  (ldS h34 t186).bind fun t187 =>
  cl (k_arena_Arena_Set t26 t185 t187 h34) fun t188 h494 =>
  (unA .not t81).bind fun t190 =>
  gQ (gdW t190 false) h494 ((faP 2 t9).bind fun t192 =>
  some (t192, h494)) fun t192_495 h496 =>
  gQ (gdW t190 false) h496 ((ldS h496 t192_495).bind fun t193 =>
  some (t193, h496)) fun t193_497 h498 =>
  gQ (gdW t190 false) h498 ((binP .lss t193_497 (AV.int .i64 0)).bind fun t194 =>
  some (t194, h498)) fun t194_499 h500 =>
  (pickP t190 (AV.bool true) t194_499).bind fun t195 =>
  gQ (gdW t195 false) h500 ((faP 2 t9).bind fun t197 =>
  some (t197, h500)) fun t197_501 h502 =>
  gQ (gdW t195 false) h502 ((ldS h502 t197_501).bind fun t198 =>
  some (t198, h502)) fun t198_503 h504 =>
  gQ (gdW t195 false) h504 ((binP .gtr t198_503 (AV.int .i64 5)).bind fun t199 =>
  some (t199, h504)) fun t199_505 h506 =>
  (pickP t195 (AV.bool true) t199_505).bind fun t200 =>
  condE t200 (
  k_law4_ArenaPlays_j1 q4 q8 t188 (AV.int .i64 1) h506) (
  (nilV t62).bind fun t202 =>
  (faP 0 t202).bind fun t203 =>
  (ldS h506 t203).bind fun t204 =>
  (faP 1 t9).bind fun t205 =>
  (ldS h506 t205).bind fun t206 =>
  (iaS 1 t204 t206).bind fun t207 =>
  (ldS h506 t207).bind fun t208 =>
  (binP .geq t208 (AV.int .i64 0)).bind fun t209 =>
  chk [h506] [] (
  condE t209 (
  k_law4_ArenaPlays_j1 q4 q8 t188 (AV.int .i64 5) h506) (
  (nilV t62).bind fun t211 =>
  (faP 0 t211).bind fun t212 =>
  (ldS h506 t212).bind fun t213 =>
  (faP 1 t9).bind fun t214 =>
  (ldS h506 t214).bind fun t215 =>
  (faP 2 t9).bind fun t216 =>
  (ldS h506 t216).bind fun t217 =>
  (iaS 1 t213 t215).bind fun t218 =>
  cl (stP 1 h506 t218 t217) fun u_538 h539 =>
  chk [h506, h539] [] (
  k_law4_ArenaPlays_j1 q4 q8 t188 (AV.int .i64 0) h539))))) (
  (eqP (some (.int .i64)) none false .eql t83 (AV.int .i64 1)).bind fun t223 =>
  condE t223 (
  (faP 1 t9).bind fun t226 =>
  (ldS h34 t226).bind fun t227 =>
  cl (k_arena_Arena_Take t26 t227 h34) fun t228 h725 =>
  (extractV 0 t228).bind fun t229 =>
  (extractV 1 t228).bind fun t230 =>
  (unA .not t81).bind fun t232 =>
  (gV (gdW t232 false) (some t62) (.tup [])).bind fun t234 =>
  (gV (gdW t232 false) (nilV t234) (.tup [])).bind fun t235 =>
  (gV (gdW t232 false) (faP 0 t235) (.tup [])).bind fun t236 =>
  (gV (gdW t232 false) (ldS h725 t236) (.tup [])).bind fun t237 =>
  (gV (gdW t232 false) (faP 1 t9) (.tup [])).bind fun t238 =>
  (gV (gdW t232 false) (ldS h725 t238) (.tup [])).bind fun t239 =>
  (gV (gdW t232 false) (iaS 1 t237 t239) (.tup [])).bind fun t240 =>
  (gV (gdW t232 false) (ldS h725 t240) (.tup [])).bind fun t241 =>
  (gV (gdW t232 false) (binP .lss t241 (AV.int .i64 0)) (.tup [])).bind fun t242 =>
  (pickP t232 (AV.bool true) t242).bind fun t243 =>
  chk [h725] [] (
  condE t243 (
  (eqP (some (.int .i64)) none false .neq t230 (AV.int .i64 4)).bind fun t245 =>
  gQ (gdW t245 false) h725 (some (t229, h725)) fun t247 h726 =>
  gQ (gdW t245 false) h726 ((eqP (some (.int .i64)) none false .neq t247 (AV.int .i64 0)).bind fun t248 =>
  some (t248, h726)) fun t248_727 h728 =>
  (pickP t245 (AV.bool true) t248_727).bind fun t249 =>
  condE t249 (
  some (.ret, [(AV.bool false), q8], h728)) (
  k_law4_ArenaPlays_j0 q8 q4 h728)) (
  (faP 1 t9).bind fun t251 =>
  (ldS h725 t251).bind fun t252 =>
  cl (k_ref4_Arena_Take t62 t252 h725) fun t253 h729 =>
  (eqP (some (.int .i64)) none false .neq t229 t253).bind fun t256 =>
  gQ (gdW t256 false) h729 (some (t230, h729)) fun t258 h730 =>
  gQ (gdW t256 false) h730 ((eqP (some (.int .i64)) none false .eql t258 (AV.int .i64 0)).bind fun t259 =>
  some (t259, h730)) fun t259_731 h732 =>
  gQ (gdW t256 false) h732 (some (t253, h732)) fun t260 h733 =>
  gQ (gdW t256 false) h733 ((eqP (some (.int .i64)) none false .neq t260 (AV.int .i64 0)).bind fun t261 =>
  some (t261, h733)) fun t261_734 h735 =>
  gQ (gdW t256 false) h735 ((eqP (some .bool) none false .neq t259_731 t261_734).bind fun t262 =>
  some (t262, h735)) fun t262_736 h737 =>
  (pickP t256 (AV.bool true) t262_736).bind fun t263 =>
  gQ (gdW t263 false) h737 (some (t253, h737)) fun t265 h738 =>
  gQ (gdW t263 false) h738 ((eqP (some (.int .i64)) none false .eql t265 (AV.int .i64 0)).bind fun t266 =>
  some (t266, h738)) fun t266_739 h740 =>
  gQ (gdW t263 false) h740 (some (t266_739, h740)) fun t267 h741 =>
  gQ (gdW t267 true) h741 (some (t230, h741)) fun t268 h742 =>
  gQ (gdW t267 true) h742 ((eqP (some (.int .i64)) none false .neq t268 (AV.int .i64 5)).bind fun t269 =>
  some (t269, h742)) fun t269_743 h744 =>
  gQ (gdW t263 false) h744 ((pickP t267 t269_743 (AV.bool false)).bind fun t270 =>
  some (t270, h744)) fun t270_745 h746 =>
  (pickP t263 (AV.bool true) t270_745).bind fun t271 =>
  condE t271 (
  some (.ret, [(AV.bool false), q8], h746)) (
  k_law4_ArenaPlays_j0 q8 q4 h746)))) (
  (eqP (some (.int .i64)) none false .eql t83 (AV.int .i64 2)).bind fun t273 =>
  condE t273 (
  (faP 4 t9).bind fun t275 =>
  (ldS h34 t275).bind fun t276 =>
  cl (k_arena_Arena_Mark t26 t276 h34) fun t277 h879 =>
  (faP 4 t9).bind fun t279 =>
  clC (rdC (fun g => ldS g t279) h879 0 1 []) fun t280 cs =>
  cl (k_ref4_Arena_Mark t62 t280 h879) fun t281 h880 =>
  (eqP (some .bool) none false .neq t277 t281).bind fun t282 =>
  chk [h34, h879, h880] cs (
  condE t282 (
  some (.ret, [(AV.bool false), q8], h880)) (
  k_law4_ArenaPlays_j0 q8 q4 h880))) (
  (eqP (some (.int .i64)) none false .eql t83 (AV.int .i64 3)).bind fun t284 =>
  condE t284 (
  cl (k_arena_Arena_Clear t26 h34) fun t286 h1002 =>
  cl (k_ref4_Arena_Clear t62 h1002) fun t288 h1003 =>
  k_law4_ArenaPlays_j0 q8 q4 h1003) (
  (eqP (some (.int .i64)) none false .eql t83 (AV.int .i64 4)).bind fun t290 =>
  condE t290 (
  condE t81 (
  (faP 1 t9).bind fun t293 =>
  (ldS h34 t293).bind fun t294 =>
  cl (k_ref4_Arena_Sweep t62 t294 h34) fun t295 h1126 =>
  k_law4_ArenaPlays_j2 t26 q4 q8 t9 t295 h1126) (
  k_law4_ArenaPlays_j2 t26 q4 q8 t9 (AV.int .i64 0) h34)) (
  (faP 4 t9).bind fun t85 =>
  (ldS h34 t85).bind fun t86 =>
  cl (k_ref4_Arena_Find t62 t86 h34) fun t87 h1127 =>
  (binP .geq t87 (AV.int .i64 0)).bind fun t89 =>
  (gV (gdW t89 true) (faP 3 t9) (.tup [])).bind fun t91 =>
  (gV (gdW t89 true) (ldS h1127 t91) (.tup [])).bind fun t92 =>
  (gV (gdW t89 true) (binP .geq t92 (AV.int .i64 0)) (.tup [])).bind fun t93 =>
  (pickP t89 t93 (AV.bool false)).bind fun t94 =>
  (gV (gdW t94 true) (faP 3 t9) (.tup [])).bind fun t96 =>
  (gV (gdW t94 true) (ldS h1127 t96) (.tup [])).bind fun t97 =>
  (gV (gdW t94 true) (some t62) (.tup [])).bind fun t98 =>
  (gV (gdW t94 true) (nilV t98) (.tup [])).bind fun t99 =>
  (gV (gdW t94 true) (faP 1 t99) (.tup [])).bind fun t100 =>
  (gV (gdW t94 true) (ldS h1127 t100) (.tup [])).bind fun t101 =>
  (gV (gdW t94 true) (some t87) (.tup [])).bind fun t102 =>
  (gV (gdW t94 true) (iaS 3 t101 t102) (.tup [])).bind fun t103 =>
  (gV (gdW t94 true) (faP 1 t103) (.tup [])).bind fun t104 =>
  (gV (gdW t94 true) (ldS h1127 t104) (.tup [])).bind fun t105 =>
  (gV (gdW t94 true) (lnL t105) (.tup [])).bind fun t106 =>
  (gV (gdW t94 true) (binP .lss t97 t106) (.tup [])).bind fun t107 =>
  (pickP t94 t107 (AV.bool false)).bind fun t108 =>
  chk [h1127] [] (
  (faP 0 t9).bind fun t109 =>
  (ldS h1127 t109).bind fun t110 =>
  (eqP (some (.int .i64)) none false .eql t110 (AV.int .i64 5)).bind fun t111 =>
  condE t111 (
  (faP 4 t9).bind fun t113 =>
  (ldS h1127 t113).bind fun t114 =>
  (faP 3 t9).bind fun t115 =>
  (ldS h1127 t115).bind fun t116 =>
  (faP 5 t9).bind fun t117 =>
  (ldS h1127 t117).bind fun t118 =>
  cl (k_arena_Arena_Write t26 t114 t116 t118 h1127) fun t119 h1128 =>
  (eqP (some (.int .i64)) none false .eql t119 (AV.int .i64 0)).bind fun t120 =>
  (eqP (some .bool) none false .neq t120 t108).bind fun t122 =>
  condE t122 (
  some (.ret, [(AV.bool false), q8], h1128)) (
  condE t108 (
  (nilV t62).bind fun t125 =>
  (faP 1 t125).bind fun t126 =>
  (ldS h1128 t126).bind fun t127 =>
  (iaS 3 t127 t87).bind fun t129 =>
  (faP 1 t129).bind fun t130 =>
  (ldS h1128 t130).bind fun t131 =>
  (faP 3 t9).bind fun t132 =>
  (ldS h1128 t132).bind fun t133 =>
  (faP 5 t9).bind fun t134 =>
  (ldS h1128 t134).bind fun t135 =>
  (iaS 1 t131 t133).bind fun t136 =>
  cl (stP 1 h1128 t136 t135) fun u_1143 h1144 =>
  chk [h1128, h1144] [] (
  k_law4_ArenaPlays_j0 q8 q4 h1144)) (
  k_law4_ArenaPlays_j0 q8 q4 h1128))) (
  (faP 4 t9).bind fun t139 =>
  (ldS h1127 t139).bind fun t140 =>
  (faP 3 t9).bind fun t141 =>
  (ldS h1127 t141).bind fun t142 =>
  cl (k_arena_Arena_Read t26 t140 t142 h1127) fun t143 h1145 =>
  (extractV 0 t143).bind fun t144 =>
  (extractV 1 t143).bind fun t145 =>
  (eqP (some (.int .i64)) none false .eql t145 (AV.int .i64 0)).bind fun t147 =>
  (eqP (some .bool) none false .neq t147 t108).bind fun t149 =>
  (gV (gdW t149 false) (some t108) (.tup [])).bind fun t151 =>
  (gV (gdW t149 false) (unA .not t151) (.tup [])).bind fun t152 =>
  (gV (gdW t149 false) (some t152) (.tup [])).bind fun t153 =>
  (gV (gdW t153 true) (some t145) (.tup [])).bind fun t154 =>
  (gV (gdW t153 true) (eqP (some (.int .i64)) none false .neq t154 (AV.int .i64 1)) (.tup [])).bind fun t155 =>
  (gV (gdW t153 true) (some t155) (.tup [])).bind fun t156 =>
  (gV (gdW t156 false) (some t144) (.tup [])).bind fun t157 =>
  (gV (gdW t156 false) (eqP (some (.int .i64)) none false .neq t157 (AV.int .i64 0)) (.tup [])).bind fun t158 =>
  (gV (gdW t153 true) (pickP t156 (AV.bool true) t158) (.tup [])).bind fun t159 =>
  (gV (gdW t149 false) (pickP t153 t159 (AV.bool false)) (.tup [])).bind fun t160 =>
  (pickP t149 (AV.bool true) t160).bind fun t161 =>
  (gV (gdW t161 false) (some t108) (.tup [])).bind fun t163 =>
  (gV (gdW t161 false) (some t163) (.tup [])).bind fun t164 =>
  (gV (gdW t164 true) (some t144) (.tup [])).bind fun t165 =>
  (gV (gdW t164 true) (some t62) (.tup [])).bind fun t166 =>
  (gV (gdW t164 true) (nilV t166) (.tup [])).bind fun t167 =>
  (gV (gdW t164 true) (faP 1 t167) (.tup [])).bind fun t168 =>
  (gV (gdW t164 true) (ldS h1145 t168) (.tup [])).bind fun t169 =>
  (gV (gdW t164 true) (some t87) (.tup [])).bind fun t170 =>
  (gV (gdW t164 true) (iaS 3 t169 t170) (.tup [])).bind fun t171 =>
  (gV (gdW t164 true) (faP 1 t171) (.tup [])).bind fun t172 =>
  (gV (gdW t164 true) (ldS h1145 t172) (.tup [])).bind fun t173 =>
  (gV (gdW t164 true) (faP 3 t9) (.tup [])).bind fun t174 =>
  (gV (gdW t164 true) (ldS h1145 t174) (.tup [])).bind fun t175 =>
  (gV (gdW t164 true) (iaS 1 t173 t175) (.tup [])).bind fun t176 =>
  (gV (gdW t164 true) (ldS h1145 t176) (.tup [])).bind fun t177 =>
  (gV (gdW t164 true) (eqP (some (.int .i64)) none false .neq t165 t177) (.tup [])).bind fun t178 =>
  (gV (gdW t161 false) (pickP t164 t178 (AV.bool false)) (.tup [])).bind fun t179 =>
  (pickP t161 (AV.bool true) t179).bind fun t180 =>
  chk [h1145] [] (
  condE t180 (
  some (.ret, [(AV.bool false), q8], h1145)) (
  k_law4_ArenaPlays_j0 q8 q4 h1145)))))))))) (
  some ((.exit 0), [q4, q8], h23))
def k_law4_ArenaPlays_L0 (x0 : AV) (x1 : AV) (t26 : AV) (t62 : AV) (q4 : AV) (q8 : AV) (h23 : Heap) : OutV := loopN (fun us g => k_law4_ArenaPlays_b0 x0 x1 t26 t62 (us.getD 0 .bot) (us.getD 1 .bot) g) [q4, q8] h23
def k_law4_ArenaPlays (x0 : AV) (x1 : AV) (h : Heap) : Option (AV × Heap) :=
  cl (k_law4_awake h) fun t21 h0 =>
  (unA .not t21).bind fun t22 =>
  condE t22 (
  some ((AV.bool false), h0)) (
  cl (k_arena_New x0 h0) fun t25 h1 =>
  (extractV 0 t25).bind fun t26 =>
  (extractV 1 t25).bind fun t27 =>
  (binP .lss x0 (AV.int .i64 8)).bind fun t29 =>
  gQ (gdW t29 false) h1 (some (x0, h1)) fun t31 h2 =>
  gQ (gdW t29 false) h2 ((binP .gtr t31 (AV.int .i64 512)).bind fun t32 =>
  some (t32, h2)) fun t32_3 h4 =>
  (pickP t29 (AV.bool true) t32_3).bind fun t33 =>
  condE t33 (
  (eqP (some (.int .i64)) none false .eql t27 (AV.int .i64 1)).bind fun t35 =>
  gQ (gdW t35 true) h4 (some (t26, h4)) fun t37 h5 =>
  gQ (gdW t35 true) h5 ((eqP (some (.pointer 0)) none false .eql t37 (AV.ptr none)).bind fun t38 =>
  some (t38, h5)) fun t38_6 h7 =>
  (pickP t35 t38_6 (AV.bool false)).bind fun t39 =>
  some (t39, h7)) (
  (eqP (some (.int .i64)) none false .neq t27 (AV.int .i64 0)).bind fun t41 =>
  gQ (gdW t41 false) h4 (some (t26, h4)) fun t43 h8 =>
  gQ (gdW t41 false) h8 ((eqP (some (.pointer 0)) none false .eql t43 (AV.ptr none)).bind fun t44 =>
  some (t44, h8)) fun t44_9 h10 =>
  (pickP t41 (AV.bool true) t44_9).bind fun t45 =>
  gQ (gdW t45 false) h10 (some (x1, h10)) fun t47 h11 =>
  gQ (gdW t45 false) h11 ((lnL t47).bind fun t48 =>
  some (t48, h11)) fun t48_12 h13 =>
  gQ (gdW t45 false) h13 ((binP .gtr t48_12 (AV.int .i64 80)).bind fun t49 =>
  some (t49, h13)) fun t49_14 h15 =>
  (pickP t45 (AV.bool true) t49_14).bind fun t50 =>
  gQ (gdW t50 false) h15 (some (x0, h15)) fun t52 h16 =>
  gQ (gdW t50 false) h16 ((binP .gtr t52 (AV.int .i64 20)).bind fun t53 =>
  some (t53, h16)) fun t53_17 h18 =>
  (pickP t50 (AV.bool true) t53_17).bind fun t54 =>
  condE t54 (
  (eqP (some (.int .i64)) none false .eql t27 (AV.int .i64 0)).bind fun t56 =>
  gQ (gdW t56 true) h18 (some (t26, h18)) fun t58 h19 =>
  gQ (gdW t56 true) h19 ((eqP (some (.pointer 0)) none false .neq t58 (AV.ptr none)).bind fun t59 =>
  some (t59, h19)) fun t59_20 h21 =>
  (pickP t56 t59_20 (AV.bool false)).bind fun t60 =>
  some (t60, h21)) (
  cl (k_ref4_NewArena x0 h18) fun t62 h22 =>
  lp (k_law4_ArenaPlays_L0 x0 x1 t26 t62 (AV.bool false) (AV.int .i64 0) h22) fun e vs h1146 =>
  thenK (if e = .exit 0 then .normal else e) (
  cl (k_law4_alike t26 t62 h1146) fun t304 h1147 =>
  some (t304, h1147)) (fun e_1148 => endE e_1148 (some ((vs.getD 0 .bot), h1146))))))
def T43 : Tab := (4, p2 k_law4_ArenaPlays) :: T42
/- 5: gantline/gantlinelaw4.ArenaApart -/
def k_law4_ArenaApart_j0 (q9 : AV) (q4_3 : AV) (q7_4 : AV) (q8_5 : AV) (h6 : Heap) : OutV :=
  (binP .add q9 (AV.int .i64 1)).bind fun t38 =>
  some (.normal, [q4_3, q7_4, q8_5, t38], h6)
def k_law4_ArenaApart_b0 (x1 : AV) (t29 : AV) (q7 : AV) (t65 : AV) (t72 : AV) (q4_14 : AV) (q15_15 : AV) (h16 : Heap) : OutV :=
  (binP .lss q15_15 t72).bind fun t75 =>
  condE t75 (
  cl (k_arena_Arena_Read t29 t65 q15_15 h16) fun t82 h17 =>
  (extractV 0 t82).bind fun t83 =>
  (extractV 1 t82).bind fun t84 =>
  (eqP (some (.int .i64)) none false .neq t84 (AV.int .i64 0)).bind fun t86 =>
  gQ (gdW t86 false) h17 (some (t83, h17)) fun t88 h18 =>
  gQ (gdW t86 false) h18 ((eqP (some (.int .i64)) none false .neq t88 (AV.int .i64 0)).bind fun t89 =>
  some (t89, h18)) fun t89_19 h20 =>
  (pickP t86 (AV.bool true) t89_19).bind fun t90 =>
  gQ (gdW t90 false) h20 (some (t29, h20)) fun t92 h21 =>
  gQ (gdW t90 false) h21 (some (t65, h21)) fun t93 h22 =>
  gQ (gdW t90 false) h22 (some (q15_15, h22)) fun t94 h23 =>
  gQ (gdW t90 false) h23 (some (q7, h23)) fun t95 h24 =>
  gQ (gdW t90 false) h24 ((lnL t95).bind fun t96 =>
  some (t96, h24)) fun t96_25 h26 =>
  gQ (gdW t90 false) h26 (some (x1, h26)) fun t97 h27 =>
  gQ (gdW t90 false) h27 ((binP .xor t96_25 t97).bind fun t98 =>
  some (t98, h27)) fun t98_28 h29 =>
  gQ (gdW t90 false) h29 (cl (k_arena_Arena_Write t92 t93 t94 t98_28 h29) fun t99 h30 =>
  some (t99, h30)) fun t99_31 h32 =>
  gQ (gdW t90 false) h32 ((eqP (some (.int .i64)) none false .neq t99_31 (AV.int .i64 0)).bind fun t100 =>
  some (t100, h32)) fun t100_33 h34 =>
  (pickP t90 (AV.bool true) t100_33).bind fun t101 =>
  condE t101 (
  some (.ret, [(AV.bool false), q15_15], h34)) (
  (binP .add q15_15 (AV.int .i64 1)).bind fun t77 =>
  some (.normal, [q4_14, t77], h34))) (
  some ((.exit 2), [q4_14, q15_15], h16))
def k_law4_ArenaApart_L0 (x1 : AV) (t29 : AV) (q7 : AV) (t65 : AV) (t72 : AV) (q4_14 : AV) (q15_15 : AV) (h16 : Heap) : OutV := loopN (fun us g => k_law4_ArenaApart_b0 x1 t29 q7 t65 t72 (us.getD 0 .bot) (us.getD 1 .bot) g) [q4_14, q15_15] h16
def k_law4_ArenaApart_b1 (x0 : AV) (x1 : AV) (t29 : AV) (q4 : AV) (q7 : AV) (q8 : AV) (q9 : AV) (h2 : Heap) : OutV :=
  (lnL x0).bind fun t35 =>
  (binP .lss q9 t35).bind fun t36 =>
  condE t36 (
  (iaS 1 x0 q9).bind fun t41 =>
  (ldS h2 t41).bind fun t42 =>
  (binP .and t42 (AV.int .i64 7)).bind fun t43 =>
  (binP .add (AV.int .i64 1) t43).bind fun t44 =>
  (iaS 1 x0 q9).bind fun t47 =>
  (ldS h2 t47).bind fun t48 =>
  (binP .shr t48 (AV.int .u64 3)).bind fun t49 =>
  (binP .and t49 (AV.int .i64 7)).bind fun t50 =>
  (binP .gtr t44 (AV.int .i64 7)).bind fun t52 =>
  gQ (gdW t52 false) h2 (some (t50, h2)) fun t54 h7 =>
  gQ (gdW t52 false) h7 ((binP .gtr t54 (AV.int .i64 5)).bind fun t55 =>
  some (t55, h7)) fun t55_8 h9 =>
  (pickP t52 (AV.bool true) t55_8).bind fun t56 =>
  condE t56 (
  k_law4_ArenaApart_j0 q9 q4 q7 q8 h9) (
  cl (k_arena_Arena_Set t29 t44 t50 h9) fun t60 h10 =>
  cl (k_arena_Arena_Take t29 t44 h10) fun t64 h11 =>
  (extractV 0 t64).bind fun t65 =>
  (extractV 1 t64).bind fun t66 =>
  (eqP (some (.int .i64)) none false .neq t66 (AV.int .i64 0)).bind fun t68 =>
  condE t68 (
  k_law4_ArenaApart_j0 q9 q4 q7 q8 h11) (
  cl (k_arena_Arena_Class t29 t44 h11) fun t71 h12 =>
  cl (k_ref1_Words t71 h12) fun t72 h13 =>
  lp (k_law4_ArenaApart_L0 x1 t29 q7 t65 t72 q4 (AV.int .i64 0) h13) fun e vs h35 =>
  thenK (if e = .exit 2 then .normal else e) (
  mk Heap.new (bsP 1 [(AV.int .i64 0)] 1 [(0, t65)]) h35 fun t104 h36 =>
  cl (appendA h36 1 8 q7 t104) fun t105 h37 =>
  mk Heap.new (bsP 1 [(AV.int .i64 0)] 1 [(0, t72)]) h37 fun t108 h38 =>
  cl (appendA h38 1 8 q8 t108) fun t109 h39 =>
  k_law4_ArenaApart_j0 q9 (vs.getD 0 .bot) t105 t109 h39) (fun e_40 => thenK (if e_40 = .exit 1 then .normal else e_40) (
  (binP .add q9 (AV.int .i64 1)).bind fun t38_41 =>
  some (.normal, [(vs.getD 0 .bot), q7, q8, t38_41], h35)) (fun e_42 => some (e_42, [(vs.getD 0 .bot), q7, q8, q9], h35)))))) (
  some ((.exit 0), [q4, q7, q8, q9], h2))
def k_law4_ArenaApart_L1 (x0 : AV) (x1 : AV) (t29 : AV) (q4 : AV) (q7 : AV) (q8 : AV) (q9 : AV) (h2 : Heap) : OutV := loopN (fun us g => k_law4_ArenaApart_b1 x0 x1 t29 (us.getD 0 .bot) (us.getD 1 .bot) (us.getD 2 .bot) (us.getD 3 .bot) g) [q4, q7, q8, q9] h2
def k_law4_ArenaApart_b2 (x1 : AV) (t29 : AV) (vs_44 : List AV) (q18 : AV) (q4_48 : AV) (q19 : AV) (h49 : Heap) : OutV :=
  (iaS 1 (vs_44.getD 2 .bot) q18).bind fun t119 =>
  (ldS h49 t119).bind fun t120 =>
  (binP .lss q19 t120).bind fun t121 =>
  condE t121 (
  (iaS 1 (vs_44.getD 1 .bot) q18).bind fun t128 =>
  (ldS h49 t128).bind fun t129 =>
  cl (k_arena_Arena_Read t29 t129 q19 h49) fun t131 h50 =>
  (extractV 0 t131).bind fun t132 =>
  (extractV 1 t131).bind fun t133 =>
  (eqP (some (.int .i64)) none false .neq t133 (AV.int .i64 0)).bind fun t135 =>
  gQ (gdW t135 false) h50 (some (t132, h50)) fun t137 h51 =>
  gQ (gdW t135 false) h51 (some (q18, h51)) fun t138 h52 =>
  gQ (gdW t135 false) h52 (some (x1, h52)) fun t139 h53 =>
  gQ (gdW t135 false) h53 ((binP .xor t138 t139).bind fun t140 =>
  some (t140, h53)) fun t140_54 h55 =>
  gQ (gdW t135 false) h55 ((eqP (some (.int .i64)) none false .neq t137 t140_54).bind fun t141 =>
  some (t141, h55)) fun t141_56 h57 =>
  (pickP t135 (AV.bool true) t141_56).bind fun t142 =>
  condE t142 (
  some (.ret, [(AV.bool false), q19], h57)) (
  (binP .add q19 (AV.int .i64 1)).bind fun t123 =>
  some (.normal, [q4_48, t123], h57))) (
  some ((.exit 6), [q4_48, q19], h49))
def k_law4_ArenaApart_L2 (x1 : AV) (t29 : AV) (vs_44 : List AV) (q18 : AV) (q4_48 : AV) (q19 : AV) (h49 : Heap) : OutV := loopN (fun us g => k_law4_ArenaApart_b2 x1 t29 vs_44 q18 (us.getD 0 .bot) (us.getD 1 .bot) g) [q4_48, q19] h49
def k_law4_ArenaApart_b3 (x1 : AV) (t29 : AV) (vs_44 : List AV) (q4_46 : AV) (q18 : AV) (h47 : Heap) : OutV :=
  (lnL (vs_44.getD 1 .bot)).bind fun t112 =>
  (binP .lss q18 t112).bind fun t113 =>
  condE t113 (
  lp (k_law4_ArenaApart_L2 x1 t29 vs_44 q18 q4_46 (AV.int .i64 0) h47) fun e_58 vs_59 h60 =>
  thenK (if (if e_58 = .exit 6 then .normal else e_58) = .exit 5 then .normal else (if e_58 = .exit 6 then .normal else e_58)) (
  (binP .add q18 (AV.int .i64 1)).bind fun t115 =>
  some (.normal, [(vs_59.getD 0 .bot), t115], h60)) (fun e_61 => some (e_61, [(vs_59.getD 0 .bot), q18], h60))) (
  some ((.exit 4), [q4_46, q18], h47))
def k_law4_ArenaApart_L3 (x1 : AV) (t29 : AV) (vs_44 : List AV) (q4_46 : AV) (q18 : AV) (h47 : Heap) : OutV := loopN (fun us g => k_law4_ArenaApart_b3 x1 t29 vs_44 (us.getD 0 .bot) (us.getD 1 .bot) g) [q4_46, q18] h47
def k_law4_ArenaApart (x0 : AV) (x1 : AV) (h : Heap) : Option (AV × Heap) :=
  cl (k_law4_awake h) fun t22 h0 =>
  (unA .not t22).bind fun t23 =>
  condE t23 (
  some ((AV.bool false), h0)) (
  (lnL x0).bind fun t25 =>
  (binP .gtr t25 (AV.int .i64 100)).bind fun t26 =>
  condE t26 (
  some ((AV.bool true), h0)) (
  cl (k_arena_New (AV.int .i64 8) h0) fun t28 h1 =>
  (extractV 0 t28).bind fun t29 =>
  (extractV 1 t28).bind fun t30 =>
  (eqP (some (.int .i64)) none false .neq t30 (AV.int .i64 0)).bind fun t32 =>
  condE t32 (
  some ((AV.bool false), h1)) (
  lp (k_law4_ArenaApart_L1 x0 x1 t29 (AV.bool false) (AV.sl none 0 (.ex 0)) (AV.sl none 0 (.ex 0)) (AV.int .i64 0) h1) fun e_43 vs_44 h45 =>
  thenK (if e_43 = .exit 0 then .normal else e_43) (
  lp (k_law4_ArenaApart_L3 x1 t29 vs_44 (vs_44.getD 0 .bot) (AV.int .i64 0) h45) fun e_62 vs_63 h64 =>
  thenK (if e_62 = .exit 4 then .normal else e_62) (
  some ((AV.bool true), h64)) (fun e_65 => endE e_65 (some ((vs_63.getD 0 .bot), h64)))) (fun e_66 => endE e_66 (some ((vs_44.getD 0 .bot), h45))))))
def T44 : Tab := (5, p2 k_law4_ArenaApart) :: T43
/- 6: gantline/gantlinelaw4.ArenaSweeps -/
def k_law4_ArenaSweeps_j0 (q12 : AV) (q11_32 : AV) (h33 : Heap) : OutV :=
  (binP .add q12 (AV.int .i64 1)).bind fun t53_34 =>
  some (.normal, [q11_32, t53_34], h33)
def k_law4_ArenaSweeps_b0 (x1 : AV) (x3 : AV) (t39 : AV) (q11 : AV) (q12 : AV) (h18 : Heap) : OutV :=
  (binP .lss q12 x1).bind fun t51 =>
  condE t51 (
  cl (k_arena_Arena_Take t39 (AV.int .i64 1) h18) fun t56 h21 =>
  (extractV 0 t56).bind fun t57 =>
  (extractV 1 t56).bind fun t58 =>
  (eqP (some (.int .i64)) none false .eql t58 (AV.int .i64 0)).bind fun t60 =>
  condE t60 (
  (binP .xor x3 q12).bind fun t65 =>
  cl (k_arena_Arena_Write t39 t57 (AV.int .i64 0) t65 h21) fun t66 h35 =>
  mk Heap.new (bsP 1 [(AV.int .i64 0)] 1 [(0, t57)]) h35 fun t69 h36 =>
  cl (appendA h36 1 8 q11 t69) fun t70 h37 =>
  k_law4_ArenaSweeps_j0 q12 t70 h37) (
  k_law4_ArenaSweeps_j0 q12 q11 h21)) (
  some ((.exit 0), [q11, q12], h18))
def k_law4_ArenaSweeps_L0 (x1 : AV) (x3 : AV) (t39 : AV) (q11 : AV) (q12 : AV) (h18 : Heap) : OutV := loopN (fun us g => k_law4_ArenaSweeps_b0 x1 x3 t39 (us.getD 0 .bot) (us.getD 1 .bot) g) [q11, q12] h18
def k_law4_ArenaSweeps_j1 (q16 : AV) (q15_50 : AV) (h51 : Heap) : OutV :=
  (binP .add q16 (AV.int .i64 1)).bind fun t76_52 =>
  some (.normal, [q15_50, t76_52], h51)
def k_law4_ArenaSweeps_b1 (x2 : AV) (t39 : AV) (vs : List AV) (q15 : AV) (q16 : AV) (h39 : Heap) : OutV :=
  (lnL (vs.getD 0 .bot)).bind fun t73 =>
  (binP .lss q16 t73).bind fun t74 =>
  condE t74 (
  (cvI .u64 q16).bind fun t79 =>
  (binP .shr x2 t79).bind fun t80 =>
  (binP .and t80 (AV.int .u64 1)).bind fun t81 =>
  (eqP (some (.int .u64)) none false .eql t81 (AV.int .u64 1)).bind fun t82 =>
  condE t82 (
  (iaS 1 (vs.getD 0 .bot) q16).bind fun t86 =>
  (ldS h39 t86).bind fun t87 =>
  cl (k_arena_Arena_Mark t39 t87 h39) fun t88 h53 =>
  (binP .add q15 (AV.int .i64 1)).bind fun t90 =>
  k_law4_ArenaSweeps_j1 q16 t90 h53) (
  k_law4_ArenaSweeps_j1 q16 q15 h39)) (
  some ((.exit 2), [q15, q16], h39))
def k_law4_ArenaSweeps_L1 (x2 : AV) (t39 : AV) (vs : List AV) (q15 : AV) (q16 : AV) (h39 : Heap) : OutV := loopN (fun us g => k_law4_ArenaSweeps_b1 x2 t39 vs (us.getD 0 .bot) (us.getD 1 .bot) g) [q15, q16] h39
def k_law4_ArenaSweeps_b2 (x2 : AV) (x3 : AV) (t39 : AV) (vs : List AV) (q8 : AV) (q17 : AV) (h69 : Heap) : OutV :=
  (lnL (vs.getD 0 .bot)).bind fun t108 =>
  (binP .lss q17 t108).bind fun t109 =>
  condE t109 (
  (iaS 1 (vs.getD 0 .bot) q17).bind fun t116 =>
  (ldS h69 t116).bind fun t117 =>
  cl (k_arena_Arena_Read t39 t117 (AV.int .i64 0) h69) fun t118 h70 =>
  (extractV 0 t118).bind fun t119 =>
  (extractV 1 t118).bind fun t120 =>
  (eqP (some (.int .i64)) none false .eql t120 (AV.int .i64 0)).bind fun t122 =>
  (cvI .u64 q17).bind fun t125 =>
  (binP .shr x2 t125).bind fun t126 =>
  (binP .and t126 (AV.int .u64 1)).bind fun t127 =>
  (eqP (some (.int .u64)) none false .eql t127 (AV.int .u64 1)).bind fun t128 =>
  (eqP (some .bool) none false .neq t122 t128).bind fun t129 =>
  gQ (gdW t129 false) h70 (some (t120, h70)) fun t131 h71 =>
  gQ (gdW t129 false) h71 ((eqP (some (.int .i64)) none false .eql t131 (AV.int .i64 0)).bind fun t132 =>
  some (t132, h71)) fun t132_72 h73 =>
  gQ (gdW t129 false) h73 (some (t132_72, h73)) fun t133 h74 =>
  gQ (gdW t133 true) h74 (some (t119, h74)) fun t134 h75 =>
  gQ (gdW t133 true) h75 (some (x3, h75)) fun t135 h76 =>
  gQ (gdW t133 true) h76 (some (q17, h76)) fun t136 h77 =>
  gQ (gdW t133 true) h77 ((binP .xor t135 t136).bind fun t137 =>
  some (t137, h77)) fun t137_78 h79 =>
  gQ (gdW t133 true) h79 ((eqP (some (.int .i64)) none false .neq t134 t137_78).bind fun t138 =>
  some (t138, h79)) fun t138_80 h81 =>
  gQ (gdW t129 false) h81 ((pickP t133 t138_80 (AV.bool false)).bind fun t139 =>
  some (t139, h81)) fun t139_82 h83 =>
  (pickP t129 (AV.bool true) t139_82).bind fun t140 =>
  condE t140 (
  some (.ret, [(AV.bool false), q17], h83)) (
  (binP .add q17 (AV.int .i64 1)).bind fun t111 =>
  some (.normal, [q8, t111], h83))) (
  some ((.exit 4), [q8, q17], h69))
def k_law4_ArenaSweeps_L2 (x2 : AV) (x3 : AV) (t39 : AV) (vs : List AV) (q8 : AV) (q17 : AV) (h69 : Heap) : OutV := loopN (fun us g => k_law4_ArenaSweeps_b2 x2 x3 t39 vs (us.getD 0 .bot) (us.getD 1 .bot) g) [q8, q17] h69
def k_law4_ArenaSweeps (x0 : AV) (x1 : AV) (x2 : AV) (x3 : AV) (h : Heap) : Option (AV × Heap) :=
  cl (k_law4_awake h) fun t21 h0 =>
  (unA .not t21).bind fun t22 =>
  condE t22 (
  some ((AV.bool false), h0)) (
  (binP .lss x0 (AV.int .i64 0)).bind fun t24 =>
  gQ (gdW t24 false) h0 (some (x0, h0)) fun t26 h1 =>
  gQ (gdW t24 false) h1 ((binP .gtr t26 (AV.int .i64 5)).bind fun t27 =>
  some (t27, h1)) fun t27_2 h3 =>
  (pickP t24 (AV.bool true) t27_2).bind fun t28 =>
  gQ (gdW t28 false) h3 (some (x1, h3)) fun t30 h4 =>
  gQ (gdW t28 false) h4 ((binP .lss t30 (AV.int .i64 1)).bind fun t31 =>
  some (t31, h4)) fun t31_5 h6 =>
  (pickP t28 (AV.bool true) t31_5).bind fun t32 =>
  gQ (gdW t32 false) h6 (some (x1, h6)) fun t34 h7 =>
  gQ (gdW t32 false) h7 ((binP .gtr t34 (AV.int .i64 32)).bind fun t35 =>
  some (t35, h7)) fun t35_8 h9 =>
  (pickP t32 (AV.bool true) t35_8).bind fun t36 =>
  condE t36 (
  some ((AV.bool true), h9)) (
  cl (k_arena_New (AV.int .i64 8) h9) fun t38 h10 =>
  (extractV 0 t38).bind fun t39 =>
  (extractV 1 t38).bind fun t40 =>
  (eqP (some (.int .i64)) none false .neq t40 (AV.int .i64 0)).bind fun t42 =>
  gQ (gdW t42 false) h10 (some (t39, h10)) fun t44 h11 =>
  gQ (gdW t42 false) h11 (some (x0, h11)) fun t45 h12 =>
  gQ (gdW t42 false) h12 (cl (k_arena_Arena_Set t44 (AV.int .i64 1) t45 h12) fun t46 h13 =>
  some (t46, h13)) fun t46_14 h15 =>
  gQ (gdW t42 false) h15 ((eqP (some (.int .i64)) none false .neq t46_14 (AV.int .i64 0)).bind fun t47 =>
  some (t47, h15)) fun t47_16 h17 =>
  (pickP t42 (AV.bool true) t47_16).bind fun t48 =>
  condE t48 (
  some ((AV.bool false), h17)) (
  lp (k_law4_ArenaSweeps_L0 x1 x3 t39 (AV.sl none 0 (.ex 0)) (AV.int .i64 0) h17) fun e vs h38 =>
  thenK (if e = .exit 0 then .normal else e) (
  lp (k_law4_ArenaSweeps_L1 x2 t39 vs (AV.int .i64 0) (AV.int .i64 0) h38) fun e_54 vs_55 h56 =>
  thenK (if e_54 = .exit 2 then .normal else e_54) (
  cl (k_arena_Arena_Sweep t39 (AV.int .i64 1) h56) fun t92 h57 =>
  (lnL (vs.getD 0 .bot)).bind fun t94 =>
  (binP .sub t94 (vs_55.getD 0 .bot)).bind fun t96 =>
  (eqP (some (.int .i64)) none false .neq t92 t96).bind fun t97 =>
  gQ (gdW t97 false) h57 (some (t39, h57)) fun t99 h58 =>
  gQ (gdW t97 false) h58 (cl (k_arena_Arena_Class t99 (AV.int .i64 1) h58) fun t100 h59 =>
  some (t100, h59)) fun t100_60 h61 =>
  gQ (gdW t97 false) h61 ((eqP (some (.int .i64)) none false .eql t100_60 (AV.int .i64 (-1))).bind fun t101 =>
  some (t101, h61)) fun t101_62 h63 =>
  gQ (gdW t97 false) h63 (some ((vs_55.getD 0 .bot), h63)) fun t102 h64 =>
  gQ (gdW t97 false) h64 ((eqP (some (.int .i64)) none false .eql t102 (AV.int .i64 0)).bind fun t103 =>
  some (t103, h64)) fun t103_65 h66 =>
  gQ (gdW t97 false) h66 ((eqP (some .bool) none false .neq t101_62 t103_65).bind fun t104 =>
  some (t104, h66)) fun t104_67 h68 =>
  (pickP t97 (AV.bool true) t104_67).bind fun t105 =>
  condE t105 (
  some ((AV.bool false), h68)) (
  lp (k_law4_ArenaSweeps_L2 x2 x3 t39 vs (AV.bool false) (AV.int .i64 0) h68) fun e_84 vs_85 h86 =>
  thenK (if e_84 = .exit 4 then .normal else e_84) (
  (eqP (some (.int .i64)) none false .eql (vs_55.getD 0 .bot) (AV.int .i64 0)).bind fun t142 =>
  gQ (gdW t142 false) h86 (some ((vs_55.getD 0 .bot), h86)) fun t144 h87 =>
  gQ (gdW t142 false) h87 (some ((vs.getD 0 .bot), h87)) fun t145 h88 =>
  gQ (gdW t142 false) h88 ((lnL t145).bind fun t146 =>
  some (t146, h88)) fun t146_89 h90 =>
  gQ (gdW t142 false) h90 ((eqP (some (.int .i64)) none false .eql t144 t146_89).bind fun t147 =>
  some (t147, h90)) fun t147_91 h92 =>
  (pickP t142 (AV.bool true) t147_91).bind fun t148 =>
  condE t148 (
  some ((AV.bool true), h92)) (
  cl (k_arena_Arena_Take t39 (AV.int .i64 1) h92) fun t151 h93 =>
  (extractV 0 t151).bind fun t152 =>
  (extractV 1 t151).bind fun t153 =>
  (eqP (some (.int .i64)) none false .eql t153 (AV.int .i64 0)).bind fun t155 =>
  gQ (gdW t155 true) h93 (some (t152, h93)) fun t157 h94 =>
  gQ (gdW t155 true) h94 ((binP .gtr t157 (AV.int .i64 0)).bind fun t158 =>
  some (t158, h94)) fun t158_95 h96 =>
  (pickP t155 t158_95 (AV.bool false)).bind fun t159 =>
  gQ (gdW t159 true) h96 (some (t39, h96)) fun t161 h97 =>
  gQ (gdW t159 true) h97 (some (t152, h97)) fun t162 h98 =>
  gQ (gdW t159 true) h98 (cl (k_arena_Arena_Is t161 t162 h98) fun t163 h99 =>
  some (t163, h99)) fun t163_100 h101 =>
  (pickP t159 t163_100 (AV.bool false)).bind fun t164 =>
  some (t164, h101))) (fun e_102 => endE e_102 (some ((vs_85.getD 0 .bot), h86))))) (fun e_103 => endE e_103 (some ((AV.bool false), h56)))) (fun e_104 => endE e_104 (some ((AV.bool false), h38))))))
def T45 : Tab := (6, p4 k_law4_ArenaSweeps) :: T44
/- 31: gantline/gantlinelaw4.played -/
def k_law4_played_b0 (x0 : AV) (x1 : AV) (q4 : AV) (h0 : Heap) : OutV :=
  (lnL x1).bind fun t8 =>
  (binP .lss q4 t8).bind fun t9 =>
  condE t9 (
  (iaS 6 x1 q4).bind fun t14 =>
  (ldA 6 h0 t14).bind fun t15 =>
  mk Heap.new (some (Blk.cells true [(AV.int .i64 0), (AV.int .i64 0), (AV.int .i64 0), (AV.int .i64 0), (AV.int .i64 0), (AV.int .i64 0)], fun i => AV.ptr (some (i, 0)))) h0 fun t5 h2 =>
  cl (stP 6 h2 t5 t15) fun u h3 =>
  (faP 0 t5).bind fun t16 =>
  (ldS h3 t16).bind fun t17 =>
  (eqP (some (.int .i64)) none false .eql t17 (AV.int .i64 0)).bind fun t27 =>
  condE t27 (
  (faP 1 t5).bind fun t29 =>
  (ldS h3 t29).bind fun t30 =>
  (faP 2 t5).bind fun t31 =>
  (ldS h3 t31).bind fun t32 =>
  cl (k_arena_Arena_Set x0 t30 t32 h3) fun t33 h82 =>
  (binP .add q4 (AV.int .i64 1)).bind fun t11_83 =>
  some (.normal, [t11_83], h82)) (
  (eqP (some (.int .i64)) none false .eql t17 (AV.int .i64 1)).bind fun t35 =>
  condE t35 (
  (faP 1 t5).bind fun t37 =>
  (ldS h3 t37).bind fun t38 =>
  cl (k_arena_Arena_Take x0 t38 h3) fun t39 h114 =>
  (binP .add q4 (AV.int .i64 1)).bind fun t11_115 =>
  some (.normal, [t11_115], h114)) (
  (eqP (some (.int .i64)) none false .eql t17 (AV.int .i64 2)).bind fun t41 =>
  condE t41 (
  (faP 4 t5).bind fun t43 =>
  (ldS h3 t43).bind fun t44 =>
  cl (k_arena_Arena_Mark x0 t44 h3) fun t45 h140 =>
  (binP .add q4 (AV.int .i64 1)).bind fun t11_141 =>
  some (.normal, [t11_141], h140)) (
  (eqP (some (.int .i64)) none false .eql t17 (AV.int .i64 3)).bind fun t47 =>
  condE t47 (
  cl (k_arena_Arena_Clear x0 h3) fun t49 h160 =>
  (binP .add q4 (AV.int .i64 1)).bind fun t11_161 =>
  some (.normal, [t11_161], h160)) (
  (eqP (some (.int .i64)) none false .eql t17 (AV.int .i64 4)).bind fun t51 =>
  condE t51 (
  (faP 1 t5).bind fun t53 =>
  (ldS h3 t53).bind fun t54 =>
  cl (k_arena_Arena_Sweep x0 t54 h3) fun t55 h176 =>
  (binP .add q4 (AV.int .i64 1)).bind fun t11_177 =>
  some (.normal, [t11_177], h176)) (
  (faP 4 t5).bind fun t19 =>
  (ldS h3 t19).bind fun t20 =>
  (faP 3 t5).bind fun t21 =>
  (ldS h3 t21).bind fun t22 =>
  (faP 5 t5).bind fun t23 =>
  (ldS h3 t23).bind fun t24 =>
  cl (k_arena_Arena_Write x0 t20 t22 t24 h3) fun t25 h178 =>
  (binP .add q4 (AV.int .i64 1)).bind fun t11_179 =>
  some (.normal, [t11_179], h178))))))) (
  some ((.exit 0), [q4], h0))
def k_law4_played_L0 (x0 : AV) (x1 : AV) (q4 : AV) (h0 : Heap) : OutV := loopN (fun us g => k_law4_played_b0 x0 x1 (us.getD 0 .bot) g) [q4] h0
def k_law4_played (x0 : AV) (x1 : AV) (h : Heap) : Option (AV × Heap) :=
  lp (k_law4_played_L0 x0 x1 (AV.int .i64 0) h) fun e vs h180 =>
  endE (if e = .exit 0 then .normal else e) (some (AV.tup [], h180))
def T46 : Tab := (31, p2 k_law4_played) :: T45
/- 7: gantline/gantlinelaw4.ArenaCopies -/
def k_law4_ArenaCopies_b0 (t27 : AV) (t37 : AV) (q9 : AV) (q4_38 : AV) (q10 : AV) (h39 : Heap) : OutV :=
  (binP .mul (AV.int .i64 64) q9).bind fun t74 =>
  (binP .add t74 (AV.int .i64 64)).bind fun t75 =>
  (binP .lss q10 t75).bind fun t76 =>
  condE t76 (
  cl (k_arena_Arena_Read t27 q10 (AV.int .i64 0) h39) fun t82 h40 =>
  (extractV 0 t82).bind fun t83 =>
  (extractV 1 t82).bind fun t84 =>
  cl (k_arena_Arena_Read t37 q10 (AV.int .i64 0) h40) fun t88 h41 =>
  (extractV 0 t88).bind fun t89 =>
  (extractV 1 t88).bind fun t90 =>
  (eqP (some (.int .i64)) none false .neq t83 t89).bind fun t93 =>
  gQ (gdW t93 false) h41 (some (t84, h41)) fun t95 h42 =>
  gQ (gdW t93 false) h42 (some (t90, h42)) fun t96 h43 =>
  gQ (gdW t93 false) h43 ((eqP (some (.int .i64)) none false .neq t95 t96).bind fun t97 =>
  some (t97, h43)) fun t97_44 h45 =>
  (pickP t93 (AV.bool true) t97_44).bind fun t98 =>
  condE t98 (
  some (.ret, [(AV.bool false), q10], h45)) (
  (binP .add q10 (AV.int .i64 1)).bind fun t78 =>
  some (.normal, [q4_38, t78], h45))) (
  some ((.exit 2), [q4_38, q10], h39))
def k_law4_ArenaCopies_L0 (t27 : AV) (t37 : AV) (q9 : AV) (q4_38 : AV) (q10 : AV) (h39 : Heap) : OutV := loopN (fun us g => k_law4_ArenaCopies_b0 t27 t37 q9 (us.getD 0 .bot) (us.getD 1 .bot) g) [q4_38, q10] h39
def k_law4_ArenaCopies_b1 (t27 : AV) (t37 : AV) (q4 : AV) (q9 : AV) (h11 : Heap) : OutV :=
  (binP .lss q9 (AV.int .i64 8)).bind fun t42 =>
  condE t42 (
  cl (k_arena_Arena_Class t27 q9 h11) fun t47 h12 =>
  cl (k_arena_Arena_Class t37 q9 h12) fun t50 h13 =>
  (eqP (some (.int .i64)) none false .neq t47 t50).bind fun t51 =>
  gQ (gdW t51 false) h13 (some (t27, h13)) fun t53 h14 =>
  gQ (gdW t51 false) h14 (some (q9, h14)) fun t54 h15 =>
  gQ (gdW t51 false) h15 (cl (k_arena_Arena_Taken t53 t54 h15) fun t55 h16 =>
  some (t55, h16)) fun t55_17 h18 =>
  gQ (gdW t51 false) h18 (some (t37, h18)) fun t56 h19 =>
  gQ (gdW t51 false) h19 (some (q9, h19)) fun t57 h20 =>
  gQ (gdW t51 false) h20 (cl (k_arena_Arena_Taken t56 t57 h20) fun t58 h21 =>
  some (t58, h21)) fun t58_22 h23 =>
  gQ (gdW t51 false) h23 ((eqP (some (.int .u64)) none false .neq t55_17 t58_22).bind fun t59 =>
  some (t59, h23)) fun t59_24 h25 =>
  (pickP t51 (AV.bool true) t59_24).bind fun t60 =>
  gQ (gdW t60 false) h25 (some (t27, h25)) fun t62 h26 =>
  gQ (gdW t60 false) h26 (some (q9, h26)) fun t63 h27 =>
  gQ (gdW t60 false) h27 (cl (k_arena_Arena_Marked t62 t63 h27) fun t64 h28 =>
  some (t64, h28)) fun t64_29 h30 =>
  gQ (gdW t60 false) h30 (some (t37, h30)) fun t65 h31 =>
  gQ (gdW t60 false) h31 (some (q9, h31)) fun t66 h32 =>
  gQ (gdW t60 false) h32 (cl (k_arena_Arena_Marked t65 t66 h32) fun t67 h33 =>
  some (t67, h33)) fun t67_34 h35 =>
  gQ (gdW t60 false) h35 ((eqP (some (.int .u64)) none false .neq t64_29 t67_34).bind fun t68 =>
  some (t68, h35)) fun t68_36 h37 =>
  (pickP t60 (AV.bool true) t68_36).bind fun t69 =>
  condE t69 (
  some (.ret, [(AV.bool false), q9], h37)) (
  (binP .mul (AV.int .i64 64) q9).bind fun t71 =>
  lp (k_law4_ArenaCopies_L0 t27 t37 q9 q4 t71 h37) fun e vs h46 =>
  thenK (if (if e = .exit 2 then .normal else e) = .exit 1 then .normal else (if e = .exit 2 then .normal else e)) (
  (binP .add q9 (AV.int .i64 1)).bind fun t44 =>
  some (.normal, [(vs.getD 0 .bot), t44], h46)) (fun e_47 => some (e_47, [(vs.getD 0 .bot), q9], h46)))) (
  some ((.exit 0), [q4, q9], h11))
def k_law4_ArenaCopies_L1 (t27 : AV) (t37 : AV) (q4 : AV) (q9 : AV) (h11 : Heap) : OutV := loopN (fun us g => k_law4_ArenaCopies_b1 t27 t37 (us.getD 0 .bot) (us.getD 1 .bot) g) [q4, q9] h11
def k_law4_ArenaCopies (x0 : AV) (x1 : AV) (h : Heap) : Option (AV × Heap) :=
  cl (k_law4_awake h) fun t15 h0 =>
  (unA .not t15).bind fun t16 =>
  condE t16 (
  some ((AV.bool false), h0)) (
  (lnL x0).bind fun t18 =>
  (binP .gtr t18 (AV.int .i64 40)).bind fun t19 =>
  gQ (gdW t19 false) h0 (some (x1, h0)) fun t21 h1 =>
  gQ (gdW t19 false) h1 ((lnL t21).bind fun t22 =>
  some (t22, h1)) fun t22_2 h3 =>
  gQ (gdW t19 false) h3 ((binP .gtr t22_2 (AV.int .i64 40)).bind fun t23 =>
  some (t23, h3)) fun t23_4 h5 =>
  (pickP t19 (AV.bool true) t23_4).bind fun t24 =>
  condE t24 (
  some ((AV.bool true), h5)) (
  cl (k_arena_New (AV.int .i64 8) h5) fun t26 h6 =>
  (extractV 0 t26).bind fun t27 =>
  (extractV 1 t26).bind fun t28 =>
  (eqP (some (.int .i64)) none false .neq t28 (AV.int .i64 0)).bind fun t30 =>
  condE t30 (
  some ((AV.bool false), h6)) (
  cl (k_law4_played t27 x0 h6) fun t33 h7 =>
  cl (k_arena_Arena_Copy t27 h7) fun t35 h8 =>
  cl (k_arena_Arena_Copy t27 h8) fun t37 h9 =>
  cl (k_law4_played t35 x1 h9) fun t40 h10 =>
  lp (k_law4_ArenaCopies_L1 t27 t37 (AV.bool false) (AV.int .i64 0) h10) fun e_48 vs_49 h50 =>
  thenK (if e_48 = .exit 0 then .normal else e_48) (
  some ((AV.bool true), h50)) (fun e_51 => endE e_51 (some ((vs_49.getD 0 .bot), h50))))))
def T47 : Tab := (7, p2 k_law4_ArenaCopies) :: T46
/- 60: gantline/alloc.New -/
def k_alloc_New (x0 : AV) (h : Heap) : Option (AV × Heap) :=
  cl (k_arena_Arena_Spans x0 h) fun t5 h0 =>
  mk Heap.new (msP 1 1 [(AV.bool false)] t5 t5) h0 fun t6 h1 =>
  (bldS [(0, 1), (1, 1)] [(AV.ptr none), (AV.sl none 0 (.ex 0))] [(0, x0), (1, t6)]).bind fun t7 =>
  mk Heap.new (bxP t7) h1 fun t8 h2 =>
  some (t8, h2)
def T48 : Tab := (60, p1 k_alloc_New) :: T47
/- 61: gantline/gantlineref4.NewAlloc -/
def k_ref4_NewAlloc (x0 : AV) (h : Heap) : Option (AV × Heap) :=
  (nilV x0).bind fun t5 =>
  (faP 0 t5).bind fun t6 =>
  (ldS h t6).bind fun t7 =>
  (lnL t7).bind fun t8 =>
  mk Heap.new (msP 1 1 [(AV.bool false)] t8 t8) h fun t9 h0 =>
  (bldS [(0, 1), (1, 1)] [(AV.ptr none), (AV.sl none 0 (.ex 0))] [(0, x0), (1, t9)]).bind fun t10 =>
  mk Heap.new (bxP t10) h0 fun t11 h1 =>
  some (t11, h1)
def T49 : Tab := (61, p1 k_ref4_NewAlloc) :: T48
/- 36: gantline/gantlinelaw5.made -/
def k_law5_made (x0 : AV) (h : Heap) : Option (AV × Heap) :=
  cl (k_arena_New x0 h) fun t9 h0 =>
  (extractV 0 t9).bind fun t10 =>
  (extractV 1 t9).bind fun t11 =>
  (eqP (some (.int .i64)) none false .neq t11 (AV.int .i64 0)).bind fun t13 =>
  gQ (gdW t13 false) h0 (some (t10, h0)) fun t15 h1 =>
  gQ (gdW t13 false) h1 ((eqP (some (.pointer 0)) none false .eql t15 (AV.ptr none)).bind fun t16 =>
  some (t16, h1)) fun t16_2 h3 =>
  (pickP t13 (AV.bool true) t16_2).bind fun t17 =>
  condE t17 (
  some (AV.tup [(AV.ptr none), (AV.ptr none), (AV.ptr none)], h3)) (
  cl (k_alloc_New t10 h3) fun t19 h4 =>
  cl (k_ref4_NewArena x0 h4) fun t22 h5 =>
  cl (k_ref4_NewAlloc t22 h5) fun t23 h6 =>
  some (AV.tup [t19, t10, t23], h6))
def T50 : Tab := (36, p1 k_law5_made) :: T49
/- 62: gantline/geom.Class -/
def k_geom_Class_b0 (x0 : AV) (q2 : AV) (q4 : AV) (h0 : Heap) : OutV :=
  (binP .lss q4 (AV.int .i64 6)).bind fun t5 =>
  condE t5 (
  (binP .geq x0 (AV.int .i64 1)).bind fun t8 =>
  gQ (gdW t8 true) h0 (some (x0, h0)) fun t10 h1 =>
  gQ (gdW t8 true) h1 (some (q4, h1)) fun t11 h2 =>
  gQ (gdW t8 true) h2 (cl (k_geom_Words t11 h2) fun t12 h3 =>
  some (t12, h3)) fun t12_4 h5 =>
  gQ (gdW t8 true) h5 ((binP .leq t10 t12_4).bind fun t13 =>
  some (t13, h5)) fun t13_6 h7 =>
  (pickP t8 t13_6 (AV.bool false)).bind fun t14 =>
  condE t14 (
  some (.ret, [q4, q4], h7)) (
  (binP .add q4 (AV.int .i64 1)).bind fun t16 =>
  some (.normal, [q2, t16], h7))) (
  some ((.exit 0), [q2, q4], h0))
def k_geom_Class_L0 (x0 : AV) (q2 : AV) (q4 : AV) (h0 : Heap) : OutV := loopN (fun us g => k_geom_Class_b0 x0 (us.getD 0 .bot) (us.getD 1 .bot) g) [q2, q4] h0
def k_geom_Class (x0 : AV) (h : Heap) : Option (AV × Heap) :=
  lp (k_geom_Class_L0 x0 (AV.int .i64 0) (AV.int .i64 0) h) fun e vs h8 =>
  thenK (if e = .exit 0 then .normal else e) (
  some ((AV.int .i64 (-1)), h8)) (fun e_9 => endE e_9 (some ((vs.getD 0 .bot), h8)))
def T51 : Tab := (62, p1 k_geom_Class) :: T50
/- 63: (*gantline/alloc.Alloc).sweep -/
def k_alloc_Alloc_sweep (x0 : AV) (x1 : AV) (h : Heap) : Option (AV × Heap) :=
  (nilV x0).bind fun t5 =>
  (faP 0 t5).bind fun t6 =>
  (ldS h t6).bind fun t7 =>
  cl (k_arena_Arena_Sweep t7 x1 h) fun t9 h0 =>
  (nilV x0).bind fun t11 =>
  (faP 1 t11).bind fun t12 =>
  (ldS h0 t12).bind fun t13 =>
  (iaS 1 t13 x1).bind fun t15 =>
  cl (stP 1 h0 t15 (AV.bool false)) fun u h1 =>
  some (AV.tup [], h1)
def T52 : Tab := (63, p2 k_alloc_Alloc_sweep) :: T51
/- 73: gantline/bits.within -/
def k_bits_within (x0 : AV) (x1 : AV) (h : Heap) : Option (AV × Heap) :=
  (binP .geq x0 (AV.int .i64 0)).bind fun t6 =>
  gQ (gdW t6 true) h (some (x1, h)) fun t8 h0 =>
  gQ (gdW t6 true) h0 ((binP .geq t8 (AV.int .i64 0)).bind fun t9 =>
  some (t9, h0)) fun t9_1 h2 =>
  (pickP t6 t9_1 (AV.bool false)).bind fun t10 =>
  gQ (gdW t10 true) h2 (some (x1, h2)) fun t12 h3 =>
  gQ (gdW t10 true) h3 ((binP .leq t12 (AV.int .i64 64)).bind fun t13 =>
  some (t13, h3)) fun t13_4 h5 =>
  (pickP t10 t13_4 (AV.bool false)).bind fun t14 =>
  gQ (gdW t14 true) h5 (some (x0, h5)) fun t16 h6 =>
  gQ (gdW t14 true) h6 (some (x1, h6)) fun t17 h7 =>
  gQ (gdW t14 true) h7 ((binP .sub (AV.int .i64 64) t17).bind fun t18 =>
  some (t18, h7)) fun t18_8 h9 =>
  gQ (gdW t14 true) h9 ((binP .leq t16 t18_8).bind fun t19 =>
  some (t19, h9)) fun t19_10 h11 =>
  (pickP t14 t19_10 (AV.bool false)).bind fun t20 =>
  some (t20, h11)
def T53 : Tab := (73, p2 k_bits_within) :: T52
/- 74: gantline/bits.mask -/
def k_bits_mask (x0 : AV) (h : Heap) : Option (AV × Heap) :=
  (cvI .u64 x0).bind fun t4 =>
  (binP .shl (AV.int .u64 1) t4).bind fun t5 =>
  (binP .sub t5 (AV.int .u64 1)).bind fun t6 =>
  some (t6, h)
def T54 : Tab := (74, p1 k_bits_mask) :: T53
/- 72: gantline/bits.With -/
def k_bits_With (x0 : AV) (x1 : AV) (x2 : AV) (x3 : AV) (h : Heap) : Option (AV × Heap) :=
  cl (k_bits_within x1 x2 h) fun t11 h0 =>
  (unA .not t11).bind fun t12 =>
  condE t12 (
  some (x0, h0)) (
  cl (k_bits_mask x2 h0) fun t16 h1 =>
  (cvI .u64 x1).bind fun t18 =>
  (binP .shl t16 t18).bind fun t19 =>
  (binP .andNot x0 t19).bind fun t20 =>
  cl (k_bits_mask x2 h1) fun t23 h2 =>
  (binP .and x3 t23).bind fun t24 =>
  (cvI .u64 x1).bind fun t26 =>
  (binP .shl t24 t26).bind fun t27 =>
  (binP .or t20 t27).bind fun t28 =>
  some (t28, h2))
def T55 : Tab := (72, p4 k_bits_With) :: T54
/- 64: gantline/geom.Full -/
def k_geom_Full (x0 : AV) (h : Heap) : Option (AV × Heap) :=
  cl (k_geom_Places x0 h) fun t4 h0 =>
  cl (k_bits_With (AV.int .u64 0) (AV.int .i64 0) t4 (AV.int .u64 18446744073709551615) h0) fun t5 h1 =>
  some (t5, h1)
def T56 : Tab := (64, p1 k_geom_Full) :: T55
/- 65: (*gantline/alloc.Alloc).begin -/
def k_alloc_Alloc_begin (x0 : AV) (x1 : AV) (x2 : AV) (h : Heap) : Option (AV × Heap) :=
  (nilV x0).bind fun t9 =>
  (faP 1 t9).bind fun t10 =>
  (ldS h t10).bind fun t11 =>
  (iaS 1 t11 x1).bind fun t13 =>
  cl (stP 1 h t13 (AV.bool false)) fun u h0 =>
  (nilV x0).bind fun t15 =>
  (faP 0 t15).bind fun t16 =>
  (ldS h0 t16).bind fun t17 =>
  cl (k_arena_Arena_Set t17 x1 x2 h0) fun t20 h1 =>
  (nilV x0).bind fun t22 =>
  (faP 0 t22).bind fun t23 =>
  (ldS h1 t23).bind fun t24 =>
  cl (k_arena_Arena_Take t24 x1 h1) fun t26 h2 =>
  (extractV 0 t26).bind fun t27 =>
  (extractV 1 t26).bind fun t28 =>
  some (AV.tup [t27, t28], h2)
def T57 : Tab := (65, p3 k_alloc_Alloc_begin) :: T56
/- 37: (*gantline/alloc.Alloc).Take -/
def k_alloc_Alloc_Take_j0 (x0 : AV) (t12 : AV) (q4 : AV) (q5 : AV) (q20 : AV) (h10 : Heap) : OutV :=
  (nilV x0).bind fun t42 =>
  (faP 0 t42).bind fun t43 =>
  (ldS h10 t43).bind fun t44 =>
  cl (k_arena_Arena_Class t44 q20 h10) fun t46 h11 =>
  (eqP (some (.int .i64)) none false .eql t46 t12).bind fun t48 =>
  gQ (gdW t48 true) h11 (some (x0, h11)) fun t50 h12 =>
  gQ (gdW t48 true) h12 ((nilV t50).bind fun t51 =>
  some (t51, h12)) fun t51_13 h14 =>
  gQ (gdW t48 true) h14 ((faP 0 t51_13).bind fun t52 =>
  some (t52, h14)) fun t52_15 h16 =>
  gQ (gdW t48 true) h16 ((ldS h16 t52_15).bind fun t53 =>
  some (t53, h16)) fun t53_17 h18 =>
  gQ (gdW t48 true) h18 (some (q20, h18)) fun t54 h19 =>
  gQ (gdW t48 true) h19 (cl (k_arena_Arena_Taken t53_17 t54 h19) fun t55 h20 =>
  some (t55, h20)) fun t55_21 h22 =>
  gQ (gdW t48 true) h22 (some (t12, h22)) fun t56 h23 =>
  gQ (gdW t48 true) h23 (cl (k_geom_Full t56 h23) fun t57 h24 =>
  some (t57, h24)) fun t57_25 h26 =>
  gQ (gdW t48 true) h26 ((eqP (some (.int .u64)) none false .neq t55_21 t57_25).bind fun t58 =>
  some (t58, h26)) fun t58_27 h28 =>
  (pickP t48 t58_27 (AV.bool false)).bind fun t59 =>
  condE t59 (
  (nilV x0).bind fun t61 =>
  (faP 0 t61).bind fun t62 =>
  (ldS h28 t62).bind fun t63 =>
  cl (k_arena_Arena_Take t63 q20 h28) fun t65 h29 =>
  (extractV 0 t65).bind fun t66 =>
  (extractV 1 t65).bind fun t67 =>
  some (.ret, [t66, t67, q20], h29)) (
  (binP .add q20 (AV.int .i64 1)).bind fun t68_30 =>
  some (.normal, [q4, q5, t68_30], h28))
def k_alloc_Alloc_Take_b0 (x0 : AV) (t12 : AV) (t19 : AV) (q4 : AV) (q5 : AV) (q20 : AV) (h1 : Heap) : OutV :=
  (binP .lss q20 t19).bind fun t21 =>
  condE t21 (
  (nilV x0).bind fun t24 =>
  (faP 0 t24).bind fun t25 =>
  (ldS h1 t25).bind fun t26 =>
  cl (k_arena_Arena_Class t26 q20 h1) fun t28 h5 =>
  (eqP (some (.int .i64)) none false .neq t28 t12).bind fun t30 =>
  condE t30 (
  (binP .add q20 (AV.int .i64 1)).bind fun t68_6 =>
  some (.normal, [q4, q5, t68_6], h5)) (
  (nilV x0).bind fun t32 =>
  (faP 1 t32).bind fun t33 =>
  (ldS h5 t33).bind fun t34 =>
  (iaS 1 t34 q20).bind fun t36 =>
  (ldS h5 t36).bind fun t37 =>
  condE t37 (
  cl (k_alloc_Alloc_sweep x0 q20 h5) fun t40 h31 =>
  k_alloc_Alloc_Take_j0 x0 t12 q4 q5 q20 h31) (
  k_alloc_Alloc_Take_j0 x0 t12 q4 q5 q20 h5))) (
  some ((.exit 0), [q4, q5, q20], h1))
def k_alloc_Alloc_Take_L0 (x0 : AV) (t12 : AV) (t19 : AV) (q4 : AV) (q5 : AV) (q20 : AV) (h1 : Heap) : OutV := loopN (fun us g => k_alloc_Alloc_Take_b0 x0 t12 t19 (us.getD 0 .bot) (us.getD 1 .bot) (us.getD 2 .bot) g) [q4, q5, q20] h1
def k_alloc_Alloc_Take_b1 (x0 : AV) (t12 : AV) (q4_33 : AV) (q5_34 : AV) (q8 : AV) (h35 : Heap) : OutV :=
  (nilV x0).bind fun t71 =>
  (faP 1 t71).bind fun t72 =>
  (ldS h35 t72).bind fun t73 =>
  (lnL t73).bind fun t74 =>
  (binP .lss q8 t74).bind fun t75 =>
  condE t75 (
  (nilV x0).bind fun t79 =>
  (faP 0 t79).bind fun t80 =>
  (ldS h35 t80).bind fun t81 =>
  cl (k_arena_Arena_Class t81 q8 h35) fun t83 h36 =>
  (eqP (some (.int .i64)) none false .eql t83 (AV.int .i64 (-1))).bind fun t84 =>
  condE t84 (
  cl (k_alloc_Alloc_begin x0 q8 t12 h36) fun t88 h37 =>
  (extractV 0 t88).bind fun t89 =>
  (extractV 1 t88).bind fun t90 =>
  some (.ret, [t89, t90, q8], h37)) (
  (binP .add q8 (AV.int .i64 1)).bind fun t77 =>
  some (.normal, [q4_33, q5_34, t77], h36))) (
  some ((.exit 2), [q4_33, q5_34, q8], h35))
def k_alloc_Alloc_Take_L1 (x0 : AV) (t12 : AV) (q4_33 : AV) (q5_34 : AV) (q8 : AV) (h35 : Heap) : OutV := loopN (fun us g => k_alloc_Alloc_Take_b1 x0 t12 (us.getD 0 .bot) (us.getD 1 .bot) (us.getD 2 .bot) g) [q4_33, q5_34, q8] h35
def k_alloc_Alloc_Take_j1 (q96 : AV) (q4_44 : AV) (q5_45 : AV) (h46 : Heap) : OutV :=
  (binP .add q96 (AV.int .i64 1)).bind fun t118 =>
  some (.normal, [q4_44, q5_45, t118], h46)
def k_alloc_Alloc_Take_b2 (x0 : AV) (t12 : AV) (t94 : AV) (t95 : AV) (q4_41 : AV) (q5_42 : AV) (q96 : AV) (h43 : Heap) : OutV :=
  (binP .lss q96 t95).bind fun t97 =>
  condE t97 (
  (iaS 1 t94 q96).bind fun t99 =>
  (ldS h43 t99).bind fun t100 =>
  condE t100 (
  cl (k_alloc_Alloc_sweep x0 q96 h43) fun t104 h66 =>
  (nilV x0).bind fun t106 =>
  (faP 0 t106).bind fun t107 =>
  (ldS h66 t107).bind fun t108 =>
  cl (k_arena_Arena_Class t108 q96 h66) fun t110 h67 =>
  (eqP (some (.int .i64)) none false .eql t110 (AV.int .i64 (-1))).bind fun t111 =>
  condE t111 (
  cl (k_alloc_Alloc_begin x0 q96 t12 h67) fun t115 h68 =>
  (extractV 0 t115).bind fun t116 =>
  (extractV 1 t115).bind fun t117 =>
  some (.ret, [t116, t117, q96], h68)) (
  k_alloc_Alloc_Take_j1 q96 q4_41 q5_42 h67)) (
  k_alloc_Alloc_Take_j1 q96 q4_41 q5_42 h43)) (
  some ((.exit 4), [q4_41, q5_42, q96], h43))
def k_alloc_Alloc_Take_L2 (x0 : AV) (t12 : AV) (t94 : AV) (t95 : AV) (q4_41 : AV) (q5_42 : AV) (q96 : AV) (h43 : Heap) : OutV := loopN (fun us g => k_alloc_Alloc_Take_b2 x0 t12 t94 t95 (us.getD 0 .bot) (us.getD 1 .bot) (us.getD 2 .bot) g) [q4_41, q5_42, q96] h43
def k_alloc_Alloc_Take (x0 : AV) (x1 : AV) (h : Heap) : Option (AV × Heap) :=
  cl (k_geom_Class x1 h) fun t12 h0 =>
  (eqP (some (.int .i64)) none false .eql t12 (AV.int .i64 (-1))).bind fun t14 =>
  condE t14 (
  some (AV.tup [(AV.int .i64 0), (AV.int .i64 1)], h0)) (
  (nilV x0).bind fun t16 =>
  (faP 1 t16).bind fun t17 =>
  (ldS h0 t17).bind fun t18 =>
  (lnL t18).bind fun t19 =>
  lp (k_alloc_Alloc_Take_L0 x0 t12 t19 (AV.int .i64 0) (AV.int .i64 0) (AV.int .i64 0) h0) fun e vs h32 =>
  thenK (if e = .exit 0 then .normal else e) (
  lp (k_alloc_Alloc_Take_L1 x0 t12 (vs.getD 0 .bot) (vs.getD 1 .bot) (AV.int .i64 1) h32) fun e_38 vs_39 h40 =>
  thenK (if e_38 = .exit 2 then .normal else e_38) (
  (nilV x0).bind fun t92 =>
  (faP 1 t92).bind fun t93 =>
  (ldS h40 t93).bind fun t94 =>
  (lnL t94).bind fun t95 =>
  lp (k_alloc_Alloc_Take_L2 x0 t12 t94 t95 (vs_39.getD 0 .bot) (vs_39.getD 1 .bot) (AV.int .i64 0) h40) fun e_69 vs_70 h71 =>
  thenK (if e_69 = .exit 4 then .normal else e_69) (
  some (AV.tup [(AV.int .i64 0), (AV.int .i64 5)], h71)) (fun e_72 => endE e_72 (some (AV.tup [(vs_70.getD 0 .bot), (vs_70.getD 1 .bot)], h71)))) (fun e_73 => endE e_73 (some (AV.tup [(vs_39.getD 0 .bot), (vs_39.getD 1 .bot)], h40)))) (fun e_74 => endE e_74 (some (AV.tup [(vs.getD 0 .bot), (vs.getD 1 .bot)], h32))))
def T58 : Tab := (37, p2 k_alloc_Alloc_Take) :: T57
/- 39: (*gantline/alloc.Alloc).Used -/
def k_alloc_Alloc_Used_b0 (x0 : AV) (t9 : AV) (q3 : AV) (q10 : AV) (h0 : Heap) : OutV :=
  (binP .lss q10 t9).bind fun t11 =>
  condE t11 (
  (nilV x0).bind fun t15 =>
  (faP 0 t15).bind fun t16 =>
  (ldS h0 t16).bind fun t17 =>
  cl (k_arena_Arena_Taken t17 q10 h0) fun t19 h1 =>
  cl (k_bits_Ones t19 h1) fun t20 h2 =>
  (nilV x0).bind fun t22 =>
  (faP 0 t22).bind fun t23 =>
  clC (rdC (fun g => ldS g t23) h2 0 2 []) fun t24 cs =>
  cl (k_arena_Arena_Class t24 q10 h2) fun t26 h3 =>
  cl (k_geom_Words t26 h3) fun t27 h4 =>
  (binP .mul t20 t27).bind fun t28 =>
  (binP .add q3 t28).bind fun t29 =>
  chk [h0, h1, h2, h3, h4] cs (
  (binP .add q10 (AV.int .i64 1)).bind fun t30 =>
  some (.normal, [t29, t30], h4))) (
  some ((.exit 0), [q3, q10], h0))
def k_alloc_Alloc_Used_L0 (x0 : AV) (t9 : AV) (q3 : AV) (q10 : AV) (h0 : Heap) : OutV := loopN (fun us g => k_alloc_Alloc_Used_b0 x0 t9 (us.getD 0 .bot) (us.getD 1 .bot) g) [q3, q10] h0
def k_alloc_Alloc_Used (x0 : AV) (h : Heap) : Option (AV × Heap) :=
  (nilV x0).bind fun t6 =>
  (faP 1 t6).bind fun t7 =>
  (ldS h t7).bind fun t8 =>
  (lnL t8).bind fun t9 =>
  lp (k_alloc_Alloc_Used_L0 x0 t9 (AV.int .i64 0) (AV.int .i64 0) h) fun e vs h5 =>
  thenK (if e = .exit 0 then .normal else e) (
  some ((vs.getD 0 .bot), h5)) (fun e_6 => endE e_6 (some ((AV.int .i64 0), h5)))
def T59 : Tab := (39, p1 k_alloc_Alloc_Used) :: T58
/- 43: (*gantline/alloc.Alloc).Stale -/
def k_alloc_Alloc_Stale_b0 (x0 : AV) (t7 : AV) (q8 : AV) (h0 : Heap) : OutV :=
  (binP .lss q8 t7).bind fun t9 =>
  condE t9 (
  (nilV x0).bind fun t12 =>
  (faP 1 t12).bind fun t13 =>
  clC (rdC (fun g => ldS g t13) h0 0 1 []) fun t14 cs =>
  (nilV x0).bind fun t17 =>
  (faP 0 t17).bind fun t18 =>
  (ldS h0 t18).bind fun t19 =>
  cl (k_arena_Arena_Class t19 q8 h0) fun t21 h1 =>
  (eqP (some (.int .i64)) none false .neq t21 (AV.int .i64 (-1))).bind fun t22 =>
  (iaS 1 t14 q8).bind fun t23 =>
  cl (stP 1 h1 t23 t22) fun u h2 =>
  chk [h0, h1, h2] cs (
  (binP .add q8 (AV.int .i64 1)).bind fun t24 =>
  some (.normal, [t24], h2))) (
  some ((.exit 0), [q8], h0))
def k_alloc_Alloc_Stale_L0 (x0 : AV) (t7 : AV) (q8 : AV) (h0 : Heap) : OutV := loopN (fun us g => k_alloc_Alloc_Stale_b0 x0 t7 (us.getD 0 .bot) g) [q8] h0
def k_alloc_Alloc_Stale (x0 : AV) (h : Heap) : Option (AV × Heap) :=
  (nilV x0).bind fun t4 =>
  (faP 1 t4).bind fun t5 =>
  (ldS h t5).bind fun t6 =>
  (lnL t6).bind fun t7 =>
  lp (k_alloc_Alloc_Stale_L0 x0 t7 (AV.int .i64 0) h) fun e vs h3 =>
  endE (if e = .exit 0 then .normal else e) (some (AV.tup [], h3))
def T60 : Tab := (43, p1 k_alloc_Alloc_Stale) :: T59
/- 44: (*gantline/alloc.Alloc).Left -/
def k_alloc_Alloc_Left_b0 (t9 : AV) (t10 : AV) (q3 : AV) (q11 : AV) (h0 : Heap) : OutV :=
  (binP .lss q11 t10).bind fun t12 =>
  condE t12 (
  (iaS 1 t9 q11).bind fun t13 =>
  (ldS h0 t13).bind fun t14 =>
  condE t14 (
  (binP .add q3 (AV.int .i64 1)).bind fun t17 =>
  (binP .add q11 (AV.int .i64 1)).bind fun t18_8 =>
  some (.normal, [t17, t18_8], h0)) (
  (binP .add q11 (AV.int .i64 1)).bind fun t18_9 =>
  some (.normal, [q3, t18_9], h0))) (
  some ((.exit 0), [q3, q11], h0))
def k_alloc_Alloc_Left_L0 (t9 : AV) (t10 : AV) (q3 : AV) (q11 : AV) (h0 : Heap) : OutV := loopN (fun us g => k_alloc_Alloc_Left_b0 t9 t10 (us.getD 0 .bot) (us.getD 1 .bot) g) [q3, q11] h0
def k_alloc_Alloc_Left (x0 : AV) (h : Heap) : Option (AV × Heap) :=
  (nilV x0).bind fun t7 =>
  (faP 1 t7).bind fun t8 =>
  (ldS h t8).bind fun t9 =>
  (lnL t9).bind fun t10 =>
  lp (k_alloc_Alloc_Left_L0 t9 t10 (AV.int .i64 0) (AV.int .i64 0) h) fun e vs h10 =>
  thenK (if e = .exit 0 then .normal else e) (
  some ((vs.getD 0 .bot), h10)) (fun e_11 => endE e_11 (some ((AV.int .i64 0), h10)))
def T61 : Tab := (44, p1 k_alloc_Alloc_Left) :: T60
/- 59: (*gantline/alloc.Alloc).Unswept -/
def k_alloc_Alloc_Unswept (x0 : AV) (x1 : AV) (h : Heap) : Option (AV × Heap) :=
  (binP .geq x1 (AV.int .i64 0)).bind fun t6 =>
  gQ (gdW t6 true) h (some (x1, h)) fun t8 h0 =>
  gQ (gdW t6 true) h0 (some (x0, h0)) fun t9 h1 =>
  gQ (gdW t6 true) h1 ((nilV t9).bind fun t10 =>
  some (t10, h1)) fun t10_2 h3 =>
  gQ (gdW t6 true) h3 ((faP 1 t10_2).bind fun t11 =>
  some (t11, h3)) fun t11_4 h5 =>
  gQ (gdW t6 true) h5 ((ldS h5 t11_4).bind fun t12 =>
  some (t12, h5)) fun t12_6 h7 =>
  gQ (gdW t6 true) h7 ((lnL t12_6).bind fun t13 =>
  some (t13, h7)) fun t13_8 h9 =>
  gQ (gdW t6 true) h9 ((binP .lss t8 t13_8).bind fun t14 =>
  some (t14, h9)) fun t14_10 h11 =>
  (pickP t6 t14_10 (AV.bool false)).bind fun t15 =>
  gQ (gdW t15 true) h11 (some (x0, h11)) fun t17 h12 =>
  gQ (gdW t15 true) h12 ((nilV t17).bind fun t18 =>
  some (t18, h12)) fun t18_13 h14 =>
  gQ (gdW t15 true) h14 ((faP 1 t18_13).bind fun t19 =>
  some (t19, h14)) fun t19_15 h16 =>
  gQ (gdW t15 true) h16 ((ldS h16 t19_15).bind fun t20 =>
  some (t20, h16)) fun t20_17 h18 =>
  gQ (gdW t15 true) h18 (some (x1, h18)) fun t21 h19 =>
  gQ (gdW t15 true) h19 ((iaS 1 t20_17 t21).bind fun t22 =>
  some (t22, h19)) fun t22_20 h21 =>
  gQ (gdW t15 true) h21 ((ldS h21 t22_20).bind fun t23 =>
  some (t23, h21)) fun t23_22 h23 =>
  (pickP t15 t23_22 (AV.bool false)).bind fun t24 =>
  some (t24, h23)
def T62 : Tab := (59, p2 k_alloc_Alloc_Unswept) :: T61
/- 38: (*gantline/alloc.Alloc).SweepOne -/
def k_alloc_Alloc_SweepOne_b0 (x0 : AV) (t8 : AV) (t9 : AV) (q2 : AV) (q10 : AV) (h0 : Heap) : OutV :=
  (binP .lss q10 t9).bind fun t11 =>
  condE t11 (
  (iaS 1 t8 q10).bind fun t13 =>
  (ldS h0 t13).bind fun t14 =>
  condE t14 (
  cl (k_alloc_Alloc_sweep x0 q10 h0) fun t18 h1 =>
  some (.ret, [(AV.bool true), q10], h1)) (
  (binP .add q10 (AV.int .i64 1)).bind fun t19 =>
  some (.normal, [q2, t19], h0))) (
  some ((.exit 0), [q2, q10], h0))
def k_alloc_Alloc_SweepOne_L0 (x0 : AV) (t8 : AV) (t9 : AV) (q2 : AV) (q10 : AV) (h0 : Heap) : OutV := loopN (fun us g => k_alloc_Alloc_SweepOne_b0 x0 t8 t9 (us.getD 0 .bot) (us.getD 1 .bot) g) [q2, q10] h0
def k_alloc_Alloc_SweepOne (x0 : AV) (h : Heap) : Option (AV × Heap) :=
  (nilV x0).bind fun t6 =>
  (faP 1 t6).bind fun t7 =>
  (ldS h t7).bind fun t8 =>
  (lnL t8).bind fun t9 =>
  lp (k_alloc_Alloc_SweepOne_L0 x0 t8 t9 (AV.bool false) (AV.int .i64 0) h) fun e vs h2 =>
  thenK (if e = .exit 0 then .normal else e) (
  some ((AV.bool false), h2)) (fun e_3 => endE e_3 (some ((vs.getD 0 .bot), h2)))
def T63 : Tab := (38, p1 k_alloc_Alloc_SweepOne) :: T62
/- 35: gantline/gantlinelaw5.awake -/
def k_law5_awakeR (h : Heap) : Option (AV × Heap) :=
  cl (k_law5_made (AV.int .i64 8) h) fun t15 h0 =>
  (extractV 0 t15).bind fun t16 =>
  (extractV 1 t15).bind fun t17 =>
  (extractV 2 t15).bind fun t18 =>
  (eqP (some (.pointer 0)) none false .eql t16 (AV.ptr none)).bind fun t20 =>
  condE t20 (
  some ((AV.bool false), h0)) (
  cl (k_alloc_Alloc_Take t16 (AV.int .i64 2) h0) fun t23 h1 =>
  (extractV 0 t23).bind fun t24 =>
  (extractV 1 t23).bind fun t25 =>
  cl (k_alloc_Alloc_Take t16 (AV.int .i64 64) h1) fun t28 h2 =>
  (extractV 0 t28).bind fun t29 =>
  (extractV 1 t28).bind fun t30 =>
  cl (k_alloc_Alloc_Take t16 (AV.int .i64 2) h2) fun t33 h3 =>
  (extractV 0 t33).bind fun t34 =>
  (extractV 1 t33).bind fun t35 =>
  cl (k_alloc_Alloc_Used t16 h3) fun t37 h4 =>
  cl (k_alloc_Alloc_Stale t16 h4) fun t39 h5 =>
  cl (k_alloc_Alloc_Left t16 h5) fun t41 h6 =>
  cl (k_alloc_Alloc_Unswept t16 (AV.int .i64 1) h6) fun t43 h7 =>
  cl (k_alloc_Alloc_SweepOne t16 h7) fun t45 h8 =>
  (eqP (some (.int .i64)) none false .eql t25 (AV.int .i64 0)).bind fun t47 =>
  gQ (gdW t47 true) h8 (some (t24, h8)) fun t49 h9 =>
  gQ (gdW t47 true) h9 ((eqP (some (.int .i64)) none false .eql t49 (AV.int .i64 64)).bind fun t50 =>
  some (t50, h9)) fun t50_10 h11 =>
  (pickP t47 t50_10 (AV.bool false)).bind fun t51 =>
  gQ (gdW t51 true) h11 (some (t30, h11)) fun t53 h12 =>
  gQ (gdW t51 true) h12 ((eqP (some (.int .i64)) none false .eql t53 (AV.int .i64 0)).bind fun t54 =>
  some (t54, h12)) fun t54_13 h14 =>
  (pickP t51 t54_13 (AV.bool false)).bind fun t55 =>
  gQ (gdW t55 true) h14 (some (t29, h14)) fun t57 h15 =>
  gQ (gdW t55 true) h15 ((eqP (some (.int .i64)) none false .eql t57 (AV.int .i64 128)).bind fun t58 =>
  some (t58, h15)) fun t58_16 h17 =>
  (pickP t55 t58_16 (AV.bool false)).bind fun t59 =>
  gQ (gdW t59 true) h17 (some (t35, h17)) fun t61 h18 =>
  gQ (gdW t59 true) h18 ((eqP (some (.int .i64)) none false .eql t61 (AV.int .i64 0)).bind fun t62 =>
  some (t62, h18)) fun t62_19 h20 =>
  (pickP t59 t62_19 (AV.bool false)).bind fun t63 =>
  gQ (gdW t63 true) h20 (some (t34, h20)) fun t65 h21 =>
  gQ (gdW t63 true) h21 ((eqP (some (.int .i64)) none false .eql t65 (AV.int .i64 66)).bind fun t66 =>
  some (t66, h21)) fun t66_22 h23 =>
  (pickP t63 t66_22 (AV.bool false)).bind fun t67 =>
  gQ (gdW t67 true) h23 (some (t37, h23)) fun t69 h24 =>
  gQ (gdW t67 true) h24 ((eqP (some (.int .i64)) none false .eql t69 (AV.int .i64 68)).bind fun t70 =>
  some (t70, h24)) fun t70_25 h26 =>
  (pickP t67 t70_25 (AV.bool false)).bind fun t71 =>
  gQ (gdW t71 true) h26 (some (t41, h26)) fun t73 h27 =>
  gQ (gdW t71 true) h27 ((eqP (some (.int .i64)) none false .eql t73 (AV.int .i64 2)).bind fun t74 =>
  some (t74, h27)) fun t74_28 h29 =>
  (pickP t71 t74_28 (AV.bool false)).bind fun t75 =>
  gQ (gdW t75 true) h29 (some (t43, h29)) fun t77 h30 =>
  (pickP t75 t77 (AV.bool false)).bind fun t78 =>
  gQ (gdW t78 true) h30 (some (t45, h30)) fun t80 h31 =>
  (pickP t78 t80 (AV.bool false)).bind fun t81 =>
  gQ (gdW t81 true) h31 (some (t16, h31)) fun t83 h32 =>
  gQ (gdW t81 true) h32 (cl (k_alloc_Alloc_Left t83 h32) fun t84 h33 =>
  some (t84, h33)) fun t84_34 h35 =>
  gQ (gdW t81 true) h35 ((eqP (some (.int .i64)) none false .eql t84_34 (AV.int .i64 1)).bind fun t85 =>
  some (t85, h35)) fun t85_36 h37 =>
  (pickP t81 t85_36 (AV.bool false)).bind fun t86 =>
  gQ (gdW t86 true) h37 (some (t17, h37)) fun t88 h38 =>
  gQ (gdW t86 true) h38 (cl (k_arena_Arena_Is t88 (AV.int .i64 64) h38) fun t89 h39 =>
  some (t89, h39)) fun t89_40 h41 =>
  gQ (gdW t86 true) h41 ((unA .not t89_40).bind fun t90 =>
  some (t90, h41)) fun t90_42 h43 =>
  (pickP t86 t90_42 (AV.bool false)).bind fun t91 =>
  some (t91, h43))
def k_law5_awake : Heap → Option (AV × Heap) := quiet hQ1
def T64 : Tab := (35, p0 k_law5_awake) :: T63
/- 40: gantline/gantlineref1.Class -/
def k_ref1_Class_b0 (x0 : AV) (q2 : AV) (q3 : AV) (h0 : Heap) : OutV :=
  (binP .lss q3 (AV.int .i64 6)).bind fun t5 =>
  gQ (gdW t5 true) h0 (some (x0, h0)) fun t7 h1 =>
  gQ (gdW t5 true) h1 ((binP .geq t7 (AV.int .i64 1)).bind fun t8 =>
  some (t8, h1)) fun t8_2 h3 =>
  (pickP t5 t8_2 (AV.bool false)).bind fun t9 =>
  condE t9 (
  cl (k_ref1_Words q3 h3) fun t13 h4 =>
  (binP .geq t13 x0).bind fun t15 =>
  condE t15 (
  some (.ret, [q3, q3], h4)) (
  (binP .add q3 (AV.int .i64 1)).bind fun t11 =>
  some (.normal, [q2, t11], h4))) (
  some ((.exit 0), [q2, q3], h3))
def k_ref1_Class_L0 (x0 : AV) (q2 : AV) (q3 : AV) (h0 : Heap) : OutV := loopN (fun us g => k_ref1_Class_b0 x0 (us.getD 0 .bot) (us.getD 1 .bot) g) [q2, q3] h0
def k_ref1_Class (x0 : AV) (h : Heap) : Option (AV × Heap) :=
  lp (k_ref1_Class_L0 x0 (AV.int .i64 0) (AV.int .i64 0) h) fun e vs h5 =>
  thenK (if e = .exit 0 then .normal else e) (
  some ((AV.int .i64 (-1)), h5)) (fun e_6 => endE e_6 (some ((vs.getD 0 .bot), h5)))
def T65 : Tab := (40, p1 k_ref1_Class) :: T64
/- 66: gantline/gantlineref1.Bit -/
def k_ref1_Bit (x0 : AV) (x1 : AV) (h : Heap) : Option (AV × Heap) :=
  (binP .geq x1 (AV.int .i64 0)).bind fun t6 =>
  gQ (gdW t6 true) h (some (x1, h)) fun t8 h0 =>
  gQ (gdW t6 true) h0 ((binP .lss t8 (AV.int .i64 64)).bind fun t9 =>
  some (t9, h0)) fun t9_1 h2 =>
  (pickP t6 t9_1 (AV.bool false)).bind fun t10 =>
  gQ (gdW t10 true) h2 (some (x0, h2)) fun t12 h3 =>
  gQ (gdW t10 true) h3 (some (x1, h3)) fun t13 h4 =>
  gQ (gdW t10 true) h4 ((cvI .u64 t13).bind fun t14 =>
  some (t14, h4)) fun t14_5 h6 =>
  gQ (gdW t10 true) h6 ((binP .shr t12 t14_5).bind fun t15 =>
  some (t15, h6)) fun t15_7 h8 =>
  gQ (gdW t10 true) h8 ((binP .and t15_7 (AV.int .u64 1)).bind fun t16 =>
  some (t16, h8)) fun t16_9 h10 =>
  gQ (gdW t10 true) h10 ((eqP (some (.int .u64)) none false .eql t16_9 (AV.int .u64 1)).bind fun t17 =>
  some (t17, h10)) fun t17_11 h12 =>
  (pickP t10 t17_11 (AV.bool false)).bind fun t18 =>
  some (t18, h12)
def T66 : Tab := (66, p2 k_ref1_Bit) :: T65
/- 41: gantline/gantlineref1.Ones -/
def k_ref1_Ones_b0 (x0 : AV) (q3 : AV) (q4 : AV) (h0 : Heap) : OutV :=
  (binP .lss q4 (AV.int .i64 64)).bind fun t6 =>
  condE t6 (
  cl (k_ref1_Bit x0 q4 h0) fun t11 h3 =>
  condE t11 (
  (binP .add q3 (AV.int .i64 1)).bind fun t13 =>
  (binP .add q4 (AV.int .i64 1)).bind fun t8_9 =>
  some (.normal, [t13, t8_9], h3)) (
  (binP .add q4 (AV.int .i64 1)).bind fun t8_10 =>
  some (.normal, [q3, t8_10], h3))) (
  some ((.exit 0), [q3, q4], h0))
def k_ref1_Ones_L0 (x0 : AV) (q3 : AV) (q4 : AV) (h0 : Heap) : OutV := loopN (fun us g => k_ref1_Ones_b0 x0 (us.getD 0 .bot) (us.getD 1 .bot) g) [q3, q4] h0
def k_ref1_Ones (x0 : AV) (h : Heap) : Option (AV × Heap) :=
  lp (k_ref1_Ones_L0 x0 (AV.int .i64 0) (AV.int .i64 0) h) fun e vs h11 =>
  thenK (if e = .exit 0 then .normal else e) (
  some ((vs.getD 0 .bot), h11)) (fun e_12 => endE e_12 (some ((AV.int .i64 0), h11)))
def T67 : Tab := (41, p1 k_ref1_Ones) :: T66
/- 9: gantline/gantlinelaw5.AllocFull -/
def k_law5_AllocFull_b0 (x1 : AV) (t32 : AV) (q10 : AV) (h10 : Heap) : OutV :=
  (lnL x1).bind fun t39 =>
  (binP .lss q10 t39).bind fun t40 =>
  condE t40 (
  (iaS 1 x1 q10).bind fun t46 =>
  (ldS h10 t46).bind fun t47 =>
  cl (k_alloc_Alloc_Take t32 t47 h10) fun t48 h11 =>
  (binP .add q10 (AV.int .i64 1)).bind fun t42 =>
  some (.normal, [t42], h11)) (
  some ((.exit 0), [q10], h10))
def k_law5_AllocFull_L0 (x1 : AV) (t32 : AV) (q10 : AV) (h10 : Heap) : OutV := loopN (fun us g => k_law5_AllocFull_b0 x1 t32 (us.getD 0 .bot) g) [q10] h10
def k_law5_AllocFull_b1 (x0 : AV) (t33 : AV) (t50 : AV) (q12 : AV) (q13 : AV) (h14 : Heap) : OutV :=
  (binP .lss q13 x0).bind fun t53 =>
  gQ (gdW t53 true) h14 (some (t50, h14)) fun t55 h15 =>
  gQ (gdW t53 true) h15 ((binP .geq t55 (AV.int .i64 0)).bind fun t56 =>
  some (t56, h15)) fun t56_16 h17 =>
  (pickP t53 t56_16 (AV.bool false)).bind fun t57 =>
  condE t57 (
  gQ (gdW q12 false) h17 (some (t33, h17)) fun t62 h18 =>
  gQ (gdW q12 false) h18 (some (q13, h18)) fun t63 h19 =>
  gQ (gdW q12 false) h19 (cl (k_arena_Arena_Class t62 t63 h19) fun t64 h20 =>
  some (t64, h20)) fun t64_21 h22 =>
  gQ (gdW q12 false) h22 ((binP .lss t64_21 (AV.int .i64 0)).bind fun t65 =>
  some (t65, h22)) fun t65_23 h24 =>
  (pickP q12 (AV.bool true) t65_23).bind fun t66 =>
  gQ (gdW t66 false) h24 (some (t33, h24)) fun t68 h25 =>
  gQ (gdW t66 false) h25 (some (q13, h25)) fun t69 h26 =>
  gQ (gdW t66 false) h26 (cl (k_arena_Arena_Class t68 t69 h26) fun t70 h27 =>
  some (t70, h27)) fun t70_28 h29 =>
  gQ (gdW t66 false) h29 (some (t50, h29)) fun t71 h30 =>
  gQ (gdW t66 false) h30 ((eqP (some (.int .i64)) none false .eql t70_28 t71).bind fun t72 =>
  some (t72, h30)) fun t72_31 h32 =>
  gQ (gdW t66 false) h32 (some (t72_31, h32)) fun t73 h33 =>
  gQ (gdW t73 true) h33 (some (t33, h33)) fun t74 h34 =>
  gQ (gdW t73 true) h34 (some (q13, h34)) fun t75 h35 =>
  gQ (gdW t73 true) h35 (cl (k_arena_Arena_Taken t74 t75 h35) fun t76 h36 =>
  some (t76, h36)) fun t76_37 h38 =>
  gQ (gdW t73 true) h38 (cl (k_ref1_Ones t76_37 h38) fun t77 h39 =>
  some (t77, h39)) fun t77_40 h41 =>
  gQ (gdW t73 true) h41 (some (t50, h41)) fun t78 h42 =>
  gQ (gdW t73 true) h42 (cl (k_ref1_Places t78 h42) fun t79 h43 =>
  some (t79, h43)) fun t79_44 h45 =>
  gQ (gdW t73 true) h45 ((binP .lss t77_40 t79_44).bind fun t80 =>
  some (t80, h45)) fun t80_46 h47 =>
  gQ (gdW t66 false) h47 ((pickP t73 t80_46 (AV.bool false)).bind fun t81 =>
  some (t81, h47)) fun t81_48 h49 =>
  (pickP t66 (AV.bool true) t81_48).bind fun t82 =>
  (binP .add q13 (AV.int .i64 1)).bind fun t59 =>
  some (.normal, [t82, t59], h49)) (
  some ((.exit 2), [q12, q13], h17))
def k_law5_AllocFull_L1 (x0 : AV) (t33 : AV) (t50 : AV) (q12 : AV) (q13 : AV) (h14 : Heap) : OutV := loopN (fun us g => k_law5_AllocFull_b1 x0 t33 t50 (us.getD 0 .bot) (us.getD 1 .bot) g) [q12, q13] h14
def k_law5_AllocFull (x0 : AV) (x1 : AV) (x2 : AV) (h : Heap) : Option (AV × Heap) :=
  cl (k_law5_awake h) fun t16 h0 =>
  (unA .not t16).bind fun t17 =>
  condE t17 (
  some ((AV.bool false), h0)) (
  (binP .lss x0 (AV.int .i64 8)).bind fun t19 =>
  gQ (gdW t19 false) h0 (some (x0, h0)) fun t21 h1 =>
  gQ (gdW t19 false) h1 ((binP .gtr t21 (AV.int .i64 12)).bind fun t22 =>
  some (t22, h1)) fun t22_2 h3 =>
  (pickP t19 (AV.bool true) t22_2).bind fun t23 =>
  gQ (gdW t23 false) h3 (some (x1, h3)) fun t25 h4 =>
  gQ (gdW t23 false) h4 ((lnL t25).bind fun t26 =>
  some (t26, h4)) fun t26_5 h6 =>
  gQ (gdW t23 false) h6 ((binP .gtr t26_5 (AV.int .i64 120)).bind fun t27 =>
  some (t27, h6)) fun t27_7 h8 =>
  (pickP t23 (AV.bool true) t27_7).bind fun t28 =>
  condE t28 (
  some ((AV.bool true), h8)) (
  cl (k_law5_made x0 h8) fun t31 h9 =>
  (extractV 0 t31).bind fun t32 =>
  (extractV 1 t31).bind fun t33 =>
  (extractV 2 t31).bind fun t34 =>
  (eqP (some (.pointer 0)) none false .eql t32 (AV.ptr none)).bind fun t36 =>
  condE t36 (
  some ((AV.bool false), h9)) (
  lp (k_law5_AllocFull_L0 x1 t32 (AV.int .i64 0) h9) fun e vs h12 =>
  thenK (if e = .exit 0 then .normal else e) (
  cl (k_ref1_Class x2 h12) fun t50 h13 =>
  lp (k_law5_AllocFull_L1 x0 t33 t50 (AV.bool false) (AV.int .i64 1) h13) fun e_50 vs_51 h52 =>
  thenK (if e_50 = .exit 2 then .normal else e_50) (
  cl (k_alloc_Alloc_Take t32 x2 h52) fun t86 h53 =>
  (extractV 0 t86).bind fun t87 =>
  (extractV 1 t86).bind fun t88 =>
  (binP .lss t50 (AV.int .i64 0)).bind fun t90 =>
  gQ (gdW t90 true) h53 (some (t88, h53)) fun t92 h54 =>
  gQ (gdW t90 true) h54 ((eqP (some (.int .i64)) none false .eql t92 (AV.int .i64 1)).bind fun t93 =>
  some (t93, h54)) fun t93_55 h56 =>
  (pickP t90 t93_55 (AV.bool false)).bind fun t94 =>
  gQ (gdW t94 false) h56 (some (t50, h56)) fun t96 h57 =>
  gQ (gdW t94 false) h57 ((binP .geq t96 (AV.int .i64 0)).bind fun t97 =>
  some (t97, h57)) fun t97_58 h59 =>
  gQ (gdW t94 false) h59 (some (t97_58, h59)) fun t98 h60 =>
  gQ (gdW t98 true) h60 (some (t88, h60)) fun t99 h61 =>
  gQ (gdW t98 true) h61 ((eqP (some (.int .i64)) none false .eql t99 (AV.int .i64 0)).bind fun t100 =>
  some (t100, h61)) fun t100_62 h63 =>
  gQ (gdW t98 true) h63 (some ((vs_51.getD 0 .bot), h63)) fun t101 h64 =>
  gQ (gdW t98 true) h64 ((eqP (some .bool) none false .eql t100_62 t101).bind fun t102 =>
  some (t102, h64)) fun t102_65 h66 =>
  gQ (gdW t94 false) h66 ((pickP t98 t102_65 (AV.bool false)).bind fun t103 =>
  some (t103, h66)) fun t103_67 h68 =>
  (pickP t94 (AV.bool true) t103_67).bind fun t104 =>
  some (t104, h68)) (fun e_69 => endE e_69 (some ((AV.bool false), h52)))) (fun e_70 => endE e_70 (some ((AV.bool false), h12))))))
def T68 : Tab := (9, p3 k_law5_AllocFull) :: T67
/- 10: gantline/gantlinelaw5.AllocAgain -/
def k_law5_AllocAgain_b0 (x1 : AV) (t33 : AV) (q4 : AV) (q8 : AV) (h11 : Heap) : OutV :=
  cl (k_alloc_Alloc_Take t33 x1 h11) fun t41 h12 =>
  (extractV 0 t41).bind fun t42 =>
  (extractV 1 t41).bind fun t43 =>
  (eqP (some (.int .i64)) none false .neq t43 (AV.int .i64 0)).bind fun t45 =>
  condE t45 (
  some ((.exit 0), [q4, q8], h12)) (
  (binP .add q8 (AV.int .i64 1)).bind fun t47 =>
  (binP .gtr t47 (AV.int .i64 1000)).bind fun t49 =>
  condE t49 (
  some (.ret, [(AV.bool false), t47], h12)) (
  some (.normal, [q4, t47], h12)))
def k_law5_AllocAgain_L0 (x1 : AV) (t33 : AV) (q4 : AV) (q8 : AV) (h11 : Heap) : OutV := loopN (fun us g => k_law5_AllocAgain_b0 x1 t33 (us.getD 0 .bot) (us.getD 1 .bot) g) [q4, q8] h11
def k_law5_AllocAgain_b1 (x1 : AV) (t33 : AV) (q4_15 : AV) (q11 : AV) (h16 : Heap) : OutV :=
  cl (k_alloc_Alloc_Take t33 x1 h16) fun t55 h17 =>
  (extractV 0 t55).bind fun t56 =>
  (extractV 1 t55).bind fun t57 =>
  (eqP (some (.int .i64)) none false .neq t57 (AV.int .i64 0)).bind fun t59 =>
  condE t59 (
  some ((.exit 2), [q4_15, q11], h17)) (
  (binP .add q11 (AV.int .i64 1)).bind fun t61 =>
  (binP .gtr t61 (AV.int .i64 1000)).bind fun t63 =>
  condE t63 (
  some (.ret, [(AV.bool false), t61], h17)) (
  some (.normal, [q4_15, t61], h17)))
def k_law5_AllocAgain_L1 (x1 : AV) (t33 : AV) (q4_15 : AV) (q11 : AV) (h16 : Heap) : OutV := loopN (fun us g => k_law5_AllocAgain_b1 x1 t33 (us.getD 0 .bot) (us.getD 1 .bot) g) [q4_15, q11] h16
def k_law5_AllocAgain (x0 : AV) (x1 : AV) (h : Heap) : Option (AV × Heap) :=
  cl (k_law5_awake h) fun t14 h0 =>
  (unA .not t14).bind fun t15 =>
  condE t15 (
  some ((AV.bool false), h0)) (
  (binP .lss x0 (AV.int .i64 8)).bind fun t17 =>
  gQ (gdW t17 false) h0 (some (x0, h0)) fun t19 h1 =>
  gQ (gdW t17 false) h1 ((binP .gtr t19 (AV.int .i64 16)).bind fun t20 =>
  some (t20, h1)) fun t20_2 h3 =>
  (pickP t17 (AV.bool true) t20_2).bind fun t21 =>
  gQ (gdW t21 false) h3 (some (x1, h3)) fun t23 h4 =>
  gQ (gdW t21 false) h4 ((binP .lss t23 (AV.int .i64 1)).bind fun t24 =>
  some (t24, h4)) fun t24_5 h6 =>
  (pickP t21 (AV.bool true) t24_5).bind fun t25 =>
  gQ (gdW t25 false) h6 (some (x1, h6)) fun t27 h7 =>
  gQ (gdW t25 false) h7 ((binP .gtr t27 (AV.int .i64 64)).bind fun t28 =>
  some (t28, h7)) fun t28_8 h9 =>
  (pickP t25 (AV.bool true) t28_8).bind fun t29 =>
  condE t29 (
  some ((AV.bool true), h9)) (
  cl (k_law5_made x0 h9) fun t32 h10 =>
  (extractV 0 t32).bind fun t33 =>
  (extractV 1 t32).bind fun t34 =>
  (extractV 2 t32).bind fun t35 =>
  (eqP (some (.pointer 0)) none false .eql t33 (AV.ptr none)).bind fun t37 =>
  condE t37 (
  some ((AV.bool false), h10)) (
  lp (k_law5_AllocAgain_L0 x1 t33 (AV.bool false) (AV.int .i64 0) h10) fun e vs h13 =>
  thenK (if e = .exit 0 then .normal else e) (
  cl (k_alloc_Alloc_Stale t33 h13) fun t51 h14 =>
  lp (k_law5_AllocAgain_L1 x1 t33 (vs.getD 0 .bot) (AV.int .i64 0) h14) fun e_18 vs_19 h20 =>
  thenK (if e_18 = .exit 2 then .normal else e_18) (
  (eqP (some (.int .i64)) none false .eql (vs.getD 1 .bot) (vs_19.getD 1 .bot)).bind fun t66 =>
  gQ (gdW t66 true) h20 (some ((vs.getD 1 .bot), h20)) fun t68 h21 =>
  gQ (gdW t66 true) h21 ((binP .gtr t68 (AV.int .i64 0)).bind fun t69 =>
  some (t69, h21)) fun t69_22 h23 =>
  (pickP t66 t69_22 (AV.bool false)).bind fun t70 =>
  gQ (gdW t70 true) h23 (some (t33, h23)) fun t72 h24 =>
  gQ (gdW t70 true) h24 (cl (k_alloc_Alloc_Left t72 h24) fun t73 h25 =>
  some (t73, h25)) fun t73_26 h27 =>
  gQ (gdW t70 true) h27 ((eqP (some (.int .i64)) none false .eql t73_26 (AV.int .i64 0)).bind fun t74 =>
  some (t74, h27)) fun t74_28 h29 =>
  (pickP t70 t74_28 (AV.bool false)).bind fun t75 =>
  gQ (gdW t75 true) h29 (some (t34, h29)) fun t77 h30 =>
  gQ (gdW t75 true) h30 (cl (k_arena_Arena_Is t77 (AV.int .i64 64) h30) fun t78 h31 =>
  some (t78, h31)) fun t78_32 h33 =>
  (pickP t75 t78_32 (AV.bool false)).bind fun t79 =>
  some (t79, h33)) (fun e_34 => endE e_34 (some ((vs_19.getD 0 .bot), h20)))) (fun e_35 => endE e_35 (some ((vs.getD 0 .bot), h13))))))
def T69 : Tab := (10, p2 k_law5_AllocAgain) :: T68
/- 11: gantline/gantlinelaw5.AllocKeeps -/
def k_law5_AllocKeeps_j0 (q13 : AV) (q12_48 : AV) (h49 : Heap) : OutV :=
  (binP .add q13 (AV.int .i64 1)).bind fun t59_50 =>
  some (.normal, [q12_48, t59_50], h49)
def k_law5_AllocKeeps_b0 (x1 : AV) (x2 : AV) (t49 : AV) (t50 : AV) (q12 : AV) (q13 : AV) (h20 : Heap) : OutV :=
  (lnL x1).bind fun t56 =>
  (binP .lss q13 t56).bind fun t57 =>
  condE t57 (
  (iaS 1 x1 q13).bind fun t64 =>
  (ldS h20 t64).bind fun t65 =>
  cl (k_alloc_Alloc_Take t49 t65 h20) fun t66 h23 =>
  (extractV 0 t66).bind fun t67 =>
  (extractV 1 t66).bind fun t68 =>
  (eqP (some (.int .i64)) none false .eql t68 (AV.int .i64 0)).bind fun t70 =>
  gQ (gdW t70 true) h23 (some (q13, h23)) fun t72 h24 =>
  gQ (gdW t70 true) h24 (some (x2, h24)) fun t73 h25 =>
  gQ (gdW t70 true) h25 ((lnL t73).bind fun t74 =>
  some (t74, h25)) fun t74_26 h27 =>
  gQ (gdW t70 true) h27 ((binP .lss t72 t74_26).bind fun t75 =>
  some (t75, h27)) fun t75_28 h29 =>
  (pickP t70 t75_28 (AV.bool false)).bind fun t76 =>
  gQ (gdW t76 true) h29 (some (x2, h29)) fun t78 h30 =>
  gQ (gdW t76 true) h30 (some (q13, h30)) fun t79 h31 =>
  gQ (gdW t76 true) h31 ((iaS 1 t78 t79).bind fun t80 =>
  some (t80, h31)) fun t80_32 h33 =>
  gQ (gdW t76 true) h33 ((ldS h33 t80_32).bind fun t81 =>
  some (t81, h33)) fun t81_34 h35 =>
  (pickP t76 t81_34 (AV.bool false)).bind fun t82 =>
  condE t82 (
  cl (k_arena_Arena_Mark t50 t67 h35) fun t85 h51 =>
  (binP .add (AV.int .i64 1000) t67).bind fun t89 =>
  cl (k_arena_Arena_Write t50 t67 (AV.int .i64 0) t89 h51) fun t90 h52 =>
  mk Heap.new (bsP 1 [(AV.int .i64 0)] 1 [(0, t67)]) h52 fun t93 h53 =>
  cl (appendA h53 1 8 q12 t93) fun t94 h54 =>
  k_law5_AllocKeeps_j0 q13 t94 h54) (
  k_law5_AllocKeeps_j0 q13 q12 h35)) (
  some ((.exit 0), [q12, q13], h20))
def k_law5_AllocKeeps_L0 (x1 : AV) (x2 : AV) (t49 : AV) (t50 : AV) (q12 : AV) (q13 : AV) (h20 : Heap) : OutV := loopN (fun us g => k_law5_AllocKeeps_b0 x1 x2 t49 t50 (us.getD 0 .bot) (us.getD 1 .bot) g) [q12, q13] h20
def k_law5_AllocKeeps_b1 (vs : List AV) (t110 : AV) (t111 : AV) (q8_59 : AV) (q19 : AV) (h60 : Heap) : OutV :=
  (lnL (vs.getD 0 .bot)).bind fun t114 =>
  (binP .lss q19 t114).bind fun t115 =>
  gQ (gdW t115 true) h60 (some (t111, h60)) fun t117 h61 =>
  gQ (gdW t115 true) h61 ((eqP (some (.int .i64)) none false .eql t117 (AV.int .i64 0)).bind fun t118 =>
  some (t118, h61)) fun t118_62 h63 =>
  (pickP t115 t118_62 (AV.bool false)).bind fun t119 =>
  condE t119 (
  (iaS 1 (vs.getD 0 .bot) q19).bind fun t124 =>
  (ldS h63 t124).bind fun t125 =>
  (eqP (some (.int .i64)) none false .eql t125 t110).bind fun t127 =>
  condE t127 (
  some (.ret, [(AV.bool false), q19], h63)) (
  (binP .add q19 (AV.int .i64 1)).bind fun t121 =>
  some (.normal, [q8_59, t121], h63))) (
  some ((.exit 4), [q8_59, q19], h63))
def k_law5_AllocKeeps_L1 (vs : List AV) (t110 : AV) (t111 : AV) (q8_59 : AV) (q19 : AV) (h60 : Heap) : OutV := loopN (fun us g => k_law5_AllocKeeps_b1 vs t110 t111 (us.getD 0 .bot) (us.getD 1 .bot) g) [q8_59, q19] h60
def k_law5_AllocKeeps_b2 (x3 : AV) (t49 : AV) (vs : List AV) (q8 : AV) (q16 : AV) (h57 : Heap) : OutV :=
  (lnL x3).bind fun t99 =>
  (binP .lss q16 t99).bind fun t100 =>
  condE t100 (
  (iaS 1 x3 q16).bind fun t107 =>
  (ldS h57 t107).bind fun t108 =>
  cl (k_alloc_Alloc_Take t49 t108 h57) fun t109 h58 =>
  (extractV 0 t109).bind fun t110 =>
  (extractV 1 t109).bind fun t111 =>
  lp (k_law5_AllocKeeps_L1 vs t110 t111 q8 (AV.int .i64 0) h58) fun e_64 vs_65 h66 =>
  thenK (if (if e_64 = .exit 4 then .normal else e_64) = .exit 3 then .normal else (if e_64 = .exit 4 then .normal else e_64)) (
  (binP .add q16 (AV.int .i64 1)).bind fun t102 =>
  some (.normal, [(vs_65.getD 0 .bot), t102], h66)) (fun e_67 => some (e_67, [(vs_65.getD 0 .bot), q16], h66))) (
  some ((.exit 2), [q8, q16], h57))
def k_law5_AllocKeeps_L2 (x3 : AV) (t49 : AV) (vs : List AV) (q8 : AV) (q16 : AV) (h57 : Heap) : OutV := loopN (fun us g => k_law5_AllocKeeps_b2 x3 t49 vs (us.getD 0 .bot) (us.getD 1 .bot) g) [q8, q16] h57
def k_law5_AllocKeeps_b3 (t49 : AV) (h71 : Heap) : OutV :=
  cl (k_alloc_Alloc_SweepOne t49 h71) fun t129 h72 =>
  condE t129 (
  some (.normal, [], h72)) (
  some ((.exit 6), [], h72))
def k_law5_AllocKeeps_L3 (t49 : AV) (h71 : Heap) : OutV := loopN (fun us g => k_law5_AllocKeeps_b3 t49 g) [] h71
def k_law5_AllocKeeps_b4 (t50 : AV) (vs : List AV) (q8_76 : AV) (q20 : AV) (h77 : Heap) : OutV :=
  (lnL (vs.getD 0 .bot)).bind fun t132 =>
  (binP .lss q20 t132).bind fun t133 =>
  condE t133 (
  (iaS 1 (vs.getD 0 .bot) q20).bind fun t140 =>
  (ldS h77 t140).bind fun t141 =>
  cl (k_arena_Arena_Read t50 t141 (AV.int .i64 0) h77) fun t142 h78 =>
  (extractV 0 t142).bind fun t143 =>
  (extractV 1 t142).bind fun t144 =>
  (eqP (some (.int .i64)) none false .neq t144 (AV.int .i64 0)).bind fun t146 =>
  gQ (gdW t146 false) h78 (some (t143, h78)) fun t148 h79 =>
  gQ (gdW t146 false) h79 (some ((vs.getD 0 .bot), h79)) fun t149 h80 =>
  gQ (gdW t146 false) h80 (some (q20, h80)) fun t150 h81 =>
  gQ (gdW t146 false) h81 ((iaS 1 t149 t150).bind fun t151 =>
  some (t151, h81)) fun t151_82 h83 =>
  gQ (gdW t146 false) h83 ((ldS h83 t151_82).bind fun t152 =>
  some (t152, h83)) fun t152_84 h85 =>
  gQ (gdW t146 false) h85 ((binP .add (AV.int .i64 1000) t152_84).bind fun t153 =>
  some (t153, h85)) fun t153_86 h87 =>
  gQ (gdW t146 false) h87 ((eqP (some (.int .i64)) none false .neq t148 t153_86).bind fun t154 =>
  some (t154, h87)) fun t154_88 h89 =>
  (pickP t146 (AV.bool true) t154_88).bind fun t155 =>
  condE t155 (
  some (.ret, [(AV.bool false), q20], h89)) (
  (binP .add q20 (AV.int .i64 1)).bind fun t135 =>
  some (.normal, [q8_76, t135], h89))) (
  some ((.exit 8), [q8_76, q20], h77))
def k_law5_AllocKeeps_L4 (t50 : AV) (vs : List AV) (q8_76 : AV) (q20 : AV) (h77 : Heap) : OutV := loopN (fun us g => k_law5_AllocKeeps_b4 t50 vs (us.getD 0 .bot) (us.getD 1 .bot) g) [q8_76, q20] h77
def k_law5_AllocKeeps (x0 : AV) (x1 : AV) (x2 : AV) (x3 : AV) (h : Heap) : Option (AV × Heap) :=
  cl (k_law5_awake h) fun t23 h0 =>
  (unA .not t23).bind fun t24 =>
  condE t24 (
  some ((AV.bool false), h0)) (
  (binP .lss x0 (AV.int .i64 8)).bind fun t26 =>
  gQ (gdW t26 false) h0 (some (x0, h0)) fun t28 h1 =>
  gQ (gdW t26 false) h1 ((binP .gtr t28 (AV.int .i64 16)).bind fun t29 =>
  some (t29, h1)) fun t29_2 h3 =>
  (pickP t26 (AV.bool true) t29_2).bind fun t30 =>
  gQ (gdW t30 false) h3 (some (x1, h3)) fun t32 h4 =>
  gQ (gdW t30 false) h4 ((lnL t32).bind fun t33 =>
  some (t33, h4)) fun t33_5 h6 =>
  gQ (gdW t30 false) h6 ((binP .gtr t33_5 (AV.int .i64 60)).bind fun t34 =>
  some (t34, h6)) fun t34_7 h8 =>
  (pickP t30 (AV.bool true) t34_7).bind fun t35 =>
  gQ (gdW t35 false) h8 (some (x3, h8)) fun t37 h9 =>
  gQ (gdW t35 false) h9 ((lnL t37).bind fun t38 =>
  some (t38, h9)) fun t38_10 h11 =>
  gQ (gdW t35 false) h11 ((binP .gtr t38_10 (AV.int .i64 60)).bind fun t39 =>
  some (t39, h11)) fun t39_12 h13 =>
  (pickP t35 (AV.bool true) t39_12).bind fun t40 =>
  gQ (gdW t40 false) h13 (some (x2, h13)) fun t42 h14 =>
  gQ (gdW t40 false) h14 ((lnL t42).bind fun t43 =>
  some (t43, h14)) fun t43_15 h16 =>
  gQ (gdW t40 false) h16 ((binP .gtr t43_15 (AV.int .i64 100)).bind fun t44 =>
  some (t44, h16)) fun t44_17 h18 =>
  (pickP t40 (AV.bool true) t44_17).bind fun t45 =>
  condE t45 (
  some ((AV.bool true), h18)) (
  cl (k_law5_made x0 h18) fun t48 h19 =>
  (extractV 0 t48).bind fun t49 =>
  (extractV 1 t48).bind fun t50 =>
  (extractV 2 t48).bind fun t51 =>
  (eqP (some (.pointer 0)) none false .eql t49 (AV.ptr none)).bind fun t53 =>
  condE t53 (
  some ((AV.bool false), h19)) (
  lp (k_law5_AllocKeeps_L0 x1 x2 t49 t50 (AV.sl none 0 (.ex 0)) (AV.int .i64 0) h19) fun e vs h55 =>
  thenK (if e = .exit 0 then .normal else e) (
  cl (k_alloc_Alloc_Stale t49 h55) fun t96 h56 =>
  lp (k_law5_AllocKeeps_L2 x3 t49 vs (AV.bool false) (AV.int .i64 0) h56) fun e_68 vs_69 h70 =>
  thenK (if e_68 = .exit 2 then .normal else e_68) (
  lp (k_law5_AllocKeeps_L3 t49 h70) fun e_73 vs_74 h75 =>
  thenK (if e_73 = .exit 6 then .normal else e_73) (
  lp (k_law5_AllocKeeps_L4 t50 vs (vs_69.getD 0 .bot) (AV.int .i64 0) h75) fun e_90 vs_91 h92 =>
  thenK (if e_90 = .exit 8 then .normal else e_90) (
  cl (k_alloc_Alloc_Left t49 h92) fun t157 h93 =>
  (eqP (some (.int .i64)) none false .eql t157 (AV.int .i64 0)).bind fun t158 =>
  some (t158, h93)) (fun e_94 => endE e_94 (some ((vs_91.getD 0 .bot), h92)))) (fun e_95 => endE e_95 (some ((vs_69.getD 0 .bot), h75)))) (fun e_96 => endE e_96 (some ((vs_69.getD 0 .bot), h70)))) (fun e_97 => endE e_97 (some ((AV.bool false), h55))))))
def T70 : Tab := (11, p4 k_law5_AllocKeeps) :: T69
end
end Go.Ab.F