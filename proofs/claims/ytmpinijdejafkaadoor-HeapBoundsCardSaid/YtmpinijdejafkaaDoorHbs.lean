import Derived.Test.YtmpinijdejafkaaDoorHea
import Derived.Test.YtmpinijdejafkaaDoorArn

namespace Go.Ab.F
open Go Go.Ab
set_option linter.all false
set_option linter.all false
attribute [local congr] c_bind c_cl c_mk c_lp c_clC c_gQ c_gV c_condE c_thenK

/-! Law 14's heaps. -/
def sh14 : List Shp := [⟨0, 2, 2⟩, ⟨1, 0, 0⟩, ⟨1, 0, 1⟩]
theorem sh14_nd : sh14.Nodup := by decide
theorem sh14_good : ∀ s ∈ sh14, goodB s = true := by decide
theorem shapes14 (h : Heap) : k_law14_shapes h = some (.sl (some (h.next, 0)) 3 (.ex 3), h.new (.cells true (shC sh14))) := rfl
theorem ofP_lies {a : PAr} {T : List Shp} {ad : Int} {ws : List Int} {n k : Int} {sx : Nat} {s : Shp} (W : Wf a) (L : Lies a ad ws) (h0 : ws[0]? = some (n + 128 * k + 1024 * sx)) (hm : mayP n k sx) (hs : T[sx]? = some s) :
    ofP a T ad = some ((n, k, (sx : Int)), s) := by
  have hp := L.pos W
  have hr : a.read ad 0 = (n + 128 * k + 1024 * sx, 0) := by
    rw [L.read W, if_pos ⟨by omega, by omega⟩]
    simp [h0]
  unfold ofP
  rw [hr]
  simp only [if_true, unp_pack hm, Int.toNat_natCast, hs]
theorem ofP_none {a : PAr} {T : List Shp} {ad : Int} (h : a.find ad = none) : ofP a T ad = none := by
  unfold ofP
  rw [read_no h]
  rfl
theorem bounds_loop {h : Heap} {A : Nat → Nat} {l : PAl} (H : HpAt h A l sh14 0) {ad : Int} {ws : List Int} {n : Nat} {i v : Int} (hn : n ≤ 63) (L : Lies l.ar ad ws) (h0 : ws[0]? = some (((n + 1 : Nat) : Int) + 128 * 1 + 1024 * ((1 : Nat) : Int)))
    (hw : n + 1 ≤ ws.length) (hc : ∀ k : Nat, k < n → ws[k + 1]? = some (if (k : Int) = i then v else 0)) (q : AV) :
    Ok (k_law14_HeapBounds_L0 (.int .i64 n) (.int .i64 i) (.int .i64 v) (.ptr (some (A 0, 0))) (.int .i64 ad) q (.int .i64 0) h) fun r => r.1 = .exit 0 := by
  refine ok_loop (fun m vs g => ∃ k : Nat, vs = [q, .int .i64 k] ∧ m + k = n ∧ HpAt g A l sh14 0) ?_ (n := n) (by omega) ⟨0, rfl, rfl, H⟩
  rintro m vs g ⟨k, rfl, hm, G⟩
  rw [gd0, gd1]
  by_cases hk : k < n
  · have hlt : (k : Int) < n := by omega
    have ho := ofP_lies (T := sh14) G.wf L h0 ⟨by omega, by omega, by omega, by omega, by omega, by omega⟩ (s := ⟨1, 0, 0⟩) rfl
    have he : elP (ofP l.ar sh14 ad) (k : Int) false = 0 := by
      rw [ho]
      show (if (1 : Int) ≠ 1 ∨ (0 : BitVec 64).getLsbD 0 ≠ false then 1 else if (k : Int) < 0 ∨ ((n + 1 : Nat) : Int) - 1 ≤ k then 2 else 0 : Int) = 0
      rw [if_neg (by decide), if_neg (by omega)]
    have hr : (l.ar.read ad ((k : Int) + 1)).1 = if (k : Int) = i then v else 0 := by
      rw [L.read G.wf, if_pos ⟨by omega, by omega⟩]
      simp only
      rw [show ((k : Int) + 1).toNat = k + 1 by omega, hc k hk]; rfl
    refine Ok.eq ?_ (by simp -implicitDefEqProofs only [k_law14_HeapBounds_b0, bin_lss, hlt, decide_true, Option.bind_some, condE_true] <;> rfl)
    refine ok_cl (at_ok G ad k false) ?_
    rintro _ g1 ⟨rfl, s1⟩
    simp only at s1
    have G1 := G.keep s1
    have hsc := suc64 k (by omega)
    refine (Ok.of (r := (.normal, [q, .int .i64 ((k + 1 : Nat) : Int)], g1)) (.inl ⟨rfl, m - 1, by omega, k + 1, rfl, by omega, G1⟩)).eq ?_
    rw [he, if_pos rfl, hr]
    by_cases hki : (k : Int) = i
    · have d : decide ((k : Int) = i) = true := by simp [hki]
      simp -implicitDefEqProofs only [extractV_tup, e0, e1, Option.bind_some, eql_int, d, condE_true, k_law14_HeapBounds_j0, neq_int, decide_true, Bool.not_true, gdW_ff, gQ_true, cl_some, if_pos hki, pickP_bool, Bool.false_eq_true, if_false, condE_false, bin_add, hsc]
    · have d : decide ((k : Int) = i) = false := by simp [hki]
      simp -implicitDefEqProofs only [extractV_tup, e0, e1, Option.bind_some, eql_int, d, condE_true, condE_false, k_law14_HeapBounds_j0, neq_int, decide_true, Bool.not_true, gdW_ff, gQ_true, cl_some, if_neg hki, pickP_bool, Bool.false_eq_true, if_false, bin_add, hsc]
  · have hlt : ¬ (k : Int) < n := by omega
    refine (Ok.of (r := (.exit 0, [q, .int .i64 (k : Int)], g)) (.inr ⟨by simp, rfl⟩)).eq (by simp -implicitDefEqProofs only [k_law14_HeapBounds_b0, bin_lss, hlt, decide_false, Option.bind_some, condE_false])
theorem bounds_true {h : Heap} (hsub : Sub hQ1 h) (hn1 : 1 ≤ h.next) (n i v : Int) : Ok (k_law14_HeapBounds (.int .i64 n) (.int .i64 i) (.int .i64 v) h) fun r => r.1 = .bool true := by
  have ht := tab0_sub hsub hn1
  have haw : k_law14_awake h = some (.bool true, h) := quiet_pos hsub
  by_cases h1 : n < 0
  · exact ok_val (v := .bool true) (g := h) (by simp -implicitDefEqProofs only [k_law14_HeapBounds, haw, cl_some, un_not, Bool.not_true, Option.bind_some, condE_false, bin_lss, h1, decide_true, gdW_tf, gQ_false, pickP_bool, if_true, condE_true]) rfl
  by_cases h2 : 63 < n
  · exact ok_val (v := .bool true) (g := h) (by simp -implicitDefEqProofs only [k_law14_HeapBounds, haw, cl_some, un_not, Bool.not_true, Option.bind_some, condE_false, bin_lss, bin_gtr, h1, h2, decide_true, decide_false, gdW_ff, gQ_true, pickP_bool, Bool.false_eq_true, if_false, condE_true]) rfl
  obtain ⟨N, rfl⟩ : ∃ N : Nat, n = N := ⟨n.toNat, by omega⟩
  refine Ok.eq ?_ (by simp -implicitDefEqProofs only [k_law14_HeapBounds, haw, cl_some, un_not, Bool.not_true, Option.bind_some, condE_false, bin_lss, bin_gtr, h1, h2, decide_false, gdW_ff, gQ_true, pickP_bool, Bool.false_eq_true, if_false, shapes14] <;> rfl)
  have s0 : Same [] h (h.new (.cells true (shC sh14))) := Same.new _ _
  refine ok_cl (hnew_ok (h := h.new (.cells true (shC sh14))) (N := 8) (T := sh14) (by decide) (by decide) (ht.same s0 (by simp)) get_new_eq (Nat.lt_succ_self _) (by decide) (by decide) sh14_nd sh14_good) ?_
  rintro _ g1 ⟨A, rfl, H1, s1, _⟩
  simp only at H1 s1
  have bn : bldS [(0, 1)] [(AV.sl none 0 (.ex 0))] [] = some (.agg [.sl none 0 (.ex 0)]) := rfl
  have xn : bxP (.agg [.sl none 0 (.ex 0)]) = some (.cells true [.sl none 0 (.ex 0)], fun i => .ptr (some (i, 0))) := rfl
  have s2 : Same [] g1 (g1.new (.cells true [.sl none 0 (.ex 0)])) := Same.new _ _
  have H2 := H1.keep s2
  have hsc := suc64 N (by omega)
  refine Ok.eq ?_ (by simp -implicitDefEqProofs only [extractV_tup, e0, e1, Option.bind_some, neq_int, decide_true, Bool.not_true, condE_false, bin_add, hsc, bn, xn, mk_some] <;> rfl)
  have hlen : (newA 8).sp.length = 8 := by show (List.replicate 8 _).length = 8; rw [List.length_replicate]
  have hu8 := used_new 8
  refine ok_cl (make_ok H2 (sx := 1) (s := ⟨1, 0, 0⟩) rfl (n := ((N + 1 : Nat) : Int)) (by omega) (by omega) (by show (newA 8).used + 1 < (newA 8).sp.length; omega) _) ?_
  rintro _ g3 ⟨ad, l', rfl, H3, s3, M⟩
  simp only at H3 s3
  have hcl := class_some (n := ((N + 1 : Nat) : Int)) (by omega) (by omega)
  have hm : mayP ((N + 1 : Nat) : Int) 1 ((1 : Nat) : Int) := ⟨by omega, by omega, by omega, by omega, by omega, by omega⟩
  have ho := ofP_lies (T := sh14) H3.wf M.lies rfl hm (s := ⟨1, 0, 0⟩) rfl
  have hx : ((N + 1 : Nat) : Int) - 1 = N := by omega
  have hln : lenP (ofP l'.ar sh14 ad) = ((N : Int), 0) := by
    rw [ho]
    show (if (1 : Int) = 1 then (((N + 1 : Nat) : Int) - 1, (0 : Int)) else (0, 1)) = _
    rw [if_pos rfl, hx]
  refine Ok.eq ?_ (by simp -implicitDefEqProofs only [extractV_tup, e0, e1, Option.bind_some] <;> rfl)
  refine ok_cl (len_ok H3 ad) ?_
  rintro _ g4 ⟨rfl, s4⟩
  simp only at s4
  rw [hln]
  have H4 := H3.keep s4
  refine Ok.eq ?_ (by simp -implicitDefEqProofs only [extractV_tup, e0, e1, Option.bind_some, neq_int, decide_true, Bool.not_true, gdW_ff, gQ_true, cl_some, pickP_bool, Bool.false_eq_true, if_false, condE_false] <;> rfl)
  refine ok_cl (put_ok H4 ad i v false true (.int .i64 1)) ?_
  rintro _ g5 ⟨rfl, H5, s5⟩
  simp only at H5 s5
  have hel : elP (ofP l'.ar sh14 ad) i false = if i < 0 ∨ (N : Int) ≤ i then 2 else 0 := by
    rw [ho]
    show (if (1 : Int) ≠ 1 ∨ (0 : BitVec 64).getLsbD 0 ≠ false then 1 else if i < 0 ∨ ((N + 1 : Nat) : Int) - 1 ≤ i then 2 else 0 : Int) = _
    rw [if_neg (by decide), hx]
  rw [hel] at H5
  rw [hel]
  have z22 : decide ((2 : Int) = 2) = true := rfl
  by_cases h3 : i < 0
  · rw [if_pos (.inl h3)]
    exact ok_val (v := .bool true) (g := g5) (by simp -implicitDefEqProofs only [bin_lss, h3, decide_true, Option.bind_some, gdW_tf, gQ_false, pickP_bool, if_true, condE_true, eql_int]) rfl
  by_cases h4 : (N : Int) ≤ i
  · rw [if_pos (.inr h4)]
    exact ok_val (v := .bool true) (g := g5) (by simp -implicitDefEqProofs only [bin_lss, h3, decide_false, Option.bind_some, gdW_ff, gQ_true, cl_some, bin_geq, h4, decide_true, pickP_bool, Bool.false_eq_true, if_false, condE_true, eql_int]) rfl
  have hno : ¬ (i < 0 ∨ (N : Int) ≤ i) := by omega
  rw [if_neg hno] at H5 ⊢
  unfold PAl.wr at H5
  rw [if_pos rfl] at H5
  have hll : ((((N + 1 : Nat) : Int) + 128 * 1 + 1024 * ((1 : Nat) : Int)) :: List.replicate ((wordsOf (classOf ((N + 1 : Nat) : Int))).toNat - 1) (0 : Int)).length = (wordsOf (classOf ((N + 1 : Nat) : Int))).toNat := by
    simp only [List.length_cons, List.length_replicate]; omega
  obtain ⟨b, e1', e2', e3', L5, _⟩ := M.lies.write H3.wf (k := i + 1) (by
    show 0 ≤ i + 1 ∧ i + 1 < ((_ :: List.replicate _ _ : List Int).length : Int)
    rw [hll]; omega) v
  rw [e1'] at H5
  refine Ok.eq ?_ (by simp -implicitDefEqProofs only [bin_lss, h3, decide_false, Option.bind_some, gdW_ff, gQ_true, cl_some, bin_geq, h4, pickP_bool, Bool.false_eq_true, if_false, condE_false] <;> rfl)
  refine ok_lp (bounds_loop H5 (n := N) (i := i) (v := v) (by omega) L5 ?_ ?_ ?_ _) ?_
  · rw [List.getElem?_set_ne (by omega)]; rfl
  · rw [List.length_set]
    show N + 1 ≤ (_ :: List.replicate _ _ : List Int).length
    rw [hll]; omega
  · intro k hk
    rw [show (i + 1).toNat = i.toNat + 1 by omega]
    by_cases hki : (k : Int) = i
    · rw [if_pos hki, show k = i.toNat by omega, List.getElem?_set_self (by rw [hll]; omega)]
    · rw [if_neg hki, List.getElem?_set_ne (by omega), List.getElem?_cons_succ, List.getElem?_replicate, if_pos (by omega)]
  · rintro _ vs g6 rfl
    exact ok_val (v := .bool true) (g := g6) (by simp -implicitDefEqProofs only [if_true, thenK_normal, eql_int, decide_true, Option.bind_some]) rfl
end Go.Ab.F
