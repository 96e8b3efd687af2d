import Derived.Test.YtfenhliknhmihaaDoorL4u
namespace Go.Ab.F
open Go Go.Ab
set_option linter.all false
attribute [local congr] c_bind c_cl c_mk c_lp c_clC c_gQ c_gV c_condE c_thenK

theorem newA_at {x : Nat} {n : Int} (hn : 1 ≤ n ∧ n < x) : (newA x).at n = ⟨-1, 0, 0⟩ := by
  unfold PAr.at newA
  simp only
  rw [List.getElem?_replicate, if_pos (by omega)]; rfl
theorem set_new {a : PAr} {n c : Int} (hn : a.has n) (ha : (a.at n).cls = -1) (hc : wordsOf c ≠ 0) : a.set n c = (0, a.setS n ⟨c, 0, 0⟩) := by
  unfold PAr.set
  rw [if_neg (fun h => h.elim (fun h => h hn) hc), if_neg (fun h => h ha)]
theorem sweeps_true {h : Heap} (haw : trueTab (k_law4_awake h) = true) (c n v : Int) (X : BitVec 64) :
    Ok (k_law4_ArenaSweeps (.int .i64 c) (.int .i64 n) (.int .u64 X.toNat) (.int .i64 v) h) fun r => r.1 = .bool true := by
  obtain ⟨g, hg, ht⟩ := trueTab_ok haw
  by_cases h1 : c < 0
  · exact ok_val (v := .bool true) (g := g) (by simp -implicitDefEqProofs [k_law4_ArenaSweeps, hg, h1]) rfl
  by_cases h2 : 5 < c
  · exact ok_val (v := .bool true) (g := g) (by simp -implicitDefEqProofs [k_law4_ArenaSweeps, hg, h1, h2]) rfl
  by_cases h3 : n < 1
  · exact ok_val (v := .bool true) (g := g) (by simp -implicitDefEqProofs [k_law4_ArenaSweeps, hg, h1, h2, h3]) rfl
  by_cases h4 : 32 < n
  · exact ok_val (v := .bool true) (g := g) (by simp -implicitDefEqProofs [k_law4_ArenaSweeps, hg, h1, h2, h3, h4]) rfl
  have hc : 0 ≤ c ∧ c ≤ 5 := by omega
  obtain ⟨N, rfl⟩ : ∃ N : Nat, n = N := ⟨n.toNat, by omega⟩
  obtain ⟨P0, P1, P2, W1, W2⟩ := pls_eq hc
  have n0 : ∀ x : Nat, (0 : Int) = 0 := fun _ => rfl
  refine Ok.eq ?_ (by simp -implicitDefEqProofs only [cl_id, cl_some, k_law4_ArenaSweeps, hg, cl_some, un_not, Bool.not_true, Option.bind_some, condE_false, bin_lss, bin_gtr, h1, h2, h3, h4, decide_false, gdW_bool, beq_self_eq_true, gQ_true, pickP_bool, Bool.false_eq_true, if_false]; rfl)
  refine ok_cl (new_ok 8 (by decide) (by decide)) ?_
  rintro _ g1 ⟨rfl, H, s1, n1⟩
  simp only at H s1 n1
  have ht1 := ht.same s1 (by simp)
  have hlt := ht.pos
  generalize hP : g.next + 2 = p at *
  generalize hS : g.next + 1 = s at *
  generalize hW : g.next = w at *
  refine Ok.eq ?_ (by simp -implicitDefEqProofs only [cl_id, cl_some, extractV_tup, List.getElem?_cons_zero, List.getElem?_cons_succ, Option.bind_some, neq_int, decide_true, Bool.not_true, gdW_bool, beq_self_eq_true, gQ_true, cl_some, cl_id]; rfl)
  have hh : (newA 8).has 1 := by decide
  have hset := set_new (a := newA 8) (n := 1) (c := c) hh (by rw [newA_at (by omega)]) (by omega)
  have hsok := set_ok H 1 c
  rw [hset] at hsok
  refine ok_cl hsok ?_
  rintro _ g2 ⟨rfl, H2, s2⟩
  simp only at H2 s2
  have ht2 := ht1.same s2 (by simp; omega)
  have hS0 : Sw ((newA 8).setS 1 ⟨c, 0, 0⟩) c v 0 fun _ => false := by
    have ha : ((newA 8).setS 1 ⟨c, 0, 0⟩).at 1 = ⟨c, 0, 0⟩ := PAr.setS_at _ hh
    exact ⟨by rw [PAr.setS_len]; rfl, by rw [PAr.setS_ws]; show (List.replicate (8 * 64) (0 : Int)).length = 512; rw [List.length_replicate], by rw [ha], fun j => by rw [ha]; simp, fun j => by rw [ha]; simp, fun i hi => by omega⟩
  refine Ok.eq ?_ (by simp -implicitDefEqProofs only [cl_id, cl_some, neq_int, decide_true, Bool.not_true, Option.bind_some, gQ_true, pickP_bool, Bool.false_eq_true, if_false, condE_false, gdW_bool, beq_self_eq_true]; rfl)
  have hB : g1.next ≤ g2.next := s2.next
  refine ok_lp (sweeps_L0 (B := g1.next) hc (by omega) (by omega) (by omega) (by omega) (by omega) N (by omega) hB H2 hS0 ht2) ?_
  rintro _ _ g3 ⟨rfl, q, b, a3, rfl, hq3, hb3, H3, S3, ht3, hB3⟩
  simp only at hq3 H3 ht3 hB3
  generalize hm : min N (pls c) = m at *
  have hm1 : 1 ≤ m ∧ m ≤ pls c := by omega
  refine Ok.eq ?_ (by simp -implicitDefEqProofs only [cl_id, cl_some, if_true, thenK_normal]; rfl)
  refine ok_lp (sweeps_L1 (B := g1.next) hc (by omega) (by omega) (by omega) (by omega) (by omega) X hm1.2 hB3 H3 S3 ht3 hq3 hb3 _) ?_
  rintro _ _ g4 ⟨rfl, a4, rfl, hq4, H4, S4, ht4, hB4⟩
  simp only at hq4 H4 S4 ht4 hB4
  obtain ⟨w1, w2, w3, w4, w5⟩ := S4.sweep hc hm1.2
  have hkm := cnt_le X.getLsbD m
  refine Ok.eq ?_ (by simp -implicitDefEqProofs only [cl_id, cl_some, if_true, thenK_normal, getD0, getD1]; rfl)
  refine ok_cl (sweep_ok H4 1) ?_
  rintro _ g5 ⟨rfl, H5, s5⟩
  rw [w1]
  simp only at H5 s5
  have hq5 := hq4.same s5 (fun j hj => by have := hb3 j hj; simp; omega)
  have ht5 := ht4.same s5 (by simp; omega)
  have hsub : IntKind.i64.wrap ((m : Int) - (cnt X.getLsbD m : Int)) = ((m - cnt X.getLsbD m : Nat) : Int) := by rw [wrap_i64 (by omega) (by omega)]; omega
  have hz1 : decide ((a4.sweep 1).2.cls 1 = -1) = decide (((cnt X.getLsbD m : Nat) : Int) = 0) := by
    apply decide_eq_decide.2
    rw [w3]; omega
  refine Ok.eq ?_ (by simp -implicitDefEqProofs only [cl_id, cl_some, hq5.lnL, Option.bind_some, bin_sub, hsub, neq_int, decide_true, Bool.not_true, gdW_bool, beq_self_eq_true, gQ_true, class_eq H5, cl_some, eql_int, hz1, neq_bool, pickP_bool, Bool.false_eq_true, if_false, condE_false]; rfl)
  refine ok_lp (sweeps_L2 X (by omega) H5 hq5 w4 _) ?_
  rintro e6 vs6 g6 h6
  injection h6 with he h6
  injection h6 with hv h6
  subst he hv h6
  refine Ok.eq ?_ (by simp -implicitDefEqProofs only [cl_id, cl_some, if_true, thenK_normal, getD0, getD1]; rfl)
  by_cases k0 : cnt X.getLsbD m = 0
  · exact ok_val (v := .bool true) (g := g6) (by simp -implicitDefEqProofs [k0]) rfl
  have k0' : ¬ (cnt X.getLsbD m : Int) = 0 := by omega
  by_cases k1 : cnt X.getLsbD m = m
  · have k1' : (cnt X.getLsbD m : Int) = m := by omega
    have m0 : ¬ (m : Int) = 0 := by omega
    exact ok_val (v := .bool true) (g := g6) (by simp -implicitDefEqProofs only [cl_id, cl_some, eql_int, k0', decide_false, Option.bind_some, gdW_bool, beq_self_eq_true, gQ_true, hq5.lnL, k1', m0, decide_true, pickP_bool, Bool.false_eq_true, if_false, condE_true]) rfl
  have k1' : ¬ (cnt X.getLsbD m : Int) = m := by omega
  refine Ok.eq ?_ (by simp -implicitDefEqProofs only [cl_id, cl_some, eql_int, k0', decide_false, Option.bind_some, gdW_bool, beq_self_eq_true, gQ_true, hq5.lnL, k1', pickP_bool, Bool.false_eq_true, if_false, condE_false]; rfl)
  refine ok_cl (take_ok H5 ht5.tab (by omega) 1) ?_
  rintro _ g7 ⟨rfl, H6, s6⟩
  obtain ⟨u1, u2, u3⟩ := w5 k0 k1
  simp only at H6
  exact ok_val (v := .bool true) (g := g7) (by simp -implicitDefEqProofs only [cl_id, cl_some, extractV_tup, List.getElem?_cons_zero, List.getElem?_cons_succ, Option.bind_some, u1, eql_int, decide_true, gdW_bool, beq_self_eq_true, gQ_true, bin_gtr, u2, pickP_bool, if_true, is_eq H6, cl_some, u3]) rfl
end Go.Ab.F
