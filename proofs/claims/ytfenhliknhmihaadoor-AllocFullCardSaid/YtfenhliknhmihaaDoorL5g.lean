import Derived.Test.YtfenhliknhmihaaDoorL5f
namespace Go.Ab.F
open Go Go.Ab
set_option linter.all false
attribute [local congr] c_bind c_cl c_mk c_lp c_clC c_gQ c_gV c_condE c_thenK

theorem full_true {h : Heap} (hsub : Sub hQ1 h) (hn1 : 1 ≤ h.next) {x1 : AV} {l : List Int} (hx : RdC h 1 x1 (l.map fun n => .int .i64 n) l.length) (sp n : Int) :
    Ok (k_law5_AllocFull (.int .i64 sp) x1 (.int .i64 n) h) fun r => r.1 = .bool true := by
  have ht := tab0_sub hsub hn1
  have haw : k_law5_awake h = some (.bool true, h) := quiet_pos hsub
  by_cases h1 : sp < 8
  · exact ok_val (v := .bool true) (g := h) (by simp -implicitDefEqProofs only [k_law5_AllocFull, haw, cl_some, un_not, Bool.not_true, Option.bind_some, condE_false, bin_lss, h1, decide_true, gdW_tf, gdW_tup, gQ_false, pickP_bool, if_true, condE_true]) rfl
  by_cases h2 : 12 < sp
  · exact ok_val (v := .bool true) (g := h) (by simp -implicitDefEqProofs only [k_law5_AllocFull, haw, cl_some, un_not, Bool.not_true, Option.bind_some, condE_false, bin_lss, bin_gtr, h1, h2, decide_true, decide_false, gdW_ff, gQ_true, gdW_tf, gdW_tup, gQ_false, pickP_bool, if_true, Bool.false_eq_true, if_false, condE_true]) rfl
  by_cases h3 : (120 : Int) < l.length
  · exact ok_val (v := .bool true) (g := h) (by simp -implicitDefEqProofs only [k_law5_AllocFull, haw, cl_some, un_not, Bool.not_true, Option.bind_some, condE_false, bin_lss, bin_gtr, h1, h2, hx.lnL, h3, decide_true, decide_false, gdW_ff, gQ_true, pickP_bool, if_true, Bool.false_eq_true, if_false, condE_true]) rfl
  obtain ⟨N, rfl⟩ : ∃ N : Nat, sp = N := ⟨sp.toNat, by omega⟩
  refine Ok.eq ?_ (by simp -implicitDefEqProofs only [k_law5_AllocFull, haw, cl_some, un_not, Bool.not_true, Option.bind_some, condE_false, bin_lss, bin_gtr, h1, h2, hx.lnL, h3, decide_false, gdW_ff, gQ_true, pickP_bool, Bool.false_eq_true, if_false]; rfl)
  refine ok_cl (made_ok N (by omega) (by omega)) ?_
  rintro _ g1 ⟨q, u, p, w, s, x, rfl, H, s1, b1, b2, b3, b4, b5⟩
  simp only at H s1
  have ht1 := ht.same s1 (by simp)
  refine Ok.eq ?_ (by simp -implicitDefEqProofs only [extractV_tup, List.getElem?_cons_zero, List.getElem?_cons_succ, Option.bind_some, eql_ptr_nil, condE_false]; rfl)
  refine ok_lp (full_L0 hx (by omega) b1 b2 b3 b4 b5 (by omega) H (fi_new N) ht1 s1) ?_
  rintro _ vs g2 ⟨rfl, a2, H2, hA2, hl2, ht2⟩
  simp only at H2 ht2
  have hl2' : a2.un.length = N := by rw [hl2]; simp
  refine Ok.eq ?_ (by simp -implicitDefEqProofs only [if_true, thenK_normal]; rfl)
  refine ok_cl (rclass_ok n g2) ?_
  rintro _ g3 ⟨rfl, s3⟩
  simp only at s3
  have H3 := H2.same s3 (by simp) (by simp) (by simp) (by simp) (by simp)
  have ht3 := ht2.same s3 (by simp)
  have hp := ht.pos
  by_cases hc : classOf n = -1
  · have lp0 : k_law5_AllocFull_L1 (.int .i64 N) (.ptr (some (p, 0))) (.int .i64 (classOf n)) (.bool false) (.int .i64 1) g3 = some (.exit 2, [.bool false, .int .i64 1], g3) := by
      have hlt : (1 : Int) < N := by omega
      have hge : ¬ (0 : Int) ≤ -1 := by decide
      obtain ⟨r, e, q⟩ := ok_loop (F := fun us g => k_law5_AllocFull_b1 (.int .i64 N) (.ptr (some (p, 0))) (.int .i64 (classOf n)) (us.getD 0 .bot) (us.getD 1 .bot) g) (Q := fun r => r = (.exit 2, [.bool false, .int .i64 1], g3)) (fun m vs g => vs = [.bool false, .int .i64 1] ∧ g3 = g) (by
        rintro m vs _ ⟨rfl, rfl⟩
        rw [gd0, gd1, hc]
        exact ⟨(.exit 2, [.bool false, .int .i64 1], g3), by simp -implicitDefEqProofs only [k_law5_AllocFull_b1, bin_lss, hlt, decide_true, Option.bind_some, gdW_tt, gQ_true, bin_geq, hge, decide_false, cl_some, pickP_bool, if_true, condE_false], .inr ⟨by simp, rfl⟩⟩) (n := 0) (by omega) ⟨rfl, rfl⟩
      rw [q] at e; exact e
    rw [lp0]
    refine Ok.eq ?_ (by simp -implicitDefEqProofs only [lp_some, if_true, thenK_normal]; rfl)
    refine ok_cl (atake_ok H3 ht3 (by omega) (by omega) (by omega) n) ?_
    rintro _ g4 ⟨rfl, H4, s4⟩
    have e := (take_fi hA2 n).2.2.1 hc
    have hlt : (-1 : Int) < 0 := by decide
    exact ok_val (v := .bool true) (g := g4) (by simp -implicitDefEqProofs only [extractV_tup, List.getElem?_cons_zero, List.getElem?_cons_succ, Option.bind_some, hc, bin_lss, hlt, decide_true, gdW_tt, gQ_true, cl_some, eql_int, e, pickP_bool, if_true, gdW_tf, gdW_tup, gQ_false]) rfl
  · have hr : 0 ≤ classOf n ∧ classOf n ≤ 5 := by
      rcases classOf_range n with h | h
      · exact absurd h hc
      · exact ⟨h.1, h.2.1⟩
    refine ok_lp (full_L1 H3 ht3 hA2 hr hl2' (by omega)) ?_
    rintro _ vs g4 ⟨rfl, hv, H4, ht4⟩
    simp only at hv H4 ht4
    refine Ok.eq ?_ (by simp -implicitDefEqProofs only [if_true, thenK_normal]; rfl)
    refine ok_cl (atake_ok H4 ht4 (by omega) (by omega) (by omega) n) ?_
    rintro _ g5 ⟨rfl, H5, s5⟩
    have e := (take_fi hA2 n).2.2.2 hc
    rw [← roomB_room hA2 hr, hl2'] at e
    have hlt : ¬ classOf n < 0 := by omega
    have hge : 0 ≤ classOf n := hr.1
    have hd : decide ((a2.take n).1.2 = 0) = roomB a2 (classOf n) N := by
      cases hb : roomB a2 (classOf n) N with
      | true => rw [hb] at e; simpa using e.2 rfl
      | false => rw [hb] at e; simp at e; simpa using e
    have hself : ∀ b : Bool, (b == b) = true := by decide
    exact ok_val (v := .bool true) (g := g5) (by simp -implicitDefEqProofs only [extractV_tup, List.getElem?_cons_zero, List.getElem?_cons_succ, Option.bind_some, bin_lss, hlt, decide_false, gdW_ft, gdW_tup, gQ_false, pickP_bool, Bool.false_eq_true, if_false, gdW_ff, gQ_true, cl_some, bin_geq, hge, decide_true, gdW_tt, eql_int, hd, hv, eql_bool, hself, if_true]) rfl
end Go.Ab.F
