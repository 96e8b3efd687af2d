import Derived.Test.YtfenhliknhmihaaDoorA13
namespace Go.Ab.F
open Go Go.Ab
set_option linter.all false
attribute [local congr] c_bind c_cl c_mk c_lp c_clC c_gQ c_gV c_condE c_thenK

theorem getD0 (a : AV) (l : List AV) : (a :: l).getD 0 .bot = a := rfl
theorem getD1 (a b : AV) (l : List AV) : (a :: b :: l).getD 1 .bot = b := rfl
theorem succ_i64 (i : Nat) (h : i < 2 ^ 62) : IntKind.i64.wrap ((i : Int) + 1) = ((i + 1 : Nat) : Int) := by rw [wrap_i64 (by omega) (by omega)]; rfl

/-! ### A list of acts, read alone -/
def actTy : Ty := .st [.int .i64, .int .i64, .int .i64, .int .i64, .int .i64, .int .i64]
theorem len6 {α : Type} {l : List α} (h : l.length = 6) : ∃ a b c d e f, l = [a, b, c, d, e, f] := by
  rcases l with _ | ⟨a, _ | ⟨b, _ | ⟨c, _ | ⟨d, _ | ⟨e, _ | ⟨f, _ | ⟨g, l⟩⟩⟩⟩⟩⟩⟩ <;> simp at h
  exact ⟨a, b, c, d, e, f, rfl⟩
theorem rd_acts {h : Heap} {x : D} {vs : List AV} (H : Rep h (.sl actTy) x vs) :
    ∃ cs n, RdC h 6 (argAV (.sl actTy) vs) cs n ∧ n ≤ maxLen ∧ ∀ i, i < n → ∃ a b c d e f, span cs (i * 6) 6 = some [.int .i64 a, .int .i64 b, .int .i64 c, .int .i64 d, .int .i64 e, .int .i64 f] := by
  cases x <;> simp only [Rep] at H
  rename_i xs
  rcases H with ⟨rfl, rfl⟩ | ⟨i, c, us, rfl, h1, h2, h3, h4, h5⟩
  · exact ⟨[], 0, ⟨rfl, .inl ⟨rfl, rfl⟩⟩, Nat.zero_le _, fun i hi => by omega⟩
  · have hs : actTy.size = 6 := rfl
    rw [hs] at h3
    refine ⟨us, xs.length, ⟨h3, .inr ⟨i, c, rfl, h1, fun hne => h2 fun e => hne (by rw [e]; rfl)⟩⟩, h4, fun j hj => ?_⟩
    have := h5 j xs[j] (List.getElem?_eq_getElem hj)
    rw [hs] at this
    have hl : ((us.drop (j * 6)).take 6).length = 6 := by simp; omega
    rw [span_some us (j * 6) 6 (by omega)]
    generalize (us.drop (j * 6)).take 6 = r at this hl
    generalize xs[j] = y at this
    cases y <;> simp only [actTy, Rep] at this
    rename_i ys
    obtain ⟨r0, r1, r2, r3, r4, r5, rfl⟩ := len6 hl
    rcases ys with _ | ⟨y0, _ | ⟨y1, _ | ⟨y2, _ | ⟨y3, _ | ⟨y4, _ | ⟨y5, _ | ⟨y6, ys⟩⟩⟩⟩⟩⟩⟩ <;> simp only [Reps, and_false] at this
    simp only [Ty.size, List.take_succ_cons, List.take_zero, List.drop_succ_cons, List.drop_zero] at this
    obtain ⟨t0, t1, t2, t3, t4, t5, _⟩ := this
    cases y0 <;> simp only [Rep] at t0
    cases y1 <;> simp only [Rep] at t1
    cases y2 <;> simp only [Rep] at t2
    cases y3 <;> simp only [Rep] at t3
    cases y4 <;> simp only [Rep] at t4
    cases y5 <;> simp only [Rep] at t5
    simp only [List.cons.injEq, and_true] at t0 t1 t2 t3 t4 t5
    rw [t0.1, t1.1, t2.1, t3.1, t4.1, t5.1]
    exact ⟨_, _, _, _, _, _, rfl⟩
/-- A variable of one's own, that is given a value at once. -/
theorem var_new {g : Heap} {n : Nat} {z cs : List AV} (hz : z.length = n) (hc : cs.length = n) (hs : cs.all scalar = true) :
    stP n (g.new (.cells true z)) (.ptr (some (g.next, 0))) (.agg cs) = some (.bot, (g.new (.cells true z)).put g.next (some (.cells true cs))) := by
  have hcs : (AV.agg cs).cells = cs := rfl
  have e : spliceF z 0 cs = some cs := by
    rw [spliceF_eq, splice_some z 0 cs (by omega)]; simp; omega
  simp only [stP, hcs, hc, ne_eq, not_true_eq_false, if_false, storeN, hs, if_true, get_new_eq, e, Option.map_some]

/-! ### What keeps the number of spans -/
theorem set_len (a : PAr) (n c : Int) : (a.set n c).2.sp.length = a.sp.length := by
  unfold PAr.set; split
  · rfl
  · split
    · rfl
    · exact a.setS_len _ _
theorem take_len (a : PAr) (n : Int) : (a.take n).2.2.sp.length = a.sp.length := by
  unfold PAr.take; split
  · rfl
  · split
    · rfl
    · exact a.setS_len _ _
theorem mark_len (a : PAr) (n : Int) : (a.mark n).2.sp.length = a.sp.length := by
  unfold PAr.mark; split
  · rfl
  · split
    · rfl
    · exact a.setS_len _ _
theorem clear_len (a : PAr) : a.clear.sp.length = a.sp.length := by simp [PAr.clear]
theorem sweep_len (a : PAr) (n : Int) : (a.sweep n).2.sp.length = a.sp.length := by
  unfold PAr.sweep; split
  · rfl
  · exact a.setS_len _ _
theorem write_len (a : PAr) (n k v : Int) : (a.write n k v).2.sp.length = a.sp.length := by
  unfold PAr.write; split <;> rfl

section
variable {p w s : Nat}
theorem played_ok {h g : Heap} {x : AV} {cs : List AV} {N : Nat} {a : PAr} (hx : RdC h 6 x cs N) (hcs : ∀ i, i < N → ∃ a b c d e f, span cs (i * 6) 6 = some [.int .i64 a, .int .i64 b, .int .i64 c, .int .i64 d, .int .i64 e, .int .i64 f])
    (hN : N ≤ 40) (hw : h.next ≤ w) (hs : h.next ≤ s) (h0 : 0 < h.next) (H : ArAt g p w s a) (ht : Tab0 g) (hS : Same [] h g) :
    Ok (k_law4_played (.ptr (some (p, 0))) x g) fun r => r.1 = .tup [] ∧ ∃ a', ArAt r.2 p w s a' ∧ a'.sp.length = a.sp.length ∧ Same [w, s] g r.2 := by
  have lp0 : Ok (k_law4_played_L0 (.ptr (some (p, 0))) x (.int .i64 0) g) fun r => r.1 = .exit 0 ∧ ∃ a', ArAt r.2.2 p w s a' ∧ a'.sp.length = a.sp.length ∧ Same [w, s] g r.2.2 := by
    refine ok_loop (fun n vs g' => ∃ (i : Nat) (a' : PAr), vs = [.int .i64 i] ∧ n + i = N ∧ ArAt g' p w s a' ∧ a'.sp.length = a.sp.length ∧ Same [w, s] g g' ∧ Tab0 g' ∧ Same [] h g') ?_ (n := N) (by omega) ⟨0, a, rfl, rfl, H, rfl, Same.refl _ _, ht, hS⟩
    rintro n vs g' ⟨i, a', rfl, hn, H, hal, hs', ht, hS⟩
    rw [getD0]
    by_cases hi : i < N
    · have hlt : (i : Int) < N := by omega
      obtain ⟨b, hbn, hbg, hix⟩ := hx.ix hi
      obtain ⟨o, sp, c, at_, ad, v, hsp⟩ := hcs i hi
      have hld : ldA 6 g' (.ptr (some (b, i * 6))) = some (.agg [.int .i64 o, .int .i64 sp, .int .i64 c, .int .i64 at_, .int .i64 ad, .int .i64 v]) := by
        rw [ldA_at ((hS.get b hbn (by simp)).trans hbg), hsp]; rfl
      have hvar := var_new (g := g') (n := 6) (z := [(AV.int .i64 0), (AV.int .i64 0), (AV.int .i64 0), (AV.int .i64 0), (AV.int .i64 0), (AV.int .i64 0)]) (cs := [.int .i64 o, .int .i64 sp, .int .i64 c, .int .i64 at_, .int .i64 ad, .int .i64 v]) rfl rfl rfl
      have sv : Same [] g' ((g'.new (.cells true [(AV.int .i64 0), (AV.int .i64 0), (AV.int .i64 0), (AV.int .i64 0), (AV.int .i64 0), (AV.int .i64 0)])).put g'.next (some (.cells true [.int .i64 o, .int .i64 sp, .int .i64 c, .int .i64 at_, .int .i64 ad, .int .i64 v]))) :=
        (Same.new _ _).old (Same.put _ _ _) (by simp)
      have lv := fun k => ldS_at (o := k) (get_put_eq (h := g'.new (.cells true [(AV.int .i64 0), (AV.int .i64 0), (AV.int .i64 0), (AV.int .i64 0), (AV.int .i64 0), (AV.int .i64 0)])) (i := g'.next) (b := some (.cells true [.int .i64 o, .int .i64 sp, .int .i64 c, .int .i64 at_, .int .i64 ad, .int .i64 v])))
      generalize (g'.new (.cells true [(AV.int .i64 0), (AV.int .i64 0), (AV.int .i64 0), (AV.int .i64 0), (AV.int .i64 0), (AV.int .i64 0)])).put g'.next (some (.cells true [.int .i64 o, .int .i64 sp, .int .i64 c, .int .i64 at_, .int .i64 ad, .int .i64 v])) = g2 at hvar sv lv
      have l0 : ldS g2 (.ptr (some (g'.next, 0))) = some (.int .i64 o) := lv 0
      have l1 : ldS g2 (.ptr (some (g'.next, 1))) = some (.int .i64 sp) := lv 1
      have l2 : ldS g2 (.ptr (some (g'.next, 2))) = some (.int .i64 c) := lv 2
      have l3 : ldS g2 (.ptr (some (g'.next, 3))) = some (.int .i64 at_) := lv 3
      have l4 : ldS g2 (.ptr (some (g'.next, 4))) = some (.int .i64 ad) := lv 4
      have l5 : ldS g2 (.ptr (some (g'.next, 5))) = some (.int .i64 v) := lv 5
      have H2 := H.same sv (by simp) (by simp) (by simp)
      have ht2 := ht.same sv (by simp)
      have hS2 : Same [] h g2 := hS.trans sv
      have hs2 : Same [w, s] g g2 := hs'.trans (sv.sub (by simp))
      have hsc := succ_i64 i (by omega)
      have fin : ∀ (a2 : PAr) (g3 : Heap), ArAt g3 p w s a2 → a2.sp.length = a'.sp.length → Same [w, s] g2 g3 →
          Ok ((binP .add (.int .i64 (i : Int)) (.int .i64 1)).bind fun t => some ((Ex.normal, [t], g3) : Ex × List AV × Heap)) fun r => (r.1 = .normal ∧ ∃ m, m < n ∧ (∃ (i : Nat) (a' : PAr), r.2.1 = [.int .i64 i] ∧ m + i = N ∧ ArAt r.2.2 p w s a' ∧ a'.sp.length = a.sp.length ∧ Same [w, s] g r.2.2 ∧ Tab0 r.2.2 ∧ Same [] h r.2.2)) ∨ (r.1 ≠ .normal ∧ r.1 = .exit 0 ∧ ∃ a', ArAt r.2.2 p w s a' ∧ a'.sp.length = a.sp.length ∧ Same [w, s] g r.2.2) := by
        intro a2 g3 H3 hl s3
        refine (Ok.of (r := (.normal, [.int .i64 ((i + 1 : Nat) : Int)], g3)) ?_).eq (by simp -implicitDefEqProofs only [bin_add, hsc, Option.bind_some])
        exact .inl ⟨rfl, n - 1, by omega, i + 1, a2, rfl, by omega, H3, hl.trans hal, hs2.trans s3, ht2.same s3 (by simp; omega), hS2.old s3 (by simp; omega)⟩
      refine Ok.eq ?_ (by simp -implicitDefEqProofs only [k_law4_played_b0, hx.lnL, Option.bind_some, bin_lss, hlt, decide_true, condE_true, hix, hld, mk_some, hvar, cl_some, faP_ptr, Nat.zero_add, l0, l1, l2, l3, l4, l5, eql_int]; rfl)
      by_cases o0 : o = 0
      · refine Ok.eq ?_ (by simp -implicitDefEqProofs only [o0, decide_true, condE_true]; rfl)
        refine ok_cl (set_ok H2 sp c) ?_
        rintro _ g3 ⟨-, H3, s3⟩
        exact fin _ g3 H3 (set_len _ _ _) (s3.sub (by simp))
      refine Ok.eq ?_ (by simp -implicitDefEqProofs only [o0, decide_false, condE_false]; rfl)
      by_cases o1 : o = 1
      · refine Ok.eq ?_ (by simp -implicitDefEqProofs only [o1, decide_true, condE_true]; rfl)
        refine ok_cl (take_ok H2 ht2.tab (by omega) sp) ?_
        rintro _ g3 ⟨-, H3, s3⟩
        exact fin _ g3 H3 (take_len _ _) s3
      refine Ok.eq ?_ (by simp -implicitDefEqProofs only [o1, decide_false, condE_false]; rfl)
      by_cases o2 : o = 2
      · refine Ok.eq ?_ (by simp -implicitDefEqProofs only [o2, decide_true, condE_true]; rfl)
        refine ok_cl (mark_ok H2 ad) ?_
        rintro _ g3 ⟨-, H3, s3⟩
        exact fin _ g3 H3 (mark_len _ _) (s3.sub (by simp))
      refine Ok.eq ?_ (by simp -implicitDefEqProofs only [o2, decide_false, condE_false]; rfl)
      by_cases o3 : o = 3
      · refine Ok.eq ?_ (by simp -implicitDefEqProofs only [o3, decide_true, condE_true]; rfl)
        refine ok_cl (clear_ok H2) ?_
        rintro _ g3 ⟨-, H3, s3⟩
        exact fin _ g3 H3 (clear_len _) (s3.sub (by simp))
      refine Ok.eq ?_ (by simp -implicitDefEqProofs only [o3, decide_false, condE_false]; rfl)
      by_cases o4 : o = 4
      · refine Ok.eq ?_ (by simp -implicitDefEqProofs only [o4, decide_true, condE_true]; rfl)
        refine ok_cl (sweep_ok H2 sp) ?_
        rintro _ g3 ⟨-, H3, s3⟩
        exact fin _ g3 H3 (sweep_len _ _) (s3.sub (by simp))
      refine Ok.eq ?_ (by simp -implicitDefEqProofs only [o4, decide_false, condE_false]; rfl)
      refine ok_cl (write_ok H2 ad at_ v) ?_
      rintro _ g3 ⟨-, H3, s3⟩
      exact fin _ g3 H3 (write_len _ _ _ _) (s3.sub (by simp))
    · have hlt : ¬ (i : Int) < N := by omega
      refine (Ok.of (r := (.exit 0, [.int .i64 (i : Int)], g')) ?_).eq (by
        simp -implicitDefEqProofs only [k_law4_played_b0, hx.lnL, Option.bind_some, bin_lss, hlt, decide_false, condE_false])
      exact .inr ⟨by simp, rfl, a', H, hal, hs'⟩
  refine Ok.eq ?_ (by unfold k_law4_played; rfl)
  refine ok_lp lp0 ?_
  rintro _ vs g2 ⟨rfl, h2⟩
  exact ok_val (v := .tup []) (g := g2) rfl ⟨rfl, h2⟩
theorem copies_L0 {g : Heap} {p' w' s' : Nat} {a : PAr} (H : ArAt g p w s a) (H' : ArAt g p' w' s' a) {n : Nat} (hn : n < 8) (q : AV) :
    Ok (k_law4_ArenaCopies_L0 (.ptr (some (p, 0))) (.ptr (some (p', 0))) (.int .i64 n) q (.int .i64 (64 * n)) g) fun r => ∃ x, r = (.exit 2, [q, x], g) := by
  refine ok_loop (fun m vs h => ∃ (k : Nat), vs = [q, .int .i64 k] ∧ m + k = 64 * n + 64 ∧ g = h) ?_ (n := 64) (by omega) ⟨64 * n, by simp, by omega, rfl⟩
  rintro m vs _ ⟨k, rfl, hk, rfl⟩
  simp only [getD0, getD1]
  have e1 : IntKind.i64.wrap (64 * (n : Int)) = 64 * n := wrap_i64 (by omega) (by omega)
  have e2 : IntKind.i64.wrap (64 * (n : Int) + 64) = 64 * n + 64 := wrap_i64 (by omega) (by omega)
  by_cases hi : (k : Int) < 64 * n + 64
  · refine (Ok.of (r := (.normal, [q, .int .i64 ((k + 1 : Nat) : Int)], g)) ?_).eq (by
      simp -implicitDefEqProofs only [k_law4_ArenaCopies_b0, bin_mul, bin_add, e1, e2, Option.bind_some, bin_lss, hi, decide_true, condE_true, read_eq H, read_eq H', cl_some, extractV_tup, List.getElem?_cons_zero, List.getElem?_cons_succ, neq_int, Bool.not_true, gdW_ff, gQ_true, pickP_bool, Bool.false_eq_true, if_false, condE_false, succ_i64 k (by omega)])
    exact .inl ⟨rfl, m - 1, by omega, k + 1, rfl, by omega, rfl⟩
  · refine (Ok.of (r := (.exit 2, [q, .int .i64 (k : Int)], g)) ?_).eq (by
      simp -implicitDefEqProofs only [k_law4_ArenaCopies_b0, bin_mul, bin_add, e1, e2, Option.bind_some, bin_lss, hi, decide_false, condE_false])
    exact .inr ⟨by simp, _, rfl⟩
theorem copies_L1 {g : Heap} {p' w' s' : Nat} {a : PAr} (H : ArAt g p w s a) (H' : ArAt g p' w' s' a) :
    Ok (k_law4_ArenaCopies_L1 (.ptr (some (p, 0))) (.ptr (some (p', 0))) (.bool false) (.int .i64 0) g) fun r => r.1 = .exit 0 := by
  refine ok_loop (fun m vs h => ∃ (n : Nat), vs = [.bool false, .int .i64 n] ∧ m + n = 8 ∧ g = h) ?_ (n := 8) (by omega) ⟨0, rfl, rfl, rfl⟩
  rintro m vs _ ⟨n, rfl, hn, rfl⟩
  simp only [getD0, getD1]
  by_cases hi : n < 8
  · have hlt : (n : Int) < 8 := by omega
    have e1 : IntKind.i64.wrap (64 * (n : Int)) = 64 * n := wrap_i64 (by omega) (by omega)
    refine Ok.eq ?_ (by
      simp -implicitDefEqProofs only [k_law4_ArenaCopies_b1, bin_lss, hlt, decide_true, Option.bind_some, condE_true, class_eq H, class_eq H', taken_eq H, taken_eq H', marked_eq H, marked_eq H', cl_some, neq_int, Bool.not_true, gdW_ff, gQ_true, pickP_bool, Bool.false_eq_true, if_false, condE_false, bin_mul, e1]; rfl)
    refine ok_lp (copies_L0 H H' hi _) ?_
    rintro _ _ _ ⟨x, he⟩
    cases he
    refine (Ok.of (r := (.normal, [.bool false, .int .i64 ((n + 1 : Nat) : Int)], g)) ?_).eq (by simp -implicitDefEqProofs [bin_add, succ_i64 n (by omega)])
    exact .inl ⟨rfl, m - 1, by omega, n + 1, rfl, by omega, rfl⟩
  · have hlt : ¬ (n : Int) < 8 := by omega
    refine (Ok.of (r := (.exit 0, [.bool false, .int .i64 (n : Int)], g)) ?_).eq (by
      simp -implicitDefEqProofs only [k_law4_ArenaCopies_b1, bin_lss, hlt, decide_false, Option.bind_some, condE_false])
    exact .inr ⟨by simp, rfl⟩
end
theorem copies_true {h : Heap} (hsub : Sub hQ1 h) (hn1 : 1 ≤ h.next) {x y : AV} {cs ds : List AV} {N M : Nat} (hx : RdC h 6 x cs N) (hy : RdC h 6 y ds M)
    (hcs : ∀ i, i < N → ∃ a b c d e f, span cs (i * 6) 6 = some [.int .i64 a, .int .i64 b, .int .i64 c, .int .i64 d, .int .i64 e, .int .i64 f])
    (hds : ∀ i, i < M → ∃ a b c d e f, span ds (i * 6) 6 = some [.int .i64 a, .int .i64 b, .int .i64 c, .int .i64 d, .int .i64 e, .int .i64 f]) :
    Ok (k_law4_ArenaCopies x y h) fun r => r.1 = .bool true := by
  have ht := tab0_sub hsub hn1
  have haw : k_law4_awake h = some (.bool true, h) := quiet_pos hsub
  by_cases h1 : (40 : Int) < N
  · exact ok_val (v := .bool true) (g := h) (by simp -implicitDefEqProofs only [k_law4_ArenaCopies, haw, cl_some, un_not, Bool.not_true, Option.bind_some, condE_false, hx.lnL, bin_gtr, h1, decide_true, gdW_tf, gQ_false, pickP_bool, if_true, condE_true]) rfl
  by_cases h2 : (40 : Int) < M
  · exact ok_val (v := .bool true) (g := h) (by simp -implicitDefEqProofs only [k_law4_ArenaCopies, haw, cl_some, un_not, Bool.not_true, Option.bind_some, condE_false, hx.lnL, hy.lnL, bin_gtr, h1, h2, decide_true, decide_false, gdW_ff, gQ_true, pickP_bool, Bool.false_eq_true, if_false, condE_true]) rfl
  refine Ok.eq ?_ (by simp -implicitDefEqProofs only [k_law4_ArenaCopies, haw, cl_some, un_not, Bool.not_true, Option.bind_some, condE_false, hx.lnL, hy.lnL, bin_gtr, h1, h2, decide_false, gdW_ff, gQ_true, pickP_bool, Bool.false_eq_true, if_false]; rfl)
  refine ok_cl (new_ok 8 (by decide) (by decide)) ?_
  rintro _ g1 ⟨rfl, H, s1, n1⟩
  simp only at H s1 n1
  have ht1 := ht.same s1 (by simp)
  refine Ok.eq ?_ (by simp -implicitDefEqProofs only [extractV_tup, List.getElem?_cons_zero, List.getElem?_cons_succ, Option.bind_some, neq_int, decide_true, Bool.not_true, condE_false]; rfl)
  refine ok_cl (played_ok hx hcs (by omega) (by omega) (by omega) (by omega) H ht1 s1) ?_
  rintro _ g2 ⟨-, a2, H2, l2, s2⟩
  simp only at H2 s2
  have ht2 := ht1.same s2 (by simp; omega)
  have hS2 : Same [] h g2 := s1.old s2 (by simp)
  obtain ⟨p3, w3, s3', hc3⟩ := copy_ok H2
  refine ok_cl hc3 ?_
  rintro _ g3 ⟨rfl, H3, s3, q3, u3, v3⟩
  simp only at H3 s3 q3 u3 v3
  have H23 := H2.same s3 (by simp) (by simp) (by simp)
  have ht3 := ht2.same s3 (by simp)
  obtain ⟨p4, w4, s4', hc4⟩ := copy_ok H23
  refine ok_cl hc4 ?_
  rintro _ g4 ⟨rfl, H4, s4, q4, u4, v4⟩
  simp only at H4 s4 q4 u4 v4
  have H24 := H23.same s4 (by simp) (by simp) (by simp)
  have H34 := H3.same s4 (by simp) (by simp) (by simp)
  have ht4 := ht3.same s4 (by simp)
  have hS4 : Same [] h g4 := (hS2.trans s3).trans s4
  have := hS2.next
  have b1 := H3.lp
  have b2 := H3.lw
  have b3 := H3.ls
  have c1 := H23.lp
  have c2 := H23.lw
  have c3 := H23.ls
  have d1 := H2.lp
  have d2 := H2.lw
  have d3 := H2.ls
  refine ok_cl (played_ok hy hds (by omega) (by omega) (by omega) (by omega) H34 ht4 hS4) ?_
  rintro _ g5 ⟨-, a5, H5, l5, s5⟩
  simp only at H5 s5
  have H25 := H24.same s5 (by simp; omega) (by simp; omega) (by simp; omega)
  have H45 := H4.same s5 (by simp; omega) (by simp; omega) (by simp; omega)
  refine ok_lp (copies_L1 H25 H45) ?_
  rintro _ vs g6 he
  simp only at he
  subst he
  exact ok_val (v := .bool true) (g := g6) (by simp -implicitDefEqProofs only [if_true, thenK_normal]) rfl
end Go.Ab.F
