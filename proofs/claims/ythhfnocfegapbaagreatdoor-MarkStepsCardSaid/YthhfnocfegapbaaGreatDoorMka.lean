import Derived.Test.YthhfnocfegapbaaGreatDoorRch
import Derived.Test.YthhfnocfegapbaaGreatDoorWld
import Derived.Test.YthhfnocfegapbaaGreatDoorRfa
import Derived.Test.YthhfnocfegapbaaGreatDoorArn

namespace Go.Ab.F
open Go Go.Ab
set_option linter.all false
set_option linter.all false
attribute [local congr] c_bind c_cl c_mk c_lp c_clC c_gQ c_gV c_condE c_thenK

/-! MarkAll, MarkMore: what is common. -/
theorem ldS_c {g g' : Heap} {b o : Nat} (h : g.get b = g'.get b) : ldS g (.ptr (some (b, o))) = ldS g' (.ptr (some (b, o))) := by simp only [ldS, h]
theorem shadeL_snoc : ∀ (L : List Int) (a : PAr) (q : List Int) (x : Int), shadeL a q (L ++ [x]) = (((shadeL a q L).1.mark x).2, if ((shadeL a q L).1.mark x).1 then (shadeL a q L).2 ++ [x] else (shadeL a q L).2)
  | [], a, q, x => rfl
  | y :: L, a, q, x => by rw [List.cons_append, shadeL, shadeL_snoc L, shadeL]
theorem shadeL_len : ∀ (L : List Int) (a : PAr) (q : List Int), (shadeL a q L).2.length ≤ q.length + L.length
  | [], a, q => by simp [shadeL]
  | x :: L, a, q => by
    rw [shadeL]
    have := shadeL_len L (a.mark x).2 (if (a.mark x).1 then q ++ [x] else q)
    split at this
    · rename_i h
      simp only [h, if_true]
      simp at this ⊢; omega
    · rename_i h
      simp only [h, Bool.false_eq_true, if_false]
      simp at this ⊢; omega
theorem mk_none {T : List Shp} {a : PAr} (H : Wf a) (h : ∀ x, a.isM x = false) (G : List Int) : Mk T a G (shadeL a [] G).1 (shadeL a [] G).2 := by
  have hm := shadeL_isM G [] H
  have hq := shadeL_q G [] H
  exact
    { same := shadeL_same _ _ _
      snd := fun x hx => by
        rcases (hm x).1 hx with h' | ⟨h3, h4⟩
        · rw [h] at h'; cases h'
        · exact Rch.root h3 h4
      root := fun x h3 h4 => (hm x).2 (.inr ⟨h3, h4⟩)
      qm := fun x hx => by
        rcases (hq x).1 hx with h' | ⟨h3, h4⟩
        · simp at h'
        · exact (hm x).2 (.inr ⟨h3, h4⟩)
      cl := fun x hx => by
        rcases (hq x).2.2 hx with h' | h'
        · rw [h] at h'; cases h'
        · exact .inl h' }
theorem once_none {a : PAr} (h : ∀ x, a.isM x = false) : Once a [] [] := ⟨by simp, fun x => by rw [h]; simp⟩
theorem rel_shade : ∀ (G : List Int) {a : PAr} {cls : List Int} {L : List Tm} (q : List Int), Rel a cls L → ∃ L', Rel (shadeL a q G).1 cls L'
  | [], a, cls, L, q, R => ⟨L, R⟩
  | x :: G, a, cls, L, q, R => rel_shade G _ (rel_mark R x).2
theorem mark_is {a : PAr} (H : Wf a) {x : Int} (h : a.isM x = true) : a.mark x = (false, a) := by
  cases hf : a.find x with
  | none => exact mark_no hf
  | some y =>
    obtain ⟨n, q⟩ := y
    rw [isM_of hf] at h
    exact mark_was hf h
/-- A read list of numbers, whatever is done to what others have not. -/
def Ird (h : Heap) (X : List Nat) (v : AV) (L : List Int) : Prop := lnL v = some (.int .i64 L.length) ∧ ∀ (i : Nat) x, L[i]? = some x → ∃ p, (∀ k, iaS 1 v (.int k (i : Int)) = some (.ptr (some p))) ∧ ∀ g, KpX X h g → ldS g (.ptr (some p)) = some (.int .i64 x)
theorem Ird.kp {h g : Heap} {X Y : List Nat} {v : AV} {L : List Int} (H : Ird h X v L) (k : KpX X h g) (hs : ∀ j ∈ X, j ∈ Y) : Ird g Y v L :=
  ⟨H.1, fun i x hx => by
    obtain ⟨p, h1, h2⟩ := H.2 i x hx
    exact ⟨p, h1, fun g' k' => h2 g' (k.trans (k'.sub hs))⟩⟩
theorem ird_slb {g : Heap} {b : Option Nat} {v : AV} {L : List Int} {X : List Nat} (hv : SlB g b 1 v (wsC L) L.length) (hb : ∀ j, b = some j → j ∈ X) : Ird g X v L :=
  ⟨hv.lnL, fun i x hx => by
    obtain ⟨j, hj, hix, hld⟩ := lst_ld hv hx
    refine ⟨(j, i), hix, fun g' k => ?_⟩
    rw [ldS_at ((k.get j (hb j hj) (hv.blk j hj).1).trans (hv.blk j hj).2.1)]
    simp [wsC, hx]⟩
theorem ird_rdw {h : Heap} {v : AV} {L : List Int} {X : List Nat} (hv : RdW h 1 v (L.map (AV.int .i64)) L.length) (hX : ∀ j, j < h.next → j ∈ X) : Ird h X v L :=
  ⟨hv.lnL, fun i x hx => by
    obtain ⟨b, o, hb, hix, hld⟩ := hv.at (i := i) (x := .int .i64 x) (by rw [List.getElem?_map, hx]; rfl)
    refine ⟨(b, o), hix, fun g k => ?_⟩
    rw [ldS_c (k.get b (hX b hb) hb)]; exact hld⟩
end Go.Ab.F

namespace Go.Ab.F
open Go Go.Ab
set_option linter.all false
set_option linter.all false
attribute [local congr] c_bind c_cl c_mk c_lp c_clC c_gQ c_gV c_condE c_thenK

/-! MarkAll: its loops. -/
/-- Roots are taken out of the places: those of the given numbers that there are. -/
def rootsOf (at_ rs : List Int) : List Int := rs.filterMap fun y : Int => if 0 ≤ y ∧ y < at_.length then at_[y.toNat]? else none
theorem rootsOf_snoc (at_ rs : List Int) (y : Int) : rootsOf at_ (rs ++ [y]) = rootsOf at_ rs ++ (if 0 ≤ y ∧ y < at_.length then (at_[y.toNat]?).toList else []) := by
  unfold rootsOf
  rw [List.filterMap_append]
  congr 1
  by_cases h : 0 ≤ y ∧ y < at_.length
  · simp only [List.filterMap_cons, h, and_self, if_true, List.filterMap_nil]
    cases at_[y.toNat]? <;> rfl
  · simp [h]
theorem rootsOf_len (at_ rs : List Int) : (rootsOf at_ rs).length ≤ rs.length := List.length_filterMap_le _ _
/-- Marking, with a list of its own beside. -/
structure Mr7 (g0 g : Heap) (C : Nat → Nat) (l : PAl) (X0 : List Nat) (r : List Int) (v : AV) (br qb : Option Nat) : Prop where
  M : Mm g C ⟨(shadeL l.ar [] r).1, l.un⟩ sh7 qb (shadeL l.ar [] r).2 (br.toList ++ X0)
  sl : SlB g br 1 v (wsC r) r.length
  k : KpX X0 g0 g
  fr : ∀ j, br = some j → g0.next ≤ j
section
variable {g0 : Heap} {C : Nat → Nat} {l : PAl} {X0 : List Nat} {at_ rs : List Int} {x1 va : AV}
theorem all_loop0 {qb0 : Option Nat} (W0 : Mm g0 C l sh7 qb0 [] X0) (hr : Ird g0 X0 x1 rs) (ha : Ird g0 X0 va at_) (hn : rs.length ≤ 20) :
    Ok (k_law7_MarkAll_L0 x1 (.ptr (some (C 11, 0))) va (.sl none 0 (.ex 0)) (.int .i64 0) g0) fun r => r.1 = .exit 0 ∧ ∃ br qb, Mr7 g0 r.2.2 C l X0 (rootsOf at_ rs) (r.2.1.getD 0 .bot) br qb := by
  refine ok_loop (fun m vs g => ∃ (i : Nat) (v : AV) (br qb : Option Nat), vs = [v, .int .i64 i] ∧ m + i = rs.length ∧ Mr7 g0 g C l X0 (rootsOf at_ (rs.take i)) v br qb) ?_ (n := rs.length) (by omega)
    ⟨0, _, none, qb0, rfl, by omega, ⟨W0, SlB.mt, KpX.refl _ _, fun j hj => by cases hj⟩⟩
  rintro m vs g ⟨i, v, br, qb, rfl, hm, W⟩
  rw [gd0, gd1]
  have z0 : 0 < g0.next := W0.xl 0 W0.x0
  by_cases hi : i < rs.length
  · have hlt : (i : Int) < rs.length := by omega
    obtain ⟨y, hy⟩ : ∃ y, rs[i]? = some y := ⟨_, List.getElem?_eq_getElem hi⟩
    obtain ⟨p, ix, ld⟩ := hr.2 i y hy
    have ld0 := ld g W.k
    have sci := suc64 i (by omega)
    have ets := rootsOf_snoc at_ (rs.take i) y
    rw [← take_suc hy] at ets
    have skip : ¬ (0 ≤ y ∧ y < at_.length) → Mr7 g0 g C l X0 (rootsOf at_ (rs.take (i + 1))) v br qb := fun h => by
      rw [ets, if_neg h, List.append_nil]; exact W
    by_cases hy0 : 0 ≤ y
    · by_cases hya : y < at_.length
      · obtain ⟨x, hx⟩ : ∃ x, at_[y.toNat]? = some x := ⟨_, List.getElem?_eq_getElem (by omega)⟩
        obtain ⟨pa, ixa, lda⟩ := ha.2 _ x hx
        have ey : ((y.toNat : Nat) : Int) = y := by omega
        rw [ey] at ixa
        have lda0 := lda g W.k
        have rl : (rootsOf at_ (rs.take i)).length ≤ 20 := by
          have := rootsOf_len at_ (rs.take i)
          rw [List.length_take] at this; omega
        refine Ok.eq ?_ (by simp -implicitDefEqProofs only [k_law7_MarkAll_b0, hr.1, Option.bind_some, bin_lss, hlt, decide_true, condE_true, ix, ld0, bin_geq, hy0, gdW_tt, gQ_true, cl_some, ha.1, hya, pickP_bool, if_true, ixa, lda0] <;> rfl)
        refine app1 (t := .int .i64 x) W.sl rfl rfl rfl (by decide) (by omega) fun v' g1 hv1 s1 n1 => ?_
        have fr1 : ∀ j ∈ br.toList, j ∉ X0 := fun j hj hx => by
          have := W.fr j (by simpa using hj)
          have := W0.xl j hx
          omega
        have k1 : KpX X0 g g1 := KpX.of s1 fr1
        have M1 : Mm g1 C ⟨(shadeL l.ar [] (rootsOf at_ (rs.take i))).1, l.un⟩ sh7 qb (shadeL l.ar [] (rootsOf at_ (rs.take i))).2 ((g.next + 1) :: X0) := W.M.frame s1 (fun j hj => ⟨fun hm => (W.M.own hm).1 (List.mem_append_left _ hj), by have := W.fr j (by simpa using hj); omega⟩) (fun j hj => by
          rw [List.mem_cons] at hj
          rcases hj with rfl | hj
          · exact ⟨fun hm => by have := (W.M.own hm).2.2; omega, by omega⟩
          · exact ⟨fun hm => (W.M.own hm).1 (List.mem_append_right _ hj), Nat.lt_of_lt_of_le (W.M.xl j (List.mem_append_right _ hj)) s1.next⟩) (List.mem_cons_of_mem _ W0.x0)
        have k01 := W.k.trans k1
        have ld1 := ld g1 k01
        have lda1 := lda g1 k01
        refine Ok.eq ?_ (by simp -implicitDefEqProofs only [ld1, Option.bind_some, ixa, lda1] <;> rfl)
        have hq := shadeL_len (rootsOf at_ (rs.take i)) l.ar []
        refine ok_cl (mshade_ok M1 x (by simp at hq; omega)) ?_
        rintro _ g2 ⟨rfl, qb2, M2, k2⟩
        simp only at M2 k2
        refine (Ok.of (r := (.normal, [v', .int .i64 ((i + 1 : Nat) : Int)], g2)) (.inl ⟨rfl, m - 1, by omega, i + 1, v', some (g.next + 1), qb2, rfl, by omega, ?_⟩)).eq (by
          simp -implicitDefEqProofs only [bin_add, Option.bind_some, sci])
        have ets' : rootsOf at_ (rs.take (i + 1)) = rootsOf at_ (rs.take i) ++ [x] := by rw [ets, if_pos ⟨hy0, hya⟩, hx]; rfl
        rw [ets']
        exact
        { M := by rw [shadeL_snoc]; exact M2
          sl := by
            rw [wsC_app, List.length_append]
            exact hv1.same k2.frame (fun j hj => by cases hj; exact not_out (by simp))
          k := k01.trans (k2.sub fun j hj => List.mem_cons_of_mem _ hj)
          fr := fun j hj => by cases hj; have := W.k.next; omega }
      · exact (Ok.of (r := (.normal, [v, .int .i64 ((i + 1 : Nat) : Int)], g)) (.inl ⟨rfl, m - 1, by omega, i + 1, v, br, qb, rfl, by omega, skip (fun h => hya h.2)⟩)).eq (by
          simp -implicitDefEqProofs only [k_law7_MarkAll_b0, hr.1, Option.bind_some, bin_lss, hlt, decide_true, condE_true, ix, ld0, bin_geq, hy0, gdW_tt, gQ_true, cl_some, ha.1, hya, decide_false, pickP_bool, if_true, condE_false, bin_add, sci])
    · exact (Ok.of (r := (.normal, [v, .int .i64 ((i + 1 : Nat) : Int)], g)) (.inl ⟨rfl, m - 1, by omega, i + 1, v, br, qb, rfl, by omega, skip (fun h => hy0 h.1)⟩)).eq (by
        simp -implicitDefEqProofs only [k_law7_MarkAll_b0, hr.1, Option.bind_some, bin_lss, hlt, decide_true, condE_true, ix, ld0, bin_geq, hy0, decide_false, gdW_ft, gQ_false, pickP_bool, Bool.false_eq_true, if_false, condE_false, bin_add, sci])
  · have hlt : ¬ (i : Int) < rs.length := by omega
    obtain rfl : i = rs.length := by omega
    rw [List.take_length] at W
    exact (Ok.of (r := (.exit 0, [v, .int .i64 (rs.length : Int)], g)) (.inr ⟨by simp, rfl, br, qb, W⟩)).eq (by
      simp -implicitDefEqProofs only [k_law7_MarkAll_b0, hr.1, Option.bind_some, bin_lss, hlt, decide_false, condE_false])
/-- Stepped till nothing is grey. -/
theorem all_loop1 {a0 : PAr} {G gq : List Int} {qb : Option Nat} {X : List Nat} {cls : List Int} {L : List Tm} (M : Mm g0 C l sh7 qb gq X) (H0 : Wf a0) (K : Mk sh7 a0 G l.ar gq) (O : Once l.ar [] gq) (R : Rel l.ar cls L) (hq : gq.length ≤ 100) :
    Ok (k_law7_MarkAll_L1 (.ptr (some (C 11, 0))) (.int .i64 0) g0) fun r => r.1 = .exit 2 ∧ ∃ P a' qb' L', r.2.1.getD 0 .bot = .int .i64 (P.length : Nat) ∧ Mm r.2.2 C ⟨a', l.un⟩ sh7 qb' [] X ∧ Mk sh7 a0 G a' [] ∧ Once a' P [] ∧ Rel a' cls L' ∧ KpX X g0 r.2.2 := by
  have hmu := mu_le l.ar
  have hN := H0.hi
  have hsl := K.same.len
  refine ok_loop (fun m vs g => ∃ (P q : List Int) (a' : PAr) (qb' : Option Nat) (L' : List Tm), vs = [.int .i64 (P.length : Nat)] ∧ m = q.length + a'.mu ∧ m + P.length ≤ 40000 ∧ Mm g C ⟨a', l.un⟩ sh7 qb' q X ∧ Mk sh7 a0 G a' q ∧ Once a' P q ∧ Rel a' cls L' ∧ KpX X g0 g) ?_ (n := gq.length + l.ar.mu) (by omega)
    ⟨[], gq, l.ar, qb, L, rfl, rfl, by simp only [List.length_nil]; omega, M, K, O, R, KpX.refl _ _⟩
  rintro m vs g ⟨P, q, a', qb', L', rfl, hm, hb, M, K, O, R, k⟩
  rw [gd0]
  cases q with
  | nil =>
    refine (Ok.of (r := (.exit 2, [.int .i64 (P.length : Nat)], g)) (.inr ⟨by simp, rfl, P, a', qb', L', rfl, M, K, O, R, k⟩)).eq (by
      simp -implicitDefEqProofs only [k_law7_MarkAll_b1, mstep_no M, cl_some, condE_false])
  | cons x q =>
    simp only [List.length_cons] at hm
    refine Ok.eq ?_ (by unfold k_law7_MarkAll_b1; rfl)
    refine ok_cl (mstep_ok M (by omega)) ?_
    rintro _ g2 ⟨rfl, qb2, M2, k2⟩
    simp only at M2 k2
    have hmu := shadeL_mu (fieldsL sh7 a' x) a' q
    obtain ⟨L2, R2⟩ := rel_shade (fieldsL sh7 a' x) q R
    refine (Ok.of (r := (.normal, [.int .i64 ((P.length + 1 : Nat) : Int)], g2)) (.inl ⟨rfl, m - 1, by omega, P ++ [x], _, _, qb2, L2, by simp, by omega, by simp; omega, M2, mk_step H0 K, once_shade _ (K.same.wf H0) (once_next O), R2, k.trans k2⟩)).eq (by
      simp -implicitDefEqProofs only [condE_true, bin_add, Option.bind_some, suc64 _ (show P.length < 2 ^ 62 by omega)])
/-- All are marked, are there, in their order. -/
theorem all_loop2 {R : List Int} {vR : AV} {qb : Option Nat} {gq : List Int} {X : List Nat} (M : Mm g0 C l sh7 qb gq X) (hR : Ird g0 X vR R) (hm : ∀ x ∈ R, l.ar.isM x = true) (so : R.Pairwise (· < ·)) (hl : R.length ≤ 32768) (y : AV) :
    Ok (k_law7_MarkAll_L2 (.ptr (some (C 6, 0))) vR y (.int .i64 0) g0) fun r => r.1 = .exit 4 ∧ Mm r.2.2 C l sh7 qb gq X := by
  refine ok_loop (fun m vs g => ∃ i : Nat, vs = [y, .int .i64 i] ∧ m + i = R.length ∧ Mm g C l sh7 qb gq X ∧ KpX X g0 g) ?_ (n := R.length) (by omega) ⟨0, rfl, by omega, M, KpX.refl _ _⟩
  rintro m vs g ⟨i, rfl, hmi, M, k⟩
  rw [gd0, gd1]
  by_cases hi : i < R.length
  · have hlt : (i : Int) < R.length := by omega
    obtain ⟨x, hx⟩ : ∃ x, R[i]? = some x := ⟨_, List.getElem?_eq_getElem hi⟩
    obtain ⟨p, ix, ld⟩ := hR.2 i x hx
    have ld0 := ld g k
    have hxm := hm x (List.mem_of_getElem? hx)
    refine Ok.eq ?_ (by simp -implicitDefEqProofs only [k_law7_MarkAll_b2, hR.1, Option.bind_some, bin_lss, hlt, decide_true, condE_true, ix, ld0] <;> rfl)
    refine ok_cl (mark_ok M.al.ar x) ?_
    rintro _ g2 ⟨rfl, A2, s2⟩
    simp only at A2 s2
    rw [mark_is M.wf hxm] at A2 ⊢
    obtain ⟨M2, k2⟩ := M.turn (l' := l) (s2.sub (by simp)) (M.al.arena (s2.sub (by simp)) A2 rfl) M.wf
    have k02 := k.trans k2
    have ld2 := ld g2 k02
    have his : l.ar.is x = true := (is_find _ _).2 (fun h => by unfold PAr.isM at hxm; rw [h] at hxm; cases hxm)
    have sci := suc64 i (by omega)
    have fin : Ok (some ((Ex.normal), [y, AV.int .i64 ((i + 1 : Nat) : Int)], g2) : OutV) fun r => (r.1 = .normal ∧ ∃ m', m' < m ∧ ∃ i : Nat, r.2.1 = [y, .int .i64 i] ∧ m' + i = R.length ∧ Mm r.2.2 C l sh7 qb gq X ∧ KpX X g0 r.2.2) ∨ (r.1 ≠ .normal ∧ (r.1 = .exit 4 ∧ Mm r.2.2 C l sh7 qb gq X)) :=
      Ok.of (.inl ⟨rfl, m - 1, by omega, i + 1, rfl, by omega, M2, k02⟩)
    refine fin.eq ?_
    by_cases h0 : i = 0
    · subst h0
      have z : ¬ (0 : Int) < ((0 : Nat) : Int) := by omega
      simp -implicitDefEqProofs only [gdW_ff, gV_true, Option.bind_some, ix, ld2, gQ_true, is_eq M2.al.ar, his, cl_some, un_not, Bool.not_true, pickP_bool, Bool.false_eq_true, if_false, bin_gtr, z, decide_false, gdW_ft, gV_false, chk_nil, condE_false, bin_add, sci]
    · have z : (0 : Int) < (i : Int) := by omega
      obtain ⟨u, hu⟩ : ∃ u, R[i - 1]? = some u := ⟨_, List.getElem?_eq_getElem (by omega)⟩
      obtain ⟨p', ix', ld'⟩ := hR.2 (i - 1) u hu
      have e1 : (((i - 1 : Nat)) : Int) = (i : Int) - 1 := by omega
      rw [e1] at ix'
      have hw : IntKind.i64.wrap ((i : Int) - 1) = (i : Int) - 1 := wrap_i64 (by omega) (by omega)
      have hlt2 : u < x := by
        have := List.pairwise_iff_getElem.1 so (i - 1) i (by omega) hi (by omega)
        rw [List.getElem?_eq_getElem (by omega)] at hu hx
        rw [Option.some.inj hu, Option.some.inj hx] at this
        exact this
      have hle : ¬ x ≤ u := by omega
      simp -implicitDefEqProofs only [gdW_ff, gdW_tt, gV_true, Option.bind_some, ix, ld2, gQ_true, is_eq M2.al.ar, his, cl_some, un_not, Bool.not_true, pickP_bool, Bool.false_eq_true, if_false, if_true, bin_gtr, z, decide_true, bin_sub, hw, ix', ld' g2 k02, bin_leq, hle, decide_false, chk_nil, condE_false, bin_add, sci]
  · have hlt : ¬ (i : Int) < R.length := by omega
    exact (Ok.of (r := (.exit 4, [y, .int .i64 (i : Int)], g)) (.inr ⟨by simp, rfl, M⟩)).eq (by
      simp -implicitDefEqProofs only [k_law7_MarkAll_b2, hR.1, Option.bind_some, bin_lss, hlt, decide_false, condE_false])
theorem ones_0 : ones 0 = 0 := by decide
theorem totM_le (a : PAr) : ∀ k, totM a k ≤ k * 64
  | 0 => by simp [totM]
  | k + 1 => by
    rw [totM]
    have := totM_le a k
    have : ones (a.marked (k : Int)) ≤ 64 := cnt_le _ _
    omega
theorem all_loop3 {qb : Option Nat} {gq : List Int} {X : List Nat} (M : Mm g0 C l sh7 qb gq X) :
    Ok (k_law7_MarkAll_L3 (.ptr (some (C 6, 0))) (.int .i64 0) (.int .i64 1) g0) fun r => r.1 = .exit 6 ∧ r.2.2 = g0 ∧ r.2.1.getD 0 .bot = .int .i64 (totM l.ar 10) := by
  refine ok_loop (fun m vs g => ∃ i : Nat, vs = [.int .i64 (totM l.ar i), .int .i64 i] ∧ m + i = 10 ∧ 1 ≤ i ∧ g = g0) ?_ (n := 9) (by omega) ⟨1, by
    have h1 : l.ar.marked ((0 : Nat) : Int) = 0 := by unfold PAr.marked; rw [cls_0, if_pos rfl]
    have : totM l.ar 1 = 0 := by rw [totM, totM, h1]; exact ones_0
    rw [this]; rfl, by omega, by omega, rfl⟩
  rintro m vs g ⟨i, rfl, hm, h1, hgg⟩
  subst hgg
  rw [gd0, gd1]
  by_cases hi : i < 10
  · have hlt : (i : Int) < 10 := by omega
    have hl := totM_le l.ar i
    have h2 := totM_le l.ar (i + 1)
    have e : ((totM l.ar i : Nat) : Int) + (ones (l.ar.marked (i : Int)) : Int) = ((totM l.ar (i + 1) : Nat) : Int) := by rw [totM]; omega
    refine Ok.eq ?_ (by simp -implicitDefEqProofs only [k_law7_MarkAll_b3, bin_lss, hlt, decide_true, Option.bind_some, condE_true, marked_eq M.al.ar, cl_some] <;> rfl)
    refine ok_cl (rones_ok (l.ar.marked (i : Int)) g) ?_
    rintro _ _ he
    cases he
    have hw : IntKind.i64.wrap (((totM l.ar (i + 1) : Nat) : Int)) = ((totM l.ar (i + 1) : Nat) : Int) := wrap_i64 (by omega) (by omega)
    exact (Ok.of (r := (.normal, [.int .i64 (totM l.ar (i + 1)), .int .i64 ((i + 1 : Nat) : Int)], g)) (.inl ⟨rfl, m - 1, by omega, i + 1, rfl, by omega, by omega, rfl⟩)).eq (by
      simp -implicitDefEqProofs only [bin_add, e, hw, Option.bind_some, suc64 i (by omega)])
  · have hlt : ¬ (i : Int) < 10 := by omega
    obtain rfl : i = 10 := by omega
    exact (Ok.of (r := (.exit 6, [.int .i64 (totM l.ar 10), .int .i64 ((10 : Nat) : Int)], g)) (.inr ⟨by simp, rfl, rfl, rfl⟩)).eq (by
      simp -implicitDefEqProofs only [k_law7_MarkAll_b3, bin_lss, hlt, decide_false, Option.bind_some, condE_false])
end
end Go.Ab.F

namespace Go.Ab.F
open Go Go.Ab
set_option linter.all false
set_option linter.all false
attribute [local congr] c_bind c_cl c_mk c_lp c_clC c_gQ c_gV c_condE c_thenK

/-! MarkAll. -/
theorem e3 {a b c d : AV} {l : List AV} : (a :: b :: c :: d :: l)[3]? = some d := rfl
theorem zr_all (h : Heap) : ∀ j, j < h.next → j ∈ Zr h := fun j hj => by simp only [Zr, List.mem_range]; exact hj
theorem ths_len {h : Heap} {v : AV} {ts : List Th} (H : ThsRd h v ts) : lnL v = some (.int .i64 ts.length) := H.lnL
theorem markAll_true {h : Heap} (hsub : Sub hQ1 h) (hn1 : 1 ≤ h.next) {x0 x1 : AV} {ts : List Th} {rs : List Int} (hts : ThsRd h x0 ts) (hrs : RdW h 1 x1 (rs.map (AV.int .i64)) rs.length) :
    Ok (k_law7_MarkAll x0 x1 h) fun r => r.1 = .bool true := by
  have ht := tab0_sub hsub hn1
  have haw : k_law7_awake h = some (.bool true, h) := quiet_pos hsub
  by_cases h30 : 30 < ts.length
  · have h30' : (30 : Int) < ts.length := by omega
    exact ok_val (v := .bool true) (g := h) (by simp -implicitDefEqProofs only [k_law7_MarkAll, haw, cl_some, un_not, Bool.not_true, Option.bind_some, condE_false, hts.lnL, bin_gtr, h30', decide_true, gdW_tf, gQ_false, pickP_bool, if_true, condE_true]) rfl
  have h30' : ¬ (30 : Int) < ts.length := by omega
  by_cases h20 : 20 < rs.length
  · have h20' : (20 : Int) < rs.length := by omega
    exact ok_val (v := .bool true) (g := h) (by simp -implicitDefEqProofs only [k_law7_MarkAll, haw, cl_some, un_not, Bool.not_true, Option.bind_some, condE_false, hts.lnL, hrs.lnL, bin_gtr, h30', h20', decide_true, decide_false, gdW_ff, gQ_true, pickP_bool, Bool.false_eq_true, if_false, condE_true]) rfl
  have h20' : ¬ (20 : Int) < rs.length := by omega
  refine Ok.eq ?_ (by simp -implicitDefEqProofs only [k_law7_MarkAll, haw, cl_some, un_not, Bool.not_true, Option.bind_some, condE_false, hts.lnL, hrs.lnL, bin_gtr, h30', h20', decide_false, gdW_ff, gQ_true, pickP_bool, Bool.false_eq_true, if_false] <;> rfl)
  have wk := world_ok ht (N := 10) (by omega) (by omega) hts (by omega)
  refine ok_cl wk ?_
  rintro _ g6 ⟨C, D, va, at_, qb, b, bT, ba, cls, L, l, rfl, W⟩
  simp only at W
  refine Ok.eq ?_ (by simp -implicitDefEqProofs only [extractV_tup, e0, e1, e2, e3, Option.bind_some, eql_ptr_nil, condE_false] <;> rfl)
  have M6 := W.P.pm
  generalize hX : ownR D b bT none L ++ (ba.toList ++ Zr h) = X0 at M6
  have zX : ∀ j ∈ Zr h, j ∈ X0 := fun j hj => by rw [← hX]; exact List.mem_append_right _ (List.mem_append_right _ hj)
  have bX : ∀ j, ba = some j → j ∈ X0 := fun j hj => by rw [← hX]; simp [hj]
  have hr : Ird g6 X0 x1 rs := (ird_rdw hrs (zr_all h)).kp W.k zX
  have ha : Ird g6 X0 va at_ := ird_slb W.sl bX
  refine ok_lp (all_loop0 M6 hr ha (by omega)) ?_
  rintro _ vs7 g7 ⟨rfl, br, qb7, V⟩
  simp only at V
  have rl := rootsOf_len at_ rs
  generalize rootsOf at_ rs = G at *
  have H0 := W.P.pm.wf
  have S1 := shadeL_same G l.ar []
  refine Ok.eq ?_ (by simp -implicitDefEqProofs only [if_true, thenK_normal] <;> rfl)
  refine ok_cl (reach_ok V.M (Srd.of V.sl) (by omega)) ?_
  rintro vR g8 ⟨R, RL, hRl, hB⟩
  simp only at hB
  obtain ⟨b8, hv8, Y, hbY, hXY, M8, s8⟩ := hB.use V.M
  obtain ⟨L1, R1⟩ := rel_shade G [] W.P.rk.rel
  have hq := shadeL_len G l.ar []
  refine ok_lp (all_loop1 M8 H0 (mk_none H0 W.cl G) (once_shade G H0 (once_none W.cl)) R1 (by simp at hq; omega)) ?_
  rintro _ vs9 g9 ⟨rfl, P, a9, qb9, L9, hP, M9, K9, O9, R9, k9⟩
  simp only at hP M9 k9
  have hmem : ∀ x, a9.isM x = true ↔ x ∈ R := fun x => by
    rw [mk_end K9, RL.mem]
    exact ⟨fun h => h.same S1.cov, fun h => h.same S1⟩
  have hR9 : Ird g9 Y vR R := (ird_slb hv8 hbY).kp k9 fun j hj => hj
  refine Ok.eq ?_ (by simp -implicitDefEqProofs only [if_true, thenK_normal] <;> rfl)
  refine ok_lp (all_loop2 M9 hR9 (fun x hx => (hmem x).2 hx) RL.so hRl _) ?_
  rintro _ vs10 g10 ⟨rfl, M10⟩
  simp only at M10
  refine Ok.eq ?_ (by simp -implicitDefEqProofs only [if_true, thenK_normal] <;> rfl)
  refine ok_lp (all_loop3 M10) ?_
  rintro _ vs11 g11 ⟨rfl, rfl, hT⟩
  simp only at hT
  have hsp : a9.sp.length = 10 := by rw [K9.same.len]; exact W.sp
  have hcount := marked_count (K9.same.wf H0) R9.md RL.nd hmem
  rw [hsp] at hcount
  have hPl : P.length = R.length := nodup_len (by have := O9.nd; simpa using this) RL.nd fun n => by rw [← hmem, O9.mem]; simp
  exact ok_val (v := .bool true) (g := g11) (by simp -implicitDefEqProofs only [if_true, thenK_normal, hv8.lnL, Option.bind_some, hT, hcount, eql_int, decide_true, gdW_tt, gQ_true, cl_some, hP, hPl, pickP_bool]) rfl
theorem rep_th {h : Heap} {x : D} {r : List AV} (hlr : r.length = 3) (H : Rep h (.st [.int .i64, .int .i64, .sl (.int .i64)]) x r) : ∃ t, ThRd h r t := by
  cases x <;> simp only [Rep] at H
  rename_i ys
  rcases r with _ | ⟨r0, _ | ⟨r1, _ | ⟨r2, _ | ⟨r3, r⟩⟩⟩⟩ <;> simp at hlr
  rcases ys with _ | ⟨y0, _ | ⟨y1, _ | ⟨y2, _ | ⟨y3, ys⟩⟩⟩⟩ <;> simp only [Reps, and_false] at H
  simp only [Ty.size, List.take_succ_cons, List.take_zero, List.drop_succ_cons, List.drop_zero] at H
  obtain ⟨t0, t1, t2, _⟩ := H
  cases y0 <;> simp only [Rep] at t0
  cases y1 <;> simp only [Rep] at t1
  simp only [List.cons.injEq, and_true] at t0 t1
  obtain ⟨to, k1, k2, k3⟩ := rd_ints t2
  exact ⟨⟨_, _, to⟩, r2, by rw [t0.1, t1.1], k1.w, fun x hx => wf_i64 (k2 x hx), k3⟩
theorem rd_ths {h : Heap} {x : D} {vs : List AV} (H : Rep h (.sl (.st [.int .i64, .int .i64, .sl (.int .i64)])) x vs) : ∃ ts, ThsRd h (argAV (.sl (.st [.int .i64, .int .i64, .sl (.int .i64)])) vs) ts := by
  obtain ⟨rows, h1, h2⟩ := rd_rows H
  have hs : Ty.size (.st [.int .i64, .int .i64, .sl (.int .i64)]) = 3 := rfl
  rw [hs] at h1
  have : ∀ l : List (List AV), (∀ r ∈ l, r.length = 3 ∧ ∃ y, Rep h (.st [.int .i64, .int .i64, .sl (.int .i64)]) y r) → ∃ fs : List Th, l.length = fs.length ∧ ∀ (i : Nat) r f, l[i]? = some r → fs[i]? = some f → ThRd h r f := by
    intro l
    induction l with
    | nil => intro _; exact ⟨[], rfl, by simp⟩
    | cons r l ih =>
      intro H
      obtain ⟨fs, e1, e2⟩ := ih fun r' hr => H r' (List.mem_cons_of_mem _ hr)
      obtain ⟨hl, y, hy⟩ := H r (List.mem_cons_self ..)
      obtain ⟨f, hf⟩ := rep_th hl hy
      refine ⟨f :: fs, by simp [e1], fun i r' f' hr hf' => ?_⟩
      cases i with
      | zero => simp at hr hf'; subst hr; subst hf'; exact hf
      | succ i => exact e2 i r' f' (by simpa using hr) (by simpa using hf')
  obtain ⟨fs, e1, e2⟩ := this rows fun r hr => ⟨h1.rows hr, h2 r hr⟩
  exact ⟨fs, ⟨rows, h1, e1, e2⟩⟩
end Go.Ab.F
