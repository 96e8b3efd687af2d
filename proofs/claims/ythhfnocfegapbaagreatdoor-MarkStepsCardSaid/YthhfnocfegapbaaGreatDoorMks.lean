import Derived.Test.YthhfnocfegapbaaGreatDoorMrs
import Derived.Test.YthhfnocfegapbaaGreatDoorMka

namespace Go.Ab.F
open Go Go.Ab
set_option linter.all false
set_option linter.all false
attribute [local congr] c_bind c_cl c_mk c_lp c_clC c_gQ c_gV c_condE c_thenK

/-! MarkSteps: its loops. -/
theorem chk_23 {R : Type} {f : Heap → Option AV} {v : AV} {g1 g2 g : Heap} {x : Option R} (hv : same v v = true) (h0 : f g = some v) : chk [g1, g2, g, g] [(f, v, 2, 3)] x = x := by
  rw [chk_cons, allFrom_succ, allFrom_succ, allFrom_zero]
  simp [h0, hv]
theorem srd_one {h : Heap} {i : Nat} {x : Int} (hg : h.get i = some (.cells true [.int .i64 x])) (hi : i < h.next) : Srd h (.sl (some (i, 0)) 1 (.ex 1)) [x] :=
  .inr ⟨⟨_, _, _, rfl⟩, rfl, fun g s => by
    have hg' := (s.get i hi (by simp)).trans hg
    simp only [addedA, loadN, hg', spanF_eq]; rfl⟩
theorem ird_one {h : Heap} {i : Nat} {x : Int} (hg : h.get i = some (.cells true [.int .i64 x])) : Ird0 h (.sl (some (i, 0)) 1 (.ex 1)) [x] :=
  ⟨rfl, fun j y hy => by
    cases j with
    | zero =>
      simp at hy; subst hy
      refine ⟨(i, 0), fun k => by rw [iaS_sl 1 (i, 0) _ _ k _ ⟨by omega, by omega⟩]; simp, ?_⟩
      rw [ldS_at hg]; rfl
    | succ j => simp at hy⟩
theorem mleft_eq {h : Heap} {C : Nat → Nat} {l : PAl} {T : List Shp} {qb : Option Nat} {gq : List Int} {X : List Nat} (H : Mm h C l T qb gq X) : k_mark_Marker_Left (.ptr (some (C 11, 0))) h = some (.int .i64 gq.length, h) := by
  obtain ⟨v, hg, hq⟩ := H.gqb
  have l0 : ldS h (.ptr (some (C 12, 0))) = some v := by rw [ldS_at hg]; rfl
  simp -implicitDefEqProofs only [k_mark_Marker_Left, nilV_ptr, Option.bind_some, faP_ptr, Nat.zero_add, H.m 2 _ rfl, k_grey_Queue_Len, l0, hq.lnL, cl_some]
section
variable {g1 : Heap} {C D : Nat → Nat} {qb b bT : Option Nat} {cls : List Int} {Z : List Nat} {l : PAl} {ts : List Th} {x1 v : AV} {at_ : List Int} {ba : Option Nat}
/-- Heads are anything. -/
theorem steps_loop0 {g : Heap} {L : List Tm} {ws : List Int} {x2 : AV} (W : Ww g1 g C D qb b bT cls Z l L l) (hat : Ird g1 Z v at_) (hws : Ird g1 Z x2 ws) (hww : ∀ x ∈ ws, wf64 x) (hok : ∀ (k : Nat) x t, at_[k]? = some x → ts[k]? = some t → AtOk l.ar x (sizeT t.sh t.wd)) (hlen : at_.length = ts.length) (hT : ts.length ≤ 30) (hwl : ws.length ≤ 20) :
    Ok (k_law7_MarkSteps_L0 x2 (.ptr (some (D 4, 0))) (.ptr (some (C 6, 0))) v (.int .i64 0) g) fun r => r.1 = .exit 0 ∧ ∃ L' l2, Ww g1 r.2.2 C D qb b bT cls Z l L' l2 := by
  refine ok_loop (fun m vs g' => ∃ (i : Nat) (L' : List Tm) (l2 : PAl), vs = [.int .i64 i] ∧ m + i = ws.length ∧ Ww g1 g' C D qb b bT cls Z l L' l2) ?_ (n := ws.length) (by omega) ⟨0, L, l, rfl, by omega, W⟩
  rintro m vs g' ⟨i, L', l2, rfl, hm, W'⟩
  rw [gd0]
  by_cases hi : i < ws.length
  · have hlt : (i : Int) < ws.length := by omega
    obtain ⟨w, hw⟩ : ∃ w, ws[i]? = some w := ⟨_, List.getElem?_eq_getElem hi⟩
    obtain ⟨p, ix, ld⟩ := hws.2 i w hw
    have ld0 := ld g' W'.k
    have sci := suc64 i (by omega)
    by_cases hn : 0 < at_.length
    · have hn' : (0 : Int) < at_.length := by omega
      have hne : ¬ (at_.length : Int) = 0 := by omega
      have hmod : i % at_.length < at_.length := Nat.mod_lt _ hn
      have rm : binP .rem (.int .i64 (i : Int)) (.int .i64 (at_.length : Int)) = some (.int .i64 ((i % at_.length : Nat) : Int)) := by
        rw [bin_rem, if_neg hne, rem_nonneg (by omega)]; simp
      obtain ⟨x, hx⟩ : ∃ x, at_[i % at_.length]? = some x := ⟨_, List.getElem?_eq_getElem hmod⟩
      obtain ⟨t, ht⟩ : ∃ t, ts[i % at_.length]? = some t := ⟨_, List.getElem?_eq_getElem (by omega)⟩
      obtain ⟨pa, ixa, lda⟩ := hat.2 _ x hx
      have lda0 := lda g' W'.k
      by_cases h0 : x = 0
      · exact (Ok.of (r := (.normal, [.int .i64 ((i + 1 : Nat) : Int)], g')) (.inl ⟨rfl, m - 1, by omega, i + 1, L', l2, rfl, by omega, W'⟩)).eq (by
          simp -implicitDefEqProofs only [k_law7_MarkSteps_b0, hws.1, bin_lss, hlt, decide_true, Option.bind_some, condE_true, hat.1, bin_gtr, hn', gdW_tt, gQ_true, cl_some, rm, ixa, lda0, neq_int, h0, Bool.not_true, pickP_bool, if_true, condE_false, bin_add, sci])
      · obtain ⟨vT, vq, hm4, _, _⟩ := W'.P.rk.mkb
        have l4 : ldS g' (.ptr (some (D 4, 0))) = some (.ptr (some (D 0, 0))) := by rw [ldS_at hm4]; rfl
        refine Ok.eq ?_ (by simp -implicitDefEqProofs only [k_law7_MarkSteps_b0, hws.1, bin_lss, hlt, decide_true, Option.bind_some, condE_true, hat.1, bin_gtr, hn', gdW_tt, gQ_true, cl_some, rm, ixa, lda0, neq_int, h0, decide_false, Bool.not_false, pickP_bool, if_true, nilV_ptr, faP_ptr, Nat.zero_add, l4, ix, ld0] <;> rfl)
        have hrg := sizeT_rng t.sh t.wd
        refine ok_cl (W'.put (hok _ x t hx ht) h0 (k := 0) (by omega) (hww w (List.mem_of_getElem? hw))) ?_
        rintro _ g2 ⟨L2, l3, W2⟩
        simp only at W2
        exact (Ok.of (r := (.normal, [.int .i64 ((i + 1 : Nat) : Int)], g2)) (.inl ⟨rfl, m - 1, by omega, i + 1, L2, l3, rfl, by omega, W2⟩)).eq (by
          simp -implicitDefEqProofs only [chk_nil, bin_add, Option.bind_some, sci])
    · have hn' : ¬ (0 : Int) < at_.length := by omega
      exact (Ok.of (r := (.normal, [.int .i64 ((i + 1 : Nat) : Int)], g')) (.inl ⟨rfl, m - 1, by omega, i + 1, L', l2, rfl, by omega, W'⟩)).eq (by
        simp -implicitDefEqProofs only [k_law7_MarkSteps_b0, hws.1, bin_lss, hlt, decide_true, Option.bind_some, condE_true, hat.1, bin_gtr, hn', decide_false, gdW_ft, gQ_false, pickP_bool, Bool.false_eq_true, if_false, condE_false, bin_add, sci])
  · have hlt : ¬ (i : Int) < ws.length := by omega
    exact (Ok.of (r := (.exit 0, [.int .i64 (i : Int)], g')) (.inr ⟨by simp, rfl, L', l2, W'⟩)).eq (by
      simp -implicitDefEqProofs only [k_law7_MarkSteps_b0, hws.1, bin_lss, hlt, decide_false, Option.bind_some, condE_false])
end
/-- Both sides, marking. -/
structure Wm7 (g1 g : Heap) (C D : Nat → Nat) (b bT : Option Nat) (cls : List Int) (Z : List Nat) (qb bq : Option Nat) (L : List Tm) (l : PAl) (gq : List Int) : Prop where
  P : J g C D qb b bT bq cls L l gq l gq sh7 Z
  ww : WfW L
  ll : L.length ≤ 1000
  mu : gq.length + l.ar.mu ≤ 40000
  k : KpX Z g1 g
section
variable {g1 : Heap} {C D : Nat → Nat} {b bT : Option Nat} {cls : List Int} {Z : List Nat}
theorem Wm7.keep {g g' : Heap} {qb bq : Option Nat} {L : List Tm} {l : PAl} {gq : List Int} (W : Wm7 g1 g C D b bT cls Z qb bq L l gq) (s : Same [] g g') : Wm7 g1 g' C D b bT cls Z qb bq L l gq := { W with P := W.P.keep s, k := W.k.trans (KpX.same s) }
theorem steps_j0 {g : Heap} {qb bq : Option Nat} {L : List Tm} {l : PAl} {gq : List Int} (W : Wm7 g1 g C D b bT cls Z qb bq L l gq) (x : Int) (y8 : AV) {i : Nat} (hi : i < 2 ^ 40) :
    Ok (k_law7_MarkSteps_j0 (.ptr (some (C 11, 0))) (.ptr (some (D 4, 0))) y8 (.int .i64 (i : Int)) (.int .i64 x) g) fun r => r.1 = .normal ∧ r.2.1 = [y8, .int .i64 ((i + 1 : Nat) : Int)] ∧ ∃ qb' bq' L' l' gq', Wm7 g1 r.2.2 C D b bT cls Z qb' bq' L' l' gq' := by
  have hmu := W.mu
  have hll := W.ll
  refine Ok.eq ?_ (by unfold k_law7_MarkSteps_j0; rfl)
  refine ok_cl (mshade_ok W.P.pm x (by omega)) ?_
  rintro _ g2 ⟨rfl, qb2, M2, k2⟩
  simp only at M2 k2
  obtain ⟨P2, z2⟩ := W.P.prog M2 k2
  refine ok_cl (rshadeM_ok P2.rk W.ww x (by omega)) ?_
  rintro _ g3 ⟨rfl, bq3, L3, R3, k3, w3, h3⟩
  simp only at R3 k3
  obtain ⟨P3, z3⟩ := P2.doc R3 k3
  have mm := mark_mu l.ar x
  have hq3 : (if (l.ar.mark x).1 then gq ++ [x] else gq).length + (l.ar.mark x).2.mu ≤ 40000 := by
    cases h : (l.ar.mark x).1 with
    | true => rw [h] at mm; simp at mm ⊢; omega
    | false => rw [h] at mm; simp at mm ⊢; omega
  generalize (if (l.ar.mark x).1 then gq ++ [x] else gq) = gq3 at *
  have beq : ((l.ar.mark x).1 == (l.ar.mark x).1) = true := by simp
  have W3 : Wm7 g1 g3 C D b bT cls Z qb2 bq3 L3 ⟨(l.ar.mark x).2, l.un⟩ gq3 := { P := P3, ww := w3, ll := by omega, mu := hq3, k := (W.k.trans z2).trans z3 }
  generalize hl3 : (⟨(l.ar.mark x).2, l.un⟩ : PAl) = l3 at *
  refine Ok.eq ?_ (by simp -implicitDefEqProofs only [neq_bool, beq, Bool.not_true, Option.bind_some, gdW_ff, gQ_true, cl_some] <;> rfl)
  refine ok_cl (P := fun r => Back g3 r.2 r.1 (fieldsL sh7 l3.ar x)) ?_ ?_
  · refine ok_cl (fields_ok P3.pm x) ?_
    rintro v g h
    exact ok_val rfl h
  rintro v4 g4 ⟨b4, hv4, s4, hb4⟩
  simp only at hv4 s4
  have W4 := W3.keep s4
  refine ok_cl (P := fun r => Back g4 r.2 r.1 (fieldsL sh7 l3.ar x)) ?_ ?_
  · refine ok_cl (rfields_ok W4.P.rk W4.ww x) ?_
    rintro v g h
    exact ok_val rfl h
  rintro v5 g5 ⟨b5, hv5, s5, hb5⟩
  simp only at hv5 s5
  have W5 := W4.keep s5
  have fl := fieldsL_len sh7 l3.ar x
  have i4 : Ird g5 (b4.toList ++ b5.toList) v4 (fieldsL sh7 l3.ar x) := ird_slb (hv4.same s5 (by simp)) (fun j hj => by simp [hj])
  have i5 : Ird g5 (b4.toList ++ b5.toList) v5 (fieldsL sh7 l3.ar x) := ird_slb hv5 (fun j hj => by simp [hj])
  refine ok_cl (P := fun r => r = (.bool true, g5)) ?_ ?_
  · refine ok_cl (nums_ok i4 i5 (by omega)) ?_
    rintro _ _ he
    cases he
    exact ok_val rfl rfl
  rintro _ _ he
  cases he
  have b1 : bsP 1 [AV.int .i64 0] 1 [(0, .int .i64 x)] = some (.cells true [.int .i64 x], fun i => .sl (some (i, 0)) 1 (.ex 1)) := rfl
  have s6 : Same [] g5 (g5.new (.cells true [.int .i64 x])) := Same.new _ _
  have p6 : (g5.new (.cells true [.int .i64 x])).get g5.next = some (.cells true [.int .i64 x]) := get_new_eq
  have n6 : g5.next < (g5.new (.cells true [.int .i64 x])).next := Nat.lt_succ_self _
  refine Ok.eq ?_ (by simp -implicitDefEqProofs only [un_not, Bool.not_true, Option.bind_some, cl_some, pickP_bool, Bool.false_eq_true, if_false, gdW_ff, gQ_true, b1, mk_some] <;> rfl)
  generalize g5.new (.cells true [.int .i64 x]) = g6 at *
  have W6 := W5.keep s6
  refine ok_cl (P := fun r => ∃ R, RchL sh7 l3.ar [x] R ∧ R.length ≤ 32768 ∧ Back g6 r.2 r.1 R) ?_ ?_
  · refine ok_cl (reach_ok W6.P.pm (srd_one p6 n6) (by simp)) ?_
    rintro v g h
    exact ok_val rfl h
  rintro v7 g7 ⟨R, RL, hR, b7, hv7, s7, hb7⟩
  simp only at hv7 s7
  have W7 := W6.keep s7
  have s8 : Same [] g7 (g7.new (.cells true [.int .i64 x])) := Same.new _ _
  have p8 : (g7.new (.cells true [.int .i64 x])).get g7.next = some (.cells true [.int .i64 x]) := get_new_eq
  have n8 : g7.next < (g7.new (.cells true [.int .i64 x])).next := Nat.lt_succ_self _
  generalize g7.new (.cells true [.int .i64 x]) = g8 at *
  have W8 := W7.keep s8
  have l8 := W8.ll
  refine ok_cl (P := fun r => ∃ R, RchL sh7 l3.ar [x] R ∧ R.length ≤ 100000 ∧ Back g8 r.2 r.1 R) ?_ ?_
  · refine ok_cl (rreachM_ok W8.P.rk W8.ww (by omega) (fun g s => ird_one ((s.get _ n8 (by simp)).trans p8)) (by simp)) ?_
    rintro v g h
    exact ok_val rfl h
  rintro v9 g9 ⟨R', RL', hR', b9, hv9, s9, hb9⟩
  simp only at hv9 s9
  have eR : R' = R := RL'.uniq RL fun _ => Iff.rfl
  subst eR
  have W9 := W8.keep s9
  have i7 : Ird g9 (b7.toList ++ b9.toList) v7 R' := ird_slb ((hv7.same s8 (by simp)).same s9 (by simp)) (fun j hj => by simp [hj])
  have i9 : Ird g9 (b7.toList ++ b9.toList) v9 R' := ird_slb hv9 (fun j hj => by simp [hj])
  refine ok_cl (P := fun r => r = (.bool true, g9)) ?_ ?_
  · refine ok_cl (nums_ok i7 i9 (by omega)) ?_
    rintro _ _ he
    cases he
    exact ok_val rfl rfl
  rintro _ _ he
  cases he
  exact (Ok.of (r := (.normal, [y8, .int .i64 ((i + 1 : Nat) : Int)], g9)) ⟨rfl, rfl, _, _, _, _, _, W9⟩).eq (by
    simp -implicitDefEqProofs only [gdW_ff, gQ_true, un_not, Bool.not_true, Option.bind_some, cl_some, pickP_bool, Bool.false_eq_true, if_false, condE_false, bin_add, suc64 i (by omega)])
theorem steps_loop1 {g : Heap} {qb bq : Option Nat} {L : List Tm} {l : PAl} {gq : List Int} (W : Wm7 g1 g C D b bT cls Z qb bq L l gq) {v x1 : AV} {at_ rs : List Int} (hat : Ird g1 Z v at_) (hrs : Ird g1 Z x1 rs) (hl : rs.length ≤ 20) (y8 : AV) :
    Ok (k_law7_MarkSteps_L1 x1 (.ptr (some (C 11, 0))) (.ptr (some (D 4, 0))) v y8 (.int .i64 0) g) fun r => r.1 = .exit 2 ∧ ∃ qb' bq' L' l' gq', Wm7 g1 r.2.2 C D b bT cls Z qb' bq' L' l' gq' := by
  refine ok_loop (fun m vs g' => ∃ (i : Nat) (qb' bq' : Option Nat) (L' : List Tm) (l' : PAl) (gq' : List Int), vs = [y8, .int .i64 i] ∧ m + i = rs.length ∧ Wm7 g1 g' C D b bT cls Z qb' bq' L' l' gq') ?_ (n := rs.length) (by omega) ⟨0, qb, bq, L, l, gq, rfl, by omega, W⟩
  rintro m vs g' ⟨i, qb', bq', L', l', gq', rfl, hm, W'⟩
  rw [gd0, gd1]
  by_cases hi : i < rs.length
  · have hlt : (i : Int) < rs.length := by omega
    obtain ⟨y, hy⟩ : ∃ y, rs[i]? = some y := ⟨_, List.getElem?_eq_getElem hi⟩
    obtain ⟨p, ix, ld⟩ := hrs.2 i y hy
    have ld0 := ld g' W'.k
    have fin : ∀ z : Int, Ok (k_law7_MarkSteps_j0 (.ptr (some (C 11, 0))) (.ptr (some (D 4, 0))) y8 (.int .i64 (i : Int)) (.int .i64 z) g') fun r => (r.1 = .normal ∧ ∃ m', m' < m ∧ ∃ (i : Nat) (qb' bq' : Option Nat) (L' : List Tm) (l' : PAl) (gq' : List Int), r.2.1 = [y8, .int .i64 i] ∧ m' + i = rs.length ∧ Wm7 g1 r.2.2 C D b bT cls Z qb' bq' L' l' gq') ∨ (r.1 ≠ .normal ∧ (r.1 = .exit 2 ∧ ∃ qb' bq' L' l' gq', Wm7 g1 r.2.2 C D b bT cls Z qb' bq' L' l' gq')) := fun z =>
      (steps_j0 W' z y8 (i := i) (by omega)).mono (by
        rintro r ⟨h1, h2, qb2, bq2, L2, l2, gq2, W2⟩
        exact .inl ⟨h1, m - 1, by omega, i + 1, qb2, bq2, L2, l2, gq2, h2, by omega, W2⟩)
    by_cases hy0 : 0 ≤ y
    · by_cases hya : y < at_.length
      · obtain ⟨z, hz⟩ : ∃ z, at_[y.toNat]? = some z := ⟨_, List.getElem?_eq_getElem (by omega)⟩
        obtain ⟨pa, ixa, lda⟩ := hat.2 _ z hz
        have ey : ((y.toNat : Nat) : Int) = y := by omega
        rw [ey] at ixa
        refine (fin z).eq (by
          simp -implicitDefEqProofs only [k_law7_MarkSteps_b1, hrs.1, bin_lss, hlt, decide_true, Option.bind_some, condE_true, ix, ld0, bin_geq, hy0, gdW_tt, gQ_true, cl_some, hat.1, hya, pickP_bool, if_true, ixa, lda g' W'.k])
      · refine (fin y).eq (by
          simp -implicitDefEqProofs only [k_law7_MarkSteps_b1, hrs.1, bin_lss, hlt, decide_true, Option.bind_some, condE_true, ix, ld0, bin_geq, hy0, gdW_tt, gQ_true, cl_some, hat.1, hya, decide_false, pickP_bool, if_true, condE_false])
    · refine (fin y).eq (by
        simp -implicitDefEqProofs only [k_law7_MarkSteps_b1, hrs.1, bin_lss, hlt, decide_true, Option.bind_some, condE_true, ix, ld0, bin_geq, hy0, decide_false, gdW_ft, gQ_false, pickP_bool, Bool.false_eq_true, if_false, condE_false])
  · have hlt : ¬ (i : Int) < rs.length := by omega
    exact (Ok.of (r := (.exit 2, [y8, .int .i64 (i : Int)], g')) (.inr ⟨by simp, rfl, qb', bq', L', l', gq', W'⟩)).eq (by
      simp -implicitDefEqProofs only [k_law7_MarkSteps_b1, hrs.1, bin_lss, hlt, decide_false, Option.bind_some, condE_false])
theorem steps_loop2 {g : Heap} {qb bq : Option Nat} {L : List Tm} {l : PAl} {gq : List Int} (W : Wm7 g1 g C D b bT cls Z qb bq L l gq) {n : Int} (hn : n ≤ 60) (h0 : 0 ≤ n) (y8 : AV) :
    Ok (k_law7_MarkSteps_L2 (.int .i64 n) (.ptr (some (C 11, 0))) (.ptr (some (D 4, 0))) y8 (.int .i64 0) g) fun r => r.1 = .exit 4 ∧ ∃ qb' bq' L' l' gq', Wm7 g1 r.2.2 C D b bT cls Z qb' bq' L' l' gq' := by
  refine ok_loop (fun m vs g' => ∃ (i : Nat) (qb' bq' : Option Nat) (L' : List Tm) (l' : PAl) (gq' : List Int), vs = [y8, .int .i64 i] ∧ m + i = n.toNat ∧ Wm7 g1 g' C D b bT cls Z qb' bq' L' l' gq') ?_ (n := n.toNat) (by omega) ⟨0, qb, bq, L, l, gq, rfl, by omega, W⟩
  rintro m vs g' ⟨i, qb', bq', L', l', gq', rfl, hm, W'⟩
  rw [gd0, gd1]
  by_cases hi : i < n.toNat
  · have hlt : (i : Int) < n := by omega
    have hmu := W'.mu
    have hll := W'.ll
    have sci := suc64 i (by omega)
    have tail : ∀ {g2 g3 : Heap} {qb2 bq2 : Option Nat} {L2 : List Tm} {l2 : PAl} {gq2 : List Int} (c : Bool), Wm7 g1 g3 C D b bT cls Z qb2 bq2 L2 l2 gq2 → Ok (R := Ex × List AV × Heap) ((eqP (some .bool) none false .neq (.bool c) (.bool c)).bind fun t157 =>
        (gV (gdW t157 false) (some (AV.ptr (some (C 11, 0)))) (.tup [])).bind fun t159 =>
        gQ (gdW t157 false) g3 (cl (k_mark_Marker_Left t159 g3) fun t160 h114 => some (t160, h114)) fun t160_115 h116 =>
        (gV (gdW t157 false) (some (AV.ptr (some (D 4, 0)))) (.tup [])).bind fun t161 =>
        (gV (gdW t157 false) (nilV t161) (.tup [])).bind fun t162 =>
        (gV (gdW t157 false) (faP 2 t162) (.tup [])).bind fun t163 =>
        clC (gV (gdW t157 false) (rdC (fun g => ldS g t163) h116 2 3 []) (.tup [], [])) fun t164 cs =>
        (gV (gdW t157 false) (lnL t164) (.tup [])).bind fun t165 =>
        (gV (gdW t157 false) (eqP (some (.int .i64)) none false .neq t160_115 t165) (.tup [])).bind fun t166 =>
        (pickP t157 (AV.bool true) t166).bind fun t167 =>
        chk [g', g2, g3, h116] cs (
        condE t167 (
        some (Ex.ret, [(AV.bool false), (AV.int .i64 (i : Int))], h116)) (
        (binP .add (AV.int .i64 (i : Int)) (AV.int .i64 1)).bind fun t152 =>
        some (Ex.normal, [y8, t152], h116)))) fun r => (r.1 = .normal ∧ ∃ m', m' < m ∧ ∃ (i : Nat) (qb' bq' : Option Nat) (L' : List Tm) (l' : PAl) (gq' : List Int), r.2.1 = [y8, .int .i64 i] ∧ m' + i = n.toNat ∧ Wm7 g1 r.2.2 C D b bT cls Z qb' bq' L' l' gq') ∨ (r.1 ≠ .normal ∧ (r.1 = .exit 4 ∧ ∃ qb' bq' L' l' gq', Wm7 g1 r.2.2 C D b bT cls Z qb' bq' L' l' gq')) := fun {g2 g3 qb2 bq2 L2 l2 gq2} c W3 => by
      obtain ⟨vT, vq, hm4, _, hq⟩ := W3.P.rk.mkb
      have l2' : ldS g3 (.ptr (some (D 4, 2))) = some vq := by rw [ldS_at hm4]; rfl
      have beq : (c == c) = true := by simp
      have ck : ∀ (x : OutV), chk [g', g2, g3, g3] [((fun g => ldS g (.ptr (some (D 4, 2)))), vq, 2, 3)] x = x := fun x => chk_23 hq.samev l2'
      exact (Ok.of (r := (.normal, [y8, .int .i64 ((i + 1 : Nat) : Int)], g3)) (.inl ⟨rfl, m - 1, by omega, i + 1, qb2, bq2, L2, l2, gq2, rfl, by omega, W3⟩)).eq (by
        simp -implicitDefEqProofs only [neq_bool, beq, Bool.not_true, Option.bind_some, gdW_ff, gV_true, gQ_true, mleft_eq W3.P.pm, cl_some, nilV_ptr, faP_ptr, Nat.zero_add, rdC, l2', clC_some, hq.lnL, neq_int, decide_true, pickP_bool, Bool.false_eq_true, if_false, ck, condE_false, bin_add, sci])
    cases gq' with
    | nil =>
      refine (tail (g2 := g') (g3 := g') false W').eq ?_
      simp -implicitDefEqProofs only [k_law7_MarkSteps_b2, bin_lss, hlt, decide_true, Option.bind_some, condE_true, mstep_no W'.P.pm, cl_some, rstepM_no W'.P.rk]
    | cons x q =>
      simp only [List.length_cons] at hmu
      refine Ok.eq ?_ (by simp -implicitDefEqProofs only [k_law7_MarkSteps_b2, bin_lss, hlt, decide_true, Option.bind_some, condE_true] <;> rfl)
      refine ok_cl (mstep_ok W'.P.pm (by omega)) ?_
      rintro _ g2 ⟨rfl, qb2, M2, k2⟩
      simp only at M2 k2
      obtain ⟨P2, z2⟩ := W'.P.prog M2 k2
      refine ok_cl (rstepM_ok P2.rk W'.ww (by omega)) ?_
      rintro _ g3 ⟨rfl, bq3, L3, R3, k3, w3, h3⟩
      simp only at R3 k3
      obtain ⟨P3, z3⟩ := P2.doc R3 k3
      have hs := shadeL_mu (fieldsL sh7 l'.ar x) l'.ar q
      exact tail true { P := P3, ww := w3, ll := by omega, mu := by simp only; omega, k := (W'.k.trans z2).trans z3 }
  · have hlt : ¬ (i : Int) < n := by omega
    exact (Ok.of (r := (.exit 4, [y8, .int .i64 (i : Int)], g')) (.inr ⟨by simp, rfl, qb', bq', L', l', gq', W'⟩)).eq (by
      simp -implicitDefEqProofs only [k_law7_MarkSteps_b2, bin_lss, hlt, decide_false, Option.bind_some, condE_false])
theorem steps_loop3 {g : Heap} {qb bq : Option Nat} {L : List Tm} {l : PAl} {gq : List Int} (W : Wm7 g1 g C D b bT cls Z qb bq L l gq) (hN : l.ar.sp.length = 10) (y8 : AV) :
    Ok (k_law7_MarkSteps_L3 (.ptr (some (D 4, 0))) (.ptr (some (C 6, 0))) y8 (.int .i64 1) g) fun r => r.1 = .exit 6 := by
  refine ok_loop (fun m vs g' => ∃ (i : Nat), vs = [y8, .int .i64 i] ∧ m + i = 10 ∧ Wm7 g1 g' C D b bT cls Z qb bq L l gq) ?_ (n := 9) (by omega) ⟨1, rfl, by omega, W⟩
  rintro m vs g' ⟨i, rfl, hm, W'⟩
  rw [gd0, gd1]
  by_cases hi : i < 10
  · have hlt : (i : Int) < 10 := by omega
    obtain ⟨vT, vq, hm4, _, _⟩ := W'.P.rk.mkb
    have l4 : ldS g' (.ptr (some (D 4, 0))) = some (.ptr (some (D 0, 0))) := by rw [ldS_at hm4]; rfl
    have R := W'.P.rk.rel
    have hcn := R.cl i (by omega)
    refine Ok.eq ?_ (by simp -implicitDefEqProofs only [k_law7_MarkSteps_b3, bin_lss, hlt, decide_true, Option.bind_some, condE_true, nilV_ptr, faP_ptr, Nat.zero_add, l4] <;> rfl)
    refine ok_cl (rmaps_ok W'.P.rk.ar hcn (fun t ht hs => (R.places ht hs).2.2.1)) ?_
    rintro _ g2 ⟨rfl, s2⟩
    simp only at s2
    have W2 := W'.keep s2
    have tm := (R.taken_marked i).2
    exact (Ok.of (r := (.normal, [y8, .int .i64 ((i + 1 : Nat) : Int)], g2)) (.inl ⟨rfl, m - 1, by omega, i + 1, rfl, by omega, W2⟩)).eq (by
      simp -implicitDefEqProofs only [extractV_tup, e0, e1, Option.bind_some, marked_eq W2.P.pm.al.ar, cl_some, tm, neq_int, decide_true, Bool.not_true, condE_false, bin_add, suc64 i (by omega)])
  · have hlt : ¬ (i : Int) < 10 := by omega
    exact (Ok.of (r := (.exit 6, [y8, .int .i64 (i : Int)], g')) (.inr ⟨by simp, rfl⟩)).eq (by
      simp -implicitDefEqProofs only [k_law7_MarkSteps_b3, bin_lss, hlt, decide_false, Option.bind_some, condE_false])
end
end Go.Ab.F

namespace Go.Ab.F
open Go Go.Ab
set_option linter.all false
set_option linter.all false
attribute [local congr] c_bind c_cl c_mk c_lp c_clC c_gQ c_gV c_condE c_thenK

/-! MarkSteps. -/
theorem markSteps_true {h : Heap} (hsub : Sub hQ1 h) (hn1 : 1 ≤ h.next) {x0 x1 x2 : AV} {n : Int} {ts : List Th} {rs ws : List Int} (hts : ThsRd h x0 ts) (hrs : RdW h 1 x1 (rs.map (AV.int .i64)) rs.length) (hws : RdW h 1 x2 (ws.map (AV.int .i64)) ws.length) (hww : ∀ x ∈ ws, wf64 x) :
    Ok (k_law7_MarkSteps x0 x1 x2 (.int .i64 n) h) fun r => r.1 = .bool true := by
  have ht := tab0_sub hsub hn1
  have haw : k_law7_awake h = some (.bool true, h) := quiet_pos hsub
  by_cases h30 : 30 < ts.length
  · have h30' : (30 : Int) < ts.length := by omega
    exact ok_val (v := .bool true) (g := h) (by simp -implicitDefEqProofs only [k_law7_MarkSteps, haw, cl_some, un_not, Bool.not_true, Option.bind_some, condE_false, hts.lnL, bin_gtr, h30', decide_true, gdW_tf, gQ_false, pickP_bool, if_true, condE_true]) rfl
  have h30' : ¬ (30 : Int) < ts.length := by omega
  by_cases h20 : 20 < rs.length
  · have h20' : (20 : Int) < rs.length := by omega
    exact ok_val (v := .bool true) (g := h) (by simp -implicitDefEqProofs only [k_law7_MarkSteps, haw, cl_some, un_not, Bool.not_true, Option.bind_some, condE_false, hts.lnL, hrs.lnL, bin_gtr, h30', h20', decide_true, decide_false, gdW_ff, gdW_tf, gQ_true, gQ_false, pickP_bool, Bool.false_eq_true, if_false, if_true, condE_true]) rfl
  have h20' : ¬ (20 : Int) < rs.length := by omega
  by_cases h21 : 20 < ws.length
  · have h21' : (20 : Int) < ws.length := by omega
    exact ok_val (v := .bool true) (g := h) (by simp -implicitDefEqProofs only [k_law7_MarkSteps, haw, cl_some, un_not, Bool.not_true, Option.bind_some, condE_false, hts.lnL, hrs.lnL, hws.lnL, bin_gtr, h30', h20', h21', decide_true, decide_false, gdW_ff, gdW_tf, gQ_true, gQ_false, pickP_bool, Bool.false_eq_true, if_false, if_true, condE_true]) rfl
  have h21' : ¬ (20 : Int) < ws.length := by omega
  by_cases n0 : n < 0
  · exact ok_val (v := .bool true) (g := h) (by simp -implicitDefEqProofs only [k_law7_MarkSteps, haw, cl_some, un_not, Bool.not_true, Option.bind_some, condE_false, hts.lnL, hrs.lnL, hws.lnL, bin_gtr, bin_lss, h30', h20', h21', n0, decide_true, decide_false, gdW_ff, gdW_tf, gQ_true, gQ_false, pickP_bool, Bool.false_eq_true, if_false, if_true, condE_true]) rfl
  by_cases n60 : 60 < n
  · exact ok_val (v := .bool true) (g := h) (by simp -implicitDefEqProofs only [k_law7_MarkSteps, haw, cl_some, un_not, Bool.not_true, Option.bind_some, condE_false, hts.lnL, hrs.lnL, hws.lnL, bin_gtr, bin_lss, h30', h20', h21', n0, n60, decide_true, decide_false, gdW_ff, gQ_true, pickP_bool, Bool.false_eq_true, if_false, condE_true]) rfl
  refine Ok.eq ?_ (by simp -implicitDefEqProofs only [k_law7_MarkSteps, haw, cl_some, un_not, Bool.not_true, Option.bind_some, condE_false, hts.lnL, hrs.lnL, hws.lnL, bin_gtr, bin_lss, h30', h20', h21', n0, n60, decide_false, gdW_ff, gQ_true, pickP_bool, Bool.false_eq_true, if_false] <;> rfl)
  have wk := world_ok ht (N := 10) (by omega) (by omega) hts (by omega)
  refine ok_cl wk ?_
  rintro _ g6 ⟨C, D, va, at_, qb, b, bT, ba, cls, L, l, rfl, W⟩
  simp only at W
  refine Ok.eq ?_ (by simp -implicitDefEqProofs only [extractV_tup, e0, e1, e2, e3, Option.bind_some, eql_ptr_nil, condE_false] <;> rfl)
  have zX : ∀ j ∈ Zr h, j ∈ ba.toList ++ Zr h := fun j hj => List.mem_append_right _ hj
  have hr : Ird g6 (ba.toList ++ Zr h) x1 rs := (ird_rdw hrs (zr_all h)).kp W.k zX
  have hw : Ird g6 (ba.toList ++ Zr h) x2 ws := (ird_rdw hws (zr_all h)).kp W.k zX
  have ha : Ird g6 (ba.toList ++ Zr h) va at_ := ird_slb W.sl (fun j hj => by simp [hj])
  have W0 : Ww g6 g6 C D qb b bT cls (ba.toList ++ Zr h) l L l := { P := W.P, ww := W.ww, ll := W.ll, sp := rfl, un := rfl, k := KpX.refl _ _ }
  refine ok_lp (steps_loop0 W0 ha hw hww W.ok W.len (by omega) (by omega)) ?_
  rintro _ vs7 g7 ⟨rfl, L7, l7, W7⟩
  simp only at W7
  have hsp : l7.ar.sp.length = 10 := by rw [W7.sp]; exact W.sp
  have hmu := mu_le l7.ar
  have V7 : Wm7 g6 g7 C D b bT cls (ba.toList ++ Zr h) qb none L7 l7 [] := { P := W7.P, ww := W7.ww, ll := W7.ll, mu := by simp; omega, k := W7.k }
  refine Ok.eq ?_ (by simp -implicitDefEqProofs only [if_true, thenK_normal] <;> rfl)
  refine ok_lp (steps_loop1 V7 ha hr (by omega) _) ?_
  rintro _ vs8 g8 ⟨rfl, qb8, bq8, L8, l8, gq8, V8⟩
  simp only at V8
  refine Ok.eq ?_ (by simp -implicitDefEqProofs only [if_true, thenK_normal] <;> rfl)
  refine ok_lp (steps_loop2 V8 (by omega) (by omega) _) ?_
  rintro _ vs9 g9 ⟨rfl, qb9, bq9, L9, l9, gq9, V9⟩
  simp only at V9
  have hN : l9.ar.sp.length = 10 := by
    have h1 := V9.P.rk.rel.len
    have h2 := W7.P.rk.rel.len
    omega
  refine Ok.eq ?_ (by simp -implicitDefEqProofs only [if_true, thenK_normal] <;> rfl)
  refine ok_lp (steps_loop3 V9 hN _) ?_
  rintro _ vs10 g10 rfl
  exact ok_val (v := .bool true) (g := g10) (by simp -implicitDefEqProofs only [if_true, thenK_normal]) rfl
end Go.Ab.F
