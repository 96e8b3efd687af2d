import Derived.Test.YtcnoappnnfnhiaaDoorRel
import Derived.Test.YtcnoappnnfnhiaaDoorRfa
import Derived.Test.YtcnoappnnfnhiaaDoorArn
import Derived.Test.YtcnoappnnfnhiaaDoorKit

namespace Go.Ab.F
open Go Go.Ab
set_option linter.all false
set_option linter.all false
attribute [local congr] c_bind c_cl c_mk c_lp c_clC c_gQ c_gV c_condE c_thenK

/-! ArenaPlays: both arenas at once. -/
structure Act6 where
  k : Int
  sp : Int
  c : Int
  i : Int
  ad : Int
  v : Int
def Act6.row (a : Act6) : List AV := [.int .i64 a.k, .int .i64 a.sp, .int .i64 a.c, .int .i64 a.i, .int .i64 a.ad, .int .i64 a.v]
theorem ok_one6 {R : Type} {h : Heap} {z c : List AV} {n : Nat} (h1 : z.length = n) (h3 : c.length = n) (t1 : c.all scalar = true) {K : AV → Heap → Option R} {Q : R → Prop}
    (hk : ∀ g, Same [] h g → g.next = h.next + 1 → g.get h.next = some (.cells true c) → Ok (K (.ptr (some (h.next, 0))) g) Q) :
    Ok (mk Heap.new (some (Blk.cells true z, fun i => AV.ptr (some (i, 0)))) h fun t ha => cl (stP n ha t (.agg c)) fun _ hc => K t hc) Q := by
  rw [mk_some]
  have p4 : (h.new (.cells true z)).get h.next = some (.cells true z) := get_new_eq
  rw [stP_all p4 h1 h3 t1, cl_some]
  refine hk _ ⟨by show h.next ≤ h.next + 1; omega, fun j hj _ => ?_⟩ rfl get_put_eq
  rw [get_put_ne (by omega), get_new_ne (by omega)]
/-- The arenas, and what else lies there. -/
structure Ap (g : Heap) (p w s : Nat) (a : PAr) (rp rc : Nat) (b : Option Nat) (cls : List Int) (L : List Tm) (X Z : List Nat) : Prop where
  ar : ArAt g p w s a
  r4 : R4At g rp rc b cls L X
  rel : Rel a cls L
  tab : Tab0 g
  s0 : s ≠ 0
  zX : ∀ j ∈ Z, j ∈ X
  z0 : 0 ∈ Z
  zp : p ∉ Z
  zw : w ∉ Z
  zs : s ∉ Z
  xp : p ∈ X
  xw : w ∈ X
  xs : s ∈ X
theorem KpX.sub {X Z : List Nat} {g g' : Heap} (k : KpX X g g') (h : ∀ j ∈ Z, j ∈ X) : KpX Z g g' := ⟨k.next, fun j hj hl => k.get j (h j hj) hl⟩
theorem KpX.refl (X : List Nat) (g : Heap) : KpX X g g := ⟨Nat.le_refl _, fun _ _ _ => rfl⟩
theorem Tab0.kp {Z : List Nat} {g g' : Heap} (T : Tab0 g) (k : KpX Z g g') (h0 : 0 ∈ Z) : Tab0 g' :=
  ⟨by have := k.get 0 h0 T.pos; unfold Tabled; rw [this]; exact T.tab, Nat.lt_of_lt_of_le T.pos k.next⟩
theorem ArAt.kp {h h' : Heap} {p w s : Nat} {a : PAr} {X : List Nat} (H : ArAt h p w s a) (k : KpX X h h') (hp : p ∈ X) (hw : w ∈ X) (hss : s ∈ X) : ArAt h' p w s a :=
  { H with
    hp := by rw [k.get p hp H.lp]; exact H.hp
    hw := by rw [k.get w hw H.lw]; exact H.hw
    hs := by rw [k.get s hss H.ls]; exact H.hs
    lp := Nat.lt_of_lt_of_le H.lp k.next
    lw := Nat.lt_of_lt_of_le H.lw k.next
    ls := Nat.lt_of_lt_of_le H.ls k.next }
theorem R4At.addX {g g' : Heap} {rp rc : Nat} {b : Option Nat} {cls : List Int} {L : List Tm} {X : List Nat} (H : R4At g rp rc b cls L X) (s : Same [] g g') (hn : g.next < g'.next) : R4At g' rp rc b cls L (g.next :: X) := by
  obtain ⟨v, _, hv⟩ := H.rpb
  have K := H.keep s (by simp)
  exact { K with
    wb := fun t ht => by
      obtain ⟨h1, h2, h3, h4⟩ := K.wb t ht
      have := (H.wb t ht).1
      exact ⟨h1, h2, by rw [List.mem_cons]; exact fun h => h.elim (fun e => by omega) h3, h4⟩
    xp := by have := H.lp; rw [List.mem_cons]; exact fun h => h.elim (fun e => by omega) H.xp
    xc := by have := H.lc; rw [List.mem_cons]; exact fun h => h.elim (fun e => by omega) H.xc
    xb := fun i hi => by
      have h1 := H.xb i hi
      have h2 := (hv.blk i hi).1
      exact ⟨by rw [List.mem_cons]; exact fun h => h.elim (fun e => by omega) h1.1, h1.2⟩
    xl := fun j hj => by
      rw [List.mem_cons] at hj
      rcases hj with rfl | hj
      · exact hn
      · exact K.xl j hj }
theorem R4At.subX {g : Heap} {rp rc : Nat} {b : Option Nat} {cls : List Int} {L : List Tm} {X Y : List Nat} (H : R4At g rp rc b cls L X) (h : ∀ j ∈ Y, j ∈ X) : R4At g rp rc b cls L Y :=
  { H with
    wb := fun t ht => by
      obtain ⟨h1, h2, h3, h4⟩ := H.wb t ht
      exact ⟨h1, h2, fun hy => h3 (h _ hy), h4⟩
    xp := fun hy => H.xp (h _ hy)
    xc := fun hy => H.xc (h _ hy)
    xb := fun i hi => ⟨fun hy => (H.xb i hi).1 (h _ hy), (H.xb i hi).2⟩
    xl := fun j hj => H.xl j (h j hj) }
/-- What a step leaves. -/
def DoneA (g : Heap) (p w s : Nat) (a : PAr) (rp rc : Nat) (L : List Tm) (X Z : List Nat) (i : Nat) (r : Ex × List AV × Heap) : Prop :=
  r.1 = .normal ∧ r.2.1 = [.bool false, .int .i64 ((i + 1 : Nat) : Int)] ∧ ∃ a' b' cls' L', Ap r.2.2 p w s a' rp rc b' cls' L' X Z ∧ a'.sp.length = a.sp.length ∧ L'.length ≤ L.length + 1 ∧ KpX Z g r.2.2
theorem here_eq {R : Type} {g : Heap} {r : Nat} {sp : Int} {x0 : Int} (hl : ldS g (.ptr (some (r, 1))) = some (.int .i64 sp)) (K : AV → Heap → Option R) :
    ((binP .geq (.int .i64 sp) (AV.int .i64 1)).bind fun t75 =>
      gQ (gdW t75 true) g ((faP 1 (.ptr (some (r, 0)))).bind fun t77 =>
      some (t77, g)) fun t77_28 h29 =>
      gQ (gdW t75 true) h29 ((ldS h29 t77_28).bind fun t78 =>
      some (t78, h29)) fun t78_30 h31 =>
      gQ (gdW t75 true) h31 (some (.int .i64 x0, h31)) fun t79 h32 =>
      gQ (gdW t75 true) h32 ((binP .lss t78_30 t79).bind fun t80 =>
      some (t80, h32)) fun t80_33 h34 =>
      (pickP t75 t80_33 (AV.bool false)).bind fun t81 => K t81 h34) = K (.bool (decide (1 ≤ sp ∧ sp < x0))) g := by
  by_cases h1 : 1 ≤ sp
  · have e : decide (1 ≤ sp ∧ sp < x0) = decide (sp < x0) := by simp [h1]
    rw [e]
    simp -implicitDefEqProofs only [bin_geq, h1, decide_true, Option.bind_some, gdW_tt, gQ_true, faP_ptr, Nat.zero_add, cl_some, hl, bin_lss, pickP_bool, if_true]
  · have e : decide (1 ≤ sp ∧ sp < x0) = false := by simp [h1]
    rw [e]
    simp -implicitDefEqProofs only [bin_geq, h1, decide_false, Option.bind_some, gdW_ft, gQ_false, pickP_bool, Bool.false_eq_true, if_false]
section
variable {g : Heap} {p w s rp rc : Nat} {a : PAr} {b : Option Nat} {cls : List Int} {L : List Tm} {X Z : List Nat}
theorem Ap.keep (P : Ap g p w s a rp rc b cls L X Z) {g' : Heap} (k : Same [] g g') : Ap g' p w s a rp rc b cls L X Z :=
  { P with
    ar := P.ar.same k (by simp) (by simp) (by simp)
    r4 := P.r4.keep k (by simp)
    tab := P.tab.same k (by simp) }
/-- The program's side has stepped. -/
theorem Ap.prog (P : Ap g p w s a rp rc b cls L X Z) {g' : Heap} {a' : PAr} {S : List Nat} (hS : ∀ j ∈ S, j = w ∨ j = s) (k : Same S g g') (H : ArAt g' p w s a') : R4At g' rp rc b cls L X ∧ KpX Z g g' ∧ Tab0 g' := by
  have kz : KpX Z g g' := KpX.of k (fun j hj => by rcases hS j hj with rfl | rfl; exact P.zw; exact P.zs)
  exact ⟨P.r4.keep k (fun j hj => by rcases hS j hj with rfl | rfl; exact P.xw; exact P.xs), kz, P.tab.kp kz P.z0⟩
/-- The document's side has stepped. -/
theorem Ap.doc (P : Ap g p w s a rp rc b cls L X Z) {g' : Heap} (k : KpX X g g') : ArAt g' p w s a ∧ KpX Z g g' ∧ Tab0 g' := by
  have kz := k.sub P.zX
  exact ⟨P.ar.kp k P.xp P.xw P.xs, kz, P.tab.kp kz P.z0⟩
/-- A row's block besides. -/
theorem Ap.add (P : Ap g p w s a rp rc b cls L X Z) {g' : Heap} (k : Same [] g g') (hn : g.next < g'.next) : Ap g' p w s a rp rc b cls L (g.next :: X) (g.next :: Z) :=
  { P.keep k with
    r4 := P.r4.addX k hn
    zX := fun j hj => by
      rw [List.mem_cons] at hj ⊢
      exact hj.imp id (P.zX j)
    z0 := List.mem_cons_of_mem _ P.z0
    zp := by have := P.ar.lp; rw [List.mem_cons]; exact fun h => h.elim (fun e => by omega) P.zp
    zw := by have := P.ar.lw; rw [List.mem_cons]; exact fun h => h.elim (fun e => by omega) P.zw
    zs := by have := P.ar.ls; rw [List.mem_cons]; exact fun h => h.elim (fun e => by omega) P.zs
    xp := List.mem_cons_of_mem _ P.xp
    xw := List.mem_cons_of_mem _ P.xw
    xs := List.mem_cons_of_mem _ P.xs }
theorem j0A {g1 g' : Heap} (P : Ap g p w s a rp rc b cls L X Z) (k : Same [] g g1) {i : Nat} (hi : i < 2 ^ 40) {a' : PAr} {b' : Option Nat} {cls' : List Int} {L' : List Tm} {r : Nat} (h1 : Ap g' p w s a' rp rc b' cls' L' (r :: X) (r :: Z)) (h2 : a'.sp.length = a.sp.length) (h3 : L'.length ≤ L.length + 1) (h4 : KpX (r :: Z) g1 g') :
    Ok (k_law4_ArenaPlays_j0 (.int .i64 i) (.bool false) g') (DoneA g p w s a rp rc L X Z i) := by
  have hz : KpX Z g1 g' := h4.sub fun j hj => List.mem_cons_of_mem _ hj
  have h1' : Ap g' p w s a' rp rc b' cls' L' X Z :=
    { h1 with
      r4 := h1.r4.subX fun j hj => List.mem_cons_of_mem _ hj
      zX := P.zX, z0 := P.z0, zp := P.zp, zw := P.zw, zs := P.zs, xp := P.xp, xw := P.xw, xs := P.xs }
  exact (Ok.of (r := (.normal, [.bool false, .int .i64 ((i + 1 : Nat) : Int)], g')) ⟨rfl, rfl, a', b', cls', L', h1', h2, h3, (KpX.same k).trans hz⟩).eq (by
    simp -implicitDefEqProofs only [k_law4_ArenaPlays_j0, bin_add, Option.bind_some, suc64 i (by omega)])
theorem ld_kp {r : Nat} {g1 g2 : Heap} (k : KpX (r :: Z) g1 g2) {cs : List AV} (hr : g1.get r = some (.cells true cs)) (hl : r < g1.next) (j : Nat) {x : AV} (hx : cs[j]? = some x) : ldS g2 (.ptr (some (r, j))) = some x := by
  rw [ldS_at ((k.get r (List.mem_cons_self ..) hl).trans hr)]; exact hx
end
end Go.Ab.F

namespace Go.Ab.F
open Go Go.Ab
set_option linter.all false
set_option linter.all false
attribute [local congr] c_bind c_cl c_mk c_lp c_clC c_gQ c_gV c_condE c_thenK

section
variable {g : Heap} {p w s rp rc : Nat} {a : PAr} {b : Option Nat} {cls : List Int} {L : List Tm} {X Z : List Nat}
theorem words_none {c : Int} (h : c < 0 ∨ 5 < c) : wordsOf c = 0 := by unfold wordsOf; (repeat rw [if_neg (by omega)])
theorem set_bad {a : PAr} {n c : Int} (h : ¬ a.has n ∨ wordsOf c = 0) : a.set n c = (1, a) := by unfold PAr.set; rw [if_pos h]
theorem cls_no {a : PAr} {n : Int} (h : ¬ a.has n) : a.cls n = -1 := by unfold PAr.cls; rw [if_neg h]
theorem op0 (P : Ap g p w s a rp rc b cls L X Z) {x1 : AV} {n i : Nat} (hi : i < n) (hn80 : n ≤ 80) (hln : lnL x1 = some (.int .i64 n)) {bx o : Nat} {sp c ii ad v : Int} (hix : iaS 6 x1 (.int .i64 i) = some (.ptr (some (bx, o)))) (hla : ldA 6 g (.ptr (some (bx, o))) = some (.agg (⟨0, sp, c, ii, ad, v⟩ : Act6).row)) (hL : L.length < 1000) :
    Ok (k_law4_ArenaPlays_b0 (.int .i64 a.sp.length) x1 (.ptr (some (p, 0))) (.ptr (some (rp, 0))) (.bool false) (.int .i64 i) g) (DoneA g p w s a rp rc L X Z i) := by
  have hlt : (i : Int) < n := by omega
  refine Ok.eq ?_ (by simp -implicitDefEqProofs only [k_law4_ArenaPlays_b0, hln, Option.bind_some, bin_lss, hlt, decide_true, condE_true, hix, hla] <;> rfl)
  refine ok_one6 (n := 6) rfl rfl rfl fun g1 s1 n1 p1 => ?_
  have P1 := P.add s1 (by omega)
  have hrl : g.next < g1.next := by omega
  have l0 := ld_kp (KpX.refl (g.next :: Z) g1) p1 hrl 0 rfl
  have l1 := ld_kp (KpX.refl (g.next :: Z) g1) p1 hrl 1 rfl
  have l2 := ld_kp (KpX.refl (g.next :: Z) g1) p1 hrl 2 rfl
  have l4 := ld_kp (KpX.refl (g.next :: Z) g1) p1 hrl 4 rfl
  generalize hrr : g.next = r at *
  refine Ok.eq ?_ (by simp -implicitDefEqProofs only [faP_ptr, Nat.zero_add, l1, Option.bind_some] <;> rfl)
  refine Ok.eq ?_ (here_eq l1 _)

  have d0 : decide ((0 : Int) = 0) = true := rfl
  refine Ok.eq ?_ (by simp -implicitDefEqProofs only [faP_ptr, Nat.zero_add, l0, Option.bind_some, eql_int, d0, decide_true, decide_false, condE_true, condE_false, l1, l2] <;> rfl)
  refine ok_cl (set_ok P1.ar sp c) ?_
  rintro _ g2 ⟨rfl, H2, s2⟩
  simp only at H2 s2
  obtain ⟨r2, k2, T2⟩ := P1.prog (S := [s]) (by simp) s2 H2
  have m1 := ld_kp k2 p1 hrl 1 rfl
  have m2 := ld_kp k2 p1 hrl 2 rfl
  by_cases hh : 1 ≤ sp ∧ sp < a.sp.length
  · have hd : decide (1 ≤ sp ∧ sp < a.sp.length) = true := by simp [hh]
    obtain ⟨m, rfl⟩ : ∃ m : Nat, sp = m := ⟨sp.toNat, by omega⟩
    have hhas : a.has m := hh
    by_cases c0 : c < 0
    · rw [set_bad (.inr (words_none (.inl c0)))] at H2 ⊢
      have P2 := { P1 with ar := H2, r4 := r2, tab := T2 : Ap g2 p w s a rp rc b cls L (r :: X) (r :: Z) }
      refine Ok.eq ?_ (by simp -implicitDefEqProofs only [un_not, hd, Bool.not_true, gdW_ff, gQ_true, faP_ptr, Nat.zero_add, Option.bind_some, m2, cl_some, bin_lss, c0, decide_true, pickP_bool, Bool.false_eq_true, if_false, if_true, gdW_tf, gQ_false, condE_true, k_law4_ArenaPlays_j1, neq_int, condE_false] <;> rfl)
      exact j0A P s1 (by omega) P2 rfl (by omega) k2
    by_cases c5 : 5 < c
    · rw [set_bad (.inr (words_none (.inr c5)))] at H2 ⊢
      have P2 := { P1 with ar := H2, r4 := r2, tab := T2 : Ap g2 p w s a rp rc b cls L (r :: X) (r :: Z) }
      refine Ok.eq ?_ (by simp -implicitDefEqProofs only [un_not, hd, Bool.not_true, gdW_ff, gQ_true, faP_ptr, Nat.zero_add, Option.bind_some, m2, cl_some, bin_lss, c0, decide_true, decide_false, pickP_bool, Bool.false_eq_true, if_false, if_true, bin_gtr, c5, condE_true, k_law4_ArenaPlays_j1, neq_int, Bool.not_true, condE_false] <;> rfl)
      exact j0A P s1 (by omega) P2 rfl (by omega) k2
    have hcm := P1.rel.cl m (by have := hh.2; omega)
    obtain ⟨hcx, hcl⟩ := r2.cl hcm
    by_cases hcc : a.cls m = -1
    · obtain ⟨a', e, R'⟩ := rel_set P1.rel (n := m) hhas (c := c) ⟨by omega, by omega⟩ hcc
      rw [e] at H2 ⊢
      rw [hcc] at hcl
      obtain ⟨st, r3⟩ := r2.setc (n := m) (by rw [P1.rel.len]; have := hh.2; omega) c
      have k3 : KpX (r :: X) g2 (g2.put rc (some (.cells true (wsC (cls.set m c))))) := KpX.put _ _ r2.xc
      have hm1 : ¬ (0 : Int) ≤ -1 := by decide
      refine Ok.eq ?_ (by simp -implicitDefEqProofs only [un_not, hd, Bool.not_true, gdW_ff, gQ_true, faP_ptr, Nat.zero_add, Option.bind_some, m1, m2, cl_some, bin_lss, c0, decide_true, decide_false, pickP_bool, Bool.false_eq_true, if_false, if_true, bin_gtr, c5, condE_false, nilV_ptr, r2.ldc, hcx, hcl, bin_geq, hm1, chk_nil, st, k_law4_ArenaPlays_j1, neq_int, Bool.not_true] <;> rfl)
      generalize g2.put rc (some (.cells true (wsC (cls.set m c)))) = g3 at *
      have kz := k3.sub P1.zX
      have P3 := { P1 with ar := H2.kp k3 P1.xp P1.xw P1.xs, r4 := r3, rel := R', tab := T2.kp kz P1.z0 : Ap g3 p w s a' rp rc b (cls.set m c) L (r :: X) (r :: Z) }
      have hl : a'.sp.length = a.sp.length := by have := R'.len; rw [List.length_set, P1.rel.len] at this; exact this.symm
      exact j0A P s1 (by omega) P3 hl (by omega) (k2.trans kz)
    · obtain ⟨_, he, q0, q5⟩ := cls_rng P1.rel.wf hcc
      have e : a.set m c = (5, a) := by
        unfold PAr.set
        rw [if_neg (fun h => h.elim (fun h => h hhas) (fun h => by
          have := (pls_eq (c := c) ⟨by omega, by omega⟩).2.2.2.1
          omega)), if_pos (by rw [← he]; exact hcc)]
      rw [e] at H2 ⊢
      have P2 := { P1 with ar := H2, r4 := r2, tab := T2 : Ap g2 p w s a rp rc b cls L (r :: X) (r :: Z) }
      refine Ok.eq ?_ (by simp -implicitDefEqProofs only [un_not, hd, Bool.not_true, gdW_ff, gQ_true, faP_ptr, Nat.zero_add, Option.bind_some, m1, m2, cl_some, bin_lss, c0, decide_true, decide_false, pickP_bool, Bool.false_eq_true, if_false, if_true, bin_gtr, c5, condE_false, condE_true, nilV_ptr, r2.ldc, hcx, hcl, bin_geq, q0, chk_nil, k_law4_ArenaPlays_j1, neq_int, Bool.not_true] <;> rfl)
      exact j0A P s1 (by omega) P2 rfl (by omega) k2
  · have hd : decide (1 ≤ sp ∧ sp < a.sp.length) = false := by simp only [decide_eq_false_iff_not]; exact hh
    rw [set_bad (.inl hh)] at H2 ⊢
    have P2 := { P1 with ar := H2, r4 := r2, tab := T2 : Ap g2 p w s a rp rc b cls L (r :: X) (r :: Z) }
    refine Ok.eq ?_ (by simp -implicitDefEqProofs only [un_not, hd, Bool.not_false, gdW_tf, gQ_false, Option.bind_some, pickP_bool, if_true, condE_true, k_law4_ArenaPlays_j1, neq_int, decide_true, Bool.not_true, condE_false] <;> rfl)
    exact j0A P s1 (by omega) P2 rfl (by omega) k2
end
end Go.Ab.F

namespace Go.Ab.F
open Go Go.Ab
set_option linter.all false
set_option linter.all false
attribute [local congr] c_bind c_cl c_mk c_lp c_clC c_gQ c_gV c_condE c_thenK

section
variable {g : Heap} {p w s rp rc : Nat} {a : PAr} {b : Option Nat} {cls : List Int} {L : List Tm} {X Z : List Nat}
theorem op1 (P : Ap g p w s a rp rc b cls L X Z) {x1 : AV} {n i : Nat} (hi : i < n) (hn80 : n ≤ 80) (hln : lnL x1 = some (.int .i64 n)) {bx o : Nat} {sp c ii ad v : Int} (hix : iaS 6 x1 (.int .i64 i) = some (.ptr (some (bx, o)))) (hla : ldA 6 g (.ptr (some (bx, o))) = some (.agg (⟨1, sp, c, ii, ad, v⟩ : Act6).row)) (hL : L.length < 1000) :
    Ok (k_law4_ArenaPlays_b0 (.int .i64 a.sp.length) x1 (.ptr (some (p, 0))) (.ptr (some (rp, 0))) (.bool false) (.int .i64 i) g) (DoneA g p w s a rp rc L X Z i) := by
  have hlt : (i : Int) < n := by omega
  refine Ok.eq ?_ (by simp -implicitDefEqProofs only [k_law4_ArenaPlays_b0, hln, Option.bind_some, bin_lss, hlt, decide_true, condE_true, hix, hla] <;> rfl)
  refine ok_one6 (n := 6) rfl rfl rfl fun g1 s1 n1 p1 => ?_
  have P1 := P.add s1 (by omega)
  have hrl : g.next < g1.next := by omega
  have l0 := ld_kp (KpX.refl (g.next :: Z) g1) p1 hrl 0 rfl
  have l1 := ld_kp (KpX.refl (g.next :: Z) g1) p1 hrl 1 rfl
  have l2 := ld_kp (KpX.refl (g.next :: Z) g1) p1 hrl 2 rfl
  have l4 := ld_kp (KpX.refl (g.next :: Z) g1) p1 hrl 4 rfl
  generalize hrr : g.next = r at *
  refine Ok.eq ?_ (by simp -implicitDefEqProofs only [faP_ptr, Nat.zero_add, l1, Option.bind_some] <;> rfl)
  refine Ok.eq ?_ (here_eq l1 _)

  have d0 : decide ((1 : Int) = 0) = false := rfl
  have d1 : decide ((1 : Int) = 1) = true := rfl
  refine Ok.eq ?_ (by simp -implicitDefEqProofs only [faP_ptr, Nat.zero_add, l0, Option.bind_some, eql_int, d0, d1, decide_true, decide_false, condE_true, condE_false, l1] <;> rfl)
  refine ok_cl (take_ok P1.ar P1.tab.tab P1.s0 sp) ?_
  rintro _ g2 ⟨rfl, H2, s2⟩
  simp only at H2 s2
  obtain ⟨r2, k2, T2⟩ := P1.prog (S := [w, s]) (by simp) s2 H2
  have m1 := ld_kp k2 p1 hrl 1 rfl
  have x0 : ∀ (x y : AV) l, extractV 0 (.tup (x :: y :: l)) = some x := fun _ _ _ => rfl
  have x1 : ∀ (x y : AV) l, extractV 1 (.tup (x :: y :: l)) = some y := fun _ _ _ => rfl
  have tn : a.cls sp = -1 → a.take sp = (0, 4, a) := fun h => by unfold PAr.take; rw [if_pos h]
  by_cases hh : 1 ≤ sp ∧ sp < a.sp.length
  · have hd : decide (1 ≤ sp ∧ sp < a.sp.length) = true := by simp [hh]
    obtain ⟨m, rfl⟩ : ∃ m : Nat, sp = m := ⟨sp.toNat, by omega⟩
    have hcm := P1.rel.cl m (by have := hh.2; omega)
    obtain ⟨hcx, hcl⟩ := r2.cl hcm
    by_cases hcc : a.cls m = -1
    · rw [tn hcc] at H2 ⊢
      rw [hcc] at hcl
      have hm1 : (-1 : Int) < 0 := by decide
      have P2 := { P1 with ar := H2, r4 := r2, tab := T2 : Ap g2 p w s a rp rc b cls L (r :: X) (r :: Z) }
      refine Ok.eq ?_ (by simp -implicitDefEqProofs only [x0, x1, un_not, hd, Bool.not_true, gdW_ff, gV_true, gQ_true, faP_ptr, Nat.zero_add, Option.bind_some, m1, cl_some, nilV_ptr, r2.ldc, hcx, hcl, bin_lss, hm1, decide_true, pickP_bool, Bool.false_eq_true, if_false, if_true, chk_nil, condE_true, neq_int, Bool.not_true, condE_false] <;> rfl)
      exact j0A P s1 (by omega) P2 rfl (by omega) k2
    · obtain ⟨hhas, he, q0, q5⟩ := cls_rng P1.rel.wf hcc
      have hge : ¬ a.cls m < 0 := by omega
      refine Ok.eq ?_ (by simp -implicitDefEqProofs only [x0, x1, un_not, hd, Bool.not_true, gdW_ff, gV_true, gQ_true, faP_ptr, Nat.zero_add, Option.bind_some, m1, cl_some, nilV_ptr, r2.ldc, hcx, hcl, bin_lss, hge, decide_false, pickP_bool, Bool.false_eq_true, if_false, chk_nil, condE_false] <;> rfl)
      have hh2 := hh.2
      have hh1 := hh.1
      have hhi := P1.rel.wf.hi
      refine ok_cl (rtake_ok r2 (n := m) ⟨by omega, by omega⟩ hcm ⟨q0, q5⟩ (by omega)) ?_
      rintro _ g3 (⟨rfl, s3, hno⟩ | ⟨q, kk, wb, b', hq, hk, rfl, r3, k3⟩)
      · rw [rel_take_no P1.rel hcc hno] at H2 ⊢
        simp only at s3
        have P2 := { P1 with ar := H2, r4 := r2, tab := T2 : Ap g2 p w s a rp rc b cls L (r :: X) (r :: Z) }
        refine Ok.eq ?_ (by simp -implicitDefEqProofs only [neq_int, eql_int, decide_true, decide_false, Bool.not_true, Option.bind_some, gdW_ff, gdW_tt, gQ_true, cl_some, neq_bool, beq_self_eq_true, show ((0 : Int) = 5) = False by simp, show ((5 : Int) = 0) = False by simp, pickP_bool, Bool.false_eq_true, if_false, if_true, condE_false] <;> rfl)
        exact j0A P s1 (by omega) (P2.keep s3) rfl (by omega) (k2.trans (KpX.same s3))
      · obtain ⟨a', e, hne, R'⟩ := rel_take P1.rel hcc hq hk wb
        simp only at r3 k3
        rw [e] at H2 ⊢
        have hz : decide (adOf m (a.cls m) q = 0) = false := by simp [hne]
        have kz := k3.sub P1.zX
        have P3 := { P1 with ar := H2.kp k3 P1.xp P1.xw P1.xs, r4 := r3, rel := R', tab := T2.kp kz P1.z0 : Ap g3 p w s a' rp rc b' cls _ (r :: X) (r :: Z) }
        have hl : a'.sp.length = a.sp.length := by have := R'.len; rw [P1.rel.len] at this; exact this.symm
        have hil := hk.le
        refine Ok.eq ?_ (by simp -implicitDefEqProofs only [neq_int, eql_int, hz, decide_true, decide_false, Bool.not_true, Bool.not_false, Option.bind_some, gdW_ff, gdW_ft, gQ_true, gQ_false, cl_some, neq_bool, beq_self_eq_true, pickP_bool, Bool.false_eq_true, if_false, condE_false] <;> rfl)
        exact j0A P s1 (by omega) P3 hl (by unfold insT; simp; omega) (k2.trans kz)
  · have hd : decide (1 ≤ sp ∧ sp < a.sp.length) = false := by simp only [decide_eq_false_iff_not]; exact hh
    rw [tn (cls_no hh)] at H2 ⊢
    have P2 := { P1 with ar := H2, r4 := r2, tab := T2 : Ap g2 p w s a rp rc b cls L (r :: X) (r :: Z) }
    refine Ok.eq ?_ (by simp -implicitDefEqProofs only [x0, x1, un_not, hd, Bool.not_false, gdW_tf, gV_false, gdW_ff, gQ_true, cl_some, Option.bind_some, pickP_bool, if_true, Bool.false_eq_true, if_false, chk_nil, condE_true, neq_int, decide_true, Bool.not_true, condE_false] <;> rfl)
    exact j0A P s1 (by omega) P2 rfl (by omega) k2
end
end Go.Ab.F

namespace Go.Ab.F
open Go Go.Ab
set_option linter.all false
set_option linter.all false
attribute [local congr] c_bind c_cl c_mk c_lp c_clC c_gQ c_gV c_condE c_thenK

section
variable {g : Heap} {p w s rp rc : Nat} {a : PAr} {b : Option Nat} {cls : List Int} {L : List Tm} {X Z : List Nat}
theorem op2 (P : Ap g p w s a rp rc b cls L X Z) {x1 : AV} {n i : Nat} (hi : i < n) (hn80 : n ≤ 80) (hln : lnL x1 = some (.int .i64 n)) {bx o : Nat} {sp c ii ad v : Int} (hix : iaS 6 x1 (.int .i64 i) = some (.ptr (some (bx, o)))) (hla : ldA 6 g (.ptr (some (bx, o))) = some (.agg (⟨2, sp, c, ii, ad, v⟩ : Act6).row)) (hL : L.length < 1000) :
    Ok (k_law4_ArenaPlays_b0 (.int .i64 a.sp.length) x1 (.ptr (some (p, 0))) (.ptr (some (rp, 0))) (.bool false) (.int .i64 i) g) (DoneA g p w s a rp rc L X Z i) := by
  have hlt : (i : Int) < n := by omega
  refine Ok.eq ?_ (by simp -implicitDefEqProofs only [k_law4_ArenaPlays_b0, hln, Option.bind_some, bin_lss, hlt, decide_true, condE_true, hix, hla] <;> rfl)
  refine ok_one6 (n := 6) rfl rfl rfl fun g1 s1 n1 p1 => ?_
  have P1 := P.add s1 (by omega)
  have hrl : g.next < g1.next := by omega
  have l0 := ld_kp (KpX.refl (g.next :: Z) g1) p1 hrl 0 rfl
  have l1 := ld_kp (KpX.refl (g.next :: Z) g1) p1 hrl 1 rfl
  have l2 := ld_kp (KpX.refl (g.next :: Z) g1) p1 hrl 2 rfl
  have l4 := ld_kp (KpX.refl (g.next :: Z) g1) p1 hrl 4 rfl
  generalize hrr : g.next = r at *
  refine Ok.eq ?_ (by simp -implicitDefEqProofs only [faP_ptr, Nat.zero_add, l1, Option.bind_some] <;> rfl)
  refine Ok.eq ?_ (here_eq l1 _)

  have d0 : decide ((2 : Int) = 0) = false := rfl
  have d1 : decide ((2 : Int) = 1) = false := rfl
  have d2 : decide ((2 : Int) = 2) = true := rfl
  refine Ok.eq ?_ (by simp -implicitDefEqProofs only [faP_ptr, Nat.zero_add, l0, Option.bind_some, eql_int, d0, d1, d2, decide_true, decide_false, condE_true, condE_false, l4] <;> rfl)
  refine ok_cl (mark_ok P1.ar ad) ?_
  rintro _ g2 ⟨rfl, H2, s2⟩
  simp only at H2 s2
  obtain ⟨r2, k2, T2⟩ := P1.prog (S := [s]) (by simp) s2 H2
  have m4 := ld_kp k2 p1 hrl 4 rfl
  obtain ⟨e, R'⟩ := rel_mark P1.rel ad
  refine Ok.eq ?_ (by simp -implicitDefEqProofs only [faP_ptr, Nat.zero_add, Option.bind_some, rdC, m4, clC_some] <;> rfl)
  refine ok_cl (rmark_ok r2 ad) ?_
  rintro _ g3 ⟨rfl, r3, k3⟩
  simp only at r3 k3
  have kz := k3.sub P1.zX
  have P3 := { P1 with ar := H2.kp k3 P1.xp P1.xw P1.xs, r4 := r3, rel := R', tab := T2.kp kz P1.z0 : Ap g3 p w s (a.mark ad).2 rp rc b cls (rmark ad L).2 (r :: X) (r :: Z) }
  have hl : (a.mark ad).2.sp.length = a.sp.length := by have := R'.len; rw [P1.rel.len] at this; exact this.symm
  have hL2 : (rmark ad L).2.length = L.length := by
    unfold rmark
    cases findIx ad L 0 with
    | none => rfl
    | some q =>
      simp only
      cases L[q]? with
      | none => rfl
      | some t =>
        simp only
        split
        · rfl
        · exact List.length_set
  refine Ok.eq ?_ (by simp -implicitDefEqProofs only [e, neq_bool, beq_self_eq_true, Bool.not_true, Option.bind_some, chk_two (f := fun g => ldS g (.ptr (some (r, 4)))) (same_int .i64 ad) l4 m4, condE_false] <;> rfl)
  exact j0A P s1 (by omega) P3 hl (by omega) (k2.trans kz)
theorem op3 (P : Ap g p w s a rp rc b cls L X Z) {x1 : AV} {n i : Nat} (hi : i < n) (hn80 : n ≤ 80) (hln : lnL x1 = some (.int .i64 n)) {bx o : Nat} {sp c ii ad v : Int} (hix : iaS 6 x1 (.int .i64 i) = some (.ptr (some (bx, o)))) (hla : ldA 6 g (.ptr (some (bx, o))) = some (.agg (⟨3, sp, c, ii, ad, v⟩ : Act6).row)) (hL : L.length < 1000) :
    Ok (k_law4_ArenaPlays_b0 (.int .i64 a.sp.length) x1 (.ptr (some (p, 0))) (.ptr (some (rp, 0))) (.bool false) (.int .i64 i) g) (DoneA g p w s a rp rc L X Z i) := by
  have hlt : (i : Int) < n := by omega
  refine Ok.eq ?_ (by simp -implicitDefEqProofs only [k_law4_ArenaPlays_b0, hln, Option.bind_some, bin_lss, hlt, decide_true, condE_true, hix, hla] <;> rfl)
  refine ok_one6 (n := 6) rfl rfl rfl fun g1 s1 n1 p1 => ?_
  have P1 := P.add s1 (by omega)
  have hrl : g.next < g1.next := by omega
  have l0 := ld_kp (KpX.refl (g.next :: Z) g1) p1 hrl 0 rfl
  have l1 := ld_kp (KpX.refl (g.next :: Z) g1) p1 hrl 1 rfl
  have l2 := ld_kp (KpX.refl (g.next :: Z) g1) p1 hrl 2 rfl
  have l4 := ld_kp (KpX.refl (g.next :: Z) g1) p1 hrl 4 rfl
  generalize hrr : g.next = r at *
  refine Ok.eq ?_ (by simp -implicitDefEqProofs only [faP_ptr, Nat.zero_add, l1, Option.bind_some] <;> rfl)
  refine Ok.eq ?_ (here_eq l1 _)

  have d0 : decide ((3 : Int) = 0) = false := rfl
  have d1 : decide ((3 : Int) = 1) = false := rfl
  have d2 : decide ((3 : Int) = 2) = false := rfl
  have d3 : decide ((3 : Int) = 3) = true := rfl
  refine Ok.eq ?_ (by simp -implicitDefEqProofs only [faP_ptr, Nat.zero_add, l0, Option.bind_some, eql_int, d0, d1, d2, d3, decide_true, decide_false, condE_true, condE_false] <;> rfl)
  refine ok_cl (clear_ok P1.ar) ?_
  rintro _ g2 ⟨rfl, H2, s2⟩
  simp only at H2 s2
  obtain ⟨r2, k2, T2⟩ := P1.prog (S := [s]) (by simp) s2 H2
  refine ok_cl (rclear_ok r2) ?_
  rintro _ g3 ⟨rfl, r3, k3⟩
  simp only at r3 k3
  have kz := k3.sub P1.zX
  have R' := rel_clear P1.rel
  have P3 := { P1 with ar := H2.kp k3 P1.xp P1.xw P1.xs, r4 := r3, rel := R', tab := T2.kp kz P1.z0 : Ap g3 p w s a.clear rp rc b cls (rclear L) (r :: X) (r :: Z) }
  exact j0A P s1 (by omega) P3 (by simp [PAr.clear]) (by simp [rclear]) (k2.trans kz)
theorem j2A {g0 g1 : Heap} {r : Nat} (P : Ap g0 p w s a rp rc b cls L X Z) (s1 : Same [] g0 g1) {i : Nat} (hi : i < 2 ^ 40) {b' : Option Nat} {cls' : List Int} {L' : List Tm} {sp : Int} {g2 : Heap} {t26 t9 : AV} (e26 : t26 = .ptr (some (p, 0))) (e9 : t9 = .ptr (some (r, 0)))
    (hl : ldS g2 (.ptr (some (r, 1))) = some (.int .i64 sp)) (P2 : Ap g0 p w s a rp rc b cls L X Z) (H2 : ArAt g2 p w s a) (r2 : R4At g2 rp rc b' cls' L' (r :: X)) (T2 : Tab0 g2) (k2 : KpX (r :: Z) g1 g2)
    (P1 : Ap g1 p w s a rp rc b cls L (r :: X) (r :: Z)) (R' : Rel (a.sweep sp).2 cls' L') (hL : L'.length ≤ L.length + 1) (hsp : (a.sweep sp).2.sp.length = a.sp.length) :
    Ok (k_law4_ArenaPlays_j2 t26 (.bool false) (.int .i64 i) t9 (.int .i64 (a.sweep sp).1) g2) (DoneA g0 p w s a rp rc L X Z i) := by
  subst e26; subst e9
  refine Ok.eq ?_ (by simp -implicitDefEqProofs only [k_law4_ArenaPlays_j2, faP_ptr, Nat.zero_add, hl, Option.bind_some] <;> rfl)
  refine ok_cl (sweep_ok H2 sp) ?_
  rintro _ g3 ⟨rfl, H3, s3⟩
  simp only at H3 s3
  have r3 := r2.keep s3 (fun j hj => by simp at hj; subst hj; exact P1.xs)
  have kz : KpX (r :: Z) g2 g3 := KpX.of s3 (fun j hj => by simp at hj; subst hj; exact P1.zs)
  have P3 := { P1 with ar := H3, r4 := r3, rel := R', tab := T2.kp kz P1.z0 : Ap g3 p w s (a.sweep sp).2 rp rc b' cls' L' (r :: X) (r :: Z) }
  refine Ok.eq ?_ (by simp -implicitDefEqProofs only [neq_int, decide_true, Bool.not_true, Option.bind_some, condE_false] <;> rfl)
  exact j0A P s1 hi P3 hsp hL (k2.trans kz)
theorem op4 (P : Ap g p w s a rp rc b cls L X Z) {x1 : AV} {n i : Nat} (hi : i < n) (hn80 : n ≤ 80) (hln : lnL x1 = some (.int .i64 n)) {bx o : Nat} {sp c ii ad v : Int} (hix : iaS 6 x1 (.int .i64 i) = some (.ptr (some (bx, o)))) (hla : ldA 6 g (.ptr (some (bx, o))) = some (.agg (⟨4, sp, c, ii, ad, v⟩ : Act6).row)) (hL : L.length < 1000) :
    Ok (k_law4_ArenaPlays_b0 (.int .i64 a.sp.length) x1 (.ptr (some (p, 0))) (.ptr (some (rp, 0))) (.bool false) (.int .i64 i) g) (DoneA g p w s a rp rc L X Z i) := by
  have hlt : (i : Int) < n := by omega
  refine Ok.eq ?_ (by simp -implicitDefEqProofs only [k_law4_ArenaPlays_b0, hln, Option.bind_some, bin_lss, hlt, decide_true, condE_true, hix, hla] <;> rfl)
  refine ok_one6 (n := 6) rfl rfl rfl fun g1 s1 n1 p1 => ?_
  have P1 := P.add s1 (by omega)
  have hrl : g.next < g1.next := by omega
  have l0 := ld_kp (KpX.refl (g.next :: Z) g1) p1 hrl 0 rfl
  have l1 := ld_kp (KpX.refl (g.next :: Z) g1) p1 hrl 1 rfl
  have l2 := ld_kp (KpX.refl (g.next :: Z) g1) p1 hrl 2 rfl
  have l4 := ld_kp (KpX.refl (g.next :: Z) g1) p1 hrl 4 rfl
  generalize hrr : g.next = r at *
  refine Ok.eq ?_ (by simp -implicitDefEqProofs only [faP_ptr, Nat.zero_add, l1, Option.bind_some] <;> rfl)
  refine Ok.eq ?_ (here_eq l1 _)

  have d0 : decide ((4 : Int) = 0) = false := rfl
  have d1 : decide ((4 : Int) = 1) = false := rfl
  have d2 : decide ((4 : Int) = 2) = false := rfl
  have d3 : decide ((4 : Int) = 3) = false := rfl
  have d4 : decide ((4 : Int) = 4) = true := rfl
  refine Ok.eq ?_ (by simp -implicitDefEqProofs only [faP_ptr, Nat.zero_add, l0, Option.bind_some, eql_int, d0, d1, d2, d3, d4, decide_true, decide_false, condE_true, condE_false] <;> rfl)
  by_cases hh : 1 ≤ sp ∧ sp < a.sp.length
  · have hd : decide (1 ≤ sp ∧ sp < a.sp.length) = true := by simp [hh]
    obtain ⟨m, rfl⟩ : ∃ m : Nat, sp = m := ⟨sp.toNat, by omega⟩
    have hcm := P1.rel.cl m (by have := hh.2; omega)
    refine Ok.eq ?_ (by simp -implicitDefEqProofs only [hd, condE_true, faP_ptr, Nat.zero_add, l1, Option.bind_some] <;> rfl)
    refine ok_cl (rsweep_ok P1.r4 hcm) ?_
    rintro v2 g2 hr
    by_cases hcc : a.cls m = -1
    · rw [if_pos (by omega)] at hr
      cases hr
      have e : a.sweep m = (0, a) := by unfold PAr.sweep; rw [if_pos hcc]
      have R' : Rel (a.sweep m).2 cls L := by rw [e]; exact P1.rel
      have := j2A P s1 (i := i) (by omega) (t26 := .ptr (some (p, 0))) (t9 := .ptr (some (r, 0))) rfl rfl l1 P P1.ar P1.r4 P1.tab (KpX.refl _ _) P1 R' (by omega) (by rw [e])
      rw [e] at this; exact this
    · obtain ⟨_, _, q0, _⟩ := cls_rng P1.rel.wf hcc
      rw [if_neg (by omega)] at hr
      obtain ⟨hv, ⟨b', r3⟩, k3⟩ := hr
      simp only at hv r3 k3
      subst hv
      obtain ⟨e, R'⟩ := rel_sweep P1.rel hcc
      rw [Int.toNat_natCast] at e R'
      have kz := k3.sub P1.zX
      have hl : (a.sweep m).2.sp.length = a.sp.length := by
        have := R'.len
        unfold rswC at this
        split at this
        · rw [List.length_set, P1.rel.len] at this; exact this.symm
        · rw [P1.rel.len] at this; exact this.symm
      have := j2A P s1 (i := i) (by omega) (t26 := .ptr (some (p, 0))) (t9 := .ptr (some (r, 0))) rfl rfl (ld_kp kz p1 hrl 1 rfl) P (P1.ar.kp k3 P1.xp P1.xw P1.xs) r3 (P1.tab.kp kz P1.z0) kz P1 R' (Nat.le_trans (fil_len _ _) (by omega)) hl
      rw [e] at this; exact this
  · have hd : decide (1 ≤ sp ∧ sp < a.sp.length) = false := by simp only [decide_eq_false_iff_not]; exact hh
    have e : a.sweep sp = (0, a) := by unfold PAr.sweep; rw [if_pos (cls_no hh)]
    refine Ok.eq ?_ (by simp -implicitDefEqProofs only [hd, condE_false] <;> rfl)
    have R' : Rel (a.sweep sp).2 cls L := by rw [e]; exact P1.rel
    have := j2A P s1 (i := i) (by omega) (t26 := .ptr (some (p, 0))) (t9 := .ptr (some (r, 0))) rfl rfl l1 P P1.ar P1.r4 P1.tab (KpX.refl _ _) P1 R' (by omega) (by rw [e])
    rw [e] at this; exact this
end
end Go.Ab.F

namespace Go.Ab.F
open Go Go.Ab
set_option linter.all false
set_option linter.all false
attribute [local congr] c_bind c_cl c_mk c_lp c_clC c_gQ c_gV c_condE c_thenK

section
variable {g : Heap} {p w s rp rc : Nat} {a : PAr} {b : Option Nat} {cls : List Int} {L : List Tm} {X Z : List Nat}
theorem op5 (P : Ap g p w s a rp rc b cls L X Z) {x1 : AV} {n i : Nat} (hi : i < n) (hn80 : n ≤ 80) (hln : lnL x1 = some (.int .i64 n)) {bx o : Nat} {sp c ii ad v : Int} (hix : iaS 6 x1 (.int .i64 i) = some (.ptr (some (bx, o)))) (hla : ldA 6 g (.ptr (some (bx, o))) = some (.agg (⟨5, sp, c, ii, ad, v⟩ : Act6).row)) (hL : L.length < 1000) :
    Ok (k_law4_ArenaPlays_b0 (.int .i64 a.sp.length) x1 (.ptr (some (p, 0))) (.ptr (some (rp, 0))) (.bool false) (.int .i64 i) g) (DoneA g p w s a rp rc L X Z i) := by
  have hlt : (i : Int) < n := by omega
  refine Ok.eq ?_ (by simp -implicitDefEqProofs only [k_law4_ArenaPlays_b0, hln, Option.bind_some, bin_lss, hlt, decide_true, condE_true, hix, hla] <;> rfl)
  refine ok_one6 (n := 6) rfl rfl rfl fun g1 s1 n1 p1 => ?_
  have P1 := P.add s1 (by omega)
  have hrl : g.next < g1.next := by omega
  have l0 := ld_kp (KpX.refl (g.next :: Z) g1) p1 hrl 0 rfl
  have l1 := ld_kp (KpX.refl (g.next :: Z) g1) p1 hrl 1 rfl
  have l2 := ld_kp (KpX.refl (g.next :: Z) g1) p1 hrl 2 rfl
  have l4 := ld_kp (KpX.refl (g.next :: Z) g1) p1 hrl 4 rfl
  generalize hrr : g.next = r at *
  refine Ok.eq ?_ (by simp -implicitDefEqProofs only [faP_ptr, Nat.zero_add, l1, Option.bind_some] <;> rfl)
  refine Ok.eq ?_ (here_eq l1 _)

  have d0 : decide ((5 : Int) = 0) = false := rfl
  have d1 : decide ((5 : Int) = 1) = false := rfl
  have d2 : decide ((5 : Int) = 2) = false := rfl
  have d3 : decide ((5 : Int) = 3) = false := rfl
  have d4 : decide ((5 : Int) = 4) = false := rfl
  have d5 : decide ((5 : Int) = 5) = true := rfl
  refine Ok.eq ?_ (by simp -implicitDefEqProofs only [faP_ptr, Nat.zero_add, l0, l4, Option.bind_some, eql_int, d0, d1, d2, d3, d4, decide_true, decide_false, condE_true, condE_false] <;> rfl)
  have l3 := ld_kp (KpX.refl (r :: Z) g1) p1 hrl 3 rfl
  have l5 := ld_kp (KpX.refl (r :: Z) g1) p1 hrl 5 rfl
  have x0 : ∀ (x y : AV) l, extractV 0 (.tup (x :: y :: l)) = some x := fun _ _ _ => rfl
  have x1 : ∀ (x y : AV) l, extractV 1 (.tup (x :: y :: l)) = some y := fun _ _ _ => rfl
  refine ok_cl (rfind_ok P1.r4 ad) ?_
  rintro _ _ hv
  cases hv
  have z : decide ((0 : Int) ≤ -1) = false := rfl
  cases hf : findIx ad L 0 with
  | none =>
    have hn := (P1.rel.ix ad).1 hf
    have hwr : a.write ad ii v = (1, a) := write_none (word_no hn _)
    refine Ok.eq ?_ (by simp -implicitDefEqProofs only [ixV, bin_geq, z, Option.bind_some, gdW_ft, gV_false, pickP_bool, Bool.false_eq_true, if_false, chk_nil, faP_ptr, Nat.zero_add, l0, l3, l4, l5, eql_int, d5, decide_true, condE_true] <;> rfl)
    refine ok_cl (write_ok P1.ar ad ii v) ?_
    rintro _ g2 ⟨rfl, H2, s2⟩
    simp only at H2 s2
    rw [hwr] at H2 ⊢
    obtain ⟨r2, k2, T2⟩ := P1.prog (S := [w]) (by simp) s2 H2
    have P2 := { P1 with ar := H2, r4 := r2, tab := T2 : Ap g2 p w s a rp rc b cls L (r :: X) (r :: Z) }
    refine Ok.eq ?_ (by simp -implicitDefEqProofs only [eql_int, decide_false, Option.bind_some, neq_bool, beq_self_eq_true, Bool.not_true, condE_false, show ((1 : Int) = 0) = False by simp] <;> rfl)
    exact j0A P s1 (by omega) P2 rfl (by omega) k2
  | some q =>
    obtain ⟨t, ht, rfl, hl, hm⟩ := P1.rel.ixs hf
    obtain ⟨vv, lv, hlv, _, _, hrow⟩ := P1.r4.ls
    have lv0 := lv (Same.refl [] g1)
    obtain ⟨bb, hbb, hix3, hld⟩ := hrow q t ht
    have ld1 := (hld (Same.refl [] g1)).2 1 _ rfl
    have zq : (0 : Int) ≤ (q : Nat) := by omega
    by_cases hin : 0 ≤ ii ∧ ii < t.W.length
    · have hi0 : 0 ≤ ii := hin.1
      have hi1 : ii < t.W.length := hin.2
      obtain ⟨kk, rfl⟩ : ∃ kk : Nat, ii = kk := ⟨ii.toNat, by omega⟩
      obtain ⟨wix, wld⟩ := P1.r4.wds ht
      refine Ok.eq ?_ (by simp -implicitDefEqProofs only [ixV, bin_geq, zq, decide_true, Option.bind_some, gdW_tt, gV_true, faP_ptr, Nat.zero_add, l3, hi0, pickP_bool, if_true, nilV_ptr, lv0, hix3, ld1, lnL_sl, bin_lss, hi1, chk_nil, l0, l4, l5, eql_int, d5, condE_true] <;> rfl)
      refine ok_cl (write_ok P1.ar t.ad kk v) ?_
      rintro _ g2 ⟨rfl, H2, s2⟩
      simp only at H2 s2
      obtain ⟨a', e, R'⟩ := rel_write P1.rel ht hin v
      rw [e] at H2 ⊢
      obtain ⟨r2, k2, T2⟩ := P1.prog (S := [w]) (by simp) s2 H2
      obtain ⟨vv2, lv2, hlv2, _, _, hrow2⟩ := r2.ls
      have lv02 := lv2 (Same.refl [] g2)
      obtain ⟨bb2, hbb2, hix32, hld2⟩ := hrow2 q t ht
      have ld12 := (hld2 (Same.refl [] g2)).2 1 _ rfl
      obtain ⟨wix2, _⟩ := r2.wds ht
      have wix3 := wix2 .i64 kk (by omega)
      have m3 := ld_kp k2 p1 hrl 3 rfl
      have m5 := ld_kp k2 p1 hrl 5 rfl
      obtain ⟨st, r3, k3⟩ := r2.setw ht (k := kk) (by omega) v
      refine Ok.eq ?_ (by simp -implicitDefEqProofs only [eql_int, decide_true, Option.bind_some, neq_bool, beq_self_eq_true, Bool.not_true, condE_false, condE_true, nilV_ptr, faP_ptr, Nat.zero_add, lv02, hix32, ld12, m3, m5, wix3, st, cl_some, chk_nil] <;> rfl)
      rw [Int.toNat_natCast] at R'
      generalize g2.put t.wb (some (.cells true (wsC (t.W.set kk v)))) = g3 at *
      have kz := k3.sub P1.zX
      have P3 := { P1 with ar := H2.kp k3 P1.xp P1.xw P1.xs, r4 := r3, rel := R', tab := T2.kp kz P1.z0 : Ap g3 p w s a' rp rc b cls _ (r :: X) (r :: Z) }
      have hl' : a'.sp.length = a.sp.length := by have := R'.len; rw [P1.rel.len] at this; exact this.symm
      exact j0A P s1 (by omega) P3 hl' (by rw [List.length_set]; omega) (k2.trans kz)
    · have hwr : a.write t.ad ii v = (1, a) := write_none (by rw [hl.word P1.rel.wf, if_neg hin])
      by_cases hi0 : 0 ≤ ii
      · have hi1 : ¬ ii < t.W.length := fun h => hin ⟨hi0, h⟩
        refine Ok.eq ?_ (by simp -implicitDefEqProofs only [ixV, bin_geq, zq, Option.bind_some, gdW_tt, gV_true, hi0, nilV_ptr, lv0, hix3, ld1, lnL_sl, bin_lss, hi1, gdW_ft, gV_false, pickP_bool, if_true, decide_false, Bool.false_eq_true, if_false, chk_nil, faP_ptr, Nat.zero_add, l0, l3, l4, l5, eql_int, d5, decide_true, condE_true] <;> rfl)
        refine ok_cl (write_ok P1.ar t.ad ii v) ?_
        rintro _ g2 ⟨rfl, H2, s2⟩
        simp only at H2 s2
        rw [hwr] at H2 ⊢
        obtain ⟨r2, k2, T2⟩ := P1.prog (S := [w]) (by simp) s2 H2
        have P2 := { P1 with ar := H2, r4 := r2, tab := T2 : Ap g2 p w s a rp rc b cls L (r :: X) (r :: Z) }
        refine Ok.eq ?_ (by simp -implicitDefEqProofs only [eql_int, decide_false, Option.bind_some, neq_bool, beq_self_eq_true, Bool.not_true, condE_false, show ((1 : Int) = 0) = False by simp] <;> rfl)
        exact j0A P s1 (by omega) P2 rfl (by omega) k2
      · refine Ok.eq ?_ (by simp -implicitDefEqProofs only [ixV, bin_geq, zq, Option.bind_some, gdW_tt, gV_true, hi0, decide_false, decide_true, gdW_ft, gV_false, pickP_bool, if_true, Bool.false_eq_true, if_false, chk_nil, faP_ptr, Nat.zero_add, l0, l3, l4, l5, eql_int, d5, decide_true, condE_true] <;> rfl)
        refine ok_cl (write_ok P1.ar t.ad ii v) ?_
        rintro _ g2 ⟨rfl, H2, s2⟩
        simp only at H2 s2
        rw [hwr] at H2 ⊢
        obtain ⟨r2, k2, T2⟩ := P1.prog (S := [w]) (by simp) s2 H2
        have P2 := { P1 with ar := H2, r4 := r2, tab := T2 : Ap g2 p w s a rp rc b cls L (r :: X) (r :: Z) }
        refine Ok.eq ?_ (by simp -implicitDefEqProofs only [eql_int, decide_false, Option.bind_some, neq_bool, beq_self_eq_true, Bool.not_true, condE_false, show ((1 : Int) = 0) = False by simp] <;> rfl)
        exact j0A P s1 (by omega) P2 rfl (by omega) k2
theorem op6 (P : Ap g p w s a rp rc b cls L X Z) {x1 : AV} {n i : Nat} (hi : i < n) (hn80 : n ≤ 80) (hln : lnL x1 = some (.int .i64 n)) {bx o : Nat} {k sp c ii ad v : Int} (hix : iaS 6 x1 (.int .i64 i) = some (.ptr (some (bx, o)))) (hla : ldA 6 g (.ptr (some (bx, o))) = some (.agg (⟨k, sp, c, ii, ad, v⟩ : Act6).row)) (hL : L.length < 1000) (h0 : k ≠ 0) (h1 : k ≠ 1) (h2 : k ≠ 2) (h3 : k ≠ 3) (h4 : k ≠ 4) (h5 : k ≠ 5) :
    Ok (k_law4_ArenaPlays_b0 (.int .i64 a.sp.length) x1 (.ptr (some (p, 0))) (.ptr (some (rp, 0))) (.bool false) (.int .i64 i) g) (DoneA g p w s a rp rc L X Z i) := by
  have hlt : (i : Int) < n := by omega
  refine Ok.eq ?_ (by simp -implicitDefEqProofs only [k_law4_ArenaPlays_b0, hln, Option.bind_some, bin_lss, hlt, decide_true, condE_true, hix, hla] <;> rfl)
  refine ok_one6 (n := 6) rfl rfl rfl fun g1 s1 n1 p1 => ?_
  have P1 := P.add s1 (by omega)
  have hrl : g.next < g1.next := by omega
  have l0 := ld_kp (KpX.refl (g.next :: Z) g1) p1 hrl 0 rfl
  have l1 := ld_kp (KpX.refl (g.next :: Z) g1) p1 hrl 1 rfl
  have l2 := ld_kp (KpX.refl (g.next :: Z) g1) p1 hrl 2 rfl
  have l4 := ld_kp (KpX.refl (g.next :: Z) g1) p1 hrl 4 rfl
  generalize hrr : g.next = r at *
  refine Ok.eq ?_ (by simp -implicitDefEqProofs only [faP_ptr, Nat.zero_add, l1, Option.bind_some] <;> rfl)
  refine Ok.eq ?_ (here_eq l1 _)

  have d0 : decide (k = 0) = false := by simp [h0]
  have d1 : decide (k = 1) = false := by simp [h1]
  have d2 : decide (k = 2) = false := by simp [h2]
  have d3 : decide (k = 3) = false := by simp [h3]
  have d4 : decide (k = 4) = false := by simp [h4]
  have d5 : decide (k = 5) = false := by simp [h5]
  refine Ok.eq ?_ (by simp -implicitDefEqProofs only [faP_ptr, Nat.zero_add, l0, l4, Option.bind_some, eql_int, d0, d1, d2, d3, d4, decide_true, decide_false, condE_true, condE_false] <;> rfl)
  have l3 := ld_kp (KpX.refl (r :: Z) g1) p1 hrl 3 rfl
  have l5 := ld_kp (KpX.refl (r :: Z) g1) p1 hrl 5 rfl
  have x0 : ∀ (x y : AV) l, extractV 0 (.tup (x :: y :: l)) = some x := fun _ _ _ => rfl
  have x1 : ∀ (x y : AV) l, extractV 1 (.tup (x :: y :: l)) = some y := fun _ _ _ => rfl
  refine ok_cl (rfind_ok P1.r4 ad) ?_
  rintro _ _ hv
  cases hv
  have z : decide ((0 : Int) ≤ -1) = false := rfl
  cases hf : findIx ad L 0 with
  | none =>
    have hn := (P1.rel.ix ad).1 hf
    have hrd : a.read ad ii = (0, 1) := read_no hn _
    refine Ok.eq ?_ (by simp -implicitDefEqProofs only [ixV, bin_geq, z, Option.bind_some, gdW_ft, gV_false, pickP_bool, Bool.false_eq_true, if_false, chk_nil, faP_ptr, Nat.zero_add, l0, l3, l4, l5, eql_int, d5, condE_false, read_eq P1.ar, hrd, cl_some, x0, x1, decide_true, decide_false, neq_int, neq_bool, beq_self_eq_true, un_not, gdW_ff, gdW_tt, gdW_ft, gV_true, gV_false, pickP_bool, if_true, Bool.false_eq_true, if_false, chk_nil, Bool.not_true, Bool.not_false, show ((1 : Int) = 0) = False by simp] <;> rfl)
    exact j0A P s1 (by omega) P1 rfl (by omega) (KpX.refl _ _)
  | some q =>
    obtain ⟨t, ht, rfl, hl, hm⟩ := P1.rel.ixs hf
    obtain ⟨vv, lv, hlv, _, _, hrow⟩ := P1.r4.ls
    have lv0 := lv (Same.refl [] g1)
    obtain ⟨bb, hbb, hix3, hld⟩ := hrow q t ht
    have ld1 := (hld (Same.refl [] g1)).2 1 _ rfl
    have zq : (0 : Int) ≤ (q : Nat) := by omega
    by_cases hin : 0 ≤ ii ∧ ii < t.W.length
    · have hi0 : 0 ≤ ii := hin.1
      have hi1 : ii < t.W.length := hin.2
      obtain ⟨kk, rfl⟩ : ∃ kk : Nat, ii = kk := ⟨ii.toNat, by omega⟩
      obtain ⟨wix, wld⟩ := P1.r4.wds ht
      obtain ⟨x, hx⟩ : ∃ x, t.W[kk]? = some x := ⟨_, List.getElem?_eq_getElem (by omega)⟩
      have hrd : a.read t.ad kk = (x, 0) := by rw [hl.read P1.rel.wf, if_pos hin, Int.toNat_natCast, hx]; rfl
      have wix3 := wix .i64 kk (by omega)
      have wl := wld kk x hx
      refine Ok.eq ?_ (by simp -implicitDefEqProofs only [ixV, bin_geq, zq, decide_true, Option.bind_some, gdW_tt, gV_true, faP_ptr, Nat.zero_add, l3, hi0, pickP_bool, if_true, nilV_ptr, lv0, hix3, ld1, lnL_sl, bin_lss, hi1, chk_nil, l0, l4, l5, eql_int, d5, condE_false, read_eq P1.ar, hrd, cl_some, x0, x1, neq_bool, beq_self_eq_true, Bool.not_true, gdW_ff, un_not, gdW_ft, gV_false, Bool.false_eq_true, if_false, wix3, wl, neq_int] <;> rfl)
      exact j0A P s1 (by omega) P1 rfl (by omega) (KpX.refl _ _)
    · have hrd : a.read t.ad ii = (0, 1) := by rw [hl.read P1.rel.wf, if_neg hin]
      by_cases hi0 : 0 ≤ ii
      · have hi1 : ¬ ii < t.W.length := fun h => hin ⟨hi0, h⟩
        refine Ok.eq ?_ (by simp -implicitDefEqProofs only [ixV, bin_geq, zq, Option.bind_some, gdW_tt, gV_true, hi0, nilV_ptr, lv0, hix3, ld1, lnL_sl, bin_lss, hi1, gdW_ft, gV_false, pickP_bool, if_true, decide_false, Bool.false_eq_true, if_false, chk_nil, faP_ptr, Nat.zero_add, l0, l3, l4, l5, eql_int, d5, condE_false, read_eq P1.ar, hrd, cl_some, x0, x1, decide_true, decide_false, neq_int, neq_bool, beq_self_eq_true, un_not, gdW_ff, gdW_tt, gdW_ft, gV_true, gV_false, pickP_bool, if_true, Bool.false_eq_true, if_false, chk_nil, Bool.not_true, Bool.not_false, show ((1 : Int) = 0) = False by simp] <;> rfl)
        exact j0A P s1 (by omega) P1 rfl (by omega) (KpX.refl _ _)
      · refine Ok.eq ?_ (by simp -implicitDefEqProofs only [ixV, bin_geq, zq, Option.bind_some, gdW_tt, gV_true, hi0, decide_false, decide_true, gdW_ft, gV_false, pickP_bool, if_true, Bool.false_eq_true, if_false, chk_nil, faP_ptr, Nat.zero_add, l0, l3, l4, l5, eql_int, d5, condE_false, read_eq P1.ar, hrd, cl_some, x0, x1, decide_true, decide_false, neq_int, neq_bool, beq_self_eq_true, un_not, gdW_ff, gdW_tt, gdW_ft, gV_true, gV_false, pickP_bool, if_true, Bool.false_eq_true, if_false, chk_nil, Bool.not_true, Bool.not_false, show ((1 : Int) = 0) = False by simp] <;> rfl)
        exact j0A P s1 (by omega) P1 rfl (by omega) (KpX.refl _ _)
end
end Go.Ab.F

namespace Go.Ab.F
open Go Go.Ab
set_option linter.all false
set_option linter.all false
attribute [local congr] c_bind c_cl c_mk c_lp c_clC c_gQ c_gV c_condE c_thenK

theorem chk_two' {R : Type} {f : Heap → Option AV} {v : AV} {g g' : Heap} {hs : List Heap} {cs : List Asked} {x : Option R} (hv : same v v = true) (h0 : f g = some v) (h1 : f g' = some v) : chk (g :: g' :: hs) ((f, v, 0, 1) :: cs) x = chk (g :: g' :: hs) cs x := by
  rw [chk_cons, allFrom_succ, allFrom_succ, allFrom_zero]
  simp [h0, h1, hv]
section
variable {g : Heap} {p w s rp rc : Nat} {a : PAr} {b : Option Nat} {cls : List Int} {L : List Tm} {X Z : List Nat}
theorem alike_L0 (P : Ap g p w s a rp rc b cls L X Z) :
    Ok (k_law4_alike_L0 (.ptr (some (p, 0))) (.ptr (some (rp, 0))) (.bool false) (.int .i64 0) g) fun r => r.1 = .exit 0 ∧ r.2.1.getD 0 .bot = .bool false ∧ Ap r.2.2 p w s a rp rc b cls L X Z := by
  have hN := P.rel.wf.hi
  have hcl := P.rel.len
  refine ok_loop (fun m vs g' => ∃ i : Nat, vs = [.bool false, .int .i64 i] ∧ m + i = cls.length ∧ Ap g' p w s a rp rc b cls L X Z) ?_ (n := cls.length) (by omega) ⟨0, rfl, rfl, P⟩
  rintro m vs g' ⟨i, rfl, hm, P⟩
  rw [gd0, gd1]
  by_cases hi : i < cls.length
  · have hlt : (i : Int) < cls.length := by omega
    have hc := P.rel.cl i (by omega)
    refine Ok.eq ?_ (by simp -implicitDefEqProofs only [k_law4_alike_b0, nilV_ptr, Option.bind_some, faP_ptr, Nat.zero_add, P.r4.ldc, lnL_sl, bin_lss, hlt, decide_true, condE_true] <;> rfl)
    refine ok_cl (rmaps_ok P.r4 hc fun t ht hs => (P.rel.places ht hs).2.2.1) ?_
    rintro _ g2 ⟨rfl, s2⟩
    simp only at s2
    have P2 := P.keep s2
    obtain ⟨e1, e2⟩ := P.rel.taken_marked i
    obtain ⟨hcx, hcl2⟩ := P2.r4.cl hc
    have x0 : ∀ (x y : AV) l, extractV 0 (.tup (x :: y :: l)) = some x := fun _ _ _ => rfl
    have x1 : ∀ (x y : AV) l, extractV 1 (.tup (x :: y :: l)) = some y := fun _ _ _ => rfl
    have c1 := fun x => chk_two' (x := x) (R := Ex × List AV × Heap) (f := fun g => ldS g (.ptr (some (rc, i)))) (g := g2) (g' := g2) (hs := [g2, g2]) (cs := [((fun g => ldS g (.ptr (some (rp, 0)))), .sl (some (rc, 0)) cls.length (.un 1), 0, 1)]) (same_int .i64 (a.cls i)) hcl2 hcl2
    have c2 := fun x => chk_two' (x := x) (R := Ex × List AV × Heap) (f := fun g => ldS g (.ptr (some (rp, 0)))) (g := g2) (g' := g2) (hs := [g2, g2]) (cs := []) (same_sl (some (rc, 0)) cls.length (.un 1)) P2.r4.ldc P2.r4.ldc
    exact (Ok.of (r := (.normal, [.bool false, .int .i64 ((i + 1 : Nat) : Int)], g2)) (.inl ⟨rfl, m - 1, by omega, i + 1, rfl, by omega, P2⟩)).eq (by
      simp -implicitDefEqProofs only [x0, x1, Option.bind_some, class_eq P2.ar, cl_some, nilV_ptr, faP_ptr, Nat.zero_add, rdC, P2.r4.ldc, clC_some, hcx, hcl2, neq_int, decide_true, Bool.not_true, gdW_ff, gV_true, gQ_true, taken_eq P2.ar, marked_eq P2.ar, e1, e2, pickP_bool, Bool.false_eq_true, if_false, c1, c2, chk_nil, condE_false, bin_add, suc64 i (by omega)])
  · have hlt : ¬ (i : Int) < cls.length := by omega
    exact (Ok.of (r := (.exit 0, [.bool false, .int .i64 (i : Int)], g')) (.inr ⟨by simp, rfl, rfl, P⟩)).eq (by
      simp -implicitDefEqProofs only [k_law4_alike_b0, nilV_ptr, Option.bind_some, faP_ptr, Nat.zero_add, P.r4.ldc, lnL_sl, bin_lss, hlt, decide_false, condE_false])
theorem alike_L1 (P : Ap g p w s a rp rc b cls L X Z) {i : Nat} {t : Tm} (ht : L[i]? = some t) :
    Ok (k_law4_alike_L1 (.ptr (some (p, 0))) (.ptr (some (rp, 0))) (.int .i64 i) (.bool false) (.int .i64 0) g) fun r => r.1 = .exit 4 ∧ r.2.1.getD 0 .bot = .bool false ∧ r.2.2 = g := by
  obtain ⟨hl, hm⟩ := P.rel.mem t (List.mem_of_getElem? ht)
  have hp := hl.pos P.rel.wf
  obtain ⟨fn, fq, hf⟩ := hl.find P.rel.wf
  have his : a.is t.ad = true := by unfold PAr.is; rw [hf]; rfl
  obtain ⟨vv, lv, hlv, _, _, hrow⟩ := P.r4.ls
  have lv0 := lv (Same.refl [] g)
  obtain ⟨bb, hbb, hix3, hld⟩ := hrow i t ht
  have ld0 := (hld (Same.refl [] g)).2 0 _ rfl
  rw [Nat.add_zero] at ld0
  have ld1 := (hld (Same.refl [] g)).2 1 _ rfl
  obtain ⟨wix, wld⟩ := P.r4.wds ht
  refine ok_loop (fun m vs g' => ∃ k : Nat, vs = [.bool false, .int .i64 k] ∧ m + k = t.W.length ∧ g' = g) ?_ (n := t.W.length) (by omega) ⟨0, rfl, rfl, rfl⟩
  rintro m vs g' ⟨k, rfl, hm, hgg⟩
  subst hgg
  rw [gd0, gd1]
  by_cases hk : k < t.W.length
  · have hlt : (k : Int) < t.W.length := by omega
    obtain ⟨x, hx⟩ : ∃ x, t.W[k]? = some x := ⟨_, List.getElem?_eq_getElem hk⟩
    have hrd : a.read t.ad k = (x, 0) := by rw [hl.read P.rel.wf, if_pos ⟨by omega, hlt⟩, Int.toNat_natCast, hx]; rfl
    have wix3 := wix .i64 k hk
    have wl := wld k x hx
    have x0 : ∀ (x y : AV) l, extractV 0 (.tup (x :: y :: l)) = some x := fun _ _ _ => rfl
    have x1 : ∀ (x y : AV) l, extractV 1 (.tup (x :: y :: l)) = some y := fun _ _ _ => rfl
    exact (Ok.of (r := (.normal, [.bool false, .int .i64 ((k + 1 : Nat) : Int)], g')) (.inl ⟨rfl, m - 1, by omega, k + 1, rfl, by omega, rfl⟩)).eq (by
      simp -implicitDefEqProofs only [k_law4_alike_b1, nilV_ptr, Option.bind_some, faP_ptr, Nat.zero_add, Nat.add_zero, lv0, hix3, ld1, lnL_sl, bin_lss, hlt, decide_true, condE_true, ld0, read_eq P.ar, hrd, cl_some, x0, x1, neq_int, Bool.not_true, gdW_ff, gQ_true, wix3, wl, pickP_bool, Bool.false_eq_true, if_false, is_eq P.ar, his, un_not, condE_false, bin_add, suc64 k (by omega)])
  · have hlt : ¬ (k : Int) < t.W.length := by omega
    exact (Ok.of (r := (.exit 4, [.bool false, .int .i64 (k : Int)], g')) (.inr ⟨by simp, rfl, rfl, rfl⟩)).eq (by
      simp -implicitDefEqProofs only [k_law4_alike_b1, nilV_ptr, Option.bind_some, faP_ptr, Nat.zero_add, lv0, hix3, ld1, lnL_sl, bin_lss, hlt, decide_false, condE_false])
theorem alike_L2 (P : Ap g p w s a rp rc b cls L X Z) :
    Ok (k_law4_alike_L2 (.ptr (some (p, 0))) (.ptr (some (rp, 0))) (.bool false) (.int .i64 0) g) fun r => r.1 = .exit 2 ∧ r.2.2 = g := by
  have hlen := P.r4.len
  obtain ⟨vv, lv, hlv, _, _, hrow⟩ := P.r4.ls
  have lv0 := lv (Same.refl [] g)
  refine ok_loop (fun m vs g' => ∃ i : Nat, vs = [.bool false, .int .i64 i] ∧ m + i = L.length ∧ g' = g) ?_ (n := L.length) (by omega) ⟨0, rfl, rfl, rfl⟩
  rintro m vs g' ⟨i, rfl, hm, hgg⟩
  subst hgg
  rw [gd0, gd1]
  by_cases hi : i < L.length
  · have hlt : (i : Int) < L.length := by omega
    obtain ⟨t, ht⟩ : ∃ t, L[i]? = some t := ⟨_, List.getElem?_eq_getElem hi⟩
    refine Ok.eq ?_ (by simp -implicitDefEqProofs only [k_law4_alike_b2, nilV_ptr, Option.bind_some, faP_ptr, Nat.zero_add, lv0, hlv, bin_lss, hlt, decide_true, condE_true] <;> rfl)
    refine ok_lp (alike_L1 P ht) ?_
    rintro _ vs g2 ⟨rfl, h1, h2⟩
    simp only at h1 h2
    subst h2
    refine (Ok.of (r := (.normal, [.bool false, .int .i64 ((i + 1 : Nat) : Int)], g2)) (.inl ⟨rfl, m - 1, by omega, i + 1, rfl, by omega, rfl⟩)).eq ?_
    rw [h1]
    simp -implicitDefEqProofs [thenK_normal, suc64 i (by omega)]
  · have hlt : ¬ (i : Int) < L.length := by omega
    exact (Ok.of (r := (.exit 2, [.bool false, .int .i64 (i : Int)], g')) (.inr ⟨by simp, rfl, rfl⟩)).eq (by
      simp -implicitDefEqProofs only [k_law4_alike_b2, nilV_ptr, Option.bind_some, faP_ptr, Nat.zero_add, lv0, hlv, bin_lss, hlt, decide_false, condE_false])
theorem alike_true (P : Ap g p w s a rp rc b cls L X Z) : Ok (k_law4_alike (.ptr (some (p, 0))) (.ptr (some (rp, 0))) g) fun r => r.1 = .bool true := by
  have hcl := P.rel.len
  have e : decide ((a.sp.length : Int) = cls.length) = true := by simp [hcl]
  refine Ok.eq ?_ (by simp -implicitDefEqProofs only [k_law4_alike, spans_eq P.ar, cl_some, nilV_ptr, Option.bind_some, faP_ptr, Nat.zero_add, rdC, P.r4.ldc, clC_some, lnL_sl, neq_int, e, Bool.not_true, chk_two (f := fun g => ldS g (.ptr (some (rp, 0)))) (same_sl (some (rc, 0)) cls.length (.un 1)) P.r4.ldc P.r4.ldc, condE_false] <;> rfl)
  refine ok_lp (alike_L0 P) ?_
  rintro _ vs g2 ⟨rfl, h1, P2⟩
  simp only at h1 P2
  rw [if_pos rfl, thenK_normal, h1]
  refine ok_lp (alike_L2 P2) ?_
  rintro _ vs3 g3 ⟨rfl, rfl⟩
  exact ok_val (v := .bool true) rfl rfl
end
end Go.Ab.F

namespace Go.Ab.F
open Go Go.Ab
set_option linter.all false
set_option linter.all false
attribute [local congr] c_bind c_cl c_mk c_lp c_clC c_gQ c_gV c_condE c_thenK

/-- A list of rows lies in one block. -/
theorem rows_blk {h : Heap} {sz : Nat} {v : AV} {l : List (List AV)} (hy : RwC h sz v l) (hn : 1 ≤ h.next) : ∃ bx, bx < h.next ∧ ∀ (i : Nat) r, l[i]? = some r → ∃ o, iaS sz v (.int .i64 (i : Int)) = some (.ptr (some (bx, o))) ∧ ldA sz h (.ptr (some (bx, o))) = some (.agg r) := by
  cases hl : l with
  | nil => exact ⟨0, by omega, fun i r hr => by simp at hr⟩
  | cons r0 rest =>
    rw [← hl]
    obtain ⟨b, o, hb, hix, hla, _⟩ := hy.at (i := 0) (r := r0) (by rw [hl]; rfl)
    refine ⟨b, hb, fun i r hr => ?_⟩
    obtain ⟨b', o', hb', hix', hla', _⟩ := hy.at hr
    have : b' = b := by
      obtain ⟨cs, hw, _⟩ := hy
      have hi := (List.getElem?_eq_some_iff.1 hr).1
      rcases hw.eq with ⟨_, e⟩ | ⟨b1, o1, c, e, _⟩
      · omega
      · have h1 := hix .i64
        have h2 := hix' .i64
        rw [e, iaS_sl sz _ _ _ _ _ ⟨by omega, by omega⟩] at h1 h2
        simp only [Option.some.injEq, AV.ptr.injEq, Prod.mk.injEq] at h1 h2
        omega
    subst this
    exact ⟨o', hix' .i64, hla'⟩
theorem ldA_cong' {g g' : Heap} {b : Nat} (h : g.get b = g'.get b) (n o : Nat) : ldA n g (.ptr (some (b, o))) = ldA n g' (.ptr (some (b, o))) := by
  simp only [ldA, h]
section
variable {g : Heap} {p w s rp rc : Nat} {a : PAr} {b : Option Nat} {cls : List Int} {L : List Tm} {X Z : List Nat}
theorem plays4_step (P : Ap g p w s a rp rc b cls L X Z) {x1 : AV} {n i : Nat} (hi : i < n) (hn80 : n ≤ 80) (hln : lnL x1 = some (.int .i64 n)) {bx o : Nat} {t : Act6} (hix : iaS 6 x1 (.int .i64 i) = some (.ptr (some (bx, o)))) (hla : ldA 6 g (.ptr (some (bx, o))) = some (.agg t.row)) (hL : L.length < 1000) :
    Ok (k_law4_ArenaPlays_b0 (.int .i64 a.sp.length) x1 (.ptr (some (p, 0))) (.ptr (some (rp, 0))) (.bool false) (.int .i64 i) g) (DoneA g p w s a rp rc L X Z i) := by
  obtain ⟨k, sp, c, ii, ad, v⟩ := t
  by_cases h0 : k = 0
  · subst h0; exact op0 P hi hn80 hln hix hla hL
  by_cases h1 : k = 1
  · subst h1; exact op1 P hi hn80 hln hix hla hL
  by_cases h2 : k = 2
  · subst h2; exact op2 P hi hn80 hln hix hla hL
  by_cases h3 : k = 3
  · subst h3; exact op3 P hi hn80 hln hix hla hL
  by_cases h4 : k = 4
  · subst h4; exact op4 P hi hn80 hln hix hla hL
  by_cases h5 : k = 5
  · subst h5; exact op5 P hi hn80 hln hix hla hL
  exact op6 P hi hn80 hln hix hla hL h0 h1 h2 h3 h4 h5
theorem plays4_loop (P : Ap g p w s a rp rc b cls L X Z) {x1 : AV} {n bx : Nat} (hn80 : n ≤ 80) (hln : lnL x1 = some (.int .i64 n)) (hbx : bx ∈ Z) (hbl : bx < g.next) (hL : L.length = 0)
    (hrow : ∀ i, i < n → ∃ o t, iaS 6 x1 (.int .i64 (i : Nat)) = some (.ptr (some (bx, o))) ∧ ldA 6 g (.ptr (some (bx, o))) = some (.agg (Act6.row t))) :
    Ok (k_law4_ArenaPlays_L0 (.int .i64 a.sp.length) x1 (.ptr (some (p, 0))) (.ptr (some (rp, 0))) (.bool false) (.int .i64 0) g) fun r => r.1 = .exit 0 ∧ ∃ a' b' cls' L', Ap r.2.2 p w s a' rp rc b' cls' L' X Z := by
  refine ok_loop (fun m vs g' => ∃ (i : Nat) (a' : PAr) (b' : Option Nat) (cls' : List Int) (L' : List Tm), vs = [.bool false, .int .i64 i] ∧ m + i = n ∧ Ap g' p w s a' rp rc b' cls' L' X Z ∧ a'.sp.length = a.sp.length ∧ L'.length ≤ i ∧ KpX Z g g') ?_ (n := n) (by omega) ⟨0, a, b, cls, L, rfl, rfl, P, rfl, by omega, KpX.refl _ _⟩
  rintro m vs g' ⟨i, a', b', cls', L', rfl, hm, P', hs, hl, kz⟩
  rw [gd0, gd1, ← hs]
  by_cases hi : i < n
  · obtain ⟨o, t, hix, hla⟩ := hrow i hi
    obtain ⟨r, hr, h1, h2, a2, b2, cls2, L2, P2, hs2, hl2, kz2⟩ := plays4_step P' hi hn80 hln hix (by rw [← hla]; exact ldA_cong' (kz.get bx hbx hbl) 6 o) (by omega)
    exact ⟨r, hr, .inl ⟨h1, m - 1, by omega, i + 1, a2, b2, cls2, L2, h2, by omega, P2, by omega, by omega, kz.trans kz2⟩⟩
  · have hlt : ¬ (i : Int) < n := by omega
    exact (Ok.of (r := (.exit 0, [.bool false, .int .i64 (i : Int)], g')) (.inr ⟨by simp, rfl, a', b', cls', L', P'⟩)).eq (by
      simp -implicitDefEqProofs only [k_law4_ArenaPlays_b0, hln, Option.bind_some, bin_lss, hlt, decide_false, condE_false])
end
theorem plays4_true {h : Heap} (hsub : Sub hQ1 h) (hn1 : 1 ≤ h.next) {x : Int} {x1 : AV} {rows : List Act6} (hy : RwC h 6 x1 (rows.map Act6.row)) :
    Ok (k_law4_ArenaPlays (.int .i64 x) x1 h) fun r => r.1 = .bool true := by
  have ht := tab0_sub hsub hn1
  have haw : k_law4_awake h = some (.bool true, h) := quiet_pos hsub
  have hl1 := hy.lnL
  rw [List.length_map] at hl1
  have x0 : ∀ (x y : AV) l, extractV 0 (.tup (x :: y :: l)) = some x := fun _ _ _ => rfl
  have e1 : ∀ (x y : AV) l, extractV 1 (.tup (x :: y :: l)) = some y := fun _ _ _ => rfl
  by_cases hx : x < 8 ∨ 512 < x
  · have hb : (if x < 8 then True else 512 < x) := by split; trivial; omega
    by_cases h8 : x < 8
    · exact ok_val (v := .bool true) (g := h) (by simp -implicitDefEqProofs only [k_law4_ArenaPlays, haw, cl_some, un_not, Bool.not_true, Option.bind_some, condE_false, new_no x hx, x0, e1, bin_lss, h8, decide_true, gdW_tf, gQ_false, pickP_bool, if_true, condE_true, eql_int, gdW_tt, gQ_true, eql_nil_ptr, Option.isNone_none]) rfl
    · have h5 : 512 < x := by omega
      exact ok_val (v := .bool true) (g := h) (by simp -implicitDefEqProofs only [k_law4_ArenaPlays, haw, cl_some, un_not, Bool.not_true, Option.bind_some, condE_false, new_no x hx, x0, e1, bin_lss, h8, decide_false, gdW_ff, gQ_true, bin_gtr, h5, decide_true, pickP_bool, Bool.false_eq_true, if_false, if_true, condE_true, eql_int, gdW_tt, eql_nil_ptr, Option.isNone_none]) rfl
  · obtain ⟨N, rfl⟩ : ∃ N : Nat, x = N := ⟨x.toNat, by omega⟩
    have h8 : ¬ (N : Int) < 8 := by omega
    have h5 : ¬ (512 : Int) < N := by omega
    refine Ok.eq ?_ (by simp -implicitDefEqProofs only [k_law4_ArenaPlays, haw, cl_some, un_not, Bool.not_true, Option.bind_some, condE_false] <;> rfl)
    refine ok_cl (new_ok N (by omega) (by omega)) ?_
    rintro _ g1 ⟨rfl, H1, s1, n1⟩
    simp only at H1 s1 n1
    refine Ok.eq ?_ (by simp -implicitDefEqProofs only [x0, e1, Option.bind_some, bin_lss, h8, decide_false, gdW_ff, gQ_true, cl_some, bin_gtr, h5, pickP_bool, Bool.false_eq_true, if_false, condE_false, neq_int, decide_true, Bool.not_true, eql_ptr_nil, hl1] <;> rfl)
    by_cases h80 : 80 < rows.length
    · have h80' : (80 : Int) < rows.length := by omega
      exact ok_val (v := .bool true) (g := g1) (by simp -implicitDefEqProofs only [h80', decide_true, Option.bind_some, pickP_bool, if_true, gdW_tf, gQ_false, condE_true, eql_int, gdW_tt, gQ_true, cl_some, neq_ptr_nil]) rfl
    have h80' : ¬ (80 : Int) < rows.length := by omega
    by_cases h20 : 20 < N
    · have h20' : (20 : Int) < N := by omega
      exact ok_val (v := .bool true) (g := g1) (by simp -implicitDefEqProofs only [h80', h20', decide_true, decide_false, Option.bind_some, pickP_bool, if_true, Bool.false_eq_true, if_false, gdW_ff, gQ_true, cl_some, bin_gtr, condE_true, eql_int, gdW_tt, neq_ptr_nil]) rfl
    have h20' : ¬ (20 : Int) < N := by omega
    refine Ok.eq ?_ (by simp -implicitDefEqProofs only [h80', h20', decide_false, Option.bind_some, pickP_bool, Bool.false_eq_true, if_false, gdW_ff, gQ_true, cl_some, bin_gtr, condE_false] <;> rfl)
    refine ok_cl (rnew_ok N (by omega)) ?_
    rintro _ g2 ⟨rfl, s2, n2, bb, vv, hg, hv, hbb⟩
    simp only at s2 n2 hg hv
    obtain ⟨bx, hbx, hxr⟩ := rows_blk hy hn1
    obtain ⟨rc, rfl⟩ : ∃ rc, bb = some rc := by
      cases bb with
      | none => have := hv.nil rfl; omega
      | some rc => exact ⟨rc, rfl⟩
    have ev : vv = .sl (some (rc, 0)) N (.un 1) := hv.eq
    subst ev
    obtain ⟨q1, q2, _⟩ := hv.blk rc rfl
    have q3 := hbb rc rfl
    have H2 := H1.same s2 (by simp) (by simp) (by simp)
    have hnl : (newA N).sp.length = N := by show (List.replicate N _).length = N; rw [List.length_replicate]
    have P : Ap g2 (h.next + 2) h.next (h.next + 1) (newA N) g1.next rc none (List.replicate N (-1)) [] [h.next + 2, h.next, h.next + 1, 0, bx] [0, bx] :=
      { ar := H2
        r4 :=
        { rpb := ⟨.sl none 0 (.ex 0), by rw [List.length_replicate]; exact hg, SlB.mt⟩
          rcb := q2
          wb := fun t ht => by simp at ht
          wd := List.nodup_nil
          lp := n2
          lc := q1
          pc := by omega
          xp := by simp; omega
          xc := by simp; omega
          xb := fun i hi => by cases hi
          zp := by omega
          zc := by omega
          xl := fun j hj => by simp at hj; omega
          len := by simp }
        rel := rel_new N (by omega)
        tab := (ht.same s1 (by simp)).same s2 (by simp)
        s0 := by omega
        zX := fun j hj => by simp at hj ⊢; omega
        z0 := by simp
        zp := by simp; omega
        zw := by simp; omega
        zs := by simp; omega
        xp := by simp
        xw := by simp
        xs := by simp }
    have lp := plays4_loop P (x1 := x1) (n := rows.length) (bx := bx) (by omega) hl1 (by simp) (by have := s1.next; have := s2.next; omega) rfl (fun i hi => by
      obtain ⟨t, ht⟩ : ∃ t, rows[i]? = some t := ⟨_, List.getElem?_eq_getElem hi⟩
      obtain ⟨o, hix, hla⟩ := hxr i t.row (by rw [List.getElem?_map, ht]; rfl)
      exact ⟨o, t, hix, by rw [← hla]; exact ldA_cong' ((s1.trans s2).get bx hbx (by simp)) 6 o⟩)
    rw [hnl] at lp
    refine ok_lp lp ?_
    rintro _ vs g3 ⟨rfl, a', b', cls', L', P3⟩
    rw [if_pos rfl, thenK_normal]
    refine ok_cl (alike_true P3) ?_
    rintro v g4 hv
    exact ok_val rfl hv
theorem rep_act6 {h : Heap} {x : D} {r : List AV} (H : Rep h (.st (List.replicate 6 (.int .i64))) x r) : ∃ i : Act6, True ∧ r = i.row := by
  cases x <;> simp only [Rep] at H
  obtain ⟨l, hl, rfl, hw⟩ := reps_ints 6 H
  rcases l with _ | ⟨a, _ | ⟨b, _ | ⟨c, _ | ⟨d, _ | ⟨e, _ | ⟨f, _ | ⟨g, l⟩⟩⟩⟩⟩⟩⟩ <;> simp at hl
  exact ⟨⟨a, b, c, d, e, f⟩, trivial, rfl⟩
theorem rd_acts6 {h : Heap} {x : D} {vs : List AV} (H : Rep h (.sl (.st (List.replicate 6 (.int .i64)))) x vs) : ∃ rows : List Act6, RwC h 6 (argAV (.sl (.st (List.replicate 6 (.int .i64)))) vs) (rows.map Act6.row) := by
  obtain ⟨l, h1, h2⟩ := rd_rows H
  obtain ⟨m, _, rfl⟩ := all_rows Act6.row (fun _ => True) rep_act6 h2
  exact ⟨m, h1⟩
end Go.Ab.F
