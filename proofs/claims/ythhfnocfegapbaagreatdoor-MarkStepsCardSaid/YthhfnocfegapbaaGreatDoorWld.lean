import Derived.Test.YthhfnocfegapbaaGreatDoorMar
import Derived.Test.YthhfnocfegapbaaGreatDoorRfa

namespace Go.Ab.F
open Go Go.Ab
set_option linter.all false
set_option linter.all false
attribute [local congr] c_bind c_cl c_mk c_lp c_clC c_gQ c_gV c_condE c_thenK

/-! The world of the seventh chapter's statements: a thing's size, a word that is put into both. -/
theorem write_sp (a : PAr) (ad k v : Int) : (a.write ad k v).2.sp = a.sp := by
  unfold PAr.write; split <;> rfl
theorem write_wf {a : PAr} (H : Wf a) (ad k v : Int) : Wf (a.write ad k v).2 := by
  unfold PAr.write
  split
  · exact H
  · exact ⟨by simp only [List.length_set]; exact H.len, H.hi, H.fi⟩
theorem take_none {l : PAl} (H : Fi l) {n : Int} (h1 : classOf n ≠ -1) (hr : ¬ room l (classOf n)) : l.take n = ((0, 5), l) := by
  unfold PAl.take
  rw [if_neg h1]
  have hc : 0 ≤ classOf n ∧ classOf n ≤ 5 := by
    rcases classOf_range n with h | h
    · exact absurd h h1
    · exact ⟨h.1, h.2.1⟩
  generalize classOf n = c at *
  have hlen := H.len
  rcases scan1_fi H hc l.un.length 0 with ⟨a1, a2⟩ | ⟨m, b1, b2, b3, b4⟩
  · rw [a2]
    simp only
    unfold PAl.more
    rcases scan2_fi (l := l) c (l.un.length - 1) 1 with ⟨c1, c2⟩ | ⟨m, d1, d2, d3, d4⟩
    · rw [c2]
      simp only
      unfold PAl.more2
      rw [scan3_fi H]
    · exact absurd ⟨m, by omega, by omega, .inl d3⟩ hr
  · obtain ⟨hn, _⟩ := roomAt_bit hc b3 H.ar
    exact absurd ⟨m, by have := hn.1; omega, by omega, .inr b3⟩ hr
theorem and63 (n : Int) : binP .and (.int .i64 n) (.int .i64 63) = some (.int .i64 (n % 64)) := by
  rw [bin_int _ (by decide) (by decide)]
  have e : intBin .and .i64 n 63 = some (.int .i64 (IntKind.i64.wrap (BitVec.ofInt 64 n &&& BitVec.ofInt 64 63).toNat)) := rfl
  have e7 : (BitVec.ofInt 64 63).toNat = 2 ^ 6 - 1 := by decide
  have h : (BitVec.ofInt 64 n &&& BitVec.ofInt 64 63).toNat = (n % 64).toNat := by
    rw [BitVec.toNat_and, e7, Nat.and_two_pow_sub_one_eq_mod, BitVec.toNat_ofInt]
    omega
  rw [e, h, wrap_i64 (by omega) (by omega)]
  congr 2; omega
def shT (sh : Int) : Int := sh % 8 % 6
theorem shT_rng (sh : Int) : 0 ≤ shT sh ∧ shT sh < 6 := by unfold shT; omega
def sizeT (sh wd : Int) : Int := if shT sh < 4 then shT sh + 1 else if wd % 64 < 1 then 1 else wd % 64
theorem sizeT_rng (sh wd : Int) : 1 ≤ sizeT sh wd ∧ sizeT sh wd ≤ 64 := by
  have := shT_rng sh
  unfold sizeT
  split
  · omega
  · split <;> omega
theorem rem6 (sh : Int) : binP .rem (.int .i64 (sh % 8)) (.int .i64 6) = some (.int .i64 (shT sh)) := by
  rw [bin_rem, if_neg (by omega), rem_nonneg (by omega)]; rfl
theorem size_ok (sh wd : Int) {v : AV} (hv : scalar v = true) (h : Heap) : Ok (k_law7_size (.agg [.int .i64 sh, .int .i64 wd, v]) h) fun r => r.1 = .int .i64 (sizeT sh wd) ∧ Same [] h r.2 := by
  have bx : bxP (.agg [.int .i64 sh, .int .i64 wd, v]) = some (.cells true [.int .i64 sh, .int .i64 wd, v], fun i => .ptr (some (i, 0))) := bx_agg (by show (true && (true && (scalar v && true))) = true; rw [hv]; rfl)
  have g0 : (h.new (.cells true [.int .i64 sh, .int .i64 wd, v])).get h.next = some (.cells true [.int .i64 sh, .int .i64 wd, v]) := get_new_eq
  have l0 : ldS (h.new (.cells true [.int .i64 sh, .int .i64 wd, v])) (.ptr (some (h.next, 0))) = some (.int .i64 sh) := by rw [ldS_at g0]; rfl
  have l1 : ldS (h.new (.cells true [.int .i64 sh, .int .i64 wd, v])) (.ptr (some (h.next, 0 + 1))) = some (.int .i64 wd) := by rw [ldS_at g0]; rfl
  have r := shT_rng sh
  unfold sizeT
  by_cases c1 : shT sh < 4
  · have w : IntKind.i64.wrap (shT sh + 1) = shT sh + 1 := wrap_i64 (by omega) (by omega)
    rw [if_pos c1]
    exact ok_val (by simp -implicitDefEqProofs only [k_law7_size, bx, mk_some, faP_ptr, Option.bind_some, Nat.add_zero, l0, and7, rem6, bin_lss, c1, decide_true, condE_true, bin_add, w] <;> rfl) ⟨rfl, Same.new _ _⟩
  · rw [if_neg c1]
    by_cases c2 : wd % 64 < 1
    · rw [if_pos c2]
      exact ok_val (by simp -implicitDefEqProofs only [k_law7_size, bx, mk_some, faP_ptr, Option.bind_some, Nat.add_zero, l0, l1, and7, and63, rem6, bin_lss, c1, c2, decide_true, decide_false, condE_true, condE_false] <;> rfl) ⟨rfl, Same.new _ _⟩
    · rw [if_neg c2]
      exact ok_val (by simp -implicitDefEqProofs only [k_law7_size, bx, mk_some, faP_ptr, Option.bind_some, Nat.add_zero, l0, l1, and7, and63, rem6, bin_lss, c1, c2, decide_false, condE_false] <;> rfl) ⟨rfl, Same.new _ _⟩
section
variable {g : Heap} {C D : Nat → Nat} {qb b bT bq : Option Nat} {cls : List Int} {L : List Tm} {l : PAl} {gp gr : List Int} {T : List Shp} {Z : List Nat}
/-- A word is written: the program's side. -/
theorem J.wrote (P : J g C D qb b bT bq cls L l gp l gr T Z) (ad k v : Int) :
    Ok (k_arena_Arena_Write (.ptr (some (C 6, 0))) (.int .i64 ad) (.int .i64 k) (.int .i64 v) g) fun r => r.1 = .int .i64 (l.ar.write ad k v).1 ∧ J r.2 C D qb b bT bq cls L ⟨(l.ar.write ad k v).2, l.un⟩ gp l gr T Z ∧ KpX Z g r.2 := by
  refine (write_ok P.pm.al.ar ad k v).mono ?_
  rintro ⟨_, g'⟩ ⟨rfl, A, s⟩
  simp only at A s
  have hsp := write_sp l.ar ad k v
  obtain ⟨H, kx⟩ := P.pm.turn (l' := ⟨(l.ar.write ad k v).2, l.un⟩) (s.sub (by simp)) (P.pm.al.arena (s.sub (by simp)) A (by rw [hsp])) (write_wf P.pm.wf ad k v)
  obtain ⟨P', kz⟩ := P.prog H kx
  exact ⟨rfl, P', kz⟩
theorem WfW.setw {L : List Tm} (H : WfW L) {i : Nat} {t : Tm} (ht : L[i]? = some t) (k : Nat) {v : Int} (hv : wf64 v) : WfW (L.set i { t with W := t.W.set k v }) := fun u hu x hx => by
  rcases List.mem_or_eq_of_mem_set hu with h | h
  · exact H u h x hx
  · subst h
    rcases List.mem_or_eq_of_mem_set hx with h | h
    · exact H t (List.mem_of_getElem? ht) x h
    · subst h; exact hv
theorem put_ok (P : J g C D qb b bT bq cls L l gp l gr T Z) (hw : WfW L) (hL : L.length < 100000) {ad k v : Int} (hv : wf64 v) (hk : 0 ≤ k ∧ ∀ t ∈ L, t.ad = ad → k < t.W.length) :
    Ok (k_law7_put (.ptr (some (C 6, 0))) (.ptr (some (D 0, 0))) (.int .i64 ad) (.int .i64 k) (.int .i64 v) g) fun r => ∃ L', J r.2 C D qb b bT bq cls L' ⟨(l.ar.write ad k v).2, l.un⟩ gp ⟨(l.ar.write ad k v).2, l.un⟩ gr T Z ∧ KpX Z g r.2 ∧ WfW L' ∧ L'.length = L.length := by
  refine Ok.eq ?_ (by unfold k_law7_put; rfl)
  refine ok_cl (P.wrote ad k v) ?_
  rintro _ g1 ⟨rfl, P1, k1⟩
  simp only at P1 k1
  refine ok_cl (rfind_ok P1.rk.ar ad) ?_
  rintro _ _ he
  cases he
  have R := P1.rk.rel
  cases hf : findIx ad L 0 with
  | none =>
    have hn := (R.ix ad).1 hf
    rw [write_none (word_no hn k)] at P1 ⊢
    have z : ¬ (0 : Int) ≤ -1 := by omega
    exact ok_val (v := .tup []) (g := g1) (by simp -implicitDefEqProofs only [ixV, bin_geq, z, decide_false, Option.bind_some, condE_false]) ⟨L, P1, k1, hw, rfl⟩
  | some i =>
    obtain ⟨t, ht, hta, hl, hm⟩ := R.ixs hf
    have htm := List.mem_of_getElem? ht
    have hkt := hk.2 t htm hta
    obtain ⟨a', hwr, R'⟩ := rel_write R ht (k := k) ⟨hk.1, hkt⟩ v
    rw [hta] at hwr
    obtain ⟨vv, lv, hln, _, _, hrow⟩ := P1.rk.ar.ls
    have lv0 := lv (Same.refl [] g1)
    obtain ⟨bb, hb, hix, hld⟩ := hrow i t ht
    have ld := (hld (Same.refl [] g1)).2 1 _ rfl
    obtain ⟨wix, _⟩ := P1.rk.ar.wds ht
    have ek : ((k.toNat : Nat) : Int) = k := by omega
    have wix' := wix .i64 k.toNat (by omega)
    rw [ek] at wix'
    obtain ⟨st, RA, kx⟩ := P1.rk.ar.setw ht (k := k.toNat) (by omega) v
    have hsp : a'.sp.length = l.ar.sp.length := by have := write_sp l.ar ad k v; rw [hwr] at this; simp only at this; rw [this]
    obtain ⟨H', k'⟩ := P1.rk.arena RA kx R' hsp
    obtain ⟨P2, k2⟩ := P1.doc H' k'
    rw [hwr] at P2 ⊢
    have z : (0 : Int) ≤ (i : Int) := by omega
    exact ok_val (v := .tup []) (by simp -implicitDefEqProofs only [ixV, bin_geq, z, decide_true, Option.bind_some, condE_true, nilV_ptr, faP_ptr, Nat.zero_add, lv0, hix, ld, wix', st, cl_some] <;> rfl) ⟨_, P2, k1.trans k2, hw.setw ht _ hv, by rw [List.length_set]⟩
end
end Go.Ab.F

namespace Go.Ab.F
open Go Go.Ab
set_option linter.all false
set_option linter.all false
attribute [local congr] c_bind c_cl c_mk c_lp c_clC c_gQ c_gV c_condE c_thenK

/-! The document's numbers of shapes. -/
theorem eqD_row (s t : Shp) : eqD (some (.struct #[])) (some keyL) (.agg s.row) (.agg t.row) = some (decide (s = t)) := by
  obtain ⟨a, b, c⟩ := s
  obtain ⟨d, e, f⟩ := t
  by_cases h1 : a = d
  · by_cases h2 : b = e
    · by_cases h3 : c = f
      · subst h1; subst h2; subst h3
        simp [eqD, eqFs, eqT, Shp.row, keyL]
      · have : ¬ (c.toNat : Int) = f.toNat := fun h => h3 (BitVec.eq_of_toNat_eq (by omega))
        subst h1; subst h2
        simp [eqD, eqFs, eqT, Shp.row, keyL, h3, this]
    · subst h1
      simp [eqD, eqFs, eqT, Shp.row, keyL, h2]
  · simp [eqD, eqFs, eqT, Shp.row, keyL, h1]
theorem eql_row (s t : Shp) : eqP (some (.struct #[])) (some keyL) false .eql (.agg s.row) (.agg t.row) = some (.bool (decide (s = t))) := by
  simp only [eqP, guardE, Bool.false_eq_true, if_false, binE, eqD_row, Option.map_some]
theorem keyL_eq : ([(0, (.int .i64)), (1, (.int .i64)), (2, (.int .u64))] : List (Nat × TypeDesc)) = keyL := rfl
theorem rowIx3 {g : Heap} {b : Nat} {v : AV} {T : List Shp} (hs : SlB g (some b) 3 v (shC T) T.length) {sx : Nat} {s : Shp} (hx : T[sx]? = some s) : iaS 3 v (.int .i64 (sx : Int)) = some (.ptr (some (b, sx * 3))) ∧ ldA 3 g (.ptr (some (b, sx * 3))) = some (.agg s.row) := by
  obtain ⟨j, hj, hix⟩ := hs.ix (List.getElem?_eq_some_iff.1 hx).1
  cases hj
  refine ⟨hix .i64, ?_⟩
  rw [ldA_at (hs.blk b rfl).2.1, shC_at hx]; rfl
section
variable {g : Heap} {D : Nat → Nat} {b bT bq : Option Nat} {cls : List Int} {L : List Tm} {l : PAl} {T : List Shp} {gq : List Int} {X : List Nat}
theorem rnumber_ok (H : Rk g D b bT bq cls L l T gq X) {s : Shp} (hs : s ∉ T) (hg : goodB s = true) (hl : T.length < 50000) :
    Ok (k_ref4_Marker_Number (.ptr (some (D 4, 0))) (.agg s.row) g) fun r => ∃ bT', Rk r.2 D b (some bT') bq cls L l (T ++ [s]) gq X ∧ KpX X g r.2 ∧ g.next ≤ bT' := by
  have bx : bxP (.agg s.row) = some (.cells true s.row, fun i => .ptr (some (i, 0))) := rfl
  have s0 : Same [] g (g.new (.cells true s.row)) := Same.new _ _
  have p0 : (g.new (.cells true s.row)).get g.next = some (.cells true s.row) := get_new_eq
  have n0 : (g.new (.cells true s.row)).next = g.next + 1 := rfl
  refine Ok.eq ?_ (by simp -implicitDefEqProofs only [k_ref4_Marker_Number, bx, mk_some] <;> rfl)
  generalize g.new (.cells true s.row) = g1 at *
  have H1 := H.keep s0
  obtain ⟨vT, vq, hm, hT, hq⟩ := H1.mkb
  have l1 : ldS g1 (.ptr (some (D 4, 1))) = some vT := by rw [ldS_at hm]; rfl
  have lp0 : Ok (k_ref4_Marker_Number_L0 (.ptr (some (D 4, 0))) (.ptr (some (g.next, 0))) (.int .i64 0) (.int .i64 0) g1) fun r => r = (.exit 0, [.int .i64 0, .int .i64 T.length], g1) := by
    refine ok_loop (fun m vs g' => ∃ n : Nat, vs = [.int .i64 0, .int .i64 n] ∧ m + n = T.length ∧ g' = g1) ?_ (n := T.length) (by omega) ⟨0, rfl, by omega, rfl⟩
    rintro m vs g' ⟨n, rfl, hmn, hgg⟩
    subst hgg
    rw [gd0, gd1]
    by_cases hn : n < T.length
    · have hlt : (n : Int) < T.length := by omega
      obtain ⟨t, ht⟩ : ∃ t, T[n]? = some t := ⟨_, List.getElem?_eq_getElem hn⟩
      obtain ⟨j, hj⟩ : ∃ j, bT = some j := by
        cases bT with
        | none => have := hT.nil rfl; omega
        | some j => exact ⟨j, rfl⟩
      subst hj
      obtain ⟨ix, ld⟩ := rowIx3 hT ht
      have hne : decide (t = s) = false := decide_eq_false (fun e => hs (by rw [← e]; exact List.mem_of_getElem? ht))
      exact (Ok.of (r := (.normal, [.int .i64 0, .int .i64 ((n + 1 : Nat) : Int)], g')) (.inl ⟨rfl, m - 1, by omega, n + 1, rfl, by omega, rfl⟩)).eq (by
        simp -implicitDefEqProofs only [k_ref4_Marker_Number_b0, nilV_ptr, Option.bind_some, faP_ptr, Nat.zero_add, l1, hT.lnL, bin_lss, hlt, decide_true, condE_true, ix, ld, ldA_row p0, keyL_eq, eql_row, hne, chk_nil, condE_false, bin_add, suc64 n (by omega)])
    · have hlt : ¬ (n : Int) < T.length := by omega
      obtain rfl : n = T.length := by omega
      exact (Ok.of (r := (.exit 0, [.int .i64 0, .int .i64 (T.length : Int)], g')) (.inr ⟨by simp, rfl⟩)).eq (by
        simp -implicitDefEqProofs only [k_ref4_Marker_Number_b0, nilV_ptr, Option.bind_some, faP_ptr, Nat.zero_add, l1, hT.lnL, bin_lss, hlt, decide_false, condE_false])
  refine ok_lp lp0 ?_
  rintro _ _ _ he
  cases he
  have s1 : Same [] g1 (hpN g1 1) := ⟨Nat.le_succ _, fun _ _ _ => rfl⟩
  have l1' : ldS (hpN g1 1) (.ptr (some (D 4, 1))) = some vT := l1
  have la' : ldA 3 (hpN g1 1) (.ptr (some (g.next, 0))) = some (.agg s.row) := ldA_row (show (hpN g1 1).get g.next = _ from p0)
  have bs1 : bsP 3 [(AV.int .i64 0), (AV.int .i64 0), (AV.int .u64 0)] 1 [(0, .agg s.row)] = some (.cells true s.row, fun i => .sl (some (i, 0)) 1 (.ex 1)) := bsP_one (t := .agg s.row) rfl rfl rfl
  have ma : mkAt Heap.put (bsP 3 [(AV.int .i64 0), (AV.int .i64 0), (AV.int .u64 0)] 1 [(0, .agg s.row)]) (g1.next + 0) (hpN g1 1) = some (.sl (some (g1.next, 0)) 1 (.ex 1), (hpN g1 1).put g1.next (some (.cells true s.row))) := by
    rw [bs1]; rfl
  refine Ok.eq ?_ (by simp -implicitDefEqProofs only [if_true, thenK_normal, nilV_ptr, Option.bind_some, faP_ptr, Nat.zero_add, l1', la', ma, cl_some] <;> rfl)
  have s2 : Same [] g1 ((hpN g1 1).put g1.next (some (.cells true s.row))) := s1.old (Same.put _ _ _) (fun j hj => by rw [List.mem_singleton] at hj; right; omega)
  have p2 : ((hpN g1 1).put g1.next (some (.cells true s.row))).get g1.next = some (.cells true s.row) := get_put_eq
  have n2 : ((hpN g1 1).put g1.next (some (.cells true s.row))).next = g1.next + 1 := rfl
  generalize (hpN g1 1).put g1.next (some (.cells true s.row)) = g2 at *
  have H2 := H1.keep s2
  have hT2 := hT.same s2 (by simp)
  have hm2 : g2.get (D 4) = some (.cells true [.ptr (some (D 0, 0)), vT, vq]) := (s2.get _ (H1.exl (.inr (.inr (.inl rfl)))) (by simp)).trans hm
  obtain ⟨v', g3, ha, hT3, s3, n3⟩ := appAt (bytes := 24) hT2 p2 rfl rfl (by decide) (by omega)
  have eT : ∀ i, bT = some i → exR D bT bq i := fun i hi => .inr (.inr (.inr (.inl hi)))
  have m3 : D 4 ∉ bT.toList := fun hm => (H.dT _ (by simpa using hm)).2.2.1 rfl
  have hm3 : g3.get (D 4) = some (.cells true [.ptr (some (D 0, 0)), vT, vq]) := (s3.get _ (H2.exl (.inr (.inr (.inl rfl)))) m3).trans hm2
  have st : stP 1 g3 (.ptr (some (D 4, 1))) v' = some (.bot, g3.put (D 4) (some (.cells true [.ptr (some (D 0, 0)), v', vq]))) := stP_one hm3 (by simp) hT3.scv
  have s4 : Same [D 4] g3 (g3.put (D 4) (some (.cells true [.ptr (some (D 0, 0)), v', vq]))) := Same.put _ _ _
  have p4 : (g3.put (D 4) (some (.cells true [.ptr (some (D 0, 0)), v', vq]))).get (D 4) = some (.cells true [.ptr (some (D 0, 0)), v', vq]) := get_put_eq
  have n4 : (g3.put (D 4) (some (.cells true [.ptr (some (D 0, 0)), v', vq]))).next = g3.next := rfl
  have l4 : ldS (g3.put (D 4) (some (.cells true [.ptr (some (D 0, 0)), v', vq]))) (.ptr (some (D 4, 1))) = some v' := by rw [ldS_at p4]; rfl
  have hw : IntKind.i64.wrap (((T.length + 1 : Nat) : Int) - 1) = (T.length : Int) := by rw [wrap_i64 (by omega) (by omega)]; omega
  refine ok_val (by simp -implicitDefEqProofs only [ha, cl_some, nilV_ptr, Option.bind_some, faP_ptr, Nat.zero_add, st, chk_nil, l4, hT3.lnL, bin_sub, hw] <;> rfl) ?_
  generalize g3.put (D 4) (some (.cells true [.ptr (some (D 0, 0)), v', vq])) = g4 at *
  have s24 : Same (D 4 :: bT.toList) g2 g4 := (s3.sub (fun j hj => List.mem_cons_of_mem _ hj)).trans (s4.sub (fun j hj => by rw [List.mem_singleton] at hj; subst hj; exact List.mem_cons_self ..))
  have hS : ∀ j ∈ D 4 :: bT.toList, exR D bT bq j := fun j hj => by
    rw [List.mem_cons, Option.mem_toList] at hj
    rcases hj with rfl | h
    · exact .inr (.inr (.inl rfl))
    · exact eT j h
  have hb : g.next ≤ g2.next := by have := s0.next; have := s2.next; omega
  have hn : ∀ j, exR D bT bq j → j < g2.next := fun j hj => H2.exl hj
  have e2 := H2.exl (j := D 2) (.inl rfl)
  have e3 := H2.exl (j := D 3) (.inr (.inl rfl))
  have e4 := H2.exl (j := D 4) (.inr (.inr (.inl rfl)))
  have mT : ∀ j, (bT = some j → False) → j ≠ D 4 → j ∉ D 4 :: bT.toList := fun j h1 h2 hm => by
    rw [List.mem_cons, Option.mem_toList] at hm
    exact hm.elim h2 h1
  show ∃ bT', Rk g4 D b (some bT') bq cls L l (T ++ [s]) gq X ∧ KpX X g g4 ∧ g.next ≤ bT'
  refine ⟨g2.next, ?_, (KpX.same (s0.trans s2)).trans (KpX.of s24 fun j hj => (H.dX j (hS j hj)).1), hb⟩
  exact
  { ar := H2.ar.turnX s24 (fun j hj => exR_x (hS j hj)) (fun j hj => by
      rw [xR_mem] at hj
      have hnx := s24.next
      rcases hj with rfl | rfl | rfl | h | h | h
      · exact ⟨.inl (exR_x (.inl rfl)), by omega⟩
      · exact ⟨.inl (exR_x (.inr (.inl rfl))), by omega⟩
      · exact ⟨.inl (exR_x (.inr (.inr (.inl rfl)))), by omega⟩
      · cases h; exact ⟨.inr (Nat.le_refl _), by omega⟩
      · exact ⟨.inl (exR_x (.inr (.inr (.inr (.inr h))))), Nat.lt_of_lt_of_le (hn j (.inr (.inr (.inr (.inr h))))) hnx⟩
      · exact ⟨.inl (xR_mem.2 (by simp [h])), Nat.lt_of_lt_of_le (H2.xl h) hnx⟩)
    alb := (s24.get _ e2 (mT _ (fun h => (H.dT _ h).1 rfl) H.n24)).trans H2.alb
    stb := (s24.get _ e3 (mT _ (fun h => (H.dT _ h).2.1 rfl) H.n34)).trans H2.stb
    mkb := ⟨v', vq, p4, by rw [shC_app, show shC [s] = s.row by simp [shC], List.length_append]; exact hT3.same s4 (fun i hi => by cases hi; simp; omega), (hq.keep s2 (by simp)).keep s24 (fun i hi => mT i (fun h => (H.dT i h).2.2.2 hi) (H.dq i hi).2.2)⟩
    rel := H.rel
    len := H.len
    n23 := H.n23
    n24 := H.n24
    n34 := H.n34
    dT := fun i hi => by
      cases hi
      exact ⟨by omega, by omega, by omega, fun h => by have := hn _ (.inr (.inr (.inr (.inr h)))); omega⟩
    dq := H.dq
    dX := fun j hj => by
      rcases hj with h | h | h | h | h
      · exact H.dX j (.inl h)
      · exact H.dX j (.inr (.inl h))
      · exact H.dX j (.inr (.inr (.inl h)))
      · cases h
        exact ⟨fun hx => by have := H2.xl hx; omega, by have := H2.xl H2.x0; omega⟩
      · exact H.dX j (.inr (.inr (.inr (.inr h))))
    x0 := H.x0
    gd := fun u hu => by
      rw [List.mem_append, List.mem_singleton] at hu
      rcases hu with h | rfl
      · exact H.gd u h
      · exact hg
    tl := by simp; omega }
end
end Go.Ab.F

namespace Go.Ab.F
open Go Go.Ab
set_option linter.all false
set_option linter.all false
attribute [local congr] c_bind c_cl c_mk c_lp c_clC c_gQ c_gV c_condE c_thenK

/-! The shapes are numbered on both sides. -/
def sh7 : List Shp := [⟨0, 0, 0⟩, ⟨0, 1, 1⟩, ⟨0, 2, 2⟩, ⟨0, 3, 5⟩, ⟨1, 0, 1⟩, ⟨1, 0, 0⟩]
theorem sh7_nd : sh7.Nodup := by decide
theorem sh7_good : ∀ s ∈ sh7, goodB s = true := by decide
theorem shapes7 (h : Heap) : k_law7_shapes h = some (.sl (some (h.next, 0)) 6 (.ex 6), h.new (.cells true (shC sh7))) := rfl
theorem take_suc {α : Type} {T : List α} {i : Nat} {s : α} (h : T[i]? = some s) : T.take (i + 1) = T.take i ++ [s] := by
  rw [List.take_add_one, h]; rfl
theorem not_take {α : Type} {T : List α} (hn : T.Nodup) {i : Nat} {s : α} (h : T[i]? = some s) : s ∉ T.take i := fun hm => by
  obtain ⟨j, hj, e⟩ := List.getElem_of_mem hm
  have hji : j < i := by have := hj; rw [List.length_take] at this; omega
  have hil := (List.getElem?_eq_some_iff.1 h).1
  rw [List.getElem_take] at e
  have e2 : T[j]? = T[i]? := by rw [h, List.getElem?_eq_getElem (by omega), e]
  have := (List.getElem?_inj (by omega) hn).1 e2
  omega
section
variable {g0 : Heap} {D : Nat → Nat} {cls : List Int} {l : PAl} {W : List Nat} {tb nm sx : Nat}
theorem num_loop (hW : tb ∉ W ∧ nm ∉ W) (hsx : sx ∈ W) (hg : g0.get sx = some (.cells true (shC sh7))) (hl : sx < g0.next) (h0 : 0 ∈ W)
    (tA : TbAt g0 tb nm none []) (rk : Rk g0 D none none none cls [] l [] [] (tb :: nm :: W)) :
    Ok (k_law7_world_L0 (.ptr (some (tb, 0))) (.ptr (some (D 4, 0))) (.sl (some (sx, 0)) 6 (.ex 6)) (.int .i64 0) g0) fun r => r.1 = .exit 0 ∧ ∃ bt bT, TbAt r.2.2 tb nm (some bt) sh7 ∧ Rk r.2.2 D none bT none cls [] l sh7 [] (bt :: tb :: nm :: W) ∧ KpX W g0 r.2.2 ∧ g0.next ≤ bt ∧ bt < r.2.2.next := by
  have hWl : ∀ j ∈ W, j < g0.next := fun j hj => rk.xl (by simp [hj])
  refine ok_loop (fun m vs g => ∃ (i : Nat) (bt bT : Option Nat), vs = [.int .i64 i] ∧ m + i = 6 ∧ TbAt g tb nm bt (sh7.take i) ∧ Rk g D none bT none cls [] l (sh7.take i) [] (bt.toList ++ tb :: nm :: W) ∧ KpX W g0 g ∧ (∀ j, bt = some j → g0.next ≤ j ∧ j < g.next) ∧ (1 ≤ i → ∃ j, bt = some j)) ?_ (n := 6) (by omega) ⟨0, none, none, rfl, rfl, tA, rk, KpX.refl _ _, (fun j hj => by cases hj), fun h => by omega⟩
  rintro m vs g ⟨i, bt, bT, rfl, hm, tA, rk, k, hbt, hbs⟩
  rw [gd0]
  have ln : lnL (.sl (some (sx, 0)) 6 (.ex 6)) = some (.int .i64 6) := rfl
  by_cases hi : i < 6
  · have hlt : (i : Int) < 6 := by omega
    obtain ⟨s, hs⟩ : ∃ s, sh7[i]? = some s := ⟨_, List.getElem?_eq_getElem (by exact hi)⟩
    have hsm := List.mem_of_getElem? hs
    have hg1 : g.get sx = some (.cells true (shC sh7)) := (k.get sx hsx hl).trans hg
    have ix : iaS 3 (.sl (some (sx, 0)) 6 (.ex 6)) (.int .i64 (i : Int)) = some (.ptr (some (sx, i * 3))) := by
      rw [iaS_sl 3 (sx, 0) _ _ .i64 _ ⟨by omega, by omega⟩]; simp
    have la : ldA 3 g (.ptr (some (sx, i * 3))) = some (.agg s.row) := by rw [ldA_at hg1, shC_at hs]; rfl
    have hni := not_take sh7_nd hs
    have hgd := sh7_good s hsm
    have hlen : (sh7.take i).length < 100 := by rw [List.length_take]; omega
    refine Ok.eq ?_ (by simp -implicitDefEqProofs only [k_law7_world_b0, ln, Option.bind_some, bin_lss, hlt, decide_true, condE_true, ix, la] <;> rfl)
    refine ok_cl (number_new tA hni hgd (by omega)) ?_
    rintro _ g1 ⟨-, s1, b', hb', tA1⟩
    simp only at s1 tA1
    have hb1 : b' < g1.next := by
      obtain ⟨v, _, hv⟩ := tA1.tbl
      exact (hv.blk b' rfl).1
    have hSX : ∀ j ∈ tb :: nm :: bt.toList, j ∈ bt.toList ++ tb :: nm :: W := fun j hj => by
      simp only [List.mem_cons, List.mem_append, Option.mem_toList] at hj ⊢
      rcases hj with h | h | h
      · exact .inr (.inl h)
      · exact .inr (.inr (.inl h))
      · exact .inl h
    have hSW : ∀ j ∈ tb :: nm :: bt.toList, j ∉ W := fun j hj hw => by
      simp only [List.mem_cons, Option.mem_toList] at hj
      rcases hj with h | h | h
      · subst h; exact hW.1 hw
      · subst h; exact hW.2 hw
      · have := (hbt j h).1
        have := hWl j hw
        omega
    have hg2 : g1.get sx = some (.cells true (shC sh7)) := (s1.get sx (Nat.lt_of_lt_of_le hl k.next) (fun h => hSW sx h hsx)).trans hg1
    have hcell : ∀ (j : Nat) x, s.row[j]? = some x → ldS g1 (.ptr (some (sx, i * 3 + j))) = some x := fun j x hx => by
      rw [ldS_at hg2]
      exact flt_cell (row := Shp.row) (k := 3) (fun _ => rfl) hs hx
    have c0 := hcell 0 _ rfl
    have c1 := hcell 1 _ rfl
    have c2 := hcell 2 _ rfl
    have rk1 : Rk g1 D none bT none cls [] l (sh7.take i) [] (b' :: tb :: nm :: W) := rk.frame s1 (fun j hj hm => (rk.own hm).1 (hSX j hj)) (fun j hj => by
      rw [List.mem_cons] at hj
      rcases hj with rfl | hj
      · exact ⟨fun hm => by have := (rk.own hm).2.2; omega, hb1⟩
      · exact ⟨fun hm => (rk.own hm).1 (List.mem_append_right _ hj), Nat.lt_of_lt_of_le (rk.xl (List.mem_append_right _ hj)) s1.next⟩) (by simp [h0])
    have bl : bldS [(0, 1), (1, 1), (2, 1)] [(AV.int .i64 0), (AV.int .i64 0), (AV.int .u64 0)] [(0, .int .i64 s.kind), (1, .int .i64 s.fields), (2, .int .u64 s.map.toNat)] = some (.agg s.row) := rfl
    refine Ok.eq ?_ (by simp -implicitDefEqProofs only [ix, faP_ptr, Option.bind_some, c0, c1, c2, bl] <;> rfl)
    refine ok_cl (rnumber_ok rk1 hni hgd (by omega)) ?_
    rintro _ g2 ⟨bT', rk2, k2, hbT⟩
    simp only at rk2 k2
    have tA2 : TbAt g2 tb nm (some b') (sh7.take i ++ [s]) := tA1.same k2.frame (not_out (by simp)) (not_out (by simp)) (fun j hj => by cases hj; exact not_out (by simp))
    rw [← take_suc hs] at tA2 rk2
    refine (Ok.of (r := (.normal, [.int .i64 ((i + 1 : Nat) : Int)], g2)) (.inl ⟨rfl, m - 1, by omega, i + 1, some b', some bT', rfl, by omega, tA2, rk2, (k.trans (KpX.of s1 hSW)).trans (k2.sub fun j hj => by simp [hj]), fun j hj => ?_, fun _ => ⟨_, rfl⟩⟩)).eq (by
      simp -implicitDefEqProofs only [chk_nil, bin_add, Option.bind_some, suc64 i (by omega)])
    cases hj
    exact ⟨Nat.le_trans k.next hb', Nat.lt_of_lt_of_le hb1 k2.next⟩
  · have hlt : ¬ (i : Int) < 6 := by omega
    obtain rfl : i = 6 := by omega
    obtain ⟨j, rfl⟩ := hbs (by omega)
    obtain ⟨h1, h2⟩ := hbt j rfl
    exact (Ok.of (r := (.exit 0, [.int .i64 ((6 : Nat) : Int)], g)) (.inr ⟨by simp, rfl, j, bT, tA, rk, k, h1, h2⟩)).eq (by
      simp -implicitDefEqProofs only [k_law7_world_b0, ln, Option.bind_some, bin_lss, hlt, decide_false, condE_false])
end
end Go.Ab.F

namespace Go.Ab.F
open Go Go.Ab
set_option linter.all false
set_option linter.all false
attribute [local congr] c_bind c_cl c_mk c_lp c_clC c_gQ c_gV c_condE c_thenK

/-! Things of an argument; places are taken for them. -/
structure Th where
  sh : Int
  wd : Int
  to : List Int
def ThRd (h : Heap) (r : List AV) (t : Th) : Prop := ∃ sv, r = [.int .i64 t.sh, .int .i64 t.wd, sv] ∧ RdW h 1 sv (t.to.map (AV.int .i64)) t.to.length ∧ (∀ x ∈ t.to, wf64 x) ∧ t.to.length ≤ maxLen
def ThsRd (h : Heap) (v : AV) (ts : List Th) : Prop := ∃ rows, RwC h 3 v rows ∧ rows.length = ts.length ∧ ∀ (i : Nat) r t, rows[i]? = some r → ts[i]? = some t → ThRd h r t
theorem ThsRd.mono {h h' : Heap} {v : AV} {ts : List Th} (H : ThsRd h v ts) (hn : h.next ≤ h'.next) (hg : ∀ j, j < h.next → h'.get j = h.get j) : ThsRd h' v ts := by
  obtain ⟨rows, h1, h2, h3⟩ := H
  refine ⟨rows, h1.mono hn hg, h2, fun i r t hr ht => ?_⟩
  obtain ⟨sv, e, h4, h5⟩ := h3 i r t hr ht
  exact ⟨sv, e, h4.mono hn hg, h5⟩
theorem ThsRd.lnL {h : Heap} {v : AV} {ts : List Th} (H : ThsRd h v ts) : Go.Ab.lnL v = some (.int .i64 ts.length) := by
  obtain ⟨rows, h1, h2, _⟩ := H
  rw [← h2]; exact h1.lnL
/-- What was there at first. -/
def Zr (h : Heap) : List Nat := List.range h.next
theorem kp_mono {h g : Heap} {Z : List Nat} (k : KpX Z h g) (hZ : ∀ j, j < h.next → j ∈ Z) : h.next ≤ g.next ∧ ∀ j, j < h.next → g.get j = h.get j := ⟨k.next, fun j hj => k.get j (hZ j hj) hj⟩
theorem ThsRd.at {h : Heap} {v : AV} {ts : List Th} (H : ThsRd h v ts) {i : Nat} {t : Th} (ht : ts[i]? = some t) : ∃ sv b o, (∀ k, iaS 3 v (.int k (i : Int)) = some (.ptr (some (b, o)))) ∧ ldA 3 h (.ptr (some (b, o))) = some (.agg [.int .i64 t.sh, .int .i64 t.wd, sv]) ∧ scalar sv = true ∧
    ldS h (.ptr (some (b, o + 0))) = some (.int .i64 t.sh) ∧ ldS h (.ptr (some (b, o + 2))) = some sv ∧ RdW h 1 sv (t.to.map (AV.int .i64)) t.to.length ∧ (∀ x ∈ t.to, wf64 x) ∧ t.to.length ≤ maxLen := by
  obtain ⟨rows, h1, h2, h3⟩ := H
  obtain ⟨r, hr⟩ : ∃ r, rows[i]? = some r := ⟨_, List.getElem?_eq_getElem (by rw [h2]; exact (List.getElem?_eq_some_iff.1 ht).1)⟩
  obtain ⟨sv, rfl, h4, h5⟩ := h3 i r t hr ht
  obtain ⟨b, o, _, ix, la, ls⟩ := h1.at hr
  exact ⟨sv, b, o, ix, la, h4.sc, ls 0 _ rfl, ls 2 _ rfl, h4, h5⟩
/-- A place is there for so many words, or none. -/
def AtOk (a : PAr) (x n : Int) : Prop := x = 0 ∨ (a.find x ≠ none ∧ n ≤ wordsOf (a.cls (spanOf x)))
theorem atok_lies {a : PAr} (H : Wf a) {x n : Int} {W : List Int} (hl : Lies a x W) (hn : n ≤ W.length) : AtOk a x n := by
  obtain ⟨m, q, hf⟩ := hl.find H
  exact .inr ⟨by rw [hf]; simp, by rw [cls_lies H hl]; exact hn⟩
theorem AtOk.stay {a b : PAr} {ad : Int} (H : Wf a) (H' : Wf b) (S : Stay a b ad) {x n : Int} (h : AtOk a x n) : AtOk b x n := by
  rcases h with h | ⟨h1, h2⟩
  · exact .inl h
  · obtain ⟨⟨m, q⟩, hf⟩ := Option.ne_none_iff_exists'.1 h1
    obtain ⟨W, hl⟩ := lies_of H hf
    rw [cls_lies H hl] at h2
    exact atok_lies H' (S.lies _ _ hl) h2
theorem AtOk.sp {a b : PAr} (h : b.sp = a.sp) {x n : Int} (k : AtOk a x n) : AtOk b x n := by
  rcases k with k | ⟨h1, h2⟩
  · exact .inl k
  · exact .inr ⟨by rw [find_sp h]; exact h1, by rw [cls_sp h]; exact h2⟩
/-- What a place's taking leaves, nothing being unswept. -/
theorem take7 {l : PAl} (F : Fi l) (W : Wf l.ar) {n : Int} (hn : 1 ≤ n ∧ n ≤ 64) : classOf n ≠ -1 ∧ Fi (l.take n).2 ∧ Wf (l.take n).2.ar ∧ (l.take n).2.ar.sp.length = l.ar.sp.length ∧ AtOk (l.take n).2.ar (l.take n).1.1 n ∧ (∀ x k, AtOk l.ar x k → AtOk (l.take n).2.ar x k) ∧ ((∀ x, l.ar.isM x = false) → ∀ x, (l.take n).2.ar.isM x = false) := by
  obtain ⟨h1, h2⟩ : classOf n ≠ -1 ∧ n ≤ wordsOf (classOf n) := by
    rcases classOf_range n with h | h
    · unfold classOf at h
      repeat (split at h <;> try omega)
    · exact ⟨by omega, h.2.2.1⟩
  refine ⟨h1, ?_⟩
  by_cases hr : room l (classOf n)
  · obtain ⟨ad, l', e, a1, a2, a3, a4, a5, a6, a7, a8, a9, a10⟩ := atake_lies F W h1 hr
    rw [e]
    refine ⟨a1, a2, a8.len, atok_lies a2 a6 (by rw [List.length_replicate]; omega), fun x k h => h.stay W a2 a8, fun h x => by
      by_cases e : x = ad
      · rw [e]; exact a7
      · rw [a8.isM x e]; exact h x⟩
  · rw [take_none F h1 hr]
    exact ⟨F, W, rfl, .inl rfl, fun x k h => h, fun h => h⟩
theorem hd30 {a b c d e f : AV} {l : List AV} : (a :: b :: c :: d :: e :: f :: l).getD 0 .bot = a ∧ (a :: b :: c :: d :: e :: f :: l).getD 1 .bot = b ∧ (a :: b :: c :: d :: e :: f :: l).getD 2 .bot = c ∧ (a :: b :: c :: d :: e :: f :: l).getD 3 .bot = d ∧ (a :: b :: c :: d :: e :: f :: l).getD 4 .bot = e ∧ (a :: b :: c :: d :: e :: f :: l).getD 5 .bot = f := ⟨rfl, rfl, rfl, rfl, rfl, rfl⟩
/-- Places are taken: what holds behind so many. -/
structure Wt (g0 g : Heap) (C D : Nat → Nat) (qb bT : Option Nat) (ts : List Th) (Z0 : List Nat) (i : Nat) (v : AV) (at_ : List Int) (ba b : Option Nat) (cls : List Int) (L : List Tm) (l : PAl) : Prop where
  P : J g C D qb b bT none cls L l [] l [] sh7 (ba.toList ++ Z0)
  sl : SlB g ba 1 v (wsC at_) at_.length
  len : at_.length = i
  fi : Fi l
  ok : ∀ (k : Nat) x t, at_[k]? = some x → ts[k]? = some t → AtOk l.ar x (sizeT t.sh t.wd)
  ww : WfW L
  ll : L.length ≤ i
  k : KpX Z0 g0 g
  fr : ∀ j, ba = some j → g0.next ≤ j
  nm : ∀ x, l.ar.isM x = false
section
variable {g0 : Heap} {C D : Nat → Nat} {qb bT : Option Nat} {Z0 : List Nat} {ts : List Th} {x1 : AV}
theorem wtake_loop {b : Option Nat} {cls : List Int} {l : PAl} (h0 : Wt g0 g0 C D qb bT ts Z0 0 (.sl none 0 (.ex 0)) [] none b cls [] l) (hlo : 8 ≤ l.un.length) (hth : ∀ g, KpX Z0 g0 g → ThsRd g x1 ts) (hT : ts.length ≤ 30) :
    Ok (k_law7_world_L1 x1 (.ptr (some (C 4, 0))) (.ptr (some (D 2, 0))) (.ptr none) (.ptr none) (.ptr none) (.sl none 0 (.ex 0)) (.sl none 0 (.ex 0)) (.int .i64 0) g0) fun r => r.1 = .exit 2 ∧ ∃ v at_ ba b cls L l', r.2.1 = [.ptr none, .ptr none, .ptr none, .sl none 0 (.ex 0), v, .int .i64 ts.length] ∧ Wt g0 r.2.2 C D qb bT ts Z0 ts.length v at_ ba b cls L l' ∧ l'.ar.sp.length = l.ar.sp.length := by
  refine ok_loop (fun m vs g => ∃ (i : Nat) (v : AV) (at_ : List Int) (ba b : Option Nat) (cls : List Int) (L : List Tm) (l' : PAl), vs = [.ptr none, .ptr none, .ptr none, .sl none 0 (.ex 0), v, .int .i64 i] ∧ m + i = ts.length ∧ Wt g0 g C D qb bT ts Z0 i v at_ ba b cls L l' ∧ l'.ar.sp.length = l.ar.sp.length) ?_ (n := ts.length) (by omega) ⟨0, _, [], none, b, cls, [], l, rfl, by omega, h0, rfl⟩
  rintro m vs g ⟨i, v, at_, ba, b, cls, L, l', rfl, hm, W, hsl⟩
  obtain ⟨e0_, e1_, e2_, e3_, e4_, e5_⟩ := @hd30 (.ptr none) (.ptr none) (.ptr none) (.sl none 0 (.ex 0)) v (.int .i64 i) []
  rw [e0_, e1_, e2_, e3_, e4_, e5_]
  have th := hth g W.k
  by_cases hi : i < ts.length
  · have hlt : (i : Int) < ts.length := by omega
    obtain ⟨t, ht⟩ : ∃ t, ts[i]? = some t := ⟨_, List.getElem?_eq_getElem hi⟩
    obtain ⟨sv, bb, o, ix, la, sc, _⟩ := th.at ht
    have hr := sizeT_rng t.sh t.wd
    have wfP := W.P.pm.wf
    obtain ⟨t1, t2, t3, t4, t5, t6, t7⟩ := take7 W.fi wfP hr
    have fl := W.fi.len
    have fl2 := t2.len
    have hul : l'.un.length = l'.ar.sp.length := W.P.rk.len
    have h8 : l.un.length = l.ar.sp.length := h0.fi.len
    refine Ok.eq ?_ (by simp -implicitDefEqProofs only [k_law7_world_b1, th.lnL, Option.bind_some, bin_lss, hlt, decide_true, condE_true, ix, la] <;> rfl)
    refine ok_cl (size_ok t.sh t.wd sc g) ?_
    rintro _ g1 ⟨rfl, s1⟩
    simp only at s1
    have P1 := W.P.keep s1
    refine ok_cl (atake_ok P1.pm.al P1.pm.t0 (P1.pm.pos 8 rfl) (P1.pm.pos 5 rfl) (P1.pm.pos 7 rfl) (sizeT t.sh t.wd)) ?_
    rintro _ g2 ⟨rfl, A2, s2⟩
    simp only at A2 s2
    obtain ⟨H2, k2⟩ := P1.pm.turn s2 A2 t3
    obtain ⟨P2, kz2⟩ := P1.prog H2 k2
    have k02 : KpX (ba.toList ++ Z0) g g2 := (KpX.same s1).trans kz2
    have k02' : KpX Z0 g0 g2 := W.k.trans (k02.sub fun j hj => List.mem_append_right _ hj)
    obtain ⟨sv', bb', o', ix', la', sc', _⟩ := (hth g2 k02').at ht
    have ee := (ix .i64).symm.trans (ix' .i64)
    simp only [Option.some.injEq, AV.ptr.injEq, Prod.mk.injEq] at ee
    obtain ⟨rfl, rfl⟩ := ee
    refine Ok.eq ?_ (by simp -implicitDefEqProofs only [extractV_tup, e0, e1, Option.bind_some, la'] <;> rfl)
    refine ok_cl (size_ok t.sh t.wd sc' g2) ?_
    rintro _ g3 ⟨rfl, s3⟩
    simp only at s3
    have P3 := P2.keep s3
    have hll := W.ll
    refine ok_cl (ratake_ok P3.rk W.ww (W.fi.un 0) (by omega) (by omega) t1) ?_
    rintro _ g4 ⟨rfl, hgood, hu0, b4, cls4, L4, H4, k4, hL4, hw4⟩
    simp only at H4 k4
    obtain ⟨P4, kz4⟩ := P3.doc H4 k4
    have k04 : KpX (ba.toList ++ Z0) g g4 := (k02.trans (KpX.same s3)).trans kz4
    have hv4 := W.sl.same k04.frame (fun j hj => not_out (by simp [hj]))
    have hal := W.len
    -- behind it
    have fin : Ok (k_law7_world_j0 (.ptr none) (.ptr none) (.ptr none) (.sl none 0 (.ex 0)) v (.int .i64 (i : Int)) (.int .i64 (l'.take (sizeT t.sh t.wd)).1.1) g4) fun r => (r.1 = .normal ∧ ∃ m', m' < m ∧ ∃ (i : Nat) (v : AV) (at_ : List Int) (ba b : Option Nat) (cls : List Int) (L : List Tm) (l' : PAl), r.2.1 = [.ptr none, .ptr none, .ptr none, .sl none 0 (.ex 0), v, .int .i64 i] ∧ m' + i = ts.length ∧ Wt g0 r.2.2 C D qb bT ts Z0 i v at_ ba b cls L l' ∧ l'.ar.sp.length = l.ar.sp.length) ∨ (r.1 ≠ .normal ∧ (r.1 = .exit 2 ∧ ∃ v at_ ba b cls L l', r.2.1 = [.ptr none, .ptr none, .ptr none, .sl none 0 (.ex 0), v, .int .i64 ts.length] ∧ Wt g0 r.2.2 C D qb bT ts Z0 ts.length v at_ ba b cls L l' ∧ l'.ar.sp.length = l.ar.sp.length)) := by
      refine Ok.eq ?_ (by unfold k_law7_world_j0; rfl)
      refine app1 (t := .int .i64 (l'.take (sizeT t.sh t.wd)).1.1) hv4 rfl rfl rfl (by decide) (by omega) fun v' g5 hv5 s5 n5 => ?_
      have P5 : J g5 C D qb b4 bT none cls4 L4 (l'.take (sizeT t.sh t.wd)).2 [] (l'.take (sizeT t.sh t.wd)).2 [] sh7 ((g4.next + 1) :: Z0) := P4.frame s5 (fun j hj => by
          have hj' := Option.mem_toList.1 hj
          have := W.fr j hj'
          have := P4.zl P4.z0
          left
          exact ⟨List.mem_append_left _ hj, by have := h0.P.zl h0.P.z0; omega⟩) (fun j hj => by
          rw [List.mem_cons] at hj
          rcases hj with rfl | hj
          · exact ⟨.inr (Nat.le_succ _), by omega⟩
          · have hz : j ∈ ba.toList ++ Z0 := List.mem_append_right _ hj
            exact ⟨.inl hz, Nat.lt_of_lt_of_le (P4.zl hz) s5.next⟩) (by
          have := h0.P.z0
          simp at this ⊢
          exact this)
      have kz5 : KpX Z0 g4 g5 := KpX.of s5 fun j hj hz => by
        have hj' := Option.mem_toList.1 hj
        have h1 := W.fr j hj'
        have h2 := h0.P.zl (show j ∈ (none : Option Nat).toList ++ Z0 by simpa using hz)
        omega
      have ew : wsC (at_ ++ [(l'.take (sizeT t.sh t.wd)).1.1]) = wsC at_ ++ (AV.int .i64 (l'.take (sizeT t.sh t.wd)).1.1).cells := by rw [wsC_app]; rfl
      refine (Ok.of (r := (.normal, [.ptr none, .ptr none, .ptr none, .sl none 0 (.ex 0), v', .int .i64 ((i + 1 : Nat) : Int)], g5)) (.inl ⟨rfl, m - 1, by omega, i + 1, v', at_ ++ [(l'.take (sizeT t.sh t.wd)).1.1], some (g4.next + 1), b4, cls4, L4, (l'.take (sizeT t.sh t.wd)).2, rfl, by omega, ?_, by omega⟩)).eq (by
        simp -implicitDefEqProofs only [bin_add, Option.bind_some, suc64 i (by omega)])
      exact
      { P := P5
        sl := by rw [ew, List.length_append]; exact hv5
        len := by simp [hal]
        fi := t2
        ok := fun k x u hx hu => by
          by_cases hk : k < at_.length
          · rw [List.getElem?_append_left hk] at hx
            exact t6 _ _ (W.ok k x u hx hu)
          · have hkl := (List.getElem?_eq_some_iff.1 hx).1
            simp at hkl
            obtain rfl : k = i := by omega
            rw [List.getElem?_append_right (by omega)] at hx
            have : k - at_.length = 0 := by omega
            rw [this] at hx
            simp at hx
            rw [ht] at hu
            cases hu
            rw [← hx]; exact t5
        ww := hw4
        ll := by omega
        k := (W.k.trans (k04.sub fun j hj => List.mem_append_right _ hj)).trans kz5
        fr := fun j hj => by
          cases hj
          have := W.k.next; have := k04.next; omega
        nm := t7 W.nm }
    rcases hgood with ⟨h1, h2⟩ | ⟨h1, h2⟩
    · refine fin.eq ?_
      have z5 : decide ((5 : Int) = 0) = false := rfl
      simp -implicitDefEqProofs only [neq_int, decide_true, Bool.not_true, Option.bind_some, condE_false, h2, z5, Bool.not_false, condE_true, h1]
    · refine fin.eq ?_
      simp -implicitDefEqProofs only [neq_int, decide_true, Bool.not_true, Option.bind_some, condE_false, h2]
  · have hlt : ¬ (i : Int) < ts.length := by omega
    obtain rfl : i = ts.length := by omega
    exact (Ok.of (r := (.exit 2, [.ptr none, .ptr none, .ptr none, .sl none 0 (.ex 0), v, .int .i64 (ts.length : Int)], g)) (.inr ⟨by simp, rfl, v, at_, ba, b, cls, L, l', rfl, W, hsl⟩)).eq (by
      simp -implicitDefEqProofs only [k_law7_world_b1, th.lnL, Option.bind_some, bin_lss, hlt, decide_false, condE_false])
end
end Go.Ab.F

namespace Go.Ab.F
open Go Go.Ab
set_option linter.all false
set_option linter.all false
attribute [local congr] c_bind c_cl c_mk c_lp c_clC c_gQ c_gV c_condE c_thenK

/-! Heads and fields are written. -/
theorem atok_wf {a : PAr} (H : Wf a) {x n : Int} (h : AtOk a x n) : wf64 x := by
  rcases h with rfl | ⟨h, _⟩
  · unfold wf64; omega
  · obtain ⟨⟨m, q⟩, hf⟩ := Option.ne_none_iff_exists'.1 h
    obtain ⟨W, hl⟩ := lies_of H hf
    have := hl.pos H
    unfold wf64; omega
theorem atok_put {a : PAr} {cls : List Int} {L : List Tm} (R : Rel a cls L) {x n k : Int} (h : AtOk a x n) (h0 : x ≠ 0) (hk : k < n) : ∀ t ∈ L, t.ad = x → k < t.W.length := fun t ht e => by
  rcases h with h | ⟨_, h⟩
  · exact absurd h h0
  · have hl := (R.mem t ht).1
    rw [e] at hl
    rw [cls_lies R.wf hl] at h
    omega
theorem lst_ld {g : Heap} {ba : Option Nat} {v : AV} {at_ : List Int} (H : SlB g ba 1 v (wsC at_) at_.length) {i : Nat} {x : Int} (hx : at_[i]? = some x) : ∃ j, ba = some j ∧ (∀ k, iaS 1 v (.int k (i : Int)) = some (.ptr (some (j, i)))) ∧ ldS g (.ptr (some (j, i))) = some (.int .i64 x) := by
  have hi := (List.getElem?_eq_some_iff.1 hx).1
  obtain ⟨j, hj, hix⟩ := H.ix hi
  refine ⟨j, hj, fun k => by rw [hix k, Nat.mul_one], ?_⟩
  rw [ldS_at (H.blk j hj).2.1]
  simp [wsC, hx]
/-- What is written leaves all but the words. -/
structure Ww (g1 g : Heap) (C D : Nat → Nat) (qb b bT : Option Nat) (cls : List Int) (Z : List Nat) (l : PAl) (L : List Tm) (l' : PAl) : Prop where
  P : J g C D qb b bT none cls L l' [] l' [] sh7 Z
  ww : WfW L
  ll : L.length ≤ 1000
  sp : l'.ar.sp = l.ar.sp
  un : l'.un = l.un
  k : KpX Z g1 g
section
variable {g1 : Heap} {C D : Nat → Nat} {qb b bT : Option Nat} {cls : List Int} {Z : List Nat} {l : PAl} {ts : List Th} {x1 v : AV} {at_ : List Int} {ba : Option Nat}
theorem Ww.keep {g g' : Heap} {L : List Tm} {l' : PAl} (W : Ww g1 g C D qb b bT cls Z l L l') (s : Same [] g g') : Ww g1 g' C D qb b bT cls Z l L l' :=
  { W with P := W.P.keep s, k := W.k.trans (KpX.same s) }
theorem Ww.put {g : Heap} {L : List Tm} {l' : PAl} (W : Ww g1 g C D qb b bT cls Z l L l') {x n k y : Int} (hx : AtOk l.ar x n) (h0 : x ≠ 0) (hk : 0 ≤ k ∧ k < n) (hy : wf64 y) :
    Ok (k_law7_put (.ptr (some (C 6, 0))) (.ptr (some (D 0, 0))) (.int .i64 x) (.int .i64 k) (.int .i64 y) g) fun r => ∃ L' l2, Ww g1 r.2 C D qb b bT cls Z l L' l2 := by
  have hll := W.ll
  refine (put_ok W.P W.ww (by omega) hy ⟨hk.1, atok_put W.P.rk.rel (hx.sp W.sp) h0 hk.2⟩).mono ?_
  rintro ⟨_, g'⟩ ⟨L', P', k', hw, hl⟩
  exact ⟨L', _, { P := P', ww := hw, ll := by omega, sp := by rw [← W.sp]; exact write_sp _ _ _ _, un := W.un, k := W.k.trans k' }⟩
theorem wfield_loop {g : Heap} {L : List Tm} {l' : PAl} (W : Ww g1 g C D qb b bT cls Z l L l') (hth : ∀ g, KpX Z g1 g → ThsRd g x1 ts) (hat : ∀ g, KpX Z g1 g → SlB g ba 1 v (wsC at_) at_.length) (hok : ∀ (k : Nat) x t, at_[k]? = some x → ts[k]? = some t → AtOk l.ar x (sizeT t.sh t.wd)) (hlen : at_.length = ts.length)
    {vs0 : List AV} (hvs : vs0.getD 4 .bot = v) {i : Nat} {t : Th} {x : Int} (ht : ts[i]? = some t) (hx : at_[i]? = some x) (h0 : x ≠ 0) :
    Ok (k_law7_world_L2 x1 (.ptr (some (C 6, 0))) (.ptr (some (D 4, 0))) vs0 (.int .i64 (i : Int)) (.int .i64 0) g) fun r => r.1 = .exit 6 ∧ ∃ L' l2, Ww g1 r.2.2 C D qb b bT cls Z l L' l2 := by
  have hxo := hok i x t hx ht
  have hrg := sizeT_rng t.sh t.wd
  refine ok_loop (fun m vs g' => ∃ (f : Nat) (L' : List Tm) (l2 : PAl), vs = [.int .i64 f] ∧ (m + f = t.to.length ∨ (m = 0 ∧ t.to.length ≤ f)) ∧ f ≤ 64 ∧ Ww g1 g' C D qb b bT cls Z l L' l2) ?_ (n := t.to.length) (by
    obtain ⟨_, _, _, _, _, _, _, _, _, _, hm⟩ := (hth g W.k).at ht
    have : maxLen < 1267650600228229401496703205376 := by decide
    omega) ⟨0, L, l', rfl, .inl (by omega), by omega, W⟩
  rintro m vs g' ⟨f, L', l2, rfl, hm, hf64, W'⟩
  rw [gd0]
  obtain ⟨sv, bb, o, ix, la, sc, l0, l2v, rw_, hwf, hml⟩ := (hth g' W'.k).at ht
  have lns : lnL sv = some (.int .i64 t.to.length) := rw_.lnL
  have hex : Ok (some ((Ex.exit 6), [AV.int .i64 (f : Int)], g') : OutV) fun r => (r.1 = .normal ∧ ∃ m', m' < m ∧ ∃ (f : Nat) (L' : List Tm) (l2 : PAl), r.2.1 = [.int .i64 f] ∧ (m' + f = t.to.length ∨ (m' = 0 ∧ t.to.length ≤ f)) ∧ f ≤ 64 ∧ Ww g1 r.2.2 C D qb b bT cls Z l L' l2) ∨ (r.1 ≠ .normal ∧ (r.1 = .exit 6 ∧ ∃ L' l2, Ww g1 r.2.2 C D qb b bT cls Z l L' l2)) :=
    Ok.of (.inr ⟨by simp, rfl, L', l2, W'⟩)
  by_cases hi : f < t.to.length
  · have hlt : (f : Int) < t.to.length := by omega
    refine Ok.eq ?_ (by simp -implicitDefEqProofs only [k_law7_world_b2, ix, faP_ptr, Option.bind_some, l2v, lns, bin_lss, hlt, decide_true, gdW_tt, gQ_true, cl_some, la] <;> rfl)
    refine ok_cl (P := fun r => r.1 = .int .i64 (sizeT t.sh t.wd) ∧ Same [] g' r.2) ?_ ?_
    · refine ok_cl (size_ok t.sh t.wd sc g') ?_
      rintro _ g2 ⟨rfl, s2⟩
      exact ok_val rfl ⟨rfl, s2⟩
    rintro _ g2 ⟨rfl, s2⟩
    simp only at s2
    have W2 := W'.keep s2
    obtain ⟨sv', bb', o', ix', la', sc', l0', l2v', rw', hwf', hml'⟩ := (hth g2 W2.k).at ht
    have ee := (ix .i64).symm.trans (ix' .i64)
    simp only [Option.some.injEq, AV.ptr.injEq, Prod.mk.injEq] at ee
    obtain ⟨rfl, rfl⟩ := ee
    have lns' : lnL sv' = some (.int .i64 t.to.length) := rw'.lnL
    have hw1 : IntKind.i64.wrap (sizeT t.sh t.wd - 1) = sizeT t.sh t.wd - 1 := wrap_i64 (by omega) (by omega)
    by_cases hs : (f : Int) < sizeT t.sh t.wd - 1
    · obtain ⟨y, hy⟩ : ∃ y, t.to[f]? = some y := ⟨_, List.getElem?_eq_getElem hi⟩
      obtain ⟨by_, oy, _, iy, ly⟩ := rw'.at (i := f) (x := .int .i64 y) (by rw [List.getElem?_map, hy]; rfl)
      have hyw := hwf' y (List.mem_of_getElem? hy)
      have fin : ∀ z : Int, wf64 z → Ok (k_law7_world_j1 (.ptr (some (C 6, 0))) (.ptr (some (D 4, 0))) vs0 (.int .i64 (i : Int)) (.int .i64 (f : Int)) (.int .i64 z) g2) fun r => (r.1 = .normal ∧ ∃ m', m' < m ∧ ∃ (f : Nat) (L' : List Tm) (l2 : PAl), r.2.1 = [.int .i64 f] ∧ (m' + f = t.to.length ∨ (m' = 0 ∧ t.to.length ≤ f)) ∧ f ≤ 64 ∧ Ww g1 r.2.2 C D qb b bT cls Z l L' l2) ∨ (r.1 ≠ .normal ∧ (r.1 = .exit 6 ∧ ∃ L' l2, Ww g1 r.2.2 C D qb b bT cls Z l L' l2)) := fun z hz => by
        obtain ⟨vT, vq, hm4, _, _⟩ := W2.P.rk.mkb
        have l4 : ldS g2 (.ptr (some (D 4, 0))) = some (.ptr (some (D 0, 0))) := by rw [ldS_at hm4]; rfl
        obtain ⟨j, _, ixa, lda⟩ := lst_ld (hat g2 W2.k) hx
        have hw2 : IntKind.i64.wrap (1 + (f : Int)) = ((f + 1 : Nat) : Int) := by rw [wrap_i64 (by omega) (by omega)]; omega
        refine Ok.eq ?_ (by simp -implicitDefEqProofs only [k_law7_world_j1, nilV_ptr, faP_ptr, Option.bind_some, Nat.zero_add, l4, hvs, ixa, lda, bin_add, hw2] <;> rfl)
        refine ok_cl (W2.put hxo h0 (k := ((f + 1 : Nat) : Int)) (by omega) hz) ?_
        rintro _ g3 ⟨L3, l3, W3⟩
        simp only at W3
        exact (Ok.of (r := (.normal, [.int .i64 ((f + 1 : Nat) : Int)], g3)) (.inl ⟨rfl, m - 1, by omega, f + 1, L3, l3, rfl, by omega, by omega, W3⟩)).eq (by
          simp -implicitDefEqProofs only [chk_nil, bin_add, Option.bind_some, suc64 f (by omega)])
      by_cases hy0 : 0 ≤ y
      · by_cases hya : y < at_.length
        · obtain ⟨z, hz⟩ : ∃ z, at_[y.toNat]? = some z := ⟨_, List.getElem?_eq_getElem (by omega)⟩
          obtain ⟨tz, htz⟩ : ∃ tz, ts[y.toNat]? = some tz := ⟨_, List.getElem?_eq_getElem (by omega)⟩
          obtain ⟨j, _, ixz, ldz⟩ := lst_ld (hat g2 W2.k) hz
          have ey : ((y.toNat : Nat) : Int) = y := by omega
          rw [ey] at ixz
          have lnv := (hat g2 W2.k).lnL
          refine (fin z (atok_wf W2.P.pm.wf ((hok _ z tz hz htz).sp W2.sp))).eq (by
            simp -implicitDefEqProofs only [bin_sub, hw1, Option.bind_some, cl_some, bin_lss, hs, decide_true, pickP_bool, if_true, condE_true, faP_ptr, l2v', iy, ly, bin_geq, hy0, gdW_tt, gQ_true, ix, hvs, lnv, hya, ixz, ldz])
        · have lnv := (hat g2 W2.k).lnL
          refine (fin y hyw).eq (by
            simp -implicitDefEqProofs only [bin_sub, hw1, Option.bind_some, cl_some, bin_lss, hs, decide_true, pickP_bool, if_true, condE_true, faP_ptr, l2v', iy, ly, bin_geq, hy0, gdW_tt, gQ_true, ix, hvs, lnv, hya, decide_false, condE_false])
      · refine (fin y hyw).eq (by
          simp -implicitDefEqProofs only [bin_sub, hw1, Option.bind_some, cl_some, bin_lss, hs, decide_true, pickP_bool, if_true, condE_true, faP_ptr, l2v', iy, ly, bin_geq, hy0, decide_false, gdW_ft, gQ_false, Bool.false_eq_true, if_false, condE_false, ix])
    · refine (Ok.of (r := ((Ex.exit 6), [AV.int .i64 (f : Int)], g2)) (.inr ⟨by simp, rfl, L', l2, W2⟩)).eq (by
        simp -implicitDefEqProofs only [bin_sub, hw1, Option.bind_some, cl_some, bin_lss, hs, decide_false, pickP_bool, if_true, condE_false])
  · have hlt : ¬ (f : Int) < t.to.length := by omega
    exact hex.eq (by simp -implicitDefEqProofs only [k_law7_world_b2, ix, faP_ptr, Option.bind_some, l2v, lns, bin_lss, hlt, decide_false, gdW_ft, gQ_false, pickP_bool, Bool.false_eq_true, if_false, condE_false])
end
end Go.Ab.F

namespace Go.Ab.F
open Go Go.Ab
set_option linter.all false
set_option linter.all false
attribute [local congr] c_bind c_cl c_mk c_lp c_clC c_gQ c_gV c_condE c_thenK

/-! The world: things in both. -/
section
variable {g1 : Heap} {C D : Nat → Nat} {qb b bT : Option Nat} {cls : List Int} {Z : List Nat} {l : PAl} {ts : List Th} {x1 v : AV} {at_ : List Int} {ba : Option Nat}
theorem sh7_at {k : Int} (h : 0 ≤ k ∧ k < 6) : ∃ s, sh7[k.toNat]? = some s ∧ 0 ≤ s.kind ∧ s.kind ≤ 3 := by
  have : k = 0 ∨ k = 1 ∨ k = 2 ∨ k = 3 ∨ k = 4 ∨ k = 5 := by omega
  rcases this with rfl | rfl | rfl | rfl | rfl | rfl <;> exact ⟨_, rfl, by decide, by decide⟩
theorem whead_loop {g : Heap} {L : List Tm} {l' : PAl} {sx : Nat} (W : Ww g1 g C D qb b bT cls Z l L l') (hth : ∀ g, KpX Z g1 g → ThsRd g x1 ts) (hat : ∀ g, KpX Z g1 g → SlB g ba 1 v (wsC at_) at_.length) (hok : ∀ (k : Nat) x t, at_[k]? = some x → ts[k]? = some t → AtOk l.ar x (sizeT t.sh t.wd)) (hlen : at_.length = ts.length)
    (hT : ts.length ≤ 30) (hsx : ∀ g, KpX Z g1 g → g.get sx = some (.cells true (shC sh7)))
    {vs0 : List AV} (hvs : vs0.getD 4 .bot = v) :
    Ok (k_law7_world_L3 x1 (.ptr (some (C 6, 0))) (.ptr (some (D 4, 0))) (.sl (some (sx, 0)) 6 (.ex 6)) vs0 (.int .i64 0) g) fun r => r.1 = .exit 4 ∧ ∃ L' l2, Ww g1 r.2.2 C D qb b bT cls Z l L' l2 := by
  refine ok_loop (fun m vs g' => ∃ (i : Nat) (L' : List Tm) (l2 : PAl), vs = [.int .i64 i] ∧ m + i = ts.length ∧ Ww g1 g' C D qb b bT cls Z l L' l2) ?_ (n := ts.length) (by omega) ⟨0, L, l', rfl, by omega, W⟩
  rintro m vs g' ⟨i, L', l2, rfl, hm, W'⟩
  rw [gd0]
  have th := hth g' W'.k
  by_cases hi : i < ts.length
  · have hlt : (i : Int) < ts.length := by omega
    obtain ⟨t, ht⟩ : ∃ t, ts[i]? = some t := ⟨_, List.getElem?_eq_getElem hi⟩
    obtain ⟨x, hx⟩ : ∃ x, at_[i]? = some x := ⟨_, List.getElem?_eq_getElem (by omega)⟩
    obtain ⟨j, hj, ixa, lda⟩ := lst_ld (hat g' W'.k) hx
    obtain ⟨sv, bb, o, ix, la, sc, l0, _⟩ := th.at ht
    have sci := suc64 i (by omega)
    by_cases h0 : x = 0
    · exact (Ok.of (r := (.normal, [.int .i64 ((i + 1 : Nat) : Int)], g')) (.inl ⟨rfl, m - 1, by omega, i + 1, L', l2, rfl, by omega, W'⟩)).eq (by
        simp -implicitDefEqProofs only [k_law7_world_b3, th.lnL, Option.bind_some, bin_lss, hlt, decide_true, condE_true, hvs, ixa, lda, eql_int, h0, bin_add, sci])
    · have hrg := sizeT_rng t.sh t.wd
      have hk := shT_rng t.sh
      obtain ⟨s, hs, hk0, hk3⟩ := sh7_at hk
      refine Ok.eq ?_ (by simp -implicitDefEqProofs only [k_law7_world_b3, th.lnL, Option.bind_some, bin_lss, hlt, decide_true, condE_true, hvs, ixa, lda, eql_int, h0, decide_false, condE_false, ix, faP_ptr, l0, and7, rem6, la] <;> rfl)
      refine ok_cl (size_ok t.sh t.wd sc g') ?_
      rintro _ g2 ⟨rfl, s2⟩
      simp only at s2
      have W2 := W'.keep s2
      have ek : ((((shT t.sh).toNat : Nat)) : Int) = shT t.sh := by omega
      have ixs : iaS 3 (.sl (some (sx, 0)) 6 (.ex 6)) (.int .i64 (shT t.sh)) = some (.ptr (some (sx, (shT t.sh).toNat * 3))) := by
        rw [iaS_sl 3 (sx, 0) _ _ .i64 _ ⟨by omega, by omega⟩]; simp
      have lk : ∀ g, KpX Z g1 g → ldS g (.ptr (some (sx, (shT t.sh).toNat * 3))) = some (.int .i64 s.kind) := fun g k => by
        rw [ldS_at (hsx g k)]
        exact flt_cell (row := Shp.row) (k := 3) (j := 0) (fun _ => rfl) hs rfl
      have bl : bldS [(0, 1), (1, 1), (2, 1)] [(AV.int .i64 0), (AV.int .i64 0), (AV.int .i64 0)] [(0, .int .i64 (sizeT t.sh t.wd)), (1, .int .i64 s.kind), (2, .int .i64 (shT t.sh))] = some (.agg (hdC (sizeT t.sh t.wd) s.kind (shT t.sh))) := rfl
      refine Ok.eq ?_ (by simp -implicitDefEqProofs only [ixs, faP_ptr, Option.bind_some, Nat.add_zero, rdC, lk g2 W2.k, clC_some, bl] <;> rfl)
      refine ok_cl (pack_ok _ _ _ g2 (show mayP (sizeT t.sh t.wd) s.kind (shT t.sh) from ⟨hrg.1, hrg.2, hk0, hk3, hk.1, by omega⟩)) ?_
      rintro _ g3 ⟨rfl, s3⟩
      simp only at s3
      have W3 := W2.keep s3
      obtain ⟨vT, vq, hm4, _, _⟩ := W3.P.rk.mkb
      have l4 : ldS g3 (.ptr (some (D 4, 0))) = some (.ptr (some (D 0, 0))) := by rw [ldS_at hm4]; rfl
      obtain ⟨j', hj', ixa', lda'⟩ := lst_ld (hat g3 W3.k) hx
      rw [hj] at hj'
      cases hj'
      have ck : ∀ (x : OutV), chk [g', g2, g3] [((fun g => ldS g (.ptr (some (sx, (shT t.sh).toNat * 3)))), .int .i64 s.kind, 0, 1)] x = x := fun x => chk_two (same_int _ _) (lk g' W'.k) (lk g2 W2.k)
      refine Ok.eq ?_ (by simp -implicitDefEqProofs only [extractV_tup, e0, e1, Option.bind_some, ck, nilV_ptr, faP_ptr, Nat.zero_add, l4, hvs, ixa', lda'] <;> rfl)
      refine ok_cl (W3.put (hok i x t hx ht) h0 (k := 0) (by omega) (y := sizeT t.sh t.wd + 128 * s.kind + 1024 * shT t.sh) (by unfold wf64; omega)) ?_
      rintro _ g4 ⟨L4, l4', W4⟩
      simp only at W4
      refine Ok.eq ?_ (by simp -implicitDefEqProofs only [chk_nil] <;> rfl)
      refine ok_lp (wfield_loop W4 hth hat hok hlen hvs ht hx h0) ?_
      rintro _ vs5 g5 ⟨rfl, L5, l5, W5⟩
      exact (Ok.of (r := (.normal, [.int .i64 ((i + 1 : Nat) : Int)], g5)) (.inl ⟨rfl, m - 1, by omega, i + 1, L5, l5, rfl, by omega, W5⟩)).eq (by
        simp -implicitDefEqProofs only [if_true, reduceCtorEq, if_false, thenK_normal, bin_add, Option.bind_some, sci])
  · have hlt : ¬ (i : Int) < ts.length := by omega
    exact (Ok.of (r := (.exit 4, [.int .i64 (i : Int)], g')) (.inr ⟨by simp, rfl, L', l2, W'⟩)).eq (by
      simp -implicitDefEqProofs only [k_law7_world_b3, th.lnL, Option.bind_some, bin_lss, hlt, decide_false, condE_false])
end
/-- Block numbers of the program's side. -/
def mkC (tb nm q u p w s bt mk qd : Nat) (i : Nat) : Nat := if i = 2 then tb else if i = 3 then nm else if i = 4 then q else if i = 5 then u else if i = 6 then p else if i = 7 then w else if i = 8 then s else if i = 9 then bt else if i = 11 then mk else qd
def mkD (rp rc ra rs rm : Nat) (i : Nat) : Nat := if i = 0 then rp else if i = 1 then rc else if i = 2 then ra else if i = 3 then rs else rm
theorem rep_false' (n : Nat) : rep [AV.bool false] n = unC (List.replicate n false) := rep_false n
/-- What a world is. -/
structure World (h g : Heap) (N : Nat) (ts : List Th) (C D : Nat → Nat) (v : AV) (at_ : List Int) (qb b bT ba : Option Nat) (cls : List Int) (L : List Tm) (l : PAl) : Prop where
  P : J g C D qb b bT none cls L l [] l [] sh7 (ba.toList ++ Zr h)
  sl : SlB g ba 1 v (wsC at_) at_.length
  len : at_.length = ts.length
  ok : ∀ (k : Nat) x t, at_[k]? = some x → ts[k]? = some t → AtOk l.ar x (sizeT t.sh t.wd)
  ww : WfW L
  ll : L.length ≤ 1000
  sp : l.ar.sp.length = N
  k : KpX (Zr h) h g
  fr : ∀ j, ba = some j → h.next ≤ j
  cl : ∀ n, l.ar.isM n = false
end Go.Ab.F

namespace Go.Ab.F
open Go Go.Ab
set_option linter.all false
set_option linter.all false
attribute [local congr] c_bind c_cl c_mk c_lp c_clC c_gQ c_gV c_condE c_thenK

theorem Ww.of {h g : Heap} {N : Nat} {ts : List Th} {C D : Nat → Nat} {v : AV} {at_ : List Int} {qb b bT ba : Option Nat} {cls : List Int} {L : List Tm} {l l2 : PAl} {g1 : Heap} {Z0 : List Nat} {i : Nat} (T : Wt g1 g C D qb bT ts Z0 i v at_ ba b cls L l) (hL : L.length ≤ 1000) : Ww g g C D qb b bT cls (ba.toList ++ Z0) l L l :=
  { P := T.P, ww := T.ww, ll := hL, sp := rfl, un := rfl, k := KpX.refl _ _ }
theorem mkC_all {n a bt : Nat} (ha : n + 8 ≤ a) (hb : a + 6 ≤ bt) {C : Nat → Nat} (hC : C = mkC (n + 4) (n + 3) (a + 2) (a + 1) (n + 2) n (n + 1) bt (n + 6) (n + 5)) :
    (∀ i j, ix i = true → ix j = true → C i = C j → i = j) ∧ ∀ i, ix i = true → n ≤ C i ∧ C i ≤ bt ∧ C i ≠ a + 5 ∧ (C i = bt ∨ C i = n + 4 ∨ C i = n + 3 ∨ C i = a + 5 ∨ C i = n ∨ C i = n + 1 ∨ C i = n + 2 ∨ C i = n + 5 ∨ C i = n + 6 ∨ C i = a + 1 ∨ C i = a + 2 ∨ C i < n) := by
  have c2 : C 2 = n + 4 := by rw [hC]; rfl
  have c3 : C 3 = n + 3 := by rw [hC]; rfl
  have c4 : C 4 = a + 2 := by rw [hC]; rfl
  have c5 : C 5 = a + 1 := by rw [hC]; rfl
  have c6 : C 6 = n + 2 := by rw [hC]; rfl
  have c7 : C 7 = n := by rw [hC]; rfl
  have c8 : C 8 = n + 1 := by rw [hC]; rfl
  have c9 : C 9 = bt := by rw [hC]; rfl
  have c11 : C 11 = n + 6 := by rw [hC]; rfl
  have c12 : C 12 = n + 5 := by rw [hC]; rfl
  clear hC
  refine ⟨fun i j hi hj e => ?_, fun i hi => ?_⟩
  · rcases ix_cases hi with rfl | rfl | rfl | rfl | rfl | rfl | rfl | rfl | rfl | rfl <;> rcases ix_cases hj with rfl | rfl | rfl | rfl | rfl | rfl | rfl | rfl | rfl | rfl <;> omega
  · rcases ix_cases hi with rfl | rfl | rfl | rfl | rfl | rfl | rfl | rfl | rfl | rfl <;> omega
def Wl (h : Heap) (n a : Nat) : List Nat := (a + 5) :: n :: (n + 1) :: (n + 2) :: (n + 5) :: (n + 6) :: (a + 1) :: (a + 2) :: Zr h
theorem rk_made {h g9 : Heap} {N n a rc : Nat} {D : Nat → Nat} (hn1 : 1 ≤ n) (h2 : N ≤ 512) (h8 : n + 8 ≤ a) (hrc : n + 7 < rc) (hrca : rc < a) (n9 : g9.next = a + 6) (d0 : D 0 = n + 7) (d1 : D 1 = rc) (d2 : D 2 = a + 4) (d3 : D 3 = a + 3) (d4 : D 4 = a)
    (r7 : g9.get (n + 7) = some (.cells true [.sl (some (rc, 0)) N (.un 1), .sl none 0 (.ex 0)])) (rrc : g9.get rc = some (.cells true (wsC (List.replicate N (-1))))) (ra4 : g9.get (a + 4) = some (.cells true [.ptr (some (n + 7, 0)), .sl (some (a + 3, 0)) N (.ex N)])) (ra3 : g9.get (a + 3) = some (.cells true (unC (List.replicate N false))))
    (ra0 : g9.get a = some (.cells true [.ptr (some (n + 7, 0)), .sl none 0 (.ex 0), .sl none 0 (.ex 0)])) (memWl : ∀ j, j ∈ Wl h n a ↔ j = a + 5 ∨ j = n ∨ j = n + 1 ∨ j = n + 2 ∨ j = n + 5 ∨ j = n + 6 ∨ j = a + 1 ∨ j = a + 2 ∨ j < n) :
    Rk g9 D none none none (List.replicate N (-1)) [] ⟨newA N, List.replicate N false⟩ [] [] ((n + 4) :: (n + 3) :: Wl h n a) :=
    { ar :=
      { rpb := ⟨.sl none 0 (.ex 0), by
          rw [List.length_replicate, d0, d1]
          exact r7, SlB.mt⟩
        rcb := by rw [d1]; exact rrc
        wb := fun t ht => by simp at ht
        wd := List.nodup_nil
        lp := by omega
        lc := by omega
        pc := by omega
        xp := by rw [xR_mem]; simp only [List.mem_cons, memWl, reduceCtorEq, false_or]; omega
        xc := by rw [xR_mem]; simp only [List.mem_cons, memWl, reduceCtorEq, false_or]; omega
        xb := fun i hi => by cases hi
        zp := by omega
        zc := by omega
        xl := fun j hj => by rw [xR_mem] at hj; simp only [List.mem_cons, memWl, reduceCtorEq, false_or] at hj; omega
        len := by simp }
      alb := by rw [d2, d0, d3, List.length_replicate]; exact ra4
      stb := by rw [d3]; exact ra3
      mkb := ⟨.sl none 0 (.ex 0), .sl none 0 (.ex 0), by rw [d4, d0]; exact ra0, SlB.mt, QuV.mt⟩
      rel := rel_new N h2
      len := by simp [newA]
      n23 := by omega
      n24 := by omega
      n34 := by omega
      dT := fun i hi => by cases hi
      dq := fun i hi => by cases hi
      dX := fun j hj => by
        unfold exR at hj
        simp only [reduceCtorEq, or_false] at hj
        simp only [List.mem_cons, memWl]
        omega
      x0 := by simp only [List.mem_cons, memWl]; omega
      gd := by simp
      tl := by simp }
theorem pj_made {h g10 : Heap} {N n a bt : Nat} {D : Nat → Nat} {bT : Option Nat} (hn1 : 1 ≤ n) (hn : h.next = n) (h2 : N ≤ 512) (h8 : n + 8 ≤ a) (hbt1 : a + 6 ≤ bt) (hbt2 : bt < g10.next)
    (r6 : g10.get (n + 6) = some (.cells true [.ptr (some (n + 2, 0)), .ptr (some (n + 4, 0)), .ptr (some (n + 5, 0))])) (r5 : g10.get (n + 5) = some (.cells true [.sl none 0 (.ex 0)])) (rA : AlAt g10 (a + 2) (a + 1) (n + 2) n (n + 1) ⟨newA N, List.replicate N false⟩) (rt : Tab0 g10)
    (tA : TbAt g10 (n + 4) (n + 3) (some bt) sh7) (rk : Rk g10 D none bT none (List.replicate N (-1)) [] ⟨newA N, List.replicate N false⟩ sh7 [] (bt :: (n + 4) :: (n + 3) :: Wl h n a)) (memW : ∀ j, j ∈ Wl h n a ↔ j = a + 5 ∨ j = n ∨ j = n + 1 ∨ j = n + 2 ∨ j = n + 5 ∨ j = n + 6 ∨ j = a + 1 ∨ j = a + 2 ∨ j < n) :
    ∃ C : Nat → Nat, C 4 = a + 2 ∧ C 6 = n + 2 ∧ C 11 = n + 6 ∧ J g10 C D none none bT none (List.replicate N (-1)) [] ⟨newA N, List.replicate N false⟩ [] ⟨newA N, List.replicate N false⟩ [] sh7 ((none : Option Nat).toList ++ (a + 5) :: Zr h) := by
  obtain ⟨C, hC⟩ : ∃ C, C = mkC (n + 4) (n + 3) (a + 2) (a + 1) (n + 2) n (n + 1) bt (n + 6) (n + 5) := ⟨_, rfl⟩
  have c2 : C 2 = n + 4 := by rw [hC]; rfl
  have c3 : C 3 = n + 3 := by rw [hC]; rfl
  have c4 : C 4 = a + 2 := by rw [hC]; rfl
  have c5 : C 5 = a + 1 := by rw [hC]; rfl
  have c6 : C 6 = n + 2 := by rw [hC]; rfl
  have c7 : C 7 = n := by rw [hC]; rfl
  have c8 : C 8 = n + 1 := by rw [hC]; rfl
  have c9 : C 9 = bt := by rw [hC]; rfl
  have c11 : C 11 = n + 6 := by rw [hC]; rfl
  have c12 : C 12 = n + 5 := by rw [hC]; rfl
  obtain ⟨hinj, hrg⟩ := mkC_all (n := n) (a := a) (bt := bt) (by omega) (by omega) hC
  clear hC
  have memX : ∀ j, j ∈ bt :: (n + 4) :: (n + 3) :: Wl h n a ↔ j = bt ∨ j = n + 4 ∨ j = n + 3 ∨ j = a + 5 ∨ j = n ∨ j = n + 1 ∨ j = n + 2 ∨ j = n + 5 ∨ j = n + 6 ∨ j = a + 1 ∨ j = a + 2 ∨ j < n := fun j => by
    simp only [List.mem_cons, memW]
  have hCX : ∀ i, ix i = true → C i ∈ bt :: (n + 4) :: (n + 3) :: Wl h n a := fun i hi => by
    rw [memX]
    exact (hrg i hi).2.2.2
  have memZ : ∀ j, j ∈ (a + 5) :: Zr h ↔ j = a + 5 ∨ j < n := fun j => by simp only [List.mem_cons, Zr, List.mem_range, hn]
  refine ⟨C, c4, c6, c11, ?_⟩
  exact
    { pm :=
      { mkb := by rw [c11, c6, c2, c12]; exact r6
        gqb := ⟨.sl none 0 (.ex 0), by rw [c12]; exact r5, QuV.mt⟩
        tab := by rw [c2, c3, c9]; exact tA
        al := by
          rw [c4, c5, c6, c7, c8]
          exact rA
        wf := (rel_new N h2).wf
        lt := fun i hi => Nat.lt_of_le_of_lt (hrg i hi).2.1 hbt2
        pos := fun i hi e => by have := (hrg i hi).1; omega
        inj := hinj
        t0 := rt
        xC := fun i hi hm => by
          rw [List.mem_append] at hm
          rcases hm with hm | hm
          · exact (rk.own hm).1 (hCX i hi)
          · have hm : C i ∈ (a + 5) :: Zr h := hm
            rw [memZ] at hm
            obtain ⟨h1, _, h3, _⟩ := hrg i hi
            omega
        xq := fun i hi => by cases hi
        x0 := List.mem_append_right _ (by show 0 ∈ (a + 5) :: Zr h; rw [memZ]; omega)
        xl := fun j hj => by
          rw [List.mem_append] at hj
          rcases hj with hj | hj
          · exact (rk.own hj).2.2
          · have hj : j ∈ (a + 5) :: Zr h := hj
            rw [memZ] at hj; omega }
      rk := rk.subX (fun j hj => by
        rw [List.mem_append] at hj
        rcases hj with hj | hj
        · rcases ownP_mem.1 hj with ⟨i, hi, rfl⟩ | hq
          · exact hCX i hi
          · cases hq
        · have hj : j ∈ (a + 5) :: Zr h := hj
          rw [memZ] at hj
          rw [memX]; omega) (List.mem_append_right _ (by show 0 ∈ (a + 5) :: Zr h; rw [memZ]; omega))
      z0 := by show 0 ∈ (a + 5) :: Zr h; rw [memZ]; omega }
set_option maxHeartbeats 2000000 in
theorem world_ok {h : Heap} (ht : Tab0 h) {N : Nat} (h1 : 8 ≤ N) (h2 : N ≤ 512) {x1 : AV} {ts : List Th} (hth : ThsRd h x1 ts) (hT : ts.length ≤ 30) :
    Ok (k_law7_world (.int .i64 N) x1 h) fun r => ∃ C D v at_ qb b bT ba cls L l, r.1 = .tup [.ptr (some (C 11, 0)), .ptr (some (D 4, 0)), .ptr (some (C 6, 0)), v] ∧ World h r.2 N ts C D v at_ qb b bT ba cls L l := by
  have hn1 := ht.pos
  generalize hn : h.next = n at hn1
  have nw := new_ok (h := h) N h1 h2
  rw [hn] at nw
  refine Ok.eq ?_ (by unfold k_law7_world; rfl)
  refine ok_cl nw ?_
  rintro _ g1 ⟨rfl, H1, s1, n1⟩
  simp only at H1 s1 n1
  have hl : (newA N).sp.length = N := by show (List.replicate N _).length = N; rw [List.length_replicate]
  -- the table
  have b1 : bldS [(0, 1), (1, 1)] [AV.sl none 0 (.ex 0), AV.mp none] [(1, .mp (some (n + 3)))] = some (.agg [.sl none 0 (.ex 0), .mp (some (n + 3))]) := rfl
  have y1 : bxP (.agg [.sl none 0 (.ex 0), .mp (some (n + 3))]) = some (.cells true [.sl none 0 (.ex 0), .mp (some (n + 3))], fun i => .ptr (some (i, 0))) := rfl
  have nn : (g1.new (.mp [])).next = n + 4 := by rw [Heap.next_new, n1]
  have hd : k_head_New g1 = some (.ptr (some (n + 4, 0)), (g1.new (.mp [])).new (.cells true [.sl none 0 (.ex 0), .mp (some (n + 3))])) := by
    simp -implicitDefEqProofs only [k_head_New, mk_some, n1, b1, y1, Option.bind_some, nn]
  refine Ok.eq ?_ (by simp -implicitDefEqProofs only [extractV_tup, e0, e1, Option.bind_some, neq_int, decide_true, Bool.not_true, gdW_ff, gQ_true, cl_some, eql_ptr_nil, pickP_bool, Bool.false_eq_true, if_false, condE_false, hd] <;> rfl)
  have s2 : Same [] g1 ((g1.new (.mp [])).new (.cells true [.sl none 0 (.ex 0), .mp (some (n + 3))])) := (Same.new _ _).trans (Same.new _ _)
  have n2 : ((g1.new (.mp [])).new (.cells true [.sl none 0 (.ex 0), .mp (some (n + 3))])).next = n + 5 := by rw [Heap.next_new, nn]
  have p3 : ((g1.new (.mp [])).new (.cells true [.sl none 0 (.ex 0), .mp (some (n + 3))])).get (n + 3) = some (.mp []) := by
    rw [get_new_ne (by omega), ← n1]; exact get_new_eq
  have p4 : ((g1.new (.mp [])).new (.cells true [.sl none 0 (.ex 0), .mp (some (n + 3))])).get (n + 4) = some (.cells true [.sl none 0 (.ex 0), .mp (some (n + 3))]) := by
    rw [← nn]; exact get_new_eq
  generalize (g1.new (.mp [])).new (.cells true [.sl none 0 (.ex 0), .mp (some (n + 3))]) = g2 at *
  -- the marker
  have bq : bldS [(0, 1)] [AV.sl none 0 (.ex 0)] [] = some (.agg [.sl none 0 (.ex 0)]) := rfl
  have yq : bxP (.agg [.sl none 0 (.ex 0)]) = some (.cells true [.sl none 0 (.ex 0)], fun i => .ptr (some (i, 0))) := rfl
  have bm : bldS [(0, 1), (1, 1), (2, 1)] [AV.ptr none, AV.ptr none, AV.ptr none] [(0, .ptr (some (n + 2, 0))), (1, .ptr (some (n + 4, 0))), (2, .ptr (some (n + 5, 0)))] = some (.agg [.ptr (some (n + 2, 0)), .ptr (some (n + 4, 0)), .ptr (some (n + 5, 0))]) := rfl
  have ym : bxP (.agg [.ptr (some (n + 2, 0)), .ptr (some (n + 4, 0)), .ptr (some (n + 5, 0))]) = some (.cells true [.ptr (some (n + 2, 0)), .ptr (some (n + 4, 0)), .ptr (some (n + 5, 0))], fun i => .ptr (some (i, 0))) := rfl
  have n4 : (g2.new (.cells true [.sl none 0 (.ex 0)])).next = n + 6 := by rw [Heap.next_new, n2]
  have n3 : ((g2.new (.cells true [.sl none 0 (.ex 0)])).new (.cells true [.ptr (some (n + 2, 0)), .ptr (some (n + 4, 0)), .ptr (some (n + 5, 0))])).next = n + 7 := by rw [Heap.next_new, n4]
  have hm : k_mark_New (.ptr (some (n + 2, 0))) (.ptr (some (n + 4, 0))) g2 = some (.ptr (some (n + 6, 0)), (g2.new (.cells true [.sl none 0 (.ex 0)])).new (.cells true [.ptr (some (n + 2, 0)), .ptr (some (n + 4, 0)), .ptr (some (n + 5, 0))])) := by
    simp -implicitDefEqProofs only [k_mark_New, k_grey_New, bq, yq, mk_some, n2, Option.bind_some, cl_some, bm, ym, n4]
  refine Ok.eq ?_ (by simp -implicitDefEqProofs only [hm, cl_some] <;> rfl)
  have s3 : Same [] g2 ((g2.new (.cells true [.sl none 0 (.ex 0)])).new (.cells true [.ptr (some (n + 2, 0)), .ptr (some (n + 4, 0)), .ptr (some (n + 5, 0))])) := (Same.new _ _).trans (Same.new _ _)
  have p5 : ((g2.new (.cells true [.sl none 0 (.ex 0)])).new (.cells true [.ptr (some (n + 2, 0)), .ptr (some (n + 4, 0)), .ptr (some (n + 5, 0))])).get (n + 5) = some (.cells true [.sl none 0 (.ex 0)]) := by
    rw [get_new_ne (by omega), ← n2]; exact get_new_eq
  have p6 : ((g2.new (.cells true [.sl none 0 (.ex 0)])).new (.cells true [.ptr (some (n + 2, 0)), .ptr (some (n + 4, 0)), .ptr (some (n + 5, 0))])).get (n + 6) = some (.cells true [.ptr (some (n + 2, 0)), .ptr (some (n + 4, 0)), .ptr (some (n + 5, 0))]) := by
    rw [← n4]; exact get_new_eq
  generalize (g2.new (.cells true [.sl none 0 (.ex 0)])).new (.cells true [.ptr (some (n + 2, 0)), .ptr (some (n + 4, 0)), .ptr (some (n + 5, 0))]) = g3 at *
  -- the document's arena
  have rn := rnew_ok (h := g3) N (by omega)
  rw [n3] at rn
  refine ok_cl rn ?_
  rintro _ g4 ⟨rfl, s4, n4', bb, vv, hg7, hv, hbb⟩
  simp only at s4 n4' hg7 hv
  obtain ⟨rc, rfl⟩ : ∃ rc, bb = some rc := by
    cases bb with
    | none => have := hv.nil rfl; omega
    | some rc => exact ⟨rc, rfl⟩
  have ev : vv = .sl (some (rc, 0)) N (.un 1) := hv.eq
  subst ev
  obtain ⟨q1, q2, _⟩ := hv.blk rc rfl
  have q3 := hbb rc rfl
  generalize ha : g4.next = a at *
  have b4 : bldS [(0, 1), (1, 1), (2, 1)] [(AV.ptr none), (AV.sl none 0 (.ex 0)), (AV.sl none 0 (.ex 0))] [(0, .ptr (some (n + 7, 0)))] = some (.agg [.ptr (some (n + 7, 0)), .sl none 0 (.ex 0), .sl none 0 (.ex 0)]) := rfl
  have y4 : bxP (.agg [.ptr (some (n + 7, 0)), .sl none 0 (.ex 0), .sl none 0 (.ex 0)]) = some (.cells true [.ptr (some (n + 7, 0)), .sl none 0 (.ex 0), .sl none 0 (.ex 0)], fun i => .ptr (some (i, 0))) := rfl
  refine Ok.eq ?_ (by simp -implicitDefEqProofs only [b4, Option.bind_some, y4, mk_some, ha] <;> rfl)
  have s5 : Same [] g4 (g4.new (.cells true [.ptr (some (n + 7, 0)), .sl none 0 (.ex 0), .sl none 0 (.ex 0)])) := Same.new _ _
  have p7 : (g4.new (.cells true [.ptr (some (n + 7, 0)), .sl none 0 (.ex 0), .sl none 0 (.ex 0)])).get a = some (.cells true [.ptr (some (n + 7, 0)), .sl none 0 (.ex 0), .sl none 0 (.ex 0)]) := by rw [← ha]; exact get_new_eq
  have n5 : (g4.new (.cells true [.ptr (some (n + 7, 0)), .sl none 0 (.ex 0), .sl none 0 (.ex 0)])).next = a + 1 := by rw [Heap.next_new, ha]
  generalize g4.new (.cells true [.ptr (some (n + 7, 0)), .sl none 0 (.ex 0), .sl none 0 (.ex 0)]) = g5 at *
  have s15 := ((s2.trans s3).trans s4).trans s5
  have an := anew_ok (H1.same s15 (by simp) (by simp) (by simp))
  rw [n5, hl] at an
  refine ok_cl an ?_
  rintro _ g6 ⟨rfl, A6, s6, n6⟩
  simp only at A6 s6 n6
  have l6 : ldS g6 (.ptr (some (a, 0))) = some (.ptr (some (n + 7, 0))) := by rw [ldS_at ((s6.get _ (by omega) (by simp)).trans p7)]; rfl
  have s46 := s5.trans s6
  have hg76 := (s46.get _ (by omega) (by simp)).trans hg7
  have l7 : ldS g6 (.ptr (some (n + 7, 0))) = some (.sl (some (rc, 0)) N (.un 1)) := by rw [ldS_at hg76]; rfl
  have lnN : lnL (.sl (some (rc, 0)) N (.un 1)) = some (.int .i64 N) := by simp
  have m := msP_ok 1 1 [AV.bool false] N (by omega) (by decide) rfl
  rw [rep_false] at m
  have hb8 : bldS [(0, 1), (1, 1)] [AV.ptr none, AV.sl none 0 (.ex 0)] [(0, .ptr (some (n + 7, 0))), (1, .sl (some (a + 3, 0)) N (.ex N))] = some (.agg [.ptr (some (n + 7, 0)), .sl (some (a + 3, 0)) N (.ex N)]) := rfl
  have hx8 : bxP (.agg [.ptr (some (n + 7, 0)), .sl (some (a + 3, 0)) N (.ex N)]) = some (.cells true [.ptr (some (n + 7, 0)), .sl (some (a + 3, 0)) N (.ex N)], fun i => .ptr (some (i, 0))) := rfl
  have n6' : g6.next = a + 3 := by omega
  have n7 : (g6.new (.cells true (unC (List.replicate N false)))).next = a + 4 := by rw [Heap.next_new, n6']
  have hna : k_ref4_NewAlloc (.ptr (some (n + 7, 0))) g6 = some (.ptr (some (a + 4, 0)), (g6.new (.cells true (unC (List.replicate N false)))).new (.cells true [.ptr (some (n + 7, 0)), .sl (some (a + 3, 0)) N (.ex N)])) := by
    simp -implicitDefEqProofs only [k_ref4_NewAlloc, nilV_ptr, Option.bind_some, faP_ptr, Nat.zero_add, l7, lnN, m, mk_some, n6', hb8, hx8, n7]
  refine Ok.eq ?_ (by simp -implicitDefEqProofs only [nilV_ptr, Option.bind_some, faP_ptr, Nat.zero_add, l6, hna, cl_some, shapes7] <;> rfl)
  have s7 : Same [] g6 ((g6.new (.cells true (unC (List.replicate N false)))).new (.cells true [.ptr (some (n + 7, 0)), .sl (some (a + 3, 0)) N (.ex N)])) := (Same.new _ _).trans (Same.new _ _)
  have n8 : ((g6.new (.cells true (unC (List.replicate N false)))).new (.cells true [.ptr (some (n + 7, 0)), .sl (some (a + 3, 0)) N (.ex N)])).next = a + 5 := by rw [Heap.next_new, n7]
  have p8 : ((g6.new (.cells true (unC (List.replicate N false)))).new (.cells true [.ptr (some (n + 7, 0)), .sl (some (a + 3, 0)) N (.ex N)])).get (a + 3) = some (.cells true (unC (List.replicate N false))) := by
    rw [get_new_ne (by omega), ← n6']; exact get_new_eq
  have p9 : ((g6.new (.cells true (unC (List.replicate N false)))).new (.cells true [.ptr (some (n + 7, 0)), .sl (some (a + 3, 0)) N (.ex N)])).get (a + 4) = some (.cells true [.ptr (some (n + 7, 0)), .sl (some (a + 3, 0)) N (.ex N)]) := by
    rw [← n7]; exact get_new_eq
  generalize (g6.new (.cells true (unC (List.replicate N false)))).new (.cells true [.ptr (some (n + 7, 0)), .sl (some (a + 3, 0)) N (.ex N)]) = g8 at *
  rw [n8]
  have s8 : Same [] g8 (g8.new (.cells true (shC sh7))) := Same.new _ _
  have p10 : (g8.new (.cells true (shC sh7))).get (a + 5) = some (.cells true (shC sh7)) := by rw [← n8]; exact get_new_eq
  have n9 : (g8.new (.cells true (shC sh7))).next = a + 6 := by rw [Heap.next_new, n8]
  generalize g8.new (.cells true (shC sh7)) = g9 at *
  have s68 := s7.trans s8
  have s48 := s46.trans s68
  have s38 := s4.trans s48
  have s28 := s3.trans s38
  have s18 := s2.trans s28
  have s08 := s1.trans s18
  obtain ⟨D, hD⟩ : ∃ D, D = mkD (n + 7) rc (a + 4) (a + 3) a := ⟨_, rfl⟩
  have d0 : D 0 = n + 7 := by rw [hD]; rfl
  have d1 : D 1 = rc := by rw [hD]; rfl
  have d2 : D 2 = a + 4 := by rw [hD]; rfl
  have d3 : D 3 = a + 3 := by rw [hD]; rfl
  have d4 : D 4 = a := by rw [hD]; rfl
  clear hD
  generalize hW : Wl h n a = W
  have memW : ∀ j, j ∈ W ↔ j = a + 5 ∨ j = n ∨ j = n + 1 ∨ j = n + 2 ∨ j = n + 5 ∨ j = n + 6 ∨ j = a + 1 ∨ j = a + 2 ∨ j < n := fun j => by
    rw [← hW]; simp only [Wl, List.mem_cons, Zr, List.mem_range, hn]
  have tA : TbAt g9 (n + 4) (n + 3) none [] := by
    have r3 := (s28.get (n + 3) (by omega) (by simp)).trans p3
    have r4 := (s28.get (n + 4) (by omega) (by simp)).trans p4
    exact ⟨⟨_, r4, SlB.mt⟩, r3, by omega, by omega, by omega, by simp, by simp, by simp, by simp, by simp⟩
  have rk := rk_made (h := h) (g9 := g9) (N := N) (n := n) (a := a) (rc := rc) (D := D) hn1 h2 (by omega) q3 q1 n9 d0 d1 d2 d3 d4 ((s48.get _ (by omega) (by simp)).trans hg7) ((s48.get _ (by omega) (by simp)).trans q2) ((s8.get _ (by omega) (by simp)).trans p9) ((s8.get _ (by omega) (by simp)).trans p8) (((s6.trans s68).get _ (by omega) (by simp)).trans p7) (by rw [hW]; exact memW)
  rw [hW] at rk
  have lp := num_loop (W := W) (tb := n + 4) (nm := n + 3) (sx := a + 5) (by rw [memW, memW]; omega) (by rw [memW]; omega) p10 (by omega) (by rw [memW]; omega) tA rk
  rw [d4] at lp
  refine ok_lp lp ?_
  rintro _ vs g10 ⟨rfl, bt, bT, tA, rk, k10, hbt1, hbt2⟩
  simp only at tA rk k10 hbt2
  have k10n := k10.next
  obtain ⟨C, c4, c6, c11, P10⟩ := pj_made (N := N) hn1 hn h2 (by omega) (by omega) hbt2 ((k10.get _ (by rw [memW]; omega) (by omega)).trans ((s38.get _ (by omega) (by simp)).trans p6)) ((k10.get _ (by rw [memW]; omega) (by omega)).trans ((s38.get _ (by omega) (by simp)).trans p5)) ((A6.same s68 (by simp) (by simp) (by simp) (by simp) (by simp)).same k10.frame (not_out (by rw [memW]; omega)) (not_out (by rw [memW]; omega)) (not_out (by rw [memW]; omega)) (not_out (by rw [memW]; omega)) (not_out (by rw [memW]; omega))) ((ht.same s08 (by simp)).same k10.frame (not_out (by rw [memW]; omega))) tA (by rw [hW]; exact rk) (by rw [hW]; exact memW)
  have s0k : KpX (Zr h) h g10 := (KpX.same s08).trans (k10.sub fun j hj => by rw [memW]; simp only [Zr, List.mem_range, hn] at hj; omega)
  have W0 : Wt g10 g10 C D none bT ts ((a + 5) :: Zr h) 0 (.sl none 0 (.ex 0)) [] none none (List.replicate N (-1)) [] ⟨newA N, List.replicate N false⟩ :=
    { P := P10, sl := SlB.mt, len := rfl, fi := fi_new N, ok := fun k x t hx => by simp at hx, ww := fun t ht => by simp at ht, ll := by simp, k := KpX.refl _ _, fr := fun j hj => by cases hj
      nm := fun x => by unfold PAr.isM; rw [find_new] }
  have hthZ : ∀ (Z' : List Nat) g g', (∀ j, j ∈ (a + 5) :: Zr h → j ∈ Z') → KpX (Zr h) h g → KpX Z' g g' → ThsRd g' x1 ts := fun Z' g g' hz kg k => by
    obtain ⟨m1, m2⟩ := kp_mono (kg.trans (k.sub fun j hj => hz j (List.mem_cons_of_mem _ hj))) (fun j hj => by simp only [Zr, List.mem_range]; exact hj)
    exact hth.mono m1 m2
  refine Ok.eq ?_ (by simp -implicitDefEqProofs only [if_true, thenK_normal] <;> rfl)
  have lp1 := wtake_loop W0 (by simp; exact h1) (fun g k => hthZ _ g10 g (fun j hj => hj) s0k k) hT
  rw [c4, d2] at lp1
  refine ok_lp lp1 ?_
  rintro _ vs1 g11 ⟨rfl, v, at_, ba, b11, cls11, L11, l11, hvs, W1, hsp⟩
  simp only at hvs W1 hsp
  have hv4 : vs1.getD 4 .bot = v := by rw [hvs]; rfl
  have ll11 := W1.ll
  have V0 := Ww.of (h := h) (N := N) (l2 := l11) W1 (by omega)
  have k011 : KpX (Zr h) h g11 := s0k.trans (W1.k.sub fun j hj => List.mem_cons_of_mem _ hj)
  refine Ok.eq ?_ (by simp -implicitDefEqProofs only [if_true, thenK_normal] <;> rfl)
  have lp2 := whead_loop (sx := a + 5) V0 (fun g k => hthZ _ g11 g (fun j hj => List.mem_append_right _ hj) k011 k) (fun g k => W1.sl.same k.frame (fun j hj => not_out (by simp [hj]))) W1.ok W1.len hT
    (fun g k => (k.get _ (by simp) (by have := W1.k.next; omega)).trans ((W1.k.get _ (by simp) (by omega)).trans ((k10.get _ (by rw [memW]; omega) (by omega)).trans p10))) hv4
  rw [c6, d4] at lp2
  refine ok_lp lp2 ?_
  rintro _ vs2 g12 ⟨rfl, L12, l12, W2⟩
  simp only at W2
  refine ok_val (v := .tup [.ptr (some (n + 6, 0)), .ptr (some (a, 0)), .ptr (some (n + 2, 0)), v]) (g := g12) (by simp -implicitDefEqProofs only [if_true, thenK_normal, hv4]) ⟨C, D, v, at_, none, b11, bT, ba, cls11, L12, l12, by rw [c11, d4, c6], ?_⟩
  exact
  { P := W2.P.subZ (fun j hj => by
      rw [List.mem_append] at hj ⊢
      exact hj.imp id (List.mem_cons_of_mem _)) (List.mem_append_right _ (by simp only [Zr, List.mem_range]; omega))
    sl := W1.sl.same W2.k.frame (fun j hj => not_out (by simp [hj]))
    len := W1.len
    ok := fun k x t hx ht => (W1.ok k x t hx ht).sp W2.sp
    ww := W2.ww
    ll := W2.ll
    sp := by rw [W2.sp, hsp]; exact hl
    k := k011.trans (W2.k.sub fun j hj => by simp [hj])
    fr := fun j hj => by have := W1.fr j hj; omega
    cl := fun x => by rw [isM_sp W2.sp]; exact W1.nm x }
end Go.Ab.F
