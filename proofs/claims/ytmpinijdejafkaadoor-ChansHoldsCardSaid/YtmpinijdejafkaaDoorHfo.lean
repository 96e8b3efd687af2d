import Derived.Test.YtmpinijdejafkaaDoorHea
import Derived.Test.YtmpinijdejafkaaDoorArn
import Derived.Test.YtmpinijdejafkaaDoorCyl

namespace Go.Ab.F
open Go Go.Ab
set_option linter.all false
set_option linter.all false
attribute [local congr] c_bind c_cl c_mk c_lp c_clC c_gQ c_gV c_condE c_thenK

/-! Law 14's heaps. -/
def sh14 : List Shp := [⟨0, 2, 2⟩, ⟨1, 0, 0⟩, ⟨1, 0, 1⟩]
theorem sh14_nd : sh14.Nodup := by decide
theorem sh14_good : ∀ s ∈ sh14, goodB s = true := by decide
theorem shapes14 (h : Heap) : k_law14_shapes h = some (.sl (some (h.next, 0)) 3 (.ex 3), h.new (.cells true (shC sh14))) := rfl
end Go.Ab.F

namespace Go.Ab.F
open Go Go.Ab
set_option linter.all false
set_option linter.all false
attribute [local congr] c_bind c_cl c_mk c_lp c_clC c_gQ c_gV c_condE c_thenK

/-! A heap with its collection; a making that may collect. -/
structure HpC (h : Heap) (C : Nat → Nat) (l : PAl) (T : List Shp) (F : Int) (qb : Option Nat) (dn us : Int) (X : List Nat) : Prop where
  cy : Cy h C l T 0 qb [] dn us X
  hpb : ∃ v, h.get (C 0) = some (.cells true [.ptr (some (C 1, 0)), v, .int .i64 F]) ∧ SlB h (some (C 10)) 3 v (shC T) T.length
  fi : Fi l
  x0 : C 0 ∈ X
  x10 : C 10 ∈ X
section
variable {h : Heap} {C : Nat → Nat} {l : PAl} {T : List Shp} {F : Int} {qb : Option Nat} {dn us : Int} {X : List Nat} {x1 : AV} {G : List Int}
theorem HpC.hp (H : HpC h C l T F qb dn us X) : HpAt h C l T F :=
  { hpb := H.hpb, cyb := ⟨_, _, _, _, H.cy.cyb⟩, tab := H.cy.tab, al := H.cy.al, fi := H.fi, wf := H.cy.wf
    lt := fun i hi => H.cy.lt i (by omega), pos := fun i hi => H.cy.pos i (by omega), inj := fun i j hi hj => H.cy.inj i j (by omega) (by omega), t0 := H.cy.t0 }
theorem HpC.turn {h' : Heap} {l' : PAl} (H : HpC h C l T F qb dn us X) (s : Same [C 5, C 7, C 8] h h') (P : HpAt h' C l' T F) : HpC h' C l' T F qb dn us X ∧ KpX X h h' := by
  obtain ⟨H1, k1⟩ := H.cy.turn s P.al P.wf
  exact ⟨⟨H1, P.hpb, P.fi, H.x0, H.x10⟩, k1⟩
theorem HpC.keep {h' : Heap} (H : HpC h C l T F qb dn us X) (s : Same [] h h') : HpC h' C l T F qb dn us X := (H.turn (s.sub (by simp)) (H.hp.keep s)).1
theorem HpC.whole {h' : Heap} {l' : PAl} {qb' : Option Nat} {dn' us' : Int} (H : HpC h C l T F qb dn us X) (c : Cy h' C l' T 0 qb' [] dn' us' X) (k : KpX X h h') (f : Fi l') : HpC h' C l' T F qb' dn' us' X := by
  obtain ⟨v, hv, hs⟩ := H.hpb
  refine ⟨c, ⟨v, (k.get _ H.x0 (H.cy.lt 0 (by decide))).trans hv, ⟨hs.len, hs.sc, hs.eq, hs.nil, fun i hi => ?_⟩⟩, f, H.x0, H.x10⟩
  obtain ⟨b1, b2, b3⟩ := hs.blk i hi
  cases hi
  exact ⟨Nat.lt_of_lt_of_le b1 k.next, (k.get _ H.x10 b1).trans b2, b3⟩
/-- One more was forced. -/
theorem HpC.forced (H : HpC h C l T F qb dn us X) (x : Int) : ∃ g, stP 1 h (.ptr (some (C 0, 2))) (.int .i64 x) = some (.bot, g) ∧ HpC g C l T x qb dn us X ∧ Same [C 0] h g := by
  obtain ⟨v, hv, hs⟩ := H.hpb
  have s : Same [C 0] h (h.put (C 0) (some (.cells true [.ptr (some (C 1, 0)), v, .int .i64 x]))) := Same.put _ _ _
  have nS : ∀ i, i < 14 → i ≠ 0 → C i ∉ [C 0] := fun i hi h1 hm => by
    rw [List.mem_singleton] at hm
    exact h1 (H.cy.inj i 0 hi (by decide) hm)
  refine ⟨_, stP_one hv (by simp) rfl, ?_, s⟩
  obtain ⟨w, hg, hq⟩ := H.cy.gqb
  exact
  { cy :=
    { H.cy with
      cyb := (s.get _ (H.cy.lt 1 (by decide)) (nS 1 (by decide) (by decide))).trans H.cy.cyb
      mkb := (s.get _ (H.cy.lt 11 (by decide)) (nS 11 (by decide) (by decide))).trans H.cy.mkb
      gqb := ⟨w, (s.get _ (H.cy.lt 12 (by decide)) (nS 12 (by decide) (by decide))).trans hg, hq.keep s (fun i hi => by simp; exact (H.cy.xq i hi).2.1 0 (by decide))⟩
      bmb := (s.get _ (H.cy.lt 13 (by decide)) (nS 13 (by decide) (by decide))).trans H.cy.bmb
      tab := H.cy.tab.same s (nS 2 (by decide) (by decide)) (nS 3 (by decide) (by decide)) (fun i hi => by cases hi; exact nS 9 (by decide) (by decide))
      al := H.cy.al.same s (nS 4 (by decide) (by decide)) (nS 5 (by decide) (by decide)) (nS 6 (by decide) (by decide)) (nS 7 (by decide) (by decide)) (nS 8 (by decide) (by decide))
      lt := fun i hi => Nat.lt_of_lt_of_le (H.cy.lt i hi) s.next
      t0 := H.cy.t0.same s (by simp; exact fun e => H.cy.pos 0 (by decide) e.symm)
      xl := fun j hj => Nat.lt_of_lt_of_le (H.cy.xl j hj) s.next }
    hpb := ⟨v, get_put_eq, hs.same s (fun i hi => by cases hi; exact nS 10 (by decide) (by decide))⟩
    fi := H.fi, x0 := H.x0, x10 := H.x10 }
theorem take_none {l : PAl} (H : Fi l) {n : Int} (h1 : classOf n ≠ -1) (hr : ¬ room l (classOf n)) : l.take n = ((0, 5), l) := by
  unfold PAl.take
  rw [if_neg h1]
  have hc : 0 ≤ classOf n ∧ classOf n ≤ 5 := by
    rcases classOf_range n with h | h
    · exact absurd h h1
    · exact ⟨h.1, h.2.1⟩
  generalize classOf n = c at *
  have hlen := H.len
  rcases scan1_fi H hc l.un.length 0 with ⟨a1, a2⟩ | ⟨m, b1, b2, b3, b4⟩
  · rw [a2]
    simp only
    unfold PAl.more
    rcases scan2_fi (l := l) c (l.un.length - 1) 1 with ⟨c1, c2⟩ | ⟨m, d1, d2, d3, d4⟩
    · rw [c2]
      simp only
      unfold PAl.more2
      rw [scan3_fi H]
    · exact absurd ⟨m, by omega, by omega, .inl d3⟩ hr
  · obtain ⟨hn, _⟩ := roomAt_bit hc b3 H.ar
    exact absurd ⟨m, by have := hn.1; omega, by omega, .inr b3⟩ hr
theorem ctake_ok (H : HpAt h C l T F) (n : Int) {ad e : Int} {l' : PAl} (ht : l.take n = ((ad, e), l')) (f : Fi l') (w : Wf l'.ar) : Ok (k_cycle_Cycle_Take (.ptr (some (C 1, 0))) (.int .i64 n) h) fun r => r.1 = .tup [.int .i64 ad, .int .i64 e] ∧ HpAt r.2 C l' T F ∧ Same [C 5, C 7, C 8] h r.2 := by
  have tk := atake_ok H.al H.t0 (H.pos 8 (by decide)) (H.pos 5 (by decide)) (H.pos 7 (by decide)) n
  rw [ht] at tk
  refine Ok.eq ?_ (by simp -implicitDefEqProofs only [nilV_ptr, faP_ptr, Nat.zero_add, Option.bind_some, k_cycle_Cycle_Take, H.c2] <;> rfl)
  refine ok_cl tk ?_
  rintro _ g2 ⟨rfl, a2, s2⟩
  simp only at a2 s2
  have H2 := H.turn (s2.sub (by simp)) a2 f w
  by_cases h0 : e = 0
  · exact ok_val (v := .tup [.int .i64 ad, .int .i64 e]) (g := g2) (by simp -implicitDefEqProofs only [extractV_tup, e0, e1, Option.bind_some, eql_int, h0, decide_true, gdW_tt, gQ_true, cl_some, shades_eq H2, pickP_bool, if_true, condE_false]) ⟨rfl, H2, s2.sub (by simp)⟩
  · exact ok_val (v := .tup [.int .i64 ad, .int .i64 e]) (g := g2) (by simp -implicitDefEqProofs only [extractV_tup, e0, e1, Option.bind_some, eql_int, h0, decide_false, gdW_ft, gQ_false, pickP_bool, Bool.false_eq_true, if_false, condE_false]) ⟨rfl, H2, s2.sub (by simp)⟩
theorem tail_ok {l0 : PAl} (H2 : HpAt h C l T F) {sx : Nat} {s : Shp} (hx : T[sx]? = some s) {n : Int} (h1 : 1 ≤ n) (h2 : n ≤ 64) {tb : Nat} (p2 : h.get tb = some (.cells true s.row)) (lt2 : tb < h.next) {ad : Int}
    (ht : ∃ e, l0.take n = ((ad, e), l)) (f0 : Fi l0) (w0 : Wf l0.ar) (hr : room l0 (classOf n)) :
    Ok (k_heap_Heap_Make_j0 (.ptr (some (C 0, 0))) (.int .i64 n) (.ptr (some (tb, 0))) (.int .i64 ad) (.int .i64 0) h) fun r => ∃ l', r.1 = .tup [.int .i64 ad, .int .i64 0] ∧ HpAt r.2 C l' T F ∧ Same [C 5, C 7, C 8] h r.2 ∧
      Made l0 l' ad ((n + 128 * s.kind + 1024 * sx) :: List.replicate ((wordsOf (classOf n)).toNat - 1) 0) := by
  have hcl := class_some h1 h2
  obtain ⟨ad', l', e, f', w', fn, lo, hi, li, _, st, us, ul⟩ := atake_lies f0 w0 (n := n) hcl.1 hr
  obtain ⟨e', ht⟩ := ht
  rw [ht] at e
  injection e with ea eb
  injection ea with ea1 ea2
  subst ea1; subst eb
  have z0 : decide ((0 : Int) = 0) = true := rfl
  refine Ok.eq ?_ (by simp -implicitDefEqProofs only [extractV_tup, e0, e1, Option.bind_some, k_heap_Heap_Make_j0, neq_int, decide_true, Bool.not_true, condE_false, nilV_ptr, faP_ptr, Nat.zero_add, H2.ld0, ctable_eq H2, cl_some, rdC, ldA_row p2, clC_some] <;> rfl)
  refine ok_cl (number_at H2.tab hx) ?_
  rintro _ g3 ⟨rfl, s3⟩
  simp only at s3
  have H3 := H2.keep s3
  have p3 := (s3.get _ lt2 (by simp)).trans p2
  have lk : ldS g3 (.ptr (some (tb, 0))) = some (.int .i64 s.kind) := by rw [ldS_at p3]; rfl
  have hgd := good_kind (H2.tab.good s (List.mem_of_getElem? hx))
  have hTl := H2.tab.len
  have hlen := (List.getElem?_eq_some_iff.1 hx).1
  have z3 : bldS [(0, 1), (1, 1), (2, 1)] [(AV.int .i64 0), (AV.int .i64 0), (AV.int .i64 0)] [(0, .int .i64 n), (1, .int .i64 s.kind), (2, .int .i64 (sx : Int))] = some (.agg (hdC n s.kind sx)) := rfl
  refine Ok.eq ?_ (by simp -implicitDefEqProofs only [extractV_tup, e0, e1, Option.bind_some, chk_two (f := fun g => ldA 3 g (.ptr (some (tb, 0)))) (same_row s) (ldA_row p2) (ldA_row p2), faP_ptr, Nat.zero_add, lk, z3] <;> rfl)
  refine ok_cl (pack_ok n s.kind sx g3 ⟨h1, h2, hgd.1, hgd.2, by omega, by omega⟩) ?_
  rintro _ g4 ⟨rfl, s4⟩
  simp only at s4
  have H4 := H3.keep s4
  refine Ok.eq ?_ (by simp -implicitDefEqProofs only [extractV_tup, e0, e1, Option.bind_some, neq_int, decide_true, Bool.not_true, condE_false, nilV_ptr, faP_ptr, Nat.zero_add, H4.ld0, carena_eq H4, cl_some] <;> rfl)
  have hws : (1 : Int) ≤ wordsOf (classOf n) := by omega
  have hll : (List.replicate (wordsOf (classOf n)).toNat (0 : Int)).length = (wordsOf (classOf n)).toNat := List.length_replicate ..
  obtain ⟨b, eb, wb, bs, lb, lo'⟩ := li.write w' (k := 0) (by rw [hll]; omega) (n + 128 * s.kind + 1024 * sx)
  have wr := write_ok H4.al.ar ad 0 (n + 128 * s.kind + 1024 * sx)
  refine ok_cl wr ?_
  rintro _ g5 ⟨rfl, a5, s5⟩
  simp only at a5 s5
  have H5 := H4.wrote s5 a5
  rw [eb] at H5
  refine ok_val (by rfl) ⟨⟨b, l.un⟩, rfl, H5, ((s3.sub (by simp)).trans (s4.sub (by simp))).trans (s5.sub (by simp)), fn, lo, hi, ?_, fun x hx => ?_, fun x ws hx L => lo' x ws hx (st.lies x ws L), ?_, ?_⟩
  · have : (List.replicate (wordsOf (classOf n)).toNat (0 : Int)).set (0 : Int).toNat (n + 128 * s.kind + 1024 * sx) = (n + 128 * s.kind + 1024 * sx) :: List.replicate ((wordsOf (classOf n)).toNat - 1) 0 := by
      obtain ⟨m, hm⟩ : ∃ m, (wordsOf (classOf n)).toNat = m + 1 := ⟨(wordsOf (classOf n)).toNat - 1, by omega⟩
      rw [hm, List.replicate_succ]; rfl
    rw [← this]; exact lb
  · rw [find_sp bs]; exact st.find x hx
  · rw [used_same (fun m => cls_sp bs m) (by rw [bs])]; exact us
  · show b.sp.length = _
    rw [bs]; exact st.len
end
end Go.Ab.F

namespace Go.Ab.F
open Go Go.Ab
set_option linter.all false
set_option linter.all false
attribute [local congr] c_bind c_cl c_mk c_lp c_clC c_gQ c_gV c_condE c_thenK

/-! A new heap, with its collection's blocks. -/
def addrsC (n bt c : Nat) (i : Nat) : Nat := if i < 11 then addrs n bt c i else if i = 11 then n + 8 else if i = 12 then n + 7 else n + 9
theorem addrsC_cases (n bt c : Nat) {i : Nat} (hi : i < 14) : (i = 0 ∧ addrsC n bt c i = n + 11) ∨ (i = 1 ∧ addrsC n bt c i = n + 10) ∨ (i = 2 ∧ addrsC n bt c i = n + 4) ∨ (i = 3 ∧ addrsC n bt c i = n + 3) ∨ (i = 4 ∧ addrsC n bt c i = n + 6) ∨ (i = 5 ∧ addrsC n bt c i = n + 5) ∨ (i = 6 ∧ addrsC n bt c i = n + 2) ∨ (i = 7 ∧ addrsC n bt c i = n) ∨ (i = 8 ∧ addrsC n bt c i = n + 1) ∨ (i = 9 ∧ addrsC n bt c i = bt) ∨ (i = 10 ∧ addrsC n bt c i = c) ∨ (i = 11 ∧ addrsC n bt c i = n + 8) ∨ (i = 12 ∧ addrsC n bt c i = n + 7) ∨ (i = 13 ∧ addrsC n bt c i = n + 9) := by
  rcases (by omega : i = 0 ∨ i = 1 ∨ i = 2 ∨ i = 3 ∨ i = 4 ∨ i = 5 ∨ i = 6 ∨ i = 7 ∨ i = 8 ∨ i = 9 ∨ i = 10 ∨ i = 11 ∨ i = 12 ∨ i = 13) with rfl | rfl | rfl | rfl | rfl | rfl | rfl | rfl | rfl | rfl | rfl | rfl | rfl | rfl <;> simp [addrsC, addrs]
theorem addrsC_inj {n bt c i j : Nat} (hb : n + 12 ≤ bt) (hc : n + 12 ≤ c ∧ bt < c) (hi : i < 14) (hj : j < 14) (h : addrsC n bt c i = addrsC n bt c j) : i = j := by
  have h1 := addrsC_cases n bt c hi
  have h2 := addrsC_cases n bt c hj
  generalize addrsC n bt c i = x at *
  generalize addrsC n bt c j = y at *
  omega
theorem hnewc_ok {h : Heap} {b N : Nat} {T : List Shp} {w : Bool} (h1 : 8 ≤ N) (h2 : N ≤ 512) (ht : Tab0 h) (hb : h.get b = some (.cells w (shC T))) (hlt : b < h.next) (hT : T ≠ []) (hl : T.length ≤ 1000) (hnd : T.Nodup) (hgd : ∀ s ∈ T, goodB s = true) :
    Ok (k_heap_New (.int .i64 N) (.sl (some (b, 0)) T.length (.ex T.length)) h) fun r => ∃ C, r.1 = .tup [.ptr (some (C 0, 0)), .int .i64 0] ∧ HpC r.2 C ⟨newA N, List.replicate N false⟩ T 0 none 0 64 [0, C 0, C 10] ∧ Same [] h r.2 ∧ ∀ i, i < 14 → h.next ≤ C i := by
  generalize hn : h.next = n at *
  have cn := cnew_ok (h := h) N h1 h2
  rw [hn] at cn
  refine Ok.eq ?_ (by unfold k_heap_New; rfl)
  refine ok_cl cn ?_
  rintro _ g1 ⟨rfl, s1, n1, pc, tb, al, mk8, gq7, bm9⟩
  simp only at s1 n1 pc tb al mk8 gq7 bm9
  have bh : bldS [(0, 1), (1, 1), (2, 1)] [(AV.ptr none), (AV.sl none 0 (.ex 0)), (AV.int .i64 0)] [(0, .ptr (some (n + 10, 0)))] = some (.agg [.ptr (some (n + 10, 0)), .sl none 0 (.ex 0), .int .i64 0]) := rfl
  have xh : bxP (.agg [.ptr (some (n + 10, 0)), .sl none 0 (.ex 0), .int .i64 0]) = some (.cells true [.ptr (some (n + 10, 0)), .sl none 0 (.ex 0), .int .i64 0], fun i => .ptr (some (i, 0))) := rfl
  refine Ok.eq ?_ (by simp -implicitDefEqProofs only [extractV_tup, e0, e1, Option.bind_some, neq_int, decide_true, Bool.not_true, condE_false, bh, xh, mk_some, n1, lnL_sl] <;> rfl)
  have s2 : Same [] g1 (g1.new (.cells true [.ptr (some (n + 10, 0)), .sl none 0 (.ex 0), .int .i64 0])) := Same.new _ _
  have n2 : (g1.new (.cells true [.ptr (some (n + 10, 0)), .sl none 0 (.ex 0), .int .i64 0])).next = n + 12 := by rw [Heap.next_new, n1]
  have ph : (g1.new (.cells true [.ptr (some (n + 10, 0)), .sl none 0 (.ex 0), .int .i64 0])).get (n + 11) = some (.cells true [.ptr (some (n + 10, 0)), .sl none 0 (.ex 0), .int .i64 0]) := by rw [← n1]; exact get_new_eq
  generalize g1.new (.cells true [.ptr (some (n + 10, 0)), .sl none 0 (.ex 0), .int .i64 0]) = g2 at *
  have tb2 := tb.same s2 (by simp) (by simp) (fun i hi => by cases hi)
  have al2 := al.same s2 (by simp) (by simp) (by simp) (by simp) (by simp)
  have pc2 : g2.get (n + 10) = some (.cells true (cyC n)) := (s2.get _ (by omega) (by simp)).trans pc
  have s12 := s1.trans s2
  have pb2 : g2.get b = some (.cells w (shC T)) := (s12.get _ (by omega) (by simp)).trans hb
  have zr : ([AV.int .i64 0, .int .i64 0, .int .u64 0] : List AV) = shpZ.row := rfl
  have lp0 : Ok (k_heap_New_L0 (.sl (some (b, 0)) T.length (.ex T.length)) (.ptr (some (n + 10, 0))) (.int .i64 T.length) (.ptr none) (.int .i64 0) (.int .i64 0) g2) fun r => r.1 = .exit 0 ∧ ∃ b', n + 12 ≤ b' ∧ TbAt r.2.2 (n + 4) (n + 3) (some b') T ∧ Same [n + 3, n + 4] g2 r.2.2 := by
    refine ok_loop (fun m vs g => ∃ (i : Nat) (b' : Option Nat), vs = [.ptr none, .int .i64 0, .int .i64 i] ∧ m + i = T.length ∧ TbAt g (n + 4) (n + 3) b' (T.take i) ∧ (∀ x, b' = some x → n + 12 ≤ x) ∧ Same [n + 3, n + 4] g2 g) ?_ (n := T.length) (by omega)
      ⟨0, none, rfl, rfl, tb2, (fun x hx => by cases hx), Same.refl _ _⟩
    rintro m vs g ⟨i, b', rfl, hm, Tg, hb', sg⟩
    rw [gd0, gd1, gd2]
    by_cases hi : i < T.length
    · have hli : (i : Int) < T.length := by omega
      obtain ⟨s, hs⟩ : ∃ s, T[i]? = some s := ⟨_, List.getElem?_eq_getElem hi⟩
      have ix : iaS 3 (.sl (some (b, 0)) T.length (.ex T.length)) (.int .i64 (i : Int)) = some (.ptr (some (b, i * 3))) := by
        rw [iaS_sl 3 (b, 0) _ _ .i64 _ ⟨by omega, by omega⟩]; simp
      have pb : g.get b = some (.cells w (shC T)) := (sg.get _ (by omega) (by simp; omega)).trans pb2
      have la : ldA 3 g (.ptr (some (b, i * 3))) = some (.agg s.row) := by rw [ldA_at pb, shC_at hs]; rfl
      refine Ok.eq ?_ (by simp -implicitDefEqProofs only [k_heap_New_b0, bin_lss, hli, decide_true, Option.bind_some, condE_true, ix, la, zr] <;> rfl)
      refine ok_tmp (z := shpZ.row) (cs := s.row) (n := 3) rfl rfl rfl fun g3 s3 n3 p3 => ?_
      have sg3 := sg.trans (s3.sub (by simp))
      have pc3 : g3.get (n + 10) = some (.cells true (cyC n)) := (sg3.get _ (by omega) (by simp)).trans pc2
      have lt3 : ldS g3 (.ptr (some (n + 10, 1))) = some (.ptr (some (n + 4, 0))) := by rw [ldS_at pc3]; rfl
      have ct : k_cycle_Cycle_Table (.ptr (some (n + 10, 0))) g3 = some (.ptr (some (n + 4, 0)), g3) := by
        simp -implicitDefEqProofs only [k_cycle_Cycle_Table, nilV_ptr, Option.bind_some, faP_ptr, Nat.zero_add, lt3]
      have T3 := Tg.same s3 (by simp) (by simp) (fun _ _ => by simp)
      have hno : s ∉ T.take i := fun hm => by
        obtain ⟨j, hj⟩ := List.getElem?_of_mem hm
        rw [List.getElem?_take] at hj
        split at hj
        · rename_i hji
          obtain ⟨q1, q2⟩ := List.getElem?_eq_some_iff.1 hj
          obtain ⟨q3, q4⟩ := List.getElem?_eq_some_iff.1 hs
          have := (List.getElem_inj hnd).1 (q2.trans q4.symm)
          omega
        · cases hj
      refine Ok.eq ?_ (by simp -implicitDefEqProofs only [ct, cl_some, rdC, ldA_row p3, Option.bind_some, clC_some] <;> rfl)
      refine ok_cl (number_new T3 hno (hgd s (List.mem_of_getElem? hs)) (by simp; omega)) ?_
      rintro _ g4 ⟨rfl, s4, b4, l4, T4⟩
      simp only at s4 l4 T4
      refine (Ok.of (r := (.normal, [.ptr none, .int .i64 0, .int .i64 ((i + 1 : Nat) : Int)], g4)) ?_).eq (by
        simp -implicitDefEqProofs only [extractV_tup, e0, e1, Option.bind_some, chk_two (f := fun g' => ldA 3 g' (.ptr (some (g.next, 0)))) (same_row s) (ldA_row p3) (ldA_row p3), neq_int, decide_true, Bool.not_true, condE_false, bin_add, suc64 i (by omega)])
      left
      have e : T.take i ++ [s] = T.take (i + 1) := by rw [List.take_add_one, hs]; rfl
      rw [e] at T4
      have hgn := sg3.next
      refine ⟨rfl, m - 1, by omega, i + 1, some b4, rfl, by omega, T4, fun x hx => by cases hx; omega, ?_⟩
      refine sg3.old s4 fun j hj => ?_
      simp only [List.mem_cons] at hj
      rcases hj with rfl | rfl | hj
      · left; simp
      · left; simp
      · right
        cases b' with
        | none => simp at hj
        | some x => simp at hj; subst hj; have := hb' _ rfl; omega
    · have hli : ¬ (i : Int) < T.length := by omega
      obtain rfl : i = T.length := by omega
      refine (Ok.of (r := (.exit 0, [.ptr none, .int .i64 0, .int .i64 (T.length : Int)], g)) ?_).eq (by simp -implicitDefEqProofs only [k_heap_New_b0, bin_lss, hli, decide_false, Option.bind_some, condE_false])
      rw [List.take_length] at Tg
      cases b' with
      | none =>
        obtain ⟨v, _, hv⟩ := Tg.tbl
        have := hv.nil rfl
        exact absurd (List.length_eq_zero_iff.1 this) hT
      | some x => exact .inr ⟨by simp, rfl, x, hb' x rfl, Tg, sg⟩
  refine ok_lp lp0 ?_
  rintro _ vs g3 ⟨rfl, bt, hbt, T3, s3⟩
  simp only at T3 s3
  have n3 := s3.next
  have pb3 : g3.get b = some (.cells w (shC T)) := (s3.get _ (by omega) (by simp; omega)).trans pb2
  have cl := clone_sh (c := .ex T.length) pb3 (by omega) hT (by omega)
  have s4 : Same [] g3 ((g3.new (.cells true [])).new (.cells true (shC T))) := (Same.new _ _).trans (Same.new _ _)
  have p4 : ((g3.new (.cells true [])).new (.cells true (shC T))).get (g3.next + 1) = some (.cells true (shC T)) := get_new_eq (h := g3.new (.cells true []))
  have n4 : ((g3.new (.cells true [])).new (.cells true (shC T))).next = g3.next + 2 := rfl
  refine Ok.eq ?_ (by simp -implicitDefEqProofs only [if_true, thenK_normal, cl, cl_some, nilV_ptr, Option.bind_some, faP_ptr, Nat.zero_add] <;> rfl)
  generalize (g3.new (.cells true [])).new (.cells true (shC T)) = g4 at *
  have ph4 : g4.get (n + 11) = some (.cells true [.ptr (some (n + 10, 0)), .sl none 0 (.ex 0), .int .i64 0]) := (s4.get _ (by omega) (by simp)).trans ((s3.get _ (by omega) (by simp)).trans ph)
  have st : stP 1 g4 (.ptr (some (n + 11, 1))) (.sl (some (g3.next + 1, 0)) T.length (.un 3)) = some (.bot, g4.put (n + 11) (some (.cells true [.ptr (some (n + 10, 0)), .sl (some (g3.next + 1, 0)) T.length (.un 3), .int .i64 0]))) := stP_one ph4 (by simp) rfl
  have s5 : Same [n + 11] g4 (g4.put (n + 11) (some (.cells true [.ptr (some (n + 10, 0)), .sl (some (g3.next + 1, 0)) T.length (.un 3), .int .i64 0]))) := Same.put _ _ _
  have n5 : (g4.put (n + 11) (some (.cells true [.ptr (some (n + 10, 0)), .sl (some (g3.next + 1, 0)) T.length (.un 3), .int .i64 0]))).next = g4.next := rfl
  have p5 : (g4.put (n + 11) (some (.cells true [.ptr (some (n + 10, 0)), .sl (some (g3.next + 1, 0)) T.length (.un 3), .int .i64 0]))).get (n + 11) = _ := get_put_eq
  refine ok_val (v := .tup [.ptr (some (n + 11, 0)), .int .i64 0]) (by simp -implicitDefEqProofs only [st, cl_some] <;> rfl) ?_
  generalize g4.put (n + 11) (some (.cells true [.ptr (some (n + 10, 0)), .sl (some (g3.next + 1, 0)) T.length (.un 3), .int .i64 0])) = g5 at *
  have T4 := (T3.same s4 (by simp) (by simp) (fun _ _ => by simp)).same s5 (by simp) (by simp) (fun i hi => by cases hi; simp; omega)
  have al3 := al2.same s3 (by simp) (by simp) (by simp) (by simp) (by simp)
  have al4 := (al3.same s4 (by simp) (by simp) (by simp) (by simp) (by simp)).same s5 (by simp) (by simp) (by simp) (by simp) (by simp)
  have sAll : Same [] h g5 := ((s12.old s3 (fun j hj => by simp at hj; right; omega)).trans s4).old s5 (fun j hj => by simp at hj; right; omega)
  have hbl : bt < g3.next := by
    obtain ⟨v, _, hv⟩ := T3.tbl
    exact (hv.blk bt rfl).1
  have hpos : 0 < n := by have := ht.pos; omega
  have pc5 : g5.get (n + 10) = some (.cells true (cyC n)) := (s5.get _ (by omega) (by simp)).trans ((s4.get _ (by omega) (by simp)).trans ((s3.get _ (by omega) (by simp)).trans pc2))
  have up : ∀ (j : Nat) x, j ≠ n + 3 → j ≠ n + 4 → j < n + 11 → g1.get j = some x → g5.get j = some x := fun j x h3 h4 h11 hx => (s5.get _ (by omega) (by simp; omega)).trans ((s4.get _ (by omega) (by simp)).trans ((s3.get _ (by omega) (by simp; omega)).trans ((s2.get _ (by omega) (by simp)).trans hx)))
  have mk5 := up (n + 8) _ (by omega) (by omega) (by omega) mk8
  have gq5 := up (n + 7) _ (by omega) (by omega) (by omega) gq7
  have bm5 := up (n + 9) _ (by omega) (by omega) (by omega) bm9
  have n14 : g3.next + 2 ≤ g5.next := by omega
  refine ⟨addrsC n bt (g3.next + 1), rfl, ?_, sAll, fun i hi => ?_⟩
  · exact
    { cy :=
      { cyb := pc5
        mkb := mk5
        gqb := ⟨_, gq5, QuV.mt⟩
        bmb := bm5
        tab := T4
        al := al4
        wf := wf_new N h2
        lt := fun i hi => by
          show _ < g5.next
          have := addrsC_cases n bt (g3.next + 1) hi
          omega
        pos := fun i hi => by
          have := addrsC_cases n bt (g3.next + 1) hi
          omega
        inj := fun i j hi hj => addrsC_inj (by omega) (by omega) hi hj
        t0 := ht.same sAll (by simp)
        xC := fun i hi h0 h10 hm => by
          simp only [List.mem_cons, List.not_mem_nil, or_false] at hm
          rcases hm with e | e | e
          · have := addrsC_cases n bt (g3.next + 1) hi
            omega
          · exact h0 (addrsC_inj (by omega) (by omega) hi (by decide) e)
          · exact h10 (addrsC_inj (by omega) (by omega) hi (by decide) e)
        xq := fun i hi => by cases hi
        x0 := by simp
        xl := fun j hj => by
          simp only [List.mem_cons, List.not_mem_nil, or_false] at hj
          rcases hj with rfl | rfl | rfl
          · show 0 < g5.next; omega
          · show n + 11 < g5.next; omega
          · show g3.next + 1 < g5.next; omega }
      hpb := ⟨_, p5, ⟨by rw [shC_len], shC_sc T, rfl, (fun h => by cases h), fun i hi => by
        obtain rfl : i = g3.next + 1 := (Option.some.inj hi).symm
        exact ⟨by show g3.next + 1 < g5.next; omega, (s5.get _ (by omega) (by simp; omega)).trans p4, List.length_pos_iff.2 hT⟩⟩⟩
      fi := fi_new N
      x0 := by simp
      x10 := by simp }
  · have := addrsC_cases n bt (g3.next + 1) hi
    omega
end Go.Ab.F

namespace Go.Ab.F
open Go Go.Ab
set_option linter.all false
set_option linter.all false
attribute [local congr] c_bind c_cl c_mk c_lp c_clC c_gQ c_gV c_condE c_thenK

/-! A making that may collect. -/
theorem Rt.up {h : Heap} {x1 : AV} {G : List Int} {X Z : List Nat} (R : Rt h x1 G Z) (hs : ∀ j ∈ Z, j ∈ X) : Rt h x1 G X := by
  obtain ⟨ty, rb, gv, h1, h2, h3, h4⟩ := R.ex
  exact ⟨ty, rb, gv, h1, h2, fun g k => h3 g (k.sub hs), h4⟩
section
variable {h : Heap} {C : Nat → Nat} {l : PAl} {T : List Shp} {F : Int} {qb : Option Nat} {dn us : Int} {X Z : List Nat} {x1 : AV} {G : List Int}
/-- How a making ends. -/
def MkEnd (C : Nat → Nat) (l : PAl) (T : List Shp) (F dn : Int) (X : List Nat) (G : List Int) (n : Int) (W : List Int) (r : AV × Heap) : Prop :=
  (∃ ad l3 qb us, r.1 = .tup [.int .i64 ad, .int .i64 0] ∧ HpC r.2 C l3 T F qb dn us X ∧ Made l l3 ad W) ∨
  (∃ l2, ¬ room l (classOf n) ∧ WholeR T l G l2 ∧ Fi l2 ∧ Wf l2.ar ∧
    ((∃ ad l3 qb us, r.1 = .tup [.int .i64 ad, .int .i64 0] ∧ HpC r.2 C l3 T (F + 1) qb (dn + 1) us X ∧ Made l2 l3 ad W) ∨
     (∃ qb us, r.1 = .tup [.int .i64 0, .int .i64 5] ∧ HpC r.2 C l2 T (F + 1) qb (dn + 1) us X ∧ ¬ room l2 (classOf n))))
theorem makef_ok (H : HpC h C l T F qb dn us X) (R : Rt h x1 G Z) (hZ : ∀ j ∈ Z, j ∈ X ∧ j ≠ C 0) (hG : G.length ≤ 2 ^ 30) {sx : Nat} {s : Shp} (hx : T[sx]? = some s) {n : Int} (h1 : 1 ≤ n) (h2 : n ≤ 64)
    (hW : ∀ l2, WholeR T l G l2 → Fi l2) (hF : 0 ≤ F ∧ F ≤ 2 ^ 40) (hd : 0 ≤ dn ∧ dn ≤ 2 ^ 40) :
    Ok (k_heap_Heap_Make (.ptr (some (C 0, 0))) (.int .i64 sx) (.int .i64 n) x1 h) fun r => KpX Z h r.2 ∧ MkEnd C l T F dn X G n ((n + 128 * s.kind + 1024 * sx) :: List.replicate ((wordsOf (classOf n)).toNat - 1) 0) r := by
  obtain ⟨v, hv, hs⟩ := H.hpb
  have hlen := (List.getElem?_eq_some_iff.1 hx).1
  have b1 : ¬ (sx : Int) < 0 := by omega
  have b2 : ¬ (T.length : Int) ≤ sx := by omega
  have b3 : ¬ n < 1 := by omega
  have b4 : ¬ 64 < n := by omega
  have lv : ldS h (.ptr (some (C 0, 1))) = some v := by rw [ldS_at hv]; rfl
  obtain ⟨ix, la⟩ := rowIx hs hx
  have hcl := class_some h1 h2
  have zr : ([AV.int .i64 0, .int .i64 0, .int .u64 0] : List AV) = (⟨0, 0, 0⟩ : Shp).row := rfl
  refine Ok.eq ?_ (by simp -implicitDefEqProofs only [k_heap_Heap_Make, bin_lss, b1, b3, decide_false, Option.bind_some, gdW_ff, gQ_true, cl_some, nilV_ptr, faP_ptr, Nat.zero_add, lv, hs.lnL, bin_geq, b2, pickP_bool, Bool.false_eq_true, if_false, bin_gtr, b4, condE_false, ix, la, zr] <;> rfl)
  refine ok_tmp (z := (⟨0, 0, 0⟩ : Shp).row) (cs := s.row) (n := 3) rfl rfl rfl fun g1 s1 n1 p1 => ?_
  have hnX : h.next ∉ X := fun hm => by have := H.cy.xl _ hm; omega
  have H1 := (H.keep s1)
  -- the temporary is kept with what others have
  have HY : HpC g1 C l T F qb dn us (h.next :: X) :=
    ⟨H.cy.addX s1 (Nat.le_refl _) (by omega), H1.hpb, H.fi, List.mem_cons_of_mem _ H.x0, List.mem_cons_of_mem _ H.x10⟩
  have dropY : ∀ {g : Heap} {l : PAl} {F : Int} {qb : Option Nat} {dn us : Int}, HpC g C l T F qb dn us (h.next :: X) → HpC g C l T F qb dn us X := fun P => ⟨P.cy.subX (fun j hj => List.mem_cons_of_mem _ hj) H.cy.x0, P.hpb, P.fi, H.x0, H.x10⟩
  generalize htb : h.next = tb at *
  refine Ok.eq ?_ (by simp -implicitDefEqProofs only [nilV_ptr, faP_ptr, Nat.zero_add, Option.bind_some, H1.hp.ld0] <;> rfl)
  by_cases hr : room l (classOf n)
  · obtain ⟨ad, l', e, f', w', _⟩ := atake_lies H.fi H.cy.wf (n := n) hcl.1 hr
    refine ok_cl (ctake_ok H1.hp n e f' w') ?_
    rintro _ g2 ⟨rfl, P2, s2⟩
    simp only at P2 s2
    obtain ⟨H2, k2⟩ := HY.turn s2 P2
    have p2 := (k2.get tb (List.mem_cons_self ..) (by omega)).trans p1
    have z5 : decide ((0 : Int) = 5) = false := rfl
    refine Ok.eq ?_ (by simp -implicitDefEqProofs only [extractV_tup, e0, e1, Option.bind_some, eql_int, z5, decide_false, show ((0 : Int) = 5) = False by simp, condE_false] <;> rfl)
    refine (tail_ok P2 hx h1 h2 p2 (Nat.lt_of_lt_of_le (by omega) k2.next) ⟨0, e⟩ H.fi H.cy.wf hr).mono ?_
    rintro r ⟨l3, e3, P3, s3, M⟩
    obtain ⟨H3, k3⟩ := H2.turn s3 P3
    exact ⟨((KpX.same s1).trans ((k2.trans k3).sub fun j hj => List.mem_cons_of_mem _ (hZ j hj).1)), .inl ⟨ad, l3, _, _, e3, dropY H3, M⟩⟩
  · have tn := take_none H.fi hcl.1 hr
    refine ok_cl (ctake_ok H1.hp n tn H.fi H.cy.wf) ?_
    rintro _ g2 ⟨rfl, P2, s2⟩
    simp only at P2 s2
    obtain ⟨H2, k2⟩ := HY.turn s2 P2
    have z5 : decide ((5 : Int) = 5) = true := rfl
    refine Ok.eq ?_ (by simp -implicitDefEqProofs only [extractV_tup, e0, e1, Option.bind_some, eql_int, decide_true, condE_true, nilV_ptr, faP_ptr, Nat.zero_add, P2.ld0] <;> rfl)
    have R2 : Rt g2 x1 G (tb :: X) := ((R.kp (KpX.same s1)).kp (k2.sub fun j hj => List.mem_cons_of_mem _ (hZ j hj).1)).up fun j hj => List.mem_cons_of_mem _ (hZ j hj).1
    refine ok_cl (whole_ok H2.cy R2 hG) ?_
    rintro _ g3 ⟨rfl, l2, qb3, us3, C3, k3, hWR⟩
    simp only at C3 k3
    have f2 := hW l2 hWR
    have H3 := H2.whole C3 k3 f2
    have wd : IntKind.i64.wrap (dn + 1) = dn + 1 := wrap_i64 (by omega) (by omega)
    have wF : IntKind.i64.wrap (F + 1) = F + 1 := wrap_i64 (by omega) (by omega)
    rw [wd] at H3
    obtain ⟨v3, hv3, _⟩ := H3.hpb
    have lF : ldS g3 (.ptr (some (C 0, 2))) = some (.int .i64 F) := by rw [ldS_at hv3]; rfl
    obtain ⟨g4, st4, H4, s4⟩ := H3.forced (F + 1)
    refine Ok.eq ?_ (by simp -implicitDefEqProofs only [nilV_ptr, faP_ptr, Nat.zero_add, Option.bind_some, lF, bin_add, wF, st4, cl_some, H4.hp.ld0] <;> rfl)
    have htbC : tb ≠ C 0 := fun e => by have := H.cy.lt 0 (by decide); omega
    have p4 : g4.get tb = some (.cells true s.row) := by
      have k23 := k2.trans k3
      exact (s4.get tb (Nat.lt_of_lt_of_le (by omega) k23.next) (by simp; exact htbC)).trans ((k23.get tb (List.mem_cons_self ..) (by omega)).trans p1)
    have ltb4 : tb < g4.next := Nat.lt_of_lt_of_le (Nat.lt_of_lt_of_le (by omega) (k2.trans k3).next) s4.next
    have kZ : KpX Z h g4 := ((KpX.same s1).trans ((k2.trans k3).sub fun j hj => List.mem_cons_of_mem _ (hZ j hj).1)).trans (KpX.of s4 (fun j hj hm => by simp at hj; exact (hZ j hm).2 hj))
    by_cases hr2 : room l2 (classOf n)
    · obtain ⟨ad, l', e, f', w', _⟩ := atake_lies f2 H4.cy.wf (n := n) hcl.1 hr2
      refine ok_cl (ctake_ok H4.hp n e f' w') ?_
      rintro _ g5 ⟨rfl, P5, s5⟩
      simp only at P5 s5
      obtain ⟨H5, k5⟩ := H4.turn s5 P5
      have p5 := (k5.get tb (List.mem_cons_self ..) ltb4).trans p4
      refine Ok.eq ?_ (by simp -implicitDefEqProofs only [extractV_tup, e0, e1, Option.bind_some] <;> rfl)
      refine (tail_ok P5 hx h1 h2 p5 (Nat.lt_of_lt_of_le ltb4 k5.next) ⟨0, e⟩ f2 H4.cy.wf hr2).mono ?_
      rintro r ⟨l3, e3, P6, s6, M⟩
      obtain ⟨H6, k6⟩ := H5.turn s6 P6
      exact ⟨kZ.trans ((k5.trans k6).sub fun j hj => List.mem_cons_of_mem _ (hZ j hj).1), .inr ⟨l2, hr, hWR, f2, H4.cy.wf, .inl ⟨ad, l3, _, _, e3, dropY H6, M⟩⟩⟩
    · have tn2 := take_none f2 hcl.1 hr2
      refine ok_cl (ctake_ok H4.hp n tn2 f2 H4.cy.wf) ?_
      rintro _ g5 ⟨rfl, P5, s5⟩
      simp only at P5 s5
      obtain ⟨H5, k5⟩ := H4.turn s5 P5
      exact ok_val (v := .tup [.int .i64 0, .int .i64 5]) (g := g5) (by
        simp -implicitDefEqProofs only [extractV_tup, e0, e1, Option.bind_some, k_heap_Heap_Make_j0, neq_int, show ((5 : Int) = 0) = False by simp, decide_false, Bool.not_false, condE_true])
        ⟨kZ.trans (k5.sub fun j hj => List.mem_cons_of_mem _ (hZ j hj).1), .inr ⟨l2, hr, hWR, f2, H4.cy.wf, .inr ⟨_, _, rfl, dropY H5, hr2⟩⟩⟩
end
end Go.Ab.F

namespace Go.Ab.F
open Go Go.Ab
set_option linter.all false
set_option linter.all false

/-! HeapForced: what is there. -/
def hd14 (n : Int) : Int := n + 128 * 1 + 1024 * ((1 : Nat) : Int)
/-- All that is there was made so. -/
def InvA (n : Int) (a : PAr) : Prop := ∀ ad, a.find ad ≠ none → ∃ vs, Lies a ad (hd14 n :: vs) ∧ ((vs.length : Int) + 1 = wordsOf (classOf n))
theorem inv_fields {n : Int} {a : PAr} (H : Wf a) (hn : 1 ≤ n ∧ n ≤ 64) (I : InvA n a) (x : Int) : fieldsL sh14 a x = [] := by
  cases hf : a.find x with
  | none =>
    unfold fieldsL
    rw [read_no hf, if_neg (by decide)]
  | some y =>
    obtain ⟨vs, L, _⟩ := I x (by rw [hf]; simp)
    have hp := L.pos H
    have hr : a.read x 0 = (hd14 n, 0) := by
      rw [L.read H, if_pos ⟨by omega, by omega⟩]
      simp
    have hu : unp (hd14 n) = some (n, 1, ((1 : Nat) : Int)) := unp_pack ⟨by omega, by omega, by omega, by omega, by omega, by omega⟩
    unfold fieldsL
    rw [hr]
    simp only [if_true, hu]
    split
    · rfl
    · have : sh14[((1 : Nat) : Int).toNat]? = some ⟨1, 0, 0⟩ := rfl
      rw [this]
      simp only
      unfold fieldsUp
      rw [List.filterMap_eq_nil_iff]
      intro i hi
      have hb : holdsB ⟨1, 0, 0⟩ (i : Nat) n = false := by
        unfold holdsB
        split
        · rfl
        · rfl
      rw [if_neg (by rw [hb]; simp)]
theorem whole_fi {a : PAr} {l' : PAl} {K : Int → Prop} (W : Whole a l' K) : Fi l' := ⟨W.un, W.wf.fi, W.ul⟩
theorem words_inj {a b : Int} (ha : 0 ≤ a ∧ a ≤ 5) (hb : 0 ≤ b ∧ b ≤ 5) (h : wordsOf a = wordsOf b) : a = b := by
  rcases (by omega : a = 0 ∨ a = 1 ∨ a = 2 ∨ a = 3 ∨ a = 4 ∨ a = 5) with rfl | rfl | rfl | rfl | rfl | rfl <;>
  rcases (by omega : b = 0 ∨ b = 1 ∨ b = 2 ∨ b = 3 ∨ b = 4 ∨ b = 5) with rfl | rfl | rfl | rfl | rfl | rfl <;>
  first | rfl | (exfalso; revert h; decide)
theorem cnt_listI {f : Int → Nat} {N : Nat} : ∀ (D : List Int), (∀ t ∈ D, f t < N) → (D.Pairwise fun t u => f t ≠ f u) → cnt (fun j => D.any fun t => decide (f t = j)) N = D.length
  | [], _, _ => cnt_zero.2 fun j _ => rfl
  | t :: D, h, hp => by
    rw [List.pairwise_cons] at hp
    have := cnt_ins (f t) (fun j => D.any fun u => decide (f u = j)) (by rw [List.any_eq_false]; intro u hu; simp; exact fun e => hp.1 u hu e.symm) N
    have h1 := h t (by simp)
    rw [cnt_listI D (fun u hu => h u (List.mem_cons_of_mem _ hu)) hp.2] at this
    simp only [List.any_cons, List.length_cons]
    rw [this]; simp [h1]
theorem cnt_all : ∀ n, cnt (fun _ => true) n = n
  | 0 => rfl
  | n + 1 => by rw [cnt, cnt_all n]; rfl
theorem inv_cls {n : Int} {a : PAr} (H : Wf a) (hn : 1 ≤ n ∧ n ≤ 64) (I : InvA n a) {ad m : Int} {q : Nat} (h : a.find ad = some (m, q)) : a.cls m = classOf n ∧ 1 ≤ m ∧ m < a.sp.length ∧ q < pls (classOf n) ∧ ad = m * 64 + q * wordsOf (classOf n) := by
  obtain ⟨vs, L, hl⟩ := I ad (by rw [h]; simp)
  obtain ⟨e, h1, h2, h3⟩ := L.en
  have := placed_find' H h2
  rw [h1, h] at this
  injection this with this
  injection this with e1 e2
  have r := placed_rm H h2
  have hc := class_some hn.1 hn.2
  have hcr : 0 ≤ classOf n ∧ classOf n ≤ 5 := by
    rcases classOf_range n with h | h
    · exact absurd h hc.1
    · exact ⟨h.1, h.2.1⟩
  have ec : e.c = classOf n := words_inj ⟨r.1, r.2.1⟩ hcr (by rw [← h3, ← hl]; simp)
  obtain ⟨f1, f2, f3, f4, f5, f6, f7⟩ := find_some h
  have hcc : (a.at m).cls = classOf n := by rw [← ec, ← h2.2.1, e1]
  obtain ⟨P0, _⟩ := pls_eq hcr
  rw [hcc] at f3 f5
  exact ⟨by rw [cls_at f1, hcc], f1.1, f1.2, by omega, f5⟩
/-- All of it is full. -/
theorem full_count {n : Int} {l2 : PAl} {K : List Int} (H : Wf l2.ar) (hn : 1 ≤ n ∧ n ≤ 64) (I : InvA n l2.ar) (hs : l2.ar.sp.length = 8) (hu : l2.un.length = l2.ar.sp.length) (hf : ∀ ad, l2.ar.find ad ≠ none ↔ ad ∈ K) (hK : K.Nodup) (hc : ∀ m : Int, l2.ar.cls m ≠ -1 → ∃ ad q, l2.ar.find ad = some (m, q)) (hr : ¬ room l2 (classOf n)) :
    K.length = 7 * pls (classOf n) := by
  have hcs := class_some hn.1 hn.2
  have hcr : 0 ≤ classOf n ∧ classOf n ≤ 5 := by
    rcases classOf_range n with h | h
    · exact absurd h hcs.1
    · exact ⟨h.1, h.2.1⟩
  obtain ⟨P0, P1, P2, W1, W2, P5⟩ := pls_eq hcr
  have hcl : ∀ m : Nat, 1 ≤ m → m < 8 → l2.ar.cls m = classOf n ∧ l2.ar.taken m = fullB (classOf n) := fun m m1 m8 => by
    have hne : l2.ar.cls m ≠ -1 := fun h => hr ⟨m, m1, by omega, .inl h⟩
    obtain ⟨ad, q, h⟩ := hc m hne
    have h1 := (inv_cls H hn I h).1
    refine ⟨h1, ?_⟩
    apply Classical.byContradiction
    intro h2
    exact hr ⟨m, m1, by omega, .inr ⟨h1, h2⟩⟩
  let p := pls (classOf n)
  let f : Int → Nat := fun ad => (spanOf ad - 1).toNat * pls (classOf n) + (placeOf ad (classOf n)).toNat
  have hfa : ∀ (m q : Nat), 1 ≤ m → m < 8 → q < pls (classOf n) → f ((m : Int) * 64 + q * wordsOf (classOf n)) = (m - 1) * pls (classOf n) + q := fun m q m1 m8 hq => by
    have hwp := wp_cases (classOf n) q (by omega) (by omega)
    have e1 : spanOf ((m : Int) * 64 + q * wordsOf (classOf n)) = m := spanOf_at ⟨by omega, by omega⟩ (Int.mul_nonneg (by omega) (by omega)) (by omega)
    have e2 : placeOf ((m : Int) * 64 + q * wordsOf (classOf n)) (classOf n) = q := placeOf_at ⟨by omega, by omega⟩ (by omega)
    show (spanOf _ - 1).toNat * _ + (placeOf _ _).toNat = _
    rw [e1, e2, Int.toNat_natCast, show ((m : Int) - 1).toNat = m - 1 by omega]
  have hfk : ∀ ad ∈ K, ∃ m q : Nat, 1 ≤ m ∧ m < 8 ∧ q < pls (classOf n) ∧ ad = (m : Int) * 64 + q * wordsOf (classOf n) := fun ad had => by
    obtain ⟨⟨m, q⟩, h⟩ := Option.ne_none_iff_exists'.1 ((hf ad).2 had)
    obtain ⟨_, m1, m2, hq, he⟩ := inv_cls H hn I h
    refine ⟨m.toNat, q, by omega, by omega, hq, ?_⟩
    rw [he, show ((m.toNat : Nat) : Int) = m by omega]
  have hlt : ∀ t ∈ K, f t < 7 * pls (classOf n) := fun t ht => by
    obtain ⟨m, q, m1, m8, hq, rfl⟩ := hfk t ht
    rw [hfa m q m1 m8 hq]
    have : (m - 1) * pls (classOf n) ≤ 6 * pls (classOf n) := Nat.mul_le_mul_right _ (by omega)
    omega
  have hpw : K.Pairwise fun t u => f t ≠ f u := by
    refine List.Pairwise.imp_of_mem ?_ hK
    intro t u ht hu' hne e
    obtain ⟨m, q, m1, m8, hq, rfl⟩ := hfk t ht
    obtain ⟨m', q', m1', m8', hq', rfl⟩ := hfk u hu'
    rw [hfa m q m1 m8 hq, hfa m' q' m1' m8' hq'] at e
    apply hne
    have hq2 : q = q' := by
      have h1 : ((m - 1) * pls (classOf n) + q) % pls (classOf n) = ((m' - 1) * pls (classOf n) + q') % pls (classOf n) := by rw [e]
      rw [Nat.mul_comm (m - 1), Nat.mul_comm (m' - 1), Nat.mul_add_mod, Nat.mul_add_mod, Nat.mod_eq_of_lt hq, Nat.mod_eq_of_lt hq'] at h1
      exact h1
    subst hq2
    have h2 : (m - 1) * pls (classOf n) = (m' - 1) * pls (classOf n) := by omega
    have h3 := Nat.eq_of_mul_eq_mul_right (by omega) h2
    have : m = m' := by omega
    rw [this]
  rw [← cnt_listI K hlt hpw]
  rw [← cnt_all (7 * pls (classOf n))]
  rw [cnt_all]
  have : cnt (fun j => K.any fun t => decide (f t = j)) (7 * pls (classOf n)) = cnt (fun _ => true) (7 * pls (classOf n)) := by
    apply cnt_congr
    intro j hj
    rw [List.any_eq_true]
    have hq : j % pls (classOf n) < pls (classOf n) := Nat.mod_lt _ (by omega)
    have hm : j / pls (classOf n) < 7 := Nat.div_lt_of_lt_mul (by rw [Nat.mul_comm]; exact hj)
    have hjj : j / pls (classOf n) * pls (classOf n) + j % pls (classOf n) = j := by rw [Nat.mul_comm]; exact Nat.div_add_mod j _
    generalize j / pls (classOf n) = u at *
    generalize j % pls (classOf n) = w at *
    obtain ⟨h1, h2⟩ := hcl (u + 1) (by omega) (by omega)
    have hhas := cls_has (a := l2.ar) (n := ((u + 1 : Nat) : Int)) (by rw [h1]; exact hcs.1)
    have hfd := find_at (a := l2.ar) H.hi hhas.1 (q := w) (by rw [← hhas.2, h1]; omega)
    have htk : (l2.ar.at ((u + 1 : Nat) : Int)).tk.getLsbD (w) = true := by
      have : l2.ar.taken ((u + 1 : Nat) : Int) = (l2.ar.at ((u + 1 : Nat) : Int)).tk := by unfold PAr.taken; rw [if_neg (by rw [h1]; exact hcs.1)]
      rw [← this, h2, full_bits hcr _ (by omega)]
      simp [hq]
    rw [htk, if_pos rfl, ← hhas.2, h1] at hfd
    refine ⟨_, (hf _).1 (by rw [hfd]; simp), ?_⟩
    rw [hfa _ _ (by omega) (by omega) hq]
    simp [hjj]
  rw [this, cnt_all]
end Go.Ab.F

namespace Go.Ab.F
open Go Go.Ab
set_option linter.all false
set_option linter.all false
attribute [local congr] c_bind c_cl c_mk c_lp c_clC c_gQ c_gV c_condE c_thenK

/-! HeapForced: who holds the globals turns. -/
section
variable {h : Heap} {C : Nat → Nat} {l : PAl} {T : List Shp} {F : Int} {qb : Option Nat} {dn us : Int} {X : List Nat}
theorem HpC.swap {g : Heap} {S Y : List Nat} (H : HpC h C l T F qb dn us X) (s : Same S h g) (hS : ∀ j ∈ S, j ∈ X ∧ j ≠ C 0 ∧ j ≠ C 10 ∧ j ≠ 0) (hY : ∀ j ∈ Y, (j ∈ X ∨ h.next ≤ j) ∧ j < g.next) (y0 : 0 ∈ Y) (y1 : C 0 ∈ Y) (y2 : C 10 ∈ Y) : HpC g C l T F qb dn us Y := by
  have nC : ∀ i, i < 14 → C i ∉ S := fun i hi hm => by
    obtain ⟨h1, h2, h3, _⟩ := hS _ hm
    by_cases e0 : i = 0
    · subst e0; exact h2 rfl
    by_cases e10 : i = 10
    · subst e10; exact h3 rfl
    exact H.cy.xC i hi e0 e10 h1
  obtain ⟨w, hg, hq⟩ := H.cy.gqb
  obtain ⟨v, hv, hs⟩ := H.hpb
  exact
  { cy :=
    { cyb := (s.get _ (H.cy.lt 1 (by decide)) (nC 1 (by decide))).trans H.cy.cyb
      mkb := (s.get _ (H.cy.lt 11 (by decide)) (nC 11 (by decide))).trans H.cy.mkb
      gqb := ⟨w, (s.get _ (H.cy.lt 12 (by decide)) (nC 12 (by decide))).trans hg, hq.keep s (fun i hi hm => (H.cy.xq i hi).1 (hS i hm).1)⟩
      bmb := (s.get _ (H.cy.lt 13 (by decide)) (nC 13 (by decide))).trans H.cy.bmb
      tab := H.cy.tab.same s (nC 2 (by decide)) (nC 3 (by decide)) (fun i hi => by cases hi; exact nC 9 (by decide))
      al := H.cy.al.same s (nC 4 (by decide)) (nC 5 (by decide)) (nC 6 (by decide)) (nC 7 (by decide)) (nC 8 (by decide))
      wf := H.cy.wf
      lt := fun i hi => Nat.lt_of_lt_of_le (H.cy.lt i hi) s.next
      pos := H.cy.pos, inj := H.cy.inj
      t0 := H.cy.t0.same s (fun hm => (hS 0 hm).2.2.2 rfl)
      xC := fun i hi h0 h10 hm => by
        rcases (hY _ hm).1 with h1 | h1
        · exact H.cy.xC i hi h0 h10 h1
        · have := H.cy.lt i hi; omega
      xq := fun i hi => by
        have h1 := H.cy.xq i hi
        have h2 := (hq.blk i hi).2.1
        exact ⟨fun hm => by
          rcases (hY _ hm).1 with h3 | h3
          · exact h1.1 h3
          · omega, h1.2⟩
      x0 := y0
      xl := fun j hj => (hY j hj).2 }
    hpb := ⟨v, (s.get _ (H.cy.lt 0 (by decide)) (nC 0 (by decide))).trans hv, hs.same s (fun i hi => by cases hi; exact nC 10 (by decide))⟩
    fi := H.fi, x0 := y1, x10 := y2 }
end
theorem added_slb {g : Heap} {b : Option Nat} {v : AV} {L : List Int} (hv : SlB g b 1 v (wsC L) L.length) : countA v = some L.length ∧ ∀ g' : Heap, (∀ i, b = some i → g'.get i = g.get i) → addedA g' 1 v = some (wsC L) := by
  cases b with
  | none =>
    have e : v = .sl none 0 (.ex 0) := hv.eq
    obtain rfl : L = [] := List.eq_nil_of_length_eq_zero (hv.nil rfl)
    subst e
    exact ⟨rfl, fun _ _ => rfl⟩
  | some i =>
    have e : v = .sl (some (i, 0)) L.length (.un 1) := hv.eq
    obtain ⟨b1, b2, b3⟩ := hv.blk i rfl
    subst e
    refine ⟨rfl, fun g' hg => ?_⟩
    have : loadN g' (i, 0) (L.length * 1) = some (wsC L) := by
      simp only [loadN, hg i rfl, b2, spanF_eq]
      have hl : (wsC L).length = L.length * 1 := by rw [wsC_len]; omega
      rw [span_some _ _ _ (by omega), List.drop_zero, ← hl, List.take_length]
    simp only [addedA, this]
/-- Who holds the globals. -/
structure Nob (g : Heap) (nb : Nat) (bv : Option Nat) (v : AV) (K : List Int) : Prop where
  box : g.get nb = some (.cells true [v])
  lst : SlB g bv 1 v (wsC K) K.length
  lt : nb < g.next
  ne : bv ≠ some nb
theorem Nob.rt {g : Heap} {nb : Nat} {bv : Option Nat} {v : AV} {K : List Int} (H : Nob g nb bv v K) {Z : List Nat} (h1 : nb ∈ Z) (h2 : ∀ j, bv = some j → j ∈ Z) : Rt g (.ifc 30 (.ptr (some (nb, 0)))) K Z := by
  obtain ⟨c, a⟩ := added_slb H.lst
  exact ⟨30, nb, v, rfl, .inl rfl, fun g' k => ⟨(k.get nb h1 H.lt).trans H.box, a g' fun i hi => k.get i (h2 i hi) (H.lst.blk i hi).1⟩, c⟩
theorem Nob.kp {g g' : Heap} {nb : Nat} {bv : Option Nat} {v : AV} {K : List Int} (H : Nob g nb bv v K) {Z : List Nat} (h1 : nb ∈ Z) (h2 : ∀ j, bv = some j → j ∈ Z) (k : KpX Z g g') : Nob g' nb bv v K :=
  ⟨(k.get nb h1 H.lt).trans H.box, ⟨H.lst.len, H.lst.sc, H.lst.eq, H.lst.nil, fun i hi => by
    obtain ⟨b1, b2, b3⟩ := H.lst.blk i hi
    exact ⟨Nat.lt_of_lt_of_le b1 k.next, (k.get i (h2 i hi) b1).trans b2, b3⟩⟩, Nat.lt_of_lt_of_le H.lt k.next, H.ne⟩
def Zb (nb : Nat) (bv : Option Nat) : List Nat := nb :: 0 :: bv.toList
def Xb (C : Nat → Nat) (nb : Nat) (bv : Option Nat) : List Nat := C 0 :: C 10 :: Zb nb bv
/-- The state between two makings. -/
structure Fs (n hold : Nat) (g : Heap) (C : Nat → Nat) (nb : Nat) (bv : Option Nat) (v : AV) (K : List Int) (l : PAl) (F : Int) (i : Nat) : Prop where
  hp : ∃ qb us, HpC g C l sh14 F qb F us (Xb C nb bv)
  nob : Nob g nb bv v K
  inv : InvA n l.ar
  len : l.ar.sp.length = 8
  nd : K.Nodup
  held : ∀ (j : Nat) ad, K[j]? = some ad → ∃ ws, Lies l.ar ad (hd14 n :: ((j * hold : Nat) : Int) :: ws)
  lo : i ≤ K.length * hold
  hi : K.length * hold < i + hold
  F0 : 0 ≤ F
  Fi : F ≤ i
  nC : nb ≠ C 0 ∧ nb ≠ C 10 ∧ nb ≠ 0
  bC : ∀ j, bv = some j → j ≠ C 0 ∧ j ≠ C 10 ∧ j ≠ 0
theorem made_inv {n : Int} {l l' : PAl} {ad : Int} {W : List Int} (hW : W = hd14 n :: List.replicate ((wordsOf (classOf n)).toNat - 1) 0) (hn : 1 ≤ n ∧ n ≤ 64) (M : Made l l' ad W) (I : InvA n l.ar) : InvA n l'.ar := by
  intro x hx
  have hc := class_some hn.1 hn.2
  by_cases e : x = ad
  · subst e
    exact ⟨_, by have := M.lies; rw [hW] at this; exact this, by rw [List.length_replicate]; omega⟩
  · obtain ⟨vs, L, hl⟩ := I x (by rw [← M.find x e]; exact hx)
    exact ⟨vs, M.old x _ e L, hl⟩
end Go.Ab.F

namespace Go.Ab.F
open Go Go.Ab
set_option linter.all false
set_option linter.all false
attribute [local congr] c_bind c_cl c_mk c_lp c_clC c_gQ c_gV c_condE c_thenK

theorem ofP_liesF {a : PAr} {T : List Shp} {ad : Int} {ws : List Int} {n k : Int} {sx : Nat} {s : Shp} (W : Wf a) (L : Lies a ad ws) (h0 : ws[0]? = some (n + 128 * k + 1024 * sx)) (hm : mayP n k sx) (hs : T[sx]? = some s) :
    ofP a T ad = some ((n, k, (sx : Int)), s) := by
  have hp := L.pos W
  have hr : a.read ad 0 = (n + 128 * k + 1024 * sx, 0) := by
    rw [L.read W, if_pos ⟨by omega, by omega⟩]
    simp [h0]
  unfold ofP
  rw [hr]
  simp only [if_true, unp_pack hm, Int.toNat_natCast, hs]
theorem ofP_14 {a : PAr} {n ad : Int} {vs : List Int} (W : Wf a) (hn : 1 ≤ n ∧ n ≤ 64) (L : Lies a ad (hd14 n :: vs)) : ofP a sh14 ad = some ((n, 1, ((1 : Nat) : Int)), ⟨1, 0, 0⟩) :=
  ofP_liesF (T := sh14) (n := n) (k := 1) (sx := 1) W L rfl ⟨by omega, by omega, by omega, by omega, by omega, by omega⟩ rfl
theorem elP_14 {n i : Int} (h0 : 0 ≤ i) (h1 : i < n - 1) : elP (some ((n, 1, ((1 : Nat) : Int)), ⟨1, 0, 0⟩)) i false = 0 := by
  show (if (1 : Int) ≠ 1 ∨ (0 : BitVec 64).getLsbD 0 ≠ false then 1 else if i < 0 ∨ n - 1 ≤ i then 2 else 0 : Int) = 0
  rw [if_neg (by decide), if_neg (by omega)]
theorem rem_nat (i hold : Nat) (hh : 1 ≤ hold ∧ hold ≤ 50) (hi : i ≤ 400) : binP .rem (.int .i64 (i : Int)) (.int .i64 (hold : Int)) = some (.int .i64 ((i % hold : Nat) : Int)) := by
  have hm : i % hold ≤ i := Nat.mod_le _ _
  rw [bin_rem, if_neg (by omega), rem_nonneg (by omega)]
  rfl
theorem mult_eq {K hold i : Nat} (hh : 1 ≤ hold) (h1 : i ≤ K * hold) (h2 : K * hold < i + hold) (h0 : i % hold = 0) : K * hold = i := by
  have e := Nat.div_add_mod i hold
  rw [h0, Nat.add_zero] at e
  generalize i / hold = u at *
  subst e
  rw [Nat.mul_comm K] at h1 h2 ⊢
  have a1 : u ≤ K := Nat.le_of_mul_le_mul_left h1 (by omega)
  have a2 : K < u + 1 := Nat.lt_of_mul_lt_mul_left (a := hold) (by rw [Nat.mul_add]; omega)
  have : K = u := by omega
  rw [this]
def StepQ (n hold : Nat) (C : Nat → Nat) (nb i : Nat) (r : Ex × List AV × Heap) : Prop :=
  (r.1 = .normal ∧ r.2.1 = [.bool false, .int .i64 ((i + 1 : Nat) : Int), .int .i64 ((i + 1 : Nat) : Int)] ∧ ∃ bv' v' K' l' F', Fs n hold r.2.2 C nb bv' v' K' l' F' (i + 1)) ∨ (r.1 = .ret ∧ r.2.1.getD 0 .bot = .bool true)
theorem forced_step {n hold : Nat} {g : Heap} {C : Nat → Nat} {nb : Nat} {bv : Option Nat} {v : AV} {K : List Int} {l : PAl} {F : Int} {i N : Nat} (S : Fs n hold g C nb bv v K l F i) (hn : 2 ≤ n ∧ n ≤ 64) (hh : 1 ≤ hold ∧ hold ≤ 50) (hi : i < N) (hN : N ≤ 400) :
    Ok (k_law14_HeapForced_b0 (.int .i64 N) (.int .i64 hold) (.int .i64 n) (.ptr (some (C 0, 0))) (.ptr (some (nb, 0))) (.bool false) (.int .i64 i) (.int .i64 i) g) (StepQ n hold C nb i) := by
  obtain ⟨qb, us, H⟩ := S.hp
  have hn1 : (1 : Int) ≤ n ∧ (n : Int) ≤ 64 := ⟨by omega, by omega⟩
  have hcs := class_some hn1.1 hn1.2
  have hcr : 0 ≤ classOf n ∧ classOf n ≤ 5 := by
    rcases classOf_range n with h | h
    · exact absurd h hcs.1
    · exact ⟨h.1, h.2.1⟩
  obtain ⟨P0, P1, P2, W1, W2, _⟩ := pls_eq hcr
  obtain ⟨nC0, nC10, nz⟩ := S.nC
  have hKl : K.length ≤ 450 := by
    have h1 := S.hi
    have h2 : K.length * 1 ≤ K.length * hold := Nat.mul_le_mul_left _ hh.1
    omega
  have inZ : nb ∈ Zb nb bv := List.mem_cons_self ..
  have inZb : ∀ j, bv = some j → j ∈ Zb nb bv := fun j hj => by subst hj; simp [Zb]
  have hZ : ∀ j ∈ Zb nb bv, j ∈ Xb C nb bv ∧ j ≠ C 0 := fun j hj => by
    refine ⟨List.mem_cons_of_mem _ (List.mem_cons_of_mem _ hj), ?_⟩
    simp only [Zb, List.mem_cons, Option.mem_toList] at hj
    rcases hj with rfl | rfl | hj
    · exact nC0
    · exact fun e => H.cy.pos 0 (by decide) e.symm
    · exact (S.bC j hj).1
  have R := S.nob.rt inZ inZb
  have hwn : ∀ l2, WholeR sh14 l K l2 → Whole l.ar l2 (fun ad => ad ∈ K) := fun l2 hw => whole_none H.cy.wf H.cy.al.len (inv_fields H.cy.wf hn1 S.inv) hw
  have hlt : (i : Int) < N := by omega
  have F0 := S.F0
  have Fi := S.Fi
  refine Ok.eq ?_ (by simp -implicitDefEqProofs only [k_law14_HeapForced_b0, bin_lss, hlt, decide_true, Option.bind_some, condE_true] <;> rfl)
  refine ok_cl (makef_ok H R hZ (by omega) (sx := 1) (s := ⟨1, 0, 0⟩) rfl hn1.1 hn1.2 (fun l2 hw => whole_fi (hwn l2 hw)) ⟨F0, by omega⟩ ⟨F0, by omega⟩) ?_
  rintro v1 g1 ⟨kz, hE⟩
  simp only at kz
  have N1 := S.nob.kp inZ inZb kz
  have hE' : (∃ ad l3 lb F' qb' us', v1 = .tup [.int .i64 ad, .int .i64 0] ∧ HpC g1 C l3 sh14 F' qb' F' us' (Xb C nb bv) ∧ Made lb l3 ad (hd14 n :: List.replicate ((wordsOf (classOf n)).toNat - 1) 0) ∧ InvA n lb.ar ∧ Wf lb.ar ∧ lb.ar.sp.length = 8 ∧ (∀ (j : Nat) ad, K[j]? = some ad → ∃ ws, Lies lb.ar ad (hd14 n :: ((j * hold : Nat) : Int) :: ws)) ∧ 0 ≤ F' ∧ F' ≤ ((i + 1 : Nat) : Int)) ∨
      (∃ l2 qb' us', v1 = .tup [.int .i64 0, .int .i64 5] ∧ HpC g1 C l2 sh14 (F + 1) qb' (F + 1) us' (Xb C nb bv) ∧ K.length = 7 * pls (classOf n)) := by
    rcases hE with ⟨ad, l3, qb', us', h1, h2, h3⟩ | ⟨l2, hr, hw, f2, w2, (⟨ad, l3, qb', us', h1, h2, h3⟩ | ⟨qb', us', h1, h2, hr2⟩)⟩
    · exact .inl ⟨ad, l3, l, F, qb', us', h1, h2, h3, S.inv, H.cy.wf, S.len, S.held, F0, by omega⟩
    · have W := hwn l2 hw
      left
      refine ⟨ad, l3, l2, F + 1, qb', us', h1, h2, h3, fun x hx => ?_, w2, W.len.trans S.len, fun j ad' hj => ?_, by omega, by omega⟩
      · obtain ⟨x1, x2⟩ := (W.find x).1 hx
        obtain ⟨vs, L, hl⟩ := S.inv x x1
        exact ⟨vs, W.lies x _ L x2, hl⟩
      · obtain ⟨ws, L⟩ := S.held j ad' hj
        exact ⟨ws, W.lies ad' _ L (List.mem_of_getElem? hj)⟩
    · have W := hwn l2 hw
      right
      refine ⟨l2, qb', us', h1, h2, full_count w2 hn1 (fun x hx => ?_) (W.len.trans S.len) W.ul (fun ad => ?_) S.nd W.cls hr2⟩
      · obtain ⟨x1, x2⟩ := (W.find x).1 hx
        obtain ⟨vs, L, hl⟩ := S.inv x x1
        exact ⟨vs, W.lies x _ L x2, hl⟩
      · rw [W.find ad]
        refine ⟨fun h => h.2, fun h => ⟨?_, h⟩⟩
        obtain ⟨j, hj⟩ := List.getElem?_of_mem h
        obtain ⟨ws, L⟩ := S.held j ad hj
        obtain ⟨m, q, hf⟩ := L.find H.cy.wf
        rw [hf]; simp
  clear hE
  rcases hE' with ⟨ad, l3, lb, F', qb', us', rfl, H3, M, Ib, Wb, lb8, hb, F0', Fi'⟩ | ⟨l2, qb', us', rfl, H3, hfull⟩
  · -- it was made
    have I3 := made_inv rfl hn1 M Ib
    have hnew : ∀ x ∈ K, x ≠ ad := fun x hx e => by
      obtain ⟨j, hj⟩ := List.getElem?_of_mem hx
      obtain ⟨ws, L⟩ := hb j x hj
      obtain ⟨m, q, hf⟩ := L.find Wb
      rw [e, M.new] at hf; cases hf
    have h3 : ∀ (j : Nat) ad, K[j]? = some ad → ∃ ws, Lies l3.ar ad (hd14 n :: ((j * hold : Nat) : Int) :: ws) := fun j x hj => by
      obtain ⟨ws, L⟩ := hb j x hj
      exact ⟨ws, M.old x _ (hnew x (List.mem_of_getElem? hj)) L⟩
    have sc : IntKind.i64.wrap ((i : Int) + 1) = ((i + 1 : Nat) : Int) := suc64 i (by omega)
    refine Ok.eq ?_ (by simp -implicitDefEqProofs only [extractV_tup, e0, e1, Option.bind_some, neq_int, decide_true, Bool.not_true, condE_false, bin_add, sc, rem_nat i hold hh (by omega), eql_int] <;> rfl)
    have hlo := S.lo
    have hhi := S.hi
    by_cases hm : i % hold = 0
    · have hKi := mult_eq hh.1 hlo hhi hm
      have dm : decide (((i % hold : Nat) : Int) = 0) = true := by simp [hm]
      have lv : ldS g1 (.ptr (some (nb, 0))) = some v := by rw [ldS_at N1.box]; rfl
      refine Ok.eq ?_ (by simp -implicitDefEqProofs only [dm, condE_true, nilV_ptr, faP_ptr, Nat.zero_add, Option.bind_some, lv] <;> rfl)
      refine app1 (t := .int .i64 ad) N1.lst rfl rfl rfl (by decide) (by omega) fun v' g2 hv' s2 n2 => ?_
      have hcells : wsC K ++ (AV.int .i64 ad).cells = wsC (K ++ [ad]) := by rw [wsC_app]; rfl
      rw [hcells] at hv'
      have hl' : (K ++ [ad]).length = K.length + 1 := by simp
      have nbS : nb ∉ bv.toList := fun hm => by
        rw [Option.mem_toList] at hm
        exact N1.ne hm
      have box2 : g2.get nb = some (.cells true [v]) := (s2.get nb N1.lt nbS).trans N1.box
      have lt2 := N1.lt
      have st : stP 1 g2 (.ptr (some (nb, 0))) v' = some (.bot, g2.put nb (some (.cells true [v']))) := stP_one box2 (by simp) hv'.scv
      have s3 : Same (nb :: bv.toList) g1 (g2.put nb (some (.cells true [v']))) := (s2.sub (fun j hj => List.mem_cons_of_mem _ hj)).trans ((Same.put _ _ _).sub (by simp))
      have p3 : (g2.put nb (some (.cells true [v']))).get nb = some (.cells true [v']) := get_put_eq
      have v3 : SlB (g2.put nb (some (.cells true [v']))) (some (g1.next + 1)) 1 v' (wsC (K ++ [ad])) (K ++ [ad]).length := by
        rw [hl']; exact hv'.same (Same.put _ _ _) (fun j hj => by cases hj; simp; omega)
      have n3 : (g2.put nb (some (.cells true [v']))).next = g1.next + 2 := n2
      refine Ok.eq ?_ (by simp -implicitDefEqProofs only [nilV_ptr, faP_ptr, Nat.zero_add, Option.bind_some, st, cl_some] <;> rfl)
      generalize g2.put nb (some (.cells true [v'])) = g3 at *
      have hc0 := H3.cy.lt 0 (by decide)
      have hc10 := H3.cy.lt 10 (by decide)
      have H4 : HpC g3 C l3 sh14 F' qb' F' us' (Xb C nb (some (g1.next + 1))) := H3.swap s3 (fun j hj => by
          rw [List.mem_cons, Option.mem_toList] at hj
          rcases hj with rfl | hj
          · exact ⟨by simp [Xb, Zb], nC0, nC10, nz⟩
          · exact ⟨by simp [Xb, Zb, hj], S.bC j hj⟩) (fun j hj => by
          simp only [Xb, Zb, Option.toList_some, List.mem_cons, List.not_mem_nil, or_false] at hj ⊢
          rcases hj with rfl | rfl | rfl | rfl | rfl
          · exact ⟨by simp, by omega⟩
          · exact ⟨by simp, by omega⟩
          · exact ⟨by simp, by omega⟩
          · exact ⟨by simp, by omega⟩
          · exact ⟨by right; omega, by omega⟩) (by simp [Xb, Zb]) (by simp [Xb]) (by simp [Xb])
      have ho := ofP_14 H4.cy.wf hn1 M.lies
      have he : elP (ofP l3.ar sh14 ad) 0 false = 0 := by rw [ho]; exact elP_14 (by omega) (by omega)
      refine ok_cl (put_ok H4.hp ad 0 i false true (.int .i64 1)) ?_
      rintro _ g4 ⟨rfl, P4, s4⟩
      simp only at P4 s4
      rw [he] at P4
      have ewr : l3.wr ((0 : Int) = 0) ad (0 + 1) i = ⟨(l3.ar.write ad 1 i).2, l3.un⟩ := by unfold PAl.wr; rw [if_pos rfl]; rfl
      rw [ewr] at P4
      obtain ⟨H5, k5⟩ := H4.turn (s4.sub (by simp)) P4
      have hWl : (hd14 n :: List.replicate ((wordsOf (classOf n)).toNat - 1) (0 : Int)).length = (wordsOf (classOf n)).toNat := by simp; omega
      obtain ⟨b, eb, wb, bs, Lb, ob⟩ := M.lies.write H4.cy.wf (k := 1) (by rw [hWl]; omega) (i : Int)
      have eb2 : (l3.ar.write ad 1 i).2 = b := by rw [eb]
      rw [eb2] at H5
      have eW : (hd14 n :: List.replicate ((wordsOf (classOf n)).toNat - 1) (0 : Int)).set (1 : Int).toNat (i : Int) = hd14 n :: (i : Int) :: List.replicate ((wordsOf (classOf n)).toNat - 2) 0 := by
        obtain ⟨m, hm⟩ : ∃ m, (wordsOf (classOf n)).toNat = m + 2 := ⟨(wordsOf (classOf n)).toNat - 2, by omega⟩
        rw [hm, show m + 2 - 1 = m + 1 by omega, List.replicate_succ]; rfl
      rw [eW] at Lb
      have nob5 : Nob g4 nb (some (g1.next + 1)) v' (K ++ [ad]) := Nob.kp (Z := Xb C nb (some (g1.next + 1))) ⟨p3, v3, by omega, by simp; omega⟩ (by simp [Xb, Zb]) (fun j hj => by cases hj; simp [Xb, Zb]) k5
      refine (Ok.of (r := (.normal, [.bool false, .int .i64 ((i + 1 : Nat) : Int), .int .i64 ((i + 1 : Nat) : Int)], g4)) (.inl ⟨rfl, rfl, some (g1.next + 1), v', K ++ [ad], ⟨b, l3.un⟩, F', ⟨⟨_, _, H5⟩, nob5, fun x hx => ?_, ?_, ?_, fun j x hj => ?_, ?_, ?_, F0', Fi', S.nC, fun j hj => ?_⟩⟩)).eq (by
        simp -implicitDefEqProofs only [k_law14_HeapForced_j0, bin_add, sc, Option.bind_some])
      · by_cases e : x = ad
        · subst e
          exact ⟨_, Lb, by simp; omega⟩
        · obtain ⟨vs, L, hl⟩ := I3 x (by rw [← find_sp bs]; exact hx)
          exact ⟨vs, ob x _ e L, hl⟩
      · show b.sp.length = 8
        rw [bs]; exact M.len.trans lb8
      · rw [List.nodup_append]
        exact ⟨S.nd, by simp, fun a ha c hc => by simp at hc; subst hc; exact hnew a ha⟩
      · by_cases ej : j < K.length
        · rw [List.getElem?_append_left ej] at hj
          obtain ⟨ws, L⟩ := h3 j x hj
          exact ⟨ws, ob x _ (hnew x (List.mem_of_getElem? hj)) L⟩
        · rw [List.getElem?_append_right (by omega)] at hj
          have ej2 : j - K.length = 0 := by
            have := (List.getElem?_eq_some_iff.1 hj).1
            simp at this; omega
          rw [ej2] at hj
          simp at hj
          subst hj
          have : j = K.length := by omega
          subst this
          rw [hKi]
          exact ⟨_, Lb⟩
      · rw [hl', Nat.add_mul]; omega
      · rw [hl', Nat.add_mul]; omega
      · cases hj
        exact ⟨by omega, by omega, by omega⟩
    · have dm : decide (((i % hold : Nat) : Int) = 0) = false := by simp; omega
      refine (Ok.of (r := (.normal, [.bool false, .int .i64 ((i + 1 : Nat) : Int), .int .i64 ((i + 1 : Nat) : Int)], g1)) (.inl ⟨rfl, rfl, bv, v, K, l3, F', ⟨⟨_, _, H3⟩, N1, I3, M.len.trans lb8, S.nd, h3, ?_, by omega, F0', Fi', S.nC, S.bC⟩⟩)).eq (by
        simp -implicitDefEqProofs only [dm, condE_false, k_law14_HeapForced_j0, bin_add, sc, Option.bind_some])
      have hne : i ≠ K.length * hold := fun e => hm (by rw [e, Nat.mul_mod_left])
      omega
  · -- it is full
    have z5 : decide ((5 : Int) = 0) = false := rfl
    refine Ok.eq ?_ (by simp -implicitDefEqProofs only [extractV_tup, e0, e1, Option.bind_some, neq_int, show ((5 : Int) = 0) = False by simp, decide_false, Bool.not_false, condE_true] <;> rfl)
    refine ok_cl (rclass_ok n g1) ?_
    rintro _ g2 ⟨rfl, s2⟩
    simp only at s2
    refine ok_cl (rplaces_ok (classOf n) g2) ?_
    rintro _ g3 ⟨rfl, s3⟩
    simp only at s3
    have N3 := N1.kp inZ inZb (KpX.same (s2.trans s3))
    have H4 := H3.keep (s2.trans s3)
    obtain ⟨w4, hw4, _⟩ := H4.hpb
    have lF : ldS g3 (.ptr (some (C 0, 2))) = some (.int .i64 (F + 1)) := by rw [ldS_at hw4]; rfl
    have fe : k_heap_Heap_Forced (.ptr (some (C 0, 0))) g3 = some (.int .i64 (F + 1), g3) := by
      simp -implicitDefEqProofs only [k_heap_Heap_Forced, nilV_ptr, Option.bind_some, faP_ptr, Nat.zero_add, lF]
    have lv : ldS g3 (.ptr (some (nb, 0))) = some v := by rw [ldS_at N3.box]; rfl
    have ln := N3.lst.lnL
    have hmul : binP .mul (.int .i64 7) (.int .i64 (placesOf (classOf n))) = some (.int .i64 ((K.length : Nat) : Int)) := by
      rw [bin_mul, wrap_i64 (by omega) (by omega)]
      congr 2
      rw [hfull]; omega
    have hf1 : (1 : Int) ≤ F + 1 := by omega
    exact (Ok.of (r := (.ret, [.bool true, .int .i64 i, .int .i64 i], g3)) (.inr ⟨rfl, rfl⟩)).eq (by
      simp -implicitDefEqProofs only [hmul, Option.bind_some, eql_int, decide_true, gdW_tt, gQ_true, cl_some, pickP_bool, if_true, nilV_ptr, faP_ptr, Nat.zero_add, lv, ln, fe, bin_geq, hf1])
end Go.Ab.F

namespace Go.Ab.F
open Go Go.Ab
set_option linter.all false
set_option linter.all false
attribute [local congr] c_bind c_cl c_mk c_lp c_clC c_gQ c_gV c_condE c_thenK

theorem forced_loop0 {n hold N : Nat} {g : Heap} {C : Nat → Nat} {nb : Nat} {bv : Option Nat} {v : AV} {K : List Int} {l : PAl} {F : Int} (S : Fs n hold g C nb bv v K l F 0) (hn : 2 ≤ n ∧ n ≤ 64) (hh : 1 ≤ hold ∧ hold ≤ 50) (hN : N ≤ 400) :
    Ok (k_law14_HeapForced_L0 (.int .i64 N) (.int .i64 hold) (.int .i64 n) (.ptr (some (C 0, 0))) (.ptr (some (nb, 0))) (.bool false) (.int .i64 0) (.int .i64 0) g) fun r =>
      (r.1 = .exit 0 ∧ r.2.1 = [.bool false, .int .i64 N, .int .i64 N] ∧ ∃ bv' v' K' l' F', Fs n hold r.2.2 C nb bv' v' K' l' F' N) ∨ (r.1 = .ret ∧ r.2.1.getD 0 .bot = .bool true) := by
  refine ok_loop (fun m vs g' => ∃ (i : Nat), vs = [.bool false, .int .i64 i, .int .i64 i] ∧ m + i = N ∧ ∃ bv' v' K' l' F', Fs n hold g' C nb bv' v' K' l' F' i) ?_ (n := N) (by omega) ⟨0, rfl, rfl, _, _, _, _, _, S⟩
  rintro m vs g' ⟨i, rfl, hm, bv', v', K', l', F', S'⟩
  rw [gd0, gd1, gd2]
  by_cases hi : i < N
  · refine (forced_step S' hn hh hi hN).mono ?_
    rintro r (⟨h1, h2, h3⟩ | ⟨h1, h2⟩)
    · exact .inl ⟨h1, m - 1, by omega, i + 1, h2, by omega, h3⟩
    · exact .inr ⟨by rw [h1]; simp, .inr ⟨h1, h2⟩⟩
  · have hlt : ¬ (i : Int) < N := by omega
    obtain rfl : i = N := by omega
    exact (Ok.of (r := (.exit 0, [.bool false, .int .i64 (i : Int), .int .i64 (i : Int)], g')) (.inr ⟨by simp, .inl ⟨rfl, rfl, bv', v', K', l', F', S'⟩⟩)).eq (by
      simp -implicitDefEqProofs only [k_law14_HeapForced_b0, bin_lss, hlt, decide_false, Option.bind_some, condE_false])
theorem forced_loop1 {n hold : Nat} {g : Heap} {C : Nat → Nat} {nb : Nat} {bv : Option Nat} {v : AV} {K : List Int} {l : PAl} {F : Int} {i : Nat} (S : Fs n hold g C nb bv v K l F i) (hn : 2 ≤ n ∧ n ≤ 64) (hh : 1 ≤ hold ∧ hold ≤ 50) (hi : i ≤ 400) :
    Ok (k_law14_HeapForced_L1 (.int .i64 hold) (.ptr (some (C 0, 0))) (.ptr (some (nb, 0))) (.bool false) (.int .i64 0) g) fun r => r.1 = .exit 2 ∧ ∃ qb us, HpC r.2.2 C l sh14 F qb F us (Xb C nb bv) := by
  have hn1 : (1 : Int) ≤ n ∧ (n : Int) ≤ 64 := ⟨by omega, by omega⟩
  obtain ⟨qb, us, H⟩ := S.hp
  have hKl : K.length ≤ 450 := by
    have h1 := S.hi
    have h2 : K.length * 1 ≤ K.length * hold := Nat.mul_le_mul_left _ hh.1
    omega
  refine ok_loop (fun m vs g' => ∃ (j : Nat), vs = [.bool false, .int .i64 j] ∧ m + j = K.length ∧ HpC g' C l sh14 F qb F us (Xb C nb bv) ∧ Same [] g g') ?_ (n := K.length) (by omega) ⟨0, rfl, rfl, H, Same.refl _ _⟩
  rintro m vs g' ⟨j, rfl, hm, H', s⟩
  rw [gd0, gd1]
  have inZ : nb ∈ Zb nb bv := List.mem_cons_self ..
  have inZb : ∀ j, bv = some j → j ∈ Zb nb bv := fun j hj => by subst hj; simp [Zb]
  have N1 := S.nob.kp inZ inZb (KpX.same s)
  have lv : ldS g' (.ptr (some (nb, 0))) = some v := by rw [ldS_at N1.box]; rfl
  have ln := N1.lst.lnL
  by_cases hj : j < K.length
  · have hlt : (j : Int) < K.length := by omega
    obtain ⟨ad, hk⟩ : ∃ ad, K[j]? = some ad := ⟨_, List.getElem?_eq_getElem hj⟩
    obtain ⟨q, hq, hix, hld⟩ := lst_at N1.lst hk
    have ld := hld g' rfl
    obtain ⟨ws, L⟩ := S.held j ad hk
    have ho := ofP_14 H'.cy.wf hn1 L
    have he : elP (ofP l.ar sh14 ad) 0 false = 0 := by rw [ho]; exact elP_14 (by omega) (by omega)
    have hp := L.pos H'.cy.wf
    have hr : (l.ar.read ad (0 + 1)).1 = ((j * hold : Nat) : Int) := by
      rw [L.read H'.cy.wf, if_pos ⟨by omega, by omega⟩]
      rfl
    have hjh : j * hold ≤ 450 := by
      have h1 := S.hi
      have h2 : j * hold ≤ K.length * hold := Nat.mul_le_mul_right _ (by omega)
      omega
    have hmul : binP .mul (.int .i64 (j : Int)) (.int .i64 (hold : Int)) = some (.int .i64 ((j * hold : Nat) : Int)) := by
      rw [bin_mul, ← Int.natCast_mul, wrap_i64 (by omega) (by omega)]
    refine Ok.eq ?_ (by simp -implicitDefEqProofs only [k_law14_HeapForced_b1, nilV_ptr, faP_ptr, Nat.zero_add, Option.bind_some, lv, ln, bin_lss, hlt, decide_true, condE_true, hix, ld] <;> rfl)
    refine ok_cl (at_ok H'.hp ad 0 false) ?_
    rintro _ g2 ⟨rfl, s2⟩
    simp only at s2
    rw [he, if_pos rfl, hr]
    exact (Ok.of (r := (.normal, [.bool false, .int .i64 ((j + 1 : Nat) : Int)], g2)) (.inl ⟨rfl, m - 1, by omega, j + 1, rfl, by omega, H'.keep s2, s.trans s2⟩)).eq (by
      simp -implicitDefEqProofs only [extractV_tup, e0, e1, Option.bind_some, neq_int, decide_true, Bool.not_true, gdW_ff, gQ_true, cl_some, hmul, pickP_bool, Bool.false_eq_true, if_false, condE_false, bin_add, suc64 j (by omega)])
  · have hlt : ¬ (j : Int) < K.length := by omega
    exact (Ok.of (r := (.exit 2, [.bool false, .int .i64 (j : Int)], g')) (.inr ⟨by simp, rfl, qb, us, H'⟩)).eq (by
      simp -implicitDefEqProofs only [k_law14_HeapForced_b1, nilV_ptr, faP_ptr, Nat.zero_add, Option.bind_some, lv, ln, bin_lss, hlt, decide_false, condE_false])
theorem forced_true {h : Heap} (hsub : Sub hQ1 h) (hn1 : 1 ≤ h.next) (x y z : Int) : Ok (k_law14_HeapForced (.int .i64 x) (.int .i64 y) (.int .i64 z) h) fun r => r.1 = .bool true := by
  have ht := tab0_sub hsub hn1
  have haw : k_law14_awake h = some (.bool true, h) := quiet_pos hsub
  have go : ∀ (t : Bool) (X Y : Option (AV × Heap)), t = true → X = some (.bool true, h) → condE (.bool t) X Y = some (.bool true, h) := fun t X Y ht hx => by subst ht; rw [condE_true, hx]
  by_cases hb : x < 1 ∨ 400 < x ∨ y < 1 ∨ 50 < y ∨ z < 2 ∨ 64 < z
  · refine ok_val (v := .bool true) (g := h) ?_ rfl
    by_cases b1 : x < 1
    · simp -implicitDefEqProofs only [k_law14_HeapForced, haw, cl_some, un_not, Bool.not_true, Option.bind_some, condE_false, bin_lss, b1, decide_true, gdW_tf, gQ_false, pickP_bool, if_true, condE_true]
    by_cases b2 : 400 < x
    · simp -implicitDefEqProofs only [k_law14_HeapForced, haw, cl_some, un_not, Bool.not_true, Option.bind_some, condE_false, bin_lss, bin_gtr, b1, b2, decide_true, decide_false, gdW_ff, gQ_true, gdW_tf, gQ_false, pickP_bool, Bool.false_eq_true, if_false, if_true, condE_true]
    by_cases b3 : y < 1
    · simp -implicitDefEqProofs only [k_law14_HeapForced, haw, cl_some, un_not, Bool.not_true, Option.bind_some, condE_false, bin_lss, bin_gtr, b1, b2, b3, decide_true, decide_false, gdW_ff, gQ_true, gdW_tf, gQ_false, pickP_bool, Bool.false_eq_true, if_false, if_true, condE_true]
    by_cases b4 : 50 < y
    · simp -implicitDefEqProofs only [k_law14_HeapForced, haw, cl_some, un_not, Bool.not_true, Option.bind_some, condE_false, bin_lss, bin_gtr, b1, b2, b3, b4, decide_true, decide_false, gdW_ff, gQ_true, gdW_tf, gQ_false, pickP_bool, Bool.false_eq_true, if_false, if_true, condE_true]
    by_cases b5 : z < 2
    · simp -implicitDefEqProofs only [k_law14_HeapForced, haw, cl_some, un_not, Bool.not_true, Option.bind_some, condE_false, bin_lss, bin_gtr, b1, b2, b3, b4, b5, decide_true, decide_false, gdW_ff, gQ_true, gdW_tf, gQ_false, pickP_bool, Bool.false_eq_true, if_false, if_true, condE_true]
    have b6 : 64 < z := by omega
    simp -implicitDefEqProofs only [k_law14_HeapForced, haw, cl_some, un_not, Bool.not_true, Option.bind_some, condE_false, bin_lss, bin_gtr, b1, b2, b3, b4, b5, b6, decide_true, decide_false, gdW_ff, gQ_true, gdW_tf, gQ_false, pickP_bool, Bool.false_eq_true, if_false, if_true, condE_true]
  · obtain ⟨N, rfl⟩ : ∃ N : Nat, x = N := ⟨x.toNat, by omega⟩
    obtain ⟨hold, rfl⟩ : ∃ hold : Nat, y = hold := ⟨y.toNat, by omega⟩
    obtain ⟨n, rfl⟩ : ∃ n : Nat, z = n := ⟨z.toNat, by omega⟩
    have b1 : ¬ (N : Int) < 1 := by omega
    have b2 : ¬ (400 : Int) < N := by omega
    have b3 : ¬ (hold : Int) < 1 := by omega
    have b4 : ¬ (50 : Int) < hold := by omega
    have b5 : ¬ (n : Int) < 2 := by omega
    have b6 : ¬ (64 : Int) < n := by omega
    refine Ok.eq ?_ (by simp -implicitDefEqProofs only [k_law14_HeapForced, haw, cl_some, un_not, Bool.not_true, Option.bind_some, condE_false, bin_lss, bin_gtr, b1, b2, b3, b4, b5, b6, decide_false, gdW_ff, gQ_true, pickP_bool, Bool.false_eq_true, if_false, shapes14] <;> rfl)
    have s0 : Same [] h (h.new (.cells true (shC sh14))) := Same.new _ _
    have n0 : (h.new (.cells true (shC sh14))).next = h.next + 1 := rfl
    refine ok_cl (hnewc_ok (h := h.new (.cells true (shC sh14))) (N := 8) (T := sh14) (by decide) (by decide) (ht.same s0 (by simp)) get_new_eq (Nat.lt_succ_self _) (by decide) (by decide) sh14_nd sh14_good) ?_
    rintro _ g1 ⟨C, rfl, H1, s1, hC⟩
    simp only at H1 s1
    have bn : bldS [(0, 1)] [(AV.sl none 0 (.ex 0))] [] = some (.agg [.sl none 0 (.ex 0)]) := rfl
    have xn : bxP (.agg [.sl none 0 (.ex 0)]) = some (.cells true [.sl none 0 (.ex 0)], fun i => .ptr (some (i, 0))) := rfl
    have s2 : Same [] g1 (g1.new (.cells true [.sl none 0 (.ex 0)])) := Same.new _ _
    have p2 : (g1.new (.cells true [.sl none 0 (.ex 0)])).get g1.next = some (.cells true [.sl none 0 (.ex 0)]) := get_new_eq
    have n2 : (g1.new (.cells true [.sl none 0 (.ex 0)])).next = g1.next + 1 := rfl
    refine Ok.eq ?_ (by simp -implicitDefEqProofs only [extractV_tup, e0, e1, Option.bind_some, neq_int, decide_true, Bool.not_true, condE_false, bn, xn, mk_some] <;> rfl)
    generalize g1.new (.cells true [.sl none 0 (.ex 0)]) = g2 at *
    have c0 := H1.cy.lt 0 (by decide)
    have c10 := H1.cy.lt 10 (by decide)
    have pos := H1.cy.t0.pos
    have H2 : HpC g2 C ⟨newA 8, List.replicate 8 false⟩ sh14 0 none 0 64 (Xb C g1.next none) := H1.swap (s2) (fun j hj => by simp at hj) (fun j hj => by
      simp only [Xb, Zb, Option.toList_none, List.mem_cons, List.not_mem_nil, or_false] at hj ⊢
      rcases hj with rfl | rfl | rfl | rfl
      · exact ⟨by simp, by omega⟩
      · exact ⟨by simp, by omega⟩
      · exact ⟨by right; omega, by omega⟩
      · exact ⟨by simp, by omega⟩) (by simp [Xb, Zb]) (by simp [Xb]) (by simp [Xb])
    have S : Fs n hold g2 C g1.next none (.sl none 0 (.ex 0)) [] ⟨newA 8, List.replicate 8 false⟩ 0 0 :=
      { hp := ⟨none, 64, H2⟩
        nob := ⟨p2, SlB.mt, by omega, by simp⟩
        inv := fun ad had => absurd (find_new 8 ad) had
        len := by show (List.replicate 8 _).length = 8; rw [List.length_replicate]
        nd := List.nodup_nil
        held := fun j ad hj => by simp at hj
        lo := by simp
        hi := by simp; omega
        F0 := by omega
        Fi := by omega
        nC := ⟨by omega, by omega, by omega⟩
        bC := fun j hj => by cases hj }
    refine ok_lp (forced_loop0 S ⟨by omega, by omega⟩ ⟨by omega, by omega⟩ (by omega)) ?_
    rintro e vs g3 (⟨rfl, hv, bv', v', K', l', F', S3⟩ | ⟨rfl, hv⟩)
    · simp only at hv S3
      subst hv
      rw [if_pos rfl, thenK_normal, gd0]
      refine ok_lp (forced_loop1 S3 ⟨by omega, by omega⟩ ⟨by omega, by omega⟩ (by omega)) ?_
      rintro _ vs4 g4 ⟨rfl, qb, us, H4⟩
      simp only at H4
      obtain ⟨w4, hw4, _⟩ := H4.hpb
      have lF : ldS g4 (.ptr (some (C 0, 2))) = some (.int .i64 F') := by rw [ldS_at hw4]; rfl
      have fe : k_heap_Heap_Forced (.ptr (some (C 0, 0))) g4 = some (.int .i64 F', g4) := by
        simp -implicitDefEqProofs only [k_heap_Heap_Forced, nilV_ptr, Option.bind_some, faP_ptr, Nat.zero_add, lF]
      have de : k_cycle_Cycle_Done (.ptr (some (C 1, 0))) g4 = some (.int .i64 F', g4) := by
        simp -implicitDefEqProofs only [k_cycle_Cycle_Done, nilV_ptr, Option.bind_some, faP_ptr, Nat.zero_add, H4.cy.c 6 _ rfl]
      exact ok_val (v := .bool true) (g := g4) (by
        simp -implicitDefEqProofs only [if_true, thenK_normal, gd1, eql_int, decide_true, Option.bind_some, gdW_tt, gQ_true, cl_some, hcycle_eq H4.hp, de, fe, pickP_bool]) rfl
    · simp only at hv
      exact ok_val (v := .bool true) (g := g3) (by rw [← hv]; rfl) rfl
end Go.Ab.F
