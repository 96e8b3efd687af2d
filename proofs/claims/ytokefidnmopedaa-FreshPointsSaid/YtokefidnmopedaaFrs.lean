import Derived.Test.YtokefidnmopedaaQuFn
import Derived.Test.YtokefidnmopedaaIns
import Derived.Test.YtokefidnmopedaaSns
import Derived.Test.YtokefidnmopedaaLft
import Derived.Test.YtokefidnmopedaaLwk

namespace Go.Ab.F
open Go Go.Ab
set_option linter.all false
set_option linter.unusedSimpArgs false
attribute [local congr] c_bind c_cl c_mk c_lp c_clC c_gQ c_gV c_condE c_thenK

/-! ### States of slots: lists of structs of one's own, that may be written -/
structure St where
  y : Bool
  o : Bool
  w : BitVec 64
def St.row (s : St) : List AV := [.bool s.y, .bool s.o, w64 s.w]
def flS (l : List St) : List AV := (l.map St.row).flatten
theorem flS_len (l : List St) : (flS l).length = l.length * 3 := by
  induction l with
  | nil => rfl
  | cons s l ih => simp only [flS, List.map_cons, List.flatten_cons, List.length_append, List.length_cons] at ih ⊢; rw [ih]; simp [St.row]; omega
theorem flS_sc (l : List St) : (flS l).all scalar = true := by
  induction l with
  | nil => rfl
  | cons s l ih => simp only [flS, List.map_cons, List.flatten_cons, List.all_append] at ih ⊢; rw [ih]; rfl
theorem flS_at : ∀ {l : List St} {k : Nat} {s : St}, l[k]? = some s → span (flS l) (k * 3) 3 = some s.row := fun {l} {k} {s} h =>
  span_flat (sz := 3) (l := l.map St.row) (fun r hr => by simp only [List.mem_map] at hr; obtain ⟨p, _, rfl⟩ := hr; rfl) k s.row (by rw [List.getElem?_map, h]; rfl)
theorem flS_get {l : List St} {k j : Nat} {s : St} (h : l[k]? = some s) (hj : j < 3) : (flS l)[k * 3 + j]? = s.row[j]? := by
  have e := flS_at h
  have hl := span_le e
  rw [span_some _ _ _ hl] at e
  have := congrArg (fun x => x.map (·[j]?)) e
  simp only [Option.map_some, Option.some.injEq] at this
  rw [← this, List.getElem?_take, if_pos hj, List.getElem?_drop]
theorem flS_app (a b : List St) : flS (a ++ b) = flS a ++ flS b := by simp [flS]
theorem split_at {l : List St} {k : Nat} {s : St} (h : l[k]? = some s) : l = l.take k ++ s :: l.drop (k + 1) := by
  obtain ⟨hk, e⟩ := List.getElem?_eq_some_iff.1 h
  rw [← e, ← List.drop_eq_getElem_cons hk, List.take_append_drop]
theorem set_at {l : List St} {k : Nat} {s : St} (t : St) (h : l[k]? = some s) : l.set k t = l.take k ++ t :: l.drop (k + 1) := by
  obtain ⟨hk, e⟩ := List.getElem?_eq_some_iff.1 h
  rw [List.set_eq_take_append_cons_drop, if_pos hk]
theorem flS_split {l : List St} {k : Nat} {s : St} (h : l[k]? = some s) : flS l = flS (l.take k) ++ (s.row ++ flS (l.drop (k + 1))) := by
  conv => lhs; rw [split_at h]
  rw [flS_app]; rfl
theorem flS_set {l : List St} {k : Nat} {s : St} (t : St) (h : l[k]? = some s) : flS (l.set k t) = flS (l.take k) ++ (t.row ++ flS (l.drop (k + 1))) := by
  rw [set_at t h, flS_app]; rfl
theorem flS_tk {l : List St} {k : Nat} {s : St} (h : l[k]? = some s) : (flS (l.take k)).length = k * 3 := by
  have := (List.getElem?_eq_some_iff.1 h).1
  rw [flS_len, List.length_take]; omega
theorem flS_cell {l : List St} {k j : Nat} {s t : St} {v : AV} (h : l[k]? = some s) (hj : j < 3) (ht : s.row.set j v = t.row) : (flS l).set (k * 3 + j) v = flS (l.set k t) := by
  have hk := flS_tk h
  rw [flS_set t h, flS_split h, List.set_append_right _ _ (by omega), hk, show k * 3 + j - k * 3 = j by omega, List.set_append_left _ _ (by show j < 3; exact hj), ht]
theorem splice_app (a b c d : List AV) (h : b.length = d.length) : splice (a ++ (b ++ c)) a.length d = some (a ++ (d ++ c)) := by
  rw [splice_some _ _ _ (by simp; omega), List.take_left, ← List.drop_drop, List.drop_left, ← h, List.drop_left, List.append_assoc]
/-- Such a list. -/
structure Ste (g : Heap) (b : Nat) (v : AV) (l : List St) : Prop where
  eq : ∃ c, v = .sl (some (b, 0)) l.length c
  blk : g.get b = some (.cells true (flS l))
  lt : b < g.next
theorem Ste.mono {g g' : Heap} {b : Nat} {v : AV} {l : List St} {S : List Nat} (H : Ste g b v l) (e : Same S g g') (hb : b ∉ S) : Ste g' b v l := ⟨H.eq, by rw [e.get b H.lt hb]; exact H.blk, Nat.lt_of_lt_of_le H.lt e.next⟩
theorem Ste.lnL {g : Heap} {b : Nat} {v : AV} {l : List St} (H : Ste g b v l) : Go.Ab.lnL v = some (.int .i64 l.length) := by obtain ⟨c, rfl⟩ := H.eq; simp
theorem Ste.sc {g : Heap} {b : Nat} {v : AV} {l : List St} (H : Ste g b v l) : scalar v = true := by obtain ⟨c, rfl⟩ := H.eq; rfl
theorem Ste.nn {g : Heap} {b : Nat} {v : AV} {l : List St} (H : Ste g b v l) : eqP (some (.slice 0)) none false .eql v (.sl none 0 (.ex 0)) = some (.bool false) := by obtain ⟨c, rfl⟩ := H.eq; rfl
theorem Ste.ix {g : Heap} {b : Nat} {v : AV} {l : List St} (H : Ste g b v l) {n : Int} (h0 : 0 ≤ n) (h1 : n < l.length) : iaS 3 v (.int .i64 n) = some (.ptr (some (b, n.toNat * 3))) := by
  obtain ⟨c, rfl⟩ := H.eq
  rw [iaS_sl 3 (b, 0) _ _ _ _ ⟨h0, h1⟩]; simp
theorem Ste.ld {g : Heap} {b : Nat} {v : AV} {l : List St} (H : Ste g b v l) {k j : Nat} {s : St} (h : l[k]? = some s) (hj : j < 3) : ldS g (.ptr (some (b, k * 3 + j))) = s.row[j]? := by
  rw [ldS_at H.blk, flS_get h hj]
theorem Ste.la {g : Heap} {b : Nat} {v : AV} {l : List St} (H : Ste g b v l) {k : Nat} {s : St} (h : l[k]? = some s) : ldA 3 g (.ptr (some (b, k * 3))) = some (.agg s.row) := by
  rw [ldA_at H.blk, flS_at h]; rfl
/-- One cell is set. -/
theorem Ste.st {g : Heap} {b : Nat} {v : AV} {l : List St} (H : Ste g b v l) {k j : Nat} {s : St} {x : AV} (t : St) (h : l[k]? = some s) (hj : j < 3) (ht : s.row.set j x = t.row) (hx : scalar x = true) :
    stP 1 g (.ptr (some (b, k * 3 + j))) x = some (.bot, g.put b (some (.cells true (flS (l.set k t))))) ∧ Ste (g.put b (some (.cells true (flS (l.set k t))))) b v (l.set k t) := by
  have hk := (List.getElem?_eq_some_iff.1 h).1
  refine ⟨?_, ⟨by obtain ⟨c, e⟩ := H.eq; exact ⟨c, by rw [List.length_set]; exact e⟩, get_put_eq, H.lt⟩⟩
  rw [stP_one H.blk (by rw [flS_len]; omega) hx, flS_cell h hj ht]
/-- All three. -/
theorem Ste.sa {g : Heap} {b : Nat} {v : AV} {l : List St} (H : Ste g b v l) {k : Nat} {s : St} (t : St) (h : l[k]? = some s) :
    stP 3 g (.ptr (some (b, k * 3))) (.agg t.row) = some (.bot, g.put b (some (.cells true (flS (l.set k t))))) ∧ Ste (g.put b (some (.cells true (flS (l.set k t))))) b v (l.set k t) := by
  have hk := flS_tk h
  refine ⟨?_, ⟨by obtain ⟨c, e⟩ := H.eq; exact ⟨c, by rw [List.length_set]; exact e⟩, get_put_eq, H.lt⟩⟩
  have e : (AV.agg t.row).cells = t.row := rfl
  have hs : t.row.all scalar = true := rfl
  have hl : t.row.length = 3 := rfl
  simp only [stP, e, hl, ne_eq, not_true_eq_false, if_false, storeN, hs, if_true, H.blk, spliceF_eq]
  rw [flS_split h, ← hk, splice_app (flS (l.take k)) s.row (flS (l.drop (k + 1))) t.row rfl, flS_set t h]; rfl
/-- A copy of it. -/
theorem clone_ok {g : Heap} {b : Nat} {v : AV} {l : List St} (H : Ste g b v l) (hl : l.length ≤ 64) : Ok (k_slices_Clone_fresh_states_fresh_State v g) fun r => ∃ b', g.next ≤ b' ∧ Same [] g r.2 ∧ Ste r.2 b' r.1 l := by
  have e0 : bsP 3 [(AV.bool false), (AV.bool false), (AV.int .u64 0)] 0 [] = some (.cells true [], fun i => .sl (some (i, 0)) 0 (.ex 0)) := rfl
  have hbl := H.lt
  obtain ⟨c, rfl⟩ := H.eq
  have hld : loadN (g.new (.cells true [])) (g.next, 0) (0 * 3) = some [] := by
    simp only [loadN, get_new_eq, spanF_eq, Nat.zero_mul]; rfl
  have hgb : (g.new (.cells true [])).get b = some (.cells true (flS l)) := by rw [get_new_ne (by omega)]; exact H.blk
  have hadd : addedA (g.new (.cells true [])) 3 (.sl (some (b, 0)) l.length c) = some (flS l) := by
    simp only [addedA, loadN, hgb, spanF_eq]
    rw [span_some _ _ _ (by rw [flS_len]; omega), List.drop_zero, List.take_of_length_le (by rw [flS_len]; omega)]
  have hcount : countA (.sl (some (b, 0)) l.length c) = some l.length := rfl
  by_cases hn : l.length = 0
  · have : l = [] := List.eq_nil_of_length_eq_zero hn
    subst this
    have ha : appendA (g.new (.cells true [])) 3 16 (.sl (some (g.next, 0)) 0 (.ex 0)) (.sl (some (b, 0)) ([] : List St).length c) = some (.sl (some (g.next, 0)) 0 (.ex 0), (g.new (.cells true [])).put g.next (some (.cells true []))) := by
      have hcount0 : countA (.sl (some (b, 0)) 0 c) = some 0 := rfl
      have hadd0 : addedA (g.new (.cells true [])) 3 (.sl (some (b, 0)) 0 c) = some [] := hadd
      simp only [appendA, List.length_nil, hcount0, hadd0, Option.bind_some, Nat.add_zero, Nat.le_refl, if_true, addA, storeN, get_new_eq, spliceF_eq, Nat.zero_mul]
      rfl
    refine ok_val (v := .sl (some (g.next, 0)) 0 (.ex 0)) (g := (g.new (.cells true [])).put g.next (some (.cells true []))) (by
      simp -implicitDefEqProofs only [k_slices_Clone_fresh_states_fresh_State, H.nn, Option.bind_some, condE_false, e0, mk_some, ha, cl_some]) ⟨g.next, Nat.le_refl _, (Same.new _ _).old (Same.put _ _ _) (fun j hj => .inr (by simp at hj; omega)), ⟨_, rfl⟩, get_put_eq, Nat.lt_succ_self _⟩
  · have ha : appendA (g.new (.cells true [])) 3 16 (.sl (some (g.next, 0)) 0 (.ex 0)) (.sl (some (b, 0)) l.length c) = some (.sl (some (g.next + 1, 0)) (0 + l.length) (.un 3), (g.new (.cells true [])).new (.cells true ([] ++ flS l))) := by
      simp only [appendA, hcount, hadd, Option.bind_some]
      rw [if_neg (by omega), if_pos (by omega), hld, Option.bind_some, if_pos (by rw [List.nil_append]; exact flS_sc l)]; rfl
    refine ok_val (v := .sl (some (g.next + 1, 0)) (0 + l.length) (.un 3)) (g := (g.new (.cells true [])).new (.cells true ([] ++ flS l))) (by
      simp -implicitDefEqProofs only [k_slices_Clone_fresh_states_fresh_State, H.nn, Option.bind_some, condE_false, e0, mk_some, ha, cl_some]) ⟨g.next + 1, Nat.le_succ _, (Same.new _ _).trans (Same.new _ _), ⟨_, by rw [Nat.zero_add]⟩, by rw [List.nil_append]; exact get_new_eq, Nat.lt_succ_self _⟩
end Go.Ab.F

namespace Go.Ab.F
open Go Go.Ab
set_option linter.all false
set_option linter.unusedSimpArgs false
attribute [local congr] c_bind c_cl c_mk c_lp c_clC c_gQ c_gV c_condE c_thenK

def dS : St := ⟨false, false, 0#64⟩
def yAt (l : List St) (k : Nat) : Bool := (l.getD k dS).y
def oAt (l : List St) (k : Nat) : Bool := (l.getD k dS).o
theorem getS {l : List St} {k : Nat} {s : St} (h : l[k]? = some s) : l.getD k dS = s := by rw [List.getD_eq_getElem?_getD, h]; rfl
theorem getS_set {l : List St} {n k : Nat} {t : St} (h : n < l.length) : (l.set n t).getD k dS = if k = n then t else l.getD k dS := by
  rw [List.getD_eq_getElem?_getD, List.getD_eq_getElem?_getD]
  by_cases e : k = n
  · subst e; rw [List.getElem?_set_self h]; simp
  · rw [List.getElem?_set_ne (fun h => e h.symm), if_neg e]
structure LeS (l' l : List St) : Prop where
  len : l'.length = l.length
  y : ∀ k, yAt l' k = true → yAt l k = true
  o : ∀ k, oAt l' k = true → oAt l k = true
theorem LeS.refl (l : List St) : LeS l l := ⟨rfl, fun _ h => h, fun _ h => h⟩
theorem LeS.trans {a b c : List St} (h : LeS a b) (h' : LeS b c) : LeS a c := ⟨h.len.trans h'.len, fun k e => h'.y k (h.y k e), fun k e => h'.o k (h.o k e)⟩
theorem LeS.set {l : List St} {n : Nat} {s t : St} (h : l[n]? = some s) (hy : t.y = true → s.y = true) (ho : t.o = true → s.o = true) : LeS (l.set n t) l := by
  have hn := (List.getElem?_eq_some_iff.1 h).1
  refine ⟨List.length_set, fun k e => ?_, fun k e => ?_⟩
  · unfold yAt at e ⊢
    rw [getS_set hn] at e
    split at e
    · rename_i e'; subst e'; rw [getS h]; exact hy e
    · exact e
  · unfold oAt at e ⊢
    rw [getS_set hn] at e
    split at e
    · rename_i e'; subst e'; rw [getS h]; exact ho e
    · exact e
theorem lend_ok {g : Heap} {b : Nat} {v lv : AV} {l : List St} {ns : List Int} (H : Ste g b v l) (hr : ∀ g', Same [b] g g' → RdW g' 1 lv (wI ns) ns.length) (hn : ns.length ≤ 1048576) :
    Ok (k_fresh_states_lend v lv g) fun r => Same [b] g r.2 ∧ ∃ l', Ste r.2 b v l' ∧ LeS l' l := by
  have hln := (hr g (Same.refl _ _)).lnL
  refine Ok.eq ?_ (by simp -implicitDefEqProofs only [k_fresh_states_lend, hln, Option.bind_some]; rfl)
  refine ok_lp (P := fun r => r.1 = .exit 0 ∧ Same [b] g r.2.2 ∧ ∃ l', Ste r.2.2 b v l' ∧ LeS l' l) ?_ ?_
  · refine ok_loop (fun m us g' => ∃ i : Nat, us = [.int .i64 (i : Nat)] ∧ m + i = ns.length ∧ Same [b] g g' ∧ ∃ l', Ste g' b v l' ∧ LeS l' l) ?_ (n := ns.length) (by omega) ⟨0, rfl, rfl, Same.refl _ _, l, H, LeS.refl l⟩
    rintro m us g' ⟨i, rfl, hm, s, l', H', hle⟩
    rw [gD0]
    by_cases hi : i < ns.length
    · have hi' : (i : Int) < ns.length := by omega
      obtain ⟨x, hx⟩ : ∃ x, ns[i]? = some x := ⟨_, List.getElem?_eq_getElem hi⟩
      obtain ⟨b1, o1, _, hix, hld⟩ := (hr g' s).at (i := i) (x := .int .i64 x) (by simp [wI, hx])
      by_cases c1 : 0 ≤ x
      · by_cases c2 : x < l'.length
        · obtain ⟨t, ht⟩ : ∃ t, l'[x.toNat]? = some t := ⟨_, List.getElem?_eq_getElem (by omega)⟩
          obtain ⟨e1, H2⟩ := H'.st (j := 1) (x := .bool false) ⟨t.y, false, t.w⟩ ht (by omega) rfl rfl
          refine (Ok.of (r := (.normal, [.int .i64 ((i + 1 : Nat) : Int)], _)) (.inl ⟨rfl, m - 1, by omega, i + 1, rfl, by omega, s.trans (Same.put _ _ _), _, H2, (LeS.set (t := ⟨t.y, false, t.w⟩) ht (fun h => h) (fun h => by cases h)).trans hle⟩)).eq (by
            simp -implicitDefEqProofs only [k_fresh_states_lend_b0, bin_lss, hi', decide_true, Option.bind_some, condE_true, hix, hld, bin_geq, c1, gdW_tt, gQ_true, cl_some, H'.lnL, c2, pickP_bool, if_true, H'.ix c1 c2, faP_ptr, e1, bin_add, suc64 i (by omega)]; rfl)
        · refine (Ok.of (r := (.normal, [.int .i64 ((i + 1 : Nat) : Int)], g')) (.inl ⟨rfl, m - 1, by omega, i + 1, rfl, by omega, s, l', H', hle⟩)).eq (by
            simp -implicitDefEqProofs only [k_fresh_states_lend_b0, bin_lss, hi', decide_true, decide_false, Option.bind_some, condE_true, condE_false, hix, hld, bin_geq, c1, gdW_tt, gQ_true, cl_some, H'.lnL, c2, pickP_bool, if_true, bin_add, suc64 i (by omega)])
      · refine (Ok.of (r := (.normal, [.int .i64 ((i + 1 : Nat) : Int)], g')) (.inl ⟨rfl, m - 1, by omega, i + 1, rfl, by omega, s, l', H', hle⟩)).eq (by
          simp -implicitDefEqProofs only [k_fresh_states_lend_b0, bin_lss, hi', decide_true, decide_false, Option.bind_some, condE_true, condE_false, hix, hld, bin_geq, c1, gdW_ft, gdW_tup, gQ_false, pickP_bool, Bool.false_eq_true, if_false, bin_add, suc64 i (by omega)])
    · have hi' : ¬ (i : Int) < ns.length := by omega
      exact (Ok.of (r := (.exit 0, [.int .i64 (i : Nat)], g')) (.inr ⟨by simp, rfl, s, l', H', hle⟩)).eq (by
        simp -implicitDefEqProofs only [k_fresh_states_lend_b0, bin_lss, hi', decide_false, Option.bind_some, condE_false])
  · rintro _ us g' ⟨rfl, s, l', H', hle⟩
    exact ok_val (v := .tup []) (g := g') (by simp -implicitDefEqProofs only [if_true]; rfl) ⟨s, l', H', hle⟩
theorem put_ok {g : Heap} {b : Nat} {v : AV} {l : List St} (x : St) (n : Int) (H : Ste g b v l) :
    Ok (k_fresh_states_put v (.int .i64 n) (.agg x.row) g) fun r => Same [b] g r.2 ∧ ∃ l', Ste r.2 b v l' ∧ l'.length = l.length ∧ (∀ k, yAt l' k = true → yAt l k = true ∨ (x.y = true ∧ n = k)) ∧ (∀ k, oAt l' k = true → oAt l k = true ∨ (x.o = true ∧ n = k)) := by
  have hb := bx_agg (cs := x.row) rfl
  have s1 : Same [b] g (g.new (.cells true x.row)) := (Same.new _ _).sub (by simp)
  have gn : (g.new (.cells true x.row)).get g.next = some (.cells true x.row) := get_new_eq
  have H1 := H.mono (Same.new g (.cells true x.row)) (by simp)
  generalize hg1 : g.new (.cells true x.row) = g1 at *
  have la : ldA 3 g1 (.ptr (some (g.next, 0))) = some (.agg x.row) := by rw [ldA_at gn]; rfl
  have same : Ok (some (AV.tup [], g1)) fun r => Same [b] g r.2 ∧ ∃ l', Ste r.2 b v l' ∧ l'.length = l.length ∧ (∀ k, yAt l' k = true → yAt l k = true ∨ (x.y = true ∧ n = k)) ∧ (∀ k, oAt l' k = true → oAt l k = true ∨ (x.o = true ∧ n = k)) :=
    Ok.of (r := (AV.tup [], g1)) ⟨s1, l, H1, rfl, fun k h => .inl h, fun k h => .inl h⟩
  by_cases c1 : 0 ≤ n
  · by_cases c2 : n < l.length
    · obtain ⟨t, ht⟩ : ∃ t, l[n.toNat]? = some t := ⟨_, List.getElem?_eq_getElem (by omega)⟩
      obtain ⟨e1, H2⟩ := H1.sa x ht
      refine (Ok.of (r := (AV.tup [], _)) ⟨s1.trans (Same.put _ _ _), _, H2, List.length_set, fun k h => ?_, fun k h => ?_⟩).eq (by
        simp -implicitDefEqProofs only [k_fresh_states_put, hb, mk_some, hg1, bin_geq, c1, decide_true, Option.bind_some, gdW_tt, gQ_true, cl_some, H1.lnL, bin_lss, c2, pickP_bool, if_true, condE_true, la, H1.ix c1 c2, e1]; rfl)
      · unfold yAt at h ⊢
        rw [getS_set (by omega)] at h
        split at h
        · exact .inr ⟨h, by omega⟩
        · exact .inl h
      · unfold oAt at h ⊢
        rw [getS_set (by omega)] at h
        split at h
        · exact .inr ⟨h, by omega⟩
        · exact .inl h
    · exact same.eq (by simp -implicitDefEqProofs only [k_fresh_states_put, hb, mk_some, hg1, bin_geq, c1, decide_true, decide_false, Option.bind_some, gdW_tt, gQ_true, cl_some, H1.lnL, bin_lss, c2, pickP_bool, if_true, condE_false])
  · exact same.eq (by simp -implicitDefEqProofs only [k_fresh_states_put, hb, mk_some, hg1, bin_geq, c1, decide_false, Option.bind_some, gdW_ft, gdW_tup, gQ_false, pickP_bool, Bool.false_eq_true, if_false, condE_false])
theorem get_ok {g : Heap} {b : Nat} {v : AV} {l : List St} (n : Int) (H : Ste g b v l) :
    Ok (k_fresh_states_get v (.int .i64 n) g) fun r => Same [] g r.2 ∧ ∃ s : St, r.1 = .agg s.row ∧ (s.y = true → ∃ k, yAt l k = true) := by
  have eb : bldS [(0, 1), (1, 1), (2, 1)] [(AV.bool false), (AV.bool false), (AV.int .u64 0)] [] = some (.agg dS.row) := rfl
  generalize hz : Blk.cells true [AV.bool false, AV.bool false, AV.int .u64 0] = z
  have H1 := H.mono (Same.new g z) (by simp)
  have fin : ∀ s : St, ∃ g', stP 3 (g.new z) (.ptr (some (g.next, 0))) (.agg s.row) = some (.bot, g') ∧ Same [] g g' ∧ ldA 3 g' (.ptr (some (g.next, 0))) = some (.agg s.row) := fun s => by
    rw [← hz]
    refine ⟨_, stP_all get_new_eq rfl rfl rfl, (Same.new _ _).old (Same.put _ _ _) (fun j hj => .inr (by simp at hj; omega)), ?_⟩
    rw [ldA_at get_put_eq]; rfl
  generalize hg1 : g.new z = g1 at *
  by_cases c1 : n < 0
  · obtain ⟨g', e1, s2, e2⟩ := fin dS
    exact ok_val (v := .agg dS.row) (g := g') (by
      simp -implicitDefEqProofs only [k_fresh_states_get, hz, mk_some, hg1, bin_lss, c1, decide_true, Option.bind_some, gdW_tf, gdW_tup, gQ_false, pickP_bool, if_true, condE_true, eb, e1, cl_some, e2]) ⟨s2, dS, rfl, fun h => by cases h⟩
  · by_cases c2 : (l.length : Int) ≤ n
    · obtain ⟨g', e1, s2, e2⟩ := fin dS
      exact ok_val (v := .agg dS.row) (g := g') (by
        simp -implicitDefEqProofs only [k_fresh_states_get, hz, mk_some, hg1, bin_lss, c1, c2, decide_true, decide_false, Option.bind_some, gdW_ff, gQ_true, cl_some, H1.lnL, bin_geq, pickP_bool, Bool.false_eq_true, if_false, condE_true, eb, e1, e2]) ⟨s2, dS, rfl, fun h => by cases h⟩
    · obtain ⟨t, ht⟩ : ∃ t, l[n.toNat]? = some t := ⟨_, List.getElem?_eq_getElem (by omega)⟩
      obtain ⟨g', e1, s2, e2⟩ := fin t
      exact ok_val (v := .agg t.row) (g := g') (by
        simp -implicitDefEqProofs only [k_fresh_states_get, hz, mk_some, hg1, bin_lss, c1, c2, decide_false, Option.bind_some, gdW_ff, gQ_true, cl_some, H1.lnL, bin_geq, pickP_bool, Bool.false_eq_true, if_false, condE_false, H1.ix (by omega) (by omega : n < l.length), H1.la ht, e1, e2]) ⟨s2, t, rfl, fun h => ⟨n.toNat, by unfold yAt; rw [getS ht]; exact h⟩⟩
theorem written_ok {g : Heap} {b : Nat} {v : AV} {l : List St} (n : Int) (x : BitVec 64) (H : Ste g b v l) :
    Ok (k_fresh_states_written v (.int .i64 n) (w64 x) g) fun r => Same [b] g r.2 ∧ ∃ l', Ste r.2 b v l' ∧ LeS l' l := by
  have same : Ok (some (AV.tup [], g)) fun r => Same [b] g r.2 ∧ ∃ l', Ste r.2 b v l' ∧ LeS l' l := Ok.of (r := (AV.tup [], g)) ⟨Same.refl _ _, l, H, LeS.refl l⟩
  by_cases c1 : 0 ≤ n
  · by_cases c2 : n < l.length
    · obtain ⟨t, ht⟩ : ∃ t, l[n.toNat]? = some t := ⟨_, List.getElem?_eq_getElem (by omega)⟩
      have hld : ldS g (.ptr (some (b, n.toNat * 3 + 2))) = some (w64 t.w) := H.ld ht (by omega)
      obtain ⟨e1, H2⟩ := H.st (j := 2) (x := w64 (t.w ||| x)) ⟨t.y, t.o, t.w ||| x⟩ ht (by omega) rfl rfl
      exact (Ok.of (r := (AV.tup [], _)) ⟨Same.put _ _ _, _, H2, LeS.set (t := ⟨t.y, t.o, t.w ||| x⟩) ht (fun h => h) (fun h => h)⟩).eq (by
        simp -implicitDefEqProofs only [k_fresh_states_written, bin_geq, c1, decide_true, Option.bind_some, gdW_tt, gQ_true, cl_some, H.lnL, bin_lss, c2, pickP_bool, if_true, condE_true, H.ix c1 c2, faP_ptr, hld, or_w, e1]; rfl)
    · exact same.eq (by simp -implicitDefEqProofs only [k_fresh_states_written, bin_geq, c1, decide_true, decide_false, Option.bind_some, gdW_tt, gQ_true, cl_some, H.lnL, bin_lss, c2, pickP_bool, if_true, condE_false])
  · exact same.eq (by simp -implicitDefEqProofs only [k_fresh_states_written, bin_geq, c1, decide_false, Option.bind_some, gdW_ft, gdW_tup, gQ_false, pickP_bool, Bool.false_eq_true, if_false, condE_false])
def mkB (op : Int) : Bool := decide (op = 25) || decide (op = 26) || decide (op = 36) || decide (op = 37)
theorem maker_eq (op : Int) (g : Heap) : k_code_Maker (.int .i64 op) g = some (.bool (mkB op), g) := by
  unfold mkB
  by_cases c1 : op = 25
  · simp -implicitDefEqProofs only [k_code_Maker, eql_int, c1, Int.reduceEq, decide_true, decide_false, Option.bind_some, gdW_tf, gdW_ff, gdW_tup, gQ_false, gQ_true, cl_some, pickP_bool, if_true, Bool.false_eq_true, if_false, Bool.true_or]
  by_cases c2 : op = 26
  · simp -implicitDefEqProofs only [k_code_Maker, eql_int, c2, Int.reduceEq, decide_true, decide_false, Option.bind_some, gdW_tf, gdW_ff, gdW_tup, gQ_false, gQ_true, cl_some, pickP_bool, if_true, Bool.false_eq_true, if_false, Bool.true_or, Bool.false_or]
  by_cases c3 : op = 36
  · simp -implicitDefEqProofs only [k_code_Maker, eql_int, c3, Int.reduceEq, decide_true, decide_false, Option.bind_some, gdW_tf, gdW_ff, gdW_tup, gQ_false, gQ_true, cl_some, pickP_bool, if_true, Bool.false_eq_true, if_false, Bool.true_or, Bool.false_or]
  simp -implicitDefEqProofs only [k_code_Maker, eql_int, c1, c2, c3, decide_false, Option.bind_some, gdW_ff, gQ_true, cl_some, pickP_bool, Bool.false_eq_true, if_false, Bool.false_or]
def ptB (op : Int) : Bool := mkB op || decide (op = 20) || decide (op = 21) || decide (op = 23) || decide (op = 24) || decide (op = 38) || decide (op = 39) || decide (op = 41) || decide (op = 43)
theorem point_eq (op : Int) (g : Heap) : k_code_Point (.int .i64 op) g = some (.bool (ptB op), g) := by
  have key : ∀ n : Int, op = n → (n = 20 ∨ n = 21 ∨ n = 23 ∨ n = 24 ∨ n = 38 ∨ n = 39 ∨ n = 41 ∨ n = 43) → k_code_Point (.int .i64 op) g = some (.bool (ptB op), g) := by
    rintro n rfl h
    rcases h with h | h | h | h | h | h | h | h <;> subst h <;> rfl
  by_cases c1 : op = 20; · exact key 20 c1 (by omega)
  by_cases c2 : op = 21; · exact key 21 c2 (by omega)
  by_cases c3 : op = 23; · exact key 23 c3 (by omega)
  by_cases c4 : op = 24; · exact key 24 c4 (by omega)
  by_cases c5 : op = 38; · exact key 38 c5 (by omega)
  by_cases c6 : op = 39; · exact key 39 c6 (by omega)
  by_cases c7 : op = 41; · exact key 41 c7 (by omega)
  by_cases c8 : op = 43; · exact key 43 c8 (by omega)
  unfold ptB
  simp -implicitDefEqProofs only [k_code_Point, k_code_Point_j0, eql_int, c1, c2, c3, c4, c5, c6, c7, c8, decide_false, Option.bind_some, condE_false, maker_eq, cl_some, Bool.or_false]
theorem lends_ok (op : Int) (g : Heap) : ∃ t, k_fresh_lends (.int .i64 op) g = some (.bool t, g) := by
  by_cases c1 : op = 35
  · exact ⟨true, by simp -implicitDefEqProofs only [k_fresh_lends, eql_int, c1, decide_true, Option.bind_some, condE_true]⟩
  by_cases c2 : op = 20
  · exact ⟨true, by simp -implicitDefEqProofs only [k_fresh_lends, eql_int, c2, Int.reduceEq, decide_true, decide_false, Option.bind_some, condE_true, condE_false]⟩
  by_cases c3 : op = 21
  · exact ⟨true, by simp -implicitDefEqProofs only [k_fresh_lends, eql_int, c3, Int.reduceEq, decide_true, decide_false, Option.bind_some, condE_true, condE_false]⟩
  by_cases c4 : op = 23
  · exact ⟨true, by simp -implicitDefEqProofs only [k_fresh_lends, eql_int, c4, Int.reduceEq, decide_true, decide_false, Option.bind_some, condE_true, condE_false]⟩
  by_cases c5 : op = 24
  · exact ⟨true, by simp -implicitDefEqProofs only [k_fresh_lends, eql_int, c5, Int.reduceEq, decide_true, decide_false, Option.bind_some, condE_true, condE_false]⟩
  by_cases c6 : op = 22
  · exact ⟨true, by simp -implicitDefEqProofs only [k_fresh_lends, eql_int, c6, Int.reduceEq, decide_true, decide_false, Option.bind_some, condE_true, condE_false]⟩
  exact ⟨false, by simp -implicitDefEqProofs only [k_fresh_lends, eql_int, c1, c2, c3, c4, c5, c6, decide_false, Option.bind_some, condE_false]⟩
theorem fbit_ok (n : Int) (g : Heap) : ∃ x : BitVec 64, k_fresh_bit (.int .i64 n) g = some (w64 x, g) := by
  by_cases c1 : n < 0
  · exact ⟨0#64, by simp -implicitDefEqProofs only [k_fresh_bit, bin_lss, c1, decide_true, Option.bind_some, gdW_tf, gdW_tup, gQ_false, pickP_bool, if_true, condE_true]; rfl⟩
  · by_cases c2 : (64 : Int) ≤ n
    · exact ⟨0#64, by simp -implicitDefEqProofs only [k_fresh_bit, bin_lss, bin_geq, c1, c2, decide_true, decide_false, Option.bind_some, gdW_ff, gQ_true, cl_some, pickP_bool, Bool.false_eq_true, if_false, condE_true]; rfl⟩
    · have h := shl_one n (by omega) (by omega)
      simp only [cvI_int, Option.bind_some] at h
      exact ⟨_, by simp -implicitDefEqProofs only [k_fresh_bit, bin_lss, bin_geq, c1, c2, decide_false, Option.bind_some, gdW_ff, gQ_true, cl_some, pickP_bool, Bool.false_eq_true, if_false, condE_false, cvI_int, h]; rfl⟩
/-- All are young no more. -/
theorem clear_ok {g : Heap} {b : Nat} {v : AV} {l : List St} (H : Ste g b v l) (hl : l.length ≤ 64) :
    Ok (k_fresh_behind_L2 v (.int .i64 l.length) (.int .i64 0) g) fun r => r.1 = .exit 0 ∧ Same [b] g r.2.2 ∧ ∃ l', Ste r.2.2 b v l' ∧ LeS l' l ∧ ∀ k, yAt l' k = false := by
  refine ok_loop (fun m us g' => ∃ i : Nat, us = [.int .i64 (i : Nat)] ∧ m + i = l.length ∧ Same [b] g g' ∧ ∃ l', Ste g' b v l' ∧ LeS l' l ∧ ∀ k, k < i → yAt l' k = false) ?_ (n := l.length) (by omega) ⟨0, rfl, rfl, Same.refl _ _, l, H, LeS.refl l, fun k h => by omega⟩
  rintro m us g' ⟨i, rfl, hm, s, l', H', hle, hy⟩
  rw [gD0]
  have hll := hle.len
  by_cases hi : i < l.length
  · have hi' : (i : Int) < l.length := by omega
    obtain ⟨t, ht⟩ : ∃ t, l'[i]? = some t := ⟨_, List.getElem?_eq_getElem (by omega)⟩
    obtain ⟨e1, H2⟩ := H'.st (j := 0) (x := .bool false) ⟨false, t.o, t.w⟩ ht (by omega) rfl rfl
    have hix := H'.ix (n := (i : Int)) (by omega) (by omega)
    rw [Int.toNat_natCast] at hix
    have hL := LeS.set (t := ⟨false, t.o, t.w⟩) ht (fun h => by cases h) (fun h => h)
    refine (Ok.of (r := (.normal, [.int .i64 ((i + 1 : Nat) : Int)], _)) (.inl ⟨rfl, m - 1, by omega, i + 1, rfl, by omega, s.trans (Same.put _ _ _), _, H2, hL.trans hle, fun k hk => ?_⟩)).eq (by
      simp -implicitDefEqProofs only [k_fresh_behind_b2, bin_lss, hi', decide_true, Option.bind_some, condE_true, hix, faP_ptr, e1, cl_some, bin_add, suc64 i (by omega)]; rfl)
    unfold yAt
    rw [getS_set (by omega)]
    split
    · rfl
    · exact hy k (by omega)
  · have hi' : ¬ (i : Int) < l.length := by omega
    refine (Ok.of (r := (.exit 0, [.int .i64 (i : Nat)], g')) (.inr ⟨by simp, rfl, s, l', H', hle, fun k => ?_⟩)).eq (by
      simp -implicitDefEqProofs only [k_fresh_behind_b2, bin_lss, hi', decide_false, Option.bind_some, condE_false])
    by_cases hk : k < i
    · exact hy k hk
    · unfold yAt
      rw [List.getD_eq_getElem?_getD, List.getElem?_eq_none (by omega)]; rfl
end Go.Ab.F

namespace Go.Ab.F
open Go Go.Ab
set_option linter.all false
set_option linter.unusedSimpArgs false
attribute [local congr] c_bind c_cl c_mk c_lp c_clC c_gQ c_gV c_condE c_thenK

theorem sentL_ok {g h : Heap} {v : AV} {cs : List Cas} (H : RwC h 4 v (cs.map Cas.row)) (hs : Same [] g h) (hl : cs.length ≤ 1048576) :
    Ok (k_fresh_sent_L0 v (.int .i64 cs.length) (.sl none 0 (.ex 0)) (.int .i64 0) h) fun r => r.1 = .exit 0 ∧ ∃ q l, r.2.1.getD 0 .bot = q ∧ Lst g r.2.2 q l ∧ l.length ≤ cs.length := by
  refine ok_loop (fun k vs g' => ∃ (i : Nat) (q : AV) (b : Option Nat) (l : List Int), vs = [q, .int .i64 i] ∧ k + i = cs.length ∧ SlB g' b 1 q (wI l) l.length ∧ (∀ j, b = some j → h.next ≤ j) ∧ Same [] h g' ∧ l.length ≤ i) ?_ (n := cs.length) (by omega)
    ⟨0, _, none, [], rfl, rfl, SlB.mt, (fun j hj => by cases hj), Same.refl _ _, Nat.le_refl _⟩
  rintro k vs g' ⟨i, q, b, l, rfl, hk, hq, hb, s, hli⟩
  rw [gD0, gD1]
  by_cases hi : i < cs.length
  · obtain ⟨c, hc⟩ : ∃ c, cs[i]? = some c := ⟨_, List.getElem?_eq_getElem hi⟩
    have hi' : (i : Int) < cs.length := by omega
    obtain ⟨b2, o2, hb2, hix, hla, hls⟩ := (H.mono s.next (fun j hj => s.get j hj (by simp))).at (i := i) (r := c.row) (by rw [List.getElem?_map, hc]; rfl)
    refine Ok.eq ?_ (by simp -implicitDefEqProofs only [k_fresh_sent_b0, bin_lss, hi', decide_true, Option.bind_some, condE_true, hix, hla]; rfl)
    refine ok_tmp (cs := c.row) (n := 4) (by rfl) (by rfl) (Cas.sc c) fun g2 s' n' hg' => ?_
    have l0 : ldS g2 (.ptr (some (g'.next, 0 + 0))) = some (.int .i64 c.kind) := by rw [ldS_at hg']; rfl
    have l2 : ldS g2 (.ptr (some (g'.next, 0 + 2))) = some (.int .i64 c.val) := by rw [ldS_at hg']; rfl
    have hq' := hq.same s' (fun j _ => by simp)
    by_cases ck : c.kind = 1
    · refine Ok.eq ?_ (by simp -implicitDefEqProofs only [faP_ptr, Option.bind_some, l0, l2, eql_int, ck, decide_true, condE_true]; rfl)
      refine app1 hq' rfl rfl rfl (by decide) (by omega) fun v' g3 h3 s3 n3 => ?_
      have e : wI l ++ (AV.int .i64 c.val).cells = wI (l ++ [c.val]) := by simp [wI, AV.cells]
      rw [e] at h3
      refine (Ok.of (r := (.normal, [v', .int .i64 ((i + 1 : Nat) : Int)], g3)) (.inl ⟨rfl, k - 1, by omega, i + 1, v', some (g2.next + 1), l ++ [c.val], rfl, by omega, by rw [List.length_append]; exact h3, fun j hj => ?_, ?_, by simp; omega⟩)).eq (by simp -implicitDefEqProofs only [bin_add, suc64 i (by omega), Option.bind_some])
      · cases hj; have := s.next; omega
      · exact (s.trans s').old s3 fun j hj => by
          cases b with
          | none => simp at hj
          | some x => simp at hj; subst hj; exact .inr (hb _ rfl)
    · exact (Ok.of (r := (.normal, [q, .int .i64 ((i + 1 : Nat) : Int)], g2)) (.inl ⟨rfl, k - 1, by omega, i + 1, q, b, l, rfl, by omega, hq', hb, s.trans s', by omega⟩)).eq (by simp -implicitDefEqProofs only [faP_ptr, Option.bind_some, l0, eql_int, ck, decide_false, condE_false, bin_add, suc64 i (by omega)])
  · have hi' : ¬ (i : Int) < cs.length := by omega
    exact (Ok.of (r := (.exit 0, [q, .int .i64 (i : Int)], g')) (.inr ⟨by simp, rfl, q, l, rfl, (Lst.of_slb hq hb s).old hs, by omega⟩)).eq (by simp -implicitDefEqProofs only [k_fresh_sent_b0, bin_lss, hi', decide_false, Option.bind_some, condE_false])
theorem sent_ok {h : Heap} {v : AV} {m : Md} (H : MdRd h v m) (i : Ins) (hwa : wfI i.a) (hwb : wfI i.b) (hc : m.cases.length ≤ 60) :
    Ok (k_fresh_sent v (.agg i.row) h) fun r => ∃ l, Lst h r.2 r.1 l ∧ l.length ≤ 60 := by
  have hcv : ∀ sv gv kv cv fv, v = .agg [sv, gv, kv, cv, fv, .int .i64 m.main] → CapV 4 cv := fun sv gv kv cv fv e => by
    obtain ⟨_, _, _, _, _, e', _, _, _, _, _, _, _, _, _, _, hc, _⟩ := H
    rw [e] at e'
    cases e'
    exact hc
  obtain ⟨sv, gv, kv, cv, fv, rfl, hbx, B⟩ := H.box
  have hcv := hcv _ _ _ _ _ rfl
  have s0 : Same [] h (h.new (.cells true [sv, gv, kv, cv, fv, .int .i64 m.main])) := Same.new _ _
  have hi := bx_agg (Ins.sc i)
  generalize hg : h.new (.cells true [sv, gv, kv, cv, fv, .int .i64 m.main]) = g at *
  have s1 : Same [] g (g.new (.cells true i.row)) := Same.new _ _
  have B1 := B.mono s1
  have gn : (g.new (.cells true i.row)).get g.next = some (.cells true i.row) := get_new_eq
  generalize hg1 : g.new (.cells true i.row) = g1 at *
  have l0 : ldS g1 (.ptr (some (g.next, 0 + 0))) = some (.int .i64 i.op) := by rw [ldS_at gn]; rfl
  have l1 : ldS g1 (.ptr (some (g.next, 0 + 1))) = some (.int .i64 i.a) := by rw [ldS_at gn]; rfl
  have l2 : ldS g1 (.ptr (some (g.next, 0 + 2))) = some (.int .i64 i.b) := by rw [ldS_at gn]; rfl
  have wa := wf_i64 hwa
  have wb := wf_i64 hwb
  have hm := B.bnd.2
  rw [mxl] at hm
  have bad : Ok (some (AV.sl none 0 (.ex 0), g1)) fun r => ∃ l, Lst h r.2 r.1 l ∧ l.length ≤ 60 := Ok.of (r := (AV.sl none 0 (.ex 0), g1)) ⟨[], Lst.mt (s0.trans s1), by simp⟩
  by_cases c0 : ¬ i.op = 41
  · exact bad.eq (by simp -implicitDefEqProofs only [k_fresh_sent, hbx, hi, mk_some, hg, hg1, faP_ptr, Option.bind_some, l0, l1, l2, B1.l3, B1.ln3, neq_int, bin_lss, bin_gtr, bin_sub, Bool.not_true, Bool.not_false, gdW_tf, gdW_ff, gdW_tup, gQ_false, gQ_true, cl_some, pickP_bool, if_true, Bool.false_eq_true, if_false, c0, decide_true, decide_false, condE_true])
  have c0 : i.op = 41 := Decidable.not_not.1 c0
  by_cases c1 : i.a < 0
  · exact bad.eq (by simp -implicitDefEqProofs only [k_fresh_sent, hbx, hi, mk_some, hg, hg1, faP_ptr, Option.bind_some, l0, l1, l2, B1.l3, B1.ln3, neq_int, bin_lss, bin_gtr, bin_sub, Bool.not_true, Bool.not_false, gdW_tf, gdW_ff, gdW_tup, gQ_false, gQ_true, cl_some, pickP_bool, if_true, Bool.false_eq_true, if_false, c0, c1, decide_true, decide_false, condE_true])
  by_cases c2 : i.b < 0
  · exact bad.eq (by simp -implicitDefEqProofs only [k_fresh_sent, hbx, hi, mk_some, hg, hg1, faP_ptr, Option.bind_some, l0, l1, l2, B1.l3, B1.ln3, neq_int, bin_lss, bin_gtr, bin_sub, Bool.not_true, Bool.not_false, gdW_tf, gdW_ff, gdW_tup, gQ_false, gQ_true, cl_some, pickP_bool, if_true, Bool.false_eq_true, if_false, c0, c1, c2, decide_true, decide_false, condE_true])
  by_cases c3 : (m.cases.length : Int) < i.a
  · exact bad.eq (by simp -implicitDefEqProofs only [k_fresh_sent, hbx, hi, mk_some, hg, hg1, faP_ptr, Option.bind_some, l0, l1, l2, B1.l3, B1.ln3, neq_int, bin_lss, bin_gtr, bin_sub, Bool.not_true, Bool.not_false, gdW_tf, gdW_ff, gdW_tup, gQ_false, gQ_true, cl_some, pickP_bool, if_true, Bool.false_eq_true, if_false, c0, c1, c2, c3, decide_true, decide_false, condE_true])
  have e4 : IntKind.i64.wrap ((m.cases.length : Int) - i.a) = (m.cases.length : Int) - i.a := wrap_i64 (by omega) (by omega)
  by_cases c4 : (m.cases.length : Int) - i.a < i.b
  · exact bad.eq (by simp -implicitDefEqProofs only [k_fresh_sent, hbx, hi, mk_some, hg, hg1, faP_ptr, Option.bind_some, l0, l1, l2, B1.l3, B1.ln3, neq_int, bin_lss, bin_gtr, bin_sub, Bool.not_true, Bool.not_false, gdW_tf, gdW_ff, gdW_tup, gQ_false, gQ_true, cl_some, pickP_bool, if_true, Bool.false_eq_true, if_false, e4, c0, c1, c2, c3, c4, decide_true, decide_false, condE_true])
  obtain ⟨v', e5, hv'⟩ := B1.cs.part hcv (a := i.a.toNat) (b := i.b.toNat) (by simp; omega)
  have ea : ((i.a.toNat : Nat) : Int) = i.a := by omega
  have eab : ((i.a.toNat + i.b.toNat : Nat) : Int) = i.a + i.b := by omega
  have ew : IntKind.i64.wrap (i.a + i.b) = i.a + i.b := wrap_i64 (by omega) (by omega)
  rw [ea, eab] at e5
  rw [← List.map_drop, ← List.map_take] at hv'
  have hln := hv'.lnL
  rw [List.length_map] at hln
  have hcl : ((m.cases.drop i.a.toNat).take i.b.toNat).length ≤ 60 := by simp only [List.length_take, List.length_drop]; omega
  refine Ok.eq ?_ (by simp -implicitDefEqProofs only [k_fresh_sent, hbx, hi, mk_some, hg, hg1, faP_ptr, Option.bind_some, l0, l1, l2, B1.l3, B1.ln3, neq_int, bin_lss, bin_gtr, bin_sub, Bool.not_true, Bool.not_false, gdW_tf, gdW_ff, gdW_tup, gQ_false, gQ_true, cl_some, pickP_bool, if_true, Bool.false_eq_true, if_false, bin_add, e4, ew, c0, c1, c2, c3, c4, decide_true, decide_false, condE_false, e5, hln]; rfl)
  refine ok_lp (sentL_ok hv' (s0.trans s1) (by omega)) ?_
  rintro _ vs g2 ⟨rfl, q, l, rfl, hq, hll⟩
  simp only at hq
  exact ok_val (v := vs.getD 0 .bot) (g := g2) (by simp -implicitDefEqProofs only [if_true, thenK_normal]) ⟨l, hq, by omega⟩
theorem receivesL_ok {g h : Heap} {v : AV} {cs : List Cas} (H : RwC h 4 v (cs.map Cas.row)) (hs : Same [] g h) (hl : cs.length ≤ 1048576) :
    Ok (k_fresh_receives_L0 v (.int .i64 cs.length) (.sl none 0 (.ex 0)) (.int .i64 0) h) fun r => r.1 = .exit 0 ∧ ∃ q l, r.2.1.getD 0 .bot = q ∧ Lst g r.2.2 q l ∧ l.length ≤ cs.length := by
  refine ok_loop (fun k vs g' => ∃ (i : Nat) (q : AV) (b : Option Nat) (l : List Int), vs = [q, .int .i64 i] ∧ k + i = cs.length ∧ SlB g' b 1 q (wI l) l.length ∧ (∀ j, b = some j → h.next ≤ j) ∧ Same [] h g' ∧ l.length ≤ i) ?_ (n := cs.length) (by omega)
    ⟨0, _, none, [], rfl, rfl, SlB.mt, (fun j hj => by cases hj), Same.refl _ _, Nat.le_refl _⟩
  rintro k vs g' ⟨i, q, b, l, rfl, hk, hq, hb, s, hli⟩
  rw [gD0, gD1]
  by_cases hi : i < cs.length
  · obtain ⟨c, hc⟩ : ∃ c, cs[i]? = some c := ⟨_, List.getElem?_eq_getElem hi⟩
    have hi' : (i : Int) < cs.length := by omega
    obtain ⟨b2, o2, hb2, hix, hla, hls⟩ := (H.mono s.next (fun j hj => s.get j hj (by simp))).at (i := i) (r := c.row) (by rw [List.getElem?_map, hc]; rfl)
    refine Ok.eq ?_ (by simp -implicitDefEqProofs only [k_fresh_receives_b0, bin_lss, hi', decide_true, Option.bind_some, condE_true, hix, hla]; rfl)
    refine ok_tmp (cs := c.row) (n := 4) (by rfl) (by rfl) (Cas.sc c) fun g2 s' n' hg' => ?_
    have l0 : ldS g2 (.ptr (some (g'.next, 0 + 0))) = some (.int .i64 c.kind) := by rw [ldS_at hg']; rfl
    have l2 : ldS g2 (.ptr (some (g'.next, 0 + 2))) = some (.int .i64 c.val) := by rw [ldS_at hg']; rfl
    have hq' := hq.same s' (fun j _ => by simp)
    by_cases ck : c.kind = 0
    · refine Ok.eq ?_ (by simp -implicitDefEqProofs only [faP_ptr, Option.bind_some, l0, l2, eql_int, ck, decide_true, condE_true]; rfl)
      refine app1 hq' rfl rfl rfl (by decide) (by omega) fun v' g3 h3 s3 n3 => ?_
      have e : wI l ++ (AV.int .i64 c.val).cells = wI (l ++ [c.val]) := by simp [wI, AV.cells]
      rw [e] at h3
      refine (Ok.of (r := (.normal, [v', .int .i64 ((i + 1 : Nat) : Int)], g3)) (.inl ⟨rfl, k - 1, by omega, i + 1, v', some (g2.next + 1), l ++ [c.val], rfl, by omega, by rw [List.length_append]; exact h3, fun j hj => ?_, ?_, by simp; omega⟩)).eq (by simp -implicitDefEqProofs only [bin_add, suc64 i (by omega), Option.bind_some])
      · cases hj; have := s.next; omega
      · exact (s.trans s').old s3 fun j hj => by
          cases b with
          | none => simp at hj
          | some x => simp at hj; subst hj; exact .inr (hb _ rfl)
    · exact (Ok.of (r := (.normal, [q, .int .i64 ((i + 1 : Nat) : Int)], g2)) (.inl ⟨rfl, k - 1, by omega, i + 1, q, b, l, rfl, by omega, hq', hb, s.trans s', by omega⟩)).eq (by simp -implicitDefEqProofs only [faP_ptr, Option.bind_some, l0, eql_int, ck, decide_false, condE_false, bin_add, suc64 i (by omega)])
  · have hi' : ¬ (i : Int) < cs.length := by omega
    exact (Ok.of (r := (.exit 0, [q, .int .i64 (i : Int)], g')) (.inr ⟨by simp, rfl, q, l, rfl, (Lst.of_slb hq hb s).old hs, by omega⟩)).eq (by simp -implicitDefEqProofs only [k_fresh_receives_b0, bin_lss, hi', decide_false, Option.bind_some, condE_false])
theorem receives_ok {h : Heap} {v : AV} {m : Md} (H : MdRd h v m) (i : Ins) (hwa : wfI i.a) (hwb : wfI i.b) (hc : m.cases.length ≤ 60) :
    Ok (k_fresh_receives v (.agg i.row) h) fun r => ∃ l, Lst h r.2 r.1 l ∧ l.length ≤ 60 := by
  have hcv : ∀ sv gv kv cv fv, v = .agg [sv, gv, kv, cv, fv, .int .i64 m.main] → CapV 4 cv := fun sv gv kv cv fv e => by
    obtain ⟨_, _, _, _, _, e', _, _, _, _, _, _, _, _, _, _, hc, _⟩ := H
    rw [e] at e'
    cases e'
    exact hc
  obtain ⟨sv, gv, kv, cv, fv, rfl, hbx, B⟩ := H.box
  have hcv := hcv _ _ _ _ _ rfl
  have s0 : Same [] h (h.new (.cells true [sv, gv, kv, cv, fv, .int .i64 m.main])) := Same.new _ _
  have hi := bx_agg (Ins.sc i)
  generalize hg : h.new (.cells true [sv, gv, kv, cv, fv, .int .i64 m.main]) = g at *
  have s1 : Same [] g (g.new (.cells true i.row)) := Same.new _ _
  have B1 := B.mono s1
  have gn : (g.new (.cells true i.row)).get g.next = some (.cells true i.row) := get_new_eq
  generalize hg1 : g.new (.cells true i.row) = g1 at *
  have l0 : ldS g1 (.ptr (some (g.next, 0 + 0))) = some (.int .i64 i.op) := by rw [ldS_at gn]; rfl
  have l1 : ldS g1 (.ptr (some (g.next, 0 + 1))) = some (.int .i64 i.a) := by rw [ldS_at gn]; rfl
  have l2 : ldS g1 (.ptr (some (g.next, 0 + 2))) = some (.int .i64 i.b) := by rw [ldS_at gn]; rfl
  have wa := wf_i64 hwa
  have wb := wf_i64 hwb
  have hm := B.bnd.2
  rw [mxl] at hm
  have bad : Ok (some (AV.sl none 0 (.ex 0), g1)) fun r => ∃ l, Lst h r.2 r.1 l ∧ l.length ≤ 60 := Ok.of (r := (AV.sl none 0 (.ex 0), g1)) ⟨[], Lst.mt (s0.trans s1), by simp⟩
  by_cases c0 : ¬ i.op = 41
  · exact bad.eq (by simp -implicitDefEqProofs only [k_fresh_receives, hbx, hi, mk_some, hg, hg1, faP_ptr, Option.bind_some, l0, l1, l2, B1.l3, B1.ln3, neq_int, bin_lss, bin_gtr, bin_sub, Bool.not_true, Bool.not_false, gdW_tf, gdW_ff, gdW_tup, gQ_false, gQ_true, cl_some, pickP_bool, if_true, Bool.false_eq_true, if_false, c0, decide_true, decide_false, condE_true])
  have c0 : i.op = 41 := Decidable.not_not.1 c0
  by_cases c1 : i.a < 0
  · exact bad.eq (by simp -implicitDefEqProofs only [k_fresh_receives, hbx, hi, mk_some, hg, hg1, faP_ptr, Option.bind_some, l0, l1, l2, B1.l3, B1.ln3, neq_int, bin_lss, bin_gtr, bin_sub, Bool.not_true, Bool.not_false, gdW_tf, gdW_ff, gdW_tup, gQ_false, gQ_true, cl_some, pickP_bool, if_true, Bool.false_eq_true, if_false, c0, c1, decide_true, decide_false, condE_true])
  by_cases c2 : i.b < 0
  · exact bad.eq (by simp -implicitDefEqProofs only [k_fresh_receives, hbx, hi, mk_some, hg, hg1, faP_ptr, Option.bind_some, l0, l1, l2, B1.l3, B1.ln3, neq_int, bin_lss, bin_gtr, bin_sub, Bool.not_true, Bool.not_false, gdW_tf, gdW_ff, gdW_tup, gQ_false, gQ_true, cl_some, pickP_bool, if_true, Bool.false_eq_true, if_false, c0, c1, c2, decide_true, decide_false, condE_true])
  by_cases c3 : (m.cases.length : Int) < i.a
  · exact bad.eq (by simp -implicitDefEqProofs only [k_fresh_receives, hbx, hi, mk_some, hg, hg1, faP_ptr, Option.bind_some, l0, l1, l2, B1.l3, B1.ln3, neq_int, bin_lss, bin_gtr, bin_sub, Bool.not_true, Bool.not_false, gdW_tf, gdW_ff, gdW_tup, gQ_false, gQ_true, cl_some, pickP_bool, if_true, Bool.false_eq_true, if_false, c0, c1, c2, c3, decide_true, decide_false, condE_true])
  have e4 : IntKind.i64.wrap ((m.cases.length : Int) - i.a) = (m.cases.length : Int) - i.a := wrap_i64 (by omega) (by omega)
  by_cases c4 : (m.cases.length : Int) - i.a < i.b
  · exact bad.eq (by simp -implicitDefEqProofs only [k_fresh_receives, hbx, hi, mk_some, hg, hg1, faP_ptr, Option.bind_some, l0, l1, l2, B1.l3, B1.ln3, neq_int, bin_lss, bin_gtr, bin_sub, Bool.not_true, Bool.not_false, gdW_tf, gdW_ff, gdW_tup, gQ_false, gQ_true, cl_some, pickP_bool, if_true, Bool.false_eq_true, if_false, e4, c0, c1, c2, c3, c4, decide_true, decide_false, condE_true])
  obtain ⟨v', e5, hv'⟩ := B1.cs.part hcv (a := i.a.toNat) (b := i.b.toNat) (by simp; omega)
  have ea : ((i.a.toNat : Nat) : Int) = i.a := by omega
  have eab : ((i.a.toNat + i.b.toNat : Nat) : Int) = i.a + i.b := by omega
  have ew : IntKind.i64.wrap (i.a + i.b) = i.a + i.b := wrap_i64 (by omega) (by omega)
  rw [ea, eab] at e5
  rw [← List.map_drop, ← List.map_take] at hv'
  have hln := hv'.lnL
  rw [List.length_map] at hln
  have hcl : ((m.cases.drop i.a.toNat).take i.b.toNat).length ≤ 60 := by simp only [List.length_take, List.length_drop]; omega
  refine Ok.eq ?_ (by simp -implicitDefEqProofs only [k_fresh_receives, hbx, hi, mk_some, hg, hg1, faP_ptr, Option.bind_some, l0, l1, l2, B1.l3, B1.ln3, neq_int, bin_lss, bin_gtr, bin_sub, Bool.not_true, Bool.not_false, gdW_tf, gdW_ff, gdW_tup, gQ_false, gQ_true, cl_some, pickP_bool, if_true, Bool.false_eq_true, if_false, bin_add, e4, ew, c0, c1, c2, c3, c4, decide_true, decide_false, condE_false, e5, hln]; rfl)
  refine ok_lp (receivesL_ok hv' (s0.trans s1) (by omega)) ?_
  rintro _ vs g2 ⟨rfl, q, l, rfl, hq, hll⟩
  simp only at hq
  exact ok_val (v := vs.getD 0 .bot) (g := g2) (by simp -implicitDefEqProofs only [if_true, thenK_normal]) ⟨l, hq, by omega⟩
end Go.Ab.F

namespace Go.Ab.F
open Go Go.Ab
set_option linter.all false
set_option linter.unusedSimpArgs false
attribute [local congr] c_bind c_cl c_mk c_lp c_clC c_gQ c_gV c_condE c_thenK

theorem Lst.rdb {h g g' : Heap} {v : AV} {l : List Int} {b : Nat} (L : Lst h g v l) (hb : b < h.next) (s : Same [b] g g') : RdW g' 1 v (wI l) l.length := by
  refine ⟨by simp [wI], ?_⟩
  rcases L.eq with ⟨rfl, rfl⟩ | ⟨b1, c, rest, rfl, h1, h2, h3, h4, _⟩
  · exact .inl ⟨rfl, rfl⟩
  · exact .inr ⟨b1, 0, c, rfl, Nat.lt_of_lt_of_le h2 s.next, fun _ => ⟨true, [], rest, rfl, by rw [s.get b1 h2 (by simp; omega)]; simpa using h4⟩⟩
theorem bld0 : bldS [(0, 1), (1, 1), (2, 1)] [(AV.bool false), (AV.bool false), (AV.int .u64 0)] [] = some (.agg dS.row) := rfl
theorem bldY (y : Bool) : bldS [(0, 1), (1, 1), (2, 1)] [(AV.bool false), (AV.bool false), (AV.int .u64 0)] [(0, AV.bool y)] = some (.agg (St.row ⟨y, false, 0#64⟩)) := rfl
theorem bldYO (y o : Bool) : bldS [(0, 1), (1, 1), (2, 1)] [(AV.bool false), (AV.bool false), (AV.int .u64 0)] [(0, AV.bool y), (1, AV.bool o)] = some (.agg (St.row ⟨y, o, 0#64⟩)) := rfl
theorem zero0_ok {g : Heap} {b : Nat} {v lv : AV} {l : List St} {ns : List Int} (H : Ste g b v l) (hr : ∀ g', Same [b] g g' → RdW g' 1 lv (wI ns) ns.length) (hn : ns.length ≤ 1048576) :
    Ok (k_fresh_behind_L0 v lv (.int .i64 ns.length) (.int .i64 0) g) fun r => r.1 = .exit 3 ∧ Same [b] g r.2.2 ∧ ∃ l', Ste r.2.2 b v l' ∧ LeS l' l := by
  refine ok_loop (fun m us g' => ∃ i : Nat, us = [.int .i64 (i : Nat)] ∧ m + i = ns.length ∧ Same [b] g g' ∧ ∃ l', Ste g' b v l' ∧ LeS l' l) ?_ (n := ns.length) (by omega) ⟨0, rfl, rfl, Same.refl _ _, l, H, LeS.refl l⟩
  rintro m us g' ⟨i, rfl, hm, s, l', H', hle⟩
  rw [gD0]
  by_cases hi : i < ns.length
  · have hi' : (i : Int) < ns.length := by omega
    obtain ⟨x, hx⟩ : ∃ x, ns[i]? = some x := ⟨_, List.getElem?_eq_getElem hi⟩
    obtain ⟨b1, o1, _, hix, hld⟩ := (hr g' s).at (i := i) (x := .int .i64 x) (by simp [wI, hx])
    refine Ok.eq ?_ (by simp -implicitDefEqProofs only [k_fresh_behind_b0, bin_lss, hi', decide_true, Option.bind_some, condE_true, hix, hld, bld0]; rfl)
    refine ok_cl (put_ok dS x H') ?_
    rintro u g2 ⟨s2, l2, H2, hl2, hy, ho⟩
    simp only at s2 H2
    refine (Ok.of (r := (.normal, [.int .i64 ((i + 1 : Nat) : Int)], g2)) (.inl ⟨rfl, m - 1, by omega, i + 1, rfl, by omega, s.trans s2, l2, H2, LeS.trans ⟨hl2, fun k h => ?_, fun k h => ?_⟩ hle⟩)).eq (by simp -implicitDefEqProofs only [bin_add, suc64 i (by omega), Option.bind_some])
    · rcases hy k h with h | ⟨h, _⟩
      · exact h
      · cases h
    · rcases ho k h with h | ⟨h, _⟩
      · exact h
      · cases h
  · have hi' : ¬ (i : Int) < ns.length := by omega
    exact (Ok.of (r := (.exit 3, [.int .i64 (i : Nat)], g')) (.inr ⟨by simp, rfl, s, l', H', hle⟩)).eq (by
      simp -implicitDefEqProofs only [k_fresh_behind_b0, bin_lss, hi', decide_false, Option.bind_some, condE_false])
theorem zero1_ok {g : Heap} {b : Nat} {v lv : AV} {l : List St} {ns : List Int} (H : Ste g b v l) (hr : ∀ g', Same [b] g g' → RdW g' 1 lv (wI ns) ns.length) (hn : ns.length ≤ 1048576) :
    Ok (k_fresh_behind_L1 v lv (.int .i64 ns.length) (.int .i64 0) g) fun r => r.1 = .exit 5 ∧ Same [b] g r.2.2 ∧ ∃ l', Ste r.2.2 b v l' ∧ LeS l' l := by
  refine ok_loop (fun m us g' => ∃ i : Nat, us = [.int .i64 (i : Nat)] ∧ m + i = ns.length ∧ Same [b] g g' ∧ ∃ l', Ste g' b v l' ∧ LeS l' l) ?_ (n := ns.length) (by omega) ⟨0, rfl, rfl, Same.refl _ _, l, H, LeS.refl l⟩
  rintro m us g' ⟨i, rfl, hm, s, l', H', hle⟩
  rw [gD0]
  by_cases hi : i < ns.length
  · have hi' : (i : Int) < ns.length := by omega
    obtain ⟨x, hx⟩ : ∃ x, ns[i]? = some x := ⟨_, List.getElem?_eq_getElem hi⟩
    obtain ⟨b1, o1, _, hix, hld⟩ := (hr g' s).at (i := i) (x := .int .i64 x) (by simp [wI, hx])
    refine Ok.eq ?_ (by simp -implicitDefEqProofs only [k_fresh_behind_b1, bin_lss, hi', decide_true, Option.bind_some, condE_true, hix, hld, bld0]; rfl)
    refine ok_cl (put_ok dS x H') ?_
    rintro u g2 ⟨s2, l2, H2, hl2, hy, ho⟩
    simp only at s2 H2
    refine (Ok.of (r := (.normal, [.int .i64 ((i + 1 : Nat) : Int)], g2)) (.inl ⟨rfl, m - 1, by omega, i + 1, rfl, by omega, s.trans s2, l2, H2, LeS.trans ⟨hl2, fun k h => ?_, fun k h => ?_⟩ hle⟩)).eq (by simp -implicitDefEqProofs only [bin_add, suc64 i (by omega), Option.bind_some])
    · rcases hy k h with h | ⟨h, _⟩
      · exact h
      · cases h
    · rcases ho k h with h | ⟨h, _⟩
      · exact h
      · cases h
  · have hi' : ¬ (i : Int) < ns.length := by omega
    exact (Ok.of (r := (.exit 5, [.int .i64 (i : Nat)], g')) (.inr ⟨by simp, rfl, s, l', H', hle⟩)).eq (by
      simp -implicitDefEqProofs only [k_fresh_behind_b1, bin_lss, hi', decide_false, Option.bind_some, condE_false])
/-- What is behind: no more is young or own than was, but what a maker made, and what was moved. -/
structure Bh (i : Ins) (l' l : List St) : Prop where
  len : l'.length = l.length
  y : ∀ k, yAt l' k = true → yAt l k = true ∨ (mkB i.op = true ∧ i.a = k) ∨ ∃ j, yAt l j = true
  o : ∀ k, oAt l' k = true → oAt l k = true ∨ mkB i.op = true
theorem LeS.bh {i : Ins} {l' l : List St} (h : LeS l' l) : Bh i l' l := ⟨h.len, fun k e => .inl (h.y k e), fun k e => .inl (h.o k e)⟩
section
variable {gB : Heap} {pm pi b : Nat} {m : Md} {i : Ins} {sv gv kv cv fv v : AV} (B : MdB gB pm m sv gv kv cv fv) (gi : gB.get pi = some (.cells true i.row)) (hpi : pi < gB.next) (hb : gB.next ≤ b) (hw : i.wf) (hc : m.cases.length ≤ 60)
include B gi hpi hb hw hc
theorem bh_j0 {g : Heap} {l : List St} (e : Same [] gB g) (H : Ste g b v l) (hm : mkB i.op = true) :
    Ok (k_fresh_behind_j0 (.ptr (some (pi, 0))) v (.int .i64 i.op) g) fun r => r.1 = v ∧ Same [b] g r.2 ∧ ∃ l', Ste r.2 b v l' ∧ Bh i l' l := by
  have l1 : ldS g (.ptr (some (pi, 0 + 1))) = some (.int .i64 i.a) := by rw [ldS_at (w := true) (vs := i.row) (by rw [e.get pi hpi (by simp)]; exact gi)]; rfl
  refine Ok.eq ?_ (by simp -implicitDefEqProofs only [k_fresh_behind_j0, faP_ptr, Option.bind_some, l1, neq_int, bldYO]; rfl)
  refine ok_cl (put_ok ⟨true, !decide (i.op = 36), 0#64⟩ i.a H) ?_
  rintro u g2 ⟨s2, l2, H2, hl2, hy, ho⟩
  simp only at s2 H2
  exact ok_val (v := v) (g := g2) rfl ⟨rfl, s2, l2, H2, hl2, fun k h => (hy k h).imp id fun h => .inl ⟨hm, h.2⟩, fun k h => (ho k h).imp id fun _ => hm⟩
theorem bh_j1 {g : Heap} {l : List St} (e : Same [] gB g) (H : Ste g b v l) :
    Ok (k_fresh_behind_j1 (.ptr (some (pm, 0))) (.ptr (some (pi, 0))) v g) fun r => r.1 = v ∧ Same [b] g r.2 ∧ ∃ l', Ste r.2 b v l' ∧ LeS l' l := by
  have hbl := H.lt
  have la : ∀ g', Same [] gB g' → ldA 5 g' (.ptr (some (pi, 0))) = some (.agg i.row) := fun g' s => by rw [ldA_at (w := true) (vs := i.row) (by rw [s.get pi hpi (by simp)]; exact gi)]; rfl
  refine Ok.eq ?_ (by simp -implicitDefEqProofs only [k_fresh_behind_j1, la g e, Option.bind_some]; rfl)
  refine ok_cl (writes_ok i) ?_
  intro v2 g2 L2
  simp only at L2
  have H2 := H.mono L2.same (by simp)
  refine Ok.eq ?_ (by simp -implicitDefEqProofs only [L2.lnL, Option.bind_some]; rfl)
  refine ok_lp (zero0_ok H2 (fun g' s => L2.rdb hbl s) (by have := writesL_len i; omega)) ?_
  rintro _ us g3 ⟨rfl, s3, l3, H3, h3⟩
  simp only at s3 H3
  have e3 : Same [] gB g3 := (e.trans L2.same).old s3 (fun j hj => .inr (by simp at hj; omega))
  have B3 := B.mono e3
  have hbl3 := H3.lt
  refine Ok.eq ?_ (by simp -implicitDefEqProofs only [if_true, thenK_normal, B3.la, la g3 e3, Option.bind_some]; rfl)
  refine ok_cl (receives_ok B3.rd i hw.2.1 hw.2.2.1 hc) ?_
  rintro v4 g4 ⟨ns, L4, hns⟩
  simp only at L4
  have H4 := H3.mono L4.same (by simp)
  refine Ok.eq ?_ (by simp -implicitDefEqProofs only [L4.lnL, Option.bind_some]; rfl)
  refine ok_lp (zero1_ok H4 (fun g' s => L4.rdb hbl3 s) (by omega)) ?_
  rintro _ us5 g5 ⟨rfl, s5, l5, H5, h5⟩
  simp only at s5 H5
  exact ok_val (v := v) (g := g5) (by simp -implicitDefEqProofs only [if_true, reduceCtorEq, if_false, thenK_normal]) ⟨rfl, (((L2.same.sub (by simp)).trans s3).trans (L4.same.sub (by simp))).trans s5, l5, H5, h5.trans h3⟩
theorem bh_j2 {g : Heap} {l : List St} (e : Same [] gB g) (H : Ste g b v l) :
    Ok (k_fresh_behind_j2 (.ptr (some (pm, 0))) (.ptr (some (pi, 0))) v (.int .i64 i.op) g) fun r => r.1 = v ∧ Same [b] g r.2 ∧ ∃ l', Ste r.2 b v l' ∧ LeS l' l := by
  have hbl := H.lt
  have l2 : ldS g (.ptr (some (pi, 0 + 2))) = some (.int .i64 i.b) := by rw [ldS_at (w := true) (vs := i.row) (by rw [e.get pi hpi (by simp)]; exact gi)]; rfl
  by_cases c1 : i.op = 38
  · have L := Lst.lit (Same.refl [] g) [i.b]
    refine Ok.eq ?_ (by simp -implicitDefEqProofs only [k_fresh_behind_j2, eql_int, c1, decide_true, Option.bind_some, condE_true, faP_ptr, l2, bs1, mk_some]; rfl)
    refine ok_cl (lend_ok (H.mono L.same (by simp)) (fun g' s => L.rdb hbl s) (by simp)) ?_
    rintro u g2 ⟨s2, l2, H2, h2⟩
    simp only at s2 H2
    refine (bh_j1 B gi hpi hb hw hc ((e.trans L.same).old s2 (fun j hj => .inr (by simp at hj; omega))) H2).mono ?_
    rintro r ⟨r1, s3, l3, H3, h3⟩
    exact ⟨r1, ((L.same.sub (by simp)).trans s2).trans s3, l3, H3, h3.trans h2⟩
  · exact (bh_j1 B gi hpi hb hw hc e H).eq (by simp -implicitDefEqProofs only [k_fresh_behind_j2, eql_int, c1, decide_false, Option.bind_some, condE_false])
theorem bh_j3 {g : Heap} {l : List St} (e : Same [] gB g) (H : Ste g b v l) :
    Ok (k_fresh_behind_j3 (.ptr (some (pm, 0))) (.ptr (some (pi, 0))) v g) fun r => r.1 = v ∧ Same [b] g r.2 ∧ ∃ l', Ste r.2 b v l' ∧ Bh i l' l := by
  have hbl := H.lt
  have li : ∀ g', Same [] gB g' → ∀ (f : Nat) x, i.row[f]? = some x → ldS g' (.ptr (some (pi, 0 + f))) = some x := fun g' s f x hx => by rw [ldS_at (w := true) (vs := i.row) (by rw [s.get pi hpi (by simp)]; exact gi), Nat.zero_add]; exact hx
  have la : ∀ g', Same [] gB g' → ldA 5 g' (.ptr (some (pi, 0))) = some (.agg i.row) := fun g' s => by rw [ldA_at (w := true) (vs := i.row) (by rw [s.get pi hpi (by simp)]; exact gi)]; rfl
  have old : ∀ {g1 g2 : Heap}, Same [] gB g1 → Same [b] g1 g2 → Same [] gB g2 := fun a s => a.old s (fun j hj => .inr (by simp at hj; omega))
  have l0 := li g e 0 _ rfl
  have l1 := li g e 1 _ rfl
  have l2 := li g e 2 _ rfl
  have Bg := B.mono e
  by_cases hm : mkB i.op = true
  · by_cases c36 : i.op = 36
    · have hm36 : mkB 36 = true := rfl
      refine Ok.eq ?_ (by simp -implicitDefEqProofs only [k_fresh_behind_j3, faP_ptr, Option.bind_some, l0, maker_eq, hm36, cl_some, condE_true, eql_int, c36, decide_true, Bg.la, la g e]; rfl)
      refine ok_cl (reads_ok Bg.rd i hw hc) ?_
      intro v2 g2 L2
      simp only at L2
      refine ok_cl (lend_ok (H.mono L2.same (by simp)) (fun g' s => L2.rdb hbl s) (by have := readsL_len (m := m) (i := i) hc; omega)) ?_
      rintro u g3 ⟨s3, l3, H3, h3⟩
      simp only at s3 H3
      have := bh_j0 B gi hpi hb hw hc (old (e.trans L2.same) s3) H3 hm
      rw [c36] at this
      refine this.mono ?_
      rintro r ⟨r1, s4, l4, H4, h4⟩
      refine ⟨r1, ((L2.same.sub (by simp)).trans s3).trans s4, l4, H4, h4.len.trans h3.len, fun k hk => ?_, fun k hk => (h4.o k hk).imp (h3.o k) id⟩
      rcases h4.y k hk with h | h | ⟨j, h⟩
      · exact .inl (h3.y k h)
      · exact .inr (.inl h)
      · exact .inr (.inr ⟨j, h3.y j h⟩)
    · exact (bh_j0 B gi hpi hb hw hc e H hm).eq (by simp -implicitDefEqProofs only [k_fresh_behind_j3, faP_ptr, Option.bind_some, l0, maker_eq, hm, cl_some, condE_true, condE_false, eql_int, c36, decide_false])
  have hm' : mkB i.op = false := by simpa using hm
  by_cases c1 : i.op = 1
  · have hm1 : mkB 1 = false := rfl
    refine Ok.eq ?_ (by simp -implicitDefEqProofs only [k_fresh_behind_j3, faP_ptr, Option.bind_some, l0, c1, maker_eq, hm1, cl_some, condE_true, condE_false, eql_int, decide_true, l2]; rfl)
    refine ok_cl (get_ok i.b H) ?_
    rintro _ g2 ⟨s2, t, rfl, hy⟩
    simp only at s2
    have e2 := e.trans s2
    have l2' := li g2 e2 2 _ rfl
    have H2 := H.mono s2 (by simp)
    have L := Lst.lit (Same.refl [] g2) [i.b]
    refine Ok.eq ?_ (by simp -implicitDefEqProofs only [St.row, fvS0, Option.bind_some, l2', bs1, mk_some]; rfl)
    refine ok_cl (lend_ok (H2.mono L.same (by simp)) (fun g' s => L.rdb H2.lt s) (by simp)) ?_
    rintro u g3 ⟨s3, l3, H3, h3⟩
    simp only at s3 H3
    have e3 := old (e2.trans L.same) s3
    have l1' := li g3 e3 1 _ rfl
    refine Ok.eq ?_ (by simp -implicitDefEqProofs only [faP_ptr, l1', Option.bind_some, bldY]; rfl)
    refine ok_cl (put_ok ⟨t.y, false, 0#64⟩ i.a H3) ?_
    rintro u2 g4 ⟨s4, l4, H4, hl4, hy4, ho4⟩
    simp only at s4 H4
    refine ok_val (v := v) (g := g4) rfl ⟨rfl, (((s2.trans L.same).sub (by simp)).trans s3).trans s4, l4, H4, hl4.trans h3.len, fun k hk => ?_, fun k hk => ?_⟩
    · rcases hy4 k hk with h | ⟨h, _⟩
      · exact .inl (h3.y k h)
      · exact .inr (.inr (hy h))
    · rcases ho4 k hk with h | ⟨h, _⟩
      · exact .inl (h3.o k h)
      · cases h
  by_cases c28 : i.op = 28 ∨ i.op = 29
  · have go : k_fresh_behind_j3 (.ptr (some (pm, 0))) (.ptr (some (pi, 0))) v g = (cl (k_fresh_bit (.int .i64 i.b) g) fun t118 h298 =>
        cl (k_fresh_states_written v (.int .i64 i.a) t118 h298) fun t119 h299 =>
        chk [g, h298, h299] [(fun k => ldS k (.ptr (some (pi, 0 + 1))), .int .i64 i.a, 0, 1)] (
        (ldS h299 (.ptr (some (pi, 0 + 3)))).bind fun t122 =>
        mk Heap.new (bsP 1 [(AV.int .i64 0)] 1 [(0, t122)]) h299 fun t123 h300 =>
        cl (k_fresh_states_lend v t123 h300) fun t124 h301 => some (v, h301))) := by
      have hm28 : mkB 28 = false := rfl
      have hm29 : mkB 29 = false := rfl
      rcases c28 with c | c <;> simp -implicitDefEqProofs only [k_fresh_behind_j3, faP_ptr, Option.bind_some, l0, c, maker_eq, hm28, hm29, cl_some, condE_true, condE_false, eql_int, Int.reduceEq, decide_true, decide_false, gdW_tf, gdW_ff, gdW_tup, gQ_false, gQ_true, pickP_bool, if_true, Bool.false_eq_true, if_false, rdC_some (f := fun k => ldS k (.ptr (some (pi, 0 + 1)))) (h := g) l1, clC_some, l2]
    obtain ⟨x, hx⟩ := fbit_ok i.b g
    refine Ok.eq ?_ go
    rw [hx, cl_some]
    refine ok_cl (written_ok i.a x H) ?_
    rintro u g3 ⟨s3, l3, H3, h3⟩
    simp only at s3 H3
    have e3 := old e s3
    have l3' := li g3 e3 3 _ rfl
    have L := Lst.lit (Same.refl [] g3) [i.c]
    rw [chk_two (same_int _ _) l1 l1]
    refine Ok.eq ?_ (by simp -implicitDefEqProofs only [l3', Option.bind_some, bs1, mk_some]; rfl)
    refine ok_cl (lend_ok (H3.mono L.same (by simp)) (fun g' s => L.rdb H3.lt s) (by simp)) ?_
    rintro u2 g4 ⟨s4, l4, H4, h4⟩
    simp only at s4 H4
    exact ok_val (v := v) (g := g4) rfl ⟨rfl, (s3.trans (L.same.sub (by simp))).trans s4, l4, H4, (h4.trans h3).bh⟩
  have c28a : ¬ i.op = 28 := fun h => c28 (.inl h)
  have c28b : ¬ i.op = 29 := fun h => c28 (.inr h)
  by_cases c31 : i.op = 31 ∨ i.op = 32
  · have go : k_fresh_behind_j3 (.ptr (some (pm, 0))) (.ptr (some (pi, 0))) v g = (cl (k_fresh_states_written v (.int .i64 i.a) (w64 18446744073709551615#64) g) fun t119 h299 =>
        (ldS h299 (.ptr (some (pi, 0 + 3)))).bind fun t122 =>
        mk Heap.new (bsP 1 [(AV.int .i64 0)] 1 [(0, t122)]) h299 fun t123 h300 =>
        cl (k_fresh_states_lend v t123 h300) fun t124 h301 => some (v, h301)) := by
      have hm31 : mkB 31 = false := rfl
      have hm32 : mkB 32 = false := rfl
      have hw : (AV.int .u64 18446744073709551615) = w64 18446744073709551615#64 := rfl
      rcases c31 with c | c <;> simp -implicitDefEqProofs only [k_fresh_behind_j3, faP_ptr, Option.bind_some, l0, c, maker_eq, hm31, hm32, cl_some, condE_true, condE_false, eql_int, Int.reduceEq, decide_true, decide_false, gdW_tf, gdW_ff, gdW_tup, gQ_false, gQ_true, pickP_bool, if_true, Bool.false_eq_true, if_false, l1, hw]
    refine Ok.eq ?_ go
    refine ok_cl (written_ok i.a _ H) ?_
    rintro u g3 ⟨s3, l3, H3, h3⟩
    simp only at s3 H3
    have e3 := old e s3
    have l3' := li g3 e3 3 _ rfl
    have L := Lst.lit (Same.refl [] g3) [i.c]
    refine Ok.eq ?_ (by simp -implicitDefEqProofs only [l3', Option.bind_some, bs1, mk_some]; rfl)
    refine ok_cl (lend_ok (H3.mono L.same (by simp)) (fun g' s => L.rdb H3.lt s) (by simp)) ?_
    rintro u2 g4 ⟨s4, l4, H4, h4⟩
    simp only at s4 H4
    exact ok_val (v := v) (g := g4) rfl ⟨rfl, (s3.trans (L.same.sub (by simp))).trans s4, l4, H4, (h4.trans h3).bh⟩
  have c31a : ¬ i.op = 31 := fun h => c31 (.inl h)
  have c31b : ¬ i.op = 32 := fun h => c31 (.inr h)
  obtain ⟨t, ht⟩ := lends_ok i.op g
  cases t with
  | true =>
    refine Ok.eq ?_ (by simp -implicitDefEqProofs only [k_fresh_behind_j3, faP_ptr, Option.bind_some, l0, c1, c28a, c28b, c31a, c31b, maker_eq, hm', cl_some, condE_true, condE_false, eql_int, decide_false, gdW_ff, gQ_true, pickP_bool, Bool.false_eq_true, if_false, ht, Bg.la, la g e]; rfl)
    refine ok_cl (reads_ok Bg.rd i hw hc) ?_
    intro v2 g2 L2
    simp only at L2
    refine ok_cl (lend_ok (H.mono L2.same (by simp)) (fun g' s => L2.rdb hbl s) (by have := readsL_len (m := m) (i := i) hc; omega)) ?_
    rintro u g3 ⟨s3, l3, H3, h3⟩
    simp only at s3 H3
    refine (bh_j2 B gi hpi hb hw hc (old (e.trans L2.same) s3) H3).mono ?_
    rintro r ⟨r1, s4, l4, H4, h4⟩
    exact ⟨r1, ((L2.same.sub (by simp)).trans s3).trans s4, l4, H4, (h4.trans h3).bh⟩
  | false =>
    refine ((bh_j2 B gi hpi hb hw hc e H).mono ?_).eq (by simp -implicitDefEqProofs only [k_fresh_behind_j3, faP_ptr, Option.bind_some, l0, c1, c28a, c28b, c31a, c31b, maker_eq, hm', cl_some, condE_false, eql_int, decide_false, gdW_ff, gQ_true, pickP_bool, Bool.false_eq_true, if_false, ht])
    rintro r ⟨r1, s4, l4, H4, h4⟩
    exact ⟨r1, s4, l4, H4, h4.bh⟩
end
end Go.Ab.F

namespace Go.Ab.F
open Go Go.Ab
set_option linter.all false
set_option linter.unusedSimpArgs false
attribute [local congr] c_bind c_cl c_mk c_lp c_clC c_gQ c_gV c_condE c_thenK

theorem eqSt (s t : St) : ∃ q, eqP (some (.struct #[])) (some [(0, .bool), (1, .bool), (2, (.int .u64))]) false .neq (.agg s.row) (.agg t.row) = some (.bool q) ∧ (q = true → s ≠ t) := by
  obtain ⟨y, o, w⟩ := s
  obtain ⟨y', o', w'⟩ := t
  have e : eqP (some (.struct #[])) (some [(0, .bool), (1, .bool), (2, (.int .u64))]) false .neq (.agg (St.row ⟨y, o, w⟩)) (.agg (St.row ⟨y', o', w'⟩)) = (eqFs [(0, .bool), (1, .bool), (2, (.int .u64))] (St.row ⟨y, o, w⟩) (St.row ⟨y', o', w'⟩)).map fun b => .bool !b := rfl
  rw [e]
  by_cases h : (⟨y, o, w⟩ : St) = ⟨y', o', w'⟩
  · refine ⟨false, ?_, fun h => by cases h⟩
    rw [h]
    have : eqFs [(0, .bool), (1, .bool), (2, (.int .u64))] (St.row ⟨y', o', w'⟩) (St.row ⟨y', o', w'⟩) = some true := by
      simp [eqFs, St.row, eqT, w64]
    rw [this]; rfl
  · have : ∃ q, eqFs [(0, .bool), (1, .bool), (2, (.int .u64))] (St.row ⟨y, o, w⟩) (St.row ⟨y', o', w'⟩) = some q := by
      simp only [eqFs, St.row, eqT, w64, List.getElem?_cons_zero, List.getElem?_cons_succ]
      cases y <;> cases y' <;> cases o <;> cases o' <;> simp
      all_goals omega
    obtain ⟨q, hq⟩ := this
    exact ⟨!q, by rw [hq]; rfl, fun _ => h⟩
theorem equal_ok {g : Heap} {b1 b2 : Nat} {v1 v2 : AV} {a c : List St} (A : Ste g b1 v1 a) (C : Ste g b2 v2 c) (hl : a.length = c.length) (h64 : a.length ≤ 64) :
    Ok (k_slices_Equal_fresh_states_fresh_State v1 v2 g) fun r => r.2 = g ∧ ∃ t, r.1 = .bool t ∧ (t = false → ∃ k, k < a.length ∧ a.getD k dS ≠ c.getD k dS) := by
  have la := A.lnL
  have lc := C.lnL
  rw [← hl] at lc
  refine Ok.eq ?_ (by simp -implicitDefEqProofs only [k_slices_Equal_fresh_states_fresh_State, la, lc, Option.bind_some, neq_int, decide_true, Bool.not_true, condE_false]; rfl)
  refine ok_lp (P := fun r => r.2.2 = g ∧ (r.1 = .exit 0 ∨ (r.1 = .ret ∧ r.2.1.getD 0 .bot = .bool false ∧ ∃ k, k < a.length ∧ a.getD k dS ≠ c.getD k dS))) ?_ ?_
  · refine ok_loop (fun m us g' => ∃ i : Nat, us = [.bool false, .int .i64 (i : Nat)] ∧ m + i = a.length ∧ g' = g) ?_ (n := a.length) (by omega) ⟨0, rfl, rfl, rfl⟩
    rintro m us g' ⟨i, rfl, hm, rfl⟩
    rw [gD0, gD1]
    by_cases hi : i < a.length
    · have hi' : (i : Int) < a.length := by omega
      obtain ⟨s, hs⟩ : ∃ s, a[i]? = some s := ⟨_, List.getElem?_eq_getElem hi⟩
      obtain ⟨t, ht⟩ : ∃ t, c[i]? = some t := ⟨_, List.getElem?_eq_getElem (by omega)⟩
      have i1 := A.ix (n := (i : Int)) (by omega) hi'
      have i2 := C.ix (n := (i : Int)) (by omega) (by omega)
      rw [Int.toNat_natCast] at i1 i2
      obtain ⟨q, hq, hne⟩ := eqSt s t
      cases q with
      | true =>
        exact (Ok.of (r := (.ret, [.bool false, .int .i64 (i : Nat)], g')) (.inr ⟨by simp, rfl, .inr ⟨rfl, rfl, i, hi, by rw [getS hs, getS ht]; exact hne rfl⟩⟩)).eq (by
          simp -implicitDefEqProofs only [k_slices_Equal_fresh_states_fresh_State_b0, bin_lss, hi', decide_true, Option.bind_some, condE_true, i1, i2, A.la hs, C.la ht, hq, chk_nil])
      | false =>
        exact (Ok.of (r := (.normal, [.bool false, .int .i64 ((i + 1 : Nat) : Int)], g')) (.inl ⟨rfl, m - 1, by omega, i + 1, rfl, by omega, rfl⟩)).eq (by
          simp -implicitDefEqProofs only [k_slices_Equal_fresh_states_fresh_State_b0, bin_lss, hi', decide_true, Option.bind_some, condE_true, condE_false, i1, i2, A.la hs, C.la ht, hq, chk_nil, bin_add, suc64 i (by omega)])
    · have hi' : ¬ (i : Int) < a.length := by omega
      exact (Ok.of (r := (.exit 0, [.bool false, .int .i64 (i : Nat)], g')) (.inr ⟨by simp, rfl, .inl rfl⟩)).eq (by
        simp -implicitDefEqProofs only [k_slices_Equal_fresh_states_fresh_State_b0, bin_lss, hi', decide_false, Option.bind_some, condE_false])
  · rintro e us g' ⟨hg, h⟩
    simp only at hg h
    subst hg
    rcases h with rfl | ⟨rfl, h2, h3⟩
    · exact ok_val (v := .bool true) (g := g') (by simp -implicitDefEqProofs only [if_true, thenK_normal]) ⟨rfl, true, rfl, fun h => by cases h⟩
    · exact ok_val (v := .bool false) (g := g') (by simp -implicitDefEqProofs only [reduceCtorEq, if_false, h2]; rfl) ⟨rfl, false, rfl, fun _ => h3⟩
def meetS (p q : St) : St := ⟨p.y && q.y, p.o && q.o, p.w ||| q.w⟩
structure Mt (l a c : List St) : Prop where
  len : l.length = a.length
  at_ : ∀ k, k < a.length → l.getD k dS = meetS (a.getD k dS) (c.getD k dS)
theorem meet_ok {g : Heap} {b1 b2 : Nat} {v1 v2 : AV} {a c : List St} (A : Ste g b1 v1 a) (C : Ste g b2 v2 c) (hl : a.length = c.length) (h64 : a.length ≤ 64) :
    Ok (k_fresh_meet v1 v2 g) fun r => Same [] g r.2 ∧ ∃ b l, g.next ≤ b ∧ Ste r.2 b r.1 l ∧ Mt l a c := by
  refine Ok.eq ?_ (by simp -implicitDefEqProofs only [k_fresh_meet]; rfl)
  refine ok_cl (clone_ok A h64) ?_
  rintro v g1 ⟨b, hb, s1, H⟩
  simp only at s1 H
  have hb1 := A.lt
  have hb2 := C.lt
  refine Ok.eq ?_ (by simp -implicitDefEqProofs only [H.lnL, Option.bind_some]; rfl)
  refine ok_lp (P := fun r => r.1 = .exit 0 ∧ Same [] g r.2.2 ∧ ∃ l, Ste r.2.2 b v l ∧ Mt l a c) ?_ ?_
  · refine ok_loop (fun m us g' => ∃ i : Nat, us = [.int .i64 (i : Nat)] ∧ m + i = a.length ∧ Same [] g g' ∧ ∃ l, Ste g' b v l ∧ l.length = a.length ∧ ∀ k, l.getD k dS = if k < i then meetS (a.getD k dS) (c.getD k dS) else a.getD k dS) ?_ (n := a.length) (by omega) ⟨0, rfl, rfl, s1, a, H, rfl, fun k => by rw [if_neg (by omega)]⟩
    rintro m us g' ⟨i, rfl, hm, s, l, H', hll, hk⟩
    rw [gD0]
    by_cases hi : i < a.length
    · have hi' : (i : Int) < a.length := by omega
      have A' := A.mono s (by simp)
      have C' := C.mono s (by simp)
      obtain ⟨p, hp⟩ : ∃ p, a[i]? = some p := ⟨_, List.getElem?_eq_getElem hi⟩
      obtain ⟨q, hq⟩ : ∃ q, c[i]? = some q := ⟨_, List.getElem?_eq_getElem (by omega)⟩
      obtain ⟨t, ht⟩ : ∃ t, l[i]? = some t := ⟨_, List.getElem?_eq_getElem (by omega)⟩
      have i1 := A'.ix (n := (i : Int)) (by omega) hi'
      have i2 := C'.ix (n := (i : Int)) (by omega) (by omega)
      have i3 := H'.ix (n := (i : Int)) (by omega) (by omega)
      rw [Int.toNat_natCast] at i1 i2 i3
      have a0 : ldS g' (.ptr (some (b1, i * 3 + 0))) = some (.bool p.y) := A'.ld hp (by omega)
      have a1 : ldS g' (.ptr (some (b1, i * 3 + 1))) = some (.bool p.o) := A'.ld hp (by omega)
      have a2 : ldS g' (.ptr (some (b1, i * 3 + 2))) = some (w64 p.w) := A'.ld hp (by omega)
      have c0 : ldS g' (.ptr (some (b2, i * 3 + 0))) = some (.bool q.y) := C'.ld hq (by omega)
      have c1 : ldS g' (.ptr (some (b2, i * 3 + 1))) = some (.bool q.o) := C'.ld hq (by omega)
      have c2 : ldS g' (.ptr (some (b2, i * 3 + 2))) = some (w64 q.w) := C'.ld hq (by omega)
      have eb : bldS [(0, 1), (1, 1), (2, 1)] [(AV.bool false), (AV.bool false), (AV.int .u64 0)] [(0, AV.bool (p.y && q.y)), (1, AV.bool (p.o && q.o)), (2, w64 (p.w ||| q.w))] = some (.agg (meetS p q).row) := rfl
      obtain ⟨e1, H2⟩ := H'.sa (meetS p q) ht
      have go : k_fresh_meet_b0 v1 v2 v (.int .i64 a.length) (.int .i64 (i : Nat)) g' = some (.normal, [.int .i64 ((i + 1 : Nat) : Int)], g'.put b (some (.cells true (flS (l.set i (meetS p q)))))) := by
        cases hy : p.y <;> cases ho : p.o <;> rw [hy] at a0 <;> rw [ho] at a1 <;> rw [hy, ho] at eb <;> simp only [Bool.true_and, Bool.false_and] at eb <;> simp -implicitDefEqProofs only [k_fresh_meet_b0, bin_lss, hi', decide_true, Option.bind_some, condE_true, i1, i2, i3, faP_ptr, a0, a1, a2, c0, c1, c2, gdW_tt, gdW_ft, gV_true, gV_false, pickP_bool, if_true, Bool.false_eq_true, if_false, or_w, eb, e1, cl_some, chk_nil, bin_add, suc64 i (by omega)]
      rw [go]
      refine Ok.of (.inl ⟨rfl, m - 1, by omega, i + 1, rfl, by omega, s.old (Same.put _ _ _) (fun j hj => .inr (by simp at hj; omega)), _, H2, by rw [List.length_set]; exact hll, fun k => ?_⟩)
      rw [getS_set (by omega)]
      by_cases e : k = i
      · subst e
        rw [if_pos rfl, if_pos (by omega), getS hp, getS hq]
      · rw [if_neg e, hk k]
        by_cases h1 : k < i
        · rw [if_pos h1, if_pos (by omega)]
        · rw [if_neg h1, if_neg (by omega)]
    · have hi' : ¬ (i : Int) < a.length := by omega
      exact (Ok.of (r := (.exit 0, [.int .i64 (i : Nat)], g')) (.inr ⟨by simp, rfl, s, l, H', hll, fun k hk' => by rw [hk k, if_pos (by omega)]⟩)).eq (by
        simp -implicitDefEqProofs only [k_fresh_meet_b0, bin_lss, hi', decide_false, Option.bind_some, condE_false])
  · rintro _ us g' ⟨rfl, s, l, H', hM⟩
    simp only at s H'
    exact ok_val (v := v) (g := g') (by simp -implicitDefEqProofs only [if_true, thenK_normal]) ⟨s, b, l, hb, H', hM⟩
theorem behind_ok {h : Heap} {vm v0 : AV} {b0 : Nat} {m : Md} {i : Ins} {l : List St} (M : MdRd h vm m) (hw : i.wf) (hc : m.cases.length ≤ 60) (S : Ste h b0 v0 l) (hl : l.length ≤ 64) :
    Ok (k_fresh_behind vm (.agg i.row) v0 h) fun r => Same [] h r.2 ∧ ∃ b l', h.next ≤ b ∧ Ste r.2 b r.1 l' ∧ l'.length = l.length ∧ (ptB i.op = true → ∀ k, yAt l' k = true → mkB i.op = true ∧ i.a = k) ∧
      (mkB i.op = false → (∀ j, yAt l j = false) → ∀ k, yAt l' k = false) ∧ (mkB i.op = false → (∀ j, oAt l j = false) → ∀ k, oAt l' k = false) := by
  obtain ⟨sv, gv, kv, cv, fv, rfl, hbx, B⟩ := M.box
  have hbi := bx_agg (Ins.sc i)
  have s0 : Same [] h (h.new (.cells true [sv, gv, kv, cv, fv, .int .i64 m.main])) := Same.new _ _
  generalize hg : h.new (.cells true [sv, gv, kv, cv, fv, .int .i64 m.main]) = g at *
  have s1 : Same [] g (g.new (.cells true i.row)) := Same.new _ _
  have B1 := B.mono s1
  have gn : (g.new (.cells true i.row)).get g.next = some (.cells true i.row) := get_new_eq
  have hn1 : (g.new (.cells true i.row)).next = g.next + 1 := rfl
  generalize hg1 : g.new (.cells true i.row) = g1 at *
  have sh := s0.trans s1
  refine Ok.eq ?_ (by simp -implicitDefEqProofs only [k_fresh_behind, hbx, hbi, mk_some, hg, hg1]; rfl)
  refine ok_cl (clone_ok (S.mono sh (by simp)) hl) ?_
  rintro v g2 ⟨b, hb, s2, H⟩
  simp only at s2 H
  have l0 : ldS g2 (.ptr (some (g.next, 0 + 0))) = some (.int .i64 i.op) := by rw [ldS_at (w := true) (vs := i.row) (by rw [s2.get _ (by omega) (by simp)]; exact gn)]; rfl
  have hnx := sh.next
  by_cases hp : ptB i.op = true
  · refine Ok.eq ?_ (by simp -implicitDefEqProofs only [faP_ptr, l0, Option.bind_some, point_eq, hp, cl_some, condE_true, H.lnL]; rfl)
    refine ok_lp (clear_ok H hl) ?_
    rintro _ us g3 ⟨rfl, s3, l3, H3, h3, hy3⟩
    simp only at s3 H3
    have e3 : Same [] g1 g3 := s2.old s3 (fun j hj => .inr (by simp at hj; omega))
    refine Ok.eq ?_ (by simp -implicitDefEqProofs only [if_true, thenK_normal]; rfl)
    have T := bh_j3 B1 gn (by omega) hb hw hc e3 H3
    refine Ok.mono (P := fun r => r.1 = v ∧ Same [b] g3 r.2 ∧ ∃ l', Ste r.2 b v l' ∧ Bh i l' l3) ?_ ?_
    · exact T
    rintro ⟨r1, r2⟩ ⟨rfl, s4, l4, H4, h4⟩
    refine ⟨(sh.trans e3).old s4 (fun j hj => .inr (by simp at hj; omega)), b, l4, by omega, H4, h4.len.trans h3.len, fun _ k hk => ?_, fun hm hy k => ?_, fun hm ho k => ?_⟩
    · rcases h4.y k hk with h | h | ⟨j, h⟩
      · rw [hy3 k] at h; cases h
      · exact h
      · rw [hy3 j] at h; cases h
    · cases e : yAt l4 k with
      | false => rfl
      | true =>
        rcases h4.y k e with h | ⟨h, _⟩ | ⟨j, h⟩
        · rw [hy3 k] at h; cases h
        · rw [hm] at h; cases h
        · rw [hy3 j] at h; cases h
    · cases e : oAt l4 k with
      | false => rfl
      | true =>
        rcases h4.o k e with h | h
        · have := h3.o k h; rw [ho k] at this; cases this
        · rw [hm] at h; cases h
  · have hp' : ptB i.op = false := by simpa using hp
    refine Ok.eq ?_ (by simp -implicitDefEqProofs only [faP_ptr, l0, Option.bind_some, point_eq, hp', cl_some, condE_false]; rfl)
    refine (bh_j3 B1 gn (by omega) hb hw hc s2 H).mono ?_
    rintro ⟨r1, r2⟩ ⟨rfl, s3, l3, H3, h3⟩
    refine ⟨(sh.trans s2).old s3 (fun j hj => .inr (by simp at hj; omega)), b, l3, by omega, H3, h3.len, fun h => absurd h hp, fun hm hy k => ?_, fun hm ho k => ?_⟩
    · cases e : yAt l3 k with
      | false => rfl
      | true =>
        rcases h3.y k e with h | ⟨h, _⟩ | ⟨j, h⟩
        · rw [hy k] at h; cases h
        · rw [hm] at h; cases h
        · rw [hy j] at h; cases h
    · cases e : oAt l3 k with
      | false => rfl
      | true =>
        rcases h3.o k e with h | h
        · rw [ho k] at h; cases h
        · rw [hm] at h; cases h
end Go.Ab.F

namespace Go.Ab.F
open Go Go.Ab
set_option linter.all false
set_option linter.unusedSimpArgs false
attribute [local congr] c_bind c_cl c_mk c_lp c_clC c_gQ c_gV c_condE c_thenK

/-! ### What goes down -/
theorem sum_le {α : Type} (f : α → Nat) (d : α) : ∀ {x a : List α}, x.length = a.length → (∀ k, k < a.length → f (x.getD k d) ≤ f (a.getD k d)) →
    (x.map f).sum ≤ (a.map f).sum ∧ ((∃ k, k < a.length ∧ f (x.getD k d) < f (a.getD k d)) → (x.map f).sum < (a.map f).sum)
  | [], [], _, _ => ⟨Nat.le_refl _, fun ⟨k, hk, _⟩ => by simp at hk⟩
  | [], _ :: _, h, _ => by simp at h
  | _ :: _, [], h, _ => by simp at h
  | p :: x, q :: a, h, hk => by
    have h0 := hk 0 (by simp)
    simp only [List.getD_cons_zero] at h0
    have ih := sum_le f d (x := x) (a := a) (by simpa using h) fun k hk' => by
      have := hk (k + 1) (by simpa using hk')
      simpa only [List.getD_cons_succ] using this
    simp only [List.map_cons, List.sum_cons]
    refine ⟨by have := ih.1; omega, ?_⟩
    rintro ⟨k, hk', hlt⟩
    cases k with
    | zero => simp only [List.getD_cons_zero] at hlt; have := ih.1; omega
    | succ k =>
      have := ih.2 ⟨k, by simpa using hk', by simpa only [List.getD_cons_succ] using hlt⟩
      omega
def wS (s : St) : Nat := (if s.y = true then 1 else 0) + (if s.o = true then 1 else 0) + (18446744073709551615 - s.w.toNat)
theorem wS_le (s : St) : wS s ≤ 18446744073709551617 := by
  unfold wS
  split <;> split <;> omega
theorem wS_meet (p q : St) : wS (meetS p q) ≤ wS p ∧ (meetS p q ≠ p → wS (meetS p q) < wS p) := by
  obtain ⟨y, o, w⟩ := p
  obtain ⟨y', o', w'⟩ := q
  have hsub : SubW w (w ||| w') := fun k h => by rw [BitVec.getLsbD_or, h, Bool.true_or]
  have h1 := hsub.le
  have hlt := (w ||| w').isLt
  have hw : w ||| w' ≠ w → w.toNat < (w ||| w').toNat := fun h => by
    have : (w ||| w').toNat ≠ w.toNat := fun e => h (BitVec.eq_of_toNat_eq e)
    omega
  have key : ∀ y1 o1 : Bool, (y1 = true → y = true) → (o1 = true → o = true) → y1 = (y && y') → o1 = (o && o') → wS ⟨y1, o1, w ||| w'⟩ ≤ wS ⟨y, o, w⟩ ∧ ((⟨y1, o1, w ||| w'⟩ : St) ≠ ⟨y, o, w⟩ → wS ⟨y1, o1, w ||| w'⟩ < wS ⟨y, o, w⟩) := by
    intro y1 o1 hy ho _ _
    unfold wS
    simp only
    clear hsub
    generalize w ||| w' = u at *
    by_cases e : u = w
    · rw [e]
      revert hy ho
      cases y <;> cases y1 <;> cases o <;> cases o1 <;> simp
    · have := hw e
      revert hy ho
      cases y <;> cases y1 <;> cases o <;> cases o1 <;> simp <;> omega
  exact key (y && y') (o && o') (fun h => by simp at h; exact h.1) (fun h => by simp at h; exact h.1) rfl rfl
def wtO : Option (List St) → Nat
  | none => 2361183241434822606848
  | some l => (l.map wS).sum
theorem wtL_le : ∀ l : List St, (l.map wS).sum ≤ l.length * 18446744073709551617
  | [] => by simp
  | s :: l => by have := wtL_le l; have := wS_le s; simp only [List.map_cons, List.sum_cons, List.length_cons, Nat.add_mul]; omega
def mu (L : List (Option (List St))) : Nat := (L.map wtO).sum
theorem mu_le : ∀ {L : List (Option (List St))}, (∀ o ∈ L, wtO o ≤ 2361183241434822606848) → mu L ≤ L.length * 2361183241434822606848
  | [], _ => by simp [mu]
  | o :: L, h => by
    have h1 := mu_le (L := L) fun o ho => h o (List.mem_cons_of_mem _ ho)
    have h2 := h o (List.mem_cons_self ..)
    simp only [mu, List.map_cons, List.sum_cons, List.length_cons, Nat.add_mul] at h1 ⊢; omega
theorem mu_set {L : List (Option (List St))} {pc : Nat} {o x : Option (List St)} (h : L[pc]? = some o) (hx : wtO x < wtO o) : mu (L.set pc x) < mu L := by
  obtain ⟨hp, _⟩ := List.getElem?_eq_some_iff.1 h
  have hg : ∀ k, (L.set pc x).getD k none = if k = pc then x else L.getD k none := fun k => by
    rw [List.getD_eq_getElem?_getD, List.getD_eq_getElem?_getD]
    by_cases e : k = pc
    · subst e; rw [List.getElem?_set_self hp]; simp
    · rw [List.getElem?_set_ne (fun h => e h.symm), if_neg e]
  have ho : L.getD pc none = o := by rw [List.getD_eq_getElem?_getD, h]; rfl
  refine (sum_le wtO none (x := L.set pc x) (a := L) (by simp) fun k hk => ?_).2 ⟨pc, hp, ?_⟩
  · rw [hg]; split
    · rename_i e; subst e; rw [ho]; omega
    · exact Nat.le_refl _
  · rw [hg, if_pos rfl, ho]; exact hx
theorem mt_lt {x a c : List St} (M : Mt x a c) (h : ∃ k, k < x.length ∧ x.getD k dS ≠ a.getD k dS) : (x.map wS).sum < (a.map wS).sum := by
  obtain ⟨k, hk, hne⟩ := h
  have hk' : k < a.length := by rw [← M.len]; exact hk
  refine (sum_le wS dS M.len fun k hk => by rw [M.at_ k hk]; exact (wS_meet _ _).1).2 ⟨k, hk', ?_⟩
  rw [M.at_ k hk'] at hne ⊢
  exact (wS_meet _ _).2 hne

/-! ### The table of all states -/
def Ent (g : Heap) (bb : Nat) (v : AV) : Option (List St) → Prop
  | none => v = .sl none 0 (.ex 0)
  | some l => ∃ b, Ste g b v l ∧ b ≠ bb
structure Tb (g : Heap) (bb : Nat) (L : List (Option (List St))) : Prop where
  ex : ∃ vs, g.get bb = some (.cells true vs) ∧ vs.length = L.length ∧ ∀ (pc : Nat) v o, vs[pc]? = some v → L[pc]? = some o → Ent g bb v o
  lt : bb < g.next
theorem Ent.mono {g g' : Heap} {bb : Nat} {v : AV} {o : Option (List St)} (H : Ent g bb v o) (s : Same [bb] g g') : Ent g' bb v o := by
  cases o with
  | none => exact H
  | some l => obtain ⟨b, h1, h2⟩ := H; exact ⟨b, h1.mono s (by simpa using h2), h2⟩
theorem Tb.mono {g g' : Heap} {bb : Nat} {L : List (Option (List St))} (H : Tb g bb L) (s : Same [] g g') : Tb g' bb L := by
  obtain ⟨⟨vs, h1, h2, h3⟩, h4⟩ := H
  exact ⟨⟨vs, by rw [s.get bb h4 (by simp)]; exact h1, h2, fun pc v o hv ho => (h3 pc v o hv ho).mono (s.sub (by simp))⟩, Nat.lt_of_lt_of_le h4 s.next⟩
theorem Tb.at_ {g : Heap} {bb : Nat} {L : List (Option (List St))} (H : Tb g bb L) {pc : Nat} {o : Option (List St)} (ho : L[pc]? = some o) : ∃ v, ldS g (.ptr (some (bb, pc))) = some v ∧ Ent g bb v o := by
  obtain ⟨⟨vs, h1, h2, h3⟩, _⟩ := H
  have hp := (List.getElem?_eq_some_iff.1 ho).1
  obtain ⟨v, hv⟩ : ∃ v, vs[pc]? = some v := ⟨_, List.getElem?_eq_getElem (by omega)⟩
  exact ⟨v, by rw [ldS_at h1]; exact hv, h3 pc v o hv ho⟩
theorem Tb.put {g : Heap} {bb b : Nat} {L : List (Option (List St))} {l : List St} {v : AV} (H : Tb g bb L) {pc : Nat} (hp : pc < L.length) (S : Ste g b v l) (hb : b ≠ bb) :
    ∃ g', stP 1 g (.ptr (some (bb, pc))) v = some (.bot, g') ∧ Same [bb] g g' ∧ Tb g' bb (L.set pc (some l)) := by
  obtain ⟨⟨vs, h1, h2, h3⟩, h4⟩ := H
  have s : Same [bb] g (g.put bb (some (.cells true (vs.set pc v)))) := Same.put _ _ _
  refine ⟨_, stP_one h1 (by omega) S.sc, s, ⟨vs.set pc v, get_put_eq, by simp [h2], fun q w o hw ho => ?_⟩, h4⟩
  by_cases e : q = pc
  · subst e
    rw [List.getElem?_set_self (by omega)] at hw ho
    cases hw; cases ho
    exact ⟨b, S.mono s (by simpa using hb), hb⟩
  · rw [List.getElem?_set_ne (fun h => e h.symm)] at hw ho
    exact (h3 q w o hw ho).mono s
theorem Ent.nil {g : Heap} {bb : Nat} {v : AV} {o : Option (List St)} (H : Ent g bb v o) : eqP (some (.slice 0)) none false .eql v (.sl none 0 (.ex 0)) = some (.bool o.isNone) := by
  cases o with
  | none => cases H; rfl
  | some l => obtain ⟨b, h, _⟩ := H; exact h.nn

/-! ### What is kept -/
def NoMk (f : Fn) : Prop := ∀ i ∈ f.code, mkB i.op = false
def Strt (f : Fn) : Prop := ∀ i ∈ f.code, i.op ≠ 18 ∧ i.op ≠ 19 ∧ i.op ≠ 41
structure Gd (f : Fn) (n0 pc : Nat) (l : List St) : Prop where
  len : l.length = n0
  zero : pc = 0 → ∀ k, yAt l k = false ∧ oAt l k = false
  nomk : NoMk f → ∀ k, yAt l k = false ∧ oAt l k = false
  strt : Strt f → ∀ (p : Nat) i, pc = p + 1 → f.code[p]? = some i → ptB i.op = true → ∀ k, yAt l k = true → mkB i.op = true ∧ i.a = k
theorem mt_y {x a c : List St} (M : Mt x a c) {k : Nat} (h : yAt x k = true) : yAt a k = true := by
  unfold yAt at h ⊢
  by_cases hk : k < a.length
  · rw [M.at_ k hk] at h
    simp only [meetS, Bool.and_eq_true] at h; exact h.1
  · rw [List.getD_eq_getElem?_getD, List.getElem?_eq_none (by rw [M.len]; omega)] at h; cases h
theorem mt_o {x a c : List St} (M : Mt x a c) {k : Nat} (h : oAt x k = true) : oAt a k = true := by
  unfold oAt at h ⊢
  by_cases hk : k < a.length
  · rw [M.at_ k hk] at h
    simp only [meetS, Bool.and_eq_true] at h; exact h.1
  · rw [List.getD_eq_getElem?_getD, List.getElem?_eq_none (by rw [M.len]; omega)] at h; cases h
theorem ff {b c : Bool} (h : b = true → c = true) (hc : c = false) : b = false := by cases b <;> simp_all
theorem Gd.meet {f : Fn} {n0 pc : Nat} {x a c : List St} (H : Gd f n0 pc a) (M : Mt x a c) : Gd f n0 pc x :=
  ⟨M.len.trans H.len, fun h k => ⟨ff (mt_y M) (H.zero h k).1, ff (mt_o M) (H.zero h k).2⟩, fun h k => ⟨ff (mt_y M) (H.nomk h k).1, ff (mt_o M) (H.nomk h k).2⟩, fun h p i e hi hp k hk => H.strt h p i e hi hp k (mt_y M hk)⟩
structure All (f : Fn) (n0 : Nat) (L : List (Option (List St))) : Prop where
  len : L.length = f.code.length
  gd : ∀ (pc : Nat) l, L[pc]? = some (some l) → Gd f n0 pc l
  zero : 0 < f.code.length → ∃ l, L[0]? = some (some l)
theorem All.set {f : Fn} {n0 pc : Nat} {L : List (Option (List St))} {l : List St} (H : All f n0 L) (hp : pc < f.code.length) (g : Gd f n0 pc l) : All f n0 (L.set pc (some l)) := by
  refine ⟨by rw [List.length_set]; exact H.len, fun q l' hl => ?_, fun h => ?_⟩
  · by_cases e : q = pc
    · subst e
      rw [List.getElem?_set_self (by rw [H.len]; exact hp)] at hl
      cases hl; exact g
    · rw [List.getElem?_set_ne (fun h => e h.symm)] at hl
      exact H.gd q l' hl
  · by_cases e : pc = 0
    · subst e; exact ⟨l, by rw [List.getElem?_set_self (by rw [H.len]; exact hp)]⟩
    · rw [List.getElem?_set_ne e]; exact H.zero h
theorem all_mu {f : Fn} {n0 : Nat} {L : List (Option (List St))} (H : All f n0 L) (h64 : n0 ≤ 64) (hf : f.code.length ≤ 200) : mu L ≤ 200 * 2361183241434822606848 := by
  have h1 : mu L ≤ L.length * 2361183241434822606848 := mu_le fun o ho => by
    obtain ⟨pc, hpc⟩ := List.getElem?_of_mem ho
    cases o with
    | none => exact Nat.le_refl _
    | some l =>
      have := (H.gd pc l hpc).len
      have h2 := wtL_le l
      have : l.length * 18446744073709551617 ≤ 64 * 18446744073709551617 := Nat.mul_le_mul_right _ (by omega)
      simp only [wtO]; omega
  have : L.length * 2361183241434822606848 ≤ 200 * 2361183241434822606848 := Nat.mul_le_mul_right _ (by rw [H.len]; exact hf)
  exact Nat.le_trans h1 this
/-- What goes on from an instruction is put where it goes on. -/
theorem fol_ok {g0 g : Heap} {bb bs : Nat} {f : Fn} {n0 : Nat} {L : List (Option (List St))} {sv lv : AV} {ls : List St} {tos : List Int} (T : Tb g bb L) (A : All f n0 L) (e : Same [] g0 g) (hbb : g0.next ≤ bb)
    (S : Ste g bs sv ls) (hbs : bs ≠ bb) (hn0 : ls.length = n0) (h64 : n0 ≤ 64) (hr : ∀ g', Same [bb] g g' → RdW g' 1 lv (wI tos) tos.length) (hl : tos.length ≤ 60) (hin : ∀ t ∈ tos, 0 ≤ t ∧ t < f.code.length) (hf : f.code.length ≤ 1048576)
    (hg : ∀ t ∈ tos, t ≠ 0 → Gd f n0 t.toNat ls) (c0 : Bool) :
    Ok (k_fresh_Sets_L0 (.sl (some (bb, 0)) f.code.length (.ex f.code.length)) sv lv (.int .i64 tos.length) (.bool c0) (.int .i64 0) g) fun r => r.1 = .exit 4 ∧ ∃ (c : Bool) (L' : List (Option (List St))), r.2.1.getD 0 .bot = .bool c ∧ Same [] g0 r.2.2 ∧ Tb r.2.2 bb L' ∧ All f n0 L' ∧ mu L' ≤ mu L ∧ (c = true → c0 = true ∨ mu L' < mu L) := by
  refine ok_loop (fun m us g' => ∃ (j : Nat) (c : Bool) (L' : List (Option (List St))), us = [.bool c, .int .i64 (j : Nat)] ∧ m + j = tos.length ∧ Same [bb] g g' ∧ Tb g' bb L' ∧ All f n0 L' ∧ mu L' ≤ mu L ∧ (c = true → c0 = true ∨ mu L' < mu L)) ?_ (n := tos.length) (by omega)
    ⟨0, c0, L, rfl, rfl, Same.refl _ _, T, A, Nat.le_refl _, fun h => .inl h⟩
  rintro m us g' ⟨j, c, L', rfl, hm, s, T', A', hle, hc⟩
  rw [gD0, gD1]
  by_cases hj : j < tos.length
  · have hj' : (j : Int) < tos.length := by omega
    obtain ⟨t, ht⟩ : ∃ t, tos[j]? = some t := ⟨_, List.getElem?_eq_getElem hj⟩
    obtain ⟨h0, h1⟩ := hin t (List.mem_of_getElem? ht)
    obtain ⟨b1, o1, _, hix, hld⟩ := (hr g' s).at (i := j) (x := .int .i64 t) (by simp [wI, ht])
    have hL := A'.len
    obtain ⟨o, ho⟩ : ∃ o, L'[t.toNat]? = some o := ⟨_, List.getElem?_eq_getElem (by omega)⟩
    obtain ⟨w, hw, E⟩ := T'.at_ ho
    have hixb : iaS 1 (.sl (some (bb, 0)) f.code.length (.ex f.code.length)) (.int .i64 t) = some (.ptr (some (bb, t.toNat))) := by
      rw [iaS_sl 1 (bb, 0) _ _ _ _ ⟨h0, h1⟩]; simp
    have hnil := E.nil
    have S' := S.mono s (by simpa using hbs)
    cases o with
    | none =>
      have ht0 : t ≠ 0 := fun h => by
        subst h
        obtain ⟨l, hl⟩ := A'.zero (by omega)
        have ho' : L'[0]? = some none := ho
        rw [hl] at ho'; cases ho'
      obtain ⟨g2, e2, s2, T2⟩ := T'.put (pc := t.toNat) (by omega) S' hbs
      have hmu : mu (L'.set t.toNat (some ls)) < mu L' := mu_set ho (by
        have h2 := wtL_le ls
        have : ls.length * 18446744073709551617 ≤ 64 * 18446744073709551617 := Nat.mul_le_mul_right _ (by omega)
        simp only [wtO]; omega)
      exact (Ok.of (r := (.normal, [.bool true, .int .i64 ((j + 1 : Nat) : Int)], g2)) (.inl ⟨rfl, m - 1, by omega, j + 1, true, _, rfl, by omega, s.trans s2, T2, A'.set (by omega) (hg t (List.mem_of_getElem? ht) ht0), by omega, fun _ => .inr (by omega)⟩)).eq (by
        simp -implicitDefEqProofs only [k_fresh_Sets_b0, k_fresh_Sets_j0, bin_lss, hj', decide_true, Option.bind_some, condE_true, hix, hld, hixb, hw, hnil, Option.isNone_none, e2, cl_some, bin_add, suc64 j (by omega)])
    | some l =>
      obtain ⟨b, Sb, hbb'⟩ := E
      have G := A'.gd _ l ho
      refine Ok.eq ?_ (by simp -implicitDefEqProofs only [k_fresh_Sets_b0, bin_lss, hj', decide_true, Option.bind_some, condE_true, hix, hld, hixb, hw, hnil, Option.isNone_some, condE_false]; rfl)
      refine ok_cl (meet_ok Sb S' (by rw [G.len, hn0]) (by rw [G.len]; exact h64)) ?_
      rintro xv g2 ⟨s2, bx, x, hbx, X, M⟩
      simp only at s2 X
      have T2 := T'.mono s2
      refine ok_cl (equal_ok X (Sb.mono s2 (by simp)) M.len (by rw [M.len, G.len]; exact h64)) ?_
      rintro _ g3 ⟨hg3, q, rfl, hq⟩
      simp only at hg3
      subst hg3
      have hbxne : bx ≠ bb := fun h => by have := T'.lt; omega
      cases q with
      | true =>
        exact (Ok.of (r := (.normal, [.bool c, .int .i64 ((j + 1 : Nat) : Int)], g3)) (.inl ⟨rfl, m - 1, by omega, j + 1, c, L', rfl, by omega, s.trans (s2.sub (by simp)), T2, A', hle, hc⟩)).eq (by
          simp -implicitDefEqProofs only [un_not, Bool.not_true, Option.bind_some, condE_false, k_fresh_Sets_j0, bin_add, suc64 j (by omega)])
      | false =>
        obtain ⟨g4, e4, s4, T4⟩ := T2.put (pc := t.toNat) (by omega) X hbxne
        have hmu : mu (L'.set t.toNat (some x)) < mu L' := mu_set ho (mt_lt M (hq rfl))
        exact (Ok.of (r := (.normal, [.bool true, .int .i64 ((j + 1 : Nat) : Int)], g4)) (.inl ⟨rfl, m - 1, by omega, j + 1, true, _, rfl, by omega, (s.trans (s2.sub (by simp))).trans s4, T4, A'.set (by omega) (G.meet M), by omega, fun _ => .inr (by omega)⟩)).eq (by
          simp -implicitDefEqProofs only [un_not, Bool.not_false, Option.bind_some, condE_true, hixb, e4, cl_some, k_fresh_Sets_j0, bin_add, suc64 j (by omega)])
  · have hj' : ¬ (j : Int) < tos.length := by omega
    exact (Ok.of (r := (.exit 4, [.bool c, .int .i64 (j : Nat)], g')) (.inr ⟨by simp, rfl, c, L', rfl, e.old s (fun j hj => .inr (by simp at hj; omega)), T', A', hle, hc⟩)).eq (by
      simp -implicitDefEqProofs only [k_fresh_Sets_b0, bin_lss, hj', decide_false, Option.bind_some, condE_false])
end Go.Ab.F

namespace Go.Ab.F
open Go Go.Ab
set_option linter.all false
set_option linter.unusedSimpArgs false
attribute [local congr] c_bind c_cl c_mk c_lp c_clC c_gQ c_gV c_condE c_thenK

theorem LeS.no {l' l : List St} (h : LeS l' l) (hy : ∀ k, yAt l k = false ∧ oAt l k = false) : ∀ k, yAt l' k = false ∧ oAt l' k = false := fun k => ⟨ff (h.y k) (hy k).1, ff (h.o k) (hy k).2⟩
theorem fpass_ok {g0 g : Heap} {pf pm bb : Nat} {m : Md} {f : Fn} {n0 : Nat} {L : List (Option (List St))} {kv cv mv sv gv kv' cv' fv : AV} (B : MdB g0 pm m sv gv kv' cv' fv) (FB : FnB g0 pf f kv cv mv) (e : Same [] g0 g) (T : Tb g bb L) (A : All f n0 L) (hbb : g0.next ≤ bb)
    (h64 : n0 ≤ 64) (hc : m.cases.length ≤ 60) (hf : f.code.length ≤ 200) :
    Ok (k_fresh_Sets_L1 (.ptr (some (pm, 0))) (.ptr (some (pf, 0))) (.sl (some (bb, 0)) f.code.length (.ex f.code.length)) cv (.int .i64 f.code.length) (.bool false) (.int .i64 0) g) fun r => r.1 = .exit 2 ∧ ∃ (c : Bool) (L' : List (Option (List St))), r.2.1.getD 0 .bot = .bool c ∧ Same [] g0 r.2.2 ∧ Tb r.2.2 bb L' ∧ All f n0 L' ∧ (c = true → mu L' < mu L) := by
  refine ok_loop (fun k us g' => ∃ (pc : Nat) (c : Bool) (L' : List (Option (List St))), us = [.bool c, .int .i64 (pc : Nat)] ∧ k + pc = f.code.length ∧ Same [] g0 g' ∧ Tb g' bb L' ∧ All f n0 L' ∧ mu L' ≤ mu L ∧ (c = true → mu L' < mu L)) ?_ (n := f.code.length) (by omega)
    ⟨0, false, L, rfl, rfl, e, T, A, Nat.le_refl _, fun h => by cases h⟩
  rintro k us g' ⟨pc, c, L', rfl, hk, e', T', A', hle, hcm⟩
  rw [gD0, gD1]
  by_cases hp : pc < f.code.length
  · have hp' : (pc : Int) < f.code.length := by omega
    have F' := FB.mono e'
    obtain ⟨i, hi⟩ : ∃ i, f.code[pc]? = some i := ⟨_, List.getElem?_eq_getElem hp⟩
    have him := List.mem_of_getElem? hi
    have hiw := FB.wf him
    obtain ⟨b1, o1, hix, hla, _⟩ := F'.code hi
    refine Ok.eq ?_ (by simp -implicitDefEqProofs only [k_fresh_Sets_b1, bin_lss, hp', decide_true, Option.bind_some, condE_true, hix, hla]; rfl)
    refine ok_tmp (cs := i.row) (n := 5) (by rfl) (by rfl) (Ins.sc i) fun g1 s1 n1 hg1 => ?_
    have T1 := T'.mono s1
    obtain ⟨o, ho⟩ : ∃ o, L'[pc]? = some o := ⟨_, List.getElem?_eq_getElem (by rw [A'.len]; exact hp)⟩
    obtain ⟨w, hw, E⟩ := T1.at_ ho
    have hixb : iaS 1 (.sl (some (bb, 0)) f.code.length (.ex f.code.length)) (.int .i64 (pc : Nat)) = some (.ptr (some (bb, pc))) := by
      rw [iaS_sl 1 (bb, 0) _ _ _ _ ⟨by omega, hp'⟩]; simp
    have hnil := E.nil
    have e1 := e'.trans s1
    cases o with
    | none =>
      exact (Ok.of (r := (.normal, [.bool c, .int .i64 ((pc + 1 : Nat) : Int)], g1)) (.inl ⟨rfl, k - 1, by omega, pc + 1, c, L', rfl, by omega, e1, T1, A', hle, hcm⟩)).eq (by
        simp -implicitDefEqProofs only [hixb, hw, Option.bind_some, hnil, Option.isNone_none, condE_true, bin_add, suc64 pc (by omega)])
    | some l =>
      obtain ⟨bl, Sl, hbl⟩ := E
      have G := A'.gd pc l ho
      have hll : l.length ≤ 64 := by rw [G.len]; exact h64
      refine Ok.eq ?_ (by simp -implicitDefEqProofs only [hixb, hw, Option.bind_some, hnil, Option.isNone_some, condE_false]; rfl)
      refine ok_cl (clone_ok Sl hll) ?_
      rintro v1 g2 ⟨b2, hb2, s2, S2⟩
      simp only at s2 S2
      have e2 := e1.trans s2
      have B2 := B.mono e2
      have li : ∀ g'', Same [] g1 g'' → ldA 5 g'' (.ptr (some (g'.next, 0))) = some (.agg i.row) := fun g'' s => by rw [ldA_at (w := true) (vs := i.row) (by rw [s.get _ (by omega) (by simp)]; exact hg1)]; rfl
      refine Ok.eq ?_ (by simp -implicitDefEqProofs only [B2.la, li g2 s2, Option.bind_some]; rfl)
      refine ok_cl (sent_ok B2.rd i hiw.2.1 hiw.2.2.1 hc) ?_
      rintro v3 g3 ⟨ns, L3, hns⟩
      simp only at L3
      have S3 := S2.mono L3.same (by simp)
      refine ok_cl (lend_ok S3 (fun g' s => L3.rdb S2.lt s) (by omega)) ?_
      rintro u g4 ⟨s4, l4, S4, h4⟩
      simp only at s4 S4
      have e14 : Same [] g1 g4 := (s2.trans L3.same).old s4 (fun j hj => .inr (by simp at hj; omega))
      have e4 := e1.trans e14
      have B4 := B.mono e4
      refine Ok.eq ?_ (by simp -implicitDefEqProofs only [B4.la, li g4 e14, Option.bind_some]; rfl)
      refine ok_cl (behind_ok B4.rd hiw hc S4 (by rw [h4.len]; exact hll)) ?_
      rintro v5 g5 ⟨s5, b5, l5, hb5, S5, hl5, hpt, hny, hno⟩
      simp only at s5 S5
      have e5 := e4.trans s5
      have B5 := B.mono e5
      have F5 := FB.mono e5
      have T5 := (T1.mono e14).mono s5
      refine Ok.eq ?_ (by simp -implicitDefEqProofs only [B5.la, F5.la, Option.bind_some]; rfl)
      refine ok_cl (follows_ok B5.rd F5.rd (pc : Int) hc (wfI_nat (by omega))) ?_
      intro v6 g6 L6
      simp only at L6
      have e6 := e5.trans L6.same
      have hb5ne : b5 ≠ bb := fun h => by have := (T1.mono e14).lt; omega
      have hfm : ∀ t ∈ followsL m f (pc : Int), 0 ≤ t ∧ t < f.code.length := fun t ht => followsL_mem ht
      have hgd : ∀ t ∈ followsL m f (pc : Int), t ≠ 0 → Gd f n0 t.toNat l5 := fun t ht ht0 => by
        obtain ⟨h0, h1⟩ := hfm t ht
        refine ⟨hl5.trans (h4.len.trans G.len), fun h => by omega, fun h => ?_, fun h p i' hpe hi' hpti => ?_⟩
        · have hz := h4.no (G.nomk h)
          have hm := h i him
          exact fun k => ⟨hny hm (fun j => (hz j).1) k, hno hm (fun j => (hz j).2) k⟩
        · have hq := h i him
          have : insAt f (pc : Int) = some i := by unfold insAt; rw [if_neg (by omega)]; exact hi
          have hr : t ∈ rawL m (pc : Int) i := by
            simp only [followsL, this] at ht
            exact (inL_mem.1 ht).1
          have htp : t = (pc : Int) + 1 := by
            unfold rawL at hr
            rw [if_neg hq.1, if_neg hq.2.1] at hr
            by_cases c22 : i.op = 22
            · rw [if_pos c22] at hr; simp at hr
            rw [if_neg c22] at hr
            by_cases c44 : i.op = 44
            · rw [if_pos c44] at hr; simp at hr
            rw [if_neg c44, if_neg hq.2.2, suc64 pc (by omega)] at hr
            simp at hr; omega
          have : p = pc := by omega
          subst this
          rw [hi] at hi'; cases hi'
          exact hpt hpti
      refine Ok.eq ?_ (by simp -implicitDefEqProofs only [L6.lnL, Option.bind_some]; rfl)
      have hfl := followsL_len hc f (pc : Int)
      refine ok_lp (fol_ok (n0 := n0) (T5.mono L6.same) A' e6 hbb (S5.mono L6.same (by simp)) hb5ne (hl5.trans (h4.len.trans G.len)) h64 (fun g' s => L6.rdb T5.lt s) (by omega) hfm (by omega) hgd c) ?_
      rintro _ us7 g7 ⟨rfl, c7, L7, hv7, e7, T7, A7, hle7, hc7⟩
      simp only at hv7 e7 T7
      exact (Ok.of (r := (.normal, [.bool c7, .int .i64 ((pc + 1 : Nat) : Int)], g7)) (.inl ⟨rfl, k - 1, by omega, pc + 1, c7, L7, rfl, by omega, e7, T7, A7, by omega, fun h => by
          rcases hc7 h with h | h
          · have := hcm h; omega
          · omega⟩)).eq (by
        simp -implicitDefEqProofs only [if_true, reduceCtorEq, if_false, thenK_normal, hv7, bin_add, suc64 pc (by omega), Option.bind_some])
  · have hp' : ¬ (pc : Int) < f.code.length := by omega
    exact (Ok.of (r := (.exit 2, [.bool c, .int .i64 (pc : Nat)], g')) (.inr ⟨by simp, rfl, c, L', rfl, e', T', A', hcm⟩)).eq (by
      simp -implicitDefEqProofs only [k_fresh_Sets_b1, bin_lss, hp', decide_false, Option.bind_some, condE_false])
theorem frounds_ok {g0 g : Heap} {pf pm bb : Nat} {m : Md} {f : Fn} {n0 : Nat} {L : List (Option (List St))} {kv cv mv sv gv kv' cv' fv : AV} (B : MdB g0 pm m sv gv kv' cv' fv) (FB : FnB g0 pf f kv cv mv) (e : Same [] g0 g) (T : Tb g bb L) (A : All f n0 L) (hbb : g0.next ≤ bb)
    (h64 : n0 ≤ 64) (hc : m.cases.length ≤ 60) (hf : f.code.length ≤ 200) :
    Ok (k_fresh_Sets_L2 (.ptr (some (pm, 0))) (.ptr (some (pf, 0))) (.sl (some (bb, 0)) f.code.length (.ex f.code.length)) (.bool true) g) fun r => r.1 = .exit 0 ∧ ∃ L', Same [] g0 r.2.2 ∧ Tb r.2.2 bb L' ∧ All f n0 L' := by
  have hmu := all_mu A h64 hf
  refine ok_loop (fun k us g' => ∃ (c : Bool) (L' : List (Option (List St))), us = [.bool c] ∧ Same [] g0 g' ∧ Tb g' bb L' ∧ All f n0 L' ∧ (c = true → k = mu L' + 1)) ?_ (n := mu L + 1) (by omega)
    ⟨true, L, rfl, e, T, A, fun _ => rfl⟩
  rintro k us g' ⟨c, L', rfl, e', T', A', hk⟩
  rw [gD0]
  cases c with
  | false => exact (Ok.of (r := (Ex.exit 0, [AV.bool false], g')) (.inr ⟨by simp, rfl, L', e', T', A'⟩)).eq (by simp -implicitDefEqProofs only [k_fresh_Sets_b2, condE_false])
  | true =>
    have F' := FB.mono e'
    have hk' := hk rfl
    refine Ok.eq ?_ (by simp -implicitDefEqProofs only [k_fresh_Sets_b2, condE_true, faP_ptr, F'.l5, F'.ln5, Option.bind_some]; rfl)
    refine ok_lp (fpass_ok B FB e' T' A' hbb h64 hc hf) ?_
    rintro _ us2 g2 ⟨rfl, c2, L2, hv, e2, T2, A2, h2⟩
    simp only at hv e2 T2
    cases c2 with
    | true =>
      have := h2 rfl
      exact (Ok.of (r := (Ex.normal, [AV.bool true], g2)) (.inl ⟨rfl, mu L2 + 1, by omega, true, L2, rfl, e2, T2, A2, fun _ => rfl⟩)).eq (by simp -implicitDefEqProofs only [if_true, reduceCtorEq, if_false, hv])
    | false =>
      exact (Ok.of (r := (Ex.normal, [AV.bool false], g2)) (.inl ⟨rfl, 0, by omega, false, L2, rfl, e2, T2, A2, fun h => by cases h⟩)).eq (by simp -implicitDefEqProofs only [if_true, reduceCtorEq, if_false, hv])
end Go.Ab.F

namespace Go.Ab.F
open Go Go.Ab
set_option linter.all false
set_option linter.unusedSimpArgs false
attribute [local congr] c_bind c_cl c_mk c_lp c_clC c_gQ c_gV c_condE c_thenK

theorem rep_s : ∀ n : Nat, rep [AV.bool false, AV.bool false, AV.int .u64 0] n = flS (List.replicate n dS)
  | 0 => rfl
  | n + 1 => by rw [rep, rep_s n, List.replicate_succ]; rfl
theorem rep_nil : ∀ n : Nat, rep [AV.sl none 0 (.ex 0)] n = List.replicate n (AV.sl none 0 (.ex 0))
  | 0 => rfl
  | n + 1 => by rw [rep, rep_nil n, List.replicate_succ]; rfl
theorem getD_repS (n k : Nat) : (List.replicate n dS).getD k dS = dS := by
  rw [List.getD_eq_getElem?_getD, List.getElem?_replicate]
  split <;> rfl
theorem gd_zero (f : Fn) (n0 pc : Nat) : Gd f n0 pc (List.replicate n0 dS) := by
  have hy : ∀ k, yAt (List.replicate n0 dS) k = false := fun k => by unfold yAt; rw [getD_repS]; rfl
  have ho : ∀ k, oAt (List.replicate n0 dS) k = false := fun k => by unfold oAt; rw [getD_repS]; rfl
  exact ⟨by simp, fun _ k => ⟨hy k, ho k⟩, fun _ k => ⟨hy k, ho k⟩, fun _ p i _ _ _ k h => by rw [hy k] at h; cases h⟩
structure Out (h g : Heap) (q : AV) (f : Fn) (n0 : Nat) : Prop where
  same : Same [] h g
  ex : ∃ b vs, SlB g b 1 q vs vs.length ∧ vs.length = f.code.length ∧ ∀ (pc : Nat) v, vs[pc]? = some v → ∃ b' l, Ste g b' v l ∧ Gd f n0 pc l
theorem fout_ok {h g : Heap} {bb bn : Nat} {f : Fn} {n0 : Nat} {L : List (Option (List St))} {zv : AV} (T : Tb g bb L) (A : All f n0 L) (e : Same [] h g) (Z : Ste g bn zv (List.replicate n0 dS)) (hz : bn ≠ bb) (h64 : n0 ≤ 64) (hf : f.code.length ≤ 200) :
    Ok (k_fresh_Sets_L3 zv (.sl (some (bb, 0)) f.code.length (.ex f.code.length)) (.int .i64 f.code.length) (.sl none 0 (.ex 0)) (.int .i64 0) g) fun r => r.1 = .exit 6 ∧ ∃ q, r.2.1.getD 0 .bot = q ∧ Out h r.2.2 q f n0 := by
  refine ok_loop (fun k us g' => ∃ (pc : Nat) (q : AV) (b : Option Nat) (vs : List AV), us = [q, .int .i64 (pc : Nat)] ∧ k + pc = f.code.length ∧ Same [] g g' ∧ SlB g' b 1 q vs vs.length ∧ vs.length = pc ∧ (∀ j, b = some j → g.next ≤ j) ∧ ∀ (j : Nat) v, vs[j]? = some v → ∃ b' l, Ste g' b' v l ∧ b ≠ some b' ∧ Gd f n0 j l) ?_ (n := f.code.length) (by omega)
    ⟨0, _, none, [], rfl, rfl, Same.refl _ _, SlB.mt, rfl, (fun j hj => by cases hj), fun j v hj => by simp at hj⟩
  rintro k us g' ⟨pc, q, b, vs, rfl, hk, s, Q, hvl, hb, hE⟩
  rw [gD0, gD1]
  by_cases hp : pc < f.code.length
  · have hp' : (pc : Int) < f.code.length := by omega
    have T' := T.mono s
    obtain ⟨o, ho⟩ : ∃ o, L[pc]? = some o := ⟨_, List.getElem?_eq_getElem (by rw [A.len]; exact hp)⟩
    obtain ⟨w, hw, E⟩ := T'.at_ ho
    have hixb : iaS 1 (.sl (some (bb, 0)) f.code.length (.ex f.code.length)) (.int .i64 (pc : Nat)) = some (.ptr (some (bb, pc))) := by
      rw [iaS_sl 1 (bb, 0) _ _ _ _ ⟨by omega, hp'⟩]; simp
    have hnil := E.nil
    have src : ∃ (b1 : Nat) (x : AV) (l : List St), Ste g' b1 x l ∧ Gd f n0 pc l ∧ k_fresh_Sets_b3 zv (.sl (some (bb, 0)) f.code.length (.ex f.code.length)) (.int .i64 f.code.length) q (.int .i64 (pc : Nat)) g' = k_fresh_Sets_j1 q (.int .i64 (pc : Nat)) x g' := by
      cases o with
      | none =>
        exact ⟨bn, zv, _, Z.mono s (by simp), gd_zero f n0 pc, by simp -implicitDefEqProofs only [k_fresh_Sets_b3, bin_lss, hp', decide_true, Option.bind_some, condE_true, hixb, hw, hnil, Option.isNone_none]⟩
      | some l =>
        obtain ⟨bl, Sl, _⟩ := E
        exact ⟨bl, w, l, Sl, A.gd pc l ho, by simp -implicitDefEqProofs only [k_fresh_Sets_b3, bin_lss, hp', decide_true, Option.bind_some, condE_true, condE_false, hixb, hw, hnil, Option.isNone_some]⟩
    obtain ⟨b1, x, l, X, G, go⟩ := src
    rw [go]
    refine Ok.eq ?_ (by simp -implicitDefEqProofs only [k_fresh_Sets_j1]; rfl)
    refine ok_cl (clone_ok X (by rw [G.len]; exact h64)) ?_
    rintro y g2 ⟨b2, hb2, s2, Y⟩
    simp only at s2 Y
    have hyc : y.cells = [y] := by obtain ⟨c, rfl⟩ := Y.eq; rfl
    have hys : y.cells.all scalar = true := by rw [hyc]; simp [Y.sc]
    refine app1 (Q.same s2 (by simp)) rfl (by rw [hyc]; rfl) hys (by decide) (by omega) fun v' g3 h3 s3 n3 => ?_
    rw [hyc] at h3
    have hb2ne : b ≠ some b2 := fun h => by have := (Q.blk b2 h).1; omega
    refine (Ok.of (r := (.normal, [v', .int .i64 ((pc + 1 : Nat) : Int)], g3)) (.inl ⟨rfl, k - 1, by omega, pc + 1, v', some (g2.next + 1), vs ++ [y], rfl, by omega, (s.trans s2).old s3 (fun j hj => by
        cases b with
        | none => simp at hj
        | some x => simp at hj; subst hj; exact .inr (hb _ rfl)), by rw [List.length_append]; exact h3, by simp [hvl], (fun j hj => by cases hj; have := s.next; have := s2.next; omega), fun j w' hj => ?_⟩)).eq (by simp -implicitDefEqProofs only [bin_add, suc64 pc (by omega), Option.bind_some])
    by_cases hjp : j < vs.length
    · rw [List.getElem?_append_left hjp] at hj
      obtain ⟨b', l', S', hne, G'⟩ := hE j w' hj
      refine ⟨b', l', (S'.mono s2 (by simp)).mono s3 (by cases hbb' : b with
        | none => simp
        | some x => simp; rintro rfl; exact hne hbb'), fun h => by have h := Option.some.inj h; have := S'.lt; have := s2.next; omega, G'⟩
    · rw [List.getElem?_append_right (by omega)] at hj
      have hj0 : j = vs.length := by
        have := (List.getElem?_eq_some_iff.1 hj).1
        simp at this; omega
      subst hj0
      rw [Nat.sub_self] at hj
      simp at hj; subst hj
      refine ⟨b2, l, Y.mono s3 (by cases hbb' : b with
        | none => simp
        | some x => simp; rintro rfl; exact hb2ne hbb'), fun h => by have h := Option.some.inj h; have := Y.lt; omega, by rw [hvl]; exact G⟩
  · have hp' : ¬ (pc : Int) < f.code.length := by omega
    have hpe : pc = f.code.length := by omega
    exact (Ok.of (r := (.exit 6, [q, .int .i64 (pc : Nat)], g')) (.inr ⟨by simp, rfl, q, rfl, e.trans s, b, vs, Q, hvl.trans hpe, fun j v hj => by
      obtain ⟨b', l, h1, _, h3⟩ := hE j v hj
      exact ⟨b', l, h1, h3⟩⟩)).eq (by simp -implicitDefEqProofs only [k_fresh_Sets_b3, bin_lss, hp', decide_false, Option.bind_some, condE_false])
theorem fsets_ok {h : Heap} {v : AV} {r : List AV} {m : Md} {f : Fn} (H : MdRd h v m) (G : FnRd h r f) (hc : m.cases.length ≤ 60) (hf : f.code.length ≤ 200) : Ok (k_fresh_Sets v (.agg r) h) fun r => ∃ n0, n0 ≤ 64 ∧ Out h r.2 r.1 f n0 := by
  obtain ⟨kv, cv, mv, rfl, hbf, FB⟩ := G.box
  obtain ⟨sv, gv, cv0, cv', fv, rfl, hbx, B⟩ := H.box
  have s0 : Same [] h (h.new (.cells true [sv, gv, cv0, cv', fv, .int .i64 m.main])) := Same.new _ _
  have FB := FB _ s0
  generalize hg : h.new (.cells true [sv, gv, cv0, cv', fv, .int .i64 m.main]) = g at *
  have s1 : Same [] g (g.new (.cells true [.int .i64 f.pa, .int .i64 f.ca, .int .i64 f.sl, .int .i64 f.re, kv, cv, mv])) := Same.new _ _
  have B1 := B.mono s1
  generalize hg1 : g.new (.cells true [.int .i64 f.pa, .int .i64 f.ca, .int .i64 f.sl, .int .i64 f.re, kv, cv, mv]) = g1 at *
  have s2 : Same [] h g1 := s0.trans s1
  have l2 : ldS g1 (.ptr (some (g.next, 0 + 2))) = some (.int .i64 f.sl) := by obtain ⟨w, hw⟩ := FB.at_; rw [ldS_at hw]; rfl
  have hmax : maxP (.int .i64 f.sl) (.int .i64 0) = some (.int .i64 (if 0 > f.sl then 0 else f.sl)) := rfl
  generalize hx : (if 0 > f.sl then 0 else f.sl) = x at *
  have hmin : minP (.int .i64 x) (.int .i64 64) = some (.int .i64 (if 64 < x then 64 else x)) := rfl
  have hx0 : 0 ≤ x := by rw [← hx]; split <;> omega
  generalize hn : (if 64 < x then 64 else x).toNat = n0
  have hnn : (if 64 < x then 64 else x) = (n0 : Int) := by rw [← hn]; split <;> omega
  have h64 : n0 ≤ 64 := by rw [← hn]; split <;> omega
  rw [hnn] at hmin
  have hms : msP 3 16 [AV.bool false, AV.bool false, AV.int .u64 0] (.int .i64 (n0 : Int)) (.int .i64 (n0 : Int)) = some (.cells true (flS (List.replicate n0 dS)), fun i => .sl (some (i, 0)) n0 (.ex n0)) := by
    simp only [msP]
    rw [if_pos ⟨by omega, by omega, by omega, by omega, rfl⟩]
    simp only [Int.toNat_natCast, rep_s]
  have hms2 : msP 1 24 [AV.sl none 0 (.ex 0)] (.int .i64 (f.code.length : Int)) (.int .i64 (f.code.length : Int)) = some (.cells true (List.replicate f.code.length (AV.sl none 0 (.ex 0))), fun i => .sl (some (i, 0)) f.code.length (.ex f.code.length)) := by
    simp only [msP]
    rw [if_pos ⟨by omega, by omega, by omega, by omega, rfl⟩]
    simp only [Int.toNat_natCast, rep_nil]
  have sA : Same [] g1 (g1.new (.cells true (flS (List.replicate n0 dS)))) := Same.new _ _
  have gA : (g1.new (.cells true (flS (List.replicate n0 dS)))).get g1.next = some (.cells true (flS (List.replicate n0 dS))) := get_new_eq
  have nA : (g1.new (.cells true (flS (List.replicate n0 dS)))).next = g1.next + 1 := rfl
  generalize hgA : g1.new (.cells true (flS (List.replicate n0 dS))) = g2 at *
  have sB : Same [] g2 (g2.new (.cells true (List.replicate f.code.length (AV.sl none 0 (.ex 0))))) := Same.new _ _
  have gB : (g2.new (.cells true (List.replicate f.code.length (AV.sl none 0 (.ex 0))))).get g2.next = some (.cells true (List.replicate f.code.length (AV.sl none 0 (.ex 0)))) := get_new_eq
  have nB : (g2.new (.cells true (List.replicate f.code.length (AV.sl none 0 (.ex 0))))).next = g2.next + 1 := rfl
  generalize hgB : g2.new (.cells true (List.replicate f.code.length (AV.sl none 0 (.ex 0)))) = g3 at *
  have Z : Ste g3 g1.next (.sl (some (g1.next, 0)) n0 (.ex n0)) (List.replicate n0 dS) := ⟨⟨.ex n0, by rw [List.length_replicate]⟩, by rw [sB.get _ (by omega) (by simp)]; exact gA, by omega⟩
  have F2 := FB.mono sA
  have B2 := B1.mono sA
  have Z2 : Ste g2 g1.next (.sl (some (g1.next, 0)) n0 (.ex n0)) (List.replicate n0 dS) := ⟨⟨.ex n0, by rw [List.length_replicate]⟩, gA, by omega⟩
  have T0 : Tb g3 g2.next (List.replicate f.code.length none) := ⟨⟨_, gB, by simp, fun pc v o hv ho => by
    rw [List.getElem?_replicate] at hv ho
    split at hv
    · rename_i h; rw [if_pos h] at ho; cases hv; cases ho; rfl
    · cases hv⟩, by omega⟩
  have tail : ∀ g4 L, Same [] g2 g4 → Tb g4 g2.next L → All f n0 L →
      Ok (k_fresh_Sets_j2 (.ptr (some (h.next, 0))) (.ptr (some (g.next, 0))) (.sl (some (g1.next, 0)) n0 (.ex n0)) (.sl (some (g2.next, 0)) f.code.length (.ex f.code.length)) g4) fun r => ∃ n0, n0 ≤ 64 ∧ Out h r.2 r.1 f n0 := fun g4 L e4 T4 A4 => by
    refine Ok.eq ?_ (by simp -implicitDefEqProofs only [k_fresh_Sets_j2]; rfl)
    refine ok_lp (frounds_ok B2 F2 e4 T4 A4 (Nat.le_refl _) h64 hc hf) ?_
    rintro _ us5 g5 ⟨rfl, L5, e5, T5, A5⟩
    simp only at e5 T5
    have hln : lnL (.sl (some (g2.next, 0)) f.code.length (.ex f.code.length)) = some (.int .i64 f.code.length) := by simp
    refine Ok.eq ?_ (by simp -implicitDefEqProofs only [if_true, thenK_normal, hln, Option.bind_some]; rfl)
    refine ok_lp (fout_ok (h := h) T5 A5 ((s2.trans sA).trans e5) (Z2.mono e5 (by simp)) (by omega) h64 hf) ?_
    rintro _ us6 g6 ⟨rfl, q, rfl, O⟩
    simp only at O
    exact ok_val (v := us6.getD 0 .bot) (g := g6) (by simp -implicitDefEqProofs only [if_true, thenK_normal]) ⟨n0, h64, O⟩
  have hln : lnL (.sl (some (g2.next, 0)) f.code.length (.ex f.code.length)) = some (.int .i64 f.code.length) := by simp
  by_cases hz : (0 : Int) < f.code.length
  · obtain ⟨g4, e4, s4, T4⟩ := T0.put (pc := 0) (by simp; omega) Z (by omega)
    have hix : iaS 1 (.sl (some (g2.next, 0)) f.code.length (.ex f.code.length)) (.int .i64 0) = some (.ptr (some (g2.next, 0))) := by
      rw [iaS_sl 1 (g2.next, 0) _ _ _ _ ⟨by omega, hz⟩]; simp
    refine Ok.eq (tail g4 _ (sB.old s4 (fun j hj => .inr (by simp at hj; omega))) T4 ⟨by simp, fun pc l hl => ?_, fun _ => ⟨_, by rw [List.getElem?_set_self (by simp; omega)]⟩⟩) (by
      simp -implicitDefEqProofs only [k_fresh_Sets, hbx, hbf, mk_some, hg, hg1, faP_ptr, l2, Option.bind_some, hmax, hx, hmin, hms, hgA, F2.l5, F2.ln5, hms2, hgB, hln, bin_gtr, hz, decide_true, condE_true, hix, e4, cl_some])
    by_cases e : pc = 0
    · subst e
      rw [List.getElem?_set_self (by simp; omega)] at hl
      cases hl; exact gd_zero f n0 0
    · rw [List.getElem?_set_ne (fun h => e h.symm), List.getElem?_replicate] at hl
      split at hl <;> cases hl
  · refine Ok.eq (tail g3 _ sB T0 ⟨by simp, fun pc l hl => ?_, fun h => by omega⟩) (by
      simp -implicitDefEqProofs only [k_fresh_Sets, hbx, hbf, mk_some, hg, hg1, faP_ptr, l2, Option.bind_some, hmax, hx, hmin, hms, hgA, F2.l5, F2.ln5, hms2, hgB, hln, bin_gtr, hz, decide_false, condE_false])
    rw [List.getElem?_replicate] at hl
    split at hl <;> cases hl
end Go.Ab.F

namespace Go.Ab.F
open Go Go.Ab
set_option linter.all false
set_option linter.unusedSimpArgs false
attribute [local congr] c_bind c_cl c_mk c_lp c_clC c_gQ c_gV c_condE c_thenK

theorem scan_ok {g : Heap} {pf : Nat} {f : Fn} {kv cv mv : AV} (FB : FnB g pf f kv cv mv) (hf : f.code.length ≤ 200) :
    Ok (k_law11_FreshPoints_L0 (.ptr (some (pf, 0))) (.bool false) (.bool false) (.int .i64 0) g) fun r => r.2.2 = g ∧ ((r.1 = .ret ∧ r.2.1.getD 0 .bot = .bool true) ∨ (r.1 = .exit 0 ∧ Strt f ∧ ∃ mk, r.2.1.getD 0 .bot = .bool false ∧ r.2.1.getD 1 .bot = .bool mk ∧ (mk = false → NoMk f))) := by
  refine ok_loop (fun n us g' => ∃ (pc : Nat) (mk : Bool), us = [.bool false, .bool mk, .int .i64 (pc : Nat)] ∧ n + pc = f.code.length ∧ g' = g ∧ (mk = false → ∀ (p : Nat) i, p < pc → f.code[p]? = some i → mkB i.op = false) ∧ ∀ (p : Nat) i, p < pc → f.code[p]? = some i → i.op ≠ 18 ∧ i.op ≠ 19 ∧ i.op ≠ 41) ?_ (n := f.code.length) (by omega)
    ⟨0, false, rfl, rfl, rfl, fun _ p i h => by omega, fun p i h => by omega⟩
  rintro n us g' ⟨pc, mk, rfl, hn, rfl, hmk, hst⟩
  rw [gD0, gD1, gD2]
  by_cases hp : pc < f.code.length
  · have hp' : (pc : Int) < f.code.length := by omega
    obtain ⟨i, hi⟩ : ∃ i, f.code[pc]? = some i := ⟨_, List.getElem?_eq_getElem hp⟩
    obtain ⟨b, o, hix, hla, hls⟩ := FB.code hi
    have BASE : ∀ t, mk = true ∧ t = true ∨ mk = false ∧ t = mkB i.op → (i.op = 18 ∨ i.op = 19 ∨ i.op = 41 → k_law11_FreshPoints_b0 (.ptr (some (pf, 0))) (.bool false) (.bool mk) (.int .i64 (pc : Nat)) g' = some (.ret, [.bool true, .bool t, .int .i64 (pc : Nat)], g')) ∧
        (¬ i.op = 18 → ¬ i.op = 19 → ¬ i.op = 41 → k_law11_FreshPoints_b0 (.ptr (some (pf, 0))) (.bool false) (.bool mk) (.int .i64 (pc : Nat)) g' = some (.normal, [.bool false, .bool t, .int .i64 ((pc + 1 : Nat) : Int)], g')) := by
      rintro t (⟨rfl, rfl⟩ | ⟨rfl, rfl⟩)
      · refine ⟨fun h => ?_, fun c1 c2 c3 => ?_⟩
        · rcases h with c | c | c <;> rw [c] at hls <;> simp -implicitDefEqProofs only [k_law11_FreshPoints_b0, faP_ptr, FB.l5, FB.ln5, Option.bind_some, bin_lss, hp', decide_true, decide_false, condE_true, gdW_tf, gdW_ff, gdW_tup, gQ_false, gQ_true, cl_some, pickP_bool, if_true, Bool.false_eq_true, if_false, hix, hls, eql_int, Int.reduceEq]
        · simp -implicitDefEqProofs only [k_law11_FreshPoints_b0, faP_ptr, FB.l5, FB.ln5, Option.bind_some, bin_lss, hp', decide_true, decide_false, condE_true, condE_false, gdW_tf, gdW_ff, gdW_tup, gQ_false, gQ_true, cl_some, pickP_bool, if_true, Bool.false_eq_true, if_false, hix, hls, eql_int, c1, c2, c3, bin_add, suc64 pc (by omega)]
      · refine ⟨fun h => ?_, fun c1 c2 c3 => ?_⟩
        · rcases h with c | c | c <;> rw [c] at hls ⊢ <;> simp -implicitDefEqProofs only [k_law11_FreshPoints_b0, faP_ptr, FB.l5, FB.ln5, Option.bind_some, bin_lss, hp', decide_true, decide_false, condE_true, gdW_tf, gdW_ff, gdW_tup, gQ_false, gQ_true, cl_some, pickP_bool, if_true, Bool.false_eq_true, if_false, hix, hls, eql_int, Int.reduceEq, maker_eq]
        · simp -implicitDefEqProofs only [k_law11_FreshPoints_b0, faP_ptr, FB.l5, FB.ln5, Option.bind_some, bin_lss, hp', decide_true, decide_false, condE_true, condE_false, gdW_tf, gdW_ff, gdW_tup, gQ_false, gQ_true, cl_some, pickP_bool, if_true, Bool.false_eq_true, if_false, hix, hls, eql_int, c1, c2, c3, maker_eq, bin_add, suc64 pc (by omega)]
    obtain ⟨t, ht, htm⟩ : ∃ t, (mk = true ∧ t = true ∨ mk = false ∧ t = mkB i.op) ∧ (t = false → mk = false ∧ mkB i.op = false) := by
      cases mk
      · exact ⟨mkB i.op, .inr ⟨rfl, rfl⟩, fun h => ⟨rfl, h⟩⟩
      · exact ⟨true, .inl ⟨rfl, rfl⟩, fun h => by cases h⟩
    obtain ⟨k1, k2⟩ := BASE t ht
    by_cases c : i.op = 18 ∨ i.op = 19 ∨ i.op = 41
    · rw [k1 c]
      exact Ok.of (.inr ⟨by simp, rfl, .inl ⟨rfl, rfl⟩⟩)
    · have c1 : ¬ i.op = 18 := fun h => c (.inl h)
      have c2 : ¬ i.op = 19 := fun h => c (.inr (.inl h))
      have c3 : ¬ i.op = 41 := fun h => c (.inr (.inr h))
      rw [k2 c1 c2 c3]
      refine Ok.of (.inl ⟨rfl, n - 1, by omega, pc + 1, t, rfl, by omega, rfl, fun htf p j hpj hj => ?_, fun p j hpj hj => ?_⟩)
      · obtain ⟨h1, h2⟩ := htm htf
        rcases (by omega : p < pc ∨ p = pc) with h | rfl
        · exact hmk h1 p j h hj
        · rw [hi] at hj; cases hj; exact h2
      · rcases (by omega : p < pc ∨ p = pc) with h | rfl
        · exact hst p j h hj
        · rw [hi] at hj; cases hj; exact ⟨c1, c2, c3⟩
  · have hp' : ¬ (pc : Int) < f.code.length := by omega
    refine (Ok.of (r := (.exit 0, [.bool false, .bool mk, .int .i64 (pc : Nat)], g')) (.inr ⟨by simp, rfl, .inr ⟨rfl, fun i hi => ?_, mk, rfl, rfl, fun h i hi => ?_⟩⟩)).eq (by
      simp -implicitDefEqProofs only [k_law11_FreshPoints_b0, faP_ptr, FB.l5, FB.ln5, Option.bind_some, bin_lss, hp', decide_false, condE_false])
    · obtain ⟨p, hpi⟩ := List.getElem?_of_mem hi
      exact hst p i (by have := (List.getElem?_eq_some_iff.1 hpi).1; omega) hpi
    · obtain ⟨p, hpi⟩ := List.getElem?_of_mem hi
      exact hmk h p i (by have := (List.getElem?_eq_some_iff.1 hpi).1; omega) hpi
theorem slots1_ok {g : Heap} {b b' : Nat} {q v x : AV} {vs us : List AV} {l : List St} {pc : Nat} {mk : Bool} (Q : SlB g (some b) 1 q vs vs.length) (hv : vs[pc]? = some v) (S : Ste g b' v l) (hl : l.length ≤ 64) (hm : us.getD 1 .bot = .bool mk) (hno : pc = 0 ∨ mk = false → ∀ k, yAt l k = false ∧ oAt l k = false) :
    Ok (k_law11_FreshPoints_L1 q us (.int .i64 (pc : Nat)) x (.int .i64 0) g) fun r => r.1 = .exit 4 ∧ r.2.2 = g ∧ r.2.1.getD 0 .bot = x := by
  have hpc := (List.getElem?_eq_some_iff.1 hv).1
  obtain ⟨j, hj, hix⟩ := Q.ix hpc
  have hix := hix .i64
  have hld : ldS g (.ptr (some (j, pc * 1))) = some v := by rw [Q.ld hj, Nat.mul_one]; exact hv
  refine ok_loop (fun n ws g' => ∃ k : Nat, ws = [x, .int .i64 (k : Nat)] ∧ n + k = l.length ∧ g' = g) ?_ (n := l.length) (by omega) ⟨0, rfl, rfl, rfl⟩
  rintro n ws g' ⟨k, rfl, hn, rfl⟩
  rw [gD0, gD1]
  by_cases hk : k < l.length
  · have hk' : (k : Int) < l.length := by omega
    obtain ⟨s, hs⟩ : ∃ s, l[k]? = some s := ⟨_, List.getElem?_eq_getElem hk⟩
    have i3 := S.ix (n := (k : Int)) (by omega) hk'
    rw [Int.toNat_natCast] at i3
    have l0 : ldS g' (.ptr (some (b', k * 3 + 0))) = some (.bool s.y) := S.ld hs (by omega)
    have l1 : ldS g' (.ptr (some (b', k * 3 + 1))) = some (.bool s.o) := S.ld hs (by omega)
    have hflag : pc = 0 ∨ mk = false → s.y = false ∧ s.o = false := fun h => by
      have := hno h k
      unfold yAt oAt at this
      rw [getS hs] at this; exact this
    refine (Ok.of (r := (.normal, [x, .int .i64 ((k + 1 : Nat) : Int)], g')) (.inl ⟨rfl, n - 1, by omega, k + 1, rfl, by omega, rfl⟩)).eq ?_
    by_cases h0 : (pc : Int) = 0
    · obtain ⟨hy, ho⟩ := hflag (.inl (by omega))
      rw [hy] at l0; rw [ho] at l1
      have hd : decide ((pc : Int) = 0) = true := decide_eq_true h0
      simp -implicitDefEqProofs only [k_law11_FreshPoints_b1, hix, hld, S.lnL, Option.bind_some, bin_lss, hk', decide_true, condE_true, eql_int, hd, gdW_tf, gdW_tt, gdW_ff, gdW_tup, gQ_false, gQ_true, cl_some, pickP_bool, if_true, Bool.false_eq_true, if_false, i3, faP_ptr, l0, l1, condE_false, bin_add, suc64 k (by omega)]
    · cases mk with
      | false =>
        obtain ⟨hy, ho⟩ := hflag (.inr rfl)
        rw [hy] at l0; rw [ho] at l1
        simp -implicitDefEqProofs only [k_law11_FreshPoints_b1, hix, hld, S.lnL, Option.bind_some, bin_lss, hk', decide_true, decide_false, condE_true, eql_int, h0, hm, un_not, Bool.not_false, gdW_tf, gdW_tt, gdW_ff, gdW_tup, gQ_false, gQ_true, cl_some, pickP_bool, if_true, Bool.false_eq_true, if_false, i3, faP_ptr, l0, l1, condE_false, bin_add, suc64 k (by omega)]
      | true =>
        simp -implicitDefEqProofs only [k_law11_FreshPoints_b1, hix, hld, S.lnL, Option.bind_some, bin_lss, hk', decide_true, decide_false, condE_true, eql_int, h0, hm, un_not, Bool.not_true, gdW_tf, gdW_ft, gdW_tt, gdW_ff, gdW_tup, gQ_false, gQ_true, cl_some, pickP_bool, if_true, Bool.false_eq_true, if_false, condE_false, bin_add, suc64 k (by omega)]
  · have hk' : ¬ (k : Int) < l.length := by omega
    exact (Ok.of (r := (.exit 4, [x, .int .i64 (k : Nat)], g')) (.inr ⟨by simp, rfl, rfl, rfl⟩)).eq (by
      simp -implicitDefEqProofs only [k_law11_FreshPoints_b1, hix, hld, S.lnL, Option.bind_some, bin_lss, hk', decide_false, condE_false])
theorem slots2_ok {g : Heap} {b b' pi : Nat} {i : Ins} {q v x : AV} {vs : List AV} {l : List St} {pc : Nat} (Q : SlB g (some b) 1 q vs vs.length) (hv : vs[pc + 1]? = some v) (hpl : pc < 200) (S : Ste g b' v l) (hl : l.length ≤ 64) (gi : g.get pi = some (.cells true i.row)) (hno : ∀ k, yAt l k = true → mkB i.op = true ∧ i.a = k) :
    Ok (k_law11_FreshPoints_L2 q (.int .i64 (pc : Nat)) (.ptr (some (pi, 0))) x (.int .i64 0) g) fun r => r.1 = .exit 6 ∧ r.2.2 = g ∧ r.2.1.getD 0 .bot = x := by
  have hpc := (List.getElem?_eq_some_iff.1 hv).1
  obtain ⟨j, hj, hix⟩ := Q.ix hpc
  have hix := hix .i64
  have hld : ldS g (.ptr (some (j, (pc + 1) * 1))) = some v := by rw [Q.ld hj, Nat.mul_one]; exact hv
  have e1 := suc64 pc (by omega)
  have g0 : ldS g (.ptr (some (pi, 0 + 0))) = some (.int .i64 i.op) := by rw [ldS_at gi]; rfl
  have g1 : ldS g (.ptr (some (pi, 0 + 1))) = some (.int .i64 i.a) := by rw [ldS_at gi]; rfl
  refine ok_loop (fun n ws g' => ∃ k : Nat, ws = [x, .int .i64 (k : Nat)] ∧ n + k = l.length ∧ g' = g) ?_ (n := l.length) (by omega) ⟨0, rfl, rfl, rfl⟩
  rintro n ws g' ⟨k, rfl, hn, rfl⟩
  rw [gD0, gD1]
  by_cases hk : k < l.length
  · have hk' : (k : Int) < l.length := by omega
    obtain ⟨s, hs⟩ : ∃ s, l[k]? = some s := ⟨_, List.getElem?_eq_getElem hk⟩
    have i3 := S.ix (n := (k : Int)) (by omega) hk'
    rw [Int.toNat_natCast] at i3
    have l0 : ldS g' (.ptr (some (b', k * 3 + 0))) = some (.bool s.y) := S.ld hs (by omega)
    have hflag : s.y = true → mkB i.op = true ∧ i.a = k := fun h => hno k (by unfold yAt; rw [getS hs]; exact h)
    refine (Ok.of (r := (.normal, [x, .int .i64 ((k + 1 : Nat) : Int)], g')) (.inl ⟨rfl, n - 1, by omega, k + 1, rfl, by omega, rfl⟩)).eq ?_
    cases hy : s.y with
    | true =>
      obtain ⟨h1, h2⟩ := hflag hy
      rw [hy] at l0; rw [h2] at g1
      simp -implicitDefEqProofs only [k_law11_FreshPoints_b2, bin_add, e1, suc64 k (by omega), hix, hld, S.lnL, Option.bind_some, bin_lss, hk', decide_true, condE_true, i3, faP_ptr, l0, gdW_tt, gQ_true, cl_some, g0, maker_eq, h1, g1, eql_int, pickP_bool, if_true, un_not, Bool.not_true, condE_false]
    | false =>
      rw [hy] at l0
      simp -implicitDefEqProofs only [k_law11_FreshPoints_b2, bin_add, e1, suc64 k (by omega), hix, hld, S.lnL, Option.bind_some, bin_lss, hk', decide_true, condE_true, i3, faP_ptr, l0, gdW_ft, gdW_tup, gQ_false, pickP_bool, Bool.false_eq_true, if_false, condE_false]
  · have hk' : ¬ (k : Int) < l.length := by omega
    exact (Ok.of (r := (.exit 6, [x, .int .i64 (k : Nat)], g')) (.inr ⟨by simp, rfl, rfl, rfl⟩)).eq (by
      simp -implicitDefEqProofs only [k_law11_FreshPoints_b2, bin_add, e1, hix, hld, S.lnL, Option.bind_some, bin_lss, hk', decide_false, condE_false])
theorem points_ok {g : Heap} {b : Option Nat} {pf : Nat} {f : Fn} {n0 : Nat} {q : AV} {vs us : List AV} {kv cv mv : AV} {mk : Bool} (FB : FnB g pf f kv cv mv) (Q : SlB g b 1 q vs vs.length) (hvl : vs.length = f.code.length) (hE : ∀ (pc : Nat) v, vs[pc]? = some v → ∃ b' l, Ste g b' v l ∧ Gd f n0 pc l)
    (h64 : n0 ≤ 64) (hf : f.code.length ≤ 60) (hm : us.getD 1 .bot = .bool mk) (hmk : mk = false → NoMk f) (hst : Strt f) (x : AV) :
    Ok (k_law11_FreshPoints_L3 (.ptr (some (pf, 0))) q us x (.int .i64 0) g) fun r => r.1 = .exit 2 := by
  refine ok_loop (fun n ws g' => ∃ pc : Nat, ws = [x, .int .i64 (pc : Nat)] ∧ n + pc = f.code.length ∧ Same [] g g') ?_ (n := f.code.length) (by omega) ⟨0, rfl, rfl, Same.refl _ _⟩
  rintro n ws g' ⟨pc, rfl, hn, s⟩
  rw [gD0, gD1]
  have Q' := Q.same s (by simp)
  have hln := Q'.lnL
  rw [hvl] at hln
  by_cases hp : pc < f.code.length
  · have hp' : (pc : Int) < f.code.length := by omega
    have F' := FB.mono s
    obtain ⟨i, hi⟩ : ∃ i, f.code[pc]? = some i := ⟨_, List.getElem?_eq_getElem hp⟩
    obtain ⟨n18, n19, n41⟩ := hst i (List.mem_of_getElem? hi)
    obtain ⟨v, hv⟩ : ∃ v, vs[pc]? = some v := ⟨_, List.getElem?_eq_getElem (by omega)⟩
    obtain ⟨bl, l, S, G⟩ := hE pc v hv
    cases b with
    | none => have := Q.nil rfl; omega
    | some b =>
      refine Ok.eq ?_ (by simp -implicitDefEqProofs only [k_law11_FreshPoints_b3, hln, Option.bind_some, bin_lss, hp', decide_true, condE_true]; rfl)
      refine ok_lp (slots1_ok Q' hv (S.mono s (by simp)) (by rw [G.len]; exact h64) hm (fun h => by
        rcases h with h | h
        · exact G.zero h
        · exact G.nomk (hmk h))) ?_
      rintro _ ws2 g1 ⟨rfl, hg1, hx1⟩
      simp only at hg1 hx1
      subst hg1
      obtain ⟨b2, o2, hix, hla, _⟩ := F'.code hi
      refine Ok.eq ?_ (by simp -implicitDefEqProofs only [if_true, thenK_normal, faP_ptr, F'.l5, Option.bind_some, hix, hla]; rfl)
      refine ok_tmp (cs := i.row) (n := 5) (by rfl) (by rfl) (Ins.sc i) fun g2 s2 n2 hg2 => ?_
      have l0 : ldS g2 (.ptr (some (g1.next, 0 + 0))) = some (.int .i64 i.op) := by rw [ldS_at hg2]; rfl
      have e1 := suc64 pc (by omega)
      have fin : Ok (some (Ex.normal, [x, AV.int .i64 ((pc + 1 : Nat) : Int)], g2)) fun r => (r.1 = Ex.normal ∧ ∃ m, m < n ∧ ∃ pc : Nat, r.2.1 = [x, .int .i64 (pc : Nat)] ∧ m + pc = f.code.length ∧ Same [] g r.2.2) ∨ (r.1 ≠ .normal ∧ r.1 = .exit 2) :=
        Ok.of (.inl ⟨rfl, n - 1, by omega, pc + 1, rfl, by omega, s.trans s2⟩)
      by_cases c22 : i.op = 22
      · have l0' : ldS g2 (.ptr (some (g1.next, 0 + 0))) = some (.int .i64 22) := by rw [l0, c22]
        exact fin.eq (by simp -implicitDefEqProofs only [faP_ptr, l0', Option.bind_some, eql_int, Int.reduceEq, decide_true, decide_false, gdW_tf, gdW_ff, gdW_tup, gQ_false, gQ_true, cl_some, pickP_bool, if_true, Bool.false_eq_true, if_false, condE_true, bin_add, e1, hx1])
      by_cases c44 : i.op = 44
      · have l0' : ldS g2 (.ptr (some (g1.next, 0 + 0))) = some (.int .i64 44) := by rw [l0, c44]
        exact fin.eq (by simp -implicitDefEqProofs only [faP_ptr, l0', Option.bind_some, eql_int, Int.reduceEq, decide_true, decide_false, gdW_tf, gdW_ff, gdW_tup, gQ_false, gQ_true, cl_some, pickP_bool, if_true, Bool.false_eq_true, if_false, condE_true, bin_add, e1, hx1])
      by_cases hpt : ptB i.op = true
      · by_cases hlast : (f.code.length : Int) ≤ ((pc + 1 : Nat) : Int)
        · exact fin.eq (by simp -implicitDefEqProofs only [faP_ptr, l0, Option.bind_some, eql_int, n18, n19, n41, c22, c44, point_eq, hpt, un_not, Bool.not_true, hln, bin_geq, hlast, decide_true, decide_false, gdW_tf, gdW_ff, gdW_tup, gQ_false, gQ_true, cl_some, pickP_bool, if_true, Bool.false_eq_true, if_false, condE_true, bin_add, e1, hx1])
        · obtain ⟨v2, hv2⟩ : ∃ v2, vs[pc + 1]? = some v2 := ⟨_, List.getElem?_eq_getElem (by omega)⟩
          obtain ⟨bl2, l2, S2, G2⟩ := hE (pc + 1) v2 hv2
          refine Ok.eq ?_ (by simp -implicitDefEqProofs only [faP_ptr, l0, Option.bind_some, eql_int, n18, n19, n41, c22, c44, point_eq, hpt, un_not, Bool.not_true, hln, bin_geq, hlast, decide_true, decide_false, gdW_tf, gdW_ff, gdW_tup, gQ_false, gQ_true, cl_some, pickP_bool, if_true, Bool.false_eq_true, if_false, condE_false, bin_add, e1, hx1]; rfl)
          refine ok_lp (slots2_ok (Q'.same s2 (by simp)) hv2 (by omega) ((S2.mono s (by simp)).mono s2 (by simp)) (by rw [G2.len]; exact h64) hg2 (G2.strt hst pc i rfl hi hpt)) ?_
          rintro _ ws3 g3 ⟨rfl, hg3, hx3⟩
          simp only at hg3 hx3
          subst hg3
          exact fin.eq (by simp -implicitDefEqProofs only [if_true, reduceCtorEq, if_false, thenK_normal, hx3, Option.bind_some])
      · have hpt' : ptB i.op = false := by simpa using hpt
        exact fin.eq (by simp -implicitDefEqProofs only [faP_ptr, l0, Option.bind_some, eql_int, n18, n19, n41, c22, c44, point_eq, hpt', un_not, Bool.not_false, decide_true, decide_false, gdW_tf, gdW_ff, gdW_tup, gQ_false, gQ_true, cl_some, pickP_bool, if_true, Bool.false_eq_true, if_false, condE_true, bin_add, e1, hx1])
  · have hp' : ¬ (pc : Int) < f.code.length := by omega
    exact (Ok.of (r := (.exit 2, [x, .int .i64 (pc : Nat)], g')) (.inr ⟨by simp, rfl⟩)).eq (by simp -implicitDefEqProofs only [k_law11_FreshPoints_b3, hln, Option.bind_some, bin_lss, hp', decide_false, condE_false])
theorem freshPoints_ok {h : Heap} {v : AV} {r : List AV} {m : Md} {f : Fn} (H : MdRd h v m) (G : FnRd h r f) (hl : (1 + m.funcs.length) * 104 ≤ 2 ^ 47) (hq : ∀ g, Same [] h g → k_law11_awake g = some (.bool true, g)) :
    Ok (k_law11_FreshPoints v (.agg r) h) fun r => r.1 = .bool true := by
  obtain ⟨kv', cv', mv', rfl, hbf, FB⟩ := G.box
  have H0 := H
  obtain ⟨sv, gv, kv, cv, fv, rfl, hbx, B⟩ := H.box
  have s0 : Same [] h (h.new (.cells true [sv, gv, kv, cv, fv, .int .i64 m.main])) := Same.new _ _
  have FB := FB _ s0
  have hget : (h.new (.cells true [sv, gv, kv, cv, fv, .int .i64 m.main])).get h.next = some (.cells true [sv, gv, kv, cv, fv, .int .i64 m.main]) := get_new_eq
  have hn1 : (h.new (.cells true [sv, gv, kv, cv, fv, .int .i64 m.main])).next = h.next + 1 := rfl
  generalize hg : h.new (.cells true [sv, gv, kv, cv, fv, .int .i64 m.main]) = g at *
  have s1 : Same [] g (g.new (.cells true [.int .i64 f.pa, .int .i64 f.ca, .int .i64 f.sl, .int .i64 f.re, kv', cv', mv'])) := Same.new _ _
  have B1 := B.mono s1
  have hget1 : (g.new (.cells true [.int .i64 f.pa, .int .i64 f.ca, .int .i64 f.sl, .int .i64 f.re, kv', cv', mv'])).get h.next = some (.cells true [sv, gv, kv, cv, fv, .int .i64 m.main]) := by rw [s1.get _ (by omega) (by simp)]; exact hget
  generalize hg1 : g.new (.cells true [.int .i64 f.pa, .int .i64 f.ca, .int .i64 f.sl, .int .i64 f.re, kv', cv', mv']) = g1 at *
  have sh2 : Same [] h g1 := s0.trans s1
  refine Ok.eq ?_ (by simp -implicitDefEqProofs only [k_law11_FreshPoints, hbx, hbf, mk_some, hg, hg1, hq g1 sh2, cl_some, un_not, Option.bind_some, Bool.not_true, condE_false]; rfl)
  refine ok_front H0 G sh2 B1 FB (Nat.le_refl _) (by omega) hget1 hl fun g5 v5 s5 B5 F5 => ?_
  refine Ok.eq ?_ (by simp -implicitDefEqProofs only [B5.la, Option.bind_some]; rfl)
  refine ok_cl (big_ok B5.rd) ?_
  rintro _ g6 ⟨s6, bb, rfl, hsm⟩
  simp only at s6
  have F6 := F5.mono s6
  have B6 := B5.mono s6
  cases bb with
  | true => exact ok_val (v := .bool true) (g := g6) (by simp -implicitDefEqProofs only [gdW_tf, gdW_tup, gQ_false, pickP_bool, if_true, Option.bind_some, condE_true]) rfl
  | false =>
    have S := hsm rfl
    obtain ⟨_, hc, hfs, _⟩ := S
    obtain ⟨hf1, hf2, hf3⟩ := hfs 0 f rfl
    have hc : (frontM f m).cases.length ≤ 60 := hc
    by_cases h60 : (60 : Int) < f.code.length
    · exact ok_val (v := .bool true) (g := g6) (by simp -implicitDefEqProofs only [gdW_ff, gQ_true, cl_some, faP_ptr, F6.l5, F6.ln5, bin_gtr, h60, decide_true, pickP_bool, Bool.false_eq_true, if_false, Option.bind_some, condE_true]) rfl
    refine Ok.eq ?_ (by simp -implicitDefEqProofs only [gdW_ff, gQ_true, cl_some, faP_ptr, F6.l5, F6.ln5, bin_gtr, h60, decide_false, pickP_bool, Bool.false_eq_true, if_false, Option.bind_some, condE_false, B6.la, F6.la]; rfl)
    refine ok_cl (fsets_ok B6.rd F6.rd hc hf1) ?_
    rintro q g7 ⟨n0, h64, O⟩
    simp only at O
    obtain ⟨b, vs, Q, hvl, hE⟩ := O.ex
    have F7 := F6.mono O.same
    refine ok_lp (scan_ok F7 hf1) ?_
    rintro e us g8 ⟨hg8, hr⟩
    simp only at hg8 hr
    subst hg8
    rcases hr with ⟨rfl, hr⟩ | ⟨rfl, hst, mk, h0, h1, hmk⟩
    · exact ok_val (v := .bool true) (g := g8) (by simp -implicitDefEqProofs only [reduceCtorEq, if_false, hr]; rfl) rfl
    · refine Ok.eq ?_ (by simp -implicitDefEqProofs only [if_true, thenK_normal]; rfl)
      refine ok_lp (points_ok F7 Q hvl hE h64 (by omega) h1 hmk hst _) ?_
      rintro _ us2 g9 rfl
      exact ok_val (v := .bool true) (g := g9) (by simp -implicitDefEqProofs only [if_true, thenK_normal]) rfl
end Go.Ab.F
