import Derived.Test.YtokefidnmopedaaGreatQuFn
import Derived.Test.YtokefidnmopedaaGreatKit

namespace Go.Ab.F
open Go Go.Ab
set_option linter.all false
attribute [local congr] c_bind c_cl c_mk c_lp c_clC c_gQ c_gV c_condE c_thenK

theorem gD0 (a : AV) (l : List AV) : (a :: l).getD 0 .bot = a := rfl
theorem gD1 (a b : AV) (l : List AV) : (a :: b :: l).getD 1 .bot = b := rfl
theorem gD2 (a b c : AV) (l : List AV) : (a :: b :: c :: l).getD 2 .bot = c := rfl
theorem gD3 (a b c d : AV) (l : List AV) : (a :: b :: c :: d :: l).getD 3 .bot = d := rfl
theorem suc64 (i : Nat) (h : i < 9223372036854775807) : IntKind.i64.wrap ((i : Int) + 1) = ((i + 1 : Nat) : Int) := by rw [wrap_i64 (by omega) (by omega)]; rfl
theorem mxl : maxLen = 9223372036854775807 := by decide
/-- A module in a block of its own. -/
structure MdB (g : Heap) (p : Nat) (m : Md) (sv gv kv cv fv : AV) : Prop where
  at_ : ∃ w, g.get p = some (.cells w [sv, gv, kv, cv, fv, .int .i64 m.main])
  lt : p < g.next
  rd : MdRd g (.agg [sv, gv, kv, cv, fv, .int .i64 m.main]) m
  sh : RwC g 3 sv m.shapes
  gl : RdW g 1 gv (m.globals.map AV.bool) m.globals.length
  ks : RdW g 1 kv (m.consts.map (AV.int .i64)) m.consts.length
  cs : RwC g 4 cv (m.cases.map Cas.row)
  fs : FnsRd g fv m.funcs
theorem MdRd.box {h : Heap} {v : AV} {m : Md} (H : MdRd h v m) : ∃ sv gv kv cv fv, v = .agg [sv, gv, kv, cv, fv, .int .i64 m.main] ∧
    bxP v = some (.cells true [sv, gv, kv, cv, fv, .int .i64 m.main], fun i => .ptr (some (i, 0))) ∧ MdB (h.new (.cells true [sv, gv, kv, cv, fv, .int .i64 m.main])) h.next m sv gv kv cv fv := by
  have H0 := H
  obtain ⟨sv, gv, kv, cv, fv, rfl, h1, h2, h3, h4, h5, h6⟩ := H
  have s : Same [] h (h.new (.cells true [sv, gv, kv, cv, fv, .int .i64 m.main])) := Same.new _ _
  have mo : ∀ j, j < h.next → (h.new (.cells true [sv, gv, kv, cv, fv, .int .i64 m.main])).get j = h.get j := fun j hj => s.get j hj (by simp)
  refine ⟨sv, gv, kv, cv, fv, rfl, bx_agg ?_, ⟨true, get_new_eq⟩, Nat.lt_succ_self _, H0.mono s.next mo, h1.mono s.next mo, h2.mono s.next mo, h3.mono s.next mo, h4.mono s.next mo, h5.mono s.next mo⟩
  simp only [List.all_cons, List.all_nil, h1.sc, h2.sc, h3.sc, h4.sc, h5.sc, Bool.and_true, Bool.and_self]; rfl
theorem MdB.mono {g g' : Heap} {p : Nat} {m : Md} {sv gv kv cv fv : AV} (H : MdB g p m sv gv kv cv fv) (s : Same [] g g') : MdB g' p m sv gv kv cv fv := by
  have mo : ∀ j, j < g.next → g'.get j = g.get j := fun j hj => s.get j hj (by simp)
  obtain ⟨⟨w, h1⟩, h2, h3, h4, h5, h6, h7, h8⟩ := H
  exact ⟨⟨w, by rw [mo p h2]; exact h1⟩, Nat.lt_of_lt_of_le h2 s.next, h3.mono s.next mo, h4.mono s.next mo, h5.mono s.next mo, h6.mono s.next mo, h7.mono s.next mo, h8.mono s.next mo⟩
section
variable {g : Heap} {p : Nat} {m : Md} {sv gv kv cv fv : AV} (H : MdB g p m sv gv kv cv fv)
include H
theorem MdB.l0 : ldS g (.ptr (some (p, 0 + 0))) = some sv := by obtain ⟨w, h⟩ := H.at_; rw [ldS_at h]; rfl
theorem MdB.l1 : ldS g (.ptr (some (p, 0 + 1))) = some gv := by obtain ⟨w, h⟩ := H.at_; rw [ldS_at h]; rfl
theorem MdB.l2 : ldS g (.ptr (some (p, 0 + 2))) = some kv := by obtain ⟨w, h⟩ := H.at_; rw [ldS_at h]; rfl
theorem MdB.l3 : ldS g (.ptr (some (p, 0 + 3))) = some cv := by obtain ⟨w, h⟩ := H.at_; rw [ldS_at h]; rfl
theorem MdB.l4 : ldS g (.ptr (some (p, 0 + 4))) = some fv := by obtain ⟨w, h⟩ := H.at_; rw [ldS_at h]; rfl
theorem MdB.la : ldA 6 g (.ptr (some (p, 0))) = some (.agg [sv, gv, kv, cv, fv, .int .i64 m.main]) := by obtain ⟨w, h⟩ := H.at_; rw [ldA_at h]; rfl
theorem MdB.ln0 : lnL sv = some (.int .i64 m.shapes.length) := H.sh.lnL
theorem MdB.ln1 : lnL gv = some (.int .i64 m.globals.length) := H.gl.lnL
theorem MdB.ln2 : lnL kv = some (.int .i64 m.consts.length) := H.ks.lnL
theorem MdB.ln3 : lnL cv = some (.int .i64 m.cases.length) := by have := H.cs.lnL; rwa [List.length_map] at this
theorem MdB.ln4 : lnL fv = some (.int .i64 m.funcs.length) := by
  obtain ⟨rows, h1, h2, _⟩ := H.fs
  rw [h1.lnL, h2]
theorem MdB.bnd : m.funcs.length ≤ maxLen ∧ m.cases.length ≤ maxLen := by
  obtain ⟨_, _, _, _, _, _, _, _, _, _, _, _, _, _, h1, h2, _⟩ := H.rd
  exact ⟨h2, h1⟩
/-- The i-th function. -/
theorem MdB.fn {i : Nat} {f : Fn} (hf : m.funcs[i]? = some f) : ∃ b o kv' cv' mv', b < g.next ∧ (∀ k, iaS 7 fv (.int k (i : Int)) = some (.ptr (some (b, o)))) ∧
    FnRd g [.int .i64 f.pa, .int .i64 f.ca, .int .i64 f.sl, .int .i64 f.re, kv', cv', mv'] f ∧
    ldA 7 g (.ptr (some (b, o))) = some (.agg [.int .i64 f.pa, .int .i64 f.ca, .int .i64 f.sl, .int .i64 f.re, kv', cv', mv']) ∧
    ldS g (.ptr (some (b, o + 4))) = some kv' ∧ ldS g (.ptr (some (b, o + 5))) = some cv' ∧ ldS g (.ptr (some (b, o + 6))) = some mv' ∧
    lnL kv' = some (.int .i64 f.kinds.length) ∧ lnL cv' = some (.int .i64 f.code.length) ∧ lnL mv' = some (.int .i64 f.maps.length) := by
  obtain ⟨rows, h1, h2, h3⟩ := H.fs
  have hi := (List.getElem?_eq_some_iff.1 hf).1
  obtain ⟨r, hr⟩ : ∃ r, rows[i]? = some r := ⟨_, List.getElem?_eq_getElem (by omega)⟩
  have hfr := h3 i r f hr hf
  obtain ⟨b, o, hb, hix, hla, hls⟩ := h1.at hr
  have hfr0 := hfr
  obtain ⟨kv', cv', mv', rfl, e1, e2, e3, _⟩ := hfr
  have := e2.lnL
  rw [List.length_map] at this
  exact ⟨b, o, kv', cv', mv', hb, hix, hfr0, hla, hls 4 _ rfl, hls 5 _ rfl, hls 6 _ rfl, e1.lnL, this, e3.lnL⟩
end

def Small (m : Md) : Prop := m.funcs.length ≤ 20 ∧ m.cases.length ≤ 60 ∧ ∀ (i : Nat) f, m.funcs[i]? = some f → f.code.length ≤ 200 ∧ f.maps.length ≤ 300 ∧ f.kinds.length ≤ 100

theorem big_loop {g : Heap} {p : Nat} {m : Md} {sv gv kv cv fv : AV} (H : MdB g p m sv gv kv cv fv) :
    Ok (k_ref17_Big_L0 (.ptr (some (p, 0))) (.bool false) (.int .i64 0) g) fun r => r.2.2 = g ∧ ((r.1 = .exit 0 ∧ ∀ (i : Nat) f, m.funcs[i]? = some f → f.code.length ≤ 200 ∧ f.maps.length ≤ 300 ∧ f.kinds.length ≤ 100) ∨ (r.1 = .ret ∧ r.2.1.getD 0 .bot = .bool true)) := by
  have hm := H.bnd
  rw [mxl] at hm
  refine ok_loop (fun n vs h => ∃ i : Nat, vs = [.bool false, .int .i64 i] ∧ h = g ∧ n + i = m.funcs.length ∧ ∀ (j : Nat) f, j < i → m.funcs[j]? = some f → f.code.length ≤ 200 ∧ f.maps.length ≤ 300 ∧ f.kinds.length ≤ 100) ?_ (n := m.funcs.length) (by omega)
    ⟨0, rfl, rfl, rfl, fun j f hj => by omega⟩
  rintro n vs h ⟨i, rfl, rfl, hn, hall⟩
  rw [gD0, gD1]
  by_cases hi : i < m.funcs.length
  · obtain ⟨f, hf⟩ : ∃ f, m.funcs[i]? = some f := ⟨_, List.getElem?_eq_getElem hi⟩
    obtain ⟨b, o, kv', cv', mv', hb, hix, hfr, hla, s4, s5, s6, n4, n5, n6⟩ := H.fn hf
    have hi' : (i : Int) < m.funcs.length := by omega
    have bad : ∀ x, x = (AV.bool true) → Ok (some (Ex.ret, [x, AV.int .i64 (i : Int)], h)) fun r => (r.1 = .normal ∧ ∃ m', m' < n ∧ ∃ i : Nat, r.2.1 = [.bool false, .int .i64 i] ∧ r.2.2 = h ∧ m' + i = m.funcs.length ∧ ∀ (j : Nat) f, j < i → m.funcs[j]? = some f → f.code.length ≤ 200 ∧ f.maps.length ≤ 300 ∧ f.kinds.length ≤ 100) ∨ (r.1 ≠ .normal ∧ r.2.2 = h ∧ ((r.1 = .exit 0 ∧ ∀ (i : Nat) f, m.funcs[i]? = some f → f.code.length ≤ 200 ∧ f.maps.length ≤ 300 ∧ f.kinds.length ≤ 100) ∨ (r.1 = .ret ∧ r.2.1.getD 0 .bot = .bool true))) := fun x hx => Ok.of (.inr ⟨by simp, rfl, .inr ⟨rfl, hx⟩⟩)
    by_cases c1 : (200 : Int) < f.code.length
    · exact (bad _ rfl).eq (by simp -implicitDefEqProofs only [k_ref17_Big_b0, faP_ptr, H.l4, H.ln4, Option.bind_some, bin_lss, hi', decide_true, condE_true, hix, s5, n5, bin_gtr, c1, gdW_tf, gdW_tup, gQ_false, pickP_bool, if_true])
    · by_cases c2 : (300 : Int) < f.maps.length
      · exact (bad _ rfl).eq (by simp -implicitDefEqProofs only [k_ref17_Big_b0, faP_ptr, H.l4, H.ln4, Option.bind_some, bin_lss, hi', decide_true, decide_false, condE_true, hix, s5, n5, s6, n6, bin_gtr, c1, c2, gdW_tf, gdW_ff, gdW_tup, gQ_false, gQ_true, cl_some, pickP_bool, Bool.false_eq_true, if_false, if_true])
      · by_cases c3 : (100 : Int) < f.kinds.length
        · exact (bad _ rfl).eq (by simp -implicitDefEqProofs only [k_ref17_Big_b0, faP_ptr, H.l4, H.ln4, Option.bind_some, bin_lss, hi', decide_true, decide_false, condE_true, hix, s4, n4, s5, n5, s6, n6, bin_gtr, c1, c2, c3, gdW_tf, gdW_ff, gdW_tup, gQ_false, gQ_true, cl_some, pickP_bool, Bool.false_eq_true, if_false, if_true])
        · refine (Ok.of (r := (.normal, [.bool false, .int .i64 ((i + 1 : Nat) : Int)], h)) (.inl ⟨rfl, n - 1, by omega, i + 1, rfl, rfl, by omega, fun j f' hj hf' => ?_⟩)).eq (by
            simp -implicitDefEqProofs only [k_ref17_Big_b0, faP_ptr, H.l4, H.ln4, Option.bind_some, bin_lss, hi', decide_true, decide_false, condE_true, condE_false, hix, s4, n4, s5, n5, s6, n6, bin_gtr, c1, c2, c3, gdW_tf, gdW_ff, gdW_tup, gQ_false, gQ_true, cl_some, pickP_bool, Bool.false_eq_true, if_false, bin_add, suc64 i (by omega)])
          rcases (by omega : j < i ∨ j = i) with hj | rfl
          · exact hall j f' hj hf'
          · rw [hf] at hf'; cases hf'; omega
  · have hi' : ¬ (i : Int) < m.funcs.length := by omega
    refine (Ok.of (r := (.exit 0, [.bool false, .int .i64 (i : Int)], h)) (.inr ⟨by simp, rfl, .inl ⟨rfl, fun j f hf => ?_⟩⟩)).eq (by
      simp -implicitDefEqProofs only [k_ref17_Big_b0, faP_ptr, H.l4, H.ln4, Option.bind_some, bin_lss, hi', decide_false, condE_false])
    have := (List.getElem?_eq_some_iff.1 hf).1
    exact hall j f (by omega) hf
theorem big_ok {h : Heap} {v : AV} {m : Md} (H : MdRd h v m) : Ok (k_ref17_Big v h) fun r => Same [] h r.2 ∧ ∃ b, r.1 = .bool b ∧ (b = false → Small m) := by
  obtain ⟨sv, gv, kv, cv, fv, rfl, hbx, B⟩ := H.box
  have s : Same [] h (h.new (.cells true [sv, gv, kv, cv, fv, .int .i64 m.main])) := Same.new _ _
  generalize hg : h.new (.cells true [sv, gv, kv, cv, fv, .int .i64 m.main]) = g at *
  have l0 := B.l0
  have bad : Ok (some (AV.bool true, g)) fun r => Same [] h r.2 ∧ ∃ b, r.1 = .bool b ∧ (b = false → Small m) := Ok.of ⟨s, true, rfl, fun h => by cases h⟩
  by_cases c1 : (40 : Int) < m.shapes.length
  · exact bad.eq (by simp -implicitDefEqProofs only [k_ref17_Big, hbx, mk_some, hg, faP_ptr, B.l0, B.ln0, Option.bind_some, bin_gtr, c1, decide_true, gdW_tf, gdW_tup, gQ_false, pickP_bool, if_true, condE_true])
  by_cases c2 : (300 : Int) < m.globals.length
  · exact bad.eq (by simp -implicitDefEqProofs only [k_ref17_Big, hbx, mk_some, hg, faP_ptr, B.l0, B.ln0, B.l1, B.ln1, Option.bind_some, bin_gtr, c1, c2, decide_true, decide_false, gdW_tf, gdW_ff, gdW_tup, gQ_false, gQ_true, cl_some, pickP_bool, Bool.false_eq_true, if_false, if_true, condE_true])
  by_cases c3 : (100 : Int) < m.consts.length
  · exact bad.eq (by simp -implicitDefEqProofs only [k_ref17_Big, hbx, mk_some, hg, faP_ptr, B.l0, B.ln0, B.l1, B.ln1, B.l2, B.ln2, Option.bind_some, bin_gtr, c1, c2, c3, decide_true, decide_false, gdW_tf, gdW_ff, gdW_tup, gQ_false, gQ_true, cl_some, pickP_bool, Bool.false_eq_true, if_false, if_true, condE_true])
  by_cases c4 : (60 : Int) < m.cases.length
  · exact bad.eq (by simp -implicitDefEqProofs only [k_ref17_Big, hbx, mk_some, hg, faP_ptr, B.l0, B.ln0, B.l1, B.ln1, B.l2, B.ln2, B.l3, B.ln3, Option.bind_some, bin_gtr, c1, c2, c3, c4, decide_true, decide_false, gdW_tf, gdW_ff, gdW_tup, gQ_false, gQ_true, cl_some, pickP_bool, Bool.false_eq_true, if_false, if_true, condE_true])
  by_cases c5 : (20 : Int) < m.funcs.length
  · exact bad.eq (by simp -implicitDefEqProofs only [k_ref17_Big, hbx, mk_some, hg, faP_ptr, B.l0, B.ln0, B.l1, B.ln1, B.l2, B.ln2, B.l3, B.ln3, B.l4, B.ln4, Option.bind_some, bin_gtr, c1, c2, c3, c4, c5, decide_true, decide_false, gdW_tf, gdW_ff, gdW_tup, gQ_false, gQ_true, cl_some, pickP_bool, Bool.false_eq_true, if_false, if_true, condE_true])
  refine Ok.eq ?_ (by simp -implicitDefEqProofs only [k_ref17_Big, hbx, mk_some, hg, faP_ptr, B.l0, B.ln0, B.l1, B.ln1, B.l2, B.ln2, B.l3, B.ln3, B.l4, B.ln4, Option.bind_some, bin_gtr, c1, c2, c3, c4, c5, decide_true, decide_false, gdW_tf, gdW_ff, gdW_tup, gQ_false, gQ_true, cl_some, pickP_bool, Bool.false_eq_true, if_false, if_true, condE_false]; rfl)
  refine ok_lp (big_loop B) ?_
  rintro e vs g' ⟨hg', hr⟩
  simp only at hg' hr
  subst hg'
  rcases hr with ⟨rfl, hr⟩ | ⟨rfl, hr⟩
  · exact Ok.of (r := (AV.bool false, g')) ⟨s, false, rfl, fun _ => ⟨by omega, by omega, hr⟩⟩
  · rw [hr]
    exact Ok.of (r := (AV.bool true, g')) ⟨s, true, rfl, fun h => by cases h⟩
end Go.Ab.F

namespace Go.Ab.F
open Go Go.Ab
set_option linter.all false
attribute [local congr] c_bind c_cl c_mk c_lp c_clC c_gQ c_gV c_condE c_thenK

def wi (n : Int) : Int := IntKind.i64.wrap n
def cnt (t : Int × Int × Int) (op : Int) : Int × Int × Int :=
  if op = 43 then (wi (t.1 + 1), t.2.1, t.2.2) else if op = 29 ∨ op = 32 then (t.1, wi (t.2.1 + 1), t.2.2) else if op = 28 ∨ op = 31 then (t.1, t.2.1, wi (t.2.2 + 1)) else t
def cntC (t : Int × Int × Int) (l : List Ins) : Int × Int × Int := l.foldl (fun t i => cnt t i.op) t
def cntM (t : Int × Int × Int) (l : List Fn) : Int × Int × Int := l.foldl (fun t f => cntC t f.code) t
def ctV (t : Int × Int × Int) : List AV := [.int .i64 t.1, .int .i64 t.2.1, .int .i64 t.2.2]
theorem foldl_take {α β : Type} (f : β → α → β) (b : β) {l : List α} {i : Nat} {x : α} (h : l[i]? = some x) : (l.take (i + 1)).foldl f b = f ((l.take i).foldl f b) x := by
  rw [List.take_add_one, h, List.foldl_append]; rfl
theorem ex21 (i j : Nat) (h : i ≠ j) : ¬ (Ex.exit i = Ex.exit j) := by intro e; cases e; exact h rfl

/-- The program's count of one instruction, and the law's. -/
theorem count_j (op : Int) (a b c : Int) (j : Int) (h : Heap) : (
  (eqP (some (.int .i64)) none false .eql (.int .i64 op) (AV.int .i64 43)).bind fun t26 =>
  condE t26 (
  (binP .add (.int .i64 a) (AV.int .i64 1)).bind fun t28 =>
  k_emit_Count_j0 (.int .i64 j) t28 (.int .i64 b) (.int .i64 c) h) (
  (eqP (some (.int .i64)) none false .eql (.int .i64 op) (AV.int .i64 29)).bind fun t30 =>
  condE t30 (
  k_emit_Count_j2 (.int .i64 a) (.int .i64 b) (.int .i64 c) (.int .i64 j) (.int .i64 op) t30 h) (
  (eqP (some (.int .i64)) none false .eql (.int .i64 op) (AV.int .i64 32)).bind fun t31 =>
  k_emit_Count_j2 (.int .i64 a) (.int .i64 b) (.int .i64 c) (.int .i64 j) (.int .i64 op) t31 h))) = some (.normal, ctV (cnt (a, b, c) op) ++ [.int .i64 (IntKind.i64.wrap (j + 1))], h) := by
  by_cases c1 : op = 43
  · simp only [eql_int, c1, decide_true, Option.bind_some, condE_true, bin_add, k_emit_Count_j0, cnt, if_true, ctV, wi]; rfl
  by_cases c2 : op = 29
  · simp [eql_int, c2, bin_add, k_emit_Count_j0, k_emit_Count_j2, cnt, ctV, wi]
  by_cases c3 : op = 32
  · simp [eql_int, c3, bin_add, k_emit_Count_j0, k_emit_Count_j2, cnt, ctV, wi]
  by_cases c4 : op = 28
  · simp [eql_int, c4, bin_add, k_emit_Count_j0, k_emit_Count_j1, k_emit_Count_j2, cnt, ctV, wi]
  by_cases c5 : op = 31
  · simp [eql_int, c5, bin_add, k_emit_Count_j0, k_emit_Count_j1, k_emit_Count_j2, cnt, ctV, wi]
  simp [eql_int, c1, c2, c3, c4, c5, bin_add, k_emit_Count_j0, k_emit_Count_j1, k_emit_Count_j2, cnt, ctV, wi]
theorem law_j (op : Int) (a b c : Int) (j : Int) (h : Heap) : (
  (eqP (some (.int .i64)) none false .eql (.int .i64 op) (AV.int .i64 43)).bind fun t44 =>
  condE t44 (
  (binP .add (.int .i64 a) (AV.int .i64 1)).bind fun t46 =>
  k_law24_EmitCounts_j0 (.int .i64 j) t46 (.int .i64 b) (.int .i64 c) h) (
  (eqP (some (.int .i64)) none false .eql (.int .i64 op) (AV.int .i64 29)).bind fun t48 =>
  condE t48 (
  k_law24_EmitCounts_j2 (.int .i64 a) (.int .i64 b) (.int .i64 c) (.int .i64 j) (.int .i64 op) t48 h) (
  (eqP (some (.int .i64)) none false .eql (.int .i64 op) (AV.int .i64 32)).bind fun t49 =>
  k_law24_EmitCounts_j2 (.int .i64 a) (.int .i64 b) (.int .i64 c) (.int .i64 j) (.int .i64 op) t49 h))) = some (.normal, ctV (cnt (a, b, c) op) ++ [.int .i64 (IntKind.i64.wrap (j + 1))], h) := by
  by_cases c1 : op = 43
  · simp only [eql_int, c1, decide_true, Option.bind_some, condE_true, bin_add, k_law24_EmitCounts_j0, cnt, if_true, ctV, wi]; rfl
  by_cases c2 : op = 29
  · simp [eql_int, c2, bin_add, k_law24_EmitCounts_j0, k_law24_EmitCounts_j2, cnt, ctV, wi]
  by_cases c3 : op = 32
  · simp [eql_int, c3, bin_add, k_law24_EmitCounts_j0, k_law24_EmitCounts_j2, cnt, ctV, wi]
  by_cases c4 : op = 28
  · simp [eql_int, c4, bin_add, k_law24_EmitCounts_j0, k_law24_EmitCounts_j1, k_law24_EmitCounts_j2, cnt, ctV, wi]
  by_cases c5 : op = 31
  · simp [eql_int, c5, bin_add, k_law24_EmitCounts_j0, k_law24_EmitCounts_j1, k_law24_EmitCounts_j2, cnt, ctV, wi]
  simp [eql_int, c1, c2, c3, c4, c5, bin_add, k_law24_EmitCounts_j0, k_law24_EmitCounts_j1, k_law24_EmitCounts_j2, cnt, ctV, wi]

/-- The program's inner loop. -/
theorem countC {h : Heap} {cv : AV} {l : List Ins} (H : RwC h 5 cv (l.map Ins.row)) (t : Int × Int × Int) :
    Ok (k_emit_Count_L0 cv (.int .i64 l.length) (.int .i64 t.1) (.int .i64 t.2.1) (.int .i64 t.2.2) (.int .i64 0) h) fun r => r.1 = .exit 2 ∧ Same [] h r.2.2 ∧ ∃ x, r.2.1 = ctV (cntC t l) ++ [x] := by
  have hm : l.length ≤ maxLen := by obtain ⟨_, _, h, _⟩ := H; simpa using h
  rw [mxl] at hm
  refine ok_loop (fun n vs g => ∃ i : Nat, vs = ctV (cntC t (l.take i)) ++ [.int .i64 i] ∧ Same [] h g ∧ n + i = l.length) ?_ (n := l.length) (by omega)
    ⟨0, rfl, Same.refl _ _, rfl⟩
  rintro n vs g ⟨i, rfl, s, hn⟩
  simp only [ctV, List.cons_append, List.nil_append]
  rw [gD0, gD1, gD2, gD3]
  by_cases hi : i < l.length
  · obtain ⟨x, hx⟩ : ∃ x, l[i]? = some x := ⟨_, List.getElem?_eq_getElem hi⟩
    have hi' : (i : Int) < l.length := by omega
    obtain ⟨b, o, hb, hix, hla, hls⟩ := (H.mono s.next (fun j hj => s.get j hj (by simp))).at (i := i) (r := x.row) (by rw [List.getElem?_map, hx]; rfl)
    refine Ok.eq ?_ (by simp -implicitDefEqProofs only [k_emit_Count_b0, bin_lss, hi', decide_true, Option.bind_some, condE_true, hix, hla]; rfl)
    refine ok_tmp (cs := x.row) (n := 5) (by rfl) (by rfl) (Ins.sc x) fun g' s' n' hg' => ?_
    have l1 : ldS g' (.ptr (some (g.next, 0 + 0))) = some (.int .i64 x.op) := by rw [ldS_at hg']; rfl
    refine Ok.eq ?_ (by simp -implicitDefEqProofs only [faP_ptr, Option.bind_some, l1]; exact count_j x.op _ _ _ _ _)
    refine Ok.of (.inl ⟨rfl, n - 1, by omega, i + 1, ?_, s.trans s', by omega⟩)
    have e : cntC t (l.take (i + 1)) = cnt (cntC t (l.take i)) x.op := foldl_take _ _ hx
    rw [suc64 i (by omega), e]
    rfl
  · have hi' : ¬ (i : Int) < l.length := by omega
    refine (Ok.of (r := (.exit 2, ctV (cntC t (l.take i)) ++ [.int .i64 (i : Int)], g)) (.inr ⟨by simp, rfl, s, ?_⟩)).eq (by
      simp -implicitDefEqProofs only [k_emit_Count_b0, bin_lss, hi', decide_false, Option.bind_some, condE_false]; rfl)
    exact ⟨.int .i64 i, by simp only [List.take_of_length_le (show l.length ≤ i by omega)]; rfl⟩
theorem count_ok {h : Heap} {v : AV} {m : Md} (H : MdRd h v m) : Ok (k_emit_Count v h) fun r => Same [] h r.2 ∧ r.1 = .tup (ctV (cntM (0, 0, 0) m.funcs)) := by
  obtain ⟨sv, gv, kv, cv, fv, rfl, hbx, B⟩ := H.box
  have s0 : Same [] h (h.new (.cells true [sv, gv, kv, cv, fv, .int .i64 m.main])) := Same.new _ _
  generalize hg : h.new (.cells true [sv, gv, kv, cv, fv, .int .i64 m.main]) = g at *
  have hm := B.bnd.1
  rw [mxl] at hm
  refine Ok.eq ?_ (by simp -implicitDefEqProofs only [k_emit_Count, hbx, mk_some, hg, faP_ptr, B.l4, B.ln4, Option.bind_some]; rfl)
  refine ok_lp (P := fun r => r.1 = .exit 0 ∧ Same [] h r.2.2 ∧ ∃ x, r.2.1 = ctV (cntM (0, 0, 0) m.funcs) ++ [x]) ?_ ?_
  · refine ok_loop (fun n vs g' => ∃ i : Nat, vs = ctV (cntM (0, 0, 0) (m.funcs.take i)) ++ [.int .i64 i] ∧ Same [] g g' ∧ n + i = m.funcs.length) ?_ (n := m.funcs.length) (by omega)
      ⟨0, rfl, Same.refl _ _, rfl⟩
    rintro n vs g' ⟨i, rfl, s, hn⟩
    simp only [ctV, List.cons_append, List.nil_append]
    rw [gD0, gD1, gD2, gD3]
    by_cases hi : i < m.funcs.length
    · obtain ⟨f, hf⟩ : ∃ f, m.funcs[i]? = some f := ⟨_, List.getElem?_eq_getElem hi⟩
      have hi' : (i : Int) < m.funcs.length := by omega
      obtain ⟨b, o, kv', cv', mv', hb, hix, hfr, hla, s4, s5, s6, n4, n5, n6⟩ := (B.mono s).fn hf
      refine Ok.eq ?_ (by simp -implicitDefEqProofs only [k_emit_Count_b1, bin_lss, hi', decide_true, Option.bind_some, condE_true, hix, hla]; rfl)
      refine ok_tmp (cs := [.int .i64 f.pa, .int .i64 f.ca, .int .i64 f.sl, .int .i64 f.re, kv', cv', mv']) (n := 7) (by rfl) (by rfl) hfr.sc fun g'' s' n' hg' => ?_
      have l1 : ldS g'' (.ptr (some (g'.next, 0 + 5))) = some cv' := by rw [ldS_at hg']; rfl
      have hcv : RwC g'' 5 cv' (f.code.map Ins.row) := by
        obtain ⟨_, _, _, e, _, h2, _⟩ := hfr
        cases e
        exact h2.mono s'.next (fun j hj => s'.get j hj (by simp))
      refine Ok.eq ?_ (by simp -implicitDefEqProofs only [faP_ptr, Option.bind_some, l1, n5]; rfl)
      refine ok_lp (countC hcv (cntM (0, 0, 0) (m.funcs.take i))) ?_
      rintro _ vs g3 ⟨rfl, s3, x, rfl⟩
      refine (Ok.of (r := (.normal, ctV (cntM (0, 0, 0) (m.funcs.take (i + 1))) ++ [.int .i64 ((i + 1 : Nat) : Int)], g3)) (.inl ⟨rfl, n - 1, by omega, i + 1, rfl, (s.trans s').trans s3, by omega⟩)).eq ?_
      simp -implicitDefEqProofs only [if_true, ex21 1 0 (by decide), if_false, reduceCtorEq, thenK_normal, bin_add, suc64 i (by omega), Option.bind_some, ctV, List.cons_append, List.nil_append, gD0, gD1, gD2, cntM, foldl_take _ _ hf]
    · have hi' : ¬ (i : Int) < m.funcs.length := by omega
      refine (Ok.of (r := (.exit 0, ctV (cntM (0, 0, 0) (m.funcs.take i)) ++ [.int .i64 (i : Int)], g')) (.inr ⟨by simp, rfl, s0.trans s, ?_⟩)).eq (by
        simp -implicitDefEqProofs only [k_emit_Count_b1, bin_lss, hi', decide_false, Option.bind_some, condE_false]; rfl)
      exact ⟨.int .i64 i, by simp only [List.take_of_length_le (show m.funcs.length ≤ i by omega)]; rfl⟩
  · rintro _ vs g3 ⟨rfl, s3, x, rfl⟩
    exact ok_val (g := g3) (by simp -implicitDefEqProofs only [if_true, thenK_normal, ctV, List.cons_append, List.nil_append, gD0, gD1, gD2]) ⟨s3, rfl⟩
end Go.Ab.F

namespace Go.Ab.F
open Go Go.Ab
set_option linter.all false
attribute [local congr] c_bind c_cl c_mk c_lp c_clC c_gQ c_gV c_condE c_thenK
theorem lawC {g : Heap} {p : Nat} {m : Md} {sv gv kv cv fv : AV} (B : MdB g p m sv gv kv cv fv) {i : Nat} {f : Fn} (hf : m.funcs[i]? = some f) (t : Int × Int × Int) :
    Ok (k_law24_EmitCounts_L0 (.ptr (some (p, 0))) (.int .i64 i) (.int .i64 t.1) (.int .i64 t.2.1) (.int .i64 t.2.2) (.int .i64 0) g) fun r => r.1 = .exit 2 ∧ r.2.2 = g ∧ ∃ x, r.2.1 = ctV (cntC t f.code) ++ [x] := by
  obtain ⟨b, o, kv', cv', mv', hb, hix, hfr, hla, s4, s5, s6, n4, n5, n6⟩ := B.fn hf
  have hcv : RwC g 5 cv' (f.code.map Ins.row) := by
    obtain ⟨_, _, _, e, _, h2, _⟩ := hfr
    cases e
    exact h2
  have hm : f.code.length ≤ maxLen := by obtain ⟨_, _, h, _⟩ := hcv; simpa using h
  rw [mxl] at hm
  refine ok_loop (fun n vs g' => ∃ j : Nat, vs = ctV (cntC t (f.code.take j)) ++ [.int .i64 j] ∧ g' = g ∧ n + j = f.code.length) ?_ (n := f.code.length) (by omega)
    ⟨0, rfl, rfl, rfl⟩
  rintro n vs g' ⟨j, rfl, rfl, hn⟩
  simp only [ctV, List.cons_append, List.nil_append]
  rw [gD0, gD1, gD2, gD3]
  by_cases hj : j < f.code.length
  · obtain ⟨x, hx⟩ : ∃ x, f.code[j]? = some x := ⟨_, List.getElem?_eq_getElem hj⟩
    have hj' : (j : Int) < f.code.length := by omega
    obtain ⟨b2, o2, hb2, hix2, hla2, hls2⟩ := hcv.at (i := j) (r := x.row) (by rw [List.getElem?_map, hx]; rfl)
    have l1 : ldS g' (.ptr (some (b2, o2 + 0))) = some (.int .i64 x.op) := hls2 0 _ rfl
    refine Ok.eq ?_ (by simp -implicitDefEqProofs only [k_law24_EmitCounts_b0, faP_ptr, B.l4, hix, s5, n5, bin_lss, hj', decide_true, Option.bind_some, condE_true, hix2, l1]; exact law_j x.op _ _ _ _ _)
    refine Ok.of (.inl ⟨rfl, n - 1, by omega, j + 1, ?_, rfl, by omega⟩)
    have e : cntC t (f.code.take (j + 1)) = cnt (cntC t (f.code.take j)) x.op := foldl_take _ _ hx
    rw [suc64 j (by omega), e]
    rfl
  · have hj' : ¬ (j : Int) < f.code.length := by omega
    refine (Ok.of (r := (.exit 2, ctV (cntC t (f.code.take j)) ++ [.int .i64 (j : Int)], g')) (.inr ⟨by simp, rfl, rfl, ?_⟩)).eq (by
      simp -implicitDefEqProofs only [k_law24_EmitCounts_b0, faP_ptr, B.l4, hix, s5, n5, bin_lss, hj', decide_false, Option.bind_some, condE_false]; rfl)
    exact ⟨.int .i64 j, by simp only [List.take_of_length_le (show f.code.length ≤ j by omega)]; rfl⟩
theorem eql_self (a : Int) : decide (a = a) = true := by simp
theorem emitCounts_ok {h : Heap} {v : AV} {m : Md} (H : MdRd h v m) (hq : ∀ g, Same [] h g → k_law24_awake g = some (.bool true, g)) : Ok (k_law24_EmitCounts v h) fun r => r.1 = .bool true := by
  obtain ⟨sv, gv, kv, cv, fv, rfl, hbx, B⟩ := H.box
  have s0 : Same [] h (h.new (.cells true [sv, gv, kv, cv, fv, .int .i64 m.main])) := Same.new _ _
  generalize hg : h.new (.cells true [sv, gv, kv, cv, fv, .int .i64 m.main]) = g at *
  refine Ok.eq ?_ (by simp -implicitDefEqProofs only [k_law24_EmitCounts, hbx, mk_some, hg, hq g s0, cl_some, un_not, Bool.not_true, condE_false, B.la, Option.bind_some]; rfl)
  refine ok_cl (big_ok B.rd) ?_
  rintro _ g2 ⟨s2, b, rfl, _⟩
  simp only at s2
  cases b with
  | true => exact Ok.of (r := (AV.bool true, g2)) rfl
  | false =>
    refine Ok.eq ?_ (by simp -implicitDefEqProofs only [condE_false]; rfl)
    have B2 := B.mono s2
    have hm := B.bnd.1
    rw [mxl] at hm
    refine ok_lp (P := fun r => r.1 = .exit 0 ∧ r.2.2 = g2 ∧ ∃ x, r.2.1 = ctV (cntM (0, 0, 0) m.funcs) ++ [x]) ?_ ?_
    · refine ok_loop (fun n vs g' => ∃ i : Nat, vs = ctV (cntM (0, 0, 0) (m.funcs.take i)) ++ [.int .i64 i] ∧ g' = g2 ∧ n + i = m.funcs.length) ?_ (n := m.funcs.length) (by omega)
        ⟨0, rfl, rfl, rfl⟩
      rintro n vs g' ⟨i, rfl, rfl, hn⟩
      simp only [ctV, List.cons_append, List.nil_append]
      rw [gD0, gD1, gD2, gD3]
      by_cases hi : i < m.funcs.length
      · obtain ⟨f, hf⟩ : ∃ f, m.funcs[i]? = some f := ⟨_, List.getElem?_eq_getElem hi⟩
        have hi' : (i : Int) < m.funcs.length := by omega
        refine Ok.eq ?_ (by simp -implicitDefEqProofs only [k_law24_EmitCounts_b1, faP_ptr, B2.l4, B2.ln4, bin_lss, hi', decide_true, Option.bind_some, condE_true]; rfl)
        refine ok_lp (lawC B2 hf (cntM (0, 0, 0) (m.funcs.take i))) ?_
        rintro _ vs g3 ⟨rfl, rfl, x, rfl⟩
        refine (Ok.of (r := (.normal, ctV (cntM (0, 0, 0) (m.funcs.take (i + 1))) ++ [.int .i64 ((i + 1 : Nat) : Int)], g3)) (.inl ⟨rfl, n - 1, by omega, i + 1, rfl, rfl, by omega⟩)).eq ?_
        simp -implicitDefEqProofs only [if_true, if_false, reduceCtorEq, thenK_normal, bin_add, suc64 i (by omega), Option.bind_some, ctV, List.cons_append, List.nil_append, gD0, gD1, gD2, cntM, foldl_take _ _ hf]
      · have hi' : ¬ (i : Int) < m.funcs.length := by omega
        refine (Ok.of (r := (.exit 0, ctV (cntM (0, 0, 0) (m.funcs.take i)) ++ [.int .i64 (i : Int)], g')) (.inr ⟨by simp, rfl, rfl, ?_⟩)).eq (by
          simp -implicitDefEqProofs only [k_law24_EmitCounts_b1, faP_ptr, B2.l4, B2.ln4, bin_lss, hi', decide_false, Option.bind_some, condE_false]; rfl)
        exact ⟨.int .i64 i, by simp only [List.take_of_length_le (show m.funcs.length ≤ i by omega)]; rfl⟩
    · rintro _ vs g3 ⟨rfl, rfl, x, rfl⟩
      refine Ok.eq ?_ (by simp -implicitDefEqProofs only [if_true, thenK_normal, B2.la, Option.bind_some]; rfl)
      refine ok_cl (count_ok B2.rd) ?_
      rintro _ g4 ⟨s4, rfl⟩
      refine ok_val (v := .bool true) (g := g4) ?_ rfl
      simp -implicitDefEqProofs only [ctV, extractV_tup, List.getElem?_cons_zero, List.getElem?_cons_succ, List.cons_append, List.nil_append, gD0, gD1, gD2, Option.bind_some, eql_int, decide_true, gdW_tt, gQ_true, cl_some, pickP_bool, if_true]
end Go.Ab.F
