import Derived.Test.YtokefidnmopedaaQuFn
import Derived.Test.YtokefidnmopedaaLiv

namespace Go.Ab.F
open Go Go.Ab
set_option linter.all false
set_option linter.unusedSimpArgs false
attribute [local congr] c_bind c_cl c_mk c_lp c_clC c_gQ c_gV c_condE c_thenK

/-! ### The program's modules told as the document's: the same, in blocks of their own -/
theorem build5 (a b c d e : Int) : bldS [(0, 1), (1, 1), (2, 1), (3, 1), (4, 1)] [(AV.int .i64 0), (AV.int .i64 0), (AV.int .i64 0), (AV.int .i64 0), (AV.int .i64 0)] [(0, AV.int .i64 a), (1, AV.int .i64 b), (2, AV.int .i64 c), (3, AV.int .i64 d), (4, AV.int .i64 e)] = some (.agg [.int .i64 a, .int .i64 b, .int .i64 c, .int .i64 d, .int .i64 e]) := rfl
theorem instr_ok (i : Ins) (h : Heap) : Ok (k_ref17_Instr (.agg i.row) h) fun r => Same [] h r.2 ∧ r.1 = .agg i.row := by
  have hbi := bx_agg (Ins.sc i)
  have s1 : Same [] h (h.new (.cells true i.row)) := Same.new _ _
  have gn : (h.new (.cells true i.row)).get h.next = some (.cells true i.row) := get_new_eq
  have hn : (h.new (.cells true i.row)).next = h.next + 1 := rfl
  generalize hg1 : h.new (.cells true i.row) = g1 at *
  generalize hz : Blk.cells true [AV.int .i64 0, AV.int .i64 0, AV.int .i64 0, AV.int .i64 0, AV.int .i64 0] = z
  have s2 : Same [] g1 (g1.new z) := Same.new _ _
  have gn2 : (g1.new z).get h.next = some (.cells true i.row) := by rw [s2.get _ (by omega) (by simp)]; exact gn
  have l : ∀ (f : Nat) x, i.row[f]? = some x → ldS (g1.new z) (.ptr (some (h.next, 0 + f))) = some x := fun f x hx => by rw [ldS_at gn2, Nat.zero_add]; exact hx
  have l0 := l 0 _ rfl
  have l1 := l 1 _ rfl
  have l2 := l 2 _ rfl
  have l3 := l 3 _ rfl
  have l4 := l 4 _ rfl
  refine Ok.eq ?_ (by simp -implicitDefEqProofs only [k_ref17_Instr, hbi, mk_some, hg1, hz, faP_ptr, Option.bind_some, l0, l1, l2, l3, l4, build5]; rfl)
  rw [← hz]
  refine ok_tmp2 (cs := i.row) (n := 5) (by rfl) (by rfl) (Ins.sc i) fun _ g3 s3 n3 hg3 => ?_
  have la : ldA 5 g3 (.ptr (some (g1.next, 0))) = some (.agg i.row) := by rw [ldA_at hg3]; rfl
  exact ok_val (v := .agg i.row) (g := g3) (by simp -implicitDefEqProofs only [la, Option.bind_some]) ⟨s1.trans s3, rfl⟩

/-- What holds as long as the blocks from lo on are as they were. -/
def Keeps (lo : Nat) (g : Heap) (P : Heap → Prop) : Prop := ∀ g', g.next ≤ g'.next → (∀ j, lo ≤ j → j < g.next → g'.get j = g.get j) → P g'
theorem Keeps.now {lo : Nat} {g : Heap} {P : Heap → Prop} (H : Keeps lo g P) : P g := H g (Nat.le_refl _) (fun _ _ _ => rfl)
theorem Keeps.mono {lo lo' : Nat} {g g' : Heap} {P : Heap → Prop} (H : Keeps lo g P) (hl : lo' ≤ lo) (hn : g.next ≤ g'.next) (hg : ∀ j, lo ≤ j → j < g.next → g'.get j = g.get j) : Keeps lo' g' P := fun g'' n'' e'' =>
  H g'' (Nat.le_trans hn n'') fun j h1 h2 => (e'' j (Nat.le_trans hl h1) (Nat.lt_of_lt_of_le h2 hn)).trans (hg j h1 h2)
/-- All of a slice, put into a new one. -/
theorem copy_all {h0 g : Heap} {b sz bytes n : Nat} {y : AV} {cs : List AV} (hb : g.get b = some (.cells true [])) (h1 : h0.next ≤ b) (h2 : b < g.next) (s : Same [] h0 g) (H : RdW g sz y cs n) (hsc : cs.all scalar = true) (hz : 0 < sz) (hn : n * bytes ≤ 2 ^ 47) :
    ∃ v' g', appendA g sz bytes (.sl (some (b, 0)) 0 (.ex 0)) y = some (v', g') ∧ Same [] h0 g' ∧ (∀ j, j < g.next → g'.get j = g.get j) ∧ g.next ≤ g'.next ∧ Keeps g.next g' (fun k => RdW k sz v' cs n) ∧ CapV sz v' ∧ ∃ p m c, v' = .sl p m c := by
  have hcl := H.len
  have hld : loadN g (b, 0) (0 * sz) = some [] := by
    simp only [loadN, hb, spanF_eq, Nat.zero_mul]; rfl
  have hcount : countA y = some n := by
    rcases H.eq with ⟨rfl, h⟩ | ⟨_, _, _, rfl, _⟩
    · rw [h]; rfl
    · rfl
  have hadd : addedA g sz y = some cs := by
    rcases H.eq with ⟨rfl, h⟩ | ⟨bb, o, c, rfl, hbb, hgg⟩
    · have : cs = [] := List.eq_nil_of_length_eq_zero (by rw [hcl, h, Nat.zero_mul])
      subst this; rfl
    · by_cases hn0 : n = 0
      · have : cs = [] := List.eq_nil_of_length_eq_zero (by rw [hcl, hn0, Nat.zero_mul])
        subst this
        simp only [addedA, hn0, Nat.zero_mul]
        cases hld' : loadN g (bb, o) 0 with
        | none => rfl
        | some q =>
          simp only [loadN] at hld'
          split at hld'
          · rw [spanF_eq] at hld'
            have := span_le hld'
            rw [span_some _ _ _ this] at hld'
            cases hld'
            rfl
          · cases hld'
      · obtain ⟨w, pre, rest, ho, hget⟩ := hgg hn0
        simp only [addedA, loadN, hget, spanF_eq]
        have : span cs 0 (n * sz) = some cs := by rw [span_some _ _ _ (by omega), List.drop_zero, List.take_of_length_le (by omega)]
        have e := span_in (pre := pre) (rest := rest) this
        rw [ho, Nat.add_zero] at e
        rw [e]
  by_cases hn0 : n = 0
  · have : cs = [] := List.eq_nil_of_length_eq_zero (by rw [hcl, hn0, Nat.zero_mul])
    subst this
    subst hn0
    refine ⟨.sl (some (b, 0)) 0 (.ex 0), g.put b (some (.cells true [])), ?_, s.old (Same.put _ _ _) (fun j hj => .inr (by simp at hj; omega)), fun j _ => ?_, Nat.le_refl _, fun g' n' e' => ⟨by simp, .inr ⟨b, 0, .ex 0, rfl, Nat.lt_of_lt_of_le h2 n', fun h => absurd rfl h⟩⟩, .inr ⟨_, _, _, rfl, by simp only [CapOk]; decide⟩, _, _, _, rfl⟩
    · simp only [appendA, hcount, hadd, Option.bind_some, Nat.add_zero, Nat.le_refl, if_true, addA, storeN, hb, spliceF_eq, Nat.zero_mul]
      rfl
    · rw [Heap.get_put]; split
      · rename_i e; subst e; exact hb.symm
      · rfl
  · refine ⟨.sl (some (g.next, 0)) (0 + n) (.un sz), g.new (.cells true ([] ++ cs)), ?_, s.trans (Same.new _ _), fun j hj => get_new_ne (by omega), Nat.le_succ _, fun g' n' e' => ⟨hcl, .inr ⟨g.next, 0, .un sz, by rw [Nat.zero_add], Nat.lt_of_lt_of_le (Nat.lt_succ_self _) n', fun _ => ⟨true, [], [], rfl, by rw [e' _ (Nat.le_refl _) (Nat.lt_succ_self _), get_new_eq]; simp⟩⟩⟩, .inr ⟨_, _, _, rfl, rfl⟩, _, _, _, rfl⟩
    simp only [appendA, hcount, hadd, Option.bind_some]
    rw [if_neg (by omega), if_pos (by rw [Nat.zero_add]; exact hn), hld, Option.bind_some, if_pos (by rw [List.nil_append]; exact hsc)]
end Go.Ab.F

namespace Go.Ab.F
open Go Go.Ab
set_option linter.all false
set_option linter.unusedSimpArgs false
attribute [local congr] c_bind c_cl c_mk c_lp c_clC c_gQ c_gV c_condE c_thenK

/-! ### Rows of cells, one behind the other, in a slice that lies in a cell of a struct -/
theorem span_flat {sz : Nat} : ∀ {l : List (List AV)}, (∀ r ∈ l, r.length = sz) → ∀ (i : Nat) r, l[i]? = some r → span l.flatten (i * sz) sz = some r
  | [], _, i, r, h => by simp at h
  | a :: l, H, i, r, h => by
    have ha := H a (List.mem_cons_self ..)
    have hr := H r (List.mem_of_getElem? h)
    cases i with
    | zero =>
      simp at h; subst h
      rw [List.flatten_cons, Nat.zero_mul, span_some _ _ _ (by simp; omega), List.drop_zero, take_len hr.symm]
    | succ i =>
      have h3 := span_flat (fun r hr => H r (List.mem_cons_of_mem _ hr)) i r (by simpa using h)
      have hle := span_le h3
      rw [span_some _ _ _ hle] at h3
      rw [List.flatten_cons, span_some _ _ _ (by rw [List.length_append, Nat.succ_mul]; omega), show (i + 1) * sz = a.length + i * sz by rw [Nat.succ_mul]; omega, ← List.drop_drop, List.drop_left]
      exact h3
/-- 'append' of one thing, that lies at c. -/
theorem appAt {g : Heap} {b : Option Nat} {sz n bytes c : Nat} {q : AV} {cs t : List AV} (H : SlB g b sz q cs n) (hc : g.get c = some (.cells true t)) (ht : t.length = sz) (hs : t.all scalar = true)
    (h0 : 0 < sz) (hn : (n + 1) * bytes ≤ 2 ^ 47) :
    ∃ v' g', appendA g sz bytes q (.sl (some (c, 0)) 1 (.ex 1)) = some (v', g') ∧ SlB g' (some g.next) sz v' (cs ++ t) (n + 1) ∧ Same b.toList g g' ∧ g'.next = g.next + 1 := by
  have hld : loadN g (c, 0) (1 * sz) = some t := by
    simp only [loadN, hc, spanF_eq]
    rw [span_some _ _ _ (by rw [ht]; omega), Nat.one_mul, ← ht, List.drop_zero, List.take_length]
  cases b with
  | none =>
    have e : q = .sl none 0 (.ex 0) := H.eq
    have hn0 := H.nil rfl
    subst hn0
    have hcs : cs = [] := by have := H.len; simpa using this
    subst hcs
    refine ⟨.sl (some (g.next, 0)) 1 (.un sz), g.new (.cells true t), ?_, ⟨by simpa using ht, by simpa using hs, rfl, (fun h => by cases h), fun i hi => ?_⟩, Same.new _ _, rfl⟩
    · rw [e]
      simp only [appendA, countA, addedA, hld, Option.bind_some]
      rw [if_neg (by omega), if_pos (by omega)]
      simp only [if_true, Option.bind_some, List.nil_append, hs]
    · cases hi
      exact ⟨Nat.lt_succ_self _, by rw [List.nil_append]; exact get_new_eq, by omega⟩
  | some i =>
    have e : q = .sl (some (i, 0)) n (.un sz) := H.eq
    obtain ⟨b1, b2, b3⟩ := H.blk i rfl
    have hl := H.len
    have hmul : (n + 1) * sz = n * sz + sz := by rw [Nat.succ_mul]
    refine ⟨.sl (some (g.next, 0)) (n + 1) (.un sz), (g.put i none).new (.cells true (cs ++ t)), ?_, ⟨by rw [List.length_append, ht, hl, hmul], by rw [List.all_append, H.sc, hs]; rfl, rfl, (fun h => by cases h), fun j hj => ?_⟩, ?_, rfl⟩
    · rw [e]
      simp only [appendA, countA, addedA, hld, Option.bind_some, ne_eq, not_true_eq_false, if_false, b2]
      rw [if_neg (by omega), if_pos hn, if_neg (by omega), if_pos (by omega)]
      simp only [hs, if_true, List.drop_zero]
    · cases hj
      exact ⟨Nat.lt_succ_self _, by have := get_new_eq (h := g.put i none) (b := .cells true (cs ++ t)); simpa using this, by omega⟩
    · exact (Same.put _ _ _).sub (by simp) |>.trans ((Same.new _ _).sub (by simp))
/-- The struct lies at p; its cell k holds a slice of one's own: the rows. -/
structure RowsIn (g0 g : Heap) (p k sz : Nat) (vs : List AV) (rows : List (List AV)) (v : AV) (b : Option Nat) : Prop where
  same : Same [p] g0 g
  plt : p < g0.next
  klt : k < vs.length
  at_ : g.get p = some (.cells true (vs.set k v))
  sl : SlB g b sz v rows.flatten rows.length
  new : ∀ j, b = some j → g0.next ≤ j
  len : ∀ r ∈ rows, r.length = sz
theorem RowsIn.ld {g0 g : Heap} {p k sz : Nat} {vs : List AV} {rows : List (List AV)} {v : AV} {b : Option Nat} (H : RowsIn g0 g p k sz vs rows v b) {g' : Heap} (s : Same [] g g') : ldS g' (.ptr (some (p, 0 + k))) = some v := by
  have hp : p < g.next := Nat.lt_of_lt_of_le H.plt H.same.next
  rw [Nat.zero_add, ldS_at (by rw [s.get p hp (by simp)]; exact H.at_)]
  simp [H.klt]
theorem _root_.Go.Ab.SlB.scv {g : Heap} {b : Option Nat} {sz n : Nat} {v : AV} {cs : List AV} (H : SlB g b sz v cs n) : scalar v = true := by
  rw [H.eq]; cases b <;> rfl
theorem _root_.Go.Ab.SlB.samev {g : Heap} {b : Option Nat} {sz n : Nat} {v : AV} {cs : List AV} (H : SlB g b sz v cs n) : same v v = true := by
  rw [H.eq]; cases b <;> exact same_sl _ _ _
theorem RowsIn.step {g0 g g2 : Heap} {p k sz bytes c : Nat} {vs row : List AV} {rows : List (List AV)} {v : AV} {b : Option Nat} (H : RowsIn g0 g p k sz vs rows v b) (s : Same [] g g2) (hc : g2.get c = some (.cells true row)) (h1 : g.next ≤ c)
    (hr : row.length = sz) (hs : row.all scalar = true) (h0 : 0 < sz) (hn : (rows.length + 1) * bytes ≤ 2 ^ 47) :
    ∃ v' g3 g4, appendA g2 sz bytes v (.sl (some (c, 0)) 1 (.ex 1)) = some (v', g3) ∧ stP 1 g3 (.ptr (some (p, 0 + k))) v' = some (.bot, g4) ∧ RowsIn g0 g4 p k sz vs (rows ++ [row]) v' (some g2.next) ∧ g4.next = g2.next + 1 ∧ (∀ j, j < g2.next → j ≠ p → b ≠ some j → g4.get j = g2.get j) := by
  obtain ⟨v', g3, e3, S3, s3, n3⟩ := appAt (H.sl.same s (by simp)) hc hr hs h0 hn
  have hp : p < g.next := Nat.lt_of_lt_of_le H.plt H.same.next
  have hp2 : p < g2.next := Nat.lt_of_lt_of_le hp s.next
  have hbp : b ≠ some p := fun h => by have := H.new p h; have := H.plt; omega
  have hp3 : g3.get p = some (.cells true (vs.set k v)) := by
    rw [s3.get p hp2 (by cases b <;> simp at hbp ⊢; omega), s.get p hp (by simp)]; exact H.at_
  refine ⟨v', g3, g3.put p (some (.cells true (vs.set k v'))), e3, ?_, ⟨?_, H.plt, H.klt, get_put_eq, ?_, fun j hj => ?_, ?_⟩, n3, fun j hj hjp hjb => ?_⟩
  · rw [stP_one hp3 (by simpa using H.klt) S3.scv]; simp
  · refine ⟨by simp only [Heap.next_put]; have := H.same.next; have := s.next; omega, fun j hj hn => ?_⟩
    simp at hn
    have hjg : j < g.next := Nat.lt_of_lt_of_le hj H.same.next
    rw [get_put_ne hn, s3.get j (Nat.lt_of_lt_of_le hjg s.next) (by cases hb : b with
      | none => simp
      | some i => simp; have := H.new i hb; omega), s.get j hjg (by simp), H.same.get j hj (by simpa using hn)]
  · have := S3.same (S := [p]) (Same.put g3 p (some (.cells true (vs.set k v')))) (fun i hi => by cases hi; simp; omega)
    simpa using this
  · cases hj; have := H.same.next; have := s.next; omega
  · intro r hr'; simp only [List.mem_append, List.mem_singleton] at hr'
    rcases hr' with h | rfl
    · exact H.len r h
    · exact hr
  · rw [get_put_ne hjp, s3.get j hj (by cases hb : b with
      | none => simp
      | some i => simp; rintro rfl; exact hjb hb)]
theorem RowsIn.rwc {g0 g : Heap} {p k sz : Nat} {vs : List AV} {rows : List (List AV)} {v : AV} {b : Option Nat} (H : RowsIn g0 g p k sz vs rows v b) (hl : rows.length ≤ maxLen) {g' : Heap} (hn : g.next ≤ g'.next) (hg : ∀ j, b = some j → g'.get j = g.get j) : RwC g' sz v rows := by
  refine ⟨rows.flatten, ⟨H.sl.len, ?_⟩, hl, fun i r hr => span_flat H.len i r hr⟩
  cases b with
  | none => exact .inl ⟨H.sl.eq, H.sl.nil rfl⟩
  | some j =>
    obtain ⟨h1, h2, h3⟩ := H.sl.blk j rfl
    exact .inr ⟨j, 0, _, H.sl.eq, by omega, fun _ => ⟨true, [], [], rfl, by rw [hg j rfl]; simpa using h2⟩⟩
theorem _root_.Go.Ab.SlB.capv {g : Heap} {b : Option Nat} {sz n : Nat} {v : AV} {cs : List AV} (H : SlB g b sz v cs n) : CapV sz v := by
  have e := H.eq
  cases b with
  | none => exact .inl e
  | some j => exact .inr ⟨_, _, _, e, rfl⟩
theorem RowsIn.mt {g : Heap} {p k sz : Nat} {vs : List AV} (hp : p < g.next) (hg : g.get p = some (.cells true vs)) (hk : vs[k]? = some (.sl none 0 (.ex 0))) : RowsIn g g p k sz vs [] (.sl none 0 (.ex 0)) none := by
  obtain ⟨h1, h2⟩ := List.getElem?_eq_some_iff.1 hk
  refine ⟨Same.refl _ _, hp, h1, ?_, SlB.mt, (fun j h => by cases h), by simp⟩
  rw [← h2, List.set_getElem_self]; exact hg
end Go.Ab.F

namespace Go.Ab.F
open Go Go.Ab
set_option linter.all false
set_option linter.unusedSimpArgs false
attribute [local congr] c_bind c_cl c_mk c_lp c_clC c_gQ c_gV c_condE c_thenK

theorem chk_keep {R : Type} {f : Heap → Option AV} {v : AV} {hs : List Heap} {lo hi : Nat} {cs : List Asked} {x : Option R} (hv : same v v = true) (hh : ∀ (i : Nat) g, hs[i]? = some g → f g = some v) (hl : hi < hs.length) : chk hs ((f, v, lo, hi) :: cs) x = chk hs cs x := by
  rw [chk_cons, if_pos]
  rw [allFrom_eq, List.all_eq_true]
  intro d hd
  rw [List.mem_range] at hd
  obtain ⟨g, hg⟩ : ∃ g, hs[lo + d]? = some g := ⟨_, List.getElem?_eq_getElem (by omega)⟩
  simp only [hg, hh _ _ hg, hv]
theorem RdW.samev {h : Heap} {sz n : Nat} {v : AV} {cs : List AV} (H : RdW h sz v cs n) : same v v = true := by
  rcases H.eq with ⟨rfl, _⟩ | ⟨b, o, c, rfl, _⟩ <;> exact same_sl _ _ _
theorem build7 (a b c d : Int) (p q : Option (Nat × Nat)) (m n : Nat) (x y : Cap) : bldS [(0, 1), (1, 1), (2, 1), (3, 1), (4, 1), (5, 1), (6, 1)] [(AV.int .i64 0), (AV.int .i64 0), (AV.int .i64 0), (AV.int .i64 0), (AV.sl none 0 (.ex 0)), (AV.sl none 0 (.ex 0)), (AV.sl none 0 (.ex 0))] [(0, AV.int .i64 a), (1, AV.int .i64 b), (2, AV.int .i64 c), (3, AV.int .i64 d), (4, .sl p m x), (6, .sl q n y)] = some (.agg [.int .i64 a, .int .i64 b, .int .i64 c, .int .i64 d, .sl p m x, .sl none 0 (.ex 0), .sl q n y]) := rfl
theorem hpN_get (h : Heap) (n j : Nat) : (hpN h n).get j = h.get j := rfl
theorem hpN_next (h : Heap) (n : Nat) : (hpN h n).next = h.next + n := rfl
theorem funcL_ok {h g0 : Heap} {t p : Nat} {vs : List AV} {cv : AV} {f : Fn} (a : RwC h 5 cv (f.code.map Ins.row)) (hc : f.code.length ≤ 200) (s : Same [] h g0) (hp : h.next ≤ p) (hl : ∀ g', Same [] g0 g' ∨ Same [p] g0 g' → ldS g' (.ptr (some (t, 0 + 5))) = some cv)
    (hm : RowsIn g0 g0 p 5 5 vs [] (.sl none 0 (.ex 0)) none) :
    Ok (k_ref17_Func_L0 (.ptr (some (t, 0))) (.ptr (some (p, 0))) (.int .i64 0) g0) fun x => x.1 = .exit 0 ∧ ∃ v b, RowsIn g0 x.2.2 p 5 5 vs (f.code.map Ins.row) v b := by
  refine ok_loop (fun n us h' => ∃ i : Nat, us = [.int .i64 i] ∧ n + i = f.code.length ∧ ∃ v b, RowsIn g0 h' p 5 5 vs ((f.code.take i).map Ins.row) v b) ?_ (n := f.code.length) (by omega) ⟨0, rfl, rfl, _, _, hm⟩
  rintro n us h' ⟨i, rfl, hn, v, b, H⟩
  rw [gD0]
  have sh : Same [] h h' := s.old H.same (fun j hj => .inr (by simp at hj; omega))
  have ln : lnL cv = some (.int .i64 f.code.length) := by have := a.lnL; rwa [List.length_map] at this
  by_cases hi : i < f.code.length
  · obtain ⟨x, hx⟩ : ∃ x, f.code[i]? = some x := ⟨_, List.getElem?_eq_getElem hi⟩
    have hi' : (i : Int) < f.code.length := by omega
    have s1 := hpN_same h' 1
    have hp1 : p < h'.next := Nat.lt_of_lt_of_le H.plt H.same.next
    have a1 := a.mono (sh.trans s1).next (fun j hj => (sh.trans s1).get j hj (by simp))
    obtain ⟨bb, o, hb, hix, hla, _⟩ := a1.at (i := i) (r := x.row) (by simp [hx])
    have l1 := hl h' (.inr H.same)
    have l2 := hl (hpN h' 1) (.inr (H.same.trans (s1.sub (by simp))))
    have l3 := H.ld s1
    refine Ok.eq ?_ (by simp -implicitDefEqProofs only [k_ref17_Func_b0, faP_ptr, Option.bind_some, l1, ln, bin_lss, hi', decide_true, condE_true, rdC_some (f := fun k => ldS k (.ptr (some (p, 0 + 5)))) (h := hpN h' 1) l3, clC_some, l2, hix, hla]; rfl)
    refine ok_cl (instr_ok x (hpN h' 1)) ?_
    rintro _ g1 ⟨s2, rfl⟩
    simp only at s2
    have hn1 : h'.next + 1 ≤ g1.next := s2.next
    have eb : bsP 5 [(AV.int .i64 0), (AV.int .i64 0), (AV.int .i64 0), (AV.int .i64 0), (AV.int .i64 0)] 1 [(0, AV.agg x.row)] = some (.cells true x.row, fun i => .sl (some (i, 0)) 1 (.ex 1)) := bsP_one rfl rfl (Ins.sc x)
    have s3 : Same [] h' (g1.put (h'.next + 0) (some (.cells true x.row))) := (s1.trans s2).old (Same.put _ _ _) (fun j hj => .inr (by simp at hj; omega))
    obtain ⟨v', g3, g4, e3, e4, H4, n4, _⟩ := H.step (bytes := 40) s3 get_put_eq (by omega) rfl (Ins.sc x) (by omega) (by simp; omega)
    have l4 := H.ld (s1.trans s2)
    refine (Ok.of (r := (.normal, [.int .i64 ((i + 1 : Nat) : Int)], g4)) (.inl ⟨rfl, n - 1, by omega, i + 1, rfl, by omega, v', some g1.next, ?_⟩)).eq (by
      simp -implicitDefEqProofs only [eb, mkAt_some, cl_some, e3, faP_ptr, Option.bind_some, e4, bin_add, suc64 i (by omega)]
      exact chk_two H.sl.samev l3 l4)
    have e : (f.code.take (i + 1)).map Ins.row = (f.code.take i).map Ins.row ++ [x.row] := by
      rw [List.take_succ, hx]; simp
    simp only [e]
    exact H4
  · have hi' : ¬ (i : Int) < f.code.length := by omega
    have l1 := hl h' (.inr H.same)
    refine (Ok.of (r := (.exit 0, [.int .i64 (i : Int)], h')) (.inr ⟨by simp, rfl, v, b, ?_⟩)).eq (by
      simp -implicitDefEqProofs only [k_ref17_Func_b0, faP_ptr, Option.bind_some, l1, ln, bin_lss, hi', decide_false, condE_false])
    rw [List.take_of_length_le (by omega)] at H
    exact H
theorem func_ok {h : Heap} {r : List AV} {f : Fn} (F : FnRd h r f) (hk : f.kinds.length ≤ 100) (hc : f.code.length ≤ 200) (hm : f.maps.length ≤ 300) :
    Ok (k_ref17_Func (.agg r) h) fun x => Same [] h x.2 ∧ ∃ r', x.1 = .agg r' ∧ r'.length = 7 ∧ Keeps h.next x.2 (fun k => FnRd k r' f) := by
  have hbi := bx_agg F.sc
  obtain ⟨kv, cv, mv, e, a1, a2, a3, w1, w2, w3, w4, w5, w6, w7, w8, w9, w10, w11, w12⟩ := F
  have s0 : Same [] h (h.new (.cells true r)) := Same.new _ _
  have gn : (h.new (.cells true r)).get h.next = some (.cells true r) := get_new_eq
  have n0 : (h.new (.cells true r)).next = h.next + 1 := rfl
  generalize hg0 : h.new (.cells true r) = g0 at *
  generalize hz : [AV.int .i64 0, AV.int .i64 0, AV.int .i64 0, AV.int .i64 0, AV.sl none 0 (.ex 0), AV.sl none 0 (.ex 0), AV.sl none 0 (.ex 0)] = z
  have s1 : Same [] g0 (g0.new (.cells true z)) := Same.new _ _
  have gn1 : (g0.new (.cells true z)).get g0.next = some (.cells true z) := get_new_eq
  have n1 : (g0.new (.cells true z)).next = h.next + 2 := by rw [Heap.next_new, n0]
  generalize hg1 : g0.new (.cells true z) = g1 at *
  have lb : ∀ g', Same [] g1 g' → ∀ (k : Nat) x, r[k]? = some x → ldS g' (.ptr (some (h.next, 0 + k))) = some x := fun g' s k x hx => by
    rw [ldS_at (w := true) (vs := r) (by rw [s.get _ (by omega) (by simp), s1.get _ (by omega) (by simp)]; exact gn), Nat.zero_add]; exact hx
  have s01 := s0.trans s1
  have sp := hpN_same g1 3
  have e0 : bsP 1 [(AV.bool false)] 0 [] = some (.cells true [], fun i => .sl (some (i, 0)) 0 (.ex 0)) := rfl
  have e1 : bsP 1 [(AV.int .u64 0)] 0 [] = some (.cells true [], fun i => .sl (some (i, 0)) 0 (.ex 0)) := rfl
  have s5 : Same [] g1 ((hpN g1 3).put (g1.next + 0) (some (.cells true []))) := sp.old (Same.put _ _ _) (fun j hj => .inr (by simp at hj; omega))
  have n5 : ((hpN g1 3).put (g1.next + 0) (some (.cells true []))).next = g1.next + 3 := rfl
  have g5 : ((hpN g1 3).put (g1.next + 0) (some (.cells true []))).get (g1.next + 0) = some (.cells true []) := get_put_eq
  generalize hg5 : (hpN g1 3).put (g1.next + 0) (some (.cells true [])) = h5 at *
  have R5 := a1.mono (s01.trans s5).next (fun j hj => (s01.trans s5).get j hj (by simp))
  obtain ⟨kv', h6, ea, s6, o6, n6, K6, C6, pk, mk, ck, rfl⟩ := copy_all (h0 := g1) (bytes := 1) g5 (by omega) (by omega) s5 R5 (by simp [scalar]) (by omega) (by omega)
  have s8 : Same [] g1 (h6.put (g1.next + 1) (some (.cells true []))) := s6.old (Same.put _ _ _) (fun j hj => .inr (by simp at hj; omega))
  have n8 : (h6.put (g1.next + 1) (some (.cells true []))).next = h6.next := rfl
  have g8 : (h6.put (g1.next + 1) (some (.cells true []))).get (g1.next + 1) = some (.cells true []) := get_put_eq
  have o8 : ∀ j, g1.next + 3 ≤ j → (h6.put (g1.next + 1) (some (.cells true []))).get j = h6.get j := fun j hj => get_put_ne (by omega)
  generalize hg8 : h6.put (g1.next + 1) (some (.cells true [])) = h8 at *
  have R8 := a3.mono (s01.trans s8).next (fun j hj => (s01.trans s8).get j hj (by simp))
  obtain ⟨mv', h9, eb, s9, o9, n9, K9, C9, pm, mm, cm, rfl⟩ := copy_all (h0 := g1) (bytes := 8) g8 (by omega) (by omega) s8 R8 (by simp [scalar]) (by omega) (by omega)
  generalize hvs : [AV.int .i64 f.pa, AV.int .i64 f.ca, AV.int .i64 f.sl, AV.int .i64 f.re, AV.sl pk mk ck, AV.sl none 0 (.ex 0), AV.sl pm mm cm] = vs at *
  have hvl : vs.length = 7 := by rw [← hvs]; rfl
  have hzl : z.length = 7 := by rw [← hz]; rfl
  have hvsc : vs.all scalar = true := by rw [← hvs]; rfl
  have est := stP_all (h := h9.put (g1.next + 2) (some (.cells true z))) (b := g1.next + 2) (n := 7) get_put_eq hzl hvl hvsc
  have s10 : Same [] g1 (h9.put (g1.next + 2) (some (.cells true z))) := s9.old (Same.put _ _ _) (fun j hj => .inr (by simp at hj; omega))
  have s11 : Same [] g1 ((h9.put (g1.next + 2) (some (.cells true z))).put (g1.next + 2) (some (.cells true vs))) := s10.old (Same.put _ _ _) (fun j hj => .inr (by simp at hj; omega))
  have n11 : ((h9.put (g1.next + 2) (some (.cells true z))).put (g1.next + 2) (some (.cells true vs))).next = h9.next := rfl
  have g11 : ((h9.put (g1.next + 2) (some (.cells true z))).put (g1.next + 2) (some (.cells true vs))).get (g1.next + 2) = some (.cells true vs) := get_put_eq
  have o11 : ∀ j, g1.next + 3 ≤ j → ((h9.put (g1.next + 2) (some (.cells true z))).put (g1.next + 2) (some (.cells true vs))).get j = h9.get j := fun j hj => by rw [get_put_ne (by omega), get_put_ne (by omega)]
  generalize hg11 : (h9.put (g1.next + 2) (some (.cells true z))).put (g1.next + 2) (some (.cells true vs)) = h11 at *
  have rk : ∀ (k : Nat) x, r[k]? = some x → ∀ (i : Nat) g, [hpN g1 3, h6, h9, h11][i]? = some g → ldS g (.ptr (some (h.next, 0 + k))) = some x := fun k x hx i g hg => by
    rcases i with _ | _ | _ | _ | i <;> simp at hg <;> subst hg
    · exact lb _ sp k x hx
    · exact lb _ s6 k x hx
    · exact lb _ s9 k x hx
    · exact lb _ s11 k x hx
  have ebl : bldS [(0, 1), (1, 1), (2, 1), (3, 1), (4, 1), (5, 1), (6, 1)] z [(0, AV.int .i64 f.pa), (1, AV.int .i64 f.ca), (2, AV.int .i64 f.sl), (3, AV.int .i64 f.re), (4, .sl pk mk ck), (6, .sl pm mm cm)] = some (.agg vs) := by rw [← hz, ← hvs]; rfl
  have l0 := lb _ sp 0 _ (by rw [e]; rfl)
  have l1 := lb _ sp 1 _ (by rw [e]; rfl)
  have l2 := lb _ sp 2 _ (by rw [e]; rfl)
  have l3 := lb _ sp 3 _ (by rw [e]; rfl)
  have l4 := lb _ sp 4 _ (by rw [e]; rfl)
  have l6 := lb _ s6 6 _ (by rw [e]; rfl)
  refine Ok.eq ?_ (by
    simp -implicitDefEqProofs only [k_ref17_Func, hbi, mk_some, hg0, hz, hg1, faP_ptr, Option.bind_some, rdC_some (f := fun k => ldS k (.ptr (some (h.next, 0 + 0)))) (h := hpN g1 3) l0, rdC_some (f := fun k => ldS k (.ptr (some (h.next, 0 + 1)))) (h := hpN g1 3) l1, rdC_some (f := fun k => ldS k (.ptr (some (h.next, 0 + 2)))) (h := hpN g1 3) l2, rdC_some (f := fun k => ldS k (.ptr (some (h.next, 0 + 3)))) (h := hpN g1 3) l3, clC_some, l4, e0, mkAt_some, hg5, cl_some, ea, rdC_some (f := fun k => ldS k (.ptr (some (h.next, 0 + 6)))) (h := h6) l6, e1, hg8, eb, ebl, est, hg11]
    rw [chk_keep a3.samev (rk 6 _ (by rw [e]; rfl)) (by simp), chk_keep (same_int _ _) (rk 3 _ (by rw [e]; rfl)) (by simp), chk_keep (same_int _ _) (rk 2 _ (by rw [e]; rfl)) (by simp), chk_keep (same_int _ _) (rk 1 _ (by rw [e]; rfl)) (by simp), chk_keep (same_int _ _) (rk 0 _ (by rw [e]; rfl)) (by simp), chk_nil])
  have hRI : RowsIn h11 h11 (g1.next + 2) 5 5 vs [] (.sl none 0 (.ex 0)) none := RowsIn.mt (by omega) g11 (by rw [← hvs]; rfl)
  have sh11 := s01.trans s11
  refine ok_lp (funcL_ok (h := h) a2 hc sh11 (by omega) (fun g' hg' => ?_) hRI) ?_
  · have := rk 5 cv (by rw [e]; rfl) 3 h11 rfl
    rcases hg' with s | s
    · rw [ldS_at (w := true) (vs := r) (by rw [s.get _ (by have := s11.next; omega) (by simp), s11.get _ (by omega) (by simp), s1.get _ (by omega) (by simp)]; exact gn), e]; rfl
    · rw [ldS_at (w := true) (vs := r) (by rw [s.get _ (by have := s11.next; omega) (by simp; omega), s11.get _ (by omega) (by simp), s1.get _ (by omega) (by simp)]; exact gn), e]; rfl
  rintro ex us h19 ⟨rfl, v, b, H⟩
  simp only at H
  have hn19 := H.same.next
  have hn11 := s11.next
  have hla : ldA 7 h19 (.ptr (some (g1.next + 2, 0))) = some (.agg (vs.set 5 v)) := by
    rw [ldA_at H.at_, span_some _ _ _ (by simp [hvl]), List.drop_zero, List.take_of_length_le (by simp [hvl])]; rfl
  have hset : vs.set 5 v = [AV.int .i64 f.pa, AV.int .i64 f.ca, AV.int .i64 f.sl, AV.int .i64 f.re, AV.sl pk mk ck, v, AV.sl pm mm cm] := by rw [← hvs]; rfl
  have g19 : h19.get g0.next = some (.cells true z) := by
    rw [H.same.get _ (by omega) (by simp; omega), s11.get _ (by omega) (by simp)]; exact gn1
  have est2 := stP_all (h := h19) (b := g0.next) (n := 7) (cs := vs.set 5 v) g19 hzl (by simp [hvl]) (by rw [hset]; simp only [List.all_cons, List.all_nil, H.sl.scv]; rfl)
  have s21 : Same [] h (h19.put g0.next (some (.cells true (vs.set 5 v)))) := (sh11.old H.same (fun j hj => .inr (by simp at hj; omega))).old (Same.put _ _ _) (fun j hj => .inr (by simp at hj; omega))
  have la2 : ldA 7 (h19.put g0.next (some (.cells true (vs.set 5 v)))) (.ptr (some (g0.next, 0))) = some (.agg (vs.set 5 v)) := by
    rw [ldA_at get_put_eq, span_some _ _ _ (by simp [hvl]), List.drop_zero, List.take_of_length_le (by simp [hvl])]; rfl
  refine ok_val (v := .agg (vs.set 5 v)) (g := h19.put g0.next (some (.cells true (vs.set 5 v)))) (by
    simp -implicitDefEqProofs only [if_true, thenK, hla, Option.bind_some, est2, cl_some, la2]) ⟨s21, vs.set 5 v, rfl, by simp [hvl], fun g' n' e' => ?_⟩
  simp only [Heap.next_put] at n' e'
  have away : ∀ j, g1.next + 3 ≤ j → j < h19.next → g'.get j = h19.get j := fun j h1 h2 => by
    rw [e' j (by omega) h2, get_put_ne (by omega)]
  have k11 : ∀ j, g1.next + 3 ≤ j → j < h11.next → g'.get j = h11.get j := fun j h1 h2 => by
    rw [away j h1 (by omega), H.same.get j h2 (by simp; omega)]
  have R4 : RdW g' 1 (.sl pk mk ck) (f.kinds.map AV.bool) f.kinds.length := K6 g' (by omega) fun j h1 h2 => by
    rw [k11 j (by omega) (by omega), o11 j (by omega), o9 j (by omega), o8 j (by omega)]
  have R6 : RdW g' 1 (.sl pm mm cm) (f.maps.map (AV.int .u64)) f.maps.length := K9 g' (by omega) fun j h1 h2 => by
    rw [k11 j (by omega) (by omega), o11 j (by omega)]
  have R5' : RwC g' 5 v (f.code.map Ins.row) := H.rwc (by simpa using w6) n' fun j hj => away j (by have := H.new j hj; omega) (H.sl.blk j hj).1
  exact ⟨_, _, _, hset, R4, R5', R6, w1, w2, w3, w4, w5, w6, w7, C6, H.sl.capv, C9, w11, w12⟩
end Go.Ab.F

namespace Go.Ab.F
open Go Go.Ab
set_option linter.all false
set_option linter.unusedSimpArgs false
attribute [local congr] c_bind c_cl c_mk c_lp c_clC c_gQ c_gV c_condE c_thenK

theorem build3 (a b c : Int) : bldS [(0, 1), (1, 1), (2, 1)] [(AV.int .i64 0), (AV.int .i64 0), (AV.int .u64 0)] [(0, AV.int .i64 a), (1, AV.int .i64 b), (2, AV.int .u64 c)] = some (.agg [.int .i64 a, .int .i64 b, .int .u64 c]) := rfl
theorem build4 (a b c d : Int) : bldS [(0, 1), (1, 1), (2, 1), (3, 1)] [(AV.int .i64 0), (AV.int .i64 0), (AV.int .i64 0), (AV.int .i64 0)] [(0, AV.int .i64 a), (1, AV.int .i64 b), (2, AV.int .i64 c), (3, AV.int .i64 d)] = some (.agg [.int .i64 a, .int .i64 b, .int .i64 c, .int .i64 d]) := rfl
theorem modL0_ok {h g0 : Heap} {t p : Nat} {vs : List AV} {sv : AV} {l : List (List AV)} (a : RwC h 3 sv l) (hw : ∀ r ∈ l, ∃ a b c, r = [.int .i64 a, .int .i64 b, .int .u64 c]) (hc : l.length ≤ 40) (s : Same [] h g0) (hp : h.next ≤ p) (hl : ∀ g', Same [] g0 g' ∨ Same [p] g0 g' → ldS g' (.ptr (some (t, 0 + 0))) = some sv)
    (hm : RowsIn g0 g0 p 0 3 vs [] (.sl none 0 (.ex 0)) none) :
    Ok (k_ref17_Module_L0 (.ptr (some (t, 0))) (.ptr (some (p, 0))) (.int .i64 0) g0) fun x => x.1 = .exit 0 ∧ ∃ v b, RowsIn g0 x.2.2 p 0 3 vs l v b := by
  refine ok_loop (fun n us h' => ∃ i : Nat, us = [.int .i64 i] ∧ n + i = l.length ∧ ∃ v b, RowsIn g0 h' p 0 3 vs (l.take i) v b) ?_ (n := l.length) (by omega) ⟨0, rfl, rfl, _, _, hm⟩
  rintro n us h' ⟨i, rfl, hn, v, b, H⟩
  rw [gD0]
  have sh : Same [] h h' := s.old H.same (fun j hj => .inr (by simp at hj; omega))
  have ln := a.lnL
  have l1 := hl h' (.inr H.same)
  by_cases hi : i < l.length
  · obtain ⟨x, hx⟩ : ∃ x, l[i]? = some x := ⟨_, List.getElem?_eq_getElem hi⟩
    obtain ⟨ra, rb, rc, rfl⟩ := hw x (List.mem_of_getElem? hx)
    have hi' : (i : Int) < l.length := by omega
    have s1 := hpN_same h' 1
    have a1 := a.mono (sh.trans s1).next (fun j hj => (sh.trans s1).get j hj (by simp))
    obtain ⟨bb, o, hb, hix, hla, hls⟩ := a1.at hx
    have f0 := hls 0 _ rfl
    have f1 := hls 1 _ rfl
    have f2 := hls 2 _ rfl
    have l2 := hl (hpN h' 1) (.inr (H.same.trans (s1.sub (by simp))))
    have l3 := H.ld s1
    have eb : bsP 3 [(AV.int .i64 0), (AV.int .i64 0), (AV.int .u64 0)] 1 [(0, AV.agg [.int .i64 ra, .int .i64 rb, .int .u64 rc])] = some (.cells true [.int .i64 ra, .int .i64 rb, .int .u64 rc], fun i => .sl (some (i, 0)) 1 (.ex 1)) := bsP_one rfl rfl rfl
    have s3 : Same [] h' ((hpN h' 1).put (h'.next + 0) (some (.cells true [.int .i64 ra, .int .i64 rb, .int .u64 rc]))) := s1.old (Same.put _ _ _) (fun j hj => .inr (by simp at hj; omega))
    obtain ⟨v', g3, g4, e3, e4, H4, n4, _⟩ := H.step (bytes := 24) s3 get_put_eq (by omega) rfl rfl (by omega) (by simp; omega)
    refine (Ok.of (r := (.normal, [.int .i64 ((i + 1 : Nat) : Int)], g4)) (.inl ⟨rfl, n - 1, by omega, i + 1, rfl, by omega, v', some (h'.next + 1), ?_⟩)).eq (by
      simp -implicitDefEqProofs only [k_ref17_Module_b0, faP_ptr, Option.bind_some, l1, l2, l3, ln, bin_lss, hi', decide_true, condE_true, hix, f0, f1, f2, build3, eb, mkAt_some, cl_some, e3, e4, chk_nil, bin_add, suc64 i (by omega)])
    have e : l.take (i + 1) = l.take i ++ [[.int .i64 ra, .int .i64 rb, .int .u64 rc]] := by
      rw [List.take_succ, hx]; rfl
    simp only [e]
    exact H4
  · have hi' : ¬ (i : Int) < l.length := by omega
    refine (Ok.of (r := (.exit 0, [.int .i64 (i : Int)], h')) (.inr ⟨by simp, rfl, v, b, ?_⟩)).eq (by
      simp -implicitDefEqProofs only [k_ref17_Module_b0, faP_ptr, Option.bind_some, l1, ln, bin_lss, hi', decide_false, condE_false])
    rw [List.take_of_length_le (by omega)] at H
    exact H
theorem modL1_ok {h g0 : Heap} {t p : Nat} {vs : List AV} {cv : AV} {l : List Cas} (a : RwC h 4 cv (l.map Cas.row)) (hc : l.length ≤ 60) (s : Same [] h g0) (hp : h.next ≤ p) (hl : ∀ g', Same [] g0 g' ∨ Same [p] g0 g' → ldS g' (.ptr (some (t, 0 + 3))) = some cv)
    (hm : RowsIn g0 g0 p 3 4 vs [] (.sl none 0 (.ex 0)) none) :
    Ok (k_ref17_Module_L1 (.ptr (some (t, 0))) (.ptr (some (p, 0))) (.int .i64 0) g0) fun x => x.1 = .exit 2 ∧ ∃ v b, RowsIn g0 x.2.2 p 3 4 vs (l.map Cas.row) v b := by
  refine ok_loop (fun n us h' => ∃ i : Nat, us = [.int .i64 i] ∧ n + i = l.length ∧ ∃ v b, RowsIn g0 h' p 3 4 vs ((l.take i).map Cas.row) v b) ?_ (n := l.length) (by omega) ⟨0, rfl, rfl, _, _, hm⟩
  rintro n us h' ⟨i, rfl, hn, v, b, H⟩
  rw [gD0]
  have sh : Same [] h h' := s.old H.same (fun j hj => .inr (by simp at hj; omega))
  have ln : lnL cv = some (.int .i64 l.length) := by have := a.lnL; rwa [List.length_map] at this
  have l1 := hl h' (.inr H.same)
  by_cases hi : i < l.length
  · obtain ⟨x, hx⟩ : ∃ x, l[i]? = some x := ⟨_, List.getElem?_eq_getElem hi⟩
    have hi' : (i : Int) < l.length := by omega
    have a1 := a.mono sh.next (fun j hj => sh.get j hj (by simp))
    obtain ⟨bb, o, hb, hix, hla, hls⟩ := a1.at (i := i) (r := x.row) (by simp [hx])
    refine Ok.eq ?_ (by simp -implicitDefEqProofs only [k_ref17_Module_b1, faP_ptr, Option.bind_some, l1, ln, bin_lss, hi', decide_true, condE_true, hix, hla]; rfl)
    refine ok_tmp (cs := x.row) (n := 4) (by rfl) (by rfl) (Cas.sc x) fun g1 s1 n1 gg1 => ?_
    have l3 := H.ld s1
    have f0 : ldS g1 (.ptr (some (h'.next, 0 + 0))) = some (.int .i64 x.kind) := by rw [ldS_at gg1]; rfl
    have f1 : ldS g1 (.ptr (some (h'.next, 0 + 1))) = some (.int .i64 x.chan) := by rw [ldS_at gg1]; rfl
    have f2 : ldS g1 (.ptr (some (h'.next, 0 + 2))) = some (.int .i64 x.val) := by rw [ldS_at gg1]; rfl
    have f3 : ldS g1 (.ptr (some (h'.next, 0 + 3))) = some (.int .i64 x.to) := by rw [ldS_at gg1]; rfl
    have eb : bsP 4 [(AV.int .i64 0), (AV.int .i64 0), (AV.int .i64 0), (AV.int .i64 0)] 1 [(0, AV.agg [.int .i64 x.kind, .int .i64 x.chan, .int .i64 x.val, .int .i64 x.to])] = some (.cells true x.row, fun i => .sl (some (i, 0)) 1 (.ex 1)) := bsP_one rfl rfl rfl
    obtain ⟨v', g3, g4, e3, e4, H4, n4, _⟩ := H.step (bytes := 32) (s1.trans (Same.new g1 (.cells true x.row))) get_new_eq (by have := s1.next; omega) rfl (Cas.sc x) (by omega) (by simp; omega)
    refine (Ok.of (r := (.normal, [.int .i64 ((i + 1 : Nat) : Int)], g4)) (.inl ⟨rfl, n - 1, by omega, i + 1, rfl, by omega, v', some (g1.next + 1), ?_⟩)).eq (by
      simp -implicitDefEqProofs only [faP_ptr, Option.bind_some, l3, f0, f1, f2, f3, build4, eb, mk_some, cl_some, e3, e4, bin_add, suc64 i (by omega)])
    have e : (l.take (i + 1)).map Cas.row = (l.take i).map Cas.row ++ [x.row] := by
      rw [List.take_succ, hx]; simp
    simp only [e]
    exact H4
  · have hi' : ¬ (i : Int) < l.length := by omega
    refine (Ok.of (r := (.exit 2, [.int .i64 (i : Int)], h')) (.inr ⟨by simp, rfl, v, b, ?_⟩)).eq (by
      simp -implicitDefEqProofs only [k_ref17_Module_b1, faP_ptr, Option.bind_some, l1, ln, bin_lss, hi', decide_false, condE_false])
    rw [List.take_of_length_le (by omega)] at H
    exact H
/-- Each row is a function's, as long as the blocks since g0 are as they were (but for the list's own). -/
def FnsK (g0 g : Heap) (b : Option Nat) (rows : List (List AV)) (fs : List Fn) : Prop :=
  ∀ (j : Nat) r f, rows[j]? = some r → fs[j]? = some f → ∀ g', g.next ≤ g'.next → (∀ k, g0.next ≤ k → k < g.next → b ≠ some k → g'.get k = g.get k) → FnRd g' r f
theorem modL2_ok {h g0 : Heap} {t p : Nat} {vs : List AV} {fv : AV} {l : List Fn} (a : FnsRd h fv l) (hc : l.length ≤ 20) (hb : ∀ (i : Nat) f, l[i]? = some f → f.code.length ≤ 200 ∧ f.maps.length ≤ 300 ∧ f.kinds.length ≤ 100) (s : Same [] h g0) (hp : h.next ≤ p) (hl : ∀ g', Same [] g0 g' ∨ Same [p] g0 g' → ldS g' (.ptr (some (t, 0 + 4))) = some fv)
    (hm : RowsIn g0 g0 p 4 7 vs [] (.sl none 0 (.ex 0)) none) :
    Ok (k_ref17_Module_L2 (.ptr (some (t, 0))) (.ptr (some (p, 0))) (.int .i64 0) g0) fun x => x.1 = .exit 4 ∧ ∃ v b rows, RowsIn g0 x.2.2 p 4 7 vs rows v b ∧ rows.length = l.length ∧ FnsK g0 x.2.2 b rows l := by
  obtain ⟨srows, a, hlen, hrow⟩ := a
  refine ok_loop (fun n us h' => ∃ i : Nat, us = [.int .i64 i] ∧ n + i = l.length ∧ ∃ v b rows, RowsIn g0 h' p 4 7 vs rows v b ∧ rows.length = i ∧ FnsK g0 h' b rows l) ?_ (n := l.length) (by omega) ⟨0, rfl, rfl, _, _, _, hm, rfl, fun j r f hr => by simp at hr⟩
  rintro n us h' ⟨i, rfl, hn, v, b, rows, H, hri, HK⟩
  rw [gD0]
  have sh : Same [] h h' := s.old H.same (fun j hj => .inr (by simp at hj; omega))
  have ln : lnL fv = some (.int .i64 l.length) := by rw [a.lnL, hlen]
  have l1 := hl h' (.inr H.same)
  by_cases hi : i < l.length
  · obtain ⟨f, hf⟩ : ∃ f, l[i]? = some f := ⟨_, List.getElem?_eq_getElem hi⟩
    obtain ⟨r, hr⟩ : ∃ r, srows[i]? = some r := ⟨_, List.getElem?_eq_getElem (by omega)⟩
    obtain ⟨hb1, hb2, hb3⟩ := hb i f hf
    have hi' : (i : Int) < l.length := by omega
    have s1 := hpN_same h' 1
    have mo := fun j hj => (sh.trans s1).get j hj (by simp)
    have a1 := a.mono (sh.trans s1).next mo
    have F1 := (hrow i r f hr hf).mono (sh.trans s1).next mo
    obtain ⟨bb, o, hbb, hix, hla, _⟩ := a1.at hr
    have l2 := hl (hpN h' 1) (.inr (H.same.trans (s1.sub (by simp))))
    have l3 := H.ld s1
    refine Ok.eq ?_ (by simp -implicitDefEqProofs only [k_ref17_Module_b2, faP_ptr, Option.bind_some, l1, ln, bin_lss, hi', decide_true, condE_true, rdC_some (f := fun k => ldS k (.ptr (some (p, 0 + 4)))) (h := hpN h' 1) l3, clC_some, l2, hix, hla]; rfl)
    refine ok_cl (func_ok F1 hb3 hb1 hb2) ?_
    rintro _ g1 ⟨s2, r', rfl, hr7, K⟩
    simp only at s2 K
    have hn1 : h'.next + 1 ≤ g1.next := s2.next
    have hsc := K.now.sc
    have eb : bsP 7 [(AV.int .i64 0), (AV.int .i64 0), (AV.int .i64 0), (AV.int .i64 0), (AV.sl none 0 (.ex 0)), (AV.sl none 0 (.ex 0)), (AV.sl none 0 (.ex 0))] 1 [(0, AV.agg r')] = some (.cells true r', fun i => .sl (some (i, 0)) 1 (.ex 1)) := bsP_one rfl hr7 hsc
    have s3 : Same [] h' (g1.put (h'.next + 0) (some (.cells true r'))) := (s1.trans s2).old (Same.put _ _ _) (fun j hj => .inr (by simp at hj; omega))
    obtain ⟨v', g3, g4, e3, e4, H4, n4, o4⟩ := H.step (bytes := 104) s3 get_put_eq (by omega) hr7 hsc (by omega) (by omega)
    have l4 := H.ld (s1.trans s2)
    refine (Ok.of (r := (.normal, [.int .i64 ((i + 1 : Nat) : Int)], g4)) (.inl ⟨rfl, n - 1, by omega, i + 1, rfl, by omega, v', some g1.next, rows ++ [r'], H4, by simp [hri], ?_⟩)).eq (by
      simp -implicitDefEqProofs only [eb, mkAt_some, cl_some, e3, faP_ptr, Option.bind_some, e4, bin_add, suc64 i (by omega)]
      exact chk_two H.sl.samev l3 l4)
    intro j q f' hq hf' g' ng eg
    simp only [Heap.next_put] at n4
    simp only at ng eg
    have hpg := H.plt
    have hg0 := H.same.next
    rcases Nat.lt_trichotomy j i with hj | rfl | hj
    · rw [List.getElem?_append_left (by omega)] at hq
      refine HK j q f' hq hf' g' (by omega) fun k h1 h2 h3 => ?_
      rw [eg k h1 (by omega) (by simp; omega), o4 k (by simp only [Heap.next_put]; omega) (by omega) h3, s3.get k h2 (by simp)]
    · rw [List.getElem?_append_right (by omega), hri, Nat.sub_self] at hq
      simp at hq; subst hq
      rw [hf] at hf'; cases hf'
      refine K g' (by omega) fun k h1 h2 => ?_
      rw [hpN_next] at h1
      have hbk : b ≠ some k := fun e => by have := (H.sl.blk k e).1; omega
      rw [eg k (by omega) (by omega) (by simp; omega), o4 k (by simp only [Heap.next_put]; omega) (by omega) hbk, get_put_ne (by omega)]
    · rw [List.getElem?_eq_none (by simp; omega)] at hq; cases hq
  · have hi' : ¬ (i : Int) < l.length := by omega
    exact (Ok.of (r := (.exit 4, [.int .i64 (i : Int)], h')) (.inr ⟨by simp, rfl, v, b, rows, H, by omega, HK⟩)).eq (by
      simp -implicitDefEqProofs only [k_ref17_Module_b2, faP_ptr, Option.bind_some, l1, ln, bin_lss, hi', decide_false, condE_false])
end Go.Ab.F

namespace Go.Ab.F
open Go Go.Ab
set_option linter.all false
set_option linter.unusedSimpArgs false
attribute [local congr] c_bind c_cl c_mk c_lp c_clC c_gQ c_gV c_condE c_thenK

theorem module_ok {h : Heap} {w : AV} {m : Md} (M : MdRd h w m) (S : Small m) : Ok (k_ref17_Module w h) fun x => Same [] h x.2 ∧ MdRd x.2 x.1 m := by
  obtain ⟨q1, q2, q3, q4, q5, q6⟩ := S
  obtain ⟨sv, gv, kv, cv, fv, rfl, m1, m2, m3, m4, m5, w1, w2, w3, w4, w5, w6, w7, w8, w9, w10⟩ := M
  have hsc : [sv, gv, kv, cv, fv, AV.int .i64 m.main].all scalar = true := by
    simp only [List.all_cons, List.all_nil, m1.sc, m2.sc, m3.sc, m4.sc, m5.sc, Bool.and_true, Bool.and_self]; rfl
  generalize e : [sv, gv, kv, cv, fv, AV.int .i64 m.main] = r at *
  have hbi := bx_agg hsc
  have s0 : Same [] h (h.new (.cells true r)) := Same.new _ _
  have gn : (h.new (.cells true r)).get h.next = some (.cells true r) := get_new_eq
  have n0 : (h.new (.cells true r)).next = h.next + 1 := rfl
  generalize hg0 : h.new (.cells true r) = g0 at *
  generalize hz : [AV.sl none 0 (.ex 0), AV.sl none 0 (.ex 0), AV.sl none 0 (.ex 0), AV.sl none 0 (.ex 0), AV.sl none 0 (.ex 0), AV.int .i64 0] = z
  have s1 : Same [] g0 (g0.new (.cells true z)) := Same.new _ _
  have gn1 : (g0.new (.cells true z)).get g0.next = some (.cells true z) := get_new_eq
  have n1 : (g0.new (.cells true z)).next = h.next + 2 := by rw [Heap.next_new, n0]
  generalize hg1 : g0.new (.cells true z) = g1 at *
  have lb : ∀ g', Same [] g1 g' → ∀ (k : Nat) x, r[k]? = some x → ldS g' (.ptr (some (h.next, 0 + k))) = some x := fun g' s k x hx => by
    rw [ldS_at (w := true) (vs := r) (by rw [s.get _ (by omega) (by simp), s1.get _ (by omega) (by simp)]; exact gn), Nat.zero_add]; exact hx
  have s01 := s0.trans s1
  have sp := hpN_same g1 3
  have e0 : bsP 1 [(AV.bool false)] 0 [] = some (.cells true [], fun i => .sl (some (i, 0)) 0 (.ex 0)) := rfl
  have e1 : bsP 1 [(AV.int .i64 0)] 0 [] = some (.cells true [], fun i => .sl (some (i, 0)) 0 (.ex 0)) := rfl
  have s5 : Same [] g1 ((hpN g1 3).put (g1.next + 0) (some (.cells true []))) := sp.old (Same.put _ _ _) (fun j hj => .inr (by simp at hj; omega))
  have n5 : ((hpN g1 3).put (g1.next + 0) (some (.cells true []))).next = g1.next + 3 := rfl
  have g5 : ((hpN g1 3).put (g1.next + 0) (some (.cells true []))).get (g1.next + 0) = some (.cells true []) := get_put_eq
  generalize hg5 : (hpN g1 3).put (g1.next + 0) (some (.cells true [])) = h5 at *
  have R5 := m2.mono (s01.trans s5).next (fun j hj => (s01.trans s5).get j hj (by simp))
  obtain ⟨kv', h6, ea, s6, o6, n6, K6, C6, pk, mk, ck, rfl⟩ := copy_all (h0 := g1) (bytes := 1) g5 (by omega) (by omega) s5 R5 (by simp [scalar]) (by omega) (by omega)
  have s8 : Same [] g1 (h6.put (g1.next + 1) (some (.cells true []))) := s6.old (Same.put _ _ _) (fun j hj => .inr (by simp at hj; omega))
  have n8 : (h6.put (g1.next + 1) (some (.cells true []))).next = h6.next := rfl
  have g8 : (h6.put (g1.next + 1) (some (.cells true []))).get (g1.next + 1) = some (.cells true []) := get_put_eq
  have o8 : ∀ j, g1.next + 3 ≤ j → (h6.put (g1.next + 1) (some (.cells true []))).get j = h6.get j := fun j hj => get_put_ne (by omega)
  generalize hg8 : h6.put (g1.next + 1) (some (.cells true [])) = h8 at *
  have R8 := m3.mono (s01.trans s8).next (fun j hj => (s01.trans s8).get j hj (by simp))
  obtain ⟨mv', h9, eb, s9, o9, n9, K9, C9, pm, mm, cm, rfl⟩ := copy_all (h0 := g1) (bytes := 8) g8 (by omega) (by omega) s8 R8 (by simp [scalar]) (by omega) (by omega)
  generalize hvs : [AV.sl none 0 (.ex 0), AV.sl pk mk ck, AV.sl pm mm cm, AV.sl none 0 (.ex 0), AV.sl none 0 (.ex 0), AV.int .i64 m.main] = vs at *
  have hvl : vs.length = 6 := by rw [← hvs]; rfl
  have hzl : z.length = 6 := by rw [← hz]; rfl
  have hvsc : vs.all scalar = true := by rw [← hvs]; rfl
  have est := stP_all (h := h9.put (g1.next + 2) (some (.cells true z))) (b := g1.next + 2) (n := 6) get_put_eq hzl hvl hvsc
  have s10 : Same [] g1 (h9.put (g1.next + 2) (some (.cells true z))) := s9.old (Same.put _ _ _) (fun j hj => .inr (by simp at hj; omega))
  have s11 : Same [] g1 ((h9.put (g1.next + 2) (some (.cells true z))).put (g1.next + 2) (some (.cells true vs))) := s10.old (Same.put _ _ _) (fun j hj => .inr (by simp at hj; omega))
  have n11 : ((h9.put (g1.next + 2) (some (.cells true z))).put (g1.next + 2) (some (.cells true vs))).next = h9.next := rfl
  have g11 : ((h9.put (g1.next + 2) (some (.cells true z))).put (g1.next + 2) (some (.cells true vs))).get (g1.next + 2) = some (.cells true vs) := get_put_eq
  have o11 : ∀ j, g1.next + 3 ≤ j → ((h9.put (g1.next + 2) (some (.cells true z))).put (g1.next + 2) (some (.cells true vs))).get j = h9.get j := fun j hj => by rw [get_put_ne (by omega), get_put_ne (by omega)]
  generalize hg11 : (h9.put (g1.next + 2) (some (.cells true z))).put (g1.next + 2) (some (.cells true vs)) = h11 at *
  have rk : ∀ (k : Nat) x, r[k]? = some x → ∀ (i : Nat) g, [hpN g1 3, h6, h9, h11][i]? = some g → ldS g (.ptr (some (h.next, 0 + k))) = some x := fun k x hx i g hg => by
    rcases i with _ | _ | _ | _ | i <;> simp at hg <;> subst hg
    · exact lb _ sp k x hx
    · exact lb _ s6 k x hx
    · exact lb _ s9 k x hx
    · exact lb _ s11 k x hx
  have ebl : bldS [(0, 1), (1, 1), (2, 1), (3, 1), (4, 1), (5, 1)] z [(1, .sl pk mk ck), (2, .sl pm mm cm), (5, AV.int .i64 m.main)] = some (.agg vs) := by rw [← hz, ← hvs]; rfl
  have l1 := lb _ sp 1 _ (by rw [← e]; rfl)
  have l2 := lb _ s6 2 _ (by rw [← e]; rfl)
  have l5 := lb _ s9 5 _ (by rw [← e]; rfl)
  refine Ok.eq ?_ (by
    simp -implicitDefEqProofs only [k_ref17_Module, hbi, mk_some, hg0, hz, hg1, faP_ptr, Option.bind_some, l1, e0, mkAt_some, hg5, cl_some, ea, rdC_some (f := fun k => ldS k (.ptr (some (h.next, 0 + 2)))) (h := h6) l2, clC_some, e1, hg8, eb, rdC_some (f := fun k => ldS k (.ptr (some (h.next, 0 + 5)))) (h := h9) l5, ebl, est, hg11]
    rw [chk_keep (same_int _ _) (rk 5 _ (by rw [← e]; rfl)) (by simp), chk_keep m3.samev (rk 2 _ (by rw [← e]; rfl)) (by simp), chk_nil])
  have sh11 := s01.trans s11
  have hn11 := s11.next
  -- the first loop
  have H0 : RowsIn h11 h11 (g1.next + 2) 0 3 vs [] (.sl none 0 (.ex 0)) none := RowsIn.mt (by omega) g11 (by rw [← hvs]; rfl)
  have box : ∀ g', (∀ j, j < g1.next → g'.get j = h11.get j) → ∀ (k : Nat) x, r[k]? = some x → ldS g' (.ptr (some (h.next, 0 + k))) = some x := fun g' hg k x hx => by
    rw [ldS_at (w := true) (vs := r) (by rw [hg _ (by omega), s11.get _ (by omega) (by simp), s1.get _ (by omega) (by simp)]; exact gn), Nat.zero_add]; exact hx
  have keep : ∀ g g', g1.next ≤ g.next → (Same [] g g' ∨ Same [g1.next + 2] g g') → (∀ j, j < g1.next → g.get j = h11.get j) → ∀ j, j < g1.next → g'.get j = h11.get j := fun g g' hn hs hg j hj => by
    rcases hs with s | s
    · rw [s.get j (by omega) (by simp)]; exact hg j hj
    · rw [s.get j (by omega) (by simp; omega)]; exact hg j hj
  refine ok_lp (modL0_ok (h := h) m1 w9 q4 sh11 (by omega) (fun g' hs => box g' (keep h11 g' hn11 hs (fun _ _ => rfl)) 0 sv (by rw [← e]; rfl)) H0) ?_
  rintro ex us h14 ⟨rfl, sv', b0, H0⟩
  simp only at H0
  have hn14 := H0.same.next
  have k14 := keep h11 h14 hn11 (.inr H0.same) (fun _ _ => rfl)
  have sh14 : Same [] h h14 := sh11.old H0.same (fun j hj => .inr (by simp at hj; omega))
  have set0 : vs.set 0 sv' = [sv', AV.sl pk mk ck, AV.sl pm mm cm, AV.sl none 0 (.ex 0), AV.sl none 0 (.ex 0), AV.int .i64 m.main] := by rw [← hvs]; rfl
  have H1 : RowsIn h14 h14 (g1.next + 2) 3 4 (vs.set 0 sv') [] (.sl none 0 (.ex 0)) none := RowsIn.mt (by omega) H0.at_ (by rw [set0]; rfl)
  refine Ok.eq ?_ (by simp -implicitDefEqProofs only [if_true, thenK]; rfl)
  refine ok_lp (modL1_ok (h := h) m4 q2 sh14 (by omega) (fun g' hs => box g' (keep h14 g' (by omega) hs k14) 3 cv (by rw [← e]; rfl)) H1) ?_
  rintro ex us1 h25 ⟨rfl, cv', b1, H1⟩
  simp only at H1
  have hn25 := H1.same.next
  have k25 := keep h14 h25 (by omega) (.inr H1.same) k14
  have sh25 : Same [] h h25 := sh14.old H1.same (fun j hj => .inr (by simp at hj; omega))
  have set1 : (vs.set 0 sv').set 3 cv' = [sv', AV.sl pk mk ck, AV.sl pm mm cm, cv', AV.sl none 0 (.ex 0), AV.int .i64 m.main] := by rw [set0]; rfl
  have H2 : RowsIn h25 h25 (g1.next + 2) 4 7 ((vs.set 0 sv').set 3 cv') [] (.sl none 0 (.ex 0)) none := RowsIn.mt (by omega) H1.at_ (by rw [set1]; rfl)
  refine Ok.eq ?_ (by simp -implicitDefEqProofs only [if_true, thenK]; rfl)
  refine ok_lp (modL2_ok (h := h) m5 q1 q3 sh25 (by omega) (fun g' hs => box g' (keep h25 g' (by omega) hs k25) 4 fv (by rw [← e]; rfl)) H2) ?_
  rintro ex us2 h35 ⟨rfl, fv', b2, rows, H2, hrl, HK⟩
  simp only at H2 HK
  have hn35 := H2.same.next
  generalize hfin : ((vs.set 0 sv').set 3 cv').set 4 fv' = fin at *
  have hfl : fin.length = 6 := by rw [← hfin]; simp [hvl]
  have hset : fin = [sv', AV.sl pk mk ck, AV.sl pm mm cm, cv', fv', AV.int .i64 m.main] := by rw [← hfin, set1]; rfl
  have a35 : h35.get (g1.next + 2) = some (.cells true fin) := by rw [← hfin]; exact H2.at_
  have hla : ldA 6 h35 (.ptr (some (g1.next + 2, 0))) = some (.agg fin) := by
    rw [ldA_at a35, span_some _ _ _ (by omega), List.drop_zero, List.take_of_length_le (by omega)]; rfl
  have g35 : h35.get g0.next = some (.cells true z) := by
    rw [H2.same.get _ (by omega) (by simp; omega), H1.same.get _ (by omega) (by simp; omega), H0.same.get _ (by omega) (by simp; omega), s11.get _ (by omega) (by simp)]; exact gn1
  have est2 := stP_all (h := h35) (b := g0.next) (n := 6) (cs := fin) g35 hzl hfl (by rw [hset]; simp only [List.all_cons, List.all_nil, H0.sl.scv, H1.sl.scv, H2.sl.scv]; rfl)
  have sh35 : Same [] h h35 := sh25.old H2.same (fun j hj => .inr (by simp at hj; omega))
  have s37 : Same [] h (h35.put g0.next (some (.cells true fin))) := sh35.old (Same.put _ _ _) (fun j hj => .inr (by simp at hj; omega))
  have la2 : ldA 6 (h35.put g0.next (some (.cells true fin))) (.ptr (some (g0.next, 0))) = some (.agg fin) := by
    rw [ldA_at get_put_eq, span_some _ _ _ (by omega), List.drop_zero, List.take_of_length_le (by omega)]; rfl
  refine ok_val (v := .agg fin) (g := h35.put g0.next (some (.cells true fin))) (by
    simp -implicitDefEqProofs only [if_true, thenK, hla, Option.bind_some, est2, cl_some, la2]) ⟨s37, ?_⟩
  have k35 : ∀ j, g1.next ≤ j → (h35.put g0.next (some (.cells true fin))).get j = h35.get j := fun j h1 => get_put_ne (by omega)
  have kk25 : ∀ j, g1.next + 3 ≤ j → j < h25.next → (h35.put g0.next (some (.cells true fin))).get j = h25.get j := fun j h1 h2 => by
    rw [k35 j (by omega), H2.same.get j h2 (by simp; omega)]
  have kk14 : ∀ j, g1.next + 3 ≤ j → j < h14.next → (h35.put g0.next (some (.cells true fin))).get j = h14.get j := fun j h1 h2 => by
    rw [kk25 j h1 (by omega), H1.same.get j h2 (by simp; omega)]
  have kk11 : ∀ j, g1.next + 3 ≤ j → j < h11.next → (h35.put g0.next (some (.cells true fin))).get j = h11.get j := fun j h1 h2 => by
    rw [kk14 j h1 (by omega), H0.same.get j h2 (by simp; omega)]
  have nfin : (h35.put g0.next (some (.cells true fin))).next = h35.next := rfl
  generalize (h35.put g0.next (some (.cells true fin))) = gf at *
  simp only at *
  have P1 : RdW gf 1 (.sl pk mk ck) (m.globals.map AV.bool) m.globals.length := K6 gf (by omega) fun j h1 h2 => by
    rw [kk11 j (by omega) (by omega), o11 j (by omega), o9 j (by omega), o8 j (by omega)]
  have P2 : RdW gf 1 (.sl pm mm cm) (m.consts.map (AV.int .i64)) m.consts.length := K9 gf (by omega) fun j h1 h2 => by
    rw [kk11 j (by omega) (by omega), o11 j (by omega)]
  have hmx := mxl
  have P0 : RwC gf 3 sv' m.shapes := H0.rwc (by omega) (by omega) fun j hj => kk14 j (by have := H0.new j hj; omega) (H0.sl.blk j hj).1
  have P3 : RwC gf 4 cv' (m.cases.map Cas.row) := H1.rwc (by simpa using w4) (by omega) fun j hj => kk25 j (by have := H1.new j hj; omega) (H1.sl.blk j hj).1
  have P4 : FnsRd gf fv' m.funcs := ⟨rows, H2.rwc (by omega) (by omega) fun j hj => k35 j (by have := H2.new j hj; omega), hrl, fun i q f hq hf => HK i q f hq hf gf (by omega) fun k h1 _ _ => k35 k (by omega)⟩
  exact ⟨_, _, _, _, _, by rw [hset], P0, P1, P2, P3, P4, w1, w2, w3, w4, w5, H1.sl.capv, H2.sl.capv, w8, w9, w10⟩
end Go.Ab.F

namespace Go.Ab.F
open Go Go.Ab
set_option linter.all false
set_option linter.unusedSimpArgs false
attribute [local congr] c_bind c_cl c_mk c_lp c_clC c_gQ c_gV c_condE c_thenK

/-! ### The document's own functions: run, fn, cases -/
theorem run9_ok (a n : Int) (h : Heap) : Ok (k_ref9_run (.int .i64 a) (.int .i64 n) h) fun r => Lst h r.2 r.1 (runL a n) := by
  refine Ok.eq ?_ (by simp -implicitDefEqProofs only [k_ref9_run]; rfl)
  refine ok_lp (P := fun r => r.1 = .exit 0 ∧ ∃ q, r.2.1.getD 0 .bot = q ∧ Lst h r.2.2 q (runL a n)) ?_ ?_
  · by_cases h1 : n ≤ 64
    · refine ok_loop (fun m vs g => ∃ (i : Nat) (q : AV) (b : Option Nat), vs = [q, .int .i64 i] ∧ m + i = n.toNat ∧ SlB g b 1 q (wI (runP a i)) i ∧ (∀ j, b = some j → h.next ≤ j) ∧ Same [] h g) ?_ (n := n.toNat) (by omega)
        ⟨0, _, none, rfl, rfl, SlB.mt, (fun j hj => by cases hj), Same.refl _ _⟩
      rintro m vs g ⟨i, q, b, rfl, hm, hq, hb, hs⟩
      rw [gD0, gD1]
      by_cases hi : (i : Int) < n
      · refine Ok.eq ?_ (by simp -implicitDefEqProofs only [k_ref9_run_b0, bin_lss, hi, h1, bin_leq, decide_true, gdW_tt, gdW_ff, gdW_tf, gdW_ft, gQ_true, gQ_false, cl_some, pickP_bool, if_true, Option.bind_some, condE_true, bin_add]; rfl)
        refine app1 hq rfl rfl rfl (by decide) (by omega) fun q' g3 hq3 s3 n3 => ?_
        refine (Ok.of (r := (.normal, [q', .int .i64 ((i + 1 : Nat) : Int)], g3)) ?_).eq (by
          simp -implicitDefEqProofs only [bin_add, suc64 i (by omega), Option.bind_some])
        refine .inl ⟨rfl, m - 1, by omega, i + 1, q', some (g.next + 1), rfl, by omega, ?_, ?_, ?_⟩
        · have e : wI (runP a i) ++ (AV.int .i64 (IntKind.i64.wrap (a + i))).cells = wI (runP a (i + 1)) := by rw [runP_succ]; simp [wI, AV.cells]
          rw [e] at hq3; exact hq3
        · intro j hj; cases hj; have := hs.next; omega
        · exact hs.old s3 fun j hj => by
            cases b with
            | none => simp at hj
            | some x => simp at hj; subst hj; exact .inr (hb _ rfl)
      · refine (Ok.of (r := (.exit 0, [q, .int .i64 (i : Int)], g)) ?_).eq (by
          simp -implicitDefEqProofs only [k_ref9_run_b0, bin_lss, hi, decide_false, gdW_tt, gdW_ff, gdW_tf, gdW_ft, gdW_tup, gQ_true, gQ_false, cl_some, pickP_bool, Bool.false_eq_true, if_false, Option.bind_some, condE_false])
        refine .inr ⟨by simp, rfl, q, rfl, ?_⟩
        have : i = n.toNat := by omega
        subst this
        rw [runL, if_pos h1]; exact Lst.of_slb hq hb hs
    · have hp : (0 : Int) < n := by omega
      refine ok_loop (fun m vs g => vs = [.sl none 0 (.ex 0), .int .i64 0] ∧ g = h) ?_ (n := 0) (by omega) ⟨rfl, rfl⟩
      rintro m vs g ⟨rfl, rfl⟩
      rw [gD0, gD1]
      refine (Ok.of (r := (.exit 0, [.sl none 0 (.ex 0), .int .i64 0], g)) ?_).eq (by
        simp -implicitDefEqProofs only [k_ref9_run_b0, bin_lss, hp, h1, bin_leq, decide_true, decide_false, gdW_tt, gdW_ff, gdW_tf, gdW_ft, gQ_true, gQ_false, cl_some, pickP_bool, if_true, Bool.false_eq_true, if_false, Option.bind_some, condE_false])
      refine .inr ⟨by simp, rfl, _, rfl, ?_⟩
      rw [runL, if_neg h1]
      exact Lst.mt (Same.refl _ _)
  · rintro _ vs g ⟨rfl, q, rfl, H⟩
    exact ok_val (v := vs.getD 0 .bot) (g := g) (by simp -implicitDefEqProofs only [if_true]; rfl) H
theorem fn9_ok {h : Heap} {v : AV} {m : Md} (H : MdRd h v m) (n : Int) : Ok (k_ref9_fn v (.int .i64 n) h) fun r => Same [] h r.2 ∧ ∃ rest, r.1 = .agg (.int .i64 (fnP m n) :: .int .i64 (fnC m n) :: rest) := by
  obtain ⟨sv, gv, kv, cv, fv, rfl, hbx, B⟩ := H.box
  have s0 : Same [] h (h.new (.cells true [sv, gv, kv, cv, fv, .int .i64 m.main])) := Same.new _ _
  generalize hg : h.new (.cells true [sv, gv, kv, cv, fv, .int .i64 m.main]) = g at *
  generalize hz : Blk.cells true [AV.int .i64 0, AV.int .i64 0, AV.int .i64 0, AV.int .i64 0, AV.sl none 0 (.ex 0), AV.sl none 0 (.ex 0), AV.sl none 0 (.ex 0)] = z
  have s1 : Same [] g (g.new z) := Same.new _ _
  have B1 := B.mono s1
  have gz : (g.new z).get g.next = some z := get_new_eq
  generalize hg1 : g.new z = g1 at *
  have hn1 : g1.next = g.next + 1 := by rw [← hg1]; rfl
  have fin : ∀ cs : List AV, cs.length = 7 → cs.all scalar = true → ∃ g', stP 7 g1 (.ptr (some (g.next, 0))) (.agg cs) = some (.bot, g') ∧ Same [] h g' ∧ ldA 7 g' (.ptr (some (g.next, 0))) = some (.agg cs) := fun cs hc hs => by
    rw [← hz] at gz
    refine ⟨_, stP_all gz rfl hc hs, (s0.trans s1).old (Same.put _ _ _) (fun j hj => .inr (by simp at hj; have := s0.next; omega)), ?_⟩
    rw [ldA_at get_put_eq, span_some _ _ _ (by omega), List.drop_zero, List.take_of_length_le (by omega)]; rfl
  have hm := B.bnd.1
  rw [mxl] at hm
  have eb : bldS [(0, 1), (1, 1), (2, 1), (3, 1), (4, 1), (5, 1), (6, 1)] [AV.int .i64 0, .int .i64 0, .int .i64 0, .int .i64 0, .sl none 0 (.ex 0), .sl none 0 (.ex 0), .sl none 0 (.ex 0)] [] = some (.agg [.int .i64 0, .int .i64 0, .int .i64 0, .int .i64 0, .sl none 0 (.ex 0), .sl none 0 (.ex 0), .sl none 0 (.ex 0)]) := rfl
  by_cases c1 : n < 0
  · obtain ⟨g', e1, s2, e2⟩ := fin [.int .i64 0, .int .i64 0, .int .i64 0, .int .i64 0, .sl none 0 (.ex 0), .sl none 0 (.ex 0), .sl none 0 (.ex 0)] rfl rfl
    refine ok_val (v := .agg [.int .i64 0, .int .i64 0, .int .i64 0, .int .i64 0, .sl none 0 (.ex 0), .sl none 0 (.ex 0), .sl none 0 (.ex 0)]) (g := g') (by
      simp -implicitDefEqProofs only [k_ref9_fn, hbx, mk_some, hg, hz, hg1, bin_lss, c1, decide_true, Option.bind_some, gdW_tf, gQ_false, pickP_bool, if_true, condE_true, eb, e1, cl_some, e2]) ⟨s2, [.int .i64 0, .int .i64 0, .sl none 0 (.ex 0), .sl none 0 (.ex 0), .sl none 0 (.ex 0)], ?_⟩
    simp only [fnP, fnC, fnAt, c1, if_true]
  · by_cases c2 : (m.funcs.length : Int) ≤ n
    · obtain ⟨g', e1, s2, e2⟩ := fin [.int .i64 0, .int .i64 0, .int .i64 0, .int .i64 0, .sl none 0 (.ex 0), .sl none 0 (.ex 0), .sl none 0 (.ex 0)] rfl rfl
      refine ok_val (v := .agg [.int .i64 0, .int .i64 0, .int .i64 0, .int .i64 0, .sl none 0 (.ex 0), .sl none 0 (.ex 0), .sl none 0 (.ex 0)]) (g := g') (by
        simp -implicitDefEqProofs only [k_ref9_fn, hbx, mk_some, hg, hz, hg1, bin_lss, c1, c2, decide_false, decide_true, Option.bind_some, gdW_ff, gQ_true, cl_some, faP_ptr, B1.l4, B1.ln4, bin_geq, pickP_bool, Bool.false_eq_true, if_false, condE_true, eb, e1, e2]) ⟨s2, [.int .i64 0, .int .i64 0, .sl none 0 (.ex 0), .sl none 0 (.ex 0), .sl none 0 (.ex 0)], ?_⟩
      have : m.funcs[n.toNat]? = none := List.getElem?_eq_none (by omega)
      simp only [fnP, fnC, fnAt, c1, if_false, this]
    · obtain ⟨f, hf⟩ : ∃ f, m.funcs[n.toNat]? = some f := ⟨_, List.getElem?_eq_getElem (by omega)⟩
      obtain ⟨b, o, kv', cv', mv', hb, hix, hfr, hla, s4, s5, s6, n4, n5, n6⟩ := B1.fn hf
      have hix := hix .i64
      rw [show ((n.toNat : Nat) : Int) = n by omega] at hix
      obtain ⟨g', e1, s2, e2⟩ := fin [.int .i64 f.pa, .int .i64 f.ca, .int .i64 f.sl, .int .i64 f.re, kv', cv', mv'] rfl hfr.sc
      refine ok_val (v := .agg [.int .i64 f.pa, .int .i64 f.ca, .int .i64 f.sl, .int .i64 f.re, kv', cv', mv']) (g := g') (by
        simp -implicitDefEqProofs only [k_ref9_fn, hbx, mk_some, hg, hz, hg1, bin_lss, c1, c2, decide_false, Option.bind_some, gdW_ff, gQ_true, cl_some, faP_ptr, B1.l4, B1.ln4, bin_geq, pickP_bool, Bool.false_eq_true, if_false, condE_false, hix, hla, e1, e2]) ⟨s2, [.int .i64 f.sl, .int .i64 f.re, kv', cv', mv'], ?_⟩
      simp only [fnP, fnC, fnAt, c1, if_false, hf]

theorem cases9_ok {h : Heap} {v : AV} {m : Md} (H : MdRd h v m) (i : Ins) (hwa : wfI i.a) (hwb : wfI i.b) :
    Ok (k_ref9_cases v (.agg i.row) h) fun r => ∃ v' t, r.1 = .tup [v', t] ∧ Same [] h r.2 ∧ RwC r.2 4 v' ((casesOf m i.a i.b).map Cas.row) := by
  have hcv : ∀ sv gv kv cv fv, v = .agg [sv, gv, kv, cv, fv, .int .i64 m.main] → CapV 4 cv := fun sv gv kv cv fv e => by
    obtain ⟨_, _, _, _, _, e', _, _, _, _, _, _, _, _, _, _, hc, _⟩ := H
    rw [e] at e'
    cases e'
    exact hc
  obtain ⟨sv, gv, kv, cv, fv, rfl, hbx, B⟩ := H.box
  have hcv := hcv _ _ _ _ _ rfl
  have s0 : Same [] h (h.new (.cells true [sv, gv, kv, cv, fv, .int .i64 m.main])) := Same.new _ _
  have hi := bx_agg (Ins.sc i)
  generalize hg : h.new (.cells true [sv, gv, kv, cv, fv, .int .i64 m.main]) = g at *
  have s1 : Same [] g (g.new (.cells true i.row)) := Same.new _ _
  have B1 := B.mono s1
  have gn : (g.new (.cells true i.row)).get g.next = some (.cells true i.row) := get_new_eq
  generalize hg1 : g.new (.cells true i.row) = g1 at *
  have l1 : ldS g1 (.ptr (some (g.next, 0 + 1))) = some (.int .i64 i.a) := by rw [ldS_at gn]; rfl
  have l2 : ldS g1 (.ptr (some (g.next, 0 + 2))) = some (.int .i64 i.b) := by rw [ldS_at gn]; rfl
  have wa := wf_i64 hwa
  have wb := wf_i64 hwb
  have hm := B.bnd.2
  rw [mxl] at hm
  have bad : casesOf m i.a i.b = [] → Ok (some (AV.tup [AV.sl none 0 (.ex 0), .bool false], g1)) fun r => ∃ v' t, r.1 = .tup [v', t] ∧ Same [] h r.2 ∧ RwC r.2 4 v' ((casesOf m i.a i.b).map Cas.row) := fun e => by
    rw [e]
    exact Ok.of (r := (AV.tup [AV.sl none 0 (.ex 0), .bool false], g1)) ⟨_, _, rfl, s0.trans s1, [], ⟨rfl, .inl ⟨rfl, rfl⟩⟩, Nat.zero_le _, fun i r hi => by simp at hi⟩
  by_cases c1 : i.b < 0
  · exact (bad (by simp only [casesOf, c1, true_or, or_true, if_true])).eq (by simp -implicitDefEqProofs only [k_ref9_cases, hbx, hi, mk_some, hg, hg1, faP_ptr, Option.bind_some, l1, l2, B1.l3, B1.ln3, bin_lss, bin_gtr, bin_sub, gdW_tf, gdW_ff, gdW_tup, gQ_false, gQ_true, cl_some, pickP_bool, if_true, Bool.false_eq_true, if_false, c1, decide_true, condE_true])
  by_cases c2 : (m.cases.length : Int) < i.b
  · exact (bad (by
      have : i.a < 0 ∨ i.b < 0 ∨ (m.cases.length : Int) < i.a ∨ (m.cases.length : Int) - i.a < i.b := by omega
      simp only [casesOf, this, if_true])).eq (by simp -implicitDefEqProofs only [k_ref9_cases, hbx, hi, mk_some, hg, hg1, faP_ptr, Option.bind_some, l1, l2, B1.l3, B1.ln3, bin_lss, bin_gtr, bin_sub, gdW_tf, gdW_ff, gdW_tup, gQ_false, gQ_true, cl_some, pickP_bool, if_true, Bool.false_eq_true, if_false, c1, c2, decide_true, decide_false, condE_true])
  by_cases c3 : i.a < 0
  · exact (bad (by simp only [casesOf, c3, true_or, or_true, if_true])).eq (by simp -implicitDefEqProofs only [k_ref9_cases, hbx, hi, mk_some, hg, hg1, faP_ptr, Option.bind_some, l1, l2, B1.l3, B1.ln3, bin_lss, bin_gtr, bin_sub, gdW_tf, gdW_ff, gdW_tup, gQ_false, gQ_true, cl_some, pickP_bool, if_true, Bool.false_eq_true, if_false, c1, c2, c3, decide_true, decide_false, condE_true])
  have e4 : IntKind.i64.wrap ((m.cases.length : Int) - i.b) = (m.cases.length : Int) - i.b := wrap_i64 (by omega) (by omega)
  by_cases c4 : (m.cases.length : Int) - i.b < i.a
  · exact (bad (by
      have : i.a < 0 ∨ i.b < 0 ∨ (m.cases.length : Int) < i.a ∨ (m.cases.length : Int) - i.a < i.b := by omega
      simp only [casesOf, this, if_true])).eq (by simp -implicitDefEqProofs only [k_ref9_cases, hbx, hi, mk_some, hg, hg1, faP_ptr, Option.bind_some, l1, l2, B1.l3, B1.ln3, bin_lss, bin_gtr, bin_sub, gdW_tf, gdW_ff, gdW_tup, gQ_false, gQ_true, cl_some, pickP_bool, if_true, Bool.false_eq_true, if_false, e4, c1, c2, c3, c4, decide_true, decide_false, condE_true])
  have hno : ¬ (i.a < 0 ∨ i.b < 0 ∨ (m.cases.length : Int) < i.a ∨ (m.cases.length : Int) - i.a < i.b) := by omega
  have hco : casesOf m i.a i.b = (m.cases.drop i.a.toNat).take i.b.toNat := by rw [casesOf, if_neg hno]
  obtain ⟨v', e5, hv'⟩ := B1.cs.part hcv (a := i.a.toNat) (b := i.b.toNat) (by simp; omega)
  have ea : ((i.a.toNat : Nat) : Int) = i.a := by omega
  have eab : ((i.a.toNat + i.b.toNat : Nat) : Int) = i.a + i.b := by omega
  have ew : IntKind.i64.wrap (i.a + i.b) = i.a + i.b := wrap_i64 (by omega) (by omega)
  rw [ea, eab] at e5
  refine ok_val (v := .tup [v', .bool true]) (g := g1) (by simp -implicitDefEqProofs only [k_ref9_cases, hbx, hi, mk_some, hg, hg1, faP_ptr, Option.bind_some, l1, l2, B1.l3, B1.ln3, bin_lss, bin_gtr, bin_sub, bin_add, e4, ew, c1, c2, c3, c4, decide_true, decide_false, gdW_tf, gdW_ff, gdW_tup, gQ_false, gQ_true, cl_some, pickP_bool, if_true, Bool.false_eq_true, if_false, condE_false, e5]) ⟨v', _, rfl, s0.trans s1, ?_⟩
  rw [hco, List.map_take, List.map_drop]
  exact hv'
end Go.Ab.F

namespace Go.Ab.F
open Go Go.Ab
set_option linter.all false
set_option linter.unusedSimpArgs false
attribute [local congr] c_bind c_cl c_mk c_lp c_clC c_gQ c_gV c_condE c_thenK

theorem read9_j {g : Heap} {q : Nat} {t : AV} {cs : List Cas} {c : Cas} (HR : RwC g 4 t (cs.map Cas.row)) (hc : cs[q]? = some c) {v : AV} {b : Option Nat} {l : List Int} {h : Heap} (H : SlB g b 1 v (wI l) l.length) (hb : ∀ j, b = some j → h.next ≤ j) (s : Same [] h g) (hq : q < 4611686018427387904) (hl : l.length ≤ 1099511627776) :
    Ok (k_ref9_Reads_j1 t (.int .i64 (q : Nat)) v g) fun r => ∃ v' b', r.1 = .normal ∧ r.2.1 = [v', .int .i64 ((q + 1 : Nat) : Int)] ∧ SlB r.2.2 b' 1 v' (wI (l ++ (if c.kind = 1 then [c.val] else []))) (l ++ (if c.kind = 1 then [c.val] else [])).length ∧ (∀ j, b' = some j → h.next ≤ j) ∧ Same [] h r.2.2 := by
  obtain ⟨bb, o, hbb, hix, hla, hls⟩ := HR.at (i := q) (r := c.row) (by rw [List.getElem?_map, hc]; rfl)
  have l0 : ldS g (.ptr (some (bb, o + 0))) = some (.int .i64 c.kind) := hls 0 _ rfl
  have l2 : ldS g (.ptr (some (bb, o + 2))) = some (.int .i64 c.val) := hls 2 _ rfl
  by_cases ck : c.kind = 1
  · rw [if_pos ck]
    refine Ok.eq ?_ (by simp -implicitDefEqProofs only [k_ref9_Reads_j1, hix, faP_ptr, Option.bind_some, l0, l2, eql_int, ck, decide_true, condE_true]; rfl)
    refine app1 H rfl rfl rfl (by decide) (by omega) fun v' g3 h3 s3 n3 => ?_
    refine (Ok.of (r := (.normal, [v', .int .i64 ((q + 1 : Nat) : Int)], g3)) ⟨v', some (g.next + 1), rfl, rfl, ?_, ?_, ?_⟩).eq (by simp -implicitDefEqProofs only [k_ref9_Reads_j0, bin_add, suc64 q (by omega), Option.bind_some])
    · have e : wI l ++ (AV.int .i64 c.val).cells = wI (l ++ [c.val]) := by simp [wI, AV.cells]
      rw [e] at h3
      rw [List.length_append]; exact h3
    · intro j hj; cases hj; have := s.next; omega
    · exact s.old s3 fun j hj => by
        cases b with
        | none => simp at hj
        | some x => simp at hj; subst hj; exact .inr (hb _ rfl)
  · rw [if_neg ck, List.append_nil]
    refine (Ok.of (r := (.normal, [v, .int .i64 ((q + 1 : Nat) : Int)], g)) ⟨v, b, rfl, rfl, H, hb, s⟩).eq (by simp -implicitDefEqProofs only [k_ref9_Reads_j1, k_ref9_Reads_j0, hix, faP_ptr, Option.bind_some, l0, eql_int, ck, decide_false, condE_false, bin_add, suc64 q (by omega)])
theorem readsL9_ok {h : Heap} {v : AV} {cs : List Cas} (H : RwC h 4 v (cs.map Cas.row)) (hl : cs.length ≤ 1073741824) : Ok (k_ref9_Reads_L0 v (.sl none 0 (.ex 0)) (.int .i64 0) h) fun r => r.1 = .exit 1 ∧ ∃ q, r.2.1.getD 0 .bot = q ∧ Lst h r.2.2 q (readsOfL cs) := by
  have hln := H.lnL
  rw [List.length_map] at hln
  refine ok_loop (fun m vs g => ∃ (i : Nat) (q : AV) (b : Option Nat), vs = [q, .int .i64 i] ∧ m + i = cs.length ∧ SlB g b 1 q (wI (readsOfL (cs.take i))) (readsOfL (cs.take i)).length ∧ (∀ j, b = some j → h.next ≤ j) ∧ Same [] h g) ?_ (n := cs.length) (by omega)
    ⟨0, _, none, rfl, rfl, SlB.mt, (fun j hj => by cases hj), Same.refl _ _⟩
  rintro m vs g ⟨i, q, b, rfl, hm, hq, hb, hs⟩
  rw [gD0, gD1]
  by_cases hi : i < cs.length
  · obtain ⟨c, hc⟩ : ∃ c, cs[i]? = some c := ⟨_, List.getElem?_eq_getElem hi⟩
    have hi' : (i : Int) < cs.length := by omega
    have hsucc : readsOfL (cs.take (i + 1)) = readsOfL (cs.take i) ++ readsOf1 c := by
      unfold readsOfL; rw [List.take_add_one, hc, List.flatMap_append]; simp
    have hlen : (readsOfL (cs.take i)).length ≤ 2147483648 := by
      have := readsOfL_len (cs.take i)
      have h2 : (cs.take i).length ≤ cs.length := by simp; omega
      omega
    have Hg := H.mono hs.next (fun j hj => hs.get j hj (by simp))
    obtain ⟨b2, o2, hb2, hix, hla, hls⟩ := Hg.at (i := i) (r := c.row) (by rw [List.getElem?_map, hc]; rfl)
    have l0 : ldS g (.ptr (some (b2, o2 + 0))) = some (.int .i64 c.kind) := hls 0 _ rfl
    have l1 : ldS g (.ptr (some (b2, o2 + 1))) = some (.int .i64 c.chan) := hls 1 _ rfl
    have tail : ∀ r : Ex × List AV × Heap, (∃ v' b', r.1 = .normal ∧ r.2.1 = [v', .int .i64 ((i + 1 : Nat) : Int)] ∧ SlB r.2.2 b' 1 v' (wI (readsOfL (cs.take (i + 1)))) (readsOfL (cs.take (i + 1))).length ∧ (∀ j, b' = some j → h.next ≤ j) ∧ Same [] h r.2.2) →
        (r.1 = Ex.normal ∧ ∃ m', m' < m ∧ ∃ (i : Nat) (q : AV) (b : Option Nat), r.2.1 = [q, .int .i64 i] ∧ m' + i = cs.length ∧ SlB r.2.2 b 1 q (wI (readsOfL (cs.take i))) (readsOfL (cs.take i)).length ∧ (∀ j, b = some j → h.next ≤ j) ∧ Same [] h r.2.2) ∨ (r.1 ≠ .normal ∧ r.1 = .exit 1 ∧ ∃ q, r.2.1.getD 0 .bot = q ∧ Lst h r.2.2 q (readsOfL cs)) := by
      rintro r ⟨v', b', e1, e2, e3, e4, e5⟩
      exact .inl ⟨e1, m - 1, by omega, i + 1, v', b', e2, by omega, e3, e4, e5⟩
    by_cases ck : c.kind = 2
    · refine Ok.eq ?_ (by simp -implicitDefEqProofs only [k_ref9_Reads_b0, hln, bin_lss, hi', decide_true, condE_true, hix, faP_ptr, Option.bind_some, l0, neq_int, ck, Bool.not_true, condE_false]; rfl)
      refine Ok.mono ?_ tail
      refine (read9_j Hg hc hq hb hs (by omega) (by omega)).mono ?_
      rintro r ⟨v', b', e1, e2, e3, e4, e5⟩
      have e : readsOfL (cs.take (i + 1)) = readsOfL (cs.take i) ++ (if c.kind = 1 then [c.val] else []) := by rw [hsucc]; simp [readsOf1, ck]
      exact ⟨v', b', e1, e2, by rw [e]; exact e3, e4, e5⟩
    · refine Ok.eq ?_ (by simp -implicitDefEqProofs only [k_ref9_Reads_b0, hln, bin_lss, hi', decide_true, condE_true, hix, faP_ptr, Option.bind_some, l0, l1, neq_int, ck, decide_false, Bool.not_false]; rfl)
      refine Ok.mono ?_ tail
      refine app1 hq rfl rfl rfl (by decide) (by omega) fun v' g3 h3 s3 n3 => ?_
      have s3' : Same [] h g3 := hs.old s3 fun j hj => by
        cases b with
        | none => simp at hj
        | some x => simp at hj; subst hj; exact .inr (hb _ rfl)
      have e : wI (readsOfL (cs.take i)) ++ (AV.int .i64 c.chan).cells = wI (readsOfL (cs.take i) ++ [c.chan]) := by simp [wI, AV.cells]
      rw [e] at h3
      have h3' : SlB g3 (some (g.next + 1)) 1 v' (wI (readsOfL (cs.take i) ++ [c.chan])) (readsOfL (cs.take i) ++ [c.chan]).length := by rw [List.length_append]; exact h3
      refine (read9_j (H.mono s3'.next (fun j hj => s3'.get j hj (by simp))) hc h3' (h := h) (fun j hj => by cases hj; have := hs.next; omega) s3' (by omega) (by rw [List.length_append]; simp; omega)).mono ?_
      rintro r ⟨v2, b2, e1, e2, e3, e4, e5⟩
      have e : readsOfL (cs.take (i + 1)) = readsOfL (cs.take i) ++ [c.chan] ++ (if c.kind = 1 then [c.val] else []) := by rw [hsucc]; simp [readsOf1, ck]
      exact ⟨v2, b2, e1, e2, by rw [e]; exact e3, e4, e5⟩
  · have hi' : ¬ (i : Int) < cs.length := by omega
    refine (Ok.of (r := (.exit 1, [q, .int .i64 (i : Int)], g)) ?_).eq (by simp -implicitDefEqProofs only [k_ref9_Reads_b0, hln, bin_lss, hi', decide_false, Option.bind_some, condE_false])
    refine .inr ⟨by simp, rfl, q, rfl, ?_⟩
    rw [List.take_of_length_le (by omega)] at hq
    exact Lst.of_slb hq hb hs
theorem reads9_ok {h : Heap} {v : AV} {m : Md} (H : MdRd h v m) (i : Ins) (hw : i.wf) (hs : m.cases.length ≤ 60) : Ok (k_ref9_Reads v (.agg i.row) h) fun r => Lst h r.2 r.1 (readsL m i) := by
  obtain ⟨sv, gv, kv, cv, fv, rfl, hbx, B⟩ := H.box
  have s0 : Same [] h (h.new (.cells true [sv, gv, kv, cv, fv, .int .i64 m.main])) := Same.new _ _
  have hbi := bx_agg (Ins.sc i)
  generalize hg : h.new (.cells true [sv, gv, kv, cv, fv, .int .i64 m.main]) = g at *
  have s1 : Same [] g (g.new (.cells true i.row)) := Same.new _ _
  have B1 := B.mono s1
  have gn : (g.new (.cells true i.row)).get g.next = some (.cells true i.row) := get_new_eq
  generalize hg1 : g.new (.cells true i.row) = g1 at *
  have hn1 : g1.next = g.next + 1 := by rw [← hg1]; rfl
  have l0 : ldS g1 (.ptr (some (g.next, 0 + 0))) = some (.int .i64 i.op) := by rw [ldS_at gn]; rfl
  have l1 : ldS g1 (.ptr (some (g.next, 0 + 1))) = some (.int .i64 i.a) := by rw [ldS_at gn]; rfl
  have l2 : ldS g1 (.ptr (some (g.next, 0 + 2))) = some (.int .i64 i.b) := by rw [ldS_at gn]; rfl
  have l3 : ldS g1 (.ptr (some (g.next, 0 + 3))) = some (.int .i64 i.c) := by rw [ldS_at gn]; rfl
  have l4 : ldS g1 (.ptr (some (g.next, 0 + 4))) = some (.int .i64 i.d) := by rw [ldS_at gn]; rfl
  have la : ldA 5 g1 (.ptr (some (g.next, 0))) = some (.agg i.row) := by rw [ldA_at gn]; rfl
  have s2 : Same [] h g1 := s0.trans s1
  have later : ∀ g' (f : Nat), Same [] g1 g' → ldS g' (.ptr (some (g.next, f))) = ldS g1 (.ptr (some (g.next, f))) := fun g' f s => by
    rw [ldS_at (w := true) (vs := i.row) (by rw [s.get g.next (by omega) (by simp)]; exact gn), ldS_at gn]
  by_cases c1 : i.op = 1
  · exact ok_val (v := .sl (some (g1.next, 0)) 1 (.ex 1)) (g := g1.new (.cells true (wI [i.b]))) (by simp -implicitDefEqProofs only [k_ref9_Reads, hbx, hbi, mk_some, hg, hg1, faP_ptr, Option.bind_some, l0, eql_int, bin_geq, bin_leq, Int.reduceEq, Int.reduceLE, decide_true, decide_false, gdW_tf, gdW_ff, gdW_tt, gdW_ft, gdW_tup, gQ_false, gQ_true, cl_some, pickP_bool, if_true, Bool.false_eq_true, if_false, condE_true, condE_false, c1, l2, bs1]) (by rw [show readsL m i = [i.b] by simp only [readsL, c1, Int.reduceEq, Int.reduceLE, true_or, or_true, false_or, or_false, or_self, and_self, and_true, true_and, and_false, false_and, if_true, if_false, ite_true]]; exact Lst.lit s2 [i.b])
  by_cases c17 : i.op = 17
  · exact ok_val (v := .sl (some (g1.next, 0)) 1 (.ex 1)) (g := g1.new (.cells true (wI [i.b]))) (by simp -implicitDefEqProofs only [k_ref9_Reads, hbx, hbi, mk_some, hg, hg1, faP_ptr, Option.bind_some, l0, eql_int, bin_geq, bin_leq, Int.reduceEq, Int.reduceLE, decide_true, decide_false, gdW_tf, gdW_ff, gdW_tt, gdW_ft, gdW_tup, gQ_false, gQ_true, cl_some, pickP_bool, if_true, Bool.false_eq_true, if_false, condE_true, condE_false, c17, l2, bs1]) (by rw [show readsL m i = [i.b] by simp only [readsL, c17, Int.reduceEq, Int.reduceLE, true_or, or_true, false_or, or_false, or_self, and_self, and_true, true_and, and_false, false_and, if_true, if_false, ite_true]]; exact Lst.lit s2 [i.b])
  by_cases c33 : i.op = 33
  · exact ok_val (v := .sl (some (g1.next, 0)) 1 (.ex 1)) (g := g1.new (.cells true (wI [i.b]))) (by simp -implicitDefEqProofs only [k_ref9_Reads, hbx, hbi, mk_some, hg, hg1, faP_ptr, Option.bind_some, l0, eql_int, bin_geq, bin_leq, Int.reduceEq, Int.reduceLE, decide_true, decide_false, gdW_tf, gdW_ff, gdW_tt, gdW_ft, gdW_tup, gQ_false, gQ_true, cl_some, pickP_bool, if_true, Bool.false_eq_true, if_false, condE_true, condE_false, c33, l2, bs1]) (by rw [show readsL m i = [i.b] by simp only [readsL, c33, Int.reduceEq, Int.reduceLE, true_or, or_true, false_or, or_false, or_self, and_self, and_true, true_and, and_false, false_and, if_true, if_false, ite_true]]; exact Lst.lit s2 [i.b])
  by_cases c35 : i.op = 35
  · exact ok_val (v := .sl (some (g1.next, 0)) 1 (.ex 1)) (g := g1.new (.cells true (wI [i.b]))) (by simp -implicitDefEqProofs only [k_ref9_Reads, hbx, hbi, mk_some, hg, hg1, faP_ptr, Option.bind_some, l0, eql_int, bin_geq, bin_leq, Int.reduceEq, Int.reduceLE, decide_true, decide_false, gdW_tf, gdW_ff, gdW_tt, gdW_ft, gdW_tup, gQ_false, gQ_true, cl_some, pickP_bool, if_true, Bool.false_eq_true, if_false, condE_true, condE_false, c35, l2, bs1]) (by rw [show readsL m i = [i.b] by simp only [readsL, c35, Int.reduceEq, Int.reduceLE, true_or, or_true, false_or, or_false, or_self, and_self, and_true, true_and, and_false, false_and, if_true, if_false, ite_true]]; exact Lst.lit s2 [i.b])
  by_cases c27 : i.op = 27
  · exact ok_val (v := .sl (some (g1.next, 0)) 1 (.ex 1)) (g := g1.new (.cells true (wI [i.b]))) (by simp -implicitDefEqProofs only [k_ref9_Reads, hbx, hbi, mk_some, hg, hg1, faP_ptr, Option.bind_some, l0, eql_int, bin_geq, bin_leq, Int.reduceEq, Int.reduceLE, decide_true, decide_false, gdW_tf, gdW_ff, gdW_tt, gdW_ft, gdW_tup, gQ_false, gQ_true, cl_some, pickP_bool, if_true, Bool.false_eq_true, if_false, condE_true, condE_false, c27, l2, bs1]) (by rw [show readsL m i = [i.b] by simp only [readsL, c27, Int.reduceEq, Int.reduceLE, true_or, or_true, false_or, or_false, or_self, and_self, and_true, true_and, and_false, false_and, if_true, if_false, ite_true]]; exact Lst.lit s2 [i.b])
  by_cases c39 : i.op = 39
  · exact ok_val (v := .sl (some (g1.next, 0)) 1 (.ex 1)) (g := g1.new (.cells true (wI [i.b]))) (by simp -implicitDefEqProofs only [k_ref9_Reads, hbx, hbi, mk_some, hg, hg1, faP_ptr, Option.bind_some, l0, eql_int, bin_geq, bin_leq, Int.reduceEq, Int.reduceLE, decide_true, decide_false, gdW_tf, gdW_ff, gdW_tt, gdW_ft, gdW_tup, gQ_false, gQ_true, cl_some, pickP_bool, if_true, Bool.false_eq_true, if_false, condE_true, condE_false, c39, l2, bs1]) (by rw [show readsL m i = [i.b] by simp only [readsL, c39, Int.reduceEq, Int.reduceLE, true_or, or_true, false_or, or_false, or_self, and_self, and_true, true_and, and_false, false_and, if_true, if_false, ite_true]]; exact Lst.lit s2 [i.b])
  by_cases r0 : 3 ≤ i.op ∧ i.op ≤ 16
  · obtain ⟨r1, r2⟩ := r0
    have n1 : ¬ i.op = 1 := by omega
    have n17 : ¬ i.op = 17 := by omega
    have n33 : ¬ i.op = 33 := by omega
    have n35 : ¬ i.op = 35 := by omega
    have n27 : ¬ i.op = 27 := by omega
    have n39 : ¬ i.op = 39 := by omega
    have n30 : ¬ i.op = 30 := by omega
    exact ok_val (v := .sl (some (g1.next, 0)) 2 (.ex 2)) (g := g1.new (.cells true (wI [i.b, i.c]))) (by simp -implicitDefEqProofs only [k_ref9_Reads, hbx, hbi, mk_some, hg, hg1, faP_ptr, Option.bind_some, l0, eql_int, bin_geq, bin_leq, Int.reduceEq, Int.reduceLE, decide_true, decide_false, gdW_tf, gdW_ff, gdW_tt, gdW_ft, gdW_tup, gQ_false, gQ_true, cl_some, pickP_bool, if_true, Bool.false_eq_true, if_false, condE_true, condE_false, r1, r2, n1, n17, n33, n35, n27, n39, n30, l2, l3, bs2]) (by rw [show readsL m i = [i.b, i.c] by simp only [readsL, r1, r2, n1, n17, n33, n35, n27, n39, n30, Int.reduceEq, Int.reduceLE, true_or, or_true, false_or, or_false, or_self, and_self, and_true, true_and, and_false, false_and, if_true, if_false, ite_true]]; exact Lst.lit s2 [i.b, i.c])
  by_cases c30 : i.op = 30
  · exact ok_val (v := .sl (some (g1.next, 0)) 2 (.ex 2)) (g := g1.new (.cells true (wI [i.b, i.c]))) (by simp -implicitDefEqProofs only [k_ref9_Reads, hbx, hbi, mk_some, hg, hg1, faP_ptr, Option.bind_some, l0, eql_int, bin_geq, bin_leq, Int.reduceEq, Int.reduceLE, decide_true, decide_false, gdW_tf, gdW_ff, gdW_tt, gdW_ft, gdW_tup, gQ_false, gQ_true, cl_some, pickP_bool, if_true, Bool.false_eq_true, if_false, condE_true, condE_false, c30, l2, l3, bs2]) (by rw [show readsL m i = [i.b, i.c] by simp only [readsL, c30, Int.reduceEq, Int.reduceLE, true_or, or_true, false_or, or_false, or_self, and_self, and_true, true_and, and_false, false_and, if_true, if_false, ite_true]]; exact Lst.lit s2 [i.b, i.c])
  by_cases c19 : i.op = 19
  · exact ok_val (v := .sl (some (g1.next, 0)) 1 (.ex 1)) (g := g1.new (.cells true (wI [i.a]))) (by simp -implicitDefEqProofs only [k_ref9_Reads, hbx, hbi, mk_some, hg, hg1, faP_ptr, Option.bind_some, l0, eql_int, bin_geq, bin_leq, Int.reduceEq, Int.reduceLE, decide_true, decide_false, gdW_tf, gdW_ff, gdW_tt, gdW_ft, gdW_tup, gQ_false, gQ_true, cl_some, pickP_bool, if_true, Bool.false_eq_true, if_false, condE_true, condE_false, c19, l1, bs1]) (by rw [show readsL m i = [i.a] by simp only [readsL, c19, Int.reduceEq, Int.reduceLE, true_or, or_true, false_or, or_false, or_self, and_self, and_true, true_and, and_false, false_and, if_true, if_false, ite_true]]; exact Lst.lit s2 [i.a])
  by_cases c40 : i.op = 40
  · exact ok_val (v := .sl (some (g1.next, 0)) 1 (.ex 1)) (g := g1.new (.cells true (wI [i.a]))) (by simp -implicitDefEqProofs only [k_ref9_Reads, hbx, hbi, mk_some, hg, hg1, faP_ptr, Option.bind_some, l0, eql_int, bin_geq, bin_leq, Int.reduceEq, Int.reduceLE, decide_true, decide_false, gdW_tf, gdW_ff, gdW_tt, gdW_ft, gdW_tup, gQ_false, gQ_true, cl_some, pickP_bool, if_true, Bool.false_eq_true, if_false, condE_true, condE_false, c40, l1, bs1]) (by rw [show readsL m i = [i.a] by simp only [readsL, c40, Int.reduceEq, Int.reduceLE, true_or, or_true, false_or, or_false, or_self, and_self, and_true, true_and, and_false, false_and, if_true, if_false, ite_true]]; exact Lst.lit s2 [i.a])
  by_cases c42 : i.op = 42
  · exact ok_val (v := .sl (some (g1.next, 0)) 1 (.ex 1)) (g := g1.new (.cells true (wI [i.a]))) (by simp -implicitDefEqProofs only [k_ref9_Reads, hbx, hbi, mk_some, hg, hg1, faP_ptr, Option.bind_some, l0, eql_int, bin_geq, bin_leq, Int.reduceEq, Int.reduceLE, decide_true, decide_false, gdW_tf, gdW_ff, gdW_tt, gdW_ft, gdW_tup, gQ_false, gQ_true, cl_some, pickP_bool, if_true, Bool.false_eq_true, if_false, condE_true, condE_false, c42, l1, bs1]) (by rw [show readsL m i = [i.a] by simp only [readsL, c42, Int.reduceEq, Int.reduceLE, true_or, or_true, false_or, or_false, or_self, and_self, and_true, true_and, and_false, false_and, if_true, if_false, ite_true]]; exact Lst.lit s2 [i.a])
  by_cases c20 : i.op = 20
  · refine Ok.eq ?_ (by simp -implicitDefEqProofs only [k_ref9_Reads, hbx, hbi, mk_some, hg, hg1, faP_ptr, Option.bind_some, l0, eql_int, bin_geq, bin_leq, Int.reduceEq, Int.reduceLE, decide_true, decide_false, gdW_tf, gdW_ff, gdW_tt, gdW_ft, gdW_tup, gQ_false, gQ_true, cl_some, pickP_bool, if_true, Bool.false_eq_true, if_false, condE_true, condE_false, c20, rdC_some (f := fun k => ldS k (.ptr (some (g.next, 0 + 3)))) (h := g1) l3, clC_some, B1.la, l2]; rfl)
    refine ok_cl (fn9_ok B1.rd i.b) ?_
    rintro _ g2 ⟨s3, rest, rfl⟩
    simp only at s3
    refine Ok.eq ?_ (by simp -implicitDefEqProofs only [fvS0, Option.bind_some]; rfl)
    refine ok_cl (run9_ok i.c (fnP m i.b) g2) ?_
    intro v2 g3 h3
    simp only at h3
    refine ok_val (v := v2) (g := g3) (chk_two (same_int _ _) l3 (by rw [later g2 _ s3]; exact l3)) ?_
    rw [show readsL m i = runL i.c (fnP m i.b) by simp only [readsL, c20, Int.reduceEq, Int.reduceLE, true_or, or_true, false_or, or_false, or_self, and_self, and_true, true_and, and_false, false_and, if_true, if_false, ite_true]]
    exact h3.old (s2.trans s3)
  by_cases c21 : i.op = 21
  · have sp := hpN_same g1 1
    have p1 : ldS (hpN g1 1) (.ptr (some (g.next, 0 + 2))) = some (.int .i64 i.b) := by rw [later _ _ sp]; exact l2
    have p2 : ldS (hpN g1 1) (.ptr (some (g.next, 0 + 3))) = some (.int .i64 i.c) := by rw [later _ _ sp]; exact l3
    have p3 : ldS (hpN g1 1) (.ptr (some (g.next, 0 + 4))) = some (.int .i64 i.d) := by rw [later _ _ sp]; exact l4
    refine Ok.eq ?_ (by simp -implicitDefEqProofs only [k_ref9_Reads, hbx, hbi, mk_some, hg, hg1, faP_ptr, Option.bind_some, l0, eql_int, bin_geq, bin_leq, Int.reduceEq, Int.reduceLE, decide_true, decide_false, gdW_tf, gdW_ff, gdW_tt, gdW_ft, gdW_tup, gQ_false, gQ_true, cl_some, pickP_bool, if_true, Bool.false_eq_true, if_false, condE_true, condE_false, c21, rdC_some (f := fun k => ldS k (.ptr (some (g.next, 0 + 2)))) (h := hpN g1 1) p1, clC_some, p2, p3]; rfl)
    refine ok_cl (run9_ok i.c i.d (hpN g1 1)) ?_
    intro v2 g2 h2
    simp only at h2
    have hlt : g1.next < g2.next := by have := h2.same.next; simp only [hpN] at this; omega
    have hput : Same [] h (g2.put (g1.next + 0) (some (.cells true (wI [i.b])))) := (s2.trans (sp.trans h2.same)).old (Same.put _ _ _) (fun j hj => .inr (by simp at hj; have := s2.next; omega))
    have hrd : RdW (g2.put (g1.next + 0) (some (.cells true (wI [i.b])))) 1 v2 (wI (runL i.c i.d)) (runL i.c i.d).length := by
      refine ⟨by simp [wI], ?_⟩
      rcases h2.eq with ⟨e1, e2⟩ | ⟨b, c, rest, e1, e2, e3, _, e5, _⟩
      · exact .inl ⟨e1, by rw [e2]; rfl⟩
      · exact .inr ⟨b, 0, c, e1, e3, fun _ => ⟨true, [], rest, rfl, by rw [get_put_ne (by simp only [hpN] at e2; omega)]; simpa using e5⟩⟩
    obtain ⟨v3, g3, e3, h3, h4⟩ := app_front (h0 := h) (b := g1.next + 0) (x := i.b) get_put_eq (by have := s2.next; omega) (by simp only [Heap.next_put]; omega) hput hrd (by have := runL_len i.c i.d; omega)
    refine ok_val (v := v3) (g := g3) (by
      simp -implicitDefEqProofs only [bs1, mkAt_some, cl_some]
      show cl (appendA (g2.put (g1.next + 0) (some (.cells true (wI [i.b])))) 1 8 (.sl (some (g1.next + 0, 0)) 1 (.ex 1)) v2) _ = _
      rw [e3, cl_some]
      exact chk_two (same_int _ _) p1 (by rw [later g2 _ (sp.trans h2.same)]; exact l2)) ?_
    rw [show readsL m i = i.b :: runL i.c i.d by simp only [readsL, c21, Int.reduceEq, Int.reduceLE, true_or, or_true, false_or, or_false, or_self, and_self, and_true, true_and, and_false, false_and, if_true, if_false, ite_true]]
    exact h3
  by_cases c22 : i.op = 22
  · by_cases ca : i.a = -1
    · refine ok_val (v := .sl none 0 (.ex 0)) (g := g1) (by simp -implicitDefEqProofs only [k_ref9_Reads, hbx, hbi, mk_some, hg, hg1, faP_ptr, Option.bind_some, l0, eql_int, bin_geq, bin_leq, Int.reduceEq, Int.reduceLE, decide_true, decide_false, gdW_tf, gdW_ff, gdW_tt, gdW_ft, gdW_tup, gQ_false, gQ_true, cl_some, pickP_bool, if_true, Bool.false_eq_true, if_false, condE_true, condE_false, c22, l1, ca]) ?_
      rw [show readsL m i = gvn [i.a] by simp only [readsL, c22, Int.reduceEq, Int.reduceLE, true_or, or_true, false_or, or_false, or_self, and_self, and_true, true_and, and_false, false_and, if_true, if_false, ite_true], show gvn [i.a] = [] by simp [gvn, ca]]
      exact Lst.mt s2
    · refine ok_val (v := .sl (some (g1.next, 0)) 1 (.ex 1)) (g := g1.new (.cells true (wI [i.a]))) (by simp -implicitDefEqProofs only [k_ref9_Reads, hbx, hbi, mk_some, hg, hg1, faP_ptr, Option.bind_some, l0, eql_int, bin_geq, bin_leq, Int.reduceEq, Int.reduceLE, decide_true, decide_false, gdW_tf, gdW_ff, gdW_tt, gdW_ft, gdW_tup, gQ_false, gQ_true, cl_some, pickP_bool, if_true, Bool.false_eq_true, if_false, condE_true, condE_false, c22, l1, ca, bs1]) ?_
      rw [show readsL m i = gvn [i.a] by simp only [readsL, c22, Int.reduceEq, Int.reduceLE, true_or, or_true, false_or, or_false, or_self, and_self, and_true, true_and, and_false, false_and, if_true, if_false, ite_true], show gvn [i.a] = [i.a] by simp [gvn, ca]]
      exact Lst.lit s2 [i.a]
  by_cases c23 : i.op = 23
  · refine Ok.eq ?_ (by simp -implicitDefEqProofs only [k_ref9_Reads, hbx, hbi, mk_some, hg, hg1, faP_ptr, Option.bind_some, l0, eql_int, bin_geq, bin_leq, Int.reduceEq, Int.reduceLE, decide_true, decide_false, gdW_tf, gdW_ff, gdW_tt, gdW_ft, gdW_tup, gQ_false, gQ_true, cl_some, pickP_bool, if_true, Bool.false_eq_true, if_false, condE_true, condE_false, c23, rdC_some (f := fun k => ldS k (.ptr (some (g.next, 0 + 2)))) (h := g1) l2, clC_some, B1.la, l1]; rfl)
    refine ok_cl (fn9_ok B1.rd i.a) ?_
    rintro _ g2 ⟨s3, rest, rfl⟩
    simp only at s3
    refine Ok.eq ?_ (by simp -implicitDefEqProofs only [fvS0, Option.bind_some]; rfl)
    refine ok_cl (run9_ok i.b (fnP m i.a) g2) ?_
    intro v2 g3 h3
    simp only at h3
    refine ok_val (v := v2) (g := g3) (chk_two (same_int _ _) l2 (by rw [later g2 _ s3]; exact l2)) ?_
    rw [show readsL m i = runL i.b (fnP m i.a) by simp only [readsL, c23, Int.reduceEq, Int.reduceLE, true_or, or_true, false_or, or_false, or_self, and_self, and_true, true_and, and_false, false_and, if_true, if_false, ite_true]]
    exact h3.old (s2.trans s3)
  by_cases c24 : i.op = 24
  · have sp := hpN_same g1 1
    have p1 : ldS (hpN g1 1) (.ptr (some (g.next, 0 + 1))) = some (.int .i64 i.a) := by rw [later _ _ sp]; exact l1
    have p2 : ldS (hpN g1 1) (.ptr (some (g.next, 0 + 2))) = some (.int .i64 i.b) := by rw [later _ _ sp]; exact l2
    have p3 : ldS (hpN g1 1) (.ptr (some (g.next, 0 + 3))) = some (.int .i64 i.c) := by rw [later _ _ sp]; exact l3
    refine Ok.eq ?_ (by simp -implicitDefEqProofs only [k_ref9_Reads, hbx, hbi, mk_some, hg, hg1, faP_ptr, Option.bind_some, l0, eql_int, bin_geq, bin_leq, Int.reduceEq, Int.reduceLE, decide_true, decide_false, gdW_tf, gdW_ff, gdW_tt, gdW_ft, gdW_tup, gQ_false, gQ_true, cl_some, pickP_bool, if_true, Bool.false_eq_true, if_false, condE_true, condE_false, c24, rdC_some (f := fun k => ldS k (.ptr (some (g.next, 0 + 1)))) (h := hpN g1 1) p1, clC_some, p2, p3]; rfl)
    refine ok_cl (run9_ok i.b i.c (hpN g1 1)) ?_
    intro v2 g2 h2
    simp only at h2
    have hlt : g1.next < g2.next := by have := h2.same.next; simp only [hpN] at this; omega
    have hput : Same [] h (g2.put (g1.next + 0) (some (.cells true (wI [i.a])))) := (s2.trans (sp.trans h2.same)).old (Same.put _ _ _) (fun j hj => .inr (by simp at hj; have := s2.next; omega))
    have hrd : RdW (g2.put (g1.next + 0) (some (.cells true (wI [i.a])))) 1 v2 (wI (runL i.b i.c)) (runL i.b i.c).length := by
      refine ⟨by simp [wI], ?_⟩
      rcases h2.eq with ⟨e1, e2⟩ | ⟨b, c, rest, e1, e2, e3, _, e5, _⟩
      · exact .inl ⟨e1, by rw [e2]; rfl⟩
      · exact .inr ⟨b, 0, c, e1, e3, fun _ => ⟨true, [], rest, rfl, by rw [get_put_ne (by simp only [hpN] at e2; omega)]; simpa using e5⟩⟩
    obtain ⟨v3, g3, e3, h3, h4⟩ := app_front (h0 := h) (b := g1.next + 0) (x := i.a) get_put_eq (by have := s2.next; omega) (by simp only [Heap.next_put]; omega) hput hrd (by have := runL_len i.b i.c; omega)
    refine ok_val (v := v3) (g := g3) (by
      simp -implicitDefEqProofs only [bs1, mkAt_some, cl_some]
      show cl (appendA (g2.put (g1.next + 0) (some (.cells true (wI [i.a])))) 1 8 (.sl (some (g1.next + 0, 0)) 1 (.ex 1)) v2) _ = _
      rw [e3, cl_some]
      exact chk_two (same_int _ _) p1 (by rw [later g2 _ (sp.trans h2.same)]; exact l1)) ?_
    rw [show readsL m i = i.a :: runL i.b i.c by simp only [readsL, c24, Int.reduceEq, Int.reduceLE, true_or, or_true, false_or, or_false, or_self, and_self, and_true, true_and, and_false, false_and, if_true, if_false, ite_true]]
    exact h3
  by_cases c26 : i.op = 26
  · exact ok_val (v := .sl (some (g1.next, 0)) 1 (.ex 1)) (g := g1.new (.cells true (wI [i.c]))) (by simp -implicitDefEqProofs only [k_ref9_Reads, hbx, hbi, mk_some, hg, hg1, faP_ptr, Option.bind_some, l0, eql_int, bin_geq, bin_leq, Int.reduceEq, Int.reduceLE, decide_true, decide_false, gdW_tf, gdW_ff, gdW_tt, gdW_ft, gdW_tup, gQ_false, gQ_true, cl_some, pickP_bool, if_true, Bool.false_eq_true, if_false, condE_true, condE_false, c26, l3, bs1]) (by rw [show readsL m i = [i.c] by simp only [readsL, c26, Int.reduceEq, Int.reduceLE, true_or, or_true, false_or, or_false, or_self, and_self, and_true, true_and, and_false, false_and, if_true, if_false, ite_true]]; exact Lst.lit s2 [i.c])
  by_cases c37 : i.op = 37
  · exact ok_val (v := .sl (some (g1.next, 0)) 1 (.ex 1)) (g := g1.new (.cells true (wI [i.c]))) (by simp -implicitDefEqProofs only [k_ref9_Reads, hbx, hbi, mk_some, hg, hg1, faP_ptr, Option.bind_some, l0, eql_int, bin_geq, bin_leq, Int.reduceEq, Int.reduceLE, decide_true, decide_false, gdW_tf, gdW_ff, gdW_tt, gdW_ft, gdW_tup, gQ_false, gQ_true, cl_some, pickP_bool, if_true, Bool.false_eq_true, if_false, condE_true, condE_false, c37, l3, bs1]) (by rw [show readsL m i = [i.c] by simp only [readsL, c37, Int.reduceEq, Int.reduceLE, true_or, or_true, false_or, or_false, or_self, and_self, and_true, true_and, and_false, false_and, if_true, if_false, ite_true]]; exact Lst.lit s2 [i.c])
  by_cases c28 : i.op = 28
  · exact ok_val (v := .sl (some (g1.next, 0)) 2 (.ex 2)) (g := g1.new (.cells true (wI [i.a, i.c]))) (by simp -implicitDefEqProofs only [k_ref9_Reads, hbx, hbi, mk_some, hg, hg1, faP_ptr, Option.bind_some, l0, eql_int, bin_geq, bin_leq, Int.reduceEq, Int.reduceLE, decide_true, decide_false, gdW_tf, gdW_ff, gdW_tt, gdW_ft, gdW_tup, gQ_false, gQ_true, cl_some, pickP_bool, if_true, Bool.false_eq_true, if_false, condE_true, condE_false, c28, l1, l3, bs2]) (by rw [show readsL m i = [i.a, i.c] by simp only [readsL, c28, Int.reduceEq, Int.reduceLE, true_or, or_true, false_or, or_false, or_self, and_self, and_true, true_and, and_false, false_and, if_true, if_false, ite_true]]; exact Lst.lit s2 [i.a, i.c])
  by_cases c29 : i.op = 29
  · exact ok_val (v := .sl (some (g1.next, 0)) 2 (.ex 2)) (g := g1.new (.cells true (wI [i.a, i.c]))) (by simp -implicitDefEqProofs only [k_ref9_Reads, hbx, hbi, mk_some, hg, hg1, faP_ptr, Option.bind_some, l0, eql_int, bin_geq, bin_leq, Int.reduceEq, Int.reduceLE, decide_true, decide_false, gdW_tf, gdW_ff, gdW_tt, gdW_ft, gdW_tup, gQ_false, gQ_true, cl_some, pickP_bool, if_true, Bool.false_eq_true, if_false, condE_true, condE_false, c29, l1, l3, bs2]) (by rw [show readsL m i = [i.a, i.c] by simp only [readsL, c29, Int.reduceEq, Int.reduceLE, true_or, or_true, false_or, or_false, or_self, and_self, and_true, true_and, and_false, false_and, if_true, if_false, ite_true]]; exact Lst.lit s2 [i.a, i.c])
  by_cases c31 : i.op = 31
  · exact ok_val (v := .sl (some (g1.next, 0)) 3 (.ex 3)) (g := g1.new (.cells true (wI [i.a, i.b, i.c]))) (by simp -implicitDefEqProofs only [k_ref9_Reads, hbx, hbi, mk_some, hg, hg1, faP_ptr, Option.bind_some, l0, eql_int, bin_geq, bin_leq, Int.reduceEq, Int.reduceLE, decide_true, decide_false, gdW_tf, gdW_ff, gdW_tt, gdW_ft, gdW_tup, gQ_false, gQ_true, cl_some, pickP_bool, if_true, Bool.false_eq_true, if_false, condE_true, condE_false, c31, l1, l2, l3, bs3]) (by rw [show readsL m i = [i.a, i.b, i.c] by simp only [readsL, c31, Int.reduceEq, Int.reduceLE, true_or, or_true, false_or, or_false, or_self, and_self, and_true, true_and, and_false, false_and, if_true, if_false, ite_true]]; exact Lst.lit s2 [i.a, i.b, i.c])
  by_cases c32 : i.op = 32
  · exact ok_val (v := .sl (some (g1.next, 0)) 3 (.ex 3)) (g := g1.new (.cells true (wI [i.a, i.b, i.c]))) (by simp -implicitDefEqProofs only [k_ref9_Reads, hbx, hbi, mk_some, hg, hg1, faP_ptr, Option.bind_some, l0, eql_int, bin_geq, bin_leq, Int.reduceEq, Int.reduceLE, decide_true, decide_false, gdW_tf, gdW_ff, gdW_tt, gdW_ft, gdW_tup, gQ_false, gQ_true, cl_some, pickP_bool, if_true, Bool.false_eq_true, if_false, condE_true, condE_false, c32, l1, l2, l3, bs3]) (by rw [show readsL m i = [i.a, i.b, i.c] by simp only [readsL, c32, Int.reduceEq, Int.reduceLE, true_or, or_true, false_or, or_false, or_self, and_self, and_true, true_and, and_false, false_and, if_true, if_false, ite_true]]; exact Lst.lit s2 [i.a, i.b, i.c])
  by_cases c36 : i.op = 36
  · refine Ok.eq ?_ (by simp -implicitDefEqProofs only [k_ref9_Reads, hbx, hbi, mk_some, hg, hg1, faP_ptr, Option.bind_some, l0, eql_int, bin_geq, bin_leq, Int.reduceEq, Int.reduceLE, decide_true, decide_false, gdW_tf, gdW_ff, gdW_tt, gdW_ft, gdW_tup, gQ_false, gQ_true, cl_some, pickP_bool, if_true, Bool.false_eq_true, if_false, condE_true, condE_false, c36, rdC_some (f := fun k => ldS k (.ptr (some (g.next, 0 + 3)))) (h := g1) l3, clC_some, B1.la, l2]; rfl)
    refine ok_cl (fn9_ok B1.rd i.b) ?_
    rintro _ g2 ⟨s3, rest, rfl⟩
    simp only at s3
    refine Ok.eq ?_ (by simp -implicitDefEqProofs only [fvS1, Option.bind_some]; rfl)
    refine ok_cl (run9_ok i.c (fnC m i.b) g2) ?_
    intro v2 g3 h3
    simp only at h3
    refine ok_val (v := v2) (g := g3) (chk_two (same_int _ _) l3 (by rw [later g2 _ s3]; exact l3)) ?_
    rw [show readsL m i = runL i.c (fnC m i.b) by simp only [readsL, c36, Int.reduceEq, Int.reduceLE, true_or, or_true, false_or, or_false, or_self, and_self, and_true, true_and, and_false, false_and, if_true, if_false, ite_true]]
    exact h3.old (s2.trans s3)
  by_cases c38 : i.op = 38
  · exact ok_val (v := .sl (some (g1.next, 0)) 2 (.ex 2)) (g := g1.new (.cells true (wI [i.a, i.b]))) (by simp -implicitDefEqProofs only [k_ref9_Reads, hbx, hbi, mk_some, hg, hg1, faP_ptr, Option.bind_some, l0, eql_int, bin_geq, bin_leq, Int.reduceEq, Int.reduceLE, decide_true, decide_false, gdW_tf, gdW_ff, gdW_tt, gdW_ft, gdW_tup, gQ_false, gQ_true, cl_some, pickP_bool, if_true, Bool.false_eq_true, if_false, condE_true, condE_false, c38, l1, l2, bs2]) (by rw [show readsL m i = [i.a, i.b] by simp only [readsL, c38, Int.reduceEq, Int.reduceLE, true_or, or_true, false_or, or_false, or_self, and_self, and_true, true_and, and_false, false_and, if_true, if_false, ite_true]]; exact Lst.lit s2 [i.a, i.b])
  by_cases c41 : i.op = 41
  · refine Ok.eq ?_ (by simp -implicitDefEqProofs only [k_ref9_Reads, hbx, hbi, mk_some, hg, hg1, faP_ptr, Option.bind_some, l0, eql_int, bin_geq, bin_leq, Int.reduceEq, Int.reduceLE, decide_true, decide_false, gdW_tf, gdW_ff, gdW_tt, gdW_ft, gdW_tup, gQ_false, gQ_true, cl_some, pickP_bool, if_true, Bool.false_eq_true, if_false, condE_true, condE_false, c41, B1.la, la]; rfl)
    refine ok_cl (cases9_ok B1.rd i hw.2.1 hw.2.2.1) ?_
    rintro _ g2 ⟨v2, t2, rfl, s3, h3⟩
    simp only at s3 h3
    have hcl : (casesOf m i.a i.b).length ≤ m.cases.length := by
      unfold casesOf
      split
      · simp
      · simp only [List.length_take, List.length_drop]; omega
    refine Ok.eq ?_ (by simp -implicitDefEqProofs only [extractV, atO_eq, Option.bind_some, List.getElem?_cons_zero, List.getElem?_cons_succ]; rfl)
    refine ok_lp (readsL9_ok h3 (by omega)) ?_
    rintro _ vs g3 ⟨rfl, q, rfl, h4⟩
    simp only at h4
    refine ok_val (v := vs.getD 0 .bot) (g := g3) (by simp -implicitDefEqProofs only [if_true, thenK_normal]) ?_
    rw [show readsL m i = readsOfL (casesOf m i.a i.b) by simp only [readsL, c41, Int.reduceEq, Int.reduceLE, true_or, or_true, false_or, or_false, or_self, and_self, and_true, true_and, and_false, false_and, if_true, if_false, ite_true]]
    exact Lst.old h4 (s2.trans s3)
  have hr : (3 ≤ i.op) = True ∧ (i.op ≤ 16) = False ∨ (3 ≤ i.op) = False := by
    by_cases h3 : 3 ≤ i.op
    · exact .inl ⟨by simp [h3], by simp; omega⟩
    · exact .inr (by simp [h3])
  rcases hr with ⟨r1, r2⟩ | r1
  · refine ok_val (v := .sl none 0 (.ex 0)) (g := g1) (by simp -implicitDefEqProofs only [k_ref9_Reads, hbx, hbi, mk_some, hg, hg1, faP_ptr, Option.bind_some, l0, eql_int, bin_geq, bin_leq, Int.reduceEq, Int.reduceLE, decide_true, decide_false, gdW_tf, gdW_ff, gdW_tt, gdW_ft, gdW_tup, gQ_false, gQ_true, cl_some, pickP_bool, if_true, Bool.false_eq_true, if_false, condE_true, condE_false, c1, c17, c33, c35, c27, c39, c30, c19, c40, c42, c20, c21, c22, c23, c24, c26, c37, c28, c29, c31, c32, c36, c38, c41, r1, r2]) ?_
    rw [show readsL m i = [] by simp only [readsL, c1, c17, c33, c35, c27, c39, c30, c19, c40, c42, c20, c21, c22, c23, c24, c26, c37, c28, c29, c31, c32, c36, c38, c41, r1, r2, or_self, and_false, if_false]]
    exact Lst.mt s2
  · refine ok_val (v := .sl none 0 (.ex 0)) (g := g1) (by simp -implicitDefEqProofs only [k_ref9_Reads, hbx, hbi, mk_some, hg, hg1, faP_ptr, Option.bind_some, l0, eql_int, bin_geq, bin_leq, Int.reduceEq, Int.reduceLE, decide_true, decide_false, gdW_tf, gdW_ff, gdW_tt, gdW_ft, gdW_tup, gQ_false, gQ_true, cl_some, pickP_bool, if_true, Bool.false_eq_true, if_false, condE_true, condE_false, c1, c17, c33, c35, c27, c39, c30, c19, c40, c42, c20, c21, c22, c23, c24, c26, c37, c28, c29, c31, c32, c36, c38, c41, r1]) ?_
    rw [show readsL m i = [] by simp only [readsL, c1, c17, c33, c35, c27, c39, c30, c19, c40, c42, c20, c21, c22, c23, c24, c26, c37, c28, c29, c31, c32, c36, c38, c41, r1, or_self, false_and, if_false]]
    exact Lst.mt s2
end Go.Ab.F

namespace Go.Ab.F
open Go Go.Ab
set_option linter.all false
set_option linter.unusedSimpArgs false
attribute [local congr] c_bind c_cl c_mk c_lp c_clC c_gQ c_gV c_condE c_thenK

theorem writes9_j {h g : Heap} {p : Nat} {c : Int} (l3 : ∀ g', Same [] g g' → ldS g' (.ptr (some (p, 0 + 3))) = some (.int .i64 c)) (s : Same [] h g) {v : AV} {b : Option Nat} {l : List Int} (H : SlB g b 1 v (wI l) l.length) (hb : ∀ j, b = some j → h.next ≤ j) (hl : l.length ≤ 1) :
    Ok (k_ref9_Writes_j0 (.ptr (some (p, 0))) v g) fun r => Lst h r.2 r.1 (l ++ gvn [c]) := by
  have l4 := l3 g (Same.refl _ _)
  by_cases cc : c = -1
  · refine ok_val (v := v) (g := g) (by simp -implicitDefEqProofs only [k_ref9_Writes_j0, faP_ptr, Option.bind_some, l4, neq_int, cc, decide_true, Bool.not_true, condE_false]) ?_
    rw [show gvn [c] = [] by simp [gvn, cc], List.append_nil]
    exact Lst.of_slb H hb s
  · rw [show gvn [c] = [c] by simp [gvn, cc]]
    refine Ok.eq ?_ (by simp -implicitDefEqProofs only [k_ref9_Writes_j0, faP_ptr, Option.bind_some, l4, neq_int, cc, decide_false, Bool.not_false, condE_true]; rfl)
    refine app1 H rfl rfl rfl (by decide) (by omega) fun v' g3 h3 s3 n3 => ?_
    refine ok_val (v := v') (g := g3) rfl ?_
    have e : wI l ++ (AV.int .i64 c).cells = wI (l ++ [c]) := by simp [wI, AV.cells]
    rw [e] at h3
    have h3' : SlB g3 (some (g.next + 1)) 1 v' (wI (l ++ [c])) (l ++ [c]).length := by rw [List.length_append]; exact h3
    exact Lst.of_slb h3' (fun j hj => by cases hj; have := s.next; omega) (s.old s3 fun j hj => by
      cases b with
      | none => simp at hj
      | some x => simp at hj; subst hj; exact .inr (hb _ rfl))
theorem writes9_ok {h : Heap} (i : Ins) : Ok (k_ref9_Writes (.agg i.row) h) fun r => Lst h r.2 r.1 (writesL i) := by
  have hbi := bx_agg (Ins.sc i)
  have s2 : Same [] h (h.new (.cells true i.row)) := Same.new _ _
  have gn : (h.new (.cells true i.row)).get h.next = some (.cells true i.row) := get_new_eq
  have hn1 : (h.new (.cells true i.row)).next = h.next + 1 := rfl
  generalize hg1 : h.new (.cells true i.row) = g1 at *
  have l0 : ldS g1 (.ptr (some (h.next, 0 + 0))) = some (.int .i64 i.op) := by rw [ldS_at gn]; rfl
  have l1 : ldS g1 (.ptr (some (h.next, 0 + 1))) = some (.int .i64 i.a) := by rw [ldS_at gn]; rfl
  have l3 : ∀ g', Same [] g1 g' → ldS g' (.ptr (some (h.next, 0 + 3))) = some (.int .i64 i.c) := fun g' s => by rw [ldS_at (w := true) (vs := i.row) (by rw [s.get _ (by omega) (by simp)]; exact gn)]; rfl
  by_cases r0 : 0 ≤ i.op ∧ i.op ≤ 17
  · obtain ⟨r1, r2⟩ := r0
    exact ok_val (v := .sl (some (g1.next, 0)) 1 (.ex 1)) (g := g1.new (.cells true (wI [i.a]))) (by simp -implicitDefEqProofs only [k_ref9_Writes, k_ref9_Writes_j1, hbi, mk_some, hg1, faP_ptr, Option.bind_some, l0, eql_int, neq_int, bin_geq, bin_leq, Int.reduceEq, Int.reduceLE, decide_true, decide_false, Bool.not_true, Bool.not_false, gdW_tf, gdW_ff, gdW_tt, gdW_ft, gdW_tup, gQ_false, gQ_true, cl_some, pickP_bool, if_true, Bool.false_eq_true, if_false, condE_true, condE_false, r1, r2, l1, bs1]) (by rw [show writesL i = [i.a] by simp only [writesL, r1, r2, Int.reduceEq, Int.reduceLE, true_or, or_true, false_or, or_false, or_self, and_self, and_true, true_and, and_false, false_and, if_true, if_false, ite_true]]; exact Lst.lit s2 [i.a])
  have hq : (0 ≤ i.op) = True ∧ (i.op ≤ 17) = False ∨ (0 ≤ i.op) = False ∧ (i.op ≤ 17) = True := by
    by_cases h3 : 0 ≤ i.op
    · exact .inl ⟨by simp [h3], by simp; omega⟩
    · exact .inr ⟨by simp [h3], by simp; omega⟩
  by_cases c25 : i.op = 25
  · exact ok_val (v := .sl (some (g1.next, 0)) 1 (.ex 1)) (g := g1.new (.cells true (wI [i.a]))) (by simp -implicitDefEqProofs only [k_ref9_Writes, k_ref9_Writes_j1, hbi, mk_some, hg1, faP_ptr, Option.bind_some, l0, eql_int, neq_int, bin_geq, bin_leq, Int.reduceEq, Int.reduceLE, decide_true, decide_false, Bool.not_true, Bool.not_false, gdW_tf, gdW_ff, gdW_tt, gdW_ft, gdW_tup, gQ_false, gQ_true, cl_some, pickP_bool, if_true, Bool.false_eq_true, if_false, condE_true, condE_false, c25, l1, bs1]) (by rw [show writesL i = [i.a] by simp only [writesL, c25, Int.reduceEq, Int.reduceLE, true_or, or_true, false_or, or_false, or_self, and_self, and_true, true_and, and_false, false_and, if_true, if_false, ite_true]]; exact Lst.lit s2 [i.a])
  by_cases c26 : i.op = 26
  · exact ok_val (v := .sl (some (g1.next, 0)) 1 (.ex 1)) (g := g1.new (.cells true (wI [i.a]))) (by simp -implicitDefEqProofs only [k_ref9_Writes, k_ref9_Writes_j1, hbi, mk_some, hg1, faP_ptr, Option.bind_some, l0, eql_int, neq_int, bin_geq, bin_leq, Int.reduceEq, Int.reduceLE, decide_true, decide_false, Bool.not_true, Bool.not_false, gdW_tf, gdW_ff, gdW_tt, gdW_ft, gdW_tup, gQ_false, gQ_true, cl_some, pickP_bool, if_true, Bool.false_eq_true, if_false, condE_true, condE_false, c26, l1, bs1]) (by rw [show writesL i = [i.a] by simp only [writesL, c26, Int.reduceEq, Int.reduceLE, true_or, or_true, false_or, or_false, or_self, and_self, and_true, true_and, and_false, false_and, if_true, if_false, ite_true]]; exact Lst.lit s2 [i.a])
  by_cases c27 : i.op = 27
  · exact ok_val (v := .sl (some (g1.next, 0)) 1 (.ex 1)) (g := g1.new (.cells true (wI [i.a]))) (by simp -implicitDefEqProofs only [k_ref9_Writes, k_ref9_Writes_j1, hbi, mk_some, hg1, faP_ptr, Option.bind_some, l0, eql_int, neq_int, bin_geq, bin_leq, Int.reduceEq, Int.reduceLE, decide_true, decide_false, Bool.not_true, Bool.not_false, gdW_tf, gdW_ff, gdW_tt, gdW_ft, gdW_tup, gQ_false, gQ_true, cl_some, pickP_bool, if_true, Bool.false_eq_true, if_false, condE_true, condE_false, c27, l1, bs1]) (by rw [show writesL i = [i.a] by simp only [writesL, c27, Int.reduceEq, Int.reduceLE, true_or, or_true, false_or, or_false, or_self, and_self, and_true, true_and, and_false, false_and, if_true, if_false, ite_true]]; exact Lst.lit s2 [i.a])
  by_cases c30 : i.op = 30
  · exact ok_val (v := .sl (some (g1.next, 0)) 1 (.ex 1)) (g := g1.new (.cells true (wI [i.a]))) (by simp -implicitDefEqProofs only [k_ref9_Writes, k_ref9_Writes_j1, hbi, mk_some, hg1, faP_ptr, Option.bind_some, l0, eql_int, neq_int, bin_geq, bin_leq, Int.reduceEq, Int.reduceLE, decide_true, decide_false, Bool.not_true, Bool.not_false, gdW_tf, gdW_ff, gdW_tt, gdW_ft, gdW_tup, gQ_false, gQ_true, cl_some, pickP_bool, if_true, Bool.false_eq_true, if_false, condE_true, condE_false, c30, l1, bs1]) (by rw [show writesL i = [i.a] by simp only [writesL, c30, Int.reduceEq, Int.reduceLE, true_or, or_true, false_or, or_false, or_self, and_self, and_true, true_and, and_false, false_and, if_true, if_false, ite_true]]; exact Lst.lit s2 [i.a])
  by_cases c33 : i.op = 33
  · exact ok_val (v := .sl (some (g1.next, 0)) 1 (.ex 1)) (g := g1.new (.cells true (wI [i.a]))) (by simp -implicitDefEqProofs only [k_ref9_Writes, k_ref9_Writes_j1, hbi, mk_some, hg1, faP_ptr, Option.bind_some, l0, eql_int, neq_int, bin_geq, bin_leq, Int.reduceEq, Int.reduceLE, decide_true, decide_false, Bool.not_true, Bool.not_false, gdW_tf, gdW_ff, gdW_tt, gdW_ft, gdW_tup, gQ_false, gQ_true, cl_some, pickP_bool, if_true, Bool.false_eq_true, if_false, condE_true, condE_false, c33, l1, bs1]) (by rw [show writesL i = [i.a] by simp only [writesL, c33, Int.reduceEq, Int.reduceLE, true_or, or_true, false_or, or_false, or_self, and_self, and_true, true_and, and_false, false_and, if_true, if_false, ite_true]]; exact Lst.lit s2 [i.a])
  by_cases c34 : i.op = 34
  · exact ok_val (v := .sl (some (g1.next, 0)) 1 (.ex 1)) (g := g1.new (.cells true (wI [i.a]))) (by simp -implicitDefEqProofs only [k_ref9_Writes, k_ref9_Writes_j1, hbi, mk_some, hg1, faP_ptr, Option.bind_some, l0, eql_int, neq_int, bin_geq, bin_leq, Int.reduceEq, Int.reduceLE, decide_true, decide_false, Bool.not_true, Bool.not_false, gdW_tf, gdW_ff, gdW_tt, gdW_ft, gdW_tup, gQ_false, gQ_true, cl_some, pickP_bool, if_true, Bool.false_eq_true, if_false, condE_true, condE_false, c34, l1, bs1]) (by rw [show writesL i = [i.a] by simp only [writesL, c34, Int.reduceEq, Int.reduceLE, true_or, or_true, false_or, or_false, or_self, and_self, and_true, true_and, and_false, false_and, if_true, if_false, ite_true]]; exact Lst.lit s2 [i.a])
  by_cases c36 : i.op = 36
  · exact ok_val (v := .sl (some (g1.next, 0)) 1 (.ex 1)) (g := g1.new (.cells true (wI [i.a]))) (by simp -implicitDefEqProofs only [k_ref9_Writes, k_ref9_Writes_j1, hbi, mk_some, hg1, faP_ptr, Option.bind_some, l0, eql_int, neq_int, bin_geq, bin_leq, Int.reduceEq, Int.reduceLE, decide_true, decide_false, Bool.not_true, Bool.not_false, gdW_tf, gdW_ff, gdW_tt, gdW_ft, gdW_tup, gQ_false, gQ_true, cl_some, pickP_bool, if_true, Bool.false_eq_true, if_false, condE_true, condE_false, c36, l1, bs1]) (by rw [show writesL i = [i.a] by simp only [writesL, c36, Int.reduceEq, Int.reduceLE, true_or, or_true, false_or, or_false, or_self, and_self, and_true, true_and, and_false, false_and, if_true, if_false, ite_true]]; exact Lst.lit s2 [i.a])
  by_cases c37 : i.op = 37
  · exact ok_val (v := .sl (some (g1.next, 0)) 1 (.ex 1)) (g := g1.new (.cells true (wI [i.a]))) (by simp -implicitDefEqProofs only [k_ref9_Writes, k_ref9_Writes_j1, hbi, mk_some, hg1, faP_ptr, Option.bind_some, l0, eql_int, neq_int, bin_geq, bin_leq, Int.reduceEq, Int.reduceLE, decide_true, decide_false, Bool.not_true, Bool.not_false, gdW_tf, gdW_ff, gdW_tt, gdW_ft, gdW_tup, gQ_false, gQ_true, cl_some, pickP_bool, if_true, Bool.false_eq_true, if_false, condE_true, condE_false, c37, l1, bs1]) (by rw [show writesL i = [i.a] by simp only [writesL, c37, Int.reduceEq, Int.reduceLE, true_or, or_true, false_or, or_false, or_self, and_self, and_true, true_and, and_false, false_and, if_true, if_false, ite_true]]; exact Lst.lit s2 [i.a])
  by_cases c20 : i.op = 20
  · rw [show writesL i = gvn [i.a] by simp only [writesL, c20, Int.reduceEq, Int.reduceLE, true_or, or_true, false_or, or_false, or_self, and_self, and_true, true_and, and_false, false_and, if_true, if_false, ite_true]]
    by_cases ca : i.a = -1
    · refine ok_val (v := .sl none 0 (.ex 0)) (g := g1) (by simp -implicitDefEqProofs only [k_ref9_Writes, k_ref9_Writes_j1, hbi, mk_some, hg1, faP_ptr, Option.bind_some, l0, eql_int, neq_int, bin_geq, bin_leq, Int.reduceEq, Int.reduceLE, decide_true, decide_false, Bool.not_true, Bool.not_false, gdW_tf, gdW_ff, gdW_tt, gdW_ft, gdW_tup, gQ_false, gQ_true, cl_some, pickP_bool, if_true, Bool.false_eq_true, if_false, condE_true, condE_false, c20, l1, ca]) ?_
      rw [show gvn [i.a] = [] by simp [gvn, ca]]
      exact Lst.mt s2
    · refine ok_val (v := .sl (some (g1.next, 0)) 1 (.ex 1)) (g := g1.new (.cells true (wI [i.a]))) (by simp -implicitDefEqProofs only [k_ref9_Writes, k_ref9_Writes_j1, hbi, mk_some, hg1, faP_ptr, Option.bind_some, l0, eql_int, neq_int, bin_geq, bin_leq, Int.reduceEq, Int.reduceLE, decide_true, decide_false, Bool.not_true, Bool.not_false, gdW_tf, gdW_ff, gdW_tt, gdW_ft, gdW_tup, gQ_false, gQ_true, cl_some, pickP_bool, if_true, Bool.false_eq_true, if_false, condE_true, condE_false, c20, l1, ca, bs1]) ?_
      rw [show gvn [i.a] = [i.a] by simp [gvn, ca]]
      exact Lst.lit s2 [i.a]
  by_cases c21 : i.op = 21
  · rw [show writesL i = gvn [i.a] by simp only [writesL, c21, Int.reduceEq, Int.reduceLE, true_or, or_true, false_or, or_false, or_self, and_self, and_true, true_and, and_false, false_and, if_true, if_false, ite_true]]
    by_cases ca : i.a = -1
    · refine ok_val (v := .sl none 0 (.ex 0)) (g := g1) (by simp -implicitDefEqProofs only [k_ref9_Writes, k_ref9_Writes_j1, hbi, mk_some, hg1, faP_ptr, Option.bind_some, l0, eql_int, neq_int, bin_geq, bin_leq, Int.reduceEq, Int.reduceLE, decide_true, decide_false, Bool.not_true, Bool.not_false, gdW_tf, gdW_ff, gdW_tt, gdW_ft, gdW_tup, gQ_false, gQ_true, cl_some, pickP_bool, if_true, Bool.false_eq_true, if_false, condE_true, condE_false, c21, l1, ca]) ?_
      rw [show gvn [i.a] = [] by simp [gvn, ca]]
      exact Lst.mt s2
    · refine ok_val (v := .sl (some (g1.next, 0)) 1 (.ex 1)) (g := g1.new (.cells true (wI [i.a]))) (by simp -implicitDefEqProofs only [k_ref9_Writes, k_ref9_Writes_j1, hbi, mk_some, hg1, faP_ptr, Option.bind_some, l0, eql_int, neq_int, bin_geq, bin_leq, Int.reduceEq, Int.reduceLE, decide_true, decide_false, Bool.not_true, Bool.not_false, gdW_tf, gdW_ff, gdW_tt, gdW_ft, gdW_tup, gQ_false, gQ_true, cl_some, pickP_bool, if_true, Bool.false_eq_true, if_false, condE_true, condE_false, c21, l1, ca, bs1]) ?_
      rw [show gvn [i.a] = [i.a] by simp [gvn, ca]]
      exact Lst.lit s2 [i.a]
  by_cases c39 : i.op = 39
  · rw [show writesL i = gvn [i.a, i.c] by simp only [writesL, c39, Int.reduceEq, Int.reduceLE, true_or, or_true, false_or, or_false, or_self, and_self, and_true, true_and, and_false, false_and, if_true, if_false, ite_true], show gvn [i.a, i.c] = gvn [i.a] ++ gvn [i.c] by simp [gvn, List.filter_cons]; split <;> simp]
    by_cases ca : i.a = -1
    · refine Ok.eq ?_ (by simp -implicitDefEqProofs only [k_ref9_Writes, k_ref9_Writes_j1, hbi, mk_some, hg1, faP_ptr, Option.bind_some, l0, eql_int, neq_int, bin_geq, bin_leq, Int.reduceEq, Int.reduceLE, decide_true, decide_false, Bool.not_true, Bool.not_false, gdW_tf, gdW_ff, gdW_tt, gdW_ft, gdW_tup, gQ_false, gQ_true, cl_some, pickP_bool, if_true, Bool.false_eq_true, if_false, condE_true, condE_false, c39, l1, ca]; rfl)
      rw [show gvn [i.a] = [] by simp [gvn, ca]]
      exact writes9_j l3 s2 (l := []) SlB.mt (fun j hj => by cases hj) (by simp)
    · refine Ok.eq ?_ (by simp -implicitDefEqProofs only [k_ref9_Writes, k_ref9_Writes_j1, hbi, mk_some, hg1, faP_ptr, Option.bind_some, l0, eql_int, neq_int, bin_geq, bin_leq, Int.reduceEq, Int.reduceLE, decide_true, decide_false, Bool.not_true, Bool.not_false, gdW_tf, gdW_ff, gdW_tt, gdW_ft, gdW_tup, gQ_false, gQ_true, cl_some, pickP_bool, if_true, Bool.false_eq_true, if_false, condE_true, condE_false, c39, l1, ca]; rfl)
      rw [show gvn [i.a] = [i.a] by simp [gvn, ca]]
      refine app1 (SlB.mt (g := g1) (sz := 1)) rfl rfl rfl (by decide) (by omega) fun v' g3 h3 s3 n3 => ?_
      have s3 : Same [] g1 g3 := s3
      exact writes9_j (fun g' s => l3 g' (s3.trans s)) (s2.trans s3) (l := [i.a]) h3 (fun j hj => by cases hj; omega) (by simp)
  have hr : (25 ≤ i.op) = True ∧ (i.op ≤ 27) = False ∨ (25 ≤ i.op) = False := by
    by_cases h3 : 25 ≤ i.op
    · exact .inl ⟨by simp [h3], by simp; omega⟩
    · exact .inr (by simp [h3])
  have goal : Ok (some (AV.sl none 0 (.ex 0), g1)) fun r => Lst h r.2 r.1 [] := Ok.of (r := (AV.sl none 0 (.ex 0), g1)) (Lst.mt s2)
  rcases hq with ⟨q1, q2⟩ | ⟨q1, q2⟩ <;> rcases hr with ⟨r1, r2⟩ | r1
  · rw [show writesL i = [] by simp only [writesL, c25, c26, c27, c30, c33, c34, c36, c37, c20, c21, c39, q1, q2, r1, r2, Int.reduceEq, Int.reduceLE, true_or, or_true, false_or, or_false, or_self, and_self, and_true, true_and, and_false, false_and, if_true, if_false, ite_true]]
    exact goal.eq (by simp -implicitDefEqProofs only [k_ref9_Writes, k_ref9_Writes_j1, hbi, mk_some, hg1, faP_ptr, Option.bind_some, l0, eql_int, neq_int, bin_geq, bin_leq, Int.reduceEq, Int.reduceLE, decide_true, decide_false, Bool.not_true, Bool.not_false, gdW_tf, gdW_ff, gdW_tt, gdW_ft, gdW_tup, gQ_false, gQ_true, cl_some, pickP_bool, if_true, Bool.false_eq_true, if_false, condE_true, condE_false, c25, c26, c27, c30, c33, c34, c36, c37, c20, c21, c39, q1, q2, r1, r2])
  · rw [show writesL i = [] by simp only [writesL, c25, c26, c27, c30, c33, c34, c36, c37, c20, c21, c39, q1, q2, r1, Int.reduceEq, Int.reduceLE, true_or, or_true, false_or, or_false, or_self, and_self, and_true, true_and, and_false, false_and, if_true, if_false, ite_true]]
    exact goal.eq (by simp -implicitDefEqProofs only [k_ref9_Writes, k_ref9_Writes_j1, hbi, mk_some, hg1, faP_ptr, Option.bind_some, l0, eql_int, neq_int, bin_geq, bin_leq, Int.reduceEq, Int.reduceLE, decide_true, decide_false, Bool.not_true, Bool.not_false, gdW_tf, gdW_ff, gdW_tt, gdW_ft, gdW_tup, gQ_false, gQ_true, cl_some, pickP_bool, if_true, Bool.false_eq_true, if_false, condE_true, condE_false, c25, c26, c27, c30, c33, c34, c36, c37, c20, c21, c39, q1, q2, r1])
  · rw [show writesL i = [] by simp only [writesL, c25, c26, c27, c30, c33, c34, c36, c37, c20, c21, c39, q1, q2, r1, r2, Int.reduceEq, Int.reduceLE, true_or, or_true, false_or, or_false, or_self, and_self, and_true, true_and, and_false, false_and, if_true, if_false, ite_true]]
    exact goal.eq (by simp -implicitDefEqProofs only [k_ref9_Writes, k_ref9_Writes_j1, hbi, mk_some, hg1, faP_ptr, Option.bind_some, l0, eql_int, neq_int, bin_geq, bin_leq, Int.reduceEq, Int.reduceLE, decide_true, decide_false, Bool.not_true, Bool.not_false, gdW_tf, gdW_ff, gdW_tt, gdW_ft, gdW_tup, gQ_false, gQ_true, cl_some, pickP_bool, if_true, Bool.false_eq_true, if_false, condE_true, condE_false, c25, c26, c27, c30, c33, c34, c36, c37, c20, c21, c39, q1, q2, r1, r2])
  · rw [show writesL i = [] by simp only [writesL, c25, c26, c27, c30, c33, c34, c36, c37, c20, c21, c39, q1, q2, r1, Int.reduceEq, Int.reduceLE, true_or, or_true, false_or, or_false, or_self, and_self, and_true, true_and, and_false, false_and, if_true, if_false, ite_true]]
    exact goal.eq (by simp -implicitDefEqProofs only [k_ref9_Writes, k_ref9_Writes_j1, hbi, mk_some, hg1, faP_ptr, Option.bind_some, l0, eql_int, neq_int, bin_geq, bin_leq, Int.reduceEq, Int.reduceLE, decide_true, decide_false, Bool.not_true, Bool.not_false, gdW_tf, gdW_ff, gdW_tt, gdW_ft, gdW_tup, gQ_false, gQ_true, cl_some, pickP_bool, if_true, Bool.false_eq_true, if_false, condE_true, condE_false, c25, c26, c27, c30, c33, c34, c36, c37, c20, c21, c39, q1, q2, r1])
end Go.Ab.F

namespace Go.Ab.F
open Go Go.Ab
set_option linter.all false
set_option linter.unusedSimpArgs false
attribute [local congr] c_bind c_cl c_mk c_lp c_clC c_gQ c_gV c_condE c_thenK

/-! ### The document's ways -/
abbrev Wy := Int × Int
def row2 (p : Wy) : List AV := [.int .i64 p.1, .int .i64 p.2]
def wayOf (c : Cas) : Wy := (c.to, if c.kind = 0 then c.val else -1)
def waysL (m : Md) (pc : Int) (i : Ins) : List Wy :=
  if i.op = 18 then [(i.a, -1)]
  else if i.op = 19 then [(i.b, -1), (IntKind.i64.wrap (pc + 1), -1)]
  else if i.op = 22 then []
  else if i.op = 44 then []
  else if i.op = 41 then (casesOf m i.a i.b).map wayOf
  else [(IntKind.i64.wrap (pc + 1), -1)]
theorem waysL_fst (m : Md) (pc : Int) (i : Ins) : (waysL m pc i).map Prod.fst = rawL m pc i := by
  unfold waysL rawL
  repeat' split
  all_goals first | rfl | simp [wayOf, Function.comp_def]
theorem build2 (a b : Int) : bldS [(0, 1), (1, 1)] [(AV.int .i64 0), (AV.int .i64 0)] [(0, AV.int .i64 a), (1, AV.int .i64 b)] = some (.agg [.int .i64 a, .int .i64 b]) := rfl
theorem bsR1 (a b : Int) : bsP 2 [(AV.int .i64 0), (AV.int .i64 0)] 1 [(0, AV.agg [.int .i64 a, .int .i64 b])] = some (.cells true [.int .i64 a, .int .i64 b], fun i => .sl (some (i, 0)) 1 (.ex 1)) := rfl
theorem bsR2 (a b c d : Int) : bsP 2 [(AV.int .i64 0), (AV.int .i64 0)] 2 [(0, AV.agg [.int .i64 a, .int .i64 b]), (1, AV.agg [.int .i64 c, .int .i64 d])] = some (.cells true [.int .i64 a, .int .i64 b, .int .i64 c, .int .i64 d], fun i => .sl (some (i, 0)) 2 (.ex 2)) := rfl
theorem rwc1 (g : Heap) (p : Wy) : RwC (g.new (.cells true [.int .i64 p.1, .int .i64 p.2])) 2 (.sl (some (g.next, 0)) 1 (.ex 1)) ([p].map row2) :=
  ⟨[.int .i64 p.1, .int .i64 p.2], ⟨rfl, .inr ⟨g.next, 0, .ex 1, rfl, Nat.lt_succ_self _, fun _ => ⟨true, [], [], rfl, by rw [get_new_eq]; rfl⟩⟩⟩, by simp [mxl], fun i r hr => by
    rcases i with _ | i <;> simp at hr
    subst hr; rfl⟩
theorem rwc2 (g : Heap) (p q : Wy) : RwC (g.new (.cells true [.int .i64 p.1, .int .i64 p.2, .int .i64 q.1, .int .i64 q.2])) 2 (.sl (some (g.next, 0)) 2 (.ex 2)) ([p, q].map row2) :=
  ⟨[.int .i64 p.1, .int .i64 p.2, .int .i64 q.1, .int .i64 q.2], ⟨rfl, .inr ⟨g.next, 0, .ex 2, rfl, Nat.lt_succ_self _, fun _ => ⟨true, [], [], rfl, by rw [get_new_eq]; rfl⟩⟩⟩, by simp [mxl], fun i r hr => by
    rcases i with _ | _ | i <;> simp at hr <;> subst hr <;> rfl⟩
theorem rwc0 (g : Heap) (sz : Nat) : RwC g sz (.sl none 0 (.ex 0)) [] := ⟨[], ⟨by simp, .inl ⟨rfl, rfl⟩⟩, by simp, fun i r hr => by simp at hr⟩
/-- Rows in a slice of one's own. -/
theorem slb_rows {g : Heap} {b : Option Nat} {sz : Nat} {v : AV} {rows : List (List AV)} (H : SlB g b sz v rows.flatten rows.length) (hr : ∀ r ∈ rows, r.length = sz) (hl : rows.length ≤ maxLen) : RwC g sz v rows := by
  refine ⟨rows.flatten, ⟨H.len, ?_⟩, hl, fun i r h => span_flat hr i r h⟩
  cases b with
  | none => exact .inl ⟨H.eq, H.nil rfl⟩
  | some j =>
    obtain ⟨h1, h2, h3⟩ := H.blk j rfl
    exact .inr ⟨j, 0, _, H.eq, h1, fun _ => ⟨true, [], [], rfl, by simpa using h2⟩⟩
theorem waysC_ok {h : Heap} {v : AV} {cs : List Cas} (H : RwC h 4 v (cs.map Cas.row)) (hl : cs.length ≤ 1048576) :
    Ok (k_ref9_ways_L0 v (.sl none 0 (.ex 0)) (.int .i64 0) h) fun r => r.1 = .exit 1 ∧ Same [] h r.2.2 ∧ ∃ q, r.2.1.getD 0 .bot = q ∧ RwC r.2.2 2 q ((cs.map wayOf).map row2) := by
  have hln := H.lnL
  rw [List.length_map] at hln
  refine ok_loop (fun k vs g' => ∃ (i : Nat) (q : AV) (b : Option Nat), vs = [q, .int .i64 i] ∧ k + i = cs.length ∧ SlB g' b 2 q (((cs.take i).map wayOf).map row2).flatten i ∧ (∀ j, b = some j → h.next ≤ j) ∧ Same [] h g') ?_ (n := cs.length) (by omega)
    ⟨0, _, none, rfl, rfl, SlB.mt, (fun j hj => by cases hj), Same.refl _ _⟩
  rintro k vs g' ⟨i, q, b, rfl, hk, hq, hb, s⟩
  rw [gD0, gD1]
  by_cases hi : i < cs.length
  · obtain ⟨c, hc⟩ : ∃ c, cs[i]? = some c := ⟨_, List.getElem?_eq_getElem hi⟩
    have hi' : (i : Int) < cs.length := by omega
    obtain ⟨b2, o2, hb2, hix, hla, hls⟩ := (H.mono s.next (fun j hj => s.get j hj (by simp))).at (i := i) (r := c.row) (by rw [List.getElem?_map, hc]; rfl)
    have l0 : ldS g' (.ptr (some (b2, o2 + 0))) = some (.int .i64 c.kind) := hls 0 _ rfl
    have l2 : ldS g' (.ptr (some (b2, o2 + 2))) = some (.int .i64 c.val) := hls 2 _ rfl
    have l3 : ldS g' (.ptr (some (b2, o2 + 3))) = some (.int .i64 c.to) := hls 3 _ rfl
    have fin : Ok (k_ref9_ways_j0 v q (.int .i64 (i : Int)) (.int .i64 (if c.kind = 0 then c.val else -1)) g') fun r => (r.1 = Ex.normal ∧ ∃ m', m' < k ∧ ∃ (i : Nat) (q : AV) (b : Option Nat), r.2.1 = [q, .int .i64 i] ∧ m' + i = cs.length ∧ SlB r.2.2 b 2 q (((cs.take i).map wayOf).map row2).flatten i ∧ (∀ j, b = some j → h.next ≤ j) ∧ Same [] h r.2.2) ∨ (r.1 ≠ .normal ∧ r.1 = .exit 1 ∧ Same [] h r.2.2 ∧ ∃ q, r.2.1.getD 0 .bot = q ∧ RwC r.2.2 2 q ((cs.map wayOf).map row2)) := by
      refine Ok.eq ?_ (by simp -implicitDefEqProofs only [k_ref9_ways_j0, hix, faP_ptr, Option.bind_some, l3, build2]; rfl)
      refine app1 hq rfl rfl rfl (by decide) (by omega) fun v' g3 h3 s3 n3 => ?_
      have e : (((cs.take i).map wayOf).map row2).flatten ++ (AV.agg [.int .i64 c.to, .int .i64 (if c.kind = 0 then c.val else -1)]).cells = (((cs.take (i + 1)).map wayOf).map row2).flatten := by
        rw [List.take_add_one, hc]; simp [row2, wayOf, AV.cells]
      rw [e] at h3
      refine (Ok.of (r := (.normal, [v', .int .i64 ((i + 1 : Nat) : Int)], g3)) (.inl ⟨rfl, k - 1, by omega, i + 1, v', some (g'.next + 1), rfl, by omega, h3, fun j hj => ?_, ?_⟩)).eq (by simp -implicitDefEqProofs only [bin_add, suc64 i (by omega), Option.bind_some])
      · cases hj; have := s.next; omega
      · exact s.old s3 fun j hj => by
          cases b with
          | none => simp at hj
          | some x => simp at hj; subst hj; exact .inr (hb _ rfl)
    by_cases ck : c.kind = 0
    · rw [if_pos ck] at fin
      exact fin.eq (by simp -implicitDefEqProofs only [k_ref9_ways_b0, hln, bin_lss, hi', decide_true, Option.bind_some, condE_true, hix, faP_ptr, l0, l2, eql_int, ck])
    · rw [if_neg ck] at fin
      exact fin.eq (by simp -implicitDefEqProofs only [k_ref9_ways_b0, hln, bin_lss, hi', decide_true, decide_false, Option.bind_some, condE_true, condE_false, hix, faP_ptr, l0, eql_int, ck])
  · have hi' : ¬ (i : Int) < cs.length := by omega
    refine (Ok.of (r := (.exit 1, [q, .int .i64 (i : Int)], g')) (.inr ⟨by simp, rfl, s, q, rfl, ?_⟩)).eq (by simp -implicitDefEqProofs only [k_ref9_ways_b0, hln, bin_lss, hi', decide_false, Option.bind_some, condE_false])
    have htk : cs.take i = cs := List.take_of_length_le (by omega)
    rw [htk] at hq
    have hic : i = ((cs.map wayOf).map row2).length := by simp; omega
    rw [hic] at hq
    exact slb_rows hq (by simp [row2]) (by rw [← hic, mxl]; omega)
theorem ways9_ok {h : Heap} {v : AV} {r : List AV} {m : Md} {f : Fn} (H : MdRd h v m) (F : FnRd h r f) (pc : Nat) {i : Ins} (hi : f.code[pc]? = some i) (hs : m.cases.length ≤ 60) :
    Ok (k_ref9_ways v (.agg r) (.int .i64 (pc : Int)) h) fun r => Same [] h r.2 ∧ RwC r.2 2 r.1 ((waysL m pc i).map row2) := by
  obtain ⟨kv, cv, mv, rfl, hbf, FB⟩ := F.box
  obtain ⟨sv, gv, cv0, cv', fv, rfl, hbx, B⟩ := H.box
  have s0 : Same [] h (h.new (.cells true [sv, gv, cv0, cv', fv, .int .i64 m.main])) := Same.new _ _
  have FB := FB _ s0
  generalize hg : h.new (.cells true [sv, gv, cv0, cv', fv, .int .i64 m.main]) = g at *
  have s1 : Same [] g (g.new (.cells true [.int .i64 f.pa, .int .i64 f.ca, .int .i64 f.sl, .int .i64 f.re, kv, cv, mv])) := Same.new _ _
  have B1 := B.mono s1
  generalize hg1 : g.new (.cells true [.int .i64 f.pa, .int .i64 f.ca, .int .i64 f.sl, .int .i64 f.re, kv, cv, mv]) = g1 at *
  have s2 : Same [] h g1 := s0.trans s1
  have hiw := FB.wf (List.mem_of_getElem? hi)
  obtain ⟨b, o, hix, hla, hls⟩ := FB.code hi
  have hm := FB.bnd.1
  rw [mxl] at hm
  have hpc := (List.getElem?_eq_some_iff.1 hi).1
  refine Ok.eq ?_ (by simp -implicitDefEqProofs only [k_ref9_ways, hbx, hbf, mk_some, hg, hg1, faP_ptr, FB.l5, Option.bind_some, hix, hla]; rfl)
  refine ok_tmp2 (cs := i.row) (n := 5) (by rfl) (by rfl) (Ins.sc i) fun _ g2 s3 n2 hg2 => ?_
  have l0 : ldS g2 (.ptr (some (g1.next, 0 + 0))) = some (.int .i64 i.op) := by rw [ldS_at hg2]; rfl
  have l1 : ldS g2 (.ptr (some (g1.next, 0 + 1))) = some (.int .i64 i.a) := by rw [ldS_at hg2]; rfl
  have l2 : ldS g2 (.ptr (some (g1.next, 0 + 2))) = some (.int .i64 i.b) := by rw [ldS_at hg2]; rfl
  have la : ldA 5 g2 (.ptr (some (g1.next, 0))) = some (.agg i.row) := by rw [ldA_at hg2]; rfl
  have B2 := B1.mono s3
  have s4 : Same [] h g2 := s2.trans s3
  have sn : ∀ vs, Same [] h (g2.new (.cells true vs)) := fun vs => s4.trans (Same.new _ _)
  have e1 : IntKind.i64.wrap ((pc : Int) + 1) = ((pc + 1 : Nat) : Int) := suc64 pc (by omega)
  by_cases o18 : i.op = 18
  · have e : waysL m pc i = [(i.a, -1)] := by simp only [waysL, o18, if_true]
    rw [e]
    exact ok_val (v := .sl (some (g2.next, 0)) 1 (.ex 1)) (g := g2.new (.cells true [.int .i64 i.a, .int .i64 (-1)])) (by
      simp -implicitDefEqProofs only [faP_ptr, Option.bind_some, l0, l1, eql_int, o18, decide_true, condE_true, build2, bsR1, mk_some]) ⟨sn _, rwc1 g2 (i.a, -1)⟩
  by_cases o19 : i.op = 19
  · have e : waysL m pc i = [(i.b, -1), (IntKind.i64.wrap ((pc : Int) + 1), -1)] := by simp only [waysL, o19, Int.reduceEq, if_true, if_false]
    rw [e]
    exact ok_val (v := .sl (some (g2.next, 0)) 2 (.ex 2)) (g := g2.new (.cells true [.int .i64 i.b, .int .i64 (-1), .int .i64 (IntKind.i64.wrap ((pc : Int) + 1)), .int .i64 (-1)])) (by
      simp -implicitDefEqProofs only [faP_ptr, Option.bind_some, l0, l2, eql_int, o19, Int.reduceEq, decide_true, decide_false, condE_true, condE_false, bin_add, build2, bsR2, mk_some]) ⟨sn _, rwc2 g2 (i.b, -1) (IntKind.i64.wrap ((pc : Int) + 1), -1)⟩
  by_cases o22 : i.op = 22
  · have e : waysL m pc i = [] := by simp only [waysL, o22, Int.reduceEq, if_true, if_false]
    rw [e]
    exact ok_val (v := .sl none 0 (.ex 0)) (g := g2) (by
      simp -implicitDefEqProofs only [faP_ptr, Option.bind_some, l0, eql_int, o22, Int.reduceEq, decide_true, decide_false, condE_true, condE_false, k_ref9_ways_j1]) ⟨s4, rwc0 _ _⟩
  by_cases o44 : i.op = 44
  · have e : waysL m pc i = [] := by simp only [waysL, o44, Int.reduceEq, if_true, if_false]
    rw [e]
    exact ok_val (v := .sl none 0 (.ex 0)) (g := g2) (by
      simp -implicitDefEqProofs only [faP_ptr, Option.bind_some, l0, eql_int, o44, Int.reduceEq, decide_true, decide_false, condE_true, condE_false, k_ref9_ways_j1]) ⟨s4, rwc0 _ _⟩
  by_cases o41 : i.op = 41
  · have e : waysL m pc i = (casesOf m i.a i.b).map wayOf := by simp only [waysL, o41, Int.reduceEq, if_true, if_false]
    rw [e]
    have hcl : (casesOf m i.a i.b).length ≤ m.cases.length := by
      unfold casesOf
      split
      · simp
      · simp only [List.length_take, List.length_drop]; omega
    refine Ok.eq ?_ (by simp -implicitDefEqProofs only [faP_ptr, Option.bind_some, l0, eql_int, o41, Int.reduceEq, decide_true, decide_false, condE_true, condE_false, k_ref9_ways_j1, B2.la, la]; rfl)
    refine ok_cl (cases9_ok B2.rd i hiw.2.1 hiw.2.2.1) ?_
    rintro _ g3 ⟨v3, t3, rfl, s5, h3⟩
    simp only at s5 h3
    refine Ok.eq ?_ (by simp -implicitDefEqProofs only [extractV_tup, Option.bind_some, List.getElem?_cons_zero, List.getElem?_cons_succ]; rfl)
    refine ok_lp (waysC_ok h3 (by omega)) ?_
    rintro _ vs g4 ⟨rfl, s6, q, rfl, hq⟩
    simp only at hq s6
    exact ok_val (v := vs.getD 0 .bot) (g := g4) (by simp -implicitDefEqProofs only [if_true, thenK_normal]) ⟨s4.trans (s5.trans s6), hq⟩
  · have e : waysL m pc i = [(IntKind.i64.wrap ((pc : Int) + 1), -1)] := by simp only [waysL, o18, o19, o22, o44, o41, if_false]
    rw [e]
    exact ok_val (v := .sl (some (g2.next, 0)) 1 (.ex 1)) (g := g2.new (.cells true [.int .i64 (IntKind.i64.wrap ((pc : Int) + 1)), .int .i64 (-1)])) (by
      simp -implicitDefEqProofs only [faP_ptr, Option.bind_some, l0, eql_int, o18, o19, o22, o44, o41, decide_false, condE_false, k_ref9_ways_j1, bin_add, build2, bsR1, mk_some]) ⟨sn _, rwc1 g2 (IntKind.i64.wrap ((pc : Int) + 1), -1)⟩
def thereL (m : Md) (f : Fn) (pc : Nat) (i : Ins) : List Wy := (waysL m pc i).filter fun p => !outB f p.1
theorem there9_ok {h : Heap} {v : AV} {r : List AV} {m : Md} {f : Fn} (H : MdRd h v m) (F : FnRd h r f) (pc : Nat) {i : Ins} (hi : f.code[pc]? = some i) (hs : m.cases.length ≤ 60) :
    Ok (k_ref9_there v (.agg r) (.int .i64 (pc : Int)) h) fun r => Same [] h r.2 ∧ RwC r.2 2 r.1 ((thereL m f pc i).map row2) := by
  obtain ⟨kv, cv, mv, rfl, hbf, FB⟩ := F.box
  obtain ⟨sv, gv, cv0, cv', fv, rfl, hbx, B⟩ := H.box
  have s0 : Same [] h (h.new (.cells true [sv, gv, cv0, cv', fv, .int .i64 m.main])) := Same.new _ _
  have FB := FB _ s0
  generalize hg : h.new (.cells true [sv, gv, cv0, cv', fv, .int .i64 m.main]) = g at *
  have s1 : Same [] g (g.new (.cells true [.int .i64 f.pa, .int .i64 f.ca, .int .i64 f.sl, .int .i64 f.re, kv, cv, mv])) := Same.new _ _
  have B1 := B.mono s1
  generalize hg1 : g.new (.cells true [.int .i64 f.pa, .int .i64 f.ca, .int .i64 f.sl, .int .i64 f.re, kv, cv, mv]) = g1 at *
  have s2 : Same [] h g1 := s0.trans s1
  refine Ok.eq ?_ (by simp -implicitDefEqProofs only [k_ref9_there, hbx, hbf, mk_some, hg, hg1, B1.la, FB.la, Option.bind_some]; rfl)
  refine ok_cl (ways9_ok B1.rd FB.rd pc hi hs) ?_
  rintro wv g2 ⟨s3, W⟩
  simp only at s3 W
  have FB2 := FB.mono s3
  have hwl : (waysL m pc i).length ≤ 60 := by
    have := rawL_len hs pc i
    rw [← waysL_fst, List.length_map] at this; exact this
  generalize hw : waysL m pc i = ws at *
  have hln := W.lnL
  rw [List.length_map] at hln
  refine ok_lp (P := fun r => r.1 = .exit 0 ∧ Same [] g2 r.2.2 ∧ ∃ q, r.2.1.getD 0 .bot = q ∧ RwC r.2.2 2 q ((ws.filter fun p => !outB f p.1).map row2)) ?_ ?_
  · refine ok_loop (fun k vs g' => ∃ (j : Nat) (q : AV) (b : Option Nat), vs = [q, .int .i64 j] ∧ k + j = ws.length ∧ SlB g' b 2 q (((ws.take j).filter fun p => !outB f p.1).map row2).flatten ((ws.take j).filter fun p => !outB f p.1).length ∧ (∀ j, b = some j → g2.next ≤ j) ∧ Same [] g2 g') ?_ (n := ws.length) (by omega)
      ⟨0, _, none, rfl, rfl, SlB.mt, (fun j hj => by cases hj), Same.refl _ _⟩
    rintro k vs g' ⟨j, q, b, rfl, hk, hq, hb, s⟩
    rw [gD0, gD1]
    by_cases hj : j < ws.length
    · obtain ⟨w, hwj⟩ : ∃ w, ws[j]? = some w := ⟨_, List.getElem?_eq_getElem hj⟩
      have hj' : (j : Int) < ws.length := by omega
      obtain ⟨b2, o2, hb2, hix, hla, hls⟩ := (W.mono s.next (fun j hj => s.get j hj (by simp))).at (i := j) (r := row2 w) (by rw [List.getElem?_map, hwj]; rfl)
      have l0 : ldS g' (.ptr (some (b2, o2 + 0))) = some (.int .i64 w.1) := hls 0 _ rfl
      have FB3 := FB2.mono s
      have hsucc : (ws.take (j + 1)).filter (fun p => !outB f p.1) = (ws.take j).filter (fun p => !outB f p.1) ++ (if outB f w.1 then [] else [w]) := by
        rw [List.take_add_one, hwj, List.filter_append]
        cases hout : outB f w.1 <;> simp [hout]
      by_cases hout : outB f w.1 = true
      · have go : (k_ref9_there_b0 (.ptr (some (g.next, 0))) wv q (.int .i64 (j : Int)) g') = some (.normal, [q, .int .i64 ((j + 1 : Nat) : Int)], g') := by
          by_cases c1 : (0 : Int) ≤ w.1
          · have c2 : ¬ w.1 < f.code.length := by
              simp only [outB, Bool.or_eq_true, decide_eq_true_eq] at hout; omega
            simp -implicitDefEqProofs only [k_ref9_there_b0, hln, bin_lss, hj', decide_true, Option.bind_some, condE_true, hix, faP_ptr, l0, bin_geq, c1, gdW_tt, gV_true, FB3.l5, FB3.ln5, c2, decide_false, pickP_bool, if_true, chk_nil, condE_false, bin_add, suc64 j (by omega)]
          · simp -implicitDefEqProofs only [k_ref9_there_b0, hln, bin_lss, hj', decide_true, Option.bind_some, condE_true, hix, faP_ptr, l0, bin_geq, c1, gdW_ft, gV_false, decide_false, pickP_bool, Bool.false_eq_true, if_false, chk_nil, condE_false, bin_add, suc64 j (by omega)]
        rw [go]
        rw [if_pos hout, List.append_nil] at hsucc
        exact Ok.of (.inl ⟨rfl, k - 1, by omega, j + 1, q, b, rfl, by omega, by rw [hsucc]; exact hq, hb, s⟩)
      · have c1 : (0 : Int) ≤ w.1 := by
          simp only [outB, Bool.or_eq_true, decide_eq_true_eq] at hout; omega
        have c2 : w.1 < f.code.length := by
          simp only [outB, Bool.or_eq_true, decide_eq_true_eq] at hout; omega
        refine Ok.eq ?_ (by simp -implicitDefEqProofs only [k_ref9_there_b0, hln, bin_lss, hj', decide_true, Option.bind_some, condE_true, hix, hla, faP_ptr, l0, bin_geq, c1, gdW_tt, gV_true, FB3.l5, FB3.ln5, c2, pickP_bool, if_true, chk_nil]; rfl)
        have hlen : ((ws.take j).filter fun p => !outB f p.1).length ≤ 60 := by
          have := List.length_filter_le (fun p : Wy => !outB f p.1) (ws.take j)
          rw [List.length_take] at this; omega
        refine app1 hq rfl rfl rfl (by decide) (by omega) fun v' g3 h3 s3 n3 => ?_
        rw [if_neg hout] at hsucc
        have e : (((ws.take j).filter fun p => !outB f p.1).map row2).flatten ++ (AV.agg (row2 w)).cells = (((ws.take (j + 1)).filter fun p => !outB f p.1).map row2).flatten := by
          rw [hsucc]; simp [AV.cells]
        have e2 : ((ws.take j).filter fun p => !outB f p.1).length + 1 = ((ws.take (j + 1)).filter fun p => !outB f p.1).length := by
          rw [hsucc]; simp
        rw [e, e2] at h3
        refine (Ok.of (r := (.normal, [v', .int .i64 ((j + 1 : Nat) : Int)], g3)) (.inl ⟨rfl, k - 1, by omega, j + 1, v', some (g'.next + 1), rfl, by omega, h3, fun j hj => ?_, ?_⟩)).eq (by simp -implicitDefEqProofs only [bin_add, suc64 j (by omega), Option.bind_some])
        · cases hj; have := s.next; omega
        · exact s.old s3 fun j hj => by
            cases b with
            | none => simp at hj
            | some x => simp at hj; subst hj; exact .inr (hb _ rfl)
    · have hj' : ¬ (j : Int) < ws.length := by omega
      refine (Ok.of (r := (.exit 0, [q, .int .i64 (j : Int)], g')) (.inr ⟨by simp, rfl, s, q, rfl, ?_⟩)).eq (by simp -implicitDefEqProofs only [k_ref9_there_b0, hln, bin_lss, hj', decide_false, Option.bind_some, condE_false])
      rw [List.take_of_length_le (by omega)] at hq
      have hfl := List.length_filter_le (fun p : Wy => !outB f p.1) ws
      rw [show (ws.filter fun p => !outB f p.1).length = ((ws.filter fun p => !outB f p.1).map row2).length by simp] at hq
      exact slb_rows hq (fun r hr => by simp only [List.mem_map] at hr; obtain ⟨p, _, rfl⟩ := hr; rfl) (by rw [mxl]; simp; omega)
  · rintro _ vs g4 ⟨rfl, s6, q, rfl, hq⟩
    simp only at hq s6
    refine ok_val (v := vs.getD 0 .bot) (g := g4) (by simp -implicitDefEqProofs only [if_true, thenK_normal]) ⟨s2.trans (s3.trans s6), ?_⟩
    rw [thereL, hw]; exact hq
end Go.Ab.F

namespace Go.Ab.F
open Go Go.Ab
set_option linter.all false
set_option linter.unusedSimpArgs false
attribute [local congr] c_bind c_cl c_mk c_lp c_clC c_gQ c_gV c_condE c_thenK

theorem sorted_ext : ∀ {a b : List Int}, a.Pairwise (· < ·) → b.Pairwise (· < ·) → (∀ n, n ∈ a ↔ n ∈ b) → a = b
  | [], [], _, _, _ => rfl
  | [], y :: b, _, _, H => by have := (H y).2 (List.mem_cons_self ..); simp at this
  | x :: a, [], _, _, H => by have := (H x).1 (List.mem_cons_self ..); simp at this
  | x :: a, y :: b, ha, hb, H => by
    rw [List.pairwise_cons] at ha hb
    have e : x = y := by
      have h1 := (H x).1 (List.mem_cons_self ..)
      have h2 := (H y).2 (List.mem_cons_self ..)
      rw [List.mem_cons] at h1 h2
      rcases h1 with h1 | h1
      · exact h1
      · rcases h2 with h2 | h2
        · exact h2.symm
        · have := hb.1 x h1; have := ha.1 y h2; omega
    subst e
    rw [sorted_ext ha.2 hb.2 fun n => ⟨fun h => ?_, fun h => ?_⟩]
    · have := (H n).1 (List.mem_cons_of_mem _ h)
      rw [List.mem_cons] at this
      rcases this with rfl | h'
      · have := ha.1 n h; omega
      · exact h'
    · have := (H n).2 (List.mem_cons_of_mem _ h)
      rw [List.mem_cons] at this
      rcases this with rfl | h'
      · have := hb.1 n h; omega
      · exact h'
theorem cpt_sorted : ∀ {l : List Int}, l.Pairwise (· ≤ ·) → (cpt l).Pairwise (· < ·)
  | [], _ => List.Pairwise.nil
  | [x], _ => List.pairwise_singleton _ _
  | x :: y :: l, h => by
    rw [List.pairwise_cons] at h
    have ih := cpt_sorted h.2
    rw [cpt]
    split
    · exact ih
    · rename_i hne
      rw [List.pairwise_cons]
      refine ⟨fun n hn => ?_, ih⟩
      rw [cpt_mem, List.mem_cons] at hn
      have h1 := h.1 y (List.mem_cons_self ..)
      rcases hn with rfl | hn
      · omega
      · have h2 := (List.pairwise_cons.1 h.2).1 n hn
        omega
def folL (ws : List Wy) (n : Nat) : List Int := ((List.range n).filter fun t => decide (((t : Nat) : Int) ∈ ws.map Prod.fst)).map fun t => ((t : Nat) : Int)
theorem folL_succ (ws : List Wy) (n : Nat) : folL ws (n + 1) = folL ws n ++ (if (n : Int) ∈ ws.map Prod.fst then [(n : Int)] else []) := by
  unfold folL
  rw [List.range_succ, List.filter_append, List.map_append]
  by_cases h : (n : Int) ∈ ws.map Prod.fst <;> simp [h]
theorem folL_len (ws : List Wy) (n : Nat) : (folL ws n).length ≤ n := by
  unfold folL
  rw [List.length_map]
  have := List.length_filter_le (fun t => decide (((t : Nat) : Int) ∈ ws.map Prod.fst)) (List.range n)
  rwa [List.length_range] at this
theorem folL_sorted (ws : List Wy) : ∀ n, (folL ws n).Pairwise (· < ·)
  | 0 => List.Pairwise.nil
  | n + 1 => by
    rw [folL_succ]
    split
    · rw [List.pairwise_append]
      refine ⟨folL_sorted ws n, List.pairwise_singleton _ _, fun a ha b hb => ?_⟩
      simp only [List.mem_singleton] at hb
      subst hb
      simp only [folL, List.mem_map, List.mem_filter, List.mem_range] at ha
      obtain ⟨t, ⟨h1, _⟩, rfl⟩ := ha
      omega
    · rw [List.append_nil]; exact folL_sorted ws n
theorem folL_eq (m : Md) (f : Fn) (pc : Nat) (i : Ins) : folL (thereL m f pc i) f.code.length = inL f (rawL m pc i) := by
  refine sorted_ext (folL_sorted _ _) (cpt_sorted (isort_sorted _)) fun n => ?_
  show _ ↔ n ∈ inL f (rawL m pc i)
  rw [inL_mem, ← waysL_fst]
  unfold folL thereL
  rw [List.mem_map]
  constructor
  · rintro ⟨t, ht, rfl⟩
    rw [List.mem_filter, List.mem_range] at ht
    have h2 := of_decide_eq_true ht.2
    rw [List.mem_map] at h2
    obtain ⟨w, hw, e⟩ := h2
    rw [List.mem_filter] at hw
    exact ⟨by rw [List.mem_map]; exact ⟨w, hw.1, e⟩, by omega, by omega⟩
  · rintro ⟨hn, h1, h2⟩
    rw [List.mem_map] at hn
    obtain ⟨w, hw, rfl⟩ := hn
    refine ⟨w.1.toNat, ?_, by omega⟩
    rw [List.mem_filter, List.mem_range]
    refine ⟨by omega, decide_eq_true ?_⟩
    rw [List.mem_map]
    refine ⟨w, ?_, by omega⟩
    rw [List.mem_filter]
    refine ⟨hw, ?_⟩
    simp only [outB, Bool.not_eq_true', Bool.or_eq_false_iff, decide_eq_false_iff_not]; omega
theorem follI9_ok {h g : Heap} {wv v : AV} {ws : List Wy} (W : RwC h 2 wv (ws.map row2)) (hw : ws.length ≤ 60) (s : Same [] h g) {b : Option Nat} {l : List Int} (H : SlB g b 1 v (wI l) l.length) (hb : ∀ j, b = some j → h.next ≤ j) (hl : l.length ≤ 1048576) (t : Nat) :
    Ok (k_ref9_Follows_L0 wv (.int .i64 (t : Nat)) v (.int .i64 0) g) fun r => r.1 = .exit 2 ∧ Same [] h r.2.2 ∧ ∃ v' b' , r.2.1.getD 0 .bot = v' ∧ SlB r.2.2 b' 1 v' (wI (l ++ (if (t : Int) ∈ ws.map Prod.fst then [(t : Int)] else []))) (l ++ (if (t : Int) ∈ ws.map Prod.fst then [(t : Int)] else [])).length ∧ ∀ j, b' = some j → h.next ≤ j := by
  have hln := W.lnL
  rw [List.length_map] at hln
  refine ok_loop (fun k us g' => ∃ j : Nat, us = [v, .int .i64 j] ∧ k + j = ws.length ∧ g' = g ∧ ∀ (q : Nat) w, q < j → ws[q]? = some w → w.1 ≠ t) ?_ (n := ws.length) (by omega) ⟨0, rfl, rfl, rfl, fun q w hq => by omega⟩
  rintro k us g' ⟨j, rfl, hk, rfl, hno⟩
  rw [gD0, gD1]
  by_cases hj : j < ws.length
  · obtain ⟨w, hwj⟩ : ∃ w, ws[j]? = some w := ⟨_, List.getElem?_eq_getElem hj⟩
    have hj' : (j : Int) < ws.length := by omega
    obtain ⟨b2, o2, hb2, hix, hla, hls⟩ := (W.mono s.next (fun j hj => s.get j hj (by simp))).at (i := j) (r := row2 w) (by rw [List.getElem?_map, hwj]; rfl)
    have l0 : ldS g' (.ptr (some (b2, o2 + 0))) = some (.int .i64 w.1) := hls 0 _ rfl
    by_cases ce : w.1 = (t : Int)
    · have hin : (t : Int) ∈ ws.map Prod.fst := by rw [List.mem_map]; exact ⟨w, List.mem_of_getElem? hwj, ce⟩
      refine Ok.eq ?_ (by simp -implicitDefEqProofs only [k_ref9_Follows_b0, hln, bin_lss, hj', decide_true, Option.bind_some, condE_true, hix, faP_ptr, l0, eql_int, ce]; rfl)
      refine app1 H rfl rfl rfl (by decide) (by omega) fun v' g3 h3 s3 n3 => ?_
      have e : wI l ++ (AV.int .i64 (t : Int)).cells = wI (l ++ [(t : Int)]) := by simp [wI, AV.cells]
      rw [e] at h3
      refine Ok.of (.inr ⟨by simp, rfl, s.old s3 fun j hj => by
          cases b with
          | none => simp at hj
          | some x => simp at hj; subst hj; exact .inr (hb _ rfl), v', some (g'.next + 1), rfl, ?_, fun j hj => by cases hj; have := s.next; omega⟩)
      rw [if_pos hin, List.length_append]; exact h3
    · refine (Ok.of (r := (.normal, [v, .int .i64 ((j + 1 : Nat) : Int)], g')) (.inl ⟨rfl, k - 1, by omega, j + 1, rfl, by omega, rfl, fun q w' hq hw' => ?_⟩)).eq (by
        simp -implicitDefEqProofs only [k_ref9_Follows_b0, hln, bin_lss, hj', decide_true, decide_false, Option.bind_some, condE_true, condE_false, hix, faP_ptr, l0, eql_int, ce, bin_add, suc64 j (by omega)])
      rcases (by omega : q < j ∨ q = j) with hq | rfl
      · exact hno q w' hq hw'
      · rw [hwj] at hw'; cases hw'; exact ce
  · have hj' : ¬ (j : Int) < ws.length := by omega
    have hout : ¬ (t : Int) ∈ ws.map Prod.fst := by
      rw [List.mem_map]
      rintro ⟨w, hw, e⟩
      obtain ⟨q, hq⟩ := List.getElem?_of_mem hw
      exact hno q w (by have := (List.getElem?_eq_some_iff.1 hq).1; omega) hq e
    refine (Ok.of (r := (.exit 2, [v, .int .i64 (j : Int)], g')) (.inr ⟨by simp, rfl, s, v, b, rfl, ?_, hb⟩)).eq (by simp -implicitDefEqProofs only [k_ref9_Follows_b0, hln, bin_lss, hj', decide_false, Option.bind_some, condE_false])
    rw [if_neg hout, List.append_nil]; exact H
theorem follows9_ok {h : Heap} {v : AV} {r : List AV} {m : Md} {f : Fn} (H : MdRd h v m) (F : FnRd h r f) (pc : Int) (hs : m.cases.length ≤ 60) (hf : f.code.length ≤ 200) :
    Ok (k_ref9_Follows v (.agg r) (.int .i64 pc) h) fun r => Lst h r.2 r.1 (followsL m f pc) := by
  obtain ⟨kv, cv, mv, rfl, hbf, FB⟩ := F.box
  obtain ⟨sv, gv, cv0, cv', fv, rfl, hbx, B⟩ := H.box
  have s0 : Same [] h (h.new (.cells true [sv, gv, cv0, cv', fv, .int .i64 m.main])) := Same.new _ _
  have FB := FB _ s0
  generalize hg : h.new (.cells true [sv, gv, cv0, cv', fv, .int .i64 m.main]) = g at *
  have s1 : Same [] g (g.new (.cells true [.int .i64 f.pa, .int .i64 f.ca, .int .i64 f.sl, .int .i64 f.re, kv, cv, mv])) := Same.new _ _
  have B1 := B.mono s1
  generalize hg1 : g.new (.cells true [.int .i64 f.pa, .int .i64 f.ca, .int .i64 f.sl, .int .i64 f.re, kv, cv, mv]) = g1 at *
  have s2 : Same [] h g1 := s0.trans s1
  by_cases c1 : pc < 0
  · refine ok_val (v := .sl none 0 (.ex 0)) (g := g1) (by simp -implicitDefEqProofs only [k_ref9_Follows, hbx, hbf, mk_some, hg, hg1, bin_lss, c1, decide_true, Option.bind_some, gdW_tf, gdW_tup, gQ_false, pickP_bool, if_true, condE_true]) ?_
    rw [show followsL m f pc = [] by simp only [followsL, insAt, c1, if_true]]
    exact Lst.mt s2
  by_cases c2 : (f.code.length : Int) ≤ pc
  · refine ok_val (v := .sl none 0 (.ex 0)) (g := g1) (by simp -implicitDefEqProofs only [k_ref9_Follows, hbx, hbf, mk_some, hg, hg1, bin_lss, c1, c2, decide_true, decide_false, Option.bind_some, gdW_ff, gQ_true, cl_some, faP_ptr, FB.l5, FB.ln5, bin_geq, pickP_bool, Bool.false_eq_true, if_false, condE_true]) ?_
    rw [show followsL m f pc = [] by
      have : f.code[pc.toNat]? = none := List.getElem?_eq_none (by omega)
      simp only [followsL, insAt, c1, if_false, this]]
    exact Lst.mt s2
  obtain ⟨i, hi⟩ : ∃ i, f.code[pc.toNat]? = some i := ⟨_, List.getElem?_eq_getElem (by omega)⟩
  have epc : pc = ((pc.toNat : Nat) : Int) := by omega
  have hfl : followsL m f pc = folL (thereL m f pc.toNat i) f.code.length := by
    rw [folL_eq, ← epc]; simp only [followsL, insAt, c1, if_false, hi]
  rw [hfl]
  generalize pc.toNat = pn at *
  subst epc
  refine Ok.eq ?_ (by simp -implicitDefEqProofs only [k_ref9_Follows, hbx, hbf, mk_some, hg, hg1, bin_lss, c1, c2, decide_false, Option.bind_some, gdW_ff, gQ_true, cl_some, faP_ptr, FB.l5, FB.ln5, bin_geq, pickP_bool, Bool.false_eq_true, if_false, condE_false, B1.la, FB.la]; rfl)
  refine ok_cl (there9_ok B1.rd FB.rd pn hi hs) ?_
  rintro wv g2 ⟨s3, W⟩
  simp only at s3 W
  have FB2 := FB.mono s3
  have hwl : (thereL m f pn i).length ≤ 60 := by
    have h1 := rawL_len hs pn i
    rw [← waysL_fst, List.length_map] at h1
    have h2 := List.length_filter_le (fun p : Wy => !outB f p.1) (waysL m pn i)
    unfold thereL; omega
  generalize thereL m f pn i = ws at *
  refine ok_lp (P := fun r => r.1 = .exit 0 ∧ ∃ q, r.2.1.getD 0 .bot = q ∧ Lst g2 r.2.2 q (folL ws f.code.length)) ?_ ?_
  · refine ok_loop (fun k vs g' => ∃ (j : Nat) (q : AV) (b : Option Nat), vs = [q, .int .i64 j] ∧ k + j = f.code.length ∧ SlB g' b 1 q (wI (folL ws j)) (folL ws j).length ∧ (∀ j, b = some j → g2.next ≤ j) ∧ Same [] g2 g') ?_ (n := f.code.length) (by omega)
      ⟨0, _, none, rfl, rfl, SlB.mt, (fun j hj => by cases hj), Same.refl _ _⟩
    rintro k vs g' ⟨j, q, b, rfl, hk, hq, hb, s⟩
    rw [gD0, gD1]
    have FB3 := FB2.mono s
    have hfl := folL_len ws j
    by_cases hj : j < f.code.length
    · have hj' : (j : Int) < f.code.length := by omega
      refine Ok.eq ?_ (by simp -implicitDefEqProofs only [k_ref9_Follows_b1, faP_ptr, FB3.l5, FB3.ln5, Option.bind_some, bin_lss, hj', decide_true, condE_true]; rfl)
      refine ok_lp (follI9_ok W hwl s hq hb (by omega) j) ?_
      rintro _ us g3 ⟨rfl, s4, v', b', rfl, hq', hb'⟩
      simp only at s4 hq'
      rw [← folL_succ] at hq'
      exact (Ok.of (r := (.normal, [us.getD 0 .bot, .int .i64 ((j + 1 : Nat) : Int)], g3)) (.inl ⟨rfl, k - 1, by omega, j + 1, _, b', rfl, by omega, hq', hb', s4⟩)).eq (by
        simp -implicitDefEqProofs only [if_true, if_false, reduceCtorEq, thenK_normal, bin_add, suc64 j (by omega), Option.bind_some])
    · have hj' : ¬ (j : Int) < f.code.length := by omega
      refine (Ok.of (r := (.exit 0, [q, .int .i64 (j : Int)], g')) (.inr ⟨by simp, rfl, q, rfl, ?_⟩)).eq (by simp -implicitDefEqProofs only [k_ref9_Follows_b1, faP_ptr, FB3.l5, FB3.ln5, Option.bind_some, bin_lss, hj', decide_false, condE_false])
      have : j = f.code.length := by omega
      subst this
      exact Lst.of_slb hq hb s
  · rintro _ vs g4 ⟨rfl, q, rfl, hq⟩
    simp only at hq
    exact ok_val (v := vs.getD 0 .bot) (g := g4) (by simp -implicitDefEqProofs only [if_true, thenK_normal]) (hq.old (s2.trans s3))

/-- Two lists of the same ints are the same. -/
theorem ints_ok {h : Heap} {a b : AV} {l : List Int} (A : RdW h 1 a (wI l) l.length) (B : RdW h 1 b (wI l) l.length) (hl : l.length ≤ 4611686018427387904) : Ok (k_ref17_Ints a b h) fun r => r = (.bool true, h) := by
  have la := A.lnL
  have lb := B.lnL
  refine Ok.eq ?_ (by simp -implicitDefEqProofs only [k_ref17_Ints, la, lb, Option.bind_some, neq_int, decide_true, Bool.not_true, condE_false]; rfl)
  refine ok_lp (P := fun r => r.1 = .exit 0 ∧ r.2.2 = h) ?_ ?_
  · refine ok_loop (fun k vs g' => ∃ j : Nat, vs = [.bool false, .int .i64 j] ∧ k + j = l.length ∧ g' = h) ?_ (n := l.length) (by omega) ⟨0, rfl, rfl, rfl⟩
    rintro k vs g' ⟨j, rfl, hk, rfl⟩
    rw [gD0, gD1]
    by_cases hj : j < l.length
    · have hj' : (j : Int) < l.length := by omega
      obtain ⟨x, hx⟩ : ∃ x, l[j]? = some x := ⟨_, List.getElem?_eq_getElem hj⟩
      obtain ⟨b1, o1, _, i1, l1⟩ := A.at (i := j) (x := .int .i64 x) (by simp [wI, hx])
      obtain ⟨b2, o2, _, i2, l2⟩ := B.at (i := j) (x := .int .i64 x) (by simp [wI, hx])
      exact (Ok.of (r := (.normal, [.bool false, .int .i64 ((j + 1 : Nat) : Int)], g')) (.inl ⟨rfl, k - 1, by omega, j + 1, rfl, by omega, rfl⟩)).eq (by
        simp -implicitDefEqProofs only [k_ref17_Ints_b0, la, bin_lss, hj', decide_true, Option.bind_some, condE_true, i1, i2, l1, l2, neq_int, Bool.not_true, chk_nil, condE_false, bin_add, suc64 j (by omega)])
    · have hj' : ¬ (j : Int) < l.length := by omega
      exact (Ok.of (r := (.exit 0, [.bool false, .int .i64 (j : Int)], g')) (.inr ⟨by simp, rfl, rfl⟩)).eq (by
        simp -implicitDefEqProofs only [k_ref17_Ints_b0, la, bin_lss, hj', decide_false, Option.bind_some, condE_false])
  · rintro _ vs g ⟨rfl, rfl⟩
    exact ok_val (v := .bool true) (g := g) (by simp -implicitDefEqProofs only [if_true, thenK_normal]) rfl
end Go.Ab.F

namespace Go.Ab.F
open Go Go.Ab
set_option linter.all false
set_option linter.unusedSimpArgs false
attribute [local congr] c_bind c_cl c_mk c_lp c_clC c_gQ c_gV c_condE c_thenK

theorem RdW.sS {h : Heap} {sz n : Nat} {v : AV} {cs : List AV} (H : RdW h sz v cs n) : sameS v v = true := by
  rcases H.eq with ⟨rfl, _⟩ | ⟨b, o, c, rfl, _⟩ <;> simp [sameS]
theorem RwC.sS {h : Heap} {sz : Nat} {v : AV} {l : List (List AV)} (H : RwC h sz v l) : sameS v v = true := by
  obtain ⟨_, h1, _⟩ := H
  exact h1.sS
theorem sSi (k : IntKind) (n : Int) : sameS (.int k n) (.int k n) = true := by simp [sameS]
theorem FnRd.samev {h : Heap} {r : List AV} {f : Fn} (H : FnRd h r f) : same (.agg r) (.agg r) = true := by
  obtain ⟨kv, cv, mv, rfl, h1, h2, h3, _⟩ := H
  simp only [same, sameL, h1.sS, h2.sS, h3.sS, sSi, Bool.and_self, Bool.and_true]
theorem MdRd.samev {h : Heap} {v : AV} {m : Md} (H : MdRd h v m) : same v v = true := by
  obtain ⟨sv, gv, kv, cv, fv, rfl, h1, h2, h3, h4, ⟨_, h5, _⟩, _⟩ := H
  simp only [same, sameL, h1.sS, h2.sS, h3.sS, h4.sS, h5.sS, sSi, Bool.and_self, Bool.and_true]
theorem Ins.samev (i : Ins) : same (.agg i.row) (.agg i.row) = true := by simp [same, sameL, Ins.row, sameS]
theorem followsL_len' {m : Md} (hs : m.cases.length ≤ 60) (f : Fn) (pc : Int) : (followsL m f pc).length ≤ 60 := by
  unfold followsL
  split
  · have h1 := inL_len f (rawL m pc (by assumption))
    have h2 := rawL_len hs pc (by assumption)
    omega
  · simp
theorem liveInstrs_ok {h : Heap} {v : AV} {r : List AV} {m : Md} {f : Fn} (i : Ins) (pc : Int) (H : MdRd h v m) (G : FnRd h r f) (hw : i.wf) (hpc : wfI pc) (hl : (1 + m.funcs.length) * 104 ≤ 2 ^ 47) (hq : ∀ g, Same [] h g → k_law10_awake g = some (.bool true, g)) :
    Ok (k_law10_LiveInstrs v (.agg r) (.agg i.row) (.int .i64 pc) h) fun r => r.1 = .bool true := by
  obtain ⟨kv', cv', mv', rfl, hbf, FB⟩ := G.box
  have H0 := H
  obtain ⟨sv, gv, kv, cv, fv, rfl, hbx, B⟩ := H.box
  have hbi := bx_agg (Ins.sc i)
  have s0 : Same [] h (h.new (.cells true [sv, gv, kv, cv, fv, .int .i64 m.main])) := Same.new _ _
  have FB := FB _ s0
  have hget : (h.new (.cells true [sv, gv, kv, cv, fv, .int .i64 m.main])).get h.next = some (.cells true [sv, gv, kv, cv, fv, .int .i64 m.main]) := get_new_eq
  have hn1 : (h.new (.cells true [sv, gv, kv, cv, fv, .int .i64 m.main])).next = h.next + 1 := rfl
  generalize hg : h.new (.cells true [sv, gv, kv, cv, fv, .int .i64 m.main]) = g at *
  have s1 : Same [] g (g.new (.cells true [.int .i64 f.pa, .int .i64 f.ca, .int .i64 f.sl, .int .i64 f.re, kv', cv', mv'])) := Same.new _ _
  have hn2 : (g.new (.cells true [.int .i64 f.pa, .int .i64 f.ca, .int .i64 f.sl, .int .i64 f.re, kv', cv', mv'])).next = h.next + 2 := by rw [Heap.next_new, hn1]
  have B1 := B.mono s1
  have hget1 : (g.new (.cells true [.int .i64 f.pa, .int .i64 f.ca, .int .i64 f.sl, .int .i64 f.re, kv', cv', mv'])).get h.next = some (.cells true [sv, gv, kv, cv, fv, .int .i64 m.main]) := by rw [s1.get _ (by omega) (by simp)]; exact hget
  generalize hg1 : g.new (.cells true [.int .i64 f.pa, .int .i64 f.ca, .int .i64 f.sl, .int .i64 f.re, kv', cv', mv']) = g1 at *
  have s2 : Same [] g1 (g1.new (.cells true i.row)) := Same.new _ _
  have hn3 : (g1.new (.cells true i.row)).next = h.next + 3 := by rw [Heap.next_new, hn2]
  have geti : (g1.new (.cells true i.row)).get g1.next = some (.cells true i.row) := get_new_eq
  have hget2 : (g1.new (.cells true i.row)).get h.next = some (.cells true [sv, gv, kv, cv, fv, .int .i64 m.main]) := by rw [s2.get _ (by omega) (by simp)]; exact hget1
  have B2 := B1.mono s2
  have F2 := FB.mono s2
  generalize hg2 : g1.new (.cells true i.row) = g2 at *
  have sh2 : Same [] h g2 := (s0.trans s1).trans s2
  refine Ok.eq ?_ (by simp -implicitDefEqProofs only [k_law10_LiveInstrs, hbx, hbf, hbi, mk_some, hg, hg1, hg2, hq g2 sh2, cl_some, un_not, Option.bind_some, Bool.not_true, condE_false]; rfl)
  refine ok_front2 H0 G sh2 B2 F2 (Nat.le_refl _) (by omega) hget2 hl fun g5 v5 s5 sp5 B5 F5 => ?_
  have geti5 : g5.get g1.next = some (.cells true i.row) := by rw [sp5.get _ (by omega) (by simp; omega)]; exact geti
  have hn5 := sp5.next
  refine Ok.eq ?_ (by simp -implicitDefEqProofs only [B5.la, Option.bind_some]; rfl)
  refine ok_cl (big_ok B5.rd) ?_
  rintro _ g6 ⟨s6, bb, rfl, hsm⟩
  simp only at s6
  cases bb with
  | true => exact Ok.of (r := (AV.bool true, g6)) rfl
  | false =>
    have S := hsm rfl
    obtain ⟨_, hc, hfs, _⟩ := S
    obtain ⟨hf1, hf2, hf3⟩ := hfs 0 f rfl
    have hc : (frontM f m).cases.length ≤ 60 := hc
    have B6 := B5.mono s6
    have F6 := F5.mono s6
    have li : ∀ g', Same [] g5 g' → ldA 5 g' (.ptr (some (g1.next, 0))) = some (.agg i.row) := fun g' s => by rw [ldA_at (w := true) (vs := i.row) (by rw [s.get _ (by omega) (by simp)]; exact geti5)]; rfl
    generalize frontM f m = M at *
    refine Ok.eq ?_ (by simp -implicitDefEqProofs only [condE_false, B6.la, Option.bind_some]; rfl)
    refine ok_cl (module_ok B6.rd (hsm rfl)) ?_
    rintro w g8 ⟨s8, W⟩
    simp only at s8 W
    have W0 := W
    obtain ⟨sv', gv2, kv2, cv2, fv2, rfl, w1, w2, w3, w4, w5, _⟩ := W
    have hwsc : [sv', gv2, kv2, cv2, fv2, AV.int .i64 M.main].all scalar = true := by
      simp only [List.all_cons, List.all_nil, w1.sc, w2.sc, w3.sc, w4.sc, w5.sc, Bool.and_true, Bool.and_self]; rfl
    refine ok_tmp2 (cs := [sv', gv2, kv2, cv2, fv2, AV.int .i64 M.main]) (n := 6) (by rfl) (by rfl) hwsc fun _ g9 s9 n9 hg9 => ?_
    generalize hws : [sv', gv2, kv2, cv2, fv2, AV.int .i64 M.main] = ws at *
    have hwl : ws.length = 6 := by rw [← hws]; rfl
    have lw : ∀ g', Same [] g9 g' → ldA 6 g' (.ptr (some (g8.next, 0))) = some (.agg ws) := fun g' s => by
      rw [ldA_at (w := true) (vs := ws) (by rw [s.get _ (by omega) (by simp)]; exact hg9), span_some _ _ _ (by omega), List.drop_zero, List.take_of_length_le (by omega)]; rfl
    have F9 := (F6.mono s8).mono s9
    refine Ok.eq ?_ (by simp -implicitDefEqProofs only [F9.la, Option.bind_some]; rfl)
    refine ok_cl (func_ok F9.rd hf3 hf1 hf2) ?_
    rintro _ g10 ⟨s10, r', rfl, hr7, K⟩
    simp only at s10 K
    have R0 := K.now
    refine ok_tmp2 (cs := r') (n := 7) (by rfl) hr7 R0.sc fun _ g11 s11 n11 hg11 => ?_
    have lr : ∀ g', Same [] g11 g' → ldA 7 g' (.ptr (some (g10.next, 0))) = some (.agg r') := fun g' s => by
      rw [ldA_at (w := true) (vs := r') (by rw [s.get _ (by omega) (by simp)]; exact hg11), span_some _ _ _ (by omega), List.drop_zero, List.take_of_length_le (by omega)]; rfl
    have s511 : Same [] g5 g11 := (((s6.trans s8).trans s9).trans s10).trans s11
    refine Ok.eq ?_ (by simp -implicitDefEqProofs only [li g11 s511, Option.bind_some]; rfl)
    refine ok_cl (instr_ok i g11) ?_
    rintro _ g12 ⟨s12, rfl⟩
    simp only at s12
    refine ok_tmp2 (cs := i.row) (n := 5) (by rfl) (by rfl) (Ins.sc i) fun _ g13 s13 n13 hg13 => ?_
    have lj : ∀ g', Same [] g13 g' → ldA 5 g' (.ptr (some (g12.next, 0))) = some (.agg i.row) := fun g' s => by rw [ldA_at (w := true) (vs := i.row) (by rw [s.get _ (by omega) (by simp)]; exact hg13)]; rfl
    have s1113 := s12.trans s13
    have s913 : Same [] g9 g13 := (s10.trans s11).trans s1113
    have s813 : Same [] g8 g13 := s9.trans s913
    have s613 : Same [] g6 g13 := s8.trans s813
    have s513 : Same [] g5 g13 := s511.trans s1113
    have B13 := B6.mono s613
    have F13 := F6.mono s613
    have W13 := W0.mono s813.next (fun j hj => s813.get j hj (by simp))
    have R13 := R0.mono (s11.trans s1113).next (fun j hj => (s11.trans s1113).get j hj (by simp))
    -- what it reads
    refine Ok.eq ?_ (by simp -implicitDefEqProofs only [B13.la, li g13 s513, Option.bind_some]; rfl)
    refine ok_cl (reads_ok B13.rd i hw hc) ?_
    intro v1 g14 L1
    simp only at L1
    have s14 := L1.same
    refine Ok.eq ?_ (by simp -implicitDefEqProofs only [rdC_some (f := fun k => ldA 6 k (.ptr (some (g8.next, 0)))) (h := g14) (lw _ (s913.trans s14)), rdC_some (f := fun k => ldA 5 k (.ptr (some (g12.next, 0)))) (h := g14) (lj _ s14), clC_some]; rfl)
    refine ok_cl (reads9_ok (W13.mono s14.next (fun j hj => s14.get j hj (by simp))) i hw hc) ?_
    intro v2 g15 L2
    simp only at L2
    have s15 := s14.trans L2.same
    refine ok_cl (ints_ok (L1.keep L2.same).rd L2.rd (by have := readsL_len (m := M) (i := i) hc; omega)) ?_
    rintro _ _ ⟨⟩
    -- what it writes
    refine Ok.eq ?_ (by simp -implicitDefEqProofs only [gdW_tt, gV_true, gQ_true, li g15 (s513.trans s15), Option.bind_some, cl_id]; rfl)
    refine ok_cl (writes_ok i) ?_
    intro v3 g16 L3
    simp only at L3
    have s16 := s15.trans L3.same
    refine Ok.eq ?_ (by simp -implicitDefEqProofs only [rdC_some (f := fun k => ldA 5 k (.ptr (some (g12.next, 0)))) (h := g16) (lj _ s16), clC_some, cl_id]; rfl)
    refine ok_cl (writes9_ok i) ?_
    intro v4 g17 L4
    simp only at L4
    have s17 := s16.trans L4.same
    refine Ok.eq ?_ (by (try simp -implicitDefEqProofs only [cl_id]); rfl)
    refine ok_cl (ints_ok (L3.keep L4.same).rd L4.rd (by have := writesL_len i; omega)) ?_
    rintro _ _ ⟨⟩
    -- where it may go on
    have B17 := B13.mono s17
    have F17 := F13.mono s17
    refine Ok.eq ?_ (by simp -implicitDefEqProofs only [pickP_bool, if_true, gdW_tt, gV_true, gQ_true, B17.la, F17.la, Option.bind_some, cl_id]; rfl)
    refine ok_cl (follows_ok B17.rd F17.rd pc hc hpc) ?_
    intro v5 g18 L5
    simp only at L5
    have s18 := s17.trans L5.same
    refine Ok.eq ?_ (by simp -implicitDefEqProofs only [rdC_some (f := fun k => ldA 6 k (.ptr (some (g8.next, 0)))) (h := g18) (lw _ (s913.trans s18)), rdC_some (f := fun k => ldA 7 k (.ptr (some (g10.next, 0)))) (h := g18) (lr _ (s1113.trans s18)), clC_some, cl_id, Option.bind_some]; rfl)
    refine ok_cl (follows9_ok (W13.mono s18.next (fun j hj => s18.get j hj (by simp))) (R13.mono s18.next (fun j hj => s18.get j hj (by simp))) pc hc hf1) ?_
    intro v6 g19 L6
    simp only at L6
    have s19 := s18.trans L6.same
    refine Ok.eq ?_ (by (try simp -implicitDefEqProofs only [cl_id]); rfl)
    refine ok_cl (ints_ok (L5.keep L6.same).rd L6.rd (by have := followsL_len' hc f pc; omega)) ?_
    rintro _ _ ⟨⟩
    have all : ∀ (k : Nat) g', [g13, g14, g15, g15, g16, g17, g17, g18, g19, g19][k]? = some g' → Same [] g13 g' := fun k g' hk => by
      rcases k with _ | _ | _ | _ | _ | _ | _ | _ | _ | _ | k <;> simp at hk <;> subst hk
      · exact Same.refl _ _
      all_goals assumption
    have c1 : ∀ (k : Nat) g', [g13, g14, g15, g15, g16, g17, g17, g18, g19, g19][k]? = some g' → ldA 7 g' (.ptr (some (g10.next, 0))) = some (.agg r') := fun k g' hk => lr g' (s1113.trans (all k g' hk))
    have c2 : ∀ (k : Nat) g', [g13, g14, g15, g15, g16, g17, g17, g18, g19, g19][k]? = some g' → ldA 6 g' (.ptr (some (g8.next, 0))) = some (.agg ws) := fun k g' hk => lw g' (s913.trans (all k g' hk))
    have c3 : ∀ (k : Nat) g', [g13, g14, g15, g15, g16, g17, g17, g18, g19, g19][k]? = some g' → ldA 5 g' (.ptr (some (g12.next, 0))) = some (.agg i.row) := fun k g' hk => lj g' (all k g' hk)
    rw [chk_keep R0.samev c1 (by simp), chk_keep W0.samev c2 (by simp), chk_keep (Ins.samev i) c3 (by simp), chk_keep (Ins.samev i) c3 (by simp), chk_keep W0.samev c2 (by simp), chk_nil]
    exact Ok.of (r := (AV.bool true, g19)) rfl
end Go.Ab.F
