/- Slices of one's own: made by appends. -/
import Derived.Test.YtfenhliknhmihaaDoorSp
namespace Go.Ab
open Go
set_option linter.all false

/-- A slice of one's own: its block (none: it is nil), its cells, its length. -/
structure SlB (g : Heap) (b : Option Nat) (sz : Nat) (v : AV) (cs : List AV) (n : Nat) : Prop where
  len : cs.length = n * sz
  sc : cs.all scalar = true
  eq : v = match b with | none => .sl none 0 (.ex 0) | some i => .sl (some (i, 0)) n (.un sz)
  nil : b = none → n = 0
  blk : ∀ i, b = some i → i < g.next ∧ g.get i = some (.cells true cs) ∧ 0 < n
theorem SlB.mt {g : Heap} {sz : Nat} : SlB g none sz (.sl none 0 (.ex 0)) [] 0 := ⟨by simp, rfl, rfl, fun _ => rfl, (fun i h => by cases h)⟩
theorem SlB.same {g g' : Heap} {b : Option Nat} {sz n : Nat} {v : AV} {cs : List AV} {S : List Nat} (H : SlB g b sz v cs n) (hs : Same S g g') (hb : ∀ i, b = some i → i ∉ S) : SlB g' b sz v cs n :=
  ⟨H.len, H.sc, H.eq, H.nil, fun i hi => by
    obtain ⟨h1, h2, h3⟩ := H.blk i hi
    exact ⟨Nat.lt_of_lt_of_le h1 hs.next, (hs.get i h1 (hb i hi)).trans h2, h3⟩⟩
theorem SlB.lnL {g : Heap} {b : Option Nat} {sz n : Nat} {v : AV} {cs : List AV} (H : SlB g b sz v cs n) : Go.Ab.lnL v = some (.int .i64 n) := by
  rw [H.eq]
  cases b with
  | none => rw [H.nil rfl]; rfl
  | some i => rfl
theorem SlB.ix {g : Heap} {b : Option Nat} {sz n : Nat} {v : AV} {cs : List AV} (H : SlB g b sz v cs n) {i : Nat} (hi : i < n) : ∃ j, b = some j ∧ ∀ k, iaS sz v (.int k (i : Int)) = some (.ptr (some (j, i * sz))) := by
  cases b with
  | none => have := H.nil rfl; omega
  | some j =>
    refine ⟨j, rfl, fun k => ?_⟩
    have e : v = .sl (some (j, 0)) n (.un sz) := H.eq
    rw [e, iaS_sl sz (j, 0) _ _ k _ ⟨by omega, by omega⟩]; simp
theorem SlB.ld {g : Heap} {b : Option Nat} {sz n : Nat} {v : AV} {cs : List AV} (H : SlB g b sz v cs n) {j o : Nat} (hb : b = some j) : ldS g (.ptr (some (j, o))) = cs[o]? := by
  obtain ⟨_, h2, _⟩ := H.blk j hb
  rw [ldS_at h2]

theorem splice_all {α : Type} : ∀ (z x : List α), z.length = x.length → splice z 0 x = some x
  | [], [], _ => rfl
  | [], _ :: _, h => by simp at h
  | _ :: _, [], h => by simp at h
  | a :: z, b :: x, h => by simp only [splice, splice_all z x (by simpa using h), Option.map_some]
/-- The slice of one thing that 'append' is handed. -/
theorem bsP_one {sz : Nat} {z : List AV} {t : AV} (hz : z.length = sz) (ht : t.cells.length = sz) (hs : t.cells.all scalar = true) :
    bsP sz z 1 [(0, t)] = some (.cells true t.cells, fun i => .sl (some (i, 0)) 1 (.ex 1)) := by
  have hr : rep z 1 = z := by simp [rep]
  simp only [bsP, fillA, hr, Option.bind_some, ht, hs, Nat.zero_mul]
  simp only [ne_eq, not_true_eq_false, Bool.true_eq_false, or_self, if_false]
  rw [splice_all z t.cells (hz.trans ht.symm)]
  simp only [Option.bind_some, hs, if_true]
theorem app1 {R : Type} {g : Heap} {b : Option Nat} {sz n bytes : Nat} {q t : AV} {cs z : List AV} (H : SlB g b sz q cs n) (hz : z.length = sz) (ht : t.cells.length = sz) (hs : t.cells.all scalar = true)
    (h0 : 0 < sz) (hn : (n + 1) * bytes ≤ 2 ^ 46) {K : AV → Heap → Option R} {Q : R → Prop}
    (hk : ∀ v' g', SlB g' (some (g.next + 1)) sz v' (cs ++ t.cells) (n + 1) → Same b.toList g g' → g'.next = g.next + 2 → Ok (K v' g') Q) :
    Ok (mk Heap.new (bsP sz z 1 [(0, t)]) g fun x h => cl (appendA h sz bytes q x) K) Q := by
  rw [bsP_one hz ht hs, mk_some]
  have hld : loadN (g.new (.cells true t.cells)) (g.next, 0) (1 * sz) = some t.cells := by
    simp only [loadN, get_new_eq, spanF_eq]
    rw [span_some _ _ _ (by rw [ht]; omega), Nat.one_mul, ← ht, List.drop_zero, List.take_length]
  cases b with
  | none =>
    have e : q = .sl none 0 (.ex 0) := H.eq
    have hn0 := H.nil rfl
    subst hn0
    have hc : cs = [] := by have := H.len; simpa using this
    subst hc
    have ha : appendA (g.new (.cells true t.cells)) sz bytes q (.sl (some (g.next, 0)) 1 (.ex 1)) = some (.sl (some (g.next + 1, 0)) 1 (.un sz), (g.new (.cells true t.cells)).new (.cells true t.cells)) := by
      rw [e]
      simp only [appendA, countA, addedA, hld, Option.bind_some]
      rw [if_neg (by omega), if_pos (by omega)]
      simp only [if_true, Option.bind_some, List.nil_append, hs, Heap.next_new]
    rw [ha, cl_some]
    refine hk _ _ ⟨by simpa using ht, by simpa using hs, rfl, (fun h => by cases h), fun i hi => ?_⟩ ?_ rfl
    · cases hi
      exact ⟨Nat.lt_succ_self _, by have := get_new_eq (h := g.new (.cells true t.cells)) (b := .cells true t.cells); simpa using this, by omega⟩
    · exact (Same.new _ _).trans (Same.new _ _)
  | some i =>
    have e : q = .sl (some (i, 0)) n (.un sz) := H.eq
    obtain ⟨b1, b2, b3⟩ := H.blk i rfl
    have hgi : (g.new (.cells true t.cells)).get i = some (.cells true cs) := by rw [get_new_ne (by omega)]; exact b2
    have hl := H.len
    have hmul : (n + 1) * sz = n * sz + sz := by rw [Nat.succ_mul]
    have ha : appendA (g.new (.cells true t.cells)) sz bytes q (.sl (some (g.next, 0)) 1 (.ex 1)) = some (.sl (some (g.next + 1, 0)) (n + 1) (.un sz), ((g.new (.cells true t.cells)).put i none).new (.cells true (cs ++ t.cells))) := by
      rw [e]
      simp only [appendA, countA, addedA, hld, Option.bind_some, ne_eq, not_true_eq_false, if_false, hgi]
      rw [if_neg (by omega), if_pos hn, if_neg (by omega), if_pos (by omega)]
      simp only [hs, if_true, List.drop_zero, Heap.next_new]
    rw [ha, cl_some]
    refine hk _ _ ⟨by rw [List.length_append, ht, hl, hmul], by rw [List.all_append, H.sc, hs]; rfl, rfl, (fun h => by cases h), fun j hj => ?_⟩ ?_ rfl
    · cases hj
      exact ⟨Nat.lt_succ_self _, by have := get_new_eq (h := (g.new (.cells true t.cells)).put i none) (b := .cells true (cs ++ t.cells)); simpa using this, by omega⟩
    · exact ((Same.new _ _).sub (by simp)).trans (((Same.put _ _ _).sub (by simp)).trans ((Same.new _ _).sub (by simp)))
end Go.Ab
