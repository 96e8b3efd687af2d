/- What code answers, told by what holds behind it: calls, loops, frames. -/
import Derived.Test.YtfenhliknhmihaaDoorAbS
namespace Go.Ab
open Go
set_option linter.all false

/-! ### Answers -/
theorem opt_cases {α : Type} (x : Option α) : x = none ∨ ∃ i, x = some i := by cases x <;> simp
theorem bool_cases (b : Bool) : b = true ∨ b = false := by cases b <;> simp
/-- It answers, and Q holds of the answer. -/
def Ok {R : Type} (x : Option R) (Q : R → Prop) : Prop := ∃ r, x = some r ∧ Q r
section
variable {R : Type}
theorem Ok.of {r : R} {Q : R → Prop} (q : Q r) : Ok (some r) Q := ⟨r, rfl, q⟩
theorem Ok.mono {x : Option R} {P Q : R → Prop} (h : Ok x P) (hk : ∀ r, P r → Q r) : Ok x Q := let ⟨r, e, q⟩ := h; ⟨r, e, hk r q⟩
theorem Ok.eq {x y : Option R} {Q : R → Prop} (h : Ok y Q) (e : x = y) : Ok x Q := e ▸ h
theorem ok_val {x : Option (AV × Heap)} {v : AV} {g : Heap} {Q : AV × Heap → Prop} (e : x = some (v, g)) (q : Q (v, g)) : Ok x Q := ⟨_, e, q⟩
theorem ok_cl {x : Option (AV × Heap)} {K : AV → Heap → Option R} {Q : R → Prop} {P : AV × Heap → Prop} (h : Ok x P) (hk : ∀ v g, P (v, g) → Ok (K v g) Q) : Ok (cl x K) Q := by
  obtain ⟨⟨v, g⟩, rfl, p⟩ := h; exact hk v g p
theorem ok_lp {x : OutV} {K : Ex → List AV → Heap → Option R} {Q : R → Prop} {P : Ex × List AV × Heap → Prop} (h : Ok x P) (hk : ∀ e vs g, P (e, vs, g) → Ok (K e vs g) Q) : Ok (lp x K) Q := by
  obtain ⟨⟨e, vs, g⟩, rfl, p⟩ := h; exact hk e vs g p
theorem ok_bind {α : Type} {x : Option α} {K : α → Option R} {Q : R → Prop} {P : α → Prop} (h : Ok x P) (hk : ∀ a, P a → Ok (K a) Q) : Ok (x.bind K) Q := by
  obtain ⟨a, rfl, p⟩ := h; exact hk a p
end
theorem cl_id (x : Option (AV × Heap)) : (cl x fun v h => some (v, h)) = x := by cases x <;> rfl
theorem gdW_tt : gdW (.bool true) true = some true := rfl
theorem gdW_tf : gdW (.bool true) false = some false := rfl
theorem gdW_ft : gdW (.bool false) true = some false := rfl
theorem gdW_ff : gdW (.bool false) false = some true := rfl
/-- A loop: what holds ahead of each round, with so many rounds left at most. -/
theorem ok_iter {F : List AV → Heap → OutV} {Q : Ex × List AV × Heap → Prop} (I : Nat → List AV → Heap → Prop)
    (step : ∀ n vs h, I n vs h → Ok (F vs h) fun r => (r.1 = .normal ∧ ∃ m, m < n ∧ I m r.2.1 r.2.2) ∨ (r.1 ≠ .normal ∧ Q r)) :
    ∀ k n vs h, n < k → I n vs h → Ok (iter k F vs h) Q
  | 0, n, vs, h, hk, _ => absurd hk (Nat.not_lt_zero n)
  | k + 1, n, vs, h, hk, hi => by
    obtain ⟨⟨e, vs', h'⟩, he, hq⟩ := step n vs h hi
    rw [iter, he, Option.bind_some]
    rcases hq with ⟨rfl, m, hm, hi'⟩ | ⟨hne, hq⟩
    · exact ok_iter I step k m vs' h' (by omega) hi'
    · cases e with
      | normal => exact absurd rfl hne
      | exit id => exact ⟨_, rfl, hq⟩
      | ret => exact ⟨_, rfl, hq⟩
theorem ok_loop {F : List AV → Heap → OutV} {Q : Ex × List AV × Heap → Prop} (I : Nat → List AV → Heap → Prop)
    (step : ∀ n vs h, I n vs h → Ok (F vs h) fun r => (r.1 = .normal ∧ ∃ m, m < n ∧ I m r.2.1 r.2.2) ∨ (r.1 ≠ .normal ∧ Q r))
    {n : Nat} {vs : List AV} {h : Heap} (hn : n < 1267650600228229401496703205376) (hi : I n vs h) : Ok (loopN F vs h) Q :=
  ok_iter I step _ n vs h hn hi

/-! ### Frames -/
/-- All older blocks but these are as they were. -/
structure Same (S : List Nat) (h h' : Heap) : Prop where
  next : h.next ≤ h'.next
  get : ∀ j, j < h.next → j ∉ S → h'.get j = h.get j
theorem Same.refl (S : List Nat) (h : Heap) : Same S h h := ⟨Nat.le_refl _, fun _ _ _ => rfl⟩
theorem Same.trans {S : List Nat} {h h' h'' : Heap} (a : Same S h h') (b : Same S h' h'') : Same S h h'' :=
  ⟨Nat.le_trans a.next b.next, fun j hj hs => (b.get j (Nat.lt_of_lt_of_le hj a.next) hs).trans (a.get j hj hs)⟩
theorem Same.sub {S T : List Nat} {h h' : Heap} (a : Same S h h') (hs : ∀ j, j ∈ S → j ∈ T) : Same T h h' :=
  ⟨a.next, fun j hj hn => a.get j hj fun hm => hn (hs j hm)⟩
/-- Blocks that came since may be left out. -/
theorem Same.old {S T : List Nat} {h h' h'' : Heap} (a : Same T h h') (b : Same S h' h'') (hs : ∀ j, j ∈ S → j ∈ T ∨ h.next ≤ j) : Same T h h'' :=
  ⟨Nat.le_trans a.next b.next, fun j hj hn => (b.get j (Nat.lt_of_lt_of_le hj a.next) fun hm => (hs j hm).elim hn (fun h => by omega)).trans (a.get j hj hn)⟩
theorem Same.put (h : Heap) (i : Nat) (b : Option Blk) : Same [i] h (h.put i b) :=
  ⟨Nat.le_refl _, fun j _ hn => by rw [Heap.get_put, if_neg (by simpa using hn)]⟩
theorem Same.new (h : Heap) (b : Blk) : Same [] h (h.new b) :=
  ⟨Nat.le_succ _, fun j hj _ => by rw [Heap.get_new, if_neg (by omega)]⟩
theorem get_put_ne {h : Heap} {i j : Nat} {b : Option Blk} (hj : j ≠ i) : (h.put i b).get j = h.get j := by rw [Heap.get_put, if_neg hj]
theorem get_put_eq {h : Heap} {i : Nat} {b : Option Blk} : (h.put i b).get i = b := by rw [Heap.get_put, if_pos rfl]
theorem get_new_ne {h : Heap} {j : Nat} {b : Blk} (hj : j ≠ h.next) : (h.new b).get j = h.get j := by rw [Heap.get_new, if_neg hj]
theorem get_new_eq {h : Heap} {b : Blk} : (h.new b).get h.next = some b := by rw [Heap.get_new, if_pos rfl]

/-! ### What may be read at several moments -/
theorem same_sl (p : Option (Nat × Nat)) (n : Nat) (c : Cap) : same (.sl p n c) (.sl p n c) = true := by simp [same, sameS]
theorem same_ptr (p : Option (Nat × Nat)) : same (.ptr p) (.ptr p) = true := by simp [same, sameS]
theorem same_int (k : IntKind) (n : Int) : same (.int k n) (.int k n) = true := by simp [same, sameS]
theorem same_bool (b : Bool) : same (.bool b) (.bool b) = true := by simp [same, sameS]
theorem chk_two {R : Type} {f : Heap → Option AV} {v : AV} {g g' : Heap} {hs : List Heap} {x : Option R} (hv : same v v = true) (h0 : f g = some v) (h1 : f g' = some v) : chk (g :: g' :: hs) [(f, v, 0, 1)] x = x := by
  rw [chk_cons, allFrom_succ, allFrom_succ, allFrom_zero]
  simp [h0, h1, hv]

/-! ### Lists of cells -/
theorem span_some {α : Type} : ∀ (vs : List α) (o n : Nat), o + n ≤ vs.length → span vs o n = some ((vs.drop o).take n)
  | vs, 0, 0, _ => by cases vs <;> simp [span]
  | [], 0, n + 1, h => by simp at h
  | v :: vs, 0, n + 1, h => by simp only [span, span_some vs 0 n (by simp at h; omega), Option.map_some]; simp
  | [], o + 1, n, h => by simp at h
  | v :: vs, o + 1, n, h => by simp only [span, span_some vs o n (by simp at h; omega), List.drop_succ_cons]
theorem splice_some {α : Type} : ∀ (vs : List α) (o : Nat) (xs : List α), o + xs.length ≤ vs.length → splice vs o xs = some (vs.take o ++ xs ++ vs.drop (o + xs.length))
  | vs, 0, [], _ => by cases vs <;> simp [splice]
  | [], 0, x :: xs, h => by simp at h
  | v :: vs, 0, x :: xs, h => by
    simp only [splice, splice_some vs 0 xs (by simp at h; omega), Option.map_some]; simp
  | [], o + 1, xs, h => by simp at h
  | v :: vs, o + 1, xs, h => by
    simp only [splice, splice_some vs o xs (by simp at h; omega), Option.map_some]
    simp [Nat.add_right_comm]
end Go.Ab
