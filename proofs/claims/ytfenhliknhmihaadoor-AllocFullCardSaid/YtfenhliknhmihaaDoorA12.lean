import Derived.Test.YtfenhliknhmihaaDoorA11
import Derived.Test.YtfenhliknhmihaaDoorS1
namespace Go.Ab.F
open Go Go.Ab
set_option linter.all false
attribute [local congr] c_bind c_cl c_mk c_lp c_clC c_gQ c_gV c_condE c_thenK

/-! ### The table -/
structure Tab0 (h : Heap) : Prop where
  tab : Tabled h
  pos : 0 < h.next
theorem Tab0.same {h h' : Heap} {S : List Nat} (H : Tab0 h) (hs : Same S h h') (h0 : 0 ∉ S) : Tab0 h' :=
  ⟨by have := hs.get 0 H.pos h0; unfold Tabled; rw [this]; exact H.tab, Nat.lt_of_lt_of_le H.pos hs.next⟩
def intsB (k : IntKind) : List AV → List Int → Bool
  | [], [] => true
  | .int k' n :: l, m :: r => decide (k' = k) && decide (n = m) && intsB k l r
  | _, _ => false
theorem intsB_eq (k : IntKind) : ∀ (l : List AV) (r : List Int), intsB k l r = true → l = r.map fun n => .int k n
  | [], [], _ => rfl
  | [], _ :: _, h => by simp [intsB] at h
  | a :: l, r, h => by
    cases a with
    | int k' n =>
      cases r with
      | nil => simp [intsB] at h
      | cons m r =>
        simp only [intsB, Bool.and_eq_true, decide_eq_true_eq] at h
        rw [List.map_cons, ← intsB_eq k l r h.2, h.1.1, h.1.2]
    | _ => cases r <;> simp [intsB] at h
def tabB (h : Heap) : Bool := Nat.blt 0 h.next && match h.get 0 with | some (.cells false l) => intsB .u8 l debL | _ => false
theorem tabB_ok {h : Heap} (hb : tabB h = true) : Tab0 h := by
  simp only [tabB, Bool.and_eq_true] at hb
  refine ⟨?_, by have := hb.1; rwa [Nat.blt_eq] at this⟩
  have h2 := hb.2
  split at h2
  · rename_i l hl
    unfold Tabled; rw [hl, intsB_eq _ _ _ h2]
  · cases h2
/-- A closed call answers true, and leaves the table as it is. -/
def trueTab : Option (AV × Heap) → Bool
  | some (.bool true, h) => tabB h
  | _ => false
theorem trueTab_ok {x : Option (AV × Heap)} (h : trueTab x = true) : ∃ g, x = some (.bool true, g) ∧ Tab0 g := by
  unfold trueTab at h
  split at h
  · exact ⟨_, rfl, tabB_ok h⟩
  · cases h

theorem u64_wf {n : Int} (h : (Lit.int .u64 n).wf = true) : AV.int .u64 n = .int .u64 (BitVec.ofInt 64 n).toNat := by
  have hw : 0 ≤ n ∧ n < 18446744073709551616 := by
    simp only [Lit.wf, Bool.and_eq_true, decide_eq_true_eq] at h
    have e1 : IntKind.u64.min = 0 := rfl
    have e2 : IntKind.u64.max = 18446744073709551615 := rfl
    omega
  rw [← wrap_mod, wrap_u64 hw.1 hw.2]

/-! ### A place by its number -/
theorem spanOf_at {n q W : Int} (hn : 0 ≤ n ∧ n < 512) (h0 : 0 ≤ q * W) (h1 : q * W < 64) : spanOf (n * 64 + q * W) = n := by
  unfold spanOf
  rw [if_pos ⟨by omega, by omega⟩]
  omega
theorem placeOf_at {n c : Int} {q : Nat} (hn : 0 ≤ n ∧ n < 512) (hq : (q : Int) < placesOf c) : placeOf (n * 64 + q * wordsOf c) c = q := by
  obtain ⟨c0, c1, w2, w3, w4, _⟩ := wp_cases c q (by omega) hq
  have h0 : (0 : Int) ≤ q * wordsOf c := Int.mul_nonneg (by omega) (by omega)
  have e1 : spanOf (n * 64 + q * wordsOf c) = n := spanOf_at hn h0 (by omega)
  have e2 : (n * 64 + q * wordsOf c) % 64 = q * wordsOf c := by omega
  unfold placeOf
  rw [if_neg (by rw [e1]; omega), e2, if_neg (by rw [Int.mul_emod_left]; simp), Int.mul_ediv_cancel _ (by omega)]
theorem find_at {a : PAr} (hl : a.sp.length ≤ 512) {n : Int} {q : Nat} (hn : a.has n) (hq : (q : Int) < placesOf (a.at n).cls) :
    a.find (n * 64 + q * wordsOf (a.at n).cls) = if (a.at n).tk.getLsbD q then some (n, q) else none := by
  have b1 := hn.1
  have b2 := hn.2
  obtain ⟨c0, c1, w2, w3, w4, _⟩ := wp_cases _ q (by omega) hq
  have h0 : (0 : Int) ≤ q * wordsOf (a.at n).cls := Int.mul_nonneg (by omega) (by omega)
  have e1 : spanOf (n * 64 + q * wordsOf (a.at n).cls) = n := spanOf_at ⟨by omega, by omega⟩ h0 (by omega)
  have e2 : placeOf (n * 64 + q * wordsOf (a.at n).cls) (a.at n).cls = q := placeOf_at ⟨by omega, by omega⟩ hq
  have e3 : a.cls n = (a.at n).cls := by unfold PAr.cls; rw [if_pos hn]
  unfold PAr.find
  rw [e1, e3, e2, Int.toNat_natCast]
  cases hb : (a.at n).tk.getLsbD q with
  | false => simp
  | true => simp
theorem find_none {a : PAr} {ad : Int} (h : a.cls (spanOf ad) = -1) : a.find ad = none := by
  unfold PAr.find
  rw [h]
  have : placeOf ad (-1) = -1 := by unfold placeOf; rw [if_pos (.inl rfl)]
  rw [this]; simp
theorem word_at {a : PAr} (hl : a.sp.length ≤ 512) {n : Int} {q : Nat} (hn : a.has n) (hq : (q : Int) < placesOf (a.at n).cls) (hb : (a.at n).tk.getLsbD q = true) {k : Int} (hk : 0 ≤ k ∧ k < wordsOf (a.at n).cls) :
    a.word (n * 64 + q * wordsOf (a.at n).cls) k = some (n * 64 + q * wordsOf (a.at n).cls + k).toNat := by
  unfold PAr.word
  rw [find_at hl hn hq, hb]
  simp only [if_true]
  rw [if_pos hk]
theorem cls_at {a : PAr} {n : Int} (hn : a.has n) : a.cls n = (a.at n).cls := by unfold PAr.cls; rw [if_pos hn]

/-! ### Counting -/
theorem cnt_and (m : Nat) (g : Nat → Bool) : ∀ n, cnt (fun j => decide (j < m) && g j) n = cnt g (min m n)
  | 0 => by simp [cnt]
  | n + 1 => by
    rw [cnt, cnt_and m g n]
    by_cases h : n < m
    · rw [Nat.min_eq_right (by omega), Nat.min_eq_right (by omega), cnt]; simp [h]
    · rw [Nat.min_eq_left (by omega), Nat.min_eq_left (by omega)]; simp [h]
theorem cnt_not (g : Nat → Bool) : ∀ n, cnt (fun j => !g j) n + cnt g n = n
  | 0 => rfl
  | n + 1 => by
    have := cnt_not g n
    rw [cnt, cnt]
    cases g n <;> simp <;> omega
theorem cnt_zero {g : Nat → Bool} : ∀ {n : Nat}, cnt g n = 0 ↔ ∀ j, j < n → g j = false
  | 0 => by simp [cnt]
  | n + 1 => by
    rw [cnt]
    constructor
    · intro h j hj
      by_cases e : j = n
      · subst e; cases hg : g j with
        | false => rfl
        | true => rw [hg] at h; simp at h
      · exact (cnt_zero (n := n)).1 (by omega) j (by omega)
    · intro h
      rw [cnt_zero.2 fun j hj => h j (by omega), h n (by omega)]; rfl
theorem bit_is1 (b : BitVec 64) (q : Nat) : decide ((((b >>> q) &&& BitVec.ofInt 64 1).toNat : Int) = 1) = b.getLsbD q := by
  have e : (b >>> q) &&& BitVec.ofInt 64 1 = if b.getLsbD q then 1#64 else 0#64 := by
    apply BitVec.eq_of_getLsbD_eq
    intro i hi
    have e1 : BitVec.ofInt 64 1 = 1#64 := rfl
    rw [BitVec.getLsbD_and, BitVec.getLsbD_ushiftRight, e1, BitVec.getLsbD_one]
    by_cases h : i = 0
    · subst h
      cases hb : b.getLsbD q <;> simp [hb]
    · cases hb : b.getLsbD q <;> simp [h]
  rw [e]
  cases b.getLsbD q <;> simp
/-- 'v ^ i' of two int64. -/
def xr (v i : Int) : Int := IntKind.i64.wrap (BitVec.ofInt 64 v ^^^ BitVec.ofInt 64 i).toNat
theorem xor_i64 (v i : Int) : binP .xor (.int .i64 v) (.int .i64 i) = some (.int .i64 (xr v i)) := by
  rw [bin_int _ (by decide) (by decide)]; rfl
theorem first0_lt {b : BitVec 64} {q : Nat} (hq : q < 64) (h : b.getLsbD q = false) : first0 b ≤ q ∧ b.getLsbD (first0 b) = false := by
  rcases first0_spec b with ⟨_, h2⟩ | ⟨_, h2, h3⟩
  · rw [h2 q hq] at h; cases h
  · refine ⟨?_, h2⟩
    by_cases e : q < first0 b
    · rw [h3 q e] at h; cases h
    · omega
theorem first0_low {b : BitVec 64} {m : Nat} (hm : m < 64) (h : ∀ j, b.getLsbD j = decide (j < m)) : first0 b = m := by
  have h1 := first0_lt (b := b) hm (by rw [h]; simp)
  have h2 := h1.2
  rw [h] at h2
  simp at h2; omega
end Go.Ab.F
