import Derived.Test.YtfenhliknhmihaaDoorA12
import Derived.Test.YtfenhliknhmihaaDoorAbQ
import Derived.Test.YtfenhliknhmihaaDoorArg
namespace Go.Ab.F
open Go Go.Ab
set_option linter.all false
attribute [local congr] c_bind c_cl c_mk c_lp c_clC c_gQ c_gV c_condE c_thenK

/-! ### What lies there from the start -/
theorem tab0_sub {h : Heap} (hs : Sub hQ1 h) (hn : 1 ≤ h.next) : Tab0 h := by
  refine ⟨?_, hn⟩
  have := hs 0 (.cells false debQ) (by rw [hQ1_get]; rfl)
  unfold Tabled
  rw [this]; rfl
/-- A slice that is read alone. -/
structure RdC (h : Heap) (sz : Nat) (v : AV) (cs : List AV) (n : Nat) : Prop where
  len : cs.length = n * sz
  eq : (v = .sl none 0 (.ex 0) ∧ n = 0) ∨ ∃ b c, v = .sl (some (b, 0)) n c ∧ b < h.next ∧ (n ≠ 0 → h.get b = some (.cells false cs))
theorem RdC.lnL {h : Heap} {sz n : Nat} {v : AV} {cs : List AV} (H : RdC h sz v cs n) : Go.Ab.lnL v = some (.int .i64 n) := by
  rcases H.eq with ⟨rfl, rfl⟩ | ⟨b, c, rfl, _⟩
  · rfl
  · simp
theorem RdC.ix {h : Heap} {sz n : Nat} {v : AV} {cs : List AV} (H : RdC h sz v cs n) {i : Nat} (hi : i < n) :
    ∃ b, b < h.next ∧ h.get b = some (.cells false cs) ∧ ∀ k, iaS sz v (.int k (i : Int)) = some (.ptr (some (b, i * sz))) := by
  rcases H.eq with ⟨rfl, rfl⟩ | ⟨b, c, rfl, hb, hg⟩
  · omega
  · refine ⟨b, hb, hg (by omega), fun k => ?_⟩
    rw [iaS_sl sz (b, 0) _ _ k _ ⟨by omega, by omega⟩]; simp
theorem rd_ints {h : Heap} {k : IntKind} {x : D} {vs : List AV} (H : Rep h (.sl (.int k)) x vs) :
    ∃ l : List Int, RdC h 1 (argAV (.sl (.int k)) vs) (l.map fun n => .int k n) l.length ∧ (∀ n ∈ l, (Lit.int k n).wf = true) ∧ l.length ≤ maxLen := by
  cases x <;> simp only [Rep] at H
  rename_i xs
  rcases H with ⟨rfl, rfl⟩ | ⟨i, c, us, rfl, h1, h2, h3, h4, h5⟩
  · exact ⟨[], ⟨rfl, .inl ⟨rfl, rfl⟩⟩, by simp, Nat.zero_le _⟩
  · have hs : Ty.size (.int k) = 1 := rfl
    rw [hs, Nat.mul_one] at h3
    have each : ∀ j, j < xs.length → ∃ n, us[j]? = some (.int k n) ∧ (Lit.int k n).wf = true := fun j hj => by
      have := h5 j xs[j] (List.getElem?_eq_getElem hj)
      rw [hs, Nat.mul_one] at this
      generalize xs[j] = y at this
      cases y <;> simp only [Rep] at this
      rename_i n
      refine ⟨n, ?_, this.2⟩
      have e := congrArg (fun l => l[0]?) this.1
      simpa [List.getElem?_take] using e
    have hl : ∃ l : List Int, us = l.map (fun n => .int k n) ∧ ∀ n ∈ l, (Lit.int k n).wf = true := by
      clear h2 h4 h5 h1
      rw [← h3] at each
      clear h3
      induction us with
      | nil => exact ⟨[], rfl, by simp⟩
      | cons u us ih =>
        obtain ⟨n, hn, hw⟩ := each 0 (by simp)
        simp at hn; subst hn
        obtain ⟨l, rfl, hl⟩ := ih fun j hj => by
          obtain ⟨n, hn, hw⟩ := each (j + 1) (by simpa using hj)
          exact ⟨n, by simpa using hn, hw⟩
        exact ⟨n :: l, rfl, by simpa using ⟨hw, hl⟩⟩
    obtain ⟨l, rfl, hw⟩ := hl
    have hlen : l.length = xs.length := by simpa using h3
    refine ⟨l, ⟨by simp, .inr ⟨i, c, by rw [hlen]; rfl, h1, fun hne => h2 fun e => hne (by rw [hlen, e]; rfl)⟩⟩, hw, by omega⟩
theorem rd_int {h : Heap} {k : IntKind} {x : D} {vs : List AV} (H : Rep h (.int k) x vs) : ∃ n, argAV (.int k) vs = .int k n ∧ (Lit.int k n).wf = true := by
  cases x <;> simp only [Rep] at H
  rename_i n
  exact ⟨n, by rw [H.1]; rfl, H.2⟩
theorem rd_bool {h : Heap} {x : D} {vs : List AV} (H : Rep h .bool x vs) : ∃ b, argAV .bool vs = .bool b := by
  cases x <;> simp only [Rep] at H
  rename_i b
  exact ⟨b, by rw [H]; rfl⟩
theorem wf_i64 {n : Int} (h : (Lit.int .i64 n).wf = true) : -9223372036854775808 ≤ n ∧ n ≤ 9223372036854775807 := by
  simp only [Lit.wf, Bool.and_eq_true, decide_eq_true_eq] at h
  have e1 : IntKind.i64.min = -9223372036854775808 := rfl
  have e2 : IntKind.i64.max = 9223372036854775807 := rfl
  omega

/-! ### Bits of an int -/
theorem and7 (n : Int) : binP .and (.int .i64 n) (.int .i64 7) = some (.int .i64 (n % 8)) := by
  rw [bin_int _ (by decide) (by decide)]
  have e : intBin .and .i64 n 7 = some (.int .i64 (IntKind.i64.wrap (BitVec.ofInt 64 n &&& BitVec.ofInt 64 7).toNat)) := rfl
  have e7 : (BitVec.ofInt 64 7).toNat = 2 ^ 3 - 1 := by decide
  have h : (BitVec.ofInt 64 n &&& BitVec.ofInt 64 7).toNat = (n % 8).toNat := by
    rw [BitVec.toNat_and, e7, Nat.and_two_pow_sub_one_eq_mod, BitVec.toNat_ofInt]
    omega
  rw [e, h, wrap_i64 (by omega) (by omega)]
  congr 2; omega
theorem shr_i64 (n : Int) (k : Nat) : ∃ m, binP .shr (.int .i64 n) (.int .u64 (k : Int)) = some (.int .i64 m) := by
  have e : binP .shr (.int .i64 n) (.int .u64 (k : Int)) = shiftA .shr .i64 n k := rfl
  refine ⟨_, by rw [e, shiftA, if_neg (by omega)]⟩

/-! ### The document's own words and places -/
theorem rwords_ok (c : Int) (h : Heap) : Ok (k_ref1_Words (.int .i64 c) h) fun r => r.1 = .int .i64 (wordsOf c) ∧ Same [] h r.2 := by
  by_cases h1 : c < 0
  · have : wordsOf c = 0 := by unfold wordsOf; (repeat rw [if_neg (by omega)])
    exact ok_val (v := .int .i64 0) (g := h) (by simp -implicitDefEqProofs [k_ref1_Words, h1]) ⟨by rw [this], Same.refl _ _⟩
  · by_cases h2 : 5 < c
    · have : wordsOf c = 0 := by unfold wordsOf; (repeat rw [if_neg (by omega)])
      exact ok_val (v := .int .i64 0) (g := h) (by simp -implicitDefEqProofs [k_ref1_Words, h1, h2]) ⟨by rw [this], Same.refl _ _⟩
    · have hb : bsP 1 [(AV.int .i64 0)] 6 [(0, (AV.int .i64 2)), (1, (AV.int .i64 4)), (2, (AV.int .i64 8)), (3, (AV.int .i64 16)), (4, (AV.int .i64 32)), (5, (AV.int .i64 64))]
        = some (.cells true [.int .i64 2, .int .i64 4, .int .i64 8, .int .i64 16, .int .i64 32, .int .i64 64], fun i => .sl (some (i, 0)) 6 (.ex 6)) := rfl
      have hix : iaS 1 (.sl (some (h.next, 0)) 6 (.ex 6)) (.int .i64 c) = some (.ptr (some (h.next, c.toNat))) := by
        rw [iaS_sl 1 _ _ _ _ _ ⟨by omega, by omega⟩]; simp
      have hl : ldS (h.new (.cells true [.int .i64 2, .int .i64 4, .int .i64 8, .int .i64 16, .int .i64 32, .int .i64 64])) (.ptr (some (h.next, c.toNat))) = some (.int .i64 (wordsOf c)) := by
        rw [ldS_at get_new_eq]
        rcases (by omega : c = 0 ∨ c = 1 ∨ c = 2 ∨ c = 3 ∨ c = 4 ∨ c = 5) with rfl | rfl | rfl | rfl | rfl | rfl <;> rfl
      exact ok_val (by simp -implicitDefEqProofs only [k_ref1_Words, bin_lss, bin_gtr, h1, h2, decide_false, Option.bind_some, gdW_bool, beq_self_eq_true, gQ_true, cl_some, pickP_bool, Bool.false_eq_true, if_false, condE_false, hb, mk_some, hix, hl]; rfl) ⟨rfl, Same.new _ _⟩

theorem clr_get {l : List Int} {o n i : Nat} (hl : o + n ≤ l.length) (hi : i < o ∨ o + n ≤ i) : (clr l o n)[i]? = l[i]? := by
  unfold clr
  rcases hi with hi | hi
  · rw [List.getElem?_append_left (by simp; omega), List.getElem?_append_left (by simp; omega), List.getElem?_take]; simp [hi]
  · rw [List.getElem?_append_right (by simp; omega), List.getElem?_drop]
    congr 1
    simp only [List.length_append, List.length_take, List.length_replicate]
    omega
end Go.Ab.F
