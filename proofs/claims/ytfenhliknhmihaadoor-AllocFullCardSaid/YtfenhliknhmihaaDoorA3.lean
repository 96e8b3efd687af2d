import Derived.Test.YtfenhliknhmihaaDoorA2
import Derived.KernelRfl
namespace Go.Ab.F
open Go Go.Ab
set_option linter.all false
attribute [local congr] c_bind c_cl c_mk c_lp c_clC c_gQ c_gV c_condE c_thenK

/-! ### The least bit -/
def debL : List Int := [0, 1, 56, 2, 57, 49, 28, 3, 61, 58, 42, 50, 38, 29, 17, 4, 62, 47, 59, 36, 45, 43, 51, 22, 53, 39, 33, 30, 24, 18, 12, 5, 63, 55, 48, 27, 60, 41, 37, 16, 46, 35, 44, 21, 52, 32, 23, 11, 54, 26, 40, 15, 34, 20, 31, 10, 25, 14, 19, 9, 13, 8, 7, 6]
def Tabled (h : Heap) : Prop := h.get 0 = some (.cells false (debL.map fun n => AV.int .u8 n))
/-- The least bit that is 1 (64: there is none). -/
def ctz (b : BitVec 64) : Nat := ((List.range 64).find? fun i => b.getLsbD i).getD 64
theorem ctz_spec (b : BitVec 64) : (ctz b = 64 ∧ b = 0) ∨ (ctz b < 64 ∧ b.getLsbD (ctz b) = true ∧ ∀ j, j < ctz b → b.getLsbD j = false) := by
  unfold ctz
  cases hf : (List.range 64).find? fun i => b.getLsbD i with
  | none =>
    left
    rw [List.find?_eq_none] at hf
    refine ⟨rfl, BitVec.eq_of_getLsbD_eq fun i hi => ?_⟩
    have := hf i (List.mem_range.2 hi)
    simpa using this
  | some k =>
    right
    have hk := List.find?_some hf
    have hm := List.mem_range.1 (List.mem_of_find?_eq_some hf)
    refine ⟨hm, hk, fun j hj => ?_⟩
    rw [List.find?_range_eq_some] at hf
    have := hf.2.2 j hj
    simpa using this
theorem and_neg (b : BitVec 64) (k : Nat) (hk : k < 64) (h1 : b.getLsbD k = true) (h2 : ∀ j, j < k → b.getLsbD j = false) : b &&& -b = BitVec.twoPow 64 k := by
  apply BitVec.eq_of_getLsbD_eq
  intro i hi
  rw [BitVec.getLsbD_and, BitVec.getLsbD_neg, BitVec.getLsbD_twoPow]
  by_cases e : k = i
  · subst e
    have : ¬ ∃ j, j < k ∧ b.getLsbD j = true := by rintro ⟨j, hj, hb⟩; rw [h2 j hj] at hb; cases hb
    simp [h1, hi, this]
  · by_cases hlt : i < k
    · simp [h2 i hlt, e]
    · have : ∃ j, j < i ∧ b.getLsbD j = true := ⟨k, by omega, h1⟩
      simp [this, hi, e]
def debIx (k : Nat) : Nat := (2 ^ k * 285870213051353865) % 2 ^ 64 / 2 ^ 58
theorem debOk_all : ((List.range 64).all fun k => debL[debIx k]? == some (k : Int) && Nat.blt (debIx k) 64) = true := by decide +kernel
theorem debOk_at (k : Nat) (hk : k < 64) : debL[debIx k]? = some (k : Int) ∧ debIx k < 64 := by
  have h := List.all_eq_true.1 debOk_all k (List.mem_range.2 hk)
  rw [Bool.and_eq_true] at h
  exact ⟨eq_of_beq h.1, by have := h.2; rw [Nat.blt_eq] at this; exact this⟩
attribute [irreducible] debIx
theorem deb_c : (BitVec.ofInt 64 285870213051353865).toNat = 285870213051353865 := by decide
theorem two_nat (k : Nat) (hk : k < 64) : (BitVec.twoPow 64 k).toNat = 2 ^ k := by
  rw [BitVec.toNat_twoPow]
  exact Nat.mod_eq_of_lt (Nat.pow_lt_pow_right (by decide) hk)
theorem deb_nat (k : Nat) (hk : k < 64) (c : BitVec 64) (m : Nat) (hc : c.toNat = m) : ((BitVec.twoPow 64 k * c) >>> 58).toNat = (2 ^ k * m) % 2 ^ 64 / 2 ^ 58 := by
  rw [BitVec.toNat_ushiftRight, BitVec.toNat_mul, hc, two_nat k hk, Nat.shiftRight_eq_div_pow]
theorem debIx_eq (k m : Nat) (hm : m = 285870213051353865) : (2 ^ k * m) % 2 ^ 64 / 2 ^ 58 = debIx k := by subst hm; unfold debIx; rfl
theorem deb_at (k : Nat) (hk : k < 64) : debL[((BitVec.twoPow 64 k * BitVec.ofInt 64 285870213051353865) >>> 58).toNat]? = some (k : Int) ∧ ((BitVec.twoPow 64 k * BitVec.ofInt 64 285870213051353865) >>> 58).toNat < 64 := by
  rw [deb_nat k hk _ _ rfl, debIx_eq k _ deb_c]
  exact debOk_at k hk
theorem tz_walk (b : BitVec 64) (h : Heap) (hne : ¬ (b.toNat : Int) = 0) (v m s : BitVec 64) (n : Int) (hn : 0 ≤ n ∧ n < 256)
    (h1 : b &&& -b = v) (h2 : v * BitVec.ofInt 64 285870213051353865 = m) (h3 : m >>> 58 = s) (hs : s.toNat < 64)
    (hl : ldS h (.ptr (some (0, s.toNat))) = some (.int .u8 n)) : k_mbits_TrailingZeros64 (.int .u64 b.toNat) h = some (.int .i64 n, h) := by
  have hmul := mul_u64 v 285870213051353865
  have hshr := shr_u64 m .u64 58 (by omega)
  rw [h2] at hmul
  rw [show (58 : Int).toNat = 58 from rfl, h3] at hshr
  have hix : iaA 64 1 (AV.ptr (some (0, 0))) (.int .u64 s.toNat) = some (.ptr (some (0, s.toNat))) := by
    rw [iaA_ptr, if_pos ⟨by omega, by omega⟩]; simp
  simp -implicitDefEqProofs only [k_mbits_TrailingZeros64, eql_int, hne, decide_false, Option.bind_some, condE_false, neg_u64, and_u64, ofInt_toNat, h1, hmul, hshr, hix, hl, cvI_int]
  rw [wrap_i64 (by omega) (by omega)]
theorem ctz_eq (b : BitVec 64) {h : Heap} (ht : Tabled h) : k_mbits_TrailingZeros64 (.int .u64 b.toNat) h = some (.int .i64 (ctz b), h) := by
  rcases ctz_spec b with ⟨h1, rfl⟩ | ⟨h1, h2, h3⟩
  · have h1' : ctz 0#64 = 64 := h1
    simp [k_mbits_TrailingZeros64, h1']
  · have hne : ¬ (b.toNat : Int) = 0 := by

      intro e
      have : b = 0 := BitVec.eq_of_toNat_eq (by simpa using e)
      rw [this] at h2; simp at h2
    obtain ⟨hd, hlt⟩ := deb_at (ctz b) h1
    refine tz_walk b h hne _ _ _ _ (by omega) (and_neg b (ctz b) h1 h2 h3) rfl rfl hlt ?_
    rw [ldS_at ht, List.getElem?_map, hd, Option.map_some]
def first0 (b : BitVec 64) : Nat := ctz (~~~b)
theorem first_eq (b : BitVec 64) {h : Heap} (ht : Tabled h) : k_bits_First (.int .u64 b.toNat) h = some (.int .i64 (first0 b), h) := by
  simp only [k_bits_First, not_u64, Option.bind_some, ctz_eq _ ht, cl_some, first0]
theorem first0_spec (b : BitVec 64) : (first0 b = 64 ∧ ∀ j, j < 64 → b.getLsbD j = true) ∨ (first0 b < 64 ∧ b.getLsbD (first0 b) = false ∧ ∀ j, j < first0 b → b.getLsbD j = true) := by
  unfold first0
  rcases ctz_spec (~~~b) with ⟨h1, h2⟩ | ⟨h1, h2, h3⟩
  · refine .inl ⟨h1, fun j hj => ?_⟩
    have : (~~~b).getLsbD j = false := by rw [h2]; simp
    rw [BitVec.getLsbD_not] at this
    simpa [hj] using this
  · refine .inr ⟨h1, by rw [BitVec.getLsbD_not] at h2; simpa [h1] using h2, fun j hj => ?_⟩
    have := h3 j hj
    rw [BitVec.getLsbD_not] at this
    simpa [show j < 64 by omega] using this
end Go.Ab.F
