import Derived.Test.YtfenhliknhmihaaDoorA8
namespace Go.Ab.F
open Go Go.Ab
set_option linter.all false
attribute [local congr] c_bind c_cl c_mk c_lp c_clC c_gQ c_gV c_condE c_thenK

theorem add_u64 (a b : BitVec 64) : binP .add (.int .u64 a.toNat) (.int .u64 b.toNat) = some (.int .u64 (a + b).toNat) := by
  rw [bin_add, wrap_mod, BitVec.ofInt_add, ofInt_toNat, ofInt_toNat]
theorem ones_eq (b : BitVec 64) (h : Heap) : k_mbits_OnesCount64 (.int .u64 b.toNat) h = some (.int .i64 (ones b), h) := by
  obtain ⟨x1, x2, x3, e1, l1, e2, l2, e3, l3, e4⟩ := swar b.toNat b.isLt
  have c1 : (BitVec.ofInt 64 6148914691236517205).toNat = 6148914691236517205 := by decide
  have c2 : (BitVec.ofInt 64 3689348814741910323).toNat = 3689348814741910323 := by decide
  have c3 : (BitVec.ofInt 64 1085102592571150095).toNat = 1085102592571150095 := by decide
  generalize hm1 : BitVec.ofInt 64 6148914691236517205 = m1 at c1
  generalize hm2 : BitVec.ofInt 64 3689348814741910323 = m2 at c2
  generalize hm3 : BitVec.ofInt 64 1085102592571150095 = m3 at c3
  have sh : ∀ (a : BitVec 64) (n : Nat), binP .shr (.int .u64 a.toNat) (.int .u64 (n : Int)) = some (.int .u64 (a >>> n).toNat) := shr_is
  have s1' : ((b >>> 1 &&& m1) + (b &&& m1)).toNat = x1 := by
    rw [BitVec.toNat_add, BitVec.toNat_and, BitVec.toNat_and, BitVec.toNat_ushiftRight, c1, e1]; omega
  have s2' : ((((b >>> 1 &&& m1) + (b &&& m1)) >>> 2 &&& m2) + (((b >>> 1 &&& m1) + (b &&& m1)) &&& m2)).toNat = x2 := by
    rw [BitVec.toNat_add, BitVec.toNat_and, BitVec.toNat_and, BitVec.toNat_ushiftRight, s1', c2, e2]; omega
  generalize hX1 : (b >>> 1 &&& m1) + (b &&& m1) = X1 at *
  generalize hX2 : (X1 >>> 2 &&& m2) + (X1 &&& m2) = X2 at *
  have s3' : ((X2 >>> 4 + X2) &&& m3).toNat = x3 := by
    rw [BitVec.toNat_and, BitVec.toNat_add, BitVec.toNat_ushiftRight, s2', c3]
    have : x2 >>> 4 ≤ x2 := by rw [Nat.shiftRight_eq_div_pow]; exact Nat.div_le_self _ _
    rw [Nat.mod_eq_of_lt (by omega), e3]
  generalize hX3 : (X2 >>> 4 + X2) &&& m3 = X3 at *
  have y1 : (X3 + X3 >>> 8).toNat = x3 + x3 >>> 8 := by
    have : x3 >>> 8 ≤ x3 := by rw [Nat.shiftRight_eq_div_pow]; exact Nat.div_le_self _ _
    rw [BitVec.toNat_add, BitVec.toNat_ushiftRight, s3', Nat.mod_eq_of_lt (by omega)]
  have b1 : x3 + x3 >>> 8 < 2 ^ 61 := by
    have : x3 >>> 8 ≤ x3 := by rw [Nat.shiftRight_eq_div_pow]; exact Nat.div_le_self _ _
    omega
  generalize hY : X3 + X3 >>> 8 = Y at *
  have y2 : (Y + Y >>> 16).toNat = x3 + x3 >>> 8 + (x3 + x3 >>> 8) >>> 16 := by
    have : (x3 + x3 >>> 8) >>> 16 ≤ x3 + x3 >>> 8 := by rw [Nat.shiftRight_eq_div_pow]; exact Nat.div_le_self _ _
    rw [BitVec.toNat_add, BitVec.toNat_ushiftRight, y1, Nat.mod_eq_of_lt (by omega)]
  have b2 : x3 + x3 >>> 8 + (x3 + x3 >>> 8) >>> 16 < 2 ^ 62 := by
    have : (x3 + x3 >>> 8) >>> 16 ≤ x3 + x3 >>> 8 := by rw [Nat.shiftRight_eq_div_pow]; exact Nat.div_le_self _ _
    omega
  generalize hZ : Y + Y >>> 16 = Z at *
  have y3 : (Z + Z >>> 32).toNat = x3 + x3 >>> 8 + (x3 + x3 >>> 8) >>> 16 + (x3 + x3 >>> 8 + (x3 + x3 >>> 8) >>> 16) >>> 32 := by
    have : (x3 + x3 >>> 8 + (x3 + x3 >>> 8) >>> 16) >>> 32 ≤ x3 + x3 >>> 8 + (x3 + x3 >>> 8) >>> 16 := by rw [Nat.shiftRight_eq_div_pow]; exact Nat.div_le_self _ _
    rw [BitVec.toNat_add, BitVec.toNat_ushiftRight, y2, Nat.mod_eq_of_lt (by omega)]
  have b3 : (Z + Z >>> 32).toNat < 2 ^ 63 := by
    have : (x3 + x3 >>> 8 + (x3 + x3 >>> 8) >>> 16) >>> 32 ≤ x3 + x3 >>> 8 + (x3 + x3 >>> 8) >>> 16 := by rw [Nat.shiftRight_eq_div_pow]; exact Nat.div_le_self _ _
    rw [y3]; omega
  rw [← y3] at e4
  generalize hT : Z + Z >>> 32 = T at *
  have hw : IntKind.i64.wrap (T.toNat : Int) = T.toNat := wrap_i64 (by omega) (by omega)
  have hand : binP .and (.int .i64 (T.toNat : Int)) (.int .i64 127) = some (.int .i64 (ones b)) := by
    rw [bin_int _ (by decide) (by decide)]
    have e0 : intBin .and .i64 (T.toNat : Int) 127 = some (.int .i64 (IntKind.i64.wrap (BitVec.ofInt 64 (T.toNat : Int) &&& BitVec.ofInt 64 127).toNat)) := rfl
    have e5 : (T &&& BitVec.ofInt 64 127).toNat = ones b := by
      have c127 : (BitVec.ofInt 64 127).toNat = 2 ^ 7 - 1 := by decide
      rw [BitVec.toNat_and, c127, Nat.and_two_pow_sub_one_eq_mod]
      exact e4.trans (by rfl)
    have hle : ones b ≤ 64 := cnt_le _ _
    rw [e0, ofInt_toNat, e5, wrap_i64 (by omega) (by omega)]
  have sh1 : binP .shr (.int .u64 b.toNat) (.int .u64 1) = _ := sh b 1
  have sh2 : binP .shr (.int .u64 X1.toNat) (.int .u64 2) = _ := sh X1 2
  have sh4 : binP .shr (.int .u64 X2.toNat) (.int .u64 4) = _ := sh X2 4
  have sh8 : binP .shr (.int .u64 X3.toNat) (.int .u64 8) = _ := sh X3 8
  have sh16 : binP .shr (.int .u64 Y.toNat) (.int .u64 16) = _ := sh Y 16
  have sh32 : binP .shr (.int .u64 Z.toNat) (.int .u64 32) = _ := sh Z 32
  simp -implicitDefEqProofs only [k_mbits_OnesCount64, sh1, Option.bind_some, and_u64, ofInt_toNat, hm1, add_u64, hX1, sh2, hm2, hX2, sh4, hm3, hX3, sh8, hY, sh16, hZ, sh32, hT, cvI_int, hw, hand]
theorem bones_eq (b : BitVec 64) (h : Heap) : k_bits_Ones (.int .u64 b.toNat) h = some (.int .i64 (ones b), h) := by
  simp -implicitDefEqProofs only [k_bits_Ones, ones_eq, cl_some]

theorem and_bit (b : BitVec 64) (q : Nat) (hq : q < 64) : decide (((b &&& bitOf q).toNat : Int) = 0) = !b.getLsbD q := by
  have e : b &&& bitOf q = if b.getLsbD q then bitOf q else 0#64 := by
    apply BitVec.eq_of_getLsbD_eq
    intro i hi
    rw [BitVec.getLsbD_and, bit_get q i hq]
    by_cases h : i = q
    · subst h; cases hb : b.getLsbD i <;> simp [bit_get _ _ hq]
    · cases hb : b.getLsbD q <;> simp [h, bit_get _ _ hq]
  rw [e]
  cases b.getLsbD q
  · simp
  · have : (bitOf q).toNat = 2 ^ q := two_nat q hq
    simp only [if_true, this, Bool.not_true, decide_eq_false_iff_not]
    have := Nat.two_pow_pos q
    omega

/-! ### Words -/
def PAr.word (a : PAr) (ad k : Int) : Option Nat :=
  match a.find ad with
  | none => none
  | some (n, _) => if 0 ≤ k ∧ k < wordsOf (a.at n).cls then some (ad + k).toNat else none
theorem word_lt {h : Heap} {p w s : Nat} {a : PAr} (H : ArAt h p w s a) {ad k : Int} {i : Nat} (hi : a.word ad k = some i) : i < a.ws.length ∧ (i : Int) = ad + k ∧ 0 ≤ ad ∧ ad < 32768 ∧ 0 ≤ k ∧ k < 64 := by
  unfold PAr.word at hi
  cases hf : a.find ad with
  | none => rw [hf] at hi; cases hi
  | some x =>
    obtain ⟨n, q⟩ := x
    rw [hf] at hi
    simp only at hi
    split at hi
    · rename_i hk
      injection hi with hi
      obtain ⟨f1, f2, f3, f4, f5, f6, f7⟩ := find_some hf
      have := wp_cases _ _ (by omega) f3
      have := H.len
      have := H.hi
      have g1 := f1.1
      have g2 := f1.2
      have hq0 : (0 : Int) ≤ q * wordsOf (a.at n).cls := Int.mul_nonneg (by omega) (by omega)
      refine ⟨by omega, by omega, by omega, by omega, hk.1, by omega⟩
    · cases hi
def PAr.read (a : PAr) (ad k : Int) : Int × Int := match a.word ad k with | none => (0, 1) | some i => ((a.ws[i]?).getD 0, 0)
def PAr.write (a : PAr) (ad k v : Int) : Int × PAr := match a.word ad k with | none => (1, a) | some i => (0, ⟨a.ws.set i v, a.sp⟩)
theorem read_none {a : PAr} {ad k : Int} (e : a.word ad k = none) : a.read ad k = (0, 1) := by unfold PAr.read; rw [e]
theorem read_some {a : PAr} {ad k : Int} {i : Nat} (e : a.word ad k = some i) : a.read ad k = ((a.ws[i]?).getD 0, 0) := by unfold PAr.read; rw [e]
theorem write_none {a : PAr} {ad k v : Int} (e : a.word ad k = none) : a.write ad k v = (1, a) := by unfold PAr.write; rw [e]
theorem write_some {a : PAr} {ad k v : Int} {i : Nat} (e : a.word ad k = some i) : a.write ad k v = (0, ⟨a.ws.set i v, a.sp⟩) := by unfold PAr.write; rw [e]
def ptrO (w : Nat) : Option Nat → AV
  | none => .ptr none
  | some i => .ptr (some (w, i))
theorem ptrO_none (w : Nat) : ptrO w none = .ptr none := rfl
theorem ptrO_some (w i : Nat) : ptrO w (some i) = .ptr (some (w, i)) := rfl
section
variable {h : Heap} {p w s : Nat} {a : PAr} (H : ArAt h p w s a)
include H
theorem word_eq (ad k : Int) : k_arena_Arena_word (.ptr (some (p, 0))) (.int .i64 ad) (.int .i64 k) h = some (ptrO w (a.word ad k), h) := by
  cases hf : a.find ad with
  | none =>
    have e : a.word ad k = none := by simp only [PAr.word, hf]
    simp -implicitDefEqProofs [k_arena_Arena_word, find_eq H, hf, e, ptrO_none]
  | some x =>
    obtain ⟨n, q⟩ := x
    obtain ⟨f1, _⟩ := find_some hf
    have hl := H.ldc f1
    by_cases h1 : 0 ≤ k
    · by_cases h2 : k < wordsOf (a.at n).cls
      · have e : a.word ad k = some (ad + k).toNat := by simp only [PAr.word, hf]; rw [if_pos ⟨h1, h2⟩]
        obtain ⟨b1, b2, b3, b4, b5, b6⟩ := word_lt H e
        obtain ⟨c, _, hd⟩ := H.ld0
        have hix : iaS 1 (.sl (some (w, 0)) a.ws.length c) (.int .i64 (ad + k)) = some (.ptr (some (w, (ad + k).toNat))) := by
          rw [iaS_sl 1 (w, 0) _ _ .i64 _ ⟨by omega, by omega⟩]; simp
        have hw : IntKind.i64.wrap (ad + k) = ad + k := wrap_i64 (by omega) (by omega)
        have h1' : ¬ k < 0 := by omega
        have h2' : ¬ wordsOf (a.at n).cls ≤ k := by omega
        simp -implicitDefEqProofs [k_arena_Arena_word, find_eq H, hf, e, ptrO_none, ptrO_some, h1', hl, words_eq, h2', hd, hw, hix]
      · have e : a.word ad k = none := by simp only [PAr.word, hf]; rw [if_neg (fun h => h2 h.2)]
        have h1' : ¬ k < 0 := by omega
        have h2' : wordsOf (a.at n).cls ≤ k := by omega
        simp -implicitDefEqProofs [k_arena_Arena_word, find_eq H, hf, e, ptrO_none, ptrO_some, h1', hl, words_eq, h2']
    · have e : a.word ad k = none := by simp only [PAr.word, hf]; rw [if_neg (fun h => h1 h.1)]
      have h1' : k < 0 := by omega
      simp -implicitDefEqProofs [k_arena_Arena_word, find_eq H, hf, e, ptrO_none, ptrO_some, h1']
theorem read_eq (ad k : Int) : k_arena_Arena_Read (.ptr (some (p, 0))) (.int .i64 ad) (.int .i64 k) h = some (.tup [.int .i64 (a.read ad k).1, .int .i64 (a.read ad k).2], h) := by
  rcases opt_cases (a.word ad k) with e | ⟨i, e⟩
  · simp -implicitDefEqProofs only [k_arena_Arena_Read, word_eq H, e, read_none e, ptrO_none, cl_some, eql_nil_ptr, Option.isNone_none, Option.bind_some, condE_true]
  ·
    have hi := (word_lt H e).1
    have hl : ldS h (.ptr (some (w, i))) = some (.int .i64 ((a.ws[i]?).getD 0)) := by
      rw [ldS_at H.hw]; simp [wsC, hi]
    simp -implicitDefEqProofs only [k_arena_Arena_Read, word_eq H, e, read_some e, ptrO_some, hl, cl_some, eql_ptr_nil, Option.bind_some, condE_false, nilV_ptr]
theorem write_ok (ad k v : Int) : Ok (k_arena_Arena_Write (.ptr (some (p, 0))) (.int .i64 ad) (.int .i64 k) (.int .i64 v) h) fun r => r.1 = .int .i64 (a.write ad k v).1 ∧ ArAt r.2 p w s (a.write ad k v).2 ∧ Same [w] h r.2 := by
  rcases opt_cases (a.word ad k) with e | ⟨i, e⟩
  ·
    refine (Ok.of (r := (.int .i64 1, h)) ?_).eq (by simp -implicitDefEqProofs only [k_arena_Arena_Write, word_eq H, e, ptrO_none, cl_some, eql_nil_ptr, Option.isNone_none, Option.bind_some, condE_true])
    rw [write_none e]
    exact ⟨rfl, H, Same.refl _ _⟩
  ·
    have hi := (word_lt H e).1
    have hs : stP 1 h (.ptr (some (w, i))) (.int .i64 v) = some (.bot, h.put w (some (.cells true (wsC (a.ws.set i v))))) := by
      rw [stP_one H.hw (by simp [wsC, hi]) rfl]; simp [wsC, List.map_set]
    refine (Ok.of (r := (.int .i64 0, h.put w (some (.cells true (wsC (a.ws.set i v)))))) ?_).eq (by simp -implicitDefEqProofs only [k_arena_Arena_Write, word_eq H, e, ptrO_some, hs, cl_some, eql_ptr_nil, Option.bind_some, condE_false, nilV_ptr])
    rw [write_some e]
    exact ⟨rfl, H.setWs (by simp), Same.put _ _ _⟩
def PAr.mark (a : PAr) (ad : Int) : Bool × PAr :=
  match a.find ad with
  | none => (false, a)
  | some (n, q) => if (a.at n).md.getLsbD q then (false, a) else (true, a.setS n ⟨(a.at n).cls, (a.at n).tk, (a.at n).md ||| bitOf q⟩)
theorem mark_ok (ad : Int) : Ok (k_arena_Arena_Mark (.ptr (some (p, 0))) (.int .i64 ad) h) fun r => r.1 = .bool (a.mark ad).1 ∧ ArAt r.2 p w s (a.mark ad).2 ∧ Same [s] h r.2 := by
  rcases opt_cases (a.find ad) with hf | ⟨⟨n, q⟩, hf⟩
  ·
    refine (Ok.of (r := (.bool false, h)) ?_).eq (by simp -implicitDefEqProofs [k_arena_Arena_Mark, find_eq H, hf])
    simp only [PAr.mark, hf]
    exact ⟨trivial, H, Same.refl _ _⟩
  ·
    obtain ⟨f1, f2, f3, _⟩ := find_some hf
    have := wp_cases _ _ (by omega) f3
    have hl := H.ldm f1
    have hb := and_bit (a.at n).md q (by omega)
    cases hm : (a.at n).md.getLsbD q with
    | true =>
      rw [hm] at hb
      refine (Ok.of (r := (.bool false, h)) ?_).eq (by simp -implicitDefEqProofs only [k_arena_Arena_Mark, find_eq H, hf, cl_some, extractV_tup, List.getElem?_cons_zero, List.getElem?_cons_succ, Option.bind_some, eql_ptr_nil, gdW_bool, beq_self_eq_true, gQ_true, nilV_ptr, faP_ptr, hl, and_u64, ofInt_toNat, neq_int, hb, Bool.not_true, Bool.not_false, pickP_bool, if_false, condE_true, Bool.false_eq_true])
      simp only [PAr.mark, hf, hm, if_true]
      exact ⟨trivial, H, Same.refl _ _⟩
    | false =>
      rw [hm] at hb
      refine (Ok.of ?_).eq (by simp -implicitDefEqProofs only [k_arena_Arena_Mark, find_eq H, hf, cl_some, extractV_tup, List.getElem?_cons_zero, List.getElem?_cons_succ, Option.bind_some, eql_ptr_nil, gdW_bool, beq_self_eq_true, gQ_true, nilV_ptr, faP_ptr, hl, and_u64, ofInt_toNat, neq_int, hb, Bool.not_true, Bool.not_false, pickP_bool, if_false, condE_false, Bool.false_eq_true, or_u64, H.stm f1]; rfl)
      simp only [PAr.mark, hf, hm, Bool.false_eq_true, if_false]
      exact ⟨trivial, H.sets n _, Same.put _ _ _⟩
end
end Go.Ab.F
