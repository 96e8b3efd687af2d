import Derived.Test.YtfenhliknhmihaaDoorA1
namespace Go.Ab.F
open Go Go.Ab
set_option linter.all false
attribute [local congr] c_bind c_cl c_mk c_lp c_clC c_gQ c_gV c_condE c_thenK

/-! ### Words of 64 bits -/
theorem ofInt_toNat (a : BitVec 64) : BitVec.ofInt 64 (a.toNat : Int) = a := by
  rw [BitVec.ofInt_natCast]; simp
theorem wrap_toNat (a : BitVec 64) : IntKind.u64.wrap (a.toNat : Int) = a.toNat := wrap_u64 (by omega) (by have := a.isLt; omega)
@[simp] theorem and_u64 (x y : Int) : binP .and (.int .u64 x) (.int .u64 y) = some (.int .u64 (BitVec.ofInt 64 x &&& BitVec.ofInt 64 y).toNat) := by
  rw [bin_int _ (by decide) (by decide)]
  exact congrArg (fun n => some (AV.int .u64 n)) (wrap_toNat _)
@[simp] theorem or_u64 (x y : Int) : binP .or (.int .u64 x) (.int .u64 y) = some (.int .u64 (BitVec.ofInt 64 x ||| BitVec.ofInt 64 y).toNat) := by
  rw [bin_int _ (by decide) (by decide)]
  exact congrArg (fun n => some (AV.int .u64 n)) (wrap_toNat _)
@[simp] theorem xor_u64 (x y : Int) : binP .xor (.int .u64 x) (.int .u64 y) = some (.int .u64 (BitVec.ofInt 64 x ^^^ BitVec.ofInt 64 y).toNat) := by
  rw [bin_int _ (by decide) (by decide)]
  exact congrArg (fun n => some (AV.int .u64 n)) (wrap_toNat _)
@[simp] theorem andNot_u64 (x y : Int) : binP .andNot (.int .u64 x) (.int .u64 y) = some (.int .u64 (BitVec.ofInt 64 x &&& ~~~(BitVec.ofInt 64 y)).toNat) := by
  rw [bin_int _ (by decide) (by decide)]
  exact congrArg (fun n => some (AV.int .u64 n)) (wrap_toNat _)
@[simp] theorem not_u64 (a : BitVec 64) : unA .xor (.int .u64 a.toNat) = some (.int .u64 (~~~a).toNat) := by
  have e : unA .xor (.int .u64 (a.toNat : Int)) = some (.int .u64 (IntKind.u64.wrap (BitVec.ofInt 64 (if IntKind.u64.signed then -1 else IntKind.u64.max) ^^^ BitVec.ofInt 64 (a.toNat : Int)).toNat)) := rfl
  rw [e, ofInt_toNat, wrap_toNat]
  have : BitVec.ofInt 64 (if IntKind.u64.signed then -1 else IntKind.u64.max) = BitVec.allOnes 64 := by decide
  rw [this, BitVec.allOnes_xor]
theorem wrap_mod (n : Int) : IntKind.u64.wrap n = (BitVec.ofInt 64 n).toNat := by
  rw [BitVec.toNat_ofInt]
  simp [IntKind.wrap, IntKind.bits, IntKind.signed]
  omega
@[simp] theorem neg_u64 (a : BitVec 64) : unA .neg (.int .u64 a.toNat) = some (.int .u64 (-a).toNat) := by
  have e : unA .neg (.int .u64 (a.toNat : Int)) = some (.int .u64 (IntKind.u64.wrap (0 - (a.toNat : Int)))) := rfl
  rw [e, wrap_mod]
  have : BitVec.ofInt 64 (0 - (a.toNat : Int)) = -a := by
    rw [Int.zero_sub, BitVec.ofInt_neg, ofInt_toNat]
  rw [this]
theorem mul_u64 (a : BitVec 64) (y : Int) : binP .mul (.int .u64 a.toNat) (.int .u64 y) = some (.int .u64 (a * BitVec.ofInt 64 y).toNat) := by
  rw [bin_mul, wrap_mod, BitVec.ofInt_mul, ofInt_toNat]
theorem shl_u64 (a : BitVec 64) (k : IntKind) (n : Int) (h : 0 ≤ n) : binP .shl (.int .u64 a.toNat) (.int k n) = some (.int .u64 (a <<< n.toNat).toNat) := by
  have e : binP .shl (.int .u64 (a.toNat : Int)) (.int k n) = shiftA .shl .u64 a.toNat n := rfl
  rw [e, shiftA, if_neg (by omega)]
  simp only [wrap_mod]
  congr 3
  rw [BitVec.toNat_ofInt, BitVec.toNat_shiftLeft, Nat.shiftLeft_eq]
  have hb : IntKind.u64.bits = 64 := rfl
  rw [hb]
  by_cases hn : n.toNat ≤ 64
  · rw [Nat.min_eq_left hn]
    have : ((a.toNat : Int) * 2 ^ n.toNat) = ((a.toNat * 2 ^ n.toNat : Nat) : Int) := by push_cast; rfl
    rw [this]
    omega
  · rw [Nat.min_eq_right (by omega)]
    have h1 : a.toNat * 2 ^ n.toNat % 2 ^ 64 = 0 := by
      have : 2 ^ n.toNat = 2 ^ 64 * 2 ^ (n.toNat - 64) := by rw [← Nat.pow_add]; congr 1; omega
      rw [this, ← Nat.mul_assoc, Nat.mul_comm a.toNat, Nat.mul_assoc]
      exact Nat.mul_mod_right _ _
    rw [h1]
    have : ((a.toNat : Int) * 2 ^ 64) % ((2 ^ 64 : Nat) : Int) = 0 := by
      have : ((2 ^ 64 : Nat) : Int) = 2 ^ 64 := by norm_cast
      rw [this]; exact Int.mul_emod_left _ _
    rw [this]; rfl
theorem shr_u64 (a : BitVec 64) (k : IntKind) (n : Int) (h : 0 ≤ n) : binP .shr (.int .u64 a.toNat) (.int k n) = some (.int .u64 (a >>> n.toNat).toNat) := by
  have e : binP .shr (.int .u64 (a.toNat : Int)) (.int k n) = shiftA .shr .u64 a.toNat n := rfl
  rw [e, shiftA, if_neg (by omega)]
  have hb : IntKind.u64.bits = 64 := rfl
  simp only [hb]
  congr 2
  rw [BitVec.toNat_ushiftRight, Nat.shiftRight_eq_div_pow]
  have h0 : Int.fdiv (a.toNat : Int) (2 ^ min n.toNat 64) = ((a.toNat / 2 ^ min n.toNat 64 : Nat) : Int) := by
    have hp : ((2 : Int) ^ min n.toNat 64) = ((2 ^ min n.toNat 64 : Nat) : Int) := by push_cast; rfl
    rw [hp]
    exact (Int.ofNat_fdiv _ _).symm
  rw [h0]
  by_cases hn : n.toNat ≤ 64
  · rw [Nat.min_eq_left hn]
  · rw [Nat.min_eq_right (by omega)]
    have h1 : a.toNat / 2 ^ 64 = 0 := Nat.div_eq_of_lt a.isLt
    have h2 : a.toNat / 2 ^ n.toNat = 0 := Nat.div_eq_of_lt (Nat.lt_of_lt_of_le a.isLt (Nat.pow_le_pow_right (by decide) (by omega)))
    rw [h1, h2]
end Go.Ab.F
