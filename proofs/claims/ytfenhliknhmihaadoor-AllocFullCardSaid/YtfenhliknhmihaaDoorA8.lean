import Derived.Test.YtfenhliknhmihaaDoorA7
namespace Go.Ab.F
open Go Go.Ab
set_option linter.all false
attribute [local congr] c_bind c_cl c_mk c_lp c_clC c_gQ c_gV c_condE c_thenK

/-! ### How many bits are 1 -/
def cnt (f : Nat → Bool) : Nat → Nat
  | 0 => 0
  | n + 1 => cnt f n + (f n).toNat
theorem cnt_add (f : Nat → Bool) (m : Nat) : ∀ n, cnt f (m + n) = cnt f m + cnt (fun i => f (m + i)) n
  | 0 => rfl
  | n + 1 => by rw [← Nat.add_assoc, cnt, cnt_add f m n, cnt, Nat.add_assoc]
theorem cnt_congr {f g : Nat → Bool} : ∀ {n : Nat}, (∀ i, i < n → f i = g i) → cnt f n = cnt g n
  | 0, _ => rfl
  | n + 1, h => by rw [cnt, cnt, cnt_congr (fun i hi => h i (by omega)), h n (by omega)]
theorem cnt_le (f : Nat → Bool) : ∀ n, cnt f n ≤ n
  | 0 => Nat.le_refl _
  | n + 1 => by rw [cnt]; have := cnt_le f n; cases f n <;> simp <;> omega
def ones (b : BitVec 64) : Nat := cnt b.getLsbD 64
theorem bit_split (v r j : Nat) (hv : v < 256) : (v + 256 * r).testBit j = if j < 8 then v.testBit j else r.testBit (j - 8) := by
  have := Nat.testBit_two_pow_mul_add r (i := 8) (b := v) (by simpa using hv) j
  rw [Nat.add_comm]; exact this
theorem and_split (v r m s : Nat) (hv : v < 256) (hm : m < 256) : (v + 256 * r) &&& (m + 256 * s) = (v &&& m) + 256 * (r &&& s) := by
  apply Nat.eq_of_testBit_eq
  intro j
  rw [Nat.testBit_and, bit_split v r j hv, bit_split m s j hm, bit_split _ _ j (Nat.lt_of_le_of_lt Nat.and_le_left hv)]
  split <;> rw [Nat.testBit_and]
theorem bit_high (m n j : Nat) (hm : m < 2 ^ n) (hj : n ≤ j) : m.testBit j = false := Nat.testBit_lt_two_pow (Nat.lt_of_lt_of_le hm (Nat.pow_le_pow_right (by decide) hj))
theorem shr_split (k v r m s : Nat) (hk : k < 8) (hv : v < 256) (hm : m < 2 ^ (8 - k)) : ((v + 256 * r) >>> k) &&& (m + 256 * s) = ((v >>> k) &&& m) + 256 * ((r >>> k) &&& s) := by
  have hm' : m < 256 := Nat.lt_of_lt_of_le hm (by have := Nat.pow_le_pow_right (n := 2) (by decide) (show 8 - k ≤ 8 by omega); simpa using this)
  apply Nat.eq_of_testBit_eq
  intro j
  rw [Nat.testBit_and, Nat.testBit_shiftRight, bit_split v r _ hv, bit_split m s j hm', bit_split _ _ j (Nat.lt_of_le_of_lt Nat.and_le_right hm')]
  by_cases h8 : j < 8
  · rw [if_pos h8, if_pos h8, Nat.testBit_and, Nat.testBit_shiftRight]
    by_cases hkj : k + j < 8
    · rw [if_pos hkj]
    · rw [bit_high m (8 - k) j hm (by omega)]; simp
  · rw [if_neg h8, if_neg h8, if_neg (by omega), Nat.testBit_and, Nat.testBit_shiftRight]
    rw [show k + j - 8 = k + (j - 8) by omega]
def s1 (v : Nat) : Nat := ((v >>> 1) &&& 0x55) + (v &&& 0x55)
def s2 (v : Nat) : Nat := ((v >>> 2) &&& 0x33) + (v &&& 0x33)
def s3 (v : Nat) : Nat := v / 16 + v % 16
def byteOk (v : Nat) : Bool := Nat.ble (s1 v) 170 && Nat.ble (s2 (s1 v) % 16) 4 && Nat.ble (s2 (s1 v) / 16) 4 && Nat.beq (s3 (s2 (s1 v))) (cnt v.testBit 8)
theorem byteOk_all : ((List.range 256).all byteOk) = true := by decide +kernel
theorem byteOk_at (v : Nat) (hv : v < 256) : s1 v < 256 ∧ s2 (s1 v) % 16 ≤ 4 ∧ s2 (s1 v) / 16 ≤ 4 ∧ s3 (s2 (s1 v)) = cnt v.testBit 8 := by
  have h := List.all_eq_true.1 byteOk_all v (List.mem_range.2 hv)
  simp only [byteOk, Bool.and_eq_true, Nat.ble_eq] at h
  exact ⟨by omega, h.1.1.2, h.1.2, Nat.eq_of_beq_eq_true h.2⟩
/-- Eight bytes. -/
def n8 (a b c d e f g i : Nat) : Nat := a + 256 * (b + 256 * (c + 256 * (d + 256 * (e + 256 * (f + 256 * (g + 256 * i))))))
theorem n8_of (n : Nat) (h : n < 2 ^ 64) : ∃ a b c d e f g i, a < 256 ∧ b < 256 ∧ c < 256 ∧ d < 256 ∧ e < 256 ∧ f < 256 ∧ g < 256 ∧ i < 256 ∧ n = n8 a b c d e f g i :=
  ⟨n % 256, n / 256 % 256, n / 256 / 256 % 256, n / 256 / 256 / 256 % 256, n / 256 / 256 / 256 / 256 % 256, n / 256 / 256 / 256 / 256 / 256 % 256, n / 256 / 256 / 256 / 256 / 256 / 256 % 256, n / 256 / 256 / 256 / 256 / 256 / 256 / 256 % 256,
    by omega, by omega, by omega, by omega, by omega, by omega, by omega, by omega, by unfold n8; omega⟩
section
variable {a b c d e f g i : Nat} (ha : a < 256) (hb : b < 256) (hc : c < 256) (hd : d < 256) (he : e < 256) (hf : f < 256) (hg : g < 256) (hi : i < 256)
include ha hb hc hd he hf hg hi
theorem n8_and (m : Nat) (hm : m < 256) : n8 a b c d e f g i &&& n8 m m m m m m m m = n8 (a &&& m) (b &&& m) (c &&& m) (d &&& m) (e &&& m) (f &&& m) (g &&& m) (i &&& m) := by
  unfold n8
  rw [and_split _ _ _ _ ha hm, and_split _ _ _ _ hb hm, and_split _ _ _ _ hc hm, and_split _ _ _ _ hd hm, and_split _ _ _ _ he hm, and_split _ _ _ _ hf hm, and_split _ _ _ _ hg hm]
theorem n8_shr (k m : Nat) (hk : k < 8) (hm : m < 2 ^ (8 - k)) : (n8 a b c d e f g i >>> k) &&& n8 m m m m m m m m = n8 ((a >>> k) &&& m) ((b >>> k) &&& m) ((c >>> k) &&& m) ((d >>> k) &&& m) ((e >>> k) &&& m) ((f >>> k) &&& m) ((g >>> k) &&& m) ((i >>> k) &&& m) := by
  unfold n8
  rw [shr_split _ _ _ _ _ hk ha hm, shr_split _ _ _ _ _ hk hb hm, shr_split _ _ _ _ _ hk hc hm, shr_split _ _ _ _ _ hk hd hm, shr_split _ _ _ _ _ hk he hm, shr_split _ _ _ _ _ hk hf hm, shr_split _ _ _ _ _ hk hg hm]
theorem n8_cnt : cnt (n8 a b c d e f g i).testBit 64 = cnt a.testBit 8 + cnt b.testBit 8 + cnt c.testBit 8 + cnt d.testBit 8 + cnt e.testBit 8 + cnt f.testBit 8 + cnt g.testBit 8 + cnt i.testBit 8 := by
  have step : ∀ v r n, v < 256 → cnt (v + 256 * r).testBit (8 + n) = cnt v.testBit 8 + cnt r.testBit n := by
    intro v r n hv
    rw [cnt_add]
    congr 1
    · exact cnt_congr fun j hj => by rw [bit_split v r j hv, if_pos hj]
    · exact cnt_congr fun j hj => by rw [bit_split v r _ hv, if_neg (by omega), show 8 + j - 8 = j by omega]
  unfold n8
  rw [show 64 = 8 + (8 + (8 + (8 + (8 + (8 + (8 + 8)))))) from rfl, step _ _ _ ha, step _ _ _ hb, step _ _ _ hc, step _ _ _ hd, step _ _ _ he, step _ _ _ hf, step _ _ _ hg]
  omega
end
theorem n8_add (a b c d e f g i a' b' c' d' e' f' g' i' : Nat) : n8 a b c d e f g i + n8 a' b' c' d' e' f' g' i' = n8 (a + a') (b + b') (c + c') (d + d') (e + e') (f + f') (g + g') (i + i') := by
  unfold n8; omega
theorem s3_le {A : Nat} (h1 : A % 16 ≤ 4) (h2 : A / 16 ≤ 4) : s3 A ≤ 8 := by unfold s3; omega
theorem lo_and (x y : Nat) (hx : x ≤ 8) (hy : y ≤ 8) : (x + 16 * y) &&& 15 = x := by
  have := Nat.and_two_pow_sub_one_eq_mod (x + 16 * y) 4
  rw [show (15 : Nat) = 2 ^ 4 - 1 from rfl, this]; omega
theorem mid {A B : Nat} (a2 : A % 16 ≤ 4) (a3 : A / 16 ≤ 4) (b2 : B % 16 ≤ 4) : s3 A + 16 * (A / 16 + B % 16) < 256 ∧ (s3 A + 16 * (A / 16 + B % 16)) &&& 15 = s3 A :=
  have h := s3_le a2 a3
  ⟨by omega, lo_and _ _ h (by omega)⟩
theorem mid' {A : Nat} (a2 : A % 16 ≤ 4) (a3 : A / 16 ≤ 4) : s3 A + 16 * (A / 16) < 256 ∧ (s3 A + 16 * (A / 16)) &&& 15 = s3 A :=
  have h := s3_le a2 a3
  ⟨by omega, lo_and _ _ h (by omega)⟩
theorem step3 {A B C D E F G I : Nat} (a2 : A % 16 ≤ 4) (a3 : A / 16 ≤ 4) (b2 : B % 16 ≤ 4) (b3 : B / 16 ≤ 4) (c2 : C % 16 ≤ 4) (c3 : C / 16 ≤ 4) (d2 : D % 16 ≤ 4) (d3 : D / 16 ≤ 4)
    (e2 : E % 16 ≤ 4) (e3 : E / 16 ≤ 4) (f2 : F % 16 ≤ 4) (f3 : F / 16 ≤ 4) (g2 : G % 16 ≤ 4) (g3 : G / 16 ≤ 4) (i2 : I % 16 ≤ 4) (i3 : I / 16 ≤ 4) :
    ((n8 A B C D E F G I >>> 4) + n8 A B C D E F G I) &&& 1085102592571150095 = n8 (s3 A) (s3 B) (s3 C) (s3 D) (s3 E) (s3 F) (s3 G) (s3 I) := by
  have e0 : (n8 A B C D E F G I >>> 4) + n8 A B C D E F G I = n8 (s3 A + 16 * (A / 16 + B % 16)) (s3 B + 16 * (B / 16 + C % 16)) (s3 C + 16 * (C / 16 + D % 16)) (s3 D + 16 * (D / 16 + E % 16)) (s3 E + 16 * (E / 16 + F % 16)) (s3 F + 16 * (F / 16 + G % 16)) (s3 G + 16 * (G / 16 + I % 16)) (s3 I + 16 * (I / 16)) := by
    rw [Nat.shiftRight_eq_div_pow]; unfold n8 s3; omega
  have m3 : 1085102592571150095 = n8 15 15 15 15 15 15 15 15 := rfl
  have hA := mid a2 a3 b2
  have hB := mid b2 b3 c2
  have hC := mid c2 c3 d2
  have hD := mid d2 d3 e2
  have hE := mid e2 e3 f2
  have hF := mid f2 f3 g2
  have hG := mid g2 g3 i2
  have hI := mid' i2 i3
  rw [e0, m3, n8_and hA.1 hB.1 hC.1 hD.1 hE.1 hF.1 hG.1 hI.1 15 (by decide), hA.2, hB.2, hC.2, hD.2, hE.2, hF.2, hG.2, hI.2]
theorem step4 {A B C D E F G I : Nat} (hA : A ≤ 8) (hB : B ≤ 8) (hC : C ≤ 8) (hD : D ≤ 8) (hE : E ≤ 8) (hF : F ≤ 8) (hG : G ≤ 8) (hI : I ≤ 8) :
    n8 A B C D E F G I < 2 ^ 60 ∧ (n8 A B C D E F G I + n8 A B C D E F G I >>> 8 + (n8 A B C D E F G I + n8 A B C D E F G I >>> 8) >>> 16 + (n8 A B C D E F G I + n8 A B C D E F G I >>> 8 + (n8 A B C D E F G I + n8 A B C D E F G I >>> 8) >>> 16) >>> 32) % 128
      = A + B + C + D + E + F + G + I := by
  have y0 : n8 A B C D E F G I >>> 8 = n8 B C D E F G I 0 := by rw [Nat.shiftRight_eq_div_pow]; unfold n8; omega
  have z0 : n8 (A + B) (B + C) (C + D) (D + E) (E + F) (F + G) (G + I) (I + 0) >>> 16 = n8 (C + D) (D + E) (E + F) (F + G) (G + I) (I + 0) 0 0 := by rw [Nat.shiftRight_eq_div_pow]; unfold n8; omega
  refine ⟨by unfold n8; omega, ?_⟩
  rw [y0, n8_add, z0, n8_add]
  have t0 : ∀ a b c d e f g i : Nat, a < 256 → b < 256 → c < 256 → d < 256 → n8 a b c d e f g i >>> 32 = n8 e f g i 0 0 0 0 := by
    intro a b c d e f g i ha hb hc hd; rw [Nat.shiftRight_eq_div_pow]; unfold n8; omega
  rw [t0 _ _ _ _ _ _ _ _ (by omega) (by omega) (by omega) (by omega), n8_add]
  clear y0 z0 t0
  unfold n8
  omega
/-- The sums, side by side. -/
theorem swar (n : Nat) (h : n < 2 ^ 64) : ∃ x1 x2 x3 : Nat, ((n >>> 1) &&& 6148914691236517205) + (n &&& 6148914691236517205) = x1 ∧ x1 < 2 ^ 64 ∧
    ((x1 >>> 2) &&& 3689348814741910323) + (x1 &&& 3689348814741910323) = x2 ∧ x2 < 2 ^ 63 ∧
    ((x2 >>> 4) + x2) &&& 1085102592571150095 = x3 ∧ x3 < 2 ^ 60 ∧ (x3 + x3 >>> 8 + (x3 + x3 >>> 8) >>> 16 + (x3 + x3 >>> 8 + (x3 + x3 >>> 8) >>> 16) >>> 32) % 128 = cnt n.testBit 64 := by
  obtain ⟨a, b, c, d, e, f, g, i, ha, hb, hc, hd, he, hf, hg, hi, rfl⟩ := n8_of n h
  obtain ⟨a1, a2, a3, a4⟩ := byteOk_at a ha
  obtain ⟨b1, b2, b3, b4⟩ := byteOk_at b hb
  obtain ⟨c1, c2, c3, c4⟩ := byteOk_at c hc
  obtain ⟨d1, d2, d3, d4⟩ := byteOk_at d hd
  obtain ⟨e1, e2, e3, e4⟩ := byteOk_at e he
  obtain ⟨f1, f2, f3, f4⟩ := byteOk_at f hf
  obtain ⟨g1, g2, g3, g4⟩ := byteOk_at g hg
  obtain ⟨i1, i2, i3, i4⟩ := byteOk_at i hi
  have m1 : 6148914691236517205 = n8 0x55 0x55 0x55 0x55 0x55 0x55 0x55 0x55 := rfl
  have m2 : 3689348814741910323 = n8 0x33 0x33 0x33 0x33 0x33 0x33 0x33 0x33 := rfl
  have x1 : ((n8 a b c d e f g i >>> 1) &&& 6148914691236517205) + (n8 a b c d e f g i &&& 6148914691236517205) = n8 (s1 a) (s1 b) (s1 c) (s1 d) (s1 e) (s1 f) (s1 g) (s1 i) := by
    rw [m1, n8_shr ha hb hc hd he hf hg hi 1 0x55 (by decide) (by decide), n8_and ha hb hc hd he hf hg hi 0x55 (by decide)]
    rw [n8_add]; rfl
  have x2 : ((n8 (s1 a) (s1 b) (s1 c) (s1 d) (s1 e) (s1 f) (s1 g) (s1 i) >>> 2) &&& 3689348814741910323) + (n8 (s1 a) (s1 b) (s1 c) (s1 d) (s1 e) (s1 f) (s1 g) (s1 i) &&& 3689348814741910323)
      = n8 (s2 (s1 a)) (s2 (s1 b)) (s2 (s1 c)) (s2 (s1 d)) (s2 (s1 e)) (s2 (s1 f)) (s2 (s1 g)) (s2 (s1 i)) := by
    rw [m2, n8_shr a1 b1 c1 d1 e1 f1 g1 i1 2 0x33 (by decide) (by decide), n8_and a1 b1 c1 d1 e1 f1 g1 i1 0x33 (by decide)]
    rw [n8_add]; rfl
  have x3 := step3 a2 a3 b2 b3 c2 c3 d2 d3 e2 e3 f2 f3 g2 g3 i2 i3
  have x4 := step4 (s3_le a2 a3) (s3_le b2 b3) (s3_le c2 c3) (s3_le d2 d3) (s3_le e2 e3) (s3_le f2 f3) (s3_le g2 g3) (s3_le i2 i3)
  refine ⟨_, _, _, x1, ?_, x2, ?_, x3, x4.1, ?_⟩
  · clear x1 x2 x3 x4; unfold n8; omega
  · clear x1 x2 x3 x4
    generalize s2 (s1 a) = A, s2 (s1 b) = B, s2 (s1 c) = C, s2 (s1 d) = D, s2 (s1 e) = E, s2 (s1 f) = F, s2 (s1 g) = G, s2 (s1 i) = I at *
    clear a4 b4 c4 d4 e4 f4 g4 i4 a1 b1 c1 d1 e1 f1 g1 i1 ha hb hc hd he hf hg hi h
    unfold n8; omega
  · rw [x4.2, n8_cnt ha hb hc hd he hf hg hi, a4, b4, c4, d4, e4, f4, g4, i4]
end Go.Ab.F
