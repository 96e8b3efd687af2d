import Derived.Test.YtfenhliknhmihaaDoorA12
namespace Go.Ab.F
open Go Go.Ab
set_option linter.all false
attribute [local congr] c_bind c_cl c_mk c_lp c_clC c_gQ c_gV c_condE c_thenK

/-- The places of a span, one after the other. -/
def plc (W : Int) (m : Nat) : List Int := (List.range m).map fun (i : Nat) => 64 + (i : Int) * W
theorem plc_len (W : Int) (m : Nat) : (plc W m).length = m := by simp [plc]
theorem plc_succ (W : Int) (m : Nat) : plc W (m + 1) = plc W m ++ [64 + (m : Int) * W] := by simp [plc, List.range_succ]
theorem plc_at (W : Int) {m i : Nat} (hi : i < m) : (plc W m)[i]? = some (64 + (i : Int) * W) := by simp [plc, hi]
structure Sw (a : PAr) (c v : Int) (m : Nat) (M : Nat → Bool) : Prop where
  len : a.sp.length = 8
  wl : a.ws.length = 512
  cls : (a.at 1).cls = c
  tk : ∀ j, (a.at 1).tk.getLsbD j = decide (j < m)
  md : ∀ j, (a.at 1).md.getLsbD j = M j
  wd : ∀ i : Nat, i < m → a.ws[(64 + (i : Int) * wordsOf c).toNat]? = some (xr v i)
theorem Sw.has {a : PAr} {c v : Int} {m : Nat} {M : Nat → Bool} (H : Sw a c v m M) : a.has 1 := ⟨by omega, by rw [H.len]; decide⟩
theorem clr_get {l : List Int} {o n i : Nat} (hl : o + n ≤ l.length) (hi : i < o ∨ o + n ≤ i) : (clr l o n)[i]? = l[i]? := by
  unfold clr
  rcases hi with hi | hi
  · rw [List.getElem?_append_left (by simp; omega), List.getElem?_append_left (by simp; omega), List.getElem?_take]; simp [hi]
  · rw [List.getElem?_append_right (by simp; omega), List.getElem?_drop]
    congr 1
    simp only [List.length_append, List.length_take, List.length_replicate]
    omega
theorem Sw.take {a : PAr} {c v : Int} {m : Nat} (H : Sw a c v m fun _ => false) (hm : (m : Int) < placesOf c) :
    (a.take 1).1 = 64 + m * wordsOf c ∧ (a.take 1).2.1 = 0 ∧ ((a.take 1).2.2.write (64 + m * wordsOf c) 0 (xr v m)).1 = 0 ∧ Sw ((a.take 1).2.2.write (64 + m * wordsOf c) 0 (xr v m)).2 c v (m + 1) fun _ => false := by
  obtain ⟨c0, c1, w2, w3, w4, w5⟩ := wp_cases c m (by omega) hm
  have hf := first0_low (b := (a.at 1).tk) (m := m) (by omega) H.tk
  have hc : a.cls 1 ≠ -1 := by rw [cls_at H.has, H.cls]; omega
  have hmw : (0 : Int) ≤ m * wordsOf c := Int.mul_nonneg (by omega) (by omega)
  have e : a.take 1 = (64 + m * wordsOf c, 0, ⟨clr a.ws (64 + m * wordsOf c).toNat (wordsOf c).toNat, (a.setS 1 ⟨c, (a.at 1).tk ||| bitOf m, (a.at 1).md &&& ~~~ bitOf m⟩).sp⟩) := by
    unfold PAr.take
    rw [if_neg hc, hf, H.cls, if_neg (by omega)]; rfl
  rw [e]
  simp only [true_and]
  have hwl := H.wl
  have hl2 : (clr a.ws (64 + m * wordsOf c).toNat (wordsOf c).toNat).length = 512 := by rw [clr_length (by omega)]; exact H.wl
  generalize hb : (⟨clr a.ws (64 + m * wordsOf c).toNat (wordsOf c).toNat, (a.setS 1 ⟨c, (a.at 1).tk ||| bitOf m, (a.at 1).md &&& ~~~ bitOf m⟩).sp⟩ : PAr) = b
  have bl : b.sp.length = 8 := by rw [← hb]; exact (a.setS_len 1 _).trans H.len
  have ba : b.at 1 = ⟨c, (a.at 1).tk ||| bitOf m, (a.at 1).md &&& ~~~ bitOf m⟩ := by rw [← hb]; exact PAr.setS_at _ H.has
  have bh : b.has 1 := ⟨by omega, by rw [bl]; decide⟩
  have bw : b.ws = clr a.ws (64 + m * wordsOf c).toNat (wordsOf c).toNat := by rw [← hb]
  have btk : ∀ j, (b.at 1).tk.getLsbD j = decide (j < m + 1) := by
    intro j
    rw [ba]
    simp only [BitVec.getLsbD_or, H.tk]
    rw [bit_get m j (by omega)]
    by_cases h1 : j < m
    · simp [h1]; omega
    · by_cases h2 : j = m
      · simp [h2]
      · simp [h1, h2]; omega
  have hw := word_at (a := b) (by omega) bh (q := m) (by rw [ba]; exact hm) (by rw [btk]; simp) (k := 0) ⟨by omega, by rw [ba]; show 0 < wordsOf c; omega⟩
  rw [ba] at hw
  simp only [Int.one_mul, Int.add_zero] at hw
  rw [write_some hw]
  refine ⟨rfl, ⟨bl, by simp [bw, hl2], by show (b.at 1).cls = c; rw [ba], btk, fun j => ?_, fun i hi => ?_⟩⟩
  · show (b.at 1).md.getLsbD j = false
    rw [ba]; simp [H.md]
  · show (b.ws.set _ _)[_]? = _
    have hiw : (0 : Int) ≤ i * wordsOf c := Int.mul_nonneg (by omega) (by omega)
    by_cases h1 : i = m
    · subst h1
      rw [List.getElem?_set_self (by rw [bw, hl2]; omega)]
    · have : (i : Int) * wordsOf c + wordsOf c ≤ m * wordsOf c := by
        have := Int.mul_le_mul_of_nonneg_right (show (i : Int) + 1 ≤ m by omega) (show 0 ≤ wordsOf c by omega)
        rw [Int.add_mul] at this; omega
      rw [List.getElem?_set_ne (by omega), bw, clr_get (by omega) (by omega)]
      exact H.wd i (by omega)
theorem Sw.full {a : PAr} {c v : Int} {m : Nat} {M : Nat → Bool} (H : Sw a c v m M) (hc : 0 ≤ c ∧ c ≤ 5) (hm : placesOf c ≤ m) (hm' : m < 64) : a.take 1 = (0, 5, a) := by
  have hf := first0_low (b := (a.at 1).tk) (m := m) (by omega) H.tk
  unfold PAr.take
  rw [if_neg (by rw [cls_at H.has, H.cls]; omega), hf, H.cls, if_pos hm]
theorem Sw.mark {a : PAr} {c v : Int} {m k : Nat} {M : Nat → Bool} (H : Sw a c v m fun j => decide (j < k) && M j) (hm : m ≤ placesOf c) (hk : k < m) (hM : M k = true) :
    Sw (a.mark (64 + k * wordsOf c)).2 c v m fun j => decide (j < k + 1) && M j := by
  have hp := wp_cases c k (by omega) (by omega)
  have hf := find_at (a := a) (by rw [H.len]; decide) H.has (q := k) (by rw [H.cls]; omega)
  rw [H.cls, H.tk] at hf
  simp only [hk, decide_true, if_true, Int.one_mul] at hf
  have hmd : (a.at 1).md.getLsbD k = false := by rw [H.md]; simp
  have e : a.mark (64 + k * wordsOf c) = (true, a.setS 1 ⟨(a.at 1).cls, (a.at 1).tk, (a.at 1).md ||| bitOf k⟩) := by
    unfold PAr.mark; rw [hf]; simp only [hmd, Bool.false_eq_true, if_false]
  rw [e]
  have ba := PAr.setS_at ⟨(a.at 1).cls, (a.at 1).tk, (a.at 1).md ||| bitOf k⟩ H.has
  refine ⟨(a.setS_len 1 _).trans H.len, H.wl, by rw [ba]; exact H.cls, fun j => by rw [ba]; exact H.tk j, fun j => ?_, H.wd⟩
  rw [ba]
  simp only [BitVec.getLsbD_or, H.md]
  rw [bit_get k j (by omega)]
  by_cases h1 : j = k
  · subst h1; simp [hM]
  · by_cases h2 : j < k
    · have : j < k + 1 := by omega
      simp [h1, h2, this]
    · have : ¬ j < k + 1 := by omega
      simp [h1, h2, this]
theorem Sw.skip {a : PAr} {c v : Int} {m k : Nat} {M : Nat → Bool} (H : Sw a c v m fun j => decide (j < k) && M j) (hM : M k = false) : Sw a c v m fun j => decide (j < k + 1) && M j :=
  ⟨H.len, H.wl, H.cls, H.tk, fun j => by
    rw [H.md]
    by_cases h1 : j = k
    · subst h1; simp [hM]
    · by_cases h2 : j < k
      · have : j < k + 1 := by omega
        simp [h2, this]
      · have : ¬ j < k + 1 := by omega
        simp [h2, this], H.wd⟩
end Go.Ab.F
