import Derived.Test.YtfenhliknhmihaaDoorA6
namespace Go.Ab.F
open Go Go.Ab
set_option linter.all false
attribute [local congr] c_bind c_cl c_mk c_lp c_clC c_gQ c_gV c_condE c_thenK

/-! ### A place by its address -/
def placeOf (ad c : Int) : Int := if wordsOf c = 0 ∨ spanOf ad = -1 then -1 else if ad % 64 % wordsOf c ≠ 0 then -1 else ad % 64 / wordsOf c
theorem spanOf_pos {ad : Int} (h : spanOf ad ≠ -1) : 0 ≤ ad ∧ ad < 32768 ∧ spanOf ad = ad / 64 := by
  unfold spanOf at h ⊢
  split at h
  · rename_i h'; rw [if_pos h']; exact ⟨h'.1, h'.2, rfl⟩
  · exact absurd rfl h
theorem words_pos {c : Int} (h : wordsOf c ≠ 0) : 0 ≤ c ∧ c ≤ 5 ∧ 2 ≤ wordsOf c ∧ wordsOf c ≤ 64 := by
  rcases cls_cases c with (rfl | rfl | rfl | rfl | rfl | rfl) | ⟨h1, _, _⟩
  all_goals first
    | exact absurd h1 h
    | (refine ⟨by omega, by omega, ?_, ?_⟩ <;> decide)
theorem rem_nonneg {a b : Int} (ha : 0 ≤ a) : a.tmod b = a % b := Int.tmod_eq_emod_of_nonneg ha
theorem div_nonneg' {a b : Int} (ha : 0 ≤ a) : a.tdiv b = a / b := Int.tdiv_eq_ediv_of_nonneg ha
theorem place_eq (ad c : Int) (h : Heap) : k_geom_Place (.int .i64 ad) (.int .i64 c) h = some (.int .i64 (placeOf ad c), h) := by
  by_cases h1 : wordsOf c = 0
  · simp -implicitDefEqProofs [k_geom_Place, words_eq, h1, placeOf]
  · by_cases h2 : spanOf ad = -1
    · simp -implicitDefEqProofs [k_geom_Place, words_eq, h1, span_eq, h2, placeOf]
    · obtain ⟨p1, p2, _⟩ := spanOf_pos h2
      obtain ⟨w1, w2, w3, w4⟩ := words_pos h1
      have e1 : ad.tmod 64 = ad % 64 := rem_nonneg p1
      have e2 : (ad % 64).tmod (wordsOf c) = ad % 64 % wordsOf c := rem_nonneg (by omega)
      have e3 : (ad % 64).tdiv (wordsOf c) = ad % 64 / wordsOf c := div_nonneg' (by omega)
      have b1 : ad % 64 / wordsOf c ≤ ad % 64 := Int.ediv_le_self _ (by omega)
      have b2 : 0 ≤ ad % 64 / wordsOf c := Int.ediv_nonneg (by omega) (by omega)
      by_cases h3 : ad % 64 % wordsOf c = 0
      · simp -implicitDefEqProofs [k_geom_Place, words_eq, h1, span_eq, h2, placeOf, e1, e2, e3, h3]
        exact wrap_i64 (by omega) (by omega)
      · simp -implicitDefEqProofs [k_geom_Place, words_eq, h1, span_eq, h2, placeOf, e1, e2, h3]
theorem bit_is (b : BitVec 64) (q : Nat) : decide ((((b >>> q) &&& BitVec.ofInt 64 1).toNat : Int) = 0) = !b.getLsbD q := by
  have e : (b >>> q) &&& BitVec.ofInt 64 1 = if b.getLsbD q then 1#64 else 0#64 := by
    apply BitVec.eq_of_getLsbD_eq
    intro i hi
    have e1 : BitVec.ofInt 64 1 = 1#64 := rfl
    rw [BitVec.getLsbD_and, BitVec.getLsbD_ushiftRight, e1, BitVec.getLsbD_one]
    by_cases h : i = 0
    · subst h
      cases hb : b.getLsbD q <;> simp [hb]
    · cases hb : b.getLsbD q <;> simp [h]
  rw [e]
  cases b.getLsbD q <;> simp

/-- A place that is taken: its span, its number. -/
def PAr.find (a : PAr) (ad : Int) : Option (Int × Nat) :=
  if placeOf ad (a.cls (spanOf ad)) < 0 ∨ (a.at (spanOf ad)).tk.getLsbD (placeOf ad (a.cls (spanOf ad))).toNat = false then none
  else some (spanOf ad, (placeOf ad (a.cls (spanOf ad))).toNat)
theorem placeOf_bound {ad c : Int} (h : 0 ≤ placeOf ad c) : 0 ≤ c ∧ c ≤ 5 ∧ wordsOf c ≠ 0 ∧ spanOf ad ≠ -1 ∧ placeOf ad c < placesOf c ∧ ad = spanOf ad * 64 + placeOf ad c * wordsOf c := by
  unfold placeOf at h ⊢
  by_cases h1 : wordsOf c = 0 ∨ spanOf ad = -1
  · rw [if_pos h1] at h; omega
  · rw [if_neg h1] at h ⊢
    by_cases h2 : ad % 64 % wordsOf c ≠ 0
    · rw [if_pos h2] at h; omega
    · rw [if_neg h2] at h ⊢
      have h1a : wordsOf c ≠ 0 := fun e => h1 (.inl e)
      have h1b : spanOf ad ≠ -1 := fun e => h1 (.inr e)
      obtain ⟨p1, p2, p3⟩ := spanOf_pos h1b
      obtain ⟨w1, w2, _, _⟩ := words_pos h1a
      refine ⟨w1, w2, h1a, h1b, ?_, ?_⟩
      · have hm : ad % 64 < 64 := Int.emod_lt_of_pos _ (by omega)
        rcases (by omega : c = 0 ∨ c = 1 ∨ c = 2 ∨ c = 3 ∨ c = 4 ∨ c = 5) with rfl | rfl | rfl | rfl | rfl | rfl <;> simp only [wordsOf, placesOf] <;> simp <;> omega
      · rw [p3]
        have h2' : ad % 64 % wordsOf c = 0 := by omega
        have := Int.mul_ediv_add_emod (ad % 64) (wordsOf c)
        rw [h2', Int.mul_comm] at this
        omega
theorem cls_has {a : PAr} {n : Int} (h : a.cls n ≠ -1) : a.has n ∧ a.cls n = (a.at n).cls := by
  unfold PAr.cls at h ⊢
  by_cases hn : a.has n
  · rw [if_pos hn]; exact ⟨hn, rfl⟩
  · rw [if_neg hn] at h; exact absurd rfl h
theorem find_some {a : PAr} {ad n : Int} {q : Nat} (h : a.find ad = some (n, q)) :
    a.has n ∧ n = spanOf ad ∧ (q : Int) < placesOf (a.at n).cls ∧ (a.at n).tk.getLsbD q = true ∧ ad = n * 64 + q * wordsOf (a.at n).cls ∧ 0 ≤ (a.at n).cls ∧ (a.at n).cls ≤ 5 := by
  unfold PAr.find at h
  split at h
  · cases h
  · rename_i hne
    injection h with h; injection h with h1 h2
    obtain ⟨b1, b2, b3, b4, b5, b6⟩ := placeOf_bound (ad := ad) (c := a.cls (spanOf ad)) (by omega)
    obtain ⟨c1, c2⟩ := cls_has (a := a) (n := spanOf ad) (by omega)
    rw [c2] at b1 b2 b5 b6 h2
    rw [c2] at hne
    have ht : (a.at (spanOf ad)).tk.getLsbD q = true := by rw [← h2]; simpa using fun e => hne (.inr e)
    have hq : (q : Int) = placeOf ad (a.at (spanOf ad)).cls := by omega
    rw [← hq] at b5 b6
    rw [← h1]
    exact ⟨c1, rfl, b5, ht, b6, b1, b2⟩
theorem shr_is (b : BitVec 64) (q : Nat) : binP .shr (.int .u64 b.toNat) (.int .u64 (q : Int)) = some (.int .u64 (b >>> q).toNat) := by
  have := shr_u64 b .u64 q (by omega)
  rw [Int.toNat_natCast] at this; exact this
section
variable {h : Heap} {p w s : Nat} {a : PAr} (H : ArAt h p w s a)
include H
theorem find_eq (ad : Int) : k_arena_Arena_find (.ptr (some (p, 0))) (.int .i64 ad) h =
    some (match a.find ad with | none => .tup [.ptr none, .int .u64 0] | some (n, q) => .tup [.ptr (some (s, n.toNat * 3)), .int .u64 (bitOf q).toNat], h) := by
  by_cases h1 : placeOf ad (a.cls (spanOf ad)) < 0
  · have e : a.find ad = none := by simp only [PAr.find, h1, true_or, if_true]
    simp -implicitDefEqProofs [k_arena_Arena_find, span_eq, class_eq H, place_eq, h1, e]
  · obtain ⟨b1, b2, b3, b4, b5, b6⟩ := placeOf_bound (ad := ad) (c := a.cls (spanOf ad)) (by omega)
    obtain ⟨c1, c2⟩ := cls_has (a := a) (n := spanOf ad) (by omega)
    obtain ⟨d, hd⟩ := H.ld1
    obtain ⟨q, hq⟩ : ∃ q : Nat, placeOf ad (a.cls (spanOf ad)) = q := ⟨(placeOf ad (a.cls (spanOf ad))).toNat, by omega⟩
    have hb := wp_cases _ _ (by omega) b5
    have hq64 : q < 64 := by omega
    have hw64 : IntKind.u64.wrap (q : Int) = q := wrap_u64 (by omega) (by omega)
    have hf : a.find ad = if (a.at (spanOf ad)).tk.getLsbD q = false then none else some (spanOf ad, q) := by
      unfold PAr.find; rw [hq, Int.toNat_natCast]
      have : ¬ (q : Int) < 0 := by omega
      simp only [this, false_or]
    have hn0 : ¬ (q : Int) < 0 := by omega
    cases hb : (a.at (spanOf ad)).tk.getLsbD q with
    | false =>
      have e : a.find ad = none := by rw [hf, hb]; rfl
      simp -implicitDefEqProofs only [k_arena_Arena_find, span_eq, class_eq H, place_eq, hq, hn0, decide_false, cl_some, Option.bind_some, bin_lss, gdW_bool, beq_self_eq_true, gQ_true, nilV_ptr, faP_ptr, hd, H.ix c1, H.ldt c1, cvI_int, hw64, shr_is, and_u64, ofInt_toNat, eql_int, bit_is, hb, Bool.not_false, pickP_bool, if_false, condE_true, e, Nat.add_zero, Nat.zero_add, Bool.false_eq_true]
    | true =>
      have e : a.find ad = some (spanOf ad, q) := by rw [hf, hb]; rfl
      simp -implicitDefEqProofs only [k_arena_Arena_find, span_eq, class_eq H, place_eq, hq, hn0, decide_false, cl_some, Option.bind_some, bin_lss, gdW_bool, beq_self_eq_true, gQ_true, nilV_ptr, faP_ptr, hd, H.ix c1, H.ldt c1, cvI_int, hw64, shr_is, and_u64, ofInt_toNat, eql_int, bit_is, hb, Bool.not_true, pickP_bool, if_false, condE_false, e, Nat.add_zero, Nat.zero_add, Bool.false_eq_true, shl_one q hq64]
def PAr.is (a : PAr) (ad : Int) : Bool := (a.find ad).isSome
theorem is_eq (ad : Int) : k_arena_Arena_Is (.ptr (some (p, 0))) (.int .i64 ad) h = some (.bool (a.is ad), h) := by
  cases e : a.find ad with
  | none => simp -implicitDefEqProofs [k_arena_Arena_Is, find_eq H, e, PAr.is]
  | some x => simp -implicitDefEqProofs [k_arena_Arena_Is, find_eq H, e, PAr.is]
def PAr.taken (a : PAr) (n : Int) : BitVec 64 := if a.cls n = -1 then 0 else (a.at n).tk
def PAr.marked (a : PAr) (n : Int) : BitVec 64 := if a.cls n = -1 then 0 else (a.at n).md
theorem taken_eq (n : Int) : k_arena_Arena_Taken (.ptr (some (p, 0))) (.int .i64 n) h = some (.int .u64 (a.taken n).toNat, h) := by
  by_cases h1 : a.cls n = -1
  · simp -implicitDefEqProofs [k_arena_Arena_Taken, class_eq H, h1, PAr.taken]
  · obtain ⟨c1, c2⟩ := cls_has h1
    obtain ⟨d, hd⟩ := H.ld1
    simp -implicitDefEqProofs [k_arena_Arena_Taken, class_eq H, h1, PAr.taken, hd, H.ix c1, H.ldt c1]
theorem marked_eq (n : Int) : k_arena_Arena_Marked (.ptr (some (p, 0))) (.int .i64 n) h = some (.int .u64 (a.marked n).toNat, h) := by
  by_cases h1 : a.cls n = -1
  · simp -implicitDefEqProofs [k_arena_Arena_Marked, class_eq H, h1, PAr.marked]
  · obtain ⟨c1, c2⟩ := cls_has h1
    obtain ⟨d, hd⟩ := H.ld1
    simp -implicitDefEqProofs [k_arena_Arena_Marked, class_eq H, h1, PAr.marked, hd, H.ix c1, H.ldm c1]
end
end Go.Ab.F
