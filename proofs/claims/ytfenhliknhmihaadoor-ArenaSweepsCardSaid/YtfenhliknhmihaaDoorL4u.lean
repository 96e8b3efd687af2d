import Derived.Test.YtfenhliknhmihaaDoorL4t
namespace Go.Ab.F
open Go Go.Ab
set_option linter.all false
attribute [local congr] c_bind c_cl c_mk c_lp c_clC c_gQ c_gV c_condE c_thenK

section
variable {p w s : Nat} {c v : Int}
theorem sweeps_L2 {g : Heap} {a : PAr} {b : Option Nat} {q : AV} {m : Nat} (X : BitVec 64) (hm : m ≤ 64) (H : ArAt g p w s a)
    (hq : SlB g b 1 q (wsC (plc (wordsOf c) m)) m) (hr : ∀ i : Nat, i < m → a.read (64 + (i : Int) * wordsOf c) 0 = if X.getLsbD i then (xr v i, 0) else (0, 1)) (rest : List AV) :
    Ok (k_law4_ArenaSweeps_L2 (.int .u64 X.toNat) (.int .i64 v) (.ptr (some (p, 0))) (q :: rest) (.bool false) (.int .i64 0) g) fun r => r = (.exit 4, [.bool false, .int .i64 m], g) := by
  refine ok_loop (fun n vs h => ∃ (i : Nat), vs = [.bool false, .int .i64 i] ∧ n + i = m ∧ g = h) ?_ (n := m) (by omega) ⟨0, rfl, rfl, rfl⟩
  rintro n vs _ ⟨i, rfl, hn, rfl⟩
  simp only [getD0, getD1]
  by_cases hi : i < m
  · have hlt : (i : Int) < m := by omega
    have hw64 : IntKind.u64.wrap (i : Int) = i := wrap_u64 (by omega) (by omega)
    have hb1 := bit_is1 X i
    obtain ⟨jb, rfl, hix⟩ := hq.ix hi
    have hld := hq.ld (o := i) rfl
    have hat : (wsC (plc (wordsOf c) m))[i]? = some (.int .i64 (64 + i * wordsOf c)) := by simp [wsC, plc_at _ hi]
    rw [hat] at hld
    rw [Nat.mul_one] at hix
    have h1 := hr i hi
    have n1 : ¬ (1 : Int) = 0 := by decide
    refine (Ok.of (r := (.normal, [.bool false, .int .i64 ((i + 1 : Nat) : Int)], g)) ?_).eq ?_
    · exact .inl ⟨rfl, n - 1, by omega, i + 1, rfl, by omega, rfl⟩
    · rcases bool_cases (X.getLsbD i) with hx | hx
      · rw [hx] at hb1 h1
        simp -implicitDefEqProofs only [k_law4_ArenaSweeps_b2, getD0, hq.lnL, bin_lss, hlt, decide_true, Option.bind_some, condE_true, hix, hld, read_eq H, h1, if_true, cl_some, extractV_tup, List.getElem?_cons_zero, List.getElem?_cons_succ, eql_int, cvI_int, hw64, shr_is, and_u64, ofInt_toNat, hb1, neq_bool, beq_self_eq_true, Bool.not_true, gdW_bool, gQ_true, xor_i64, neq_int, pickP_bool, Bool.false_eq_true, if_false, condE_false, bin_add, succ_i64 i (by omega)]
      · rw [hx] at hb1 h1
        simp -implicitDefEqProofs only [k_law4_ArenaSweeps_b2, getD0, hq.lnL, bin_lss, hlt, decide_true, decide_false, n1, Option.bind_some, condE_true, hix, hld, read_eq H, h1, if_true, cl_some, extractV_tup, List.getElem?_cons_zero, List.getElem?_cons_succ, eql_int, cvI_int, hw64, shr_is, and_u64, ofInt_toNat, hb1, neq_bool, beq_self_eq_true, Bool.not_true, gdW_bool, gQ_true, gQ_false, Bool.false_beq, Bool.not_false, xor_i64, neq_int, pickP_bool, Bool.false_eq_true, if_false, condE_false, bin_add, succ_i64 i (by omega)]
  · have hlt : ¬ (i : Int) < m := by omega
    obtain rfl : i = m := by omega
    refine (Ok.of (r := (.exit 4, [.bool false, .int .i64 (i : Int)], g)) ?_).eq (by
      simp -implicitDefEqProofs only [k_law4_ArenaSweeps_b2, getD0, hq.lnL, bin_lss, hlt, decide_false, Option.bind_some, condE_false])
    exact .inr ⟨by simp, rfl⟩

theorem Sw.sweep {a : PAr} {m : Nat} {X : Nat → Bool} (hc : 0 ≤ c ∧ c ≤ 5) (H : Sw a c v m fun j => decide (j < m) && X j) (hm : m ≤ pls c) :
    (a.sweep 1).1 = m - cnt X m ∧ (a.sweep 1).2.sp.length = 8 ∧ ((a.sweep 1).2.cls 1 = -1 ↔ cnt X m = 0) ∧
    (∀ i : Nat, i < m → (a.sweep 1).2.read (64 + (i : Int) * wordsOf c) 0 = if X i then (xr v i, 0) else (0, 1)) ∧
    (cnt X m ≠ 0 → cnt X m ≠ m → ((a.sweep 1).2.take 1).2.1 = 0 ∧ 0 < ((a.sweep 1).2.take 1).1 ∧ ((a.sweep 1).2.take 1).2.2.is ((a.sweep 1).2.take 1).1 = true) := by
  obtain ⟨P0, P1, P2, W1, W2⟩ := pls_eq hc
  have hh := H.has
  have hcl : a.cls 1 = c := by rw [cls_at hh, H.cls]
  have hones : ones ((a.at 1).tk &&& ~~~ (a.at 1).md) = m - cnt X m := by
    unfold ones
    have e : ∀ j, j < 64 → ((a.at 1).tk &&& ~~~ (a.at 1).md).getLsbD j = (decide (j < m) && !X j) := by
      intro j hj
      rw [BitVec.getLsbD_and, BitVec.getLsbD_not, H.tk, H.md]
      by_cases h : j < m <;> simp [h, hj]
    rw [cnt_congr e, cnt_and m, Nat.min_eq_left (by omega)]
    have := cnt_not X m
    omega
  have hbits : ∀ j, ((a.at 1).tk &&& (a.at 1).md).getLsbD j = (decide (j < m) && X j) := by
    intro j
    rw [BitVec.getLsbD_and, H.tk, H.md]
    by_cases h : j < m <;> simp [h]
  have hz : (a.at 1).tk &&& (a.at 1).md = 0 ↔ cnt X m = 0 := by
    rw [cnt_zero]
    constructor
    · intro e j hj
      have := hbits j
      rw [e] at this
      simpa [hj] using this
    · intro e
      apply BitVec.eq_of_getLsbD_eq
      intro j hj
      rw [hbits]
      by_cases h : j < m
      · simp [e j h]
      · simp [h]
  generalize hA : (a.sweep 1) = r
  have e0 : a.sweep 1 = (ones ((a.at 1).tk &&& ~~~ (a.at 1).md), a.setS 1 (if (a.at 1).tk &&& (a.at 1).md = 0 then ⟨-1, 0, 0⟩ else ⟨(a.at 1).cls, (a.at 1).tk &&& (a.at 1).md, (a.at 1).md⟩)) := by
    unfold PAr.sweep; rw [if_neg (by rw [hcl]; omega)]
  rw [hA] at e0
  have r1 : r.1 = m - cnt X m := by rw [e0]; exact hones
  have r2 : r.2.sp.length = 8 := by rw [e0]; exact (a.setS_len 1 _).trans H.len
  have rw' : r.2.ws = a.ws := by rw [e0]; rfl
  have rh : r.2.has 1 := ⟨by omega, by rw [r2]; decide⟩
  by_cases hk : cnt X m = 0
  · have ra : r.2.at 1 = ⟨-1, 0, 0⟩ := by rw [e0, if_pos (hz.2 hk)]; exact PAr.setS_at _ hh
    have rc : r.2.cls 1 = -1 := by rw [cls_at rh, ra]
    refine ⟨r1, r2, ⟨fun _ => hk, fun _ => rc⟩, fun i hi => ?_, fun h => absurd hk h⟩
    have hi0 : (0 : Int) ≤ i * wordsOf c := Int.mul_nonneg (by omega) (by omega)
    have hw := wp_cases c i (by omega) (by omega)
    have hsp : spanOf (64 + (i : Int) * wordsOf c) = 1 := by
      have := spanOf_at (n := 1) (q := i) (W := wordsOf c) (by omega) hi0 (by omega)
      rwa [Int.one_mul] at this
    have hf : r.2.find (64 + (i : Int) * wordsOf c) = none := find_none (by rw [hsp]; exact rc)
    have hwd : r.2.word (64 + (i : Int) * wordsOf c) 0 = none := by unfold PAr.word; rw [hf]
    rw [read_none hwd, cnt_zero.1 hk i hi]; rfl
  · have ra : r.2.at 1 = ⟨c, (a.at 1).tk &&& (a.at 1).md, (a.at 1).md⟩ := by rw [e0, if_neg (fun e => hk (hz.1 e)), H.cls]; exact PAr.setS_at _ hh
    have rc : r.2.cls 1 = c := by rw [cls_at rh, ra]
    refine ⟨r1, r2, ⟨fun h => by rw [rc] at h; omega, fun h => absurd h hk⟩, fun i hi => ?_, fun _ hne => ?_⟩
    · have hf := find_at (a := r.2) (by omega) rh (q := i) (by rw [ra]; show (i : Int) < placesOf c; omega)
      rw [ra] at hf
      simp only [hbits, hi, decide_true, Bool.true_and, Int.one_mul] at hf
      have hw := wp_cases c i (by omega) (by omega)
      have hi0 : (0 : Int) ≤ i * wordsOf c := Int.mul_nonneg (by omega) (by omega)
      rcases bool_cases (X i) with hx | hx
      · rw [hx] at hf ⊢
        have hwd : r.2.word (64 + (i : Int) * wordsOf c) 0 = some (64 + (i : Int) * wordsOf c).toNat := by
          unfold PAr.word
          rw [hf]
          simp only [if_true, ra, Int.add_zero]
          rw [if_pos ⟨by omega, by omega⟩]
        rw [read_some hwd, rw', H.wd i hi]; rfl
      · rw [hx] at hf ⊢
        have hwd : r.2.word (64 + (i : Int) * wordsOf c) 0 = none := by unfold PAr.word; rw [hf]; rfl
        rw [read_none hwd]; rfl
    · obtain ⟨j, hj, hxj⟩ : ∃ j, j < m ∧ X j = false := by
        have hn : ¬ ∀ j, j < m → (!X j) = false := fun h => by
          have h0 := cnt_zero.2 h
          have := cnt_not X m
          omega
        simp only [Bool.not_eq_false', Classical.not_forall] at hn
        obtain ⟨j, hj, hx⟩ := hn
        exact ⟨j, hj, by simpa using hx⟩
      have hfr := first0_lt (b := (a.at 1).tk &&& (a.at 1).md) (q := j) (by omega) (by rw [hbits, hxj]; simp)
      generalize hq : first0 ((a.at 1).tk &&& (a.at 1).md) = q0 at hfr
      have hq0 : (q0 : Int) < placesOf c := by omega
      have hw := wp_cases c q0 (by omega) hq0
      have hi0 : (0 : Int) ≤ q0 * wordsOf c := Int.mul_nonneg (by omega) (by omega)
      have et : r.2.take 1 = (64 + q0 * wordsOf c, 0, ⟨clr r.2.ws (64 + q0 * wordsOf c).toNat (wordsOf c).toNat, (r.2.setS 1 ⟨c, ((a.at 1).tk &&& (a.at 1).md) ||| bitOf q0, (a.at 1).md &&& ~~~ bitOf q0⟩).sp⟩) := by
        unfold PAr.take
        rw [if_neg (by rw [rc]; omega), ra]
        simp only [hq]
        rw [if_neg (by omega)]; rfl
      rw [et]
      refine ⟨rfl, by show 0 < 64 + (q0 : Int) * wordsOf c; omega, ?_⟩
      simp only
      generalize hb : (⟨clr r.2.ws (64 + q0 * wordsOf c).toNat (wordsOf c).toNat, (r.2.setS 1 ⟨c, ((a.at 1).tk &&& (a.at 1).md) ||| bitOf q0, (a.at 1).md &&& ~~~ bitOf q0⟩).sp⟩ : PAr) = d
      have dl : d.sp.length = 8 := by rw [← hb]; exact (r.2.setS_len 1 _).trans r2
      have da : d.at 1 = ⟨c, ((a.at 1).tk &&& (a.at 1).md) ||| bitOf q0, (a.at 1).md &&& ~~~ bitOf q0⟩ := by rw [← hb]; exact PAr.setS_at _ rh
      have hfd := find_at (a := d) (n := 1) (by omega) ⟨by omega, by rw [dl]; decide⟩ (q := q0) (by rw [da]; exact hq0)
      rw [da] at hfd
      simp only [Int.one_mul, BitVec.getLsbD_or, bit_get q0 q0 (by omega), decide_true, Bool.or_true, if_true] at hfd
      unfold PAr.is
      rw [hfd]; rfl
end
end Go.Ab.F
