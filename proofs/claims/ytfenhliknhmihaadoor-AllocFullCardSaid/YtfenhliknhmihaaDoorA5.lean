import Derived.Test.YtfenhliknhmihaaDoorA4
namespace Go.Ab.F
open Go Go.Ab
set_option linter.all false
attribute [local congr] c_bind c_cl c_mk c_lp c_clC c_gQ c_gV c_condE c_thenK

/-! ### What is written -/
section
variable {h : Heap} {p w s : Nat} {a : PAr}
theorem ArAt.setSp (H : ArAt h p w s a) {l : List PSp} (hl : l.length = a.sp.length) : ArAt (h.put s (some (.cells true (spsC l)))) p w s ⟨a.ws, l⟩ :=
  { hp := by rw [get_put_ne H.ps, hl]; exact H.hp
    hw := by rw [get_put_ne (Ne.symm H.sw)]; exact H.hw
    hs := get_put_eq
    pw := H.pw, ps := H.ps, sw := H.sw, lp := H.lp, lw := H.lw, ls := H.ls
    len := by rw [hl]; exact H.len
    lo := by rw [hl]; exact H.lo
    hi := by rw [hl]; exact H.hi }
theorem ArAt.setWs (H : ArAt h p w s a) {l : List Int} (hl : l.length = a.ws.length) : ArAt (h.put w (some (.cells true (wsC l)))) p w s ⟨l, a.sp⟩ :=
  { hp := by rw [get_put_ne H.pw, hl]; exact H.hp
    hw := get_put_eq
    hs := by rw [get_put_ne H.sw]; exact H.hs
    pw := H.pw, ps := H.ps, sw := H.sw, lp := H.lp, lw := H.lw, ls := H.ls
    len := by rw [hl]; exact H.len
    lo := H.lo
    hi := H.hi }
theorem PAr.has_lt {a : PAr} {n : Int} (hn : a.has n) : n.toNat < a.sp.length := by have := hn.1; have := hn.2; omega
theorem ArAt.ix (H : ArAt h p w s a) {n : Int} (hn : a.has n) (d : Cap) : iaS 3 (.sl (some (s, 0)) a.sp.length d) (.int .i64 n) = some (.ptr (some (s, n.toNat * 3))) := by
  rw [iaS_sl 3 (s, 0) _ _ .i64 n ⟨by have := hn.1; omega, hn.2⟩]; simp
theorem ArAt.ldc (H : ArAt h p w s a) {n : Int} (hn : a.has n) : ldS h (.ptr (some (s, n.toNat * 3))) = some (.int .i64 (a.at n).cls) := by
  rw [ldS_at H.hs, spsC_0 (PAr.at_some hn)]
theorem ArAt.ldt (H : ArAt h p w s a) {n : Int} (hn : a.has n) : ldS h (.ptr (some (s, n.toNat * 3 + 1))) = some (.int .u64 (a.at n).tk.toNat) := by
  rw [ldS_at H.hs, spsC_1 (PAr.at_some hn)]
theorem ArAt.ldm (H : ArAt h p w s a) {n : Int} (hn : a.has n) : ldS h (.ptr (some (s, n.toNat * 3 + 2))) = some (.int .u64 (a.at n).md.toNat) := by
  rw [ldS_at H.hs, spsC_2 (PAr.at_some hn)]
def PAr.setS (a : PAr) (n : Int) (x : PSp) : PAr := ⟨a.ws, a.sp.set n.toNat x⟩
theorem PAr.setS_len (a : PAr) (n : Int) (x : PSp) : (a.setS n x).sp.length = a.sp.length := by simp [PAr.setS]
theorem PAr.setS_has (a : PAr) (n m : Int) (x : PSp) : (a.setS n x).has m ↔ a.has m := by unfold PAr.has; rw [a.setS_len]
theorem PAr.setS_at {a : PAr} {n : Int} (x : PSp) (hn : a.has n) : (a.setS n x).at n = x := by
  unfold PAr.at PAr.setS; simp [PAr.has_lt hn]
theorem PAr.setS_ne {a : PAr} {n m : Int} (x : PSp) (hn : a.has n) (hm : a.has m) (hne : m ≠ n) : (a.setS n x).at m = a.at m := by
  unfold PAr.at PAr.setS
  have := hn.1; have := hm.1
  simp only
  rw [List.getElem?_set_ne (by omega)]
theorem PAr.setS_cls {a : PAr} {n m : Int} (x : PSp) (hn : a.has n) : (a.setS n x).cls m = if m = n then x.cls else a.cls m := by
  unfold PAr.cls
  by_cases hm : a.has m
  · rw [if_pos ((a.setS_has n m x).2 hm), if_pos hm]
    by_cases e : m = n
    · subst e; rw [if_pos rfl, PAr.setS_at x hm]
    · rw [if_neg e, PAr.setS_ne x hn hm e]
  · rw [if_neg (fun h => hm ((a.setS_has n m x).1 h)), if_neg hm, if_neg (fun e => hm (by rw [e]; exact hn))]
theorem PAr.setS_setS (a : PAr) (n : Int) (x y : PSp) : (a.setS n x).setS n y = a.setS n y := by
  unfold PAr.setS; simp
theorem ArAt.stt (H : ArAt h p w s a) {n : Int} (hn : a.has n) (b : BitVec 64) : stP 1 h (.ptr (some (s, n.toNat * 3 + 1))) (.int .u64 b.toNat) = some (.bot, h.put s (some (.cells true (spsC (a.setS n ⟨(a.at n).cls, b, (a.at n).md⟩).sp)))) := by
  rw [stP_one H.hs (by rw [spsC_length]; have := PAr.has_lt hn; omega) rfl, spsC_set1 b (PAr.at_some hn)]; rfl
theorem ArAt.stm (H : ArAt h p w s a) {n : Int} (hn : a.has n) (b : BitVec 64) : stP 1 h (.ptr (some (s, n.toNat * 3 + 2))) (.int .u64 b.toNat) = some (.bot, h.put s (some (.cells true (spsC (a.setS n ⟨(a.at n).cls, (a.at n).tk, b⟩).sp)))) := by
  rw [stP_one H.hs (by rw [spsC_length]; have := PAr.has_lt hn; omega) rfl, spsC_set2 b (PAr.at_some hn)]; rfl
theorem ArAt.sts (H : ArAt h p w s a) {n : Int} (hn : a.has n) (x : PSp) : stP 3 h (.ptr (some (s, n.toNat * 3))) (.agg (spC x)) = some (.bot, h.put s (some (.cells true (spsC (a.setS n x).sp)))) := by
  simp only [stP, AV.cells, spC, List.length_cons, List.length_nil, ne_eq, not_true_eq_false, if_false, storeN, List.all_cons, List.all_nil, scalar, Bool.and_self, if_true, H.hs, spliceF_eq]
  have := spsC_splice x (PAr.has_lt hn)
  simp only [spC] at this
  rw [this]; rfl
theorem ArAt.sets (H : ArAt h p w s a) (n : Int) (x : PSp) : ArAt (h.put s (some (.cells true (spsC (a.setS n x).sp)))) p w s (a.setS n x) := H.setSp (a.setS_len n x)
end

/-! ### Set -/
def PAr.set (a : PAr) (n c : Int) : Int × PAr :=
  if ¬ a.has n ∨ wordsOf c = 0 then (1, a) else if (a.at n).cls ≠ -1 then (5, a) else (0, a.setS n ⟨c, 0, 0⟩)
theorem bld_sp (c : Int) (t m : BitVec 64) : bldS [(0, 1), (1, 1), (2, 1)] [(AV.int .i64 0), (AV.int .u64 0), (AV.int .u64 0)] [(0, (AV.int .i64 c))] = some (.agg (spC ⟨c, 0, 0⟩)) := by
  rfl
theorem set_ok {h : Heap} {p w s : Nat} {a : PAr} (H : ArAt h p w s a) (n c : Int) :
    Ok (k_arena_Arena_Set (.ptr (some (p, 0))) (.int .i64 n) (.int .i64 c) h) fun r => r.1 = .int .i64 (a.set n c).1 ∧ ArAt r.2 p w s (a.set n c).2 ∧ Same [s] h r.2 := by
  obtain ⟨d, hd⟩ := H.ld1
  by_cases h1 : a.has n
  · by_cases h2 : wordsOf c = 0
    · refine (Ok.of (r := (.int .i64 1, h)) ?_).eq (by simp -implicitDefEqProofs [k_arena_Arena_Set, has_eq H, h1, words_eq, h2])
      simp only [PAr.set, h2, or_true, if_true]
      exact ⟨trivial, H, Same.refl _ _⟩
    · by_cases h3 : (a.at n).cls = -1
      · refine (Ok.of (r := (.int .i64 0, h.put s (some (.cells true (spsC (a.setS n ⟨c, 0, 0⟩).sp))))) ?_).eq ?_
        · simp only [PAr.set, h1, h2, h3, not_true_eq_false, or_false, if_false, ne_eq]
          exact ⟨trivial, H.sets n _, Same.put _ _ _⟩
        · simp -implicitDefEqProofs [k_arena_Arena_Set, has_eq H, h1, words_eq, h2, hd, H.ix h1, H.ldc h1, h3, bld_sp c 0 0, H.sts h1]
      · refine (Ok.of (r := (.int .i64 5, h)) ?_).eq (by simp -implicitDefEqProofs [k_arena_Arena_Set, has_eq H, h1, words_eq, h2, hd, H.ix h1, H.ldc h1, h3])
        simp only [PAr.set, h1, h2, h3, not_true_eq_false, or_false, if_false, ne_eq, not_false_eq_true, if_true]
        exact ⟨trivial, H, Same.refl _ _⟩
  · refine (Ok.of (r := (.int .i64 1, h)) ?_).eq (by simp -implicitDefEqProofs [k_arena_Arena_Set, has_eq H, h1])
    simp only [PAr.set, h1, not_false_eq_true, true_or, if_true]
    exact ⟨trivial, H, Same.refl _ _⟩
end Go.Ab.F
