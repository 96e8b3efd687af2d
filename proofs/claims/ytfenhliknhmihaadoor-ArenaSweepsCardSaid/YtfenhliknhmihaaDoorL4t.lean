import Derived.Test.YtfenhliknhmihaaDoorL4s
namespace Go.Ab.F
open Go Go.Ab
set_option linter.all false
attribute [local congr] c_bind c_cl c_mk c_lp c_clC c_gQ c_gV c_condE c_thenK

def pls (c : Int) : Nat := (placesOf c).toNat
theorem pls_eq {c : Int} (hc : 0 ≤ c ∧ c ≤ 5) : (pls c : Int) = placesOf c ∧ 1 ≤ pls c ∧ pls c ≤ 32 ∧ 2 ≤ wordsOf c ∧ wordsOf c ≤ 64 := by
  rcases (by omega : c = 0 ∨ c = 1 ∨ c = 2 ∨ c = 3 ∨ c = 4 ∨ c = 5) with rfl | rfl | rfl | rfl | rfl | rfl <;> decide
theorem getD0 (a : AV) (l : List AV) : (a :: l).getD 0 .bot = a := rfl
theorem getD1 (a b : AV) (l : List AV) : (a :: b :: l).getD 1 .bot = b := rfl
theorem succ_i64 (i : Nat) (h : i < 2 ^ 62) : IntKind.i64.wrap ((i : Int) + 1) = ((i + 1 : Nat) : Int) := by rw [wrap_i64 (by omega) (by omega)]; rfl
section
variable {p w s B : Nat} {c v : Int} (hc : 0 ≤ c ∧ c ≤ 5) (hp : p < B) (hw : w < B) (hs : s < B) (hs0 : s ≠ 0) (hw0 : w ≠ 0)
include hc hp hw hs hs0 hw0
/-- The first loop: places are taken, and written. -/
theorem sweeps_L0 {g : Heap} {a : PAr} (N : Nat) (hN : N ≤ 32) (hB : B ≤ g.next) (H : ArAt g p w s a) (hS : Sw a c v 0 fun _ => false) (ht : Tab0 g) :
    Ok (k_law4_ArenaSweeps_L0 (.int .i64 N) (.int .i64 v) (.ptr (some (p, 0))) (.sl none 0 (.ex 0)) (.int .i64 0) g) fun r =>
      r.1 = .exit 0 ∧ ∃ q b a', r.2.1 = [q, .int .i64 N] ∧ SlB r.2.2 b 1 q (wsC (plc (wordsOf c) (min N (pls c)))) (min N (pls c)) ∧ (∀ j, b = some j → B ≤ j) ∧ ArAt r.2.2 p w s a' ∧ Sw a' c v (min N (pls c)) (fun _ => false) ∧ Tab0 r.2.2 ∧ B ≤ r.2.2.next := by
  obtain ⟨P0, P1, P2, W1, W2⟩ := pls_eq hc
  refine ok_loop (fun n vs g => ∃ (i : Nat) (q : AV) (b : Option Nat) (a : PAr), vs = [q, .int .i64 i] ∧ n + i = N ∧ SlB g b 1 q (wsC (plc (wordsOf c) (min i (pls c)))) (min i (pls c)) ∧ (∀ j, b = some j → B ≤ j) ∧ ArAt g p w s a ∧ Sw a c v (min i (pls c)) (fun _ => false) ∧ Tab0 g ∧ B ≤ g.next) ?_ (n := N) (by omega)
    ⟨0, _, none, a, rfl, rfl, by rw [Nat.zero_min]; exact SlB.mt, (fun j hj => by cases hj), H, by rw [Nat.zero_min]; exact hS, ht, hB⟩
  rintro n vs g ⟨i, q, b, a, rfl, hn, hq, hb, H, hS, ht, hB⟩
  rw [getD0, getD1]
  by_cases hi : i < N
  · have hlt : (i : Int) < N := by omega
    by_cases hP : i < pls c
    · have hm : min i (pls c) = i := by omega
      rw [hm] at hq hS
      obtain ⟨t1, t2, t3, t4⟩ := hS.take (by omega)
      refine Ok.eq ?_ (by simp -implicitDefEqProofs only [k_law4_ArenaSweeps_b0, bin_lss, hlt, decide_true, Option.bind_some, condE_true]; rfl)
      refine ok_cl (take_ok H ht.tab hs0 1) ?_
      rintro _ g1 ⟨rfl, H1, s1⟩
      rw [t1, t2]
      simp only at H1 s1
      refine Ok.eq ?_ (by simp -implicitDefEqProofs only [extractV_tup, List.getElem?_cons_zero, List.getElem?_cons_succ, Option.bind_some, eql_int, decide_true, condE_true, xor_i64]; rfl)
      refine ok_cl (write_ok H1 _ 0 (xr v i)) ?_
      rintro _ g2 ⟨rfl, H2, s2⟩
      simp only at H2 s2
      have S12 : Same [w, s] g g2 := s1.trans (s2.sub (by simp))
      have hq2 := hq.same S12 (fun j hj => by have := hb j hj; simp; omega)
      refine app1 hq2 rfl rfl rfl (by decide) (by omega) fun q' g3 hq3 s3 n3 => ?_
      have S3 : Same b.toList g2 g3 := s3
      have hbB : ∀ j, j < B → j ∉ b.toList := fun j hj hm => by
        cases b with
        | none => simp at hm
        | some x => have := hb x rfl; simp at hm; omega
      refine (Ok.of (r := (.normal, [q', .int .i64 ((i + 1 : Nat) : Int)], g3)) ?_).eq (by
        simp -implicitDefEqProofs only [k_law4_ArenaSweeps_j0, bin_add, succ_i64 i (by omega), Option.bind_some])
      left
      have hm' : min (i + 1) (pls c) = i + 1 := by omega
      have e : wsC (plc (wordsOf c) i) ++ (AV.int .i64 (64 + i * wordsOf c)).cells = wsC (plc (wordsOf c) (i + 1)) := by rw [plc_succ]; simp [wsC, AV.cells]
      rw [e] at hq3
      have B2 : B ≤ g2.next := Nat.le_trans hB S12.next
      exact ⟨rfl, n - 1, by omega, i + 1, q', some (g2.next + 1), _, rfl, by omega, by rw [hm']; exact hq3, (fun j hj => by cases hj; omega), H2.same S3 (hbB p hp) (hbB w hw) (hbB s hs), by rw [hm']; exact t4,
        (ht.same S12 (by simp; omega)).same S3 (hbB 0 (by omega)), by show B ≤ g3.next; omega⟩
    · have hm : min i (pls c) = pls c := by omega
      have hm' : min (i + 1) (pls c) = pls c := by omega
      have hf := hS.full hc (by omega) (by omega)
      refine Ok.eq ?_ (by simp -implicitDefEqProofs only [k_law4_ArenaSweeps_b0, bin_lss, hlt, decide_true, Option.bind_some, condE_true]; rfl)
      refine ok_cl (take_ok H ht.tab hs0 1) ?_
      rintro _ g1 ⟨rfl, H1, s1⟩
      rw [hf] at H1 ⊢
      simp only at H1 s1
      have n5 : ¬ (5 : Int) = 0 := by decide
      refine (Ok.of (r := (.normal, [q, .int .i64 ((i + 1 : Nat) : Int)], g1)) ?_).eq (by
        simp -implicitDefEqProofs only [extractV_tup, List.getElem?_cons_zero, List.getElem?_cons_succ, Option.bind_some, eql_int, n5, decide_false, condE_false, k_law4_ArenaSweeps_j0, bin_add, succ_i64 i (by omega)])
      left
      refine ⟨rfl, n - 1, by omega, i + 1, q, b, a, rfl, by omega, ?_, hb, H1, ?_, ht.same s1 (by simp; omega), Nat.le_trans hB s1.next⟩
      · rw [hm', ← hm]; exact hq.same s1 (fun j hj => by have := hb j hj; simp; omega)
      · rw [hm', ← hm]; exact hS
  · have hlt : ¬ (i : Int) < N := by omega
    refine (Ok.of (r := (.exit 0, [q, .int .i64 (i : Int)], g)) ?_).eq (by
      simp -implicitDefEqProofs only [k_law4_ArenaSweeps_b0, bin_lss, hlt, decide_false, Option.bind_some, condE_false])
    right
    obtain rfl : i = N := by omega
    exact ⟨by simp, rfl, q, b, a, rfl, hq, hb, H, hS, ht, hB⟩
/-- The second loop: some are marked. -/
theorem sweeps_L1 {g : Heap} {a : PAr} {b : Option Nat} {q : AV} {m : Nat} (X : BitVec 64) (hm : m ≤ pls c) (hB : B ≤ g.next) (H : ArAt g p w s a) (hS : Sw a c v m fun _ => false) (ht : Tab0 g)
    (hq : SlB g b 1 q (wsC (plc (wordsOf c) m)) m) (hb : ∀ j, b = some j → B ≤ j) (rest : List AV) :
    Ok (k_law4_ArenaSweeps_L1 (.int .u64 X.toNat) (.ptr (some (p, 0))) (q :: rest) (.int .i64 0) (.int .i64 0) g) fun r =>
      r.1 = .exit 2 ∧ ∃ a', r.2.1 = [.int .i64 (cnt X.getLsbD m), .int .i64 m] ∧ SlB r.2.2 b 1 q (wsC (plc (wordsOf c) m)) m ∧ ArAt r.2.2 p w s a' ∧ Sw a' c v m (fun j => decide (j < m) && X.getLsbD j) ∧ Tab0 r.2.2 ∧ B ≤ r.2.2.next := by
  obtain ⟨P0, P1, P2, W1, W2⟩ := pls_eq hc
  refine ok_loop (fun n vs g => ∃ (i : Nat) (a : PAr), vs = [.int .i64 (cnt X.getLsbD i), .int .i64 i] ∧ n + i = m ∧ SlB g b 1 q (wsC (plc (wordsOf c) m)) m ∧ ArAt g p w s a ∧ Sw a c v m (fun j => decide (j < i) && X.getLsbD j) ∧ Tab0 g ∧ B ≤ g.next) ?_ (n := m) (by omega)
    ⟨0, a, rfl, rfl, hq, H, ⟨hS.len, hS.wl, hS.cls, hS.tk, fun j => by rw [hS.md]; simp, hS.wd⟩, ht, hB⟩
  rintro n vs g ⟨i, a, rfl, hn, hq, H, hS, ht, hB⟩
  simp only [getD0, getD1]
  by_cases hi : i < m
  · have hlt : (i : Int) < m := by omega
    have hw64 : IntKind.u64.wrap (i : Int) = i := wrap_u64 (by omega) (by omega)
    have hb1 := bit_is1 X i
    obtain ⟨jb, rfl, hix⟩ := hq.ix hi
    have hld := hq.ld (o := i) rfl
    have hat : (wsC (plc (wordsOf c) m))[i]? = some (.int .i64 (64 + i * wordsOf c)) := by simp [wsC, plc_at _ hi]
    rw [hat] at hld
    rw [Nat.mul_one] at hix
    have hcl := cnt_le X.getLsbD i
    rcases bool_cases (X.getLsbD i) with hx | hx
    · rw [hx] at hb1
      refine Ok.eq ?_ (by simp -implicitDefEqProofs only [k_law4_ArenaSweeps_b1, getD0, hq.lnL, bin_lss, hlt, decide_true, Option.bind_some, condE_true, cvI_int, hw64, shr_is, and_u64, ofInt_toNat, eql_int, hb1, hix, hld]; rfl)
      refine ok_cl (mark_ok H _) ?_
      rintro _ g1 ⟨rfl, H1, s1⟩
      have e1 : IntKind.i64.wrap ((cnt X.getLsbD i : Int) + 1) = ((cnt X.getLsbD (i + 1) : Nat) : Int) := by rw [succ_i64 _ (by omega), cnt, hx]; rfl
      refine (Ok.of (r := (.normal, [.int .i64 ((cnt X.getLsbD (i + 1) : Nat) : Int), .int .i64 ((i + 1 : Nat) : Int)], g1)) ?_).eq (by
        simp -implicitDefEqProofs only [k_law4_ArenaSweeps_j1, bin_add, succ_i64 i (by omega), Option.bind_some, e1])
      left
      exact ⟨rfl, n - 1, by omega, i + 1, _, rfl, by omega, hq.same s1 (fun j hj => by have := hb j hj; simp; omega), H1, hS.mark (by omega) hi hx, ht.same s1 (by simp; omega), Nat.le_trans hB s1.next⟩
    · rw [hx] at hb1
      have e1 : cnt X.getLsbD (i + 1) = cnt X.getLsbD i := by rw [cnt, hx]; rfl
      refine (Ok.of (r := (.normal, [.int .i64 ((cnt X.getLsbD (i + 1) : Nat) : Int), .int .i64 ((i + 1 : Nat) : Int)], g)) ?_).eq (by
        simp -implicitDefEqProofs only [k_law4_ArenaSweeps_b1, getD0, hq.lnL, bin_lss, hlt, decide_true, Option.bind_some, condE_true, condE_false, cvI_int, hw64, shr_is, and_u64, ofInt_toNat, eql_int, hb1, k_law4_ArenaSweeps_j1, bin_add, succ_i64 i (by omega), e1])
      left
      exact ⟨rfl, n - 1, by omega, i + 1, a, rfl, by omega, hq, H, hS.skip hx, ht, hB⟩
  · have hlt : ¬ (i : Int) < m := by omega
    refine (Ok.of (r := (.exit 2, [.int .i64 (cnt X.getLsbD i), .int .i64 (i : Int)], g)) ?_).eq (by
      simp -implicitDefEqProofs only [k_law4_ArenaSweeps_b1, getD0, hq.lnL, bin_lss, hlt, decide_false, Option.bind_some, condE_false])
    right
    obtain rfl : i = m := by omega
    exact ⟨by simp, rfl, a, rfl, hq, H, hS, ht, hB⟩
end
end Go.Ab.F
