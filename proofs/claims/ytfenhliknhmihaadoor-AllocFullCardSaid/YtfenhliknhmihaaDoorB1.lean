import Derived.Test.YtfenhliknhmihaaDoorA13
namespace Go.Ab.F
open Go Go.Ab
set_option linter.all false
attribute [local congr] c_bind c_cl c_mk c_lp c_clC c_gQ c_gV c_condE c_thenK

theorem gd0 (a : AV) (l : List AV) : (a :: l).getD 0 .bot = a := rfl
theorem gd1 (a b : AV) (l : List AV) : (a :: b :: l).getD 1 .bot = b := rfl
theorem gd2 (a b c : AV) (l : List AV) : (a :: b :: c :: l).getD 2 .bot = c := rfl
theorem gd3 (a b c d : AV) (l : List AV) : (a :: b :: c :: d :: l).getD 3 .bot = d := rfl
theorem suc64 (i : Nat) (h : i < 2 ^ 62) : IntKind.i64.wrap ((i : Int) + 1) = ((i + 1 : Nat) : Int) := by rw [wrap_i64 (by omega) (by omega)]; rfl
theorem eql_bool' (fs : Option (List (Nat × TypeDesc))) (a b : Bool) : eqP (some .bool) fs false .eql (.bool a) (.bool b) = some (.bool (decide (a = b))) := by rw [eql_bool]; cases a <;> cases b <;> rfl

/-! ### The class of so many words -/
def classOf (n : Int) : Int := if n < 1 then -1 else if n ≤ 2 then 0 else if n ≤ 4 then 1 else if n ≤ 8 then 2 else if n ≤ 16 then 3 else if n ≤ 32 then 4 else if n ≤ 64 then 5 else -1
theorem classOf_range (n : Int) : classOf n = -1 ∨ (0 ≤ classOf n ∧ classOf n ≤ 5 ∧ n ≤ wordsOf (classOf n) ∧ 1 ≤ n) := by
  unfold classOf wordsOf
  repeat' split
  all_goals omega
theorem classOf_step (n : Int) (i : Nat) (hi : i < 6) (hno : ∀ j : Nat, j < i → ¬ (1 ≤ n ∧ n ≤ wordsOf j)) (h : 1 ≤ n ∧ n ≤ wordsOf i) : classOf n = i := by
  have h0 := hno 0
  have h1 := hno 1
  have h2 := hno 2
  have h3 := hno 3
  have h4 := hno 4
  rcases (by omega : i = 0 ∨ i = 1 ∨ i = 2 ∨ i = 3 ∨ i = 4 ∨ i = 5) with rfl | rfl | rfl | rfl | rfl | rfl <;>
    simp [wordsOf] at h0 h1 h2 h3 h4 h <;> unfold classOf <;> repeat' split <;> omega
theorem classOf_none (n : Int) (hno : ∀ j : Nat, j < 6 → ¬ (1 ≤ n ∧ n ≤ wordsOf j)) : classOf n = -1 := by
  have h5 := hno 5 (by decide)
  simp [wordsOf] at h5
  unfold classOf
  repeat' split
  all_goals omega
theorem gclass_eq (n : Int) (h : Heap) : Ok (k_geom_Class (.int .i64 n) h) fun r => r = (.int .i64 (classOf n), h) := by
  have lp0 : Ok (k_geom_Class_L0 (.int .i64 n) (.int .i64 0) (.int .i64 0) h) fun r => (r.1 = .exit 0 ∧ r.2.2 = h ∧ classOf n = -1) ∨ (r.1 = .ret ∧ r.2.2 = h ∧ r.2.1.getD 0 .bot = .int .i64 (classOf n)) := by
    refine ok_loop (fun m vs g => ∃ (i : Nat), vs = [.int .i64 0, .int .i64 i] ∧ m + i = 6 ∧ h = g ∧ ∀ j : Nat, j < i → ¬ (1 ≤ n ∧ n ≤ wordsOf j)) ?_ (n := 6) (by omega) ⟨0, rfl, rfl, rfl, fun j hj => by omega⟩
    rintro m vs _ ⟨i, rfl, hm, rfl, hno⟩
    rw [gd0, gd1]
    by_cases hi : i < 6
    · have hlt : (i : Int) < 6 := by omega
      by_cases h1 : 1 ≤ n
      · by_cases h2 : n ≤ wordsOf i
        · refine (Ok.of (r := (.ret, [.int .i64 i, .int .i64 i], h)) ?_).eq (by
            simp -implicitDefEqProofs only [k_geom_Class_b0, bin_lss, hlt, decide_true, Option.bind_some, condE_true, bin_geq, h1, gdW_tt, gQ_true, words_eq, cl_some, bin_leq, h2, pickP_bool, if_true])
          exact .inr ⟨by simp, .inr ⟨rfl, rfl, by rw [classOf_step n i hi hno ⟨h1, h2⟩]; rfl⟩⟩
        · refine (Ok.of (r := (.normal, [.int .i64 0, .int .i64 ((i + 1 : Nat) : Int)], h)) ?_).eq (by
            simp -implicitDefEqProofs only [k_geom_Class_b0, bin_lss, hlt, decide_true, decide_false, Option.bind_some, condE_true, condE_false, bin_geq, h1, gdW_tt, gQ_true, words_eq, cl_some, bin_leq, h2, pickP_bool, if_true, bin_add, suc64 i (by omega)])
          refine .inl ⟨rfl, m - 1, by omega, i + 1, rfl, by omega, rfl, fun j hj hh => ?_⟩
          by_cases e : j = i
          · subst e; exact h2 hh.2
          · exact hno j (by omega) hh
      · refine (Ok.of (r := (.normal, [.int .i64 0, .int .i64 ((i + 1 : Nat) : Int)], h)) ?_).eq (by
          simp -implicitDefEqProofs only [k_geom_Class_b0, bin_lss, hlt, decide_true, decide_false, Option.bind_some, condE_true, condE_false, bin_geq, h1, gdW_ft, gQ_false, pickP_bool, Bool.false_eq_true, if_false, bin_add, suc64 i (by omega)])
        refine .inl ⟨rfl, m - 1, by omega, i + 1, rfl, by omega, rfl, fun j hj hh => h1 hh.1⟩
    · have hlt : ¬ (i : Int) < 6 := by omega
      refine (Ok.of (r := (.exit 0, [.int .i64 0, .int .i64 (i : Int)], h)) ?_).eq (by
        simp -implicitDefEqProofs only [k_geom_Class_b0, bin_lss, hlt, decide_false, Option.bind_some, condE_false])
      have : i = 6 := by omega
      subst this
      exact .inr ⟨by simp, .inl ⟨rfl, rfl, classOf_none n hno⟩⟩
  refine Ok.eq ?_ (by unfold k_geom_Class; rfl)
  refine ok_lp lp0 ?_
  rintro e vs g (⟨rfl, rfl, hc⟩ | ⟨rfl, rfl, hv⟩)
  · exact ok_val (v := .int .i64 (-1)) (g := g) rfl (by rw [hc])
  · simp only at hv
    exact ok_val (v := .int .i64 (classOf n)) (g := g) (by show some (vs.getD 0 .bot, g) = _; rw [hv]) rfl

/-! ### All places -/
def fullB (c : Int) : BitVec 64 := if c = 0 then 0xFFFFFFFF else if c = 1 then 0xFFFF else if c = 2 then 0xFF else if c = 3 then 0xF else if c = 4 then 3 else if c = 5 then 1 else 0
def pls (c : Int) : Nat := (placesOf c).toNat
theorem pls_eq {c : Int} (hc : 0 ≤ c ∧ c ≤ 5) : (pls c : Int) = placesOf c ∧ 1 ≤ pls c ∧ pls c ≤ 32 ∧ 2 ≤ wordsOf c ∧ wordsOf c ≤ 64 ∧ (pls c : Int) * wordsOf c = 64 := by
  rcases (by omega : c = 0 ∨ c = 1 ∨ c = 2 ∨ c = 3 ∨ c = 4 ∨ c = 5) with rfl | rfl | rfl | rfl | rfl | rfl <;> decide
theorem full_eq {c : Int} (hc : 0 ≤ c ∧ c ≤ 5) (h : Heap) : k_geom_Full (.int .i64 c) h = some (.int .u64 (fullB c).toNat, h) := by
  rcases (by omega : c = 0 ∨ c = 1 ∨ c = 2 ∨ c = 3 ∨ c = 4 ∨ c = 5) with rfl | rfl | rfl | rfl | rfl | rfl <;> rfl
theorem full_bits {c : Int} (hc : 0 ≤ c ∧ c ≤ 5) (j : Nat) (hj : j < 64) : (fullB c).getLsbD j = decide (j < pls c) := by
  have all : ∀ c : Fin 6, ∀ j : Fin 64, (fullB c.val).getLsbD j.val = decide (j.val < pls c.val) := by decide +kernel
  have := all ⟨c.toNat, by omega⟩ ⟨j, hj⟩
  rw [show ((⟨c.toNat, by omega⟩ : Fin 6).val : Int) = c by simp; omega] at this
  exact this

/-! ### An allocator -/
structure PAl where
  ar : PAr
  un : List Bool
def unC (l : List Bool) : List AV := l.map .bool
structure AlAt (h : Heap) (q u p w s : Nat) (l : PAl) : Prop where
  hq : ∃ c, h.get q = some (.cells true [.ptr (some (p, 0)), .sl (some (u, 0)) l.un.length c])
  hu : h.get u = some (.cells true (unC l.un))
  ar : ArAt h p w s l.ar
  qu : q ≠ u
  qp : q ≠ p
  qw : q ≠ w
  qs : q ≠ s
  up : u ≠ p
  uw : u ≠ w
  us : u ≠ s
  lq : q < h.next
  lu : u < h.next
  len : l.un.length = l.ar.sp.length
theorem AlAt.same {h h' : Heap} {q u p w s : Nat} {l : PAl} {S : List Nat} (H : AlAt h q u p w s l) (hs : Same S h h') (h1 : q ∉ S) (h2 : u ∉ S) (h3 : p ∉ S) (h4 : w ∉ S) (h5 : s ∉ S) : AlAt h' q u p w s l :=
  { hq := by rw [hs.get q H.lq h1]; exact H.hq
    hu := by rw [hs.get u H.lu h2]; exact H.hu
    ar := H.ar.same hs h3 h4 h5
    qu := H.qu, qp := H.qp, qw := H.qw, qs := H.qs, up := H.up, uw := H.uw, us := H.us
    lq := Nat.lt_of_lt_of_le H.lq hs.next, lu := Nat.lt_of_lt_of_le H.lu hs.next, len := H.len }
/-- The arena has turned, the rest has not. -/
theorem AlAt.arena {h h' : Heap} {q u p w s : Nat} {l : PAl} {a : PAr} (H : AlAt h q u p w s l) (hs : Same [w, s] h h') (ha : ArAt h' p w s a) (hl : a.sp.length = l.ar.sp.length) : AlAt h' q u p w s ⟨a, l.un⟩ :=
  { hq := by rw [hs.get q H.lq (by simp [H.qw, H.qs])]; exact H.hq
    hu := by rw [hs.get u H.lu (by simp [H.uw, H.us])]; exact H.hu
    ar := ha
    qu := H.qu, qp := H.qp, qw := H.qw, qs := H.qs, up := H.up, uw := H.uw, us := H.us
    lq := Nat.lt_of_lt_of_le H.lq hs.next, lu := Nat.lt_of_lt_of_le H.lu hs.next, len := H.len.trans hl.symm }
section
variable {h : Heap} {q u p w s : Nat} {l : PAl} (H : AlAt h q u p w s l)
include H
theorem AlAt.ld0 : ldS h (.ptr (some (q, 0))) = some (.ptr (some (p, 0))) := by
  obtain ⟨c, hq⟩ := H.hq
  rw [ldS_at hq]; rfl
theorem AlAt.ld1 : ∃ c, ldS h (.ptr (some (q, 1))) = some (.sl (some (u, 0)) l.un.length c) := by
  obtain ⟨c, hq⟩ := H.hq
  exact ⟨c, by rw [ldS_at hq]; rfl⟩
theorem AlAt.ldu {n : Nat} (hn : n < l.un.length) : ldS h (.ptr (some (u, n))) = some (.bool ((l.un[n]?).getD false)) := by
  rw [ldS_at H.hu]; simp [unC, hn]
theorem AlAt.stu {n : Nat} (hn : n < l.un.length) (b : Bool) : stP 1 h (.ptr (some (u, n))) (.bool b) = some (.bot, h.put u (some (.cells true (unC (l.un.set n b))))) := by
  rw [stP_one H.hu (by simpa [unC] using hn) rfl]; simp [unC, List.map_set]
theorem AlAt.setU (n : Nat) (b : Bool) : AlAt (h.put u (some (.cells true (unC (l.un.set n b))))) q u p w s ⟨l.ar, l.un.set n b⟩ :=
  { hq := by rw [get_put_ne H.qu, List.length_set]; exact H.hq
    hu := get_put_eq
    ar := H.ar.same (Same.put _ _ _) (by simp [Ne.symm H.up]) (by simp [Ne.symm H.uw]) (by simp [Ne.symm H.us])
    qu := H.qu, qp := H.qp, qw := H.qw, qs := H.qs, up := H.up, uw := H.uw, us := H.us
    lq := H.lq, lu := H.lu, len := by rw [List.length_set]; exact H.len }
theorem ixU {n : Nat} (hn : n < l.un.length) (c : Cap) : iaS 1 (.sl (some (u, 0)) l.un.length c) (.int .i64 (n : Int)) = some (.ptr (some (u, n))) := by
  rw [iaS_sl 1 (u, 0) _ _ .i64 _ ⟨by omega, by omega⟩]; simp
end
def PAl.sweepU (l : PAl) (n : Nat) : PAl := ⟨(l.ar.sweep n).2, l.un.set n false⟩
theorem sweepL_len (l : PAl) (n : Nat) : (l.sweepU n).un.length = l.un.length ∧ (l.sweepU n).ar.sp.length = l.ar.sp.length := by
  refine ⟨by simp [PAl.sweepU], ?_⟩
  unfold PAl.sweepU PAr.sweep
  split
  · rfl
  · exact l.ar.setS_len _ _
theorem asweep_ok {h : Heap} {q u p w s : Nat} {l : PAl} (H : AlAt h q u p w s l) {n : Nat} (hn : n < l.un.length) :
    Ok (k_alloc_Alloc_sweep (.ptr (some (q, 0))) (.int .i64 n) h) fun r => r.1 = .tup [] ∧ AlAt r.2 q u p w s (l.sweepU n) ∧ Same [u, s] h r.2 := by
  refine Ok.eq ?_ (by simp -implicitDefEqProofs only [k_alloc_Alloc_sweep, nilV_ptr, Option.bind_some, faP_ptr, Nat.zero_add, H.ld0]; rfl)
  refine ok_cl (sweep_ok H.ar n) ?_
  rintro _ g ⟨-, H1, s1⟩
  simp only at H1 s1
  have hl : (l.ar.sweep n).2.sp.length = l.ar.sp.length := (sweepL_len l n).2
  have H2 := H.arena (s1.sub (by simp)) H1 hl
  obtain ⟨c, hd⟩ := H2.ld1
  refine ok_val (v := .tup []) (g := g.put u (some (.cells true (unC (l.un.set n false))))) (by
    simp -implicitDefEqProofs only [nilV_ptr, Option.bind_some, faP_ptr, Nat.zero_add, hd, ixU H2 (n := n) (by exact hn), H2.stu (n := n) (by exact hn), cl_some]) ⟨rfl, H2.setU n false, ?_⟩
  exact (s1.sub (by simp)).trans ((Same.put _ _ _).sub (by simp))
end Go.Ab.F
