import Derived.Test.YtfenhliknhmihaaDoorB1
namespace Go.Ab.F
open Go Go.Ab
set_option linter.all false
attribute [local congr] c_bind c_cl c_mk c_lp c_clC c_gQ c_gV c_condE c_thenK

/-! ### A new span -/
def PAl.beginU (l : PAl) (n : Nat) (c : Int) : (Int × Int) × PAl :=
  (((l.ar.set n c).2.take n).1, ((l.ar.set n c).2.take n).2.1, ⟨((l.ar.set n c).2.take n).2.2, l.un.set n false⟩) |> fun r => ((r.1, r.2.1), r.2.2)
theorem set_len' (a : PAr) (n c : Int) : (a.set n c).2.sp.length = a.sp.length := by
  unfold PAr.set; split
  · rfl
  · split
    · rfl
    · exact a.setS_len _ _
theorem take_len' (a : PAr) (n : Int) : (a.take n).2.2.sp.length = a.sp.length := by
  unfold PAr.take; split
  · rfl
  · split
    · rfl
    · exact a.setS_len _ _
theorem abegin_ok {h : Heap} {q u p w s : Nat} {l : PAl} (H : AlAt h q u p w s l) (ht : Tab0 h) (hs0 : s ≠ 0) (hu0 : u ≠ 0) {n : Nat} (hn : n < l.un.length) (c : Int) :
    Ok (k_alloc_Alloc_begin (.ptr (some (q, 0))) (.int .i64 n) (.int .i64 c) h) fun r => r.1 = .tup [.int .i64 (l.beginU n c).1.1, .int .i64 (l.beginU n c).1.2] ∧ AlAt r.2 q u p w s (l.beginU n c).2 ∧ Same [u, w, s] h r.2 := by
  obtain ⟨d, hd⟩ := H.ld1
  have H1 := H.setU n false
  have s1 : Same [u] h (h.put u (some (.cells true (unC (l.un.set n false))))) := Same.put _ _ _
  have ht1 := ht.same s1 (by simp; omega)
  generalize hg1 : h.put u (some (.cells true (unC (l.un.set n false)))) = g1 at *
  have hst := H.stu hn false
  rw [hg1] at hst
  refine Ok.eq ?_ (by simp -implicitDefEqProofs only [k_alloc_Alloc_begin, nilV_ptr, Option.bind_some, faP_ptr, Nat.zero_add, hd, ixU H hn, hst, cl_some, H1.ld0]; rfl)
  refine ok_cl (set_ok H1.ar n c) ?_
  rintro _ g2 ⟨-, H2, s2⟩
  simp only at H2 s2
  have H2' := H1.arena (s2.sub (by simp)) H2 (set_len' _ _ _)
  have ht2 := ht1.same s2 (by simp; omega)
  refine Ok.eq ?_ (by simp -implicitDefEqProofs only [nilV_ptr, Option.bind_some, faP_ptr, Nat.zero_add, H2'.ld0]; rfl)
  refine ok_cl (take_ok H2 ht2.tab hs0 n) ?_
  rintro _ g3 ⟨rfl, H3, s3⟩
  simp only at H3 s3
  have H3' := H2'.arena s3 H3 (take_len' _ _)
  refine ok_val (g := g3) (by simp -implicitDefEqProofs only [extractV_tup, List.getElem?_cons_zero, List.getElem?_cons_succ, Option.bind_some]; rfl) ⟨rfl, H3', ?_⟩
  exact ((s1.sub (by simp)).trans (s2.sub (by simp))).trans (s3.sub (by simp))

/-! ### Take -/
def PAl.at1 (c : Int) (n : Nat) (l : PAl) : PAl := if (l.un[n]?).getD false = true then l.sweepU n else l
def PAl.scan1 (c : Int) : Nat → Nat → PAl → Option (Int × Int) × PAl
  | 0, _, l => (none, l)
  | k + 1, n, l =>
    if l.ar.cls n ≠ c then PAl.scan1 c k (n + 1) l else
    if (l.at1 c n).ar.cls n = c ∧ (l.at1 c n).ar.taken n ≠ fullB c then
      (some (((l.at1 c n).ar.take n).1, ((l.at1 c n).ar.take n).2.1), ⟨((l.at1 c n).ar.take n).2.2, (l.at1 c n).un⟩)
    else PAl.scan1 c k (n + 1) (l.at1 c n)
def PAl.scan2 (c : Int) : Nat → Nat → PAl → Option (Int × Int) × PAl
  | 0, _, l => (none, l)
  | k + 1, n, l => if l.ar.cls n = -1 then (some (l.beginU n c).1, (l.beginU n c).2) else PAl.scan2 c k (n + 1) l
def PAl.scan3 (c : Int) : Nat → Nat → PAl → Option (Int × Int) × PAl
  | 0, _, l => (none, l)
  | k + 1, n, l =>
    if (l.un[n]?).getD false = true then
      if (l.sweepU n).ar.cls n = -1 then (some ((l.sweepU n).beginU n c).1, ((l.sweepU n).beginU n c).2) else PAl.scan3 c k (n + 1) (l.sweepU n)
    else PAl.scan3 c k (n + 1) l
def PAl.more2 (c : Int) (l : PAl) : (Int × Int) × PAl :=
  match PAl.scan3 c l.un.length 0 l with
  | (some r, l') => (r, l')
  | (none, l') => ((0, 5), l')
def PAl.more (c : Int) (l : PAl) : (Int × Int) × PAl :=
  match PAl.scan2 c (l.un.length - 1) 1 l with
  | (some r, l') => (r, l')
  | (none, l') => PAl.more2 c l'
def PAl.take (l : PAl) (words : Int) : (Int × Int) × PAl :=
  if classOf words = -1 then ((0, 1), l) else
  match PAl.scan1 (classOf words) l.un.length 0 l with
  | (some r, l') => (r, l')
  | (none, l') => PAl.more (classOf words) l'
theorem at1_len (c : Int) (n : Nat) (l : PAl) : (l.at1 c n).un.length = l.un.length ∧ (l.at1 c n).ar.sp.length = l.ar.sp.length := by
  unfold PAl.at1; split
  · exact sweepL_len l n
  · exact ⟨rfl, rfl⟩
theorem begin_len (c : Int) (n : Nat) (l : PAl) : (l.beginU n c).2.un.length = l.un.length ∧ (l.beginU n c).2.ar.sp.length = l.ar.sp.length := by
  refine ⟨by simp [PAl.beginU], ?_⟩
  show (((l.ar.set n c).2.take n).2.2).sp.length = _
  rw [take_len', set_len']
/-- How a scan ends in the code: an answer, or on. -/
def ScanEnd (q u p w s : Nat) (g : Heap) (x : Option (Int × Int) × PAl) (i : Nat) (r : Ex × List AV × Heap) : Prop :=
  AlAt r.2.2 q u p w s x.2 ∧ Same [u, w, s] g r.2.2 ∧
  match x.1 with
  | some a => r.1 = .ret ∧ ∃ v rest, r.2.1 = .int .i64 a.1 :: .int .i64 a.2 :: v :: rest
  | none => r.1 = .exit i ∧ ∃ rest, r.2.1 = .int .i64 0 :: .int .i64 0 :: rest
section
variable {q u p w s : Nat}
theorem scan1_ok {g : Heap} {l : PAl} (H : AlAt g q u p w s l) (ht : Tab0 g) (hs0 : s ≠ 0) (hu0 : u ≠ 0) (hw0 : w ≠ 0) {c : Int} (hc : 0 ≤ c ∧ c ≤ 5) :
    Ok (k_alloc_Alloc_Take_L0 (.ptr (some (q, 0))) (.int .i64 c) (.int .i64 l.un.length) (.int .i64 0) (.int .i64 0) (.int .i64 0) g) (ScanEnd q u p w s g (PAl.scan1 c l.un.length 0 l) 0) := by
  have hN : l.un.length ≤ 512 := by rw [H.len]; exact H.ar.hi
  refine ok_loop (fun m vs g' => ∃ (n : Nat) (l' : PAl), vs = [.int .i64 0, .int .i64 0, .int .i64 n] ∧ m + n = l.un.length ∧ AlAt g' q u p w s l' ∧ l'.un.length = l.un.length ∧ Same [u, w, s] g g' ∧ PAl.scan1 c l.un.length 0 l = PAl.scan1 c m n l') ?_ (n := l.un.length) (by omega)
    ⟨0, l, rfl, rfl, H, rfl, Same.refl _ _, rfl⟩
  rintro m vs g' ⟨n, l', rfl, hm, H, hl, hs, he⟩
  rw [gd0, gd1, gd2]
  by_cases hi : n < l.un.length
  · have hlt : (n : Int) < l.un.length := by omega
    obtain ⟨k, rfl⟩ : ∃ k, m = k + 1 := ⟨m - 1, by omega⟩
    have ht' := ht.same hs (by simp; omega)
    have hsc := suc64 n (by omega)
    by_cases h1 : l'.ar.cls n = c
    · obtain ⟨d, hd⟩ := H.ld1
      have hun := H.ldu (n := n) (by omega)
      -- behind the sweep
      have step2 : ∀ (g2 : Heap), AlAt g2 q u p w s (l'.at1 c n) → Same [u, w, s] g g2 →
          Ok (k_alloc_Alloc_Take_j0 (.ptr (some (q, 0))) (.int .i64 c) (.int .i64 0) (.int .i64 0) (.int .i64 (n : Int)) g2) fun r => (r.1 = .normal ∧ ∃ m, m < k + 1 ∧ ∃ (n : Nat) (l' : PAl), r.2.1 = [.int .i64 0, .int .i64 0, .int .i64 n] ∧ m + n = l.un.length ∧ AlAt r.2.2 q u p w s l' ∧ l'.un.length = l.un.length ∧ Same [u, w, s] g r.2.2 ∧ PAl.scan1 c l.un.length 0 l = PAl.scan1 c m n l') ∨
            (r.1 ≠ .normal ∧ ScanEnd q u p w s g (PAl.scan1 c l.un.length 0 l) 0 r) := by
        intro g2 H2 hs2
        have ht2 := ht.same hs2 (by simp; omega)
        by_cases h2 : (l'.at1 c n).ar.cls n = c ∧ (l'.at1 c n).ar.taken n ≠ fullB c
        · have hne : ¬ (((l'.at1 c n).ar.taken n).toNat : Int) = (fullB c).toNat := fun e => h2.2 (BitVec.eq_of_toNat_eq (by omega))
          refine Ok.eq ?_ (by simp -implicitDefEqProofs only [k_alloc_Alloc_Take_j0, nilV_ptr, Option.bind_some, faP_ptr, Nat.zero_add, H2.ld0, class_eq H2.ar, cl_some, eql_int, h2.1, decide_true, gdW_tt, gQ_true, taken_eq H2.ar, full_eq hc, neq_int, hne, decide_false, Bool.not_false, pickP_bool, if_true, condE_true]; rfl)
          refine ok_cl (take_ok H2.ar ht2.tab hs0 n) ?_
          rintro _ g3 ⟨rfl, H3, s3⟩
          simp only at H3 s3
          have H3' := H2.arena s3 H3 (take_len' _ _)
          refine (Ok.of (r := (.ret, [_, _, .int .i64 (n : Int)], g3)) ?_).eq (by simp -implicitDefEqProofs only [extractV_tup, List.getElem?_cons_zero, List.getElem?_cons_succ, Option.bind_some]; rfl)
          refine .inr ⟨by simp, ?_⟩
          rw [he, PAl.scan1, if_neg (fun h => h h1), if_pos h2]
          exact ⟨H3', hs2.trans (s3.sub (by simp)), rfl, _, _, rfl⟩
        · have hal := at1_len c n l'
          refine (Ok.of (r := (.normal, [.int .i64 0, .int .i64 0, .int .i64 ((n + 1 : Nat) : Int)], g2)) ?_).eq ?_
          · refine .inl ⟨rfl, k, by omega, n + 1, l'.at1 c n, rfl, by omega, H2, hal.1.trans hl, hs2, ?_⟩
            rw [he, PAl.scan1, if_neg (fun h => h h1), if_neg h2]
          · by_cases h3 : (l'.at1 c n).ar.cls n = c
            · have heq : (((l'.at1 c n).ar.taken n).toNat : Int) = (fullB c).toNat := by
                have : (l'.at1 c n).ar.taken n = fullB c := Classical.byContradiction fun e => h2 ⟨h3, e⟩
                rw [this]
              simp -implicitDefEqProofs only [k_alloc_Alloc_Take_j0, nilV_ptr, Option.bind_some, faP_ptr, Nat.zero_add, H2.ld0, class_eq H2.ar, cl_some, eql_int, h3, decide_true, gdW_tt, gQ_true, taken_eq H2.ar, full_eq hc, neq_int, heq, Bool.not_true, pickP_bool, if_true, condE_false, bin_add, hsc]
            · simp -implicitDefEqProofs only [k_alloc_Alloc_Take_j0, nilV_ptr, Option.bind_some, faP_ptr, Nat.zero_add, H2.ld0, class_eq H2.ar, cl_some, eql_int, h3, decide_false, gdW_ft, gQ_false, pickP_bool, Bool.false_eq_true, if_false, condE_false, bin_add, hsc]
      rcases bool_cases ((l'.un[n]?).getD false) with hb | hb
      · rw [hb] at hun
        refine Ok.eq ?_ (by simp -implicitDefEqProofs only [k_alloc_Alloc_Take_b0, bin_lss, hlt, decide_true, Option.bind_some, condE_true, nilV_ptr, faP_ptr, Nat.zero_add, H.ld0, class_eq H.ar, cl_some, neq_int, h1, Bool.not_true, condE_false, hd, ixU H (n := n) (by omega), hun]; rfl)
        refine ok_cl (asweep_ok H (n := n) (by omega)) ?_
        rintro _ g2 ⟨-, H2, s2⟩
        simp only at H2 s2
        exact step2 g2 (by unfold PAl.at1; rw [if_pos hb]; exact H2) (hs.trans (s2.sub (by simp)))
      · rw [hb] at hun
        refine Ok.eq ?_ (by simp -implicitDefEqProofs only [k_alloc_Alloc_Take_b0, bin_lss, hlt, decide_true, Option.bind_some, condE_true, nilV_ptr, faP_ptr, Nat.zero_add, H.ld0, class_eq H.ar, cl_some, neq_int, h1, Bool.not_true, condE_false, hd, ixU H (n := n) (by omega), hun]; rfl)
        exact step2 g' (by unfold PAl.at1; rw [if_neg (by rw [hb]; decide)]; exact H) hs
    · refine (Ok.of (r := (.normal, [.int .i64 0, .int .i64 0, .int .i64 ((n + 1 : Nat) : Int)], g')) ?_).eq (by
        simp -implicitDefEqProofs only [k_alloc_Alloc_Take_b0, bin_lss, hlt, decide_true, Option.bind_some, condE_true, nilV_ptr, faP_ptr, Nat.zero_add, H.ld0, class_eq H.ar, cl_some, neq_int, h1, decide_false, Bool.not_false, bin_add, hsc])
      refine .inl ⟨rfl, k, by omega, n + 1, l', rfl, by omega, H, hl, hs, ?_⟩
      rw [he, PAl.scan1, if_pos h1]
  · have hlt : ¬ (n : Int) < l.un.length := by omega
    have hm0 : m = 0 := by omega
    subst hm0
    refine (Ok.of (r := (.exit 0, [.int .i64 0, .int .i64 0, .int .i64 (n : Int)], g')) ?_).eq (by
      simp -implicitDefEqProofs only [k_alloc_Alloc_Take_b0, bin_lss, hlt, decide_false, Option.bind_some, condE_false])
    exact .inr ⟨by simp, by rw [he]; exact ⟨H, hs, rfl, _, rfl⟩⟩
theorem scan2_ok {g : Heap} {l : PAl} (H : AlAt g q u p w s l) (ht : Tab0 g) (hs0 : s ≠ 0) (hu0 : u ≠ 0) (hw0 : w ≠ 0) (c : Int) :
    Ok (k_alloc_Alloc_Take_L1 (.ptr (some (q, 0))) (.int .i64 c) (.int .i64 0) (.int .i64 0) (.int .i64 1) g) (ScanEnd q u p w s g (PAl.scan2 c (l.un.length - 1) 1 l) 2) := by
  have hN : l.un.length ≤ 512 := by rw [H.len]; exact H.ar.hi
  have hN' : 8 ≤ l.un.length := by rw [H.len]; exact H.ar.lo
  refine ok_loop (fun m vs g' => ∃ (n : Nat), vs = [.int .i64 0, .int .i64 0, .int .i64 n] ∧ m + n = l.un.length ∧ g = g' ∧ PAl.scan2 c (l.un.length - 1) 1 l = PAl.scan2 c m n l) ?_ (n := l.un.length - 1) (by omega)
    ⟨1, rfl, by omega, rfl, rfl⟩
  rintro m vs _ ⟨n, rfl, hm, rfl, he⟩
  rw [gd0, gd1, gd2]
  obtain ⟨d, hd⟩ := H.ld1
  by_cases hi : n < l.un.length
  · have hlt : (n : Int) < l.un.length := by omega
    obtain ⟨k, rfl⟩ : ∃ k, m = k + 1 := ⟨m - 1, by omega⟩
    have hsc := suc64 n (by omega)
    by_cases h1 : l.ar.cls n = -1
    · refine Ok.eq ?_ (by simp -implicitDefEqProofs only [k_alloc_Alloc_Take_b1, nilV_ptr, Option.bind_some, faP_ptr, Nat.zero_add, hd, lnL_sl, bin_lss, hlt, decide_true, condE_true, H.ld0, class_eq H.ar, cl_some, eql_int, h1]; rfl)
      refine ok_cl (abegin_ok H ht hs0 hu0 hi c) ?_
      rintro _ g3 ⟨rfl, H3, s3⟩
      simp only at H3 s3
      refine (Ok.of (r := (.ret, [_, _, .int .i64 (n : Int)], g3)) ?_).eq (by simp -implicitDefEqProofs only [extractV_tup, List.getElem?_cons_zero, List.getElem?_cons_succ, Option.bind_some]; rfl)
      refine .inr ⟨by simp, ?_⟩
      rw [he, PAl.scan2, if_pos h1]
      exact ⟨H3, s3, rfl, _, _, rfl⟩
    · refine (Ok.of (r := (.normal, [.int .i64 0, .int .i64 0, .int .i64 ((n + 1 : Nat) : Int)], g)) ?_).eq (by
        simp -implicitDefEqProofs only [k_alloc_Alloc_Take_b1, nilV_ptr, Option.bind_some, faP_ptr, Nat.zero_add, hd, lnL_sl, bin_lss, hlt, decide_true, condE_true, H.ld0, class_eq H.ar, cl_some, eql_int, h1, decide_false, condE_false, bin_add, hsc])
      refine .inl ⟨rfl, k, by omega, n + 1, rfl, by omega, rfl, ?_⟩
      rw [he, PAl.scan2, if_neg h1]
  · have hlt : ¬ (n : Int) < l.un.length := by omega
    have hm0 : m = 0 := by omega
    subst hm0
    refine (Ok.of (r := (.exit 2, [.int .i64 0, .int .i64 0, .int .i64 (n : Int)], g)) ?_).eq (by
      simp -implicitDefEqProofs only [k_alloc_Alloc_Take_b1, nilV_ptr, Option.bind_some, faP_ptr, Nat.zero_add, hd, lnL_sl, bin_lss, hlt, decide_false, condE_false])
    exact .inr ⟨by simp, by rw [he]; exact ⟨H, Same.refl _ _, rfl, _, rfl⟩⟩
theorem scan3_ok {g : Heap} {l : PAl} (H : AlAt g q u p w s l) (ht : Tab0 g) (hs0 : s ≠ 0) (hu0 : u ≠ 0) (hw0 : w ≠ 0) (c : Int) (d : Cap) :
    Ok (k_alloc_Alloc_Take_L2 (.ptr (some (q, 0))) (.int .i64 c) (.sl (some (u, 0)) l.un.length d) (.int .i64 l.un.length) (.int .i64 0) (.int .i64 0) (.int .i64 0) g) (ScanEnd q u p w s g (PAl.scan3 c l.un.length 0 l) 4) := by
  have hN : l.un.length ≤ 512 := by rw [H.len]; exact H.ar.hi
  refine ok_loop (fun m vs g' => ∃ (n : Nat) (l' : PAl), vs = [.int .i64 0, .int .i64 0, .int .i64 n] ∧ m + n = l.un.length ∧ AlAt g' q u p w s l' ∧ l'.un.length = l.un.length ∧ Same [u, w, s] g g' ∧ PAl.scan3 c l.un.length 0 l = PAl.scan3 c m n l') ?_ (n := l.un.length) (by omega)
    ⟨0, l, rfl, rfl, H, rfl, Same.refl _ _, rfl⟩
  rintro m vs g' ⟨n, l', rfl, hm, H, hl, hs, he⟩
  rw [gd0, gd1, gd2]
  by_cases hi : n < l.un.length
  · have hlt : (n : Int) < l.un.length := by omega
    obtain ⟨k, rfl⟩ : ∃ k, m = k + 1 := ⟨m - 1, by omega⟩
    have ht' := ht.same hs (by simp; omega)
    have hsc := suc64 n (by omega)
    have hun := H.ldu (n := n) (by omega)
    have hix := ixU H (n := n) (by omega) d
    rw [hl] at hix
    rcases bool_cases ((l'.un[n]?).getD false) with hb | hb
    · rw [hb] at hun
      refine Ok.eq ?_ (by simp -implicitDefEqProofs only [k_alloc_Alloc_Take_b2, bin_lss, hlt, decide_true, Option.bind_some, condE_true, hix, hun]; rfl)
      refine ok_cl (asweep_ok H (n := n) (by omega)) ?_
      rintro _ g2 ⟨-, H2, s2⟩
      simp only at H2 s2
      have hs2 : Same [u, w, s] g g2 := hs.trans (s2.sub (by simp))
      have ht2 := ht.same hs2 (by simp; omega)
      have hsl := sweepL_len l' n
      by_cases h1 : (l'.sweepU n).ar.cls n = -1
      · refine Ok.eq ?_ (by simp -implicitDefEqProofs only [nilV_ptr, Option.bind_some, faP_ptr, Nat.zero_add, H2.ld0, class_eq H2.ar, cl_some, eql_int, h1, decide_true, condE_true]; rfl)
        refine ok_cl (abegin_ok H2 ht2 hs0 hu0 (n := n) (by omega) c) ?_
        rintro _ g3 ⟨rfl, H3, s3⟩
        simp only at H3 s3
        refine (Ok.of (r := (.ret, [_, _, .int .i64 (n : Int)], g3)) ?_).eq (by simp -implicitDefEqProofs only [extractV_tup, List.getElem?_cons_zero, List.getElem?_cons_succ, Option.bind_some]; rfl)
        refine .inr ⟨by simp, ?_⟩
        rw [he, PAl.scan3, if_pos hb, if_pos h1]
        exact ⟨H3, hs2.trans s3, rfl, _, _, rfl⟩
      · refine (Ok.of (r := (.normal, [.int .i64 0, .int .i64 0, .int .i64 ((n + 1 : Nat) : Int)], g2)) ?_).eq (by
          simp -implicitDefEqProofs only [nilV_ptr, Option.bind_some, faP_ptr, Nat.zero_add, H2.ld0, class_eq H2.ar, cl_some, eql_int, h1, decide_false, condE_false, k_alloc_Alloc_Take_j1, bin_add, hsc])
        refine .inl ⟨rfl, k, by omega, n + 1, l'.sweepU n, rfl, by omega, H2, hsl.1.trans hl, hs2, ?_⟩
        rw [he, PAl.scan3, if_pos hb, if_neg h1]
    · rw [hb] at hun
      refine (Ok.of (r := (.normal, [.int .i64 0, .int .i64 0, .int .i64 ((n + 1 : Nat) : Int)], g')) ?_).eq (by
        simp -implicitDefEqProofs only [k_alloc_Alloc_Take_b2, bin_lss, hlt, decide_true, Option.bind_some, condE_true, condE_false, hix, hun, k_alloc_Alloc_Take_j1, bin_add, hsc])
      refine .inl ⟨rfl, k, by omega, n + 1, l', rfl, by omega, H, hl, hs, ?_⟩
      rw [he, PAl.scan3, if_neg (by rw [hb]; decide)]
  · have hlt : ¬ (n : Int) < l.un.length := by omega
    have hm0 : m = 0 := by omega
    subst hm0
    refine (Ok.of (r := (.exit 4, [.int .i64 0, .int .i64 0, .int .i64 (n : Int)], g')) ?_).eq (by
      simp -implicitDefEqProofs only [k_alloc_Alloc_Take_b2, bin_lss, hlt, decide_false, Option.bind_some, condE_false])
    exact .inr ⟨by simp, by rw [he]; exact ⟨H, hs, rfl, _, rfl⟩⟩
theorem scan1_len (c : Int) : ∀ (k n : Nat) (l : PAl), (PAl.scan1 c k n l).2.un.length = l.un.length
  | 0, n, l => rfl
  | k + 1, n, l => by
    rw [PAl.scan1]
    split
    · exact scan1_len c k (n + 1) l
    · split
      · exact (at1_len c n l).1
      · rw [scan1_len c k (n + 1)]; exact (at1_len c n l).1
theorem scan2_len (c : Int) : ∀ (k n : Nat) (l : PAl), (PAl.scan2 c k n l).2.un.length = l.un.length
  | 0, n, l => rfl
  | k + 1, n, l => by
    rw [PAl.scan2]
    split
    · exact (begin_len c n l).1
    · exact scan2_len c k (n + 1) l
theorem atake_ok {h : Heap} {l : PAl} (H : AlAt h q u p w s l) (ht : Tab0 h) (hs0 : s ≠ 0) (hu0 : u ≠ 0) (hw0 : w ≠ 0) (n : Int) :
    Ok (k_alloc_Alloc_Take (.ptr (some (q, 0))) (.int .i64 n) h) fun r => r.1 = .tup [.int .i64 (l.take n).1.1, .int .i64 (l.take n).1.2] ∧ AlAt r.2 q u p w s (l.take n).2 ∧ Same [u, w, s] h r.2 := by
  refine Ok.eq ?_ (by unfold k_alloc_Alloc_Take; rfl)
  refine ok_cl (gclass_eq n h) ?_
  rintro _ _ he
  cases he
  unfold PAl.take
  by_cases h1 : classOf n = -1
  · rw [if_pos h1]
    exact ok_val (v := .tup [.int .i64 0, .int .i64 1]) (g := h) (by simp -implicitDefEqProofs only [eql_int, h1, decide_true, Option.bind_some, condE_true]) ⟨rfl, H, Same.refl _ _⟩
  rw [if_neg h1]
  have hc : 0 ≤ classOf n ∧ classOf n ≤ 5 := by
    rcases classOf_range n with h | h
    · exact absurd h h1
    · exact ⟨h.1, h.2.1⟩
  generalize classOf n = c at *
  obtain ⟨d, hd⟩ := H.ld1
  refine Ok.eq ?_ (by simp -implicitDefEqProofs only [eql_int, h1, decide_false, Option.bind_some, condE_false, nilV_ptr, faP_ptr, Nat.zero_add, hd, lnL_sl]; rfl)
  refine ok_lp (scan1_ok H ht hs0 hu0 hw0 hc) ?_
  rintro e vs g ⟨H1, s1, hx⟩
  have hl1 := scan1_len c l.un.length 0 l
  generalize PAl.scan1 c l.un.length 0 l = x1 at *
  obtain ⟨r1, l1⟩ := x1
  simp only at H1 s1 hl1
  cases r1 with
  | some a =>
    obtain ⟨rfl, v, rest, hv⟩ := hx
    simp only at hv
    subst hv
    exact ok_val (v := .tup [.int .i64 a.1, .int .i64 a.2]) (g := g) rfl ⟨rfl, H1, s1⟩
  | none =>
    obtain ⟨rfl, rest, hv⟩ := hx
    simp only at hv
    subst hv
    have ht1 := ht.same s1 (by simp; omega)
    refine Ok.eq ?_ (by simp -implicitDefEqProofs only [if_true, thenK_normal, gd0, gd1]; rfl)
    refine ok_lp (scan2_ok H1 ht1 hs0 hu0 hw0 c) ?_
    rintro e vs g2 ⟨H2, s2, hx⟩
    have hl2 := scan2_len c (l1.un.length - 1) 1 l1
    unfold PAl.more
    simp only
    generalize PAl.scan2 c (l1.un.length - 1) 1 l1 = x2 at *
    obtain ⟨r2, l2⟩ := x2
    simp only at H2 s2 hl2
    cases r2 with
    | some a =>
      obtain ⟨rfl, v, rest, hv⟩ := hx
      simp only at hv
      subst hv
      exact ok_val (v := .tup [.int .i64 a.1, .int .i64 a.2]) (g := g2) rfl ⟨rfl, H2, s1.trans s2⟩
    | none =>
      obtain ⟨rfl, rest, hv⟩ := hx
      simp only at hv
      subst hv
      have ht2 := ht1.same s2 (by simp; omega)
      obtain ⟨d2, hd2⟩ := H2.ld1
      refine Ok.eq ?_ (by simp -implicitDefEqProofs only [if_true, thenK_normal, gd0, gd1, nilV_ptr, Option.bind_some, faP_ptr, Nat.zero_add, hd2, lnL_sl]; rfl)
      refine ok_lp (scan3_ok H2 ht2 hs0 hu0 hw0 c d2) ?_
      rintro e vs g3 ⟨H3, s3, hx⟩
      unfold PAl.more2
      simp only
      generalize PAl.scan3 c l2.un.length 0 l2 = x3 at *
      obtain ⟨r3, l3⟩ := x3
      simp only at H3 s3
      cases r3 with
      | some a =>
        obtain ⟨rfl, v, rest, hv⟩ := hx
        simp only at hv
        subst hv
        exact ok_val (v := .tup [.int .i64 a.1, .int .i64 a.2]) (g := g3) rfl ⟨rfl, H3, (s1.trans s2).trans s3⟩
      | none =>
        obtain ⟨rfl, rest, hv⟩ := hx
        simp only at hv
        subst hv
        exact ok_val (v := .tup [.int .i64 0, .int .i64 5]) (g := g3) (by simp -implicitDefEqProofs only [if_true, thenK_normal]) ⟨rfl, H3, (s1.trans s2).trans s3⟩
end
end Go.Ab.F
