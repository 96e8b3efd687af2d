import Derived.Test.YtfenhliknhmihaaDoorB2
namespace Go.Ab.F
open Go Go.Ab
set_option linter.all false
attribute [local congr] c_bind c_cl c_mk c_lp c_clC c_gQ c_gV c_condE c_thenK

/-! ### New -/
theorem rep_false (n : Nat) : rep [AV.bool false] n = unC (List.replicate n false) := by rw [rep_one]; simp [unC]
theorem anew_ok {h : Heap} {p w s : Nat} {a : PAr} (H : ArAt h p w s a) :
    Ok (k_alloc_New (.ptr (some (p, 0))) h) fun r => r.1 = .ptr (some (h.next + 1, 0)) ∧ AlAt r.2 (h.next + 1) h.next p w s ⟨a, List.replicate a.sp.length false⟩ ∧ Same [] h r.2 ∧ r.2.next = h.next + 2 := by
  have m := msP_ok 1 1 [AV.bool false] a.sp.length (by have := H.hi; omega) (by decide) rfl
  rw [rep_false] at m
  have hb : bldS [(0, 1), (1, 1)] [AV.ptr none, AV.sl none 0 (.ex 0)] [(0, .ptr (some (p, 0))), (1, .sl (some (h.next, 0)) a.sp.length (.ex a.sp.length))] = some (.agg [.ptr (some (p, 0)), .sl (some (h.next, 0)) a.sp.length (.ex a.sp.length)]) := rfl
  have hx : bxP (.agg [.ptr (some (p, 0)), .sl (some (h.next, 0)) a.sp.length (.ex a.sp.length)]) = some (.cells true [.ptr (some (p, 0)), .sl (some (h.next, 0)) a.sp.length (.ex a.sp.length)], fun i => .ptr (some (i, 0))) := rfl
  have s2 : Same [] h ((h.new (.cells true (unC (List.replicate a.sp.length false)))).new (.cells true [.ptr (some (p, 0)), .sl (some (h.next, 0)) a.sp.length (.ex a.sp.length)])) := (Same.new _ _).trans (Same.new _ _)
  have lp := H.lp
  have lw := H.lw
  have ls := H.ls
  refine ok_val (g := (h.new (.cells true (unC (List.replicate a.sp.length false)))).new (.cells true [.ptr (some (p, 0)), .sl (some (h.next, 0)) a.sp.length (.ex a.sp.length)])) (v := .ptr (some (h.next + 1, 0))) (by
    simp -implicitDefEqProofs only [k_alloc_New, spans_eq H, cl_some, m, mk_some, hb, hx, Option.bind_some, Heap.next_new]) ⟨rfl, ?_, s2, rfl⟩
  exact
  { hq := ⟨.ex a.sp.length, by
      have := get_new_eq (h := h.new (.cells true (unC (List.replicate a.sp.length false)))) (b := .cells true [.ptr (some (p, 0)), .sl (some (h.next, 0)) a.sp.length (.ex a.sp.length)])
      rw [Heap.next_new] at this; rw [this]; simp⟩
    hu := by rw [get_new_ne (by rw [Heap.next_new]; omega), get_new_eq]
    ar := H.same s2 (by simp) (by simp) (by simp)
    qu := by omega
    qp := by omega
    qw := by omega
    qs := by omega
    up := by omega
    uw := by omega
    us := by omega
    lq := by show h.next + 1 < h.next + 1 + 1; omega
    lu := by show h.next < h.next + 1 + 1; omega
    len := by simp }

/-! ### The document's own -/
theorem rnew_ok {h : Heap} (N : Nat) (hN : N ≤ 2 ^ 20) :
    Ok (k_ref4_NewArena (.int .i64 N) h) fun r => r.1 = .ptr (some (h.next, 0)) ∧ Same [] h r.2 ∧ h.next < r.2.next ∧ ∃ b v, r.2.get h.next = some (.cells true [v, .sl none 0 (.ex 0)]) ∧ SlB r.2 b 1 v (wsC (List.replicate N (-1))) N ∧ ∀ j, b = some j → h.next < j := by
  have hb : bldS [(0, 1), (1, 1)] [AV.sl none 0 (.ex 0), AV.sl none 0 (.ex 0)] [] = some (.agg [AV.sl none 0 (.ex 0), AV.sl none 0 (.ex 0)]) := rfl
  have hx : bxP (.agg [AV.sl none 0 (.ex 0), AV.sl none 0 (.ex 0)]) = some (.cells true [AV.sl none 0 (.ex 0), AV.sl none 0 (.ex 0)], fun i => .ptr (some (i, 0))) := rfl
  refine Ok.eq ?_ (by simp -implicitDefEqProofs only [k_ref4_NewArena, hb, Option.bind_some, hx, mk_some]; rfl)
  generalize hr : h.next = r0
  have g0 : (h.new (.cells true [AV.sl none 0 (.ex 0), AV.sl none 0 (.ex 0)])).get r0 = some (.cells true [AV.sl none 0 (.ex 0), AV.sl none 0 (.ex 0)]) := by rw [← hr]; exact get_new_eq
  have n0 : (h.new (.cells true [AV.sl none 0 (.ex 0), AV.sl none 0 (.ex 0)])).next = r0 + 1 := by rw [← hr]; rfl
  have s0 : Same [] h (h.new (.cells true [AV.sl none 0 (.ex 0), AV.sl none 0 (.ex 0)])) := Same.new _ _
  generalize h.new (.cells true [AV.sl none 0 (.ex 0), AV.sl none 0 (.ex 0)]) = h1 at *
  have lp0 : Ok (k_ref4_NewArena_L0 (.int .i64 N) (.ptr (some (r0, 0))) (.int .i64 0) h1) fun r => r.1 = .exit 0 ∧ Same [] h r.2.2 ∧ r0 < r.2.2.next ∧ ∃ b v, r.2.2.get r0 = some (.cells true [v, .sl none 0 (.ex 0)]) ∧ SlB r.2.2 b 1 v (wsC (List.replicate N (-1))) N ∧ ∀ j, b = some j → r0 < j := by
    refine ok_loop (fun m vs g => ∃ (i : Nat) (b : Option Nat) (v : AV), vs = [.int .i64 i] ∧ m + i = N ∧ Same [] h g ∧ r0 < g.next ∧ g.get r0 = some (.cells true [v, .sl none 0 (.ex 0)]) ∧ SlB g b 1 v (wsC (List.replicate i (-1))) i ∧ ∀ j, b = some j → r0 < j) ?_ (n := N) (by omega)
      ⟨0, none, _, rfl, rfl, s0, by omega, g0, SlB.mt, fun j hj => by cases hj⟩
    rintro m vs g ⟨i, b, v, rfl, hm, hs, hrn, hg, hv, hb⟩
    rw [gd0]
    by_cases hi : i < N
    · have hlt : (i : Int) < N := by omega
      have hld : ldS g (.ptr (some (r0, 0))) = some v := by rw [ldS_at hg]; rfl
      refine Ok.eq ?_ (by simp -implicitDefEqProofs only [k_ref4_NewArena_b0, bin_lss, hlt, decide_true, Option.bind_some, condE_true, nilV_ptr, faP_ptr, Nat.zero_add, hld]; rfl)
      refine app1 hv rfl rfl rfl (by decide) (by omega) fun v' g' hv' hs' hn' => ?_
      have hg' : g'.get r0 = some (.cells true [v, .sl none 0 (.ex 0)]) := by
        rw [hs'.get r0 hrn (by
          cases b with
          | none => simp
          | some x => have := hb x rfl; simp; omega)]; exact hg
      have hsc : scalar v' = true := by rw [hv'.eq]; rfl
      have hst : stP 1 g' (.ptr (some (r0, 0))) v' = some (.bot, g'.put r0 (some (.cells true [v', .sl none 0 (.ex 0)]))) := stP_one hg' (by simp) hsc
      refine (Ok.of (r := (.normal, [.int .i64 ((i + 1 : Nat) : Int)], g'.put r0 (some (.cells true [v', .sl none 0 (.ex 0)])))) ?_).eq (by
        simp -implicitDefEqProofs only [nilV_ptr, Option.bind_some, faP_ptr, Nat.zero_add, hst, cl_some, bin_add, suc64 i (by omega)])
      left
      have e : wsC (List.replicate i (-1)) ++ (AV.int .i64 (-1)).cells = wsC (List.replicate (i + 1) (-1)) := by rw [List.replicate_succ']; simp [wsC, AV.cells]
      rw [e] at hv'
      refine ⟨rfl, m - 1, by omega, i + 1, _, v', rfl, by omega, ?_, by show r0 < g'.next; omega, get_put_eq, hv'.same (Same.put _ _ _) (fun j hj => by cases hj; simp; omega), fun j hj => by cases hj; omega⟩
      refine (hs.old hs' fun j hj => ?_).old (Same.put _ _ _) (by simp; omega)
      cases b with
      | none => simp at hj
      | some x => have := hb x rfl; simp at hj; right; omega
    · have hlt : ¬ (i : Int) < N := by omega
      obtain rfl : i = N := by omega
      refine (Ok.of (r := (.exit 0, [.int .i64 (i : Int)], g)) ?_).eq (by simp -implicitDefEqProofs only [k_ref4_NewArena_b0, bin_lss, hlt, decide_false, Option.bind_some, condE_false])
      exact .inr ⟨by simp, rfl, hs, hrn, b, v, hg, hv, hb⟩
  refine ok_lp lp0 ?_
  rintro _ vs g ⟨rfl, h1, h2, h3⟩
  exact ok_val (v := .ptr (some (r0, 0))) (g := g) (by simp -implicitDefEqProofs only [if_true, thenK_normal]) ⟨rfl, h1, h2, h3⟩
theorem rnewl_ok {h : Heap} {r0 N : Nat} {b : Option Nat} {v : AV} (hN : N ≤ 2 ^ 20) (hg : h.get r0 = some (.cells true [v, .sl none 0 (.ex 0)])) (hv : SlB h b 1 v (wsC (List.replicate N (-1))) N) :
    Ok (k_ref4_NewAlloc (.ptr (some (r0, 0))) h) fun r => (∃ x, r.1 = .ptr (some (x, 0))) ∧ Same [] h r.2 := by
  have hld : ldS h (.ptr (some (r0, 0))) = some v := by rw [ldS_at hg]; rfl
  have m := msP_ok 1 1 [AV.bool false] N (by omega) (by decide) rfl
  have hb : bldS [(0, 1), (1, 1)] [AV.ptr none, AV.sl none 0 (.ex 0)] [(0, .ptr (some (r0, 0))), (1, .sl (some (h.next, 0)) N (.ex N))] = some (.agg [.ptr (some (r0, 0)), .sl (some (h.next, 0)) N (.ex N)]) := rfl
  have hx : bxP (.agg [.ptr (some (r0, 0)), .sl (some (h.next, 0)) N (.ex N)]) = some (.cells true [.ptr (some (r0, 0)), .sl (some (h.next, 0)) N (.ex N)], fun i => .ptr (some (i, 0))) := rfl
  exact ok_val (by simp -implicitDefEqProofs only [k_ref4_NewAlloc, nilV_ptr, Option.bind_some, faP_ptr, Nat.zero_add, hld, hv.lnL, m, mk_some, hb, hx]; rfl) ⟨⟨_, rfl⟩, (Same.new _ _).trans (Same.new _ _)⟩
theorem made_ok {h : Heap} (N : Nat) (h1 : 8 ≤ N) (h2 : N ≤ 512) :
    Ok (k_law5_made (.int .i64 N) h) fun r => ∃ q u p w s x, r.1 = .tup [.ptr (some (q, 0)), .ptr (some (p, 0)), .ptr (some (x, 0))] ∧ AlAt r.2 q u p w s ⟨newA N, List.replicate N false⟩ ∧ Same [] h r.2 ∧ h.next ≤ q ∧ h.next ≤ u ∧ h.next ≤ p ∧ h.next ≤ w ∧ h.next ≤ s := by
  refine Ok.eq ?_ (by unfold k_law5_made; rfl)
  refine ok_cl (new_ok N h1 h2) ?_
  rintro _ g1 ⟨rfl, H, s1, n1⟩
  simp only at H s1 n1
  refine Ok.eq ?_ (by simp -implicitDefEqProofs only [extractV_tup, List.getElem?_cons_zero, List.getElem?_cons_succ, Option.bind_some, neq_int, decide_true, Bool.not_true, gdW_ff, gQ_true, cl_some, eql_ptr_nil, pickP_bool, Bool.false_eq_true, if_false, condE_false]; rfl)
  refine ok_cl (anew_ok H) ?_
  rintro _ g2 ⟨rfl, H2, s2, n2⟩
  simp only at H2 s2 n2
  have hl : (newA N).sp.length = N := by show (List.replicate N _).length = N; rw [List.length_replicate]
  rw [hl] at H2
  refine ok_cl (rnew_ok N (by omega)) ?_
  rintro _ g3 ⟨rfl, s3, n3, b, v, hg, hv, hb⟩
  simp only at s3 n3 hg hv
  refine ok_cl (rnewl_ok (by omega) hg hv) ?_
  rintro _ g4 ⟨⟨x, rfl⟩, s4⟩
  simp only at s4
  refine ok_val rfl ⟨_, _, _, _, _, x, rfl, (H2.same s3 (by simp) (by simp) (by simp) (by simp) (by simp)).same s4 (by simp) (by simp) (by simp) (by simp) (by simp), ((s1.trans s2).trans s3).trans s4, by omega, by omega, by omega, by omega, by omega⟩

/-! ### Stale, Left, SweepOne -/
def PAl.stale (l : PAl) : PAl := ⟨l.ar, (List.range l.un.length).map fun i : Nat => decide (¬ l.ar.cls i = -1)⟩
section
variable {q u p w s : Nat}
theorem stale_ok {g : Heap} {l : PAl} (H : AlAt g q u p w s l) : Ok (k_alloc_Alloc_Stale (.ptr (some (q, 0))) g) fun r => r.1 = .tup [] ∧ AlAt r.2 q u p w s l.stale ∧ Same [u] g r.2 := by
  have hN : l.un.length ≤ 512 := by rw [H.len]; exact H.ar.hi
  obtain ⟨d, hd⟩ := H.ld1
  have lp0 : Ok (k_alloc_Alloc_Stale_L0 (.ptr (some (q, 0))) (.int .i64 l.un.length) (.int .i64 0) g) fun r => r.1 = .exit 0 ∧ AlAt r.2.2 q u p w s l.stale ∧ Same [u] g r.2.2 := by
    refine ok_loop (fun m vs g' => ∃ (i : Nat) (un : List Bool), vs = [.int .i64 i] ∧ m + i = l.un.length ∧ un.length = l.un.length ∧ (∀ j : Nat, j < i → un[j]? = some (decide (¬ l.ar.cls j = -1))) ∧ AlAt g' q u p w s ⟨l.ar, un⟩ ∧ Same [u] g g') ?_ (n := l.un.length) (by omega)
      ⟨0, l.un, rfl, rfl, rfl, fun j hj => by omega, H, Same.refl _ _⟩
    rintro m vs g' ⟨i, un, rfl, hm, hl, hu, H, hs⟩
    rw [gd0]
    by_cases hi : i < l.un.length
    · have hlt : (i : Int) < l.un.length := by omega
      obtain ⟨d, hd⟩ := H.ld1
      simp only [hl] at hd
      have hix := ixU H (n := i) (by show i < un.length; omega) d
      simp only [hl] at hix
      have hst := H.stu (n := i) (by show i < un.length; omega) (decide (¬ l.ar.cls i = -1))
      have H2 := H.setU i (decide (¬ l.ar.cls i = -1))
      have e : (!decide (l.ar.cls i = -1)) = decide (¬ l.ar.cls i = -1) := by simp
      refine (Ok.of (r := (.normal, [.int .i64 ((i + 1 : Nat) : Int)], g'.put u (some (.cells true (unC (un.set i (decide (¬ l.ar.cls i = -1)))))))) ?_).eq (by
        simp -implicitDefEqProofs only [k_alloc_Alloc_Stale_b0, bin_lss, hlt, decide_true, Option.bind_some, condE_true, nilV_ptr, faP_ptr, Nat.zero_add, rdC, hd, clC_some, H.ld0, class_eq H.ar, cl_some, neq_int, e, hix, hst, bin_add, suc64 i (by omega)]
        exact chk_two (same_sl _ _ _) hd hd)
      refine .inl ⟨rfl, m - 1, by omega, i + 1, _, rfl, by omega, by simpa using hl, fun j hj => ?_, H2, hs.trans (Same.put _ _ _)⟩
      by_cases ej : j = i
      · subst ej; rw [List.getElem?_set_self (by show j < un.length; omega)]
      · rw [List.getElem?_set_ne (fun e => ej e.symm)]; exact hu j (by omega)
    · have hlt : ¬ (i : Int) < l.un.length := by omega
      obtain rfl : i = l.un.length := by omega
      refine (Ok.of (r := (.exit 0, [.int .i64 (l.un.length : Int)], g')) ?_).eq (by simp -implicitDefEqProofs only [k_alloc_Alloc_Stale_b0, bin_lss, hlt, decide_false, Option.bind_some, condE_false])
      have e : un = l.stale.un := by
        apply List.ext_getElem?
        intro j
        by_cases hj : j < l.un.length
        · rw [hu j hj]; simp [PAl.stale, hj]
        · rw [List.getElem?_eq_none (by omega), List.getElem?_eq_none (by simp [PAl.stale]; omega)]
      rw [e] at H
      exact .inr ⟨by simp, rfl, H, hs⟩
  refine Ok.eq ?_ (by simp -implicitDefEqProofs only [k_alloc_Alloc_Stale, nilV_ptr, Option.bind_some, faP_ptr, Nat.zero_add, hd, lnL_sl]; rfl)
  refine ok_lp lp0 ?_
  rintro _ vs g2 ⟨rfl, h1, h2⟩
  exact ok_val (v := .tup []) (g := g2) rfl ⟨rfl, h1, h2⟩
def PAl.left (l : PAl) : Nat := cnt (fun i => (l.un[i]?).getD false) l.un.length
theorem left_eq {g : Heap} {l : PAl} (H : AlAt g q u p w s l) : Ok (k_alloc_Alloc_Left (.ptr (some (q, 0))) g) fun r => r = (.int .i64 l.left, g) := by
  have hN : l.un.length ≤ 512 := by rw [H.len]; exact H.ar.hi
  obtain ⟨d, hd⟩ := H.ld1
  have lp0 : Ok (k_alloc_Alloc_Left_L0 (.sl (some (u, 0)) l.un.length d) (.int .i64 l.un.length) (.int .i64 0) (.int .i64 0) g) fun r => r = (.exit 0, [.int .i64 l.left, .int .i64 l.un.length], g) := by
    refine ok_loop (fun m vs g' => ∃ (i : Nat), vs = [.int .i64 (cnt (fun i => (l.un[i]?).getD false) i), .int .i64 i] ∧ m + i = l.un.length ∧ g = g') ?_ (n := l.un.length) (by omega) ⟨0, rfl, rfl, rfl⟩
    rintro m vs _ ⟨i, rfl, hm, rfl⟩
    rw [gd0, gd1]
    have hc := cnt_le (fun i => (l.un[i]?).getD false) i
    by_cases hi : i < l.un.length
    · have hlt : (i : Int) < l.un.length := by omega
      have hu := H.ldu hi
      have e : cnt (fun i => (l.un[i]?).getD false) (i + 1) = cnt (fun i => (l.un[i]?).getD false) i + ((l.un[i]?).getD false).toNat := rfl
      refine (Ok.of (r := (.normal, [.int .i64 ((cnt (fun i => (l.un[i]?).getD false) (i + 1) : Nat) : Int), .int .i64 ((i + 1 : Nat) : Int)], g)) ?_).eq ?_
      · exact .inl ⟨rfl, m - 1, by omega, i + 1, rfl, by omega, rfl⟩
      · rcases bool_cases ((l.un[i]?).getD false) with hb | hb
        · rw [hb] at hu e
          simp -implicitDefEqProofs only [k_alloc_Alloc_Left_b0, bin_lss, hlt, decide_true, Option.bind_some, condE_true, ixU H hi, hu, bin_add, suc64 _ (show cnt (fun i => (l.un[i]?).getD false) i < 2 ^ 62 by omega), suc64 i (by omega), e]
          rfl
        · rw [hb] at hu e
          simp -implicitDefEqProofs only [k_alloc_Alloc_Left_b0, bin_lss, hlt, decide_true, Option.bind_some, condE_true, condE_false, ixU H hi, hu, bin_add, suc64 i (by omega), e]
          rfl
    · have hlt : ¬ (i : Int) < l.un.length := by omega
      obtain rfl : i = l.un.length := by omega
      refine (Ok.of (r := (.exit 0, [.int .i64 l.left, .int .i64 (l.un.length : Int)], g)) ?_).eq (by simp -implicitDefEqProofs only [k_alloc_Alloc_Left_b0, bin_lss, hlt, decide_false, Option.bind_some, condE_false]; rfl)
      exact .inr ⟨by simp, rfl⟩
  refine Ok.eq ?_ (by simp -implicitDefEqProofs only [k_alloc_Alloc_Left, nilV_ptr, Option.bind_some, faP_ptr, Nat.zero_add, hd, lnL_sl]; rfl)
  refine ok_lp lp0 ?_
  rintro _ _ _ he
  cases he
  exact ok_val (v := .int .i64 l.left) (g := g) (by simp -implicitDefEqProofs only [if_true, thenK_normal, gd0]) rfl
/-- The least one that is not swept yet. -/
def PAl.one (l : PAl) : Nat → Nat → Option Nat
  | 0, _ => none
  | k + 1, n => if (l.un[n]?).getD false = true then some n else PAl.one l k (n + 1)
def PAl.sweepOne (l : PAl) : Bool × PAl := match l.one l.un.length 0 with | some n => (true, l.sweepU n) | none => (false, l)
theorem sweepOne_ok {g : Heap} {l : PAl} (H : AlAt g q u p w s l) : Ok (k_alloc_Alloc_SweepOne (.ptr (some (q, 0))) g) fun r => r.1 = .bool l.sweepOne.1 ∧ AlAt r.2 q u p w s l.sweepOne.2 ∧ Same [u, s] g r.2 := by
  have hN : l.un.length ≤ 512 := by rw [H.len]; exact H.ar.hi
  obtain ⟨d, hd⟩ := H.ld1
  have lp0 : Ok (k_alloc_Alloc_SweepOne_L0 (.ptr (some (q, 0))) (.sl (some (u, 0)) l.un.length d) (.int .i64 l.un.length) (.bool false) (.int .i64 0) g) fun r => AlAt r.2.2 q u p w s l.sweepOne.2 ∧ Same [u, s] g r.2.2 ∧ (r.1 = .exit 0 ∧ l.sweepOne.1 = false ∨ r.1 = .ret ∧ l.sweepOne.1 = true ∧ r.2.1.getD 0 .bot = .bool true) := by
    refine ok_loop (fun m vs g' => ∃ (n : Nat), vs = [.bool false, .int .i64 n] ∧ m + n = l.un.length ∧ g = g' ∧ l.one l.un.length 0 = l.one m n) ?_ (n := l.un.length) (by omega) ⟨0, rfl, rfl, rfl, rfl⟩
    rintro m vs _ ⟨n, rfl, hm, rfl, he⟩
    rw [gd0, gd1]
    by_cases hi : n < l.un.length
    · have hlt : (n : Int) < l.un.length := by omega
      obtain ⟨k, rfl⟩ : ∃ k, m = k + 1 := ⟨m - 1, by omega⟩
      have hu := H.ldu hi
      rcases bool_cases ((l.un[n]?).getD false) with hb | hb
      · rw [hb] at hu
        refine Ok.eq ?_ (by simp -implicitDefEqProofs only [k_alloc_Alloc_SweepOne_b0, bin_lss, hlt, decide_true, Option.bind_some, condE_true, ixU H hi, hu]; rfl)
        refine ok_cl (asweep_ok H hi) ?_
        rintro _ g2 ⟨-, H2, s2⟩
        simp only at H2 s2
        have e : l.sweepOne = (true, l.sweepU n) := by unfold PAl.sweepOne; rw [he, PAl.one, if_pos hb]
        refine Ok.of (r := (Ex.ret, [AV.bool true, AV.int .i64 (n : Int)], g2)) ?_
        exact .inr ⟨by simp, by rw [e]; exact H2, s2, .inr ⟨rfl, by rw [e], rfl⟩⟩
      · rw [hb] at hu
        refine (Ok.of (r := (.normal, [.bool false, .int .i64 ((n + 1 : Nat) : Int)], g)) ?_).eq (by simp -implicitDefEqProofs only [k_alloc_Alloc_SweepOne_b0, bin_lss, hlt, decide_true, Option.bind_some, condE_true, condE_false, ixU H hi, hu, bin_add, suc64 n (by omega)])
        exact .inl ⟨rfl, k, by omega, n + 1, rfl, by omega, rfl, by rw [he, PAl.one, if_neg (by rw [hb]; decide)]⟩
    · have hlt : ¬ (n : Int) < l.un.length := by omega
      obtain rfl : m = 0 := by omega
      have e : l.sweepOne = (false, l) := by unfold PAl.sweepOne; rw [he]; rfl
      refine (Ok.of (r := (.exit 0, [.bool false, .int .i64 (n : Int)], g)) ?_).eq (by simp -implicitDefEqProofs only [k_alloc_Alloc_SweepOne_b0, bin_lss, hlt, decide_false, Option.bind_some, condE_false])
      exact .inr ⟨by simp, by rw [e]; exact H, Same.refl _ _, .inl ⟨rfl, by rw [e]⟩⟩
  refine Ok.eq ?_ (by simp -implicitDefEqProofs only [k_alloc_Alloc_SweepOne, nilV_ptr, Option.bind_some, faP_ptr, Nat.zero_add, hd, lnL_sl]; rfl)
  refine ok_lp lp0 ?_
  rintro e vs g2 ⟨h1, h2, (⟨rfl, h3⟩ | ⟨rfl, h3, h4⟩)⟩
  · exact ok_val (v := .bool false) (g := g2) rfl ⟨by rw [h3], h1, h2⟩
  · exact ok_val (v := .bool true) (g := g2) (by show some (vs.getD 0 .bot, g2) = _; simp only at h4; rw [h4]) ⟨by rw [h3], h1, h2⟩
end

/-! ### The document's numbers -/
theorem rclass_ok (n : Int) (h : Heap) : Ok (k_ref1_Class (.int .i64 n) h) fun r => r.1 = .int .i64 (classOf n) ∧ Same [] h r.2 := by
  have lp0 : Ok (k_ref1_Class_L0 (.int .i64 n) (.int .i64 0) (.int .i64 0) h) fun r => Same [] h r.2.2 ∧ ((r.1 = .exit 0 ∧ classOf n = -1) ∨ (r.1 = .ret ∧ r.2.1.getD 0 .bot = .int .i64 (classOf n))) := by
    refine ok_loop (fun m vs g => ∃ (i : Nat), vs = [.int .i64 0, .int .i64 i] ∧ m + i = 6 ∧ Same [] h g ∧ ∀ j : Nat, j < i → ¬ (1 ≤ n ∧ n ≤ wordsOf j)) ?_ (n := 6) (by omega) ⟨0, rfl, rfl, Same.refl _ _, fun j hj => by omega⟩
    rintro m vs g ⟨i, rfl, hm, hs, hno⟩
    rw [gd0, gd1]
    by_cases hi : i < 6
    · have hlt : (i : Int) < 6 := by omega
      by_cases h1 : 1 ≤ n
      · refine Ok.eq ?_ (by simp -implicitDefEqProofs only [k_ref1_Class_b0, bin_lss, hlt, decide_true, Option.bind_some, bin_geq, h1, gdW_tt, gQ_true, cl_some, pickP_bool, if_true, condE_true]; rfl)
        refine ok_cl (rwords_ok i g) ?_
        rintro _ g2 ⟨rfl, s2⟩
        simp only at s2
        by_cases h2 : n ≤ wordsOf i
        · refine (Ok.of (r := (.ret, [.int .i64 i, .int .i64 i], g2)) ?_).eq (by simp -implicitDefEqProofs only [bin_geq, h2, decide_true, Option.bind_some, condE_true])
          exact .inr ⟨by simp, hs.trans s2, .inr ⟨rfl, by rw [classOf_step n i hi hno ⟨h1, h2⟩]; rfl⟩⟩
        · refine (Ok.of (r := (.normal, [.int .i64 0, .int .i64 ((i + 1 : Nat) : Int)], g2)) ?_).eq (by simp -implicitDefEqProofs only [bin_geq, h2, decide_false, Option.bind_some, condE_false, bin_add, suc64 i (by omega)])
          refine .inl ⟨rfl, m - 1, by omega, i + 1, rfl, by omega, hs.trans s2, fun j hj hh => ?_⟩
          by_cases e : j = i
          · subst e; exact h2 hh.2
          · exact hno j (by omega) hh
      · refine (Ok.of (r := (.exit 0, [.int .i64 0, .int .i64 (i : Int)], g)) ?_).eq (by
          simp -implicitDefEqProofs only [k_ref1_Class_b0, bin_lss, hlt, decide_true, decide_false, Option.bind_some, bin_geq, h1, gdW_tt, gQ_true, cl_some, pickP_bool, if_true, condE_false])
        exact .inr ⟨by simp, hs, .inl ⟨rfl, classOf_none n fun j _ hh => h1 hh.1⟩⟩
    · have hlt : ¬ (i : Int) < 6 := by omega
      refine (Ok.of (r := (.exit 0, [.int .i64 0, .int .i64 (i : Int)], g)) ?_).eq (by
        simp -implicitDefEqProofs only [k_ref1_Class_b0, bin_lss, hlt, decide_false, Option.bind_some, gdW_ft, gQ_false, pickP_bool, Bool.false_eq_true, if_false, condE_false])
      have : i = 6 := by omega
      subst this
      exact .inr ⟨by simp, hs, .inl ⟨rfl, classOf_none n hno⟩⟩
  refine Ok.eq ?_ (by unfold k_ref1_Class; rfl)
  refine ok_lp lp0 ?_
  rintro e vs g ⟨hs, (⟨rfl, hc⟩ | ⟨rfl, hv⟩)⟩
  · exact ok_val (v := .int .i64 (-1)) (g := g) rfl ⟨by rw [hc], hs⟩
  · simp only at hv
    exact ok_val (v := .int .i64 (classOf n)) (g := g) (by show some (vs.getD 0 .bot, g) = _; rw [hv]) ⟨rfl, hs⟩
theorem rbit_eq (b : BitVec 64) (i : Nat) (hi : i < 64) (h : Heap) : k_ref1_Bit (.int .u64 b.toNat) (.int .i64 i) h = some (.bool (b.getLsbD i), h) := by
  have h0 : (0 : Int) ≤ i := by omega
  have h1 : (i : Int) < 64 := by omega
  have hw : IntKind.u64.wrap (i : Int) = i := wrap_u64 (by omega) (by omega)
  simp -implicitDefEqProofs only [k_ref1_Bit, bin_geq, h0, decide_true, Option.bind_some, gdW_tt, gQ_true, bin_lss, h1, cl_some, pickP_bool, if_true, cvI_int, hw, shr_is, and_u64, ofInt_toNat, eql_int, bit_is1]
theorem rones_ok (b : BitVec 64) (h : Heap) : Ok (k_ref1_Ones (.int .u64 b.toNat) h) fun r => r = (.int .i64 (ones b), h) := by
  have lp0 : Ok (k_ref1_Ones_L0 (.int .u64 b.toNat) (.int .i64 0) (.int .i64 0) h) fun r => r = (.exit 0, [.int .i64 (ones b), .int .i64 64], h) := by
    refine ok_loop (fun m vs g => ∃ (i : Nat), vs = [.int .i64 (cnt b.getLsbD i), .int .i64 i] ∧ m + i = 64 ∧ h = g) ?_ (n := 64) (by omega) ⟨0, rfl, rfl, rfl⟩
    rintro m vs _ ⟨i, rfl, hm, rfl⟩
    rw [gd0, gd1]
    have hc := cnt_le b.getLsbD i
    by_cases hi : i < 64
    · have hlt : (i : Int) < 64 := by omega
      have e : cnt b.getLsbD (i + 1) = cnt b.getLsbD i + (b.getLsbD i).toNat := rfl
      refine (Ok.of (r := (.normal, [.int .i64 ((cnt b.getLsbD (i + 1) : Nat) : Int), .int .i64 ((i + 1 : Nat) : Int)], h)) ?_).eq ?_
      · exact .inl ⟨rfl, m - 1, by omega, i + 1, rfl, by omega, rfl⟩
      · have hbit := rbit_eq b i hi h
        rcases bool_cases (b.getLsbD i) with hb | hb
        · rw [hb] at hbit e
          simp -implicitDefEqProofs only [k_ref1_Ones_b0, bin_lss, hlt, decide_true, Option.bind_some, condE_true, hbit, cl_some, bin_add, suc64 _ (show cnt b.getLsbD i < 2 ^ 62 by omega), suc64 i (by omega), e]
          rfl
        · rw [hb] at hbit e
          simp -implicitDefEqProofs only [k_ref1_Ones_b0, bin_lss, hlt, decide_true, Option.bind_some, condE_true, condE_false, hbit, cl_some, bin_add, suc64 i (by omega), e]
          rfl
    · have hlt : ¬ (i : Int) < 64 := by omega
      obtain rfl : i = 64 := by omega
      refine (Ok.of (r := (.exit 0, [.int .i64 (ones b), .int .i64 64], h)) ?_).eq (by simp -implicitDefEqProofs only [k_ref1_Ones_b0, bin_lss, hlt, decide_false, Option.bind_some, condE_false]; rfl)
      exact .inr ⟨by simp, rfl⟩
  refine Ok.eq ?_ (by unfold k_ref1_Ones; rfl)
  refine ok_lp lp0 ?_
  rintro _ _ _ he
  cases he
  exact ok_val (v := .int .i64 (ones b)) (g := h) (by simp -implicitDefEqProofs only [if_true, thenK_normal, gd0]) rfl
theorem rplaces_ok (c : Int) (h : Heap) : Ok (k_ref1_Places (.int .i64 c) h) fun r => r.1 = .int .i64 (placesOf c) ∧ Same [] h r.2 := by
  rcases cls_cases c with hc | ⟨_, h2, h3⟩
  · have h1 : ¬ c < 0 := by omega
    have h2 : ¬ 5 < c := by omega
    refine Ok.eq ?_ (by simp -implicitDefEqProofs only [k_ref1_Places, bin_lss, h1, decide_false, Option.bind_some, gdW_ff, gQ_true, bin_gtr, h2, cl_some, pickP_bool, Bool.false_eq_true, if_false, condE_false]; rfl)
    refine ok_cl (rwords_ok c h) ?_
    rintro _ g ⟨rfl, s⟩
    refine ok_val (v := .int .i64 (placesOf c)) (g := g) ?_ ⟨rfl, s⟩
    rcases hc with rfl | rfl | rfl | rfl | rfl | rfl <;> rfl
  · by_cases h1 : c < 0
    · exact ok_val (v := .int .i64 0) (g := h) (by simp -implicitDefEqProofs [k_ref1_Places, h1]) ⟨by rw [h2], Same.refl _ _⟩
    · have h4 : 5 < c := by omega
      exact ok_val (v := .int .i64 0) (g := h) (by simp -implicitDefEqProofs [k_ref1_Places, h1, h4]) ⟨by rw [h2], Same.refl _ _⟩
end Go.Ab.F
