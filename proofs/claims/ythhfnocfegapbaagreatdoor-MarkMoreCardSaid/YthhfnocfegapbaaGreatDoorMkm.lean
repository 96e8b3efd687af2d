import Derived.Test.YthhfnocfegapbaaGreatDoorMka

namespace Go.Ab.F
open Go Go.Ab
set_option linter.all false
set_option linter.all false
attribute [local congr] c_bind c_cl c_mk c_lp c_clC c_gQ c_gV c_condE c_thenK

/-! MarkMore: its loops. -/
structure Rt7 (g0 g : Heap) (C : Nat → Nat) (l : PAl) (qb : Option Nat) (X0 : List Nat) (r : List Int) (v : AV) (br : Option Nat) : Prop where
  M : Mm g C l sh7 qb [] (br.toList ++ X0)
  sl : SlB g br 1 v (wsC r) r.length
  k : KpX X0 g0 g
  x0 : 0 ∈ X0
section
variable {g0 : Heap} {C : Nat → Nat} {l : PAl} {X0 : List Nat} {at_ rs : List Int} {x1 va : AV}
theorem more_loop0 {qb : Option Nat} {br0 : Option Nat} {v0 : AV} {r0 : List Int} (W0 : Rt7 g0 g0 C l qb X0 r0 v0 br0) (hr : Ird g0 X0 x1 rs) (ha : Ird g0 X0 va at_) (hn : rs.length ≤ 10) (hr0 : r0.length ≤ 20) (hb0 : ∀ j, br0 = some j → j ∉ X0 ∧ j ≠ 0) :
    Ok (k_law7_MarkMore_L0 x1 va v0 (.int .i64 0) g0) fun r => r.1 = .exit 0 ∧ ∃ br, Rt7 g0 r.2.2 C l qb X0 (r0 ++ rootsOf at_ rs) (r.2.1.getD 0 .bot) br ∧ (∀ j, br = some j → j ∉ X0 ∧ j ≠ 0) := by
  have hX0 : ∀ j ∈ X0, j < g0.next := fun j hj => W0.M.xl j (List.mem_append_right _ hj)
  refine ok_loop (fun m vs g => ∃ (i : Nat) (v : AV) (br : Option Nat), vs = [v, .int .i64 i] ∧ m + i = rs.length ∧ Rt7 g0 g C l qb X0 (r0 ++ rootsOf at_ (rs.take i)) v br ∧ (∀ j, br = some j → j ∉ X0 ∧ j ≠ 0)) ?_ (n := rs.length) (by omega)
    ⟨0, _, br0, rfl, by omega, by simpa [rootsOf] using W0, hb0⟩
  rintro m vs g ⟨i, v, br, rfl, hm, W, hbr⟩
  rw [gd0, gd1]
  by_cases hi : i < rs.length
  · have hlt : (i : Int) < rs.length := by omega
    obtain ⟨y, hy⟩ : ∃ y, rs[i]? = some y := ⟨_, List.getElem?_eq_getElem hi⟩
    obtain ⟨p, ix, ld⟩ := hr.2 i y hy
    have ld0 := ld g W.k
    have sci := suc64 i (by omega)
    have ets := rootsOf_snoc at_ (rs.take i) y
    rw [← take_suc hy] at ets
    have skip : ¬ (0 ≤ y ∧ y < at_.length) → Rt7 g0 g C l qb X0 (r0 ++ rootsOf at_ (rs.take (i + 1))) v br := fun h => by
      rw [ets, if_neg h, List.append_nil]; exact W
    by_cases hy0 : 0 ≤ y
    · by_cases hya : y < at_.length
      · obtain ⟨x, hx⟩ : ∃ x, at_[y.toNat]? = some x := ⟨_, List.getElem?_eq_getElem (by omega)⟩
        obtain ⟨pa, ixa, lda⟩ := ha.2 _ x hx
        have ey : ((y.toNat : Nat) : Int) = y := by omega
        rw [ey] at ixa
        have lda0 := lda g W.k
        have rl : (r0 ++ rootsOf at_ (rs.take i)).length ≤ 40 := by
          have := rootsOf_len at_ (rs.take i)
          rw [List.length_append]
          rw [List.length_take] at this; omega
        refine Ok.eq ?_ (by simp -implicitDefEqProofs only [k_law7_MarkMore_b0, hr.1, Option.bind_some, bin_lss, hlt, decide_true, condE_true, ix, ld0, bin_geq, hy0, gdW_tt, gQ_true, cl_some, ha.1, hya, pickP_bool, if_true, ixa, lda0] <;> rfl)
        refine app1 (t := .int .i64 x) W.sl rfl rfl rfl (by decide) (by omega) fun v' g1 hv1 s1 n1 => ?_
        have hgn := W.k.next
        have fr1 : ∀ j ∈ br.toList, j ∉ X0 := fun j hj hx => by
          exact (hbr j (by simpa using hj)).1 hx
        have k1 : KpX X0 g g1 := KpX.of s1 fr1
        have M1 : Mm g1 C l sh7 qb [] ((g.next + 1) :: X0) := W.M.frame s1 (fun j hj => ⟨fun hm => (W.M.own hm).1 (List.mem_append_left _ hj), (hbr j (by simpa using hj)).2⟩) (fun j hj => by
          rw [List.mem_cons] at hj
          rcases hj with rfl | hj
          · exact ⟨fun hm => by have := (W.M.own hm).2.2; omega, by omega⟩
          · exact ⟨fun hm => (W.M.own hm).1 (List.mem_append_right _ hj), Nat.lt_of_lt_of_le (W.M.xl j (List.mem_append_right _ hj)) s1.next⟩) (List.mem_cons_of_mem _ W0.x0)
        refine (Ok.of (r := (.normal, [v', .int .i64 ((i + 1 : Nat) : Int)], g1)) (.inl ⟨rfl, m - 1, by omega, i + 1, v', some (g.next + 1), rfl, by omega, ?_, fun j hj => by
          cases hj
          exact ⟨fun hx => by have := hX0 _ hx; omega, by omega⟩⟩)).eq (by
          simp -implicitDefEqProofs only [k_law7_MarkMore_j0, bin_add, Option.bind_some, sci])
        have ets' : r0 ++ rootsOf at_ (rs.take (i + 1)) = (r0 ++ rootsOf at_ (rs.take i)) ++ [x] := by rw [ets, if_pos ⟨hy0, hya⟩, hx, List.append_assoc]; rfl
        rw [ets']
        exact
        { M := M1
          sl := by
            rw [wsC_app, List.length_append]
            exact hv1
          k := W.k.trans k1
          x0 := W0.x0 }
      · exact (Ok.of (r := (.normal, [v, .int .i64 ((i + 1 : Nat) : Int)], g)) (.inl ⟨rfl, m - 1, by omega, i + 1, v, br, rfl, by omega, skip (fun h => hya h.2), hbr⟩)).eq (by
          simp -implicitDefEqProofs only [k_law7_MarkMore_b0, hr.1, Option.bind_some, bin_lss, hlt, decide_true, condE_true, ix, ld0, bin_geq, hy0, gdW_tt, gQ_true, cl_some, ha.1, hya, decide_false, pickP_bool, if_true, condE_false, k_law7_MarkMore_j0, bin_add, sci])
    · exact (Ok.of (r := (.normal, [v, .int .i64 ((i + 1 : Nat) : Int)], g)) (.inl ⟨rfl, m - 1, by omega, i + 1, v, br, rfl, by omega, skip (fun h => hy0 h.1), hbr⟩)).eq (by
        simp -implicitDefEqProofs only [k_law7_MarkMore_b0, hr.1, Option.bind_some, bin_lss, hlt, decide_true, condE_true, ix, ld0, bin_geq, hy0, decide_false, gdW_ft, gQ_false, pickP_bool, Bool.false_eq_true, if_false, condE_false, k_law7_MarkMore_j0, bin_add, sci])
  · have hlt : ¬ (i : Int) < rs.length := by omega
    obtain rfl : i = rs.length := by omega
    rw [List.take_length] at W
    exact (Ok.of (r := (.exit 0, [v, .int .i64 (rs.length : Int)], g)) (.inr ⟨by simp, rfl, br, W, hbr⟩)).eq (by
      simp -implicitDefEqProofs only [k_law7_MarkMore_b0, hr.1, Option.bind_some, bin_lss, hlt, decide_false, condE_false])
theorem more_loop1 {qb : Option Nat} {br0 : Option Nat} {v0 : AV} {r0 : List Int} (W0 : Rt7 g0 g0 C l qb X0 r0 v0 br0) (hr : Ird g0 X0 x1 rs) (ha : Ird g0 X0 va at_) (hn : rs.length ≤ 10) (hr0 : r0.length ≤ 20) (hb0 : ∀ j, br0 = some j → j ∉ X0 ∧ j ≠ 0) :
    Ok (k_law7_MarkMore_L1 x1 va v0 (.int .i64 0) g0) fun r => r.1 = .exit 2 ∧ ∃ br, Rt7 g0 r.2.2 C l qb X0 (r0 ++ rootsOf at_ rs) (r.2.1.getD 0 .bot) br ∧ (∀ j, br = some j → j ∉ X0 ∧ j ≠ 0) := by
  have hX0 : ∀ j ∈ X0, j < g0.next := fun j hj => W0.M.xl j (List.mem_append_right _ hj)
  refine ok_loop (fun m vs g => ∃ (i : Nat) (v : AV) (br : Option Nat), vs = [v, .int .i64 i] ∧ m + i = rs.length ∧ Rt7 g0 g C l qb X0 (r0 ++ rootsOf at_ (rs.take i)) v br ∧ (∀ j, br = some j → j ∉ X0 ∧ j ≠ 0)) ?_ (n := rs.length) (by omega)
    ⟨0, _, br0, rfl, by omega, by simpa [rootsOf] using W0, hb0⟩
  rintro m vs g ⟨i, v, br, rfl, hm, W, hbr⟩
  rw [gd0, gd1]
  by_cases hi : i < rs.length
  · have hlt : (i : Int) < rs.length := by omega
    obtain ⟨y, hy⟩ : ∃ y, rs[i]? = some y := ⟨_, List.getElem?_eq_getElem hi⟩
    obtain ⟨p, ix, ld⟩ := hr.2 i y hy
    have ld0 := ld g W.k
    have sci := suc64 i (by omega)
    have ets := rootsOf_snoc at_ (rs.take i) y
    rw [← take_suc hy] at ets
    have skip : ¬ (0 ≤ y ∧ y < at_.length) → Rt7 g0 g C l qb X0 (r0 ++ rootsOf at_ (rs.take (i + 1))) v br := fun h => by
      rw [ets, if_neg h, List.append_nil]; exact W
    by_cases hy0 : 0 ≤ y
    · by_cases hya : y < at_.length
      · obtain ⟨x, hx⟩ : ∃ x, at_[y.toNat]? = some x := ⟨_, List.getElem?_eq_getElem (by omega)⟩
        obtain ⟨pa, ixa, lda⟩ := ha.2 _ x hx
        have ey : ((y.toNat : Nat) : Int) = y := by omega
        rw [ey] at ixa
        have lda0 := lda g W.k
        have rl : (r0 ++ rootsOf at_ (rs.take i)).length ≤ 40 := by
          have := rootsOf_len at_ (rs.take i)
          rw [List.length_append]
          rw [List.length_take] at this; omega
        refine Ok.eq ?_ (by simp -implicitDefEqProofs only [k_law7_MarkMore_b1, hr.1, Option.bind_some, bin_lss, hlt, decide_true, condE_true, ix, ld0, bin_geq, hy0, gdW_tt, gQ_true, cl_some, ha.1, hya, pickP_bool, if_true, ixa, lda0] <;> rfl)
        refine app1 (t := .int .i64 x) W.sl rfl rfl rfl (by decide) (by omega) fun v' g1 hv1 s1 n1 => ?_
        have hgn := W.k.next
        have fr1 : ∀ j ∈ br.toList, j ∉ X0 := fun j hj hx => by
          exact (hbr j (by simpa using hj)).1 hx
        have k1 : KpX X0 g g1 := KpX.of s1 fr1
        have M1 : Mm g1 C l sh7 qb [] ((g.next + 1) :: X0) := W.M.frame s1 (fun j hj => ⟨fun hm => (W.M.own hm).1 (List.mem_append_left _ hj), (hbr j (by simpa using hj)).2⟩) (fun j hj => by
          rw [List.mem_cons] at hj
          rcases hj with rfl | hj
          · exact ⟨fun hm => by have := (W.M.own hm).2.2; omega, by omega⟩
          · exact ⟨fun hm => (W.M.own hm).1 (List.mem_append_right _ hj), Nat.lt_of_lt_of_le (W.M.xl j (List.mem_append_right _ hj)) s1.next⟩) (List.mem_cons_of_mem _ W0.x0)
        refine (Ok.of (r := (.normal, [v', .int .i64 ((i + 1 : Nat) : Int)], g1)) (.inl ⟨rfl, m - 1, by omega, i + 1, v', some (g.next + 1), rfl, by omega, ?_, fun j hj => by
          cases hj
          exact ⟨fun hx => by have := hX0 _ hx; omega, by omega⟩⟩)).eq (by
          simp -implicitDefEqProofs only [k_law7_MarkMore_j1, bin_add, Option.bind_some, sci])
        have ets' : r0 ++ rootsOf at_ (rs.take (i + 1)) = (r0 ++ rootsOf at_ (rs.take i)) ++ [x] := by rw [ets, if_pos ⟨hy0, hya⟩, hx, List.append_assoc]; rfl
        rw [ets']
        exact
        { M := M1
          sl := by
            rw [wsC_app, List.length_append]
            exact hv1
          k := W.k.trans k1
          x0 := W0.x0 }
      · exact (Ok.of (r := (.normal, [v, .int .i64 ((i + 1 : Nat) : Int)], g)) (.inl ⟨rfl, m - 1, by omega, i + 1, v, br, rfl, by omega, skip (fun h => hya h.2), hbr⟩)).eq (by
          simp -implicitDefEqProofs only [k_law7_MarkMore_b1, hr.1, Option.bind_some, bin_lss, hlt, decide_true, condE_true, ix, ld0, bin_geq, hy0, gdW_tt, gQ_true, cl_some, ha.1, hya, decide_false, pickP_bool, if_true, condE_false, k_law7_MarkMore_j1, bin_add, sci])
    · exact (Ok.of (r := (.normal, [v, .int .i64 ((i + 1 : Nat) : Int)], g)) (.inl ⟨rfl, m - 1, by omega, i + 1, v, br, rfl, by omega, skip (fun h => hy0 h.1), hbr⟩)).eq (by
        simp -implicitDefEqProofs only [k_law7_MarkMore_b1, hr.1, Option.bind_some, bin_lss, hlt, decide_true, condE_true, ix, ld0, bin_geq, hy0, decide_false, gdW_ft, gQ_false, pickP_bool, Bool.false_eq_true, if_false, condE_false, k_law7_MarkMore_j1, bin_add, sci])
  · have hlt : ¬ (i : Int) < rs.length := by omega
    obtain rfl : i = rs.length := by omega
    rw [List.take_length] at W
    exact (Ok.of (r := (.exit 2, [v, .int .i64 (rs.length : Int)], g)) (.inr ⟨by simp, rfl, br, W, hbr⟩)).eq (by
      simp -implicitDefEqProofs only [k_law7_MarkMore_b1, hr.1, Option.bind_some, bin_lss, hlt, decide_false, condE_false])

/-- What is passed over. -/
theorem more_loop2 {vX vY : AV} {X Y : List Int} (hX : Ird g0 X0 vX X) (hY : Ird g0 X0 vY Y) {i k : Nat} {x : Int} (hx : X[i]? = some x) (hk : k ≤ Y.length) (hlo : ∀ (j : Nat) y, j < k → Y[j]? = some y → y < x) (hYl : Y.length ≤ 32768) :
    Ok (k_law7_MarkMore_L2 vX vY (.int .i64 (i : Int)) (.int .i64 (k : Int)) g0) fun r => r.1 = .exit 6 ∧ r.2.2 = g0 ∧ ∃ k' : Nat, r.2.1.getD 0 .bot = .int .i64 (k' : Int) ∧ k' ≤ Y.length ∧ (∀ (j : Nat) y, j < k' → Y[j]? = some y → y < x) ∧ (∀ y, Y[k']? = some y → ¬ y < x) := by
  refine ok_loop (fun m vs g => ∃ k : Nat, vs = [.int .i64 (k : Int)] ∧ m + k = Y.length ∧ g = g0 ∧ (∀ (j : Nat) y, j < k → Y[j]? = some y → y < x)) ?_ (n := Y.length - k) (by omega) ⟨k, rfl, by omega, rfl, hlo⟩
  rintro m vs g ⟨k, rfl, hm, hgg, hlo⟩
  subst hgg
  show Ok (k_law7_MarkMore_b2 _ _ _ (.int .i64 (k : Int)) g) _
  by_cases hi : k < Y.length
  · have hlt : (k : Int) < Y.length := by omega
    obtain ⟨y, hy⟩ : ∃ y, Y[k]? = some y := ⟨_, List.getElem?_eq_getElem hi⟩
    obtain ⟨p, ix, ld⟩ := hX.2 i x hx
    obtain ⟨p', ix', ld'⟩ := hY.2 k y hy
    by_cases h : y < x
    · exact (Ok.of (r := (.normal, [.int .i64 ((k + 1 : Nat) : Int)], g)) (.inl ⟨rfl, m - 1, by omega, k + 1, rfl, by omega, rfl, fun j z hj hz => by
        by_cases e : j = k
        · subst e; rw [hy] at hz; cases hz; exact h
        · exact hlo j z (by omega) hz⟩)).eq (by
        simp -implicitDefEqProofs only [k_law7_MarkMore_b2, hY.1, Option.bind_some, bin_lss, hlt, decide_true, gdW_tt, gV_true, ix, ix', ld g (KpX.refl _ _), ld' g (KpX.refl _ _), h, pickP_bool, if_true, chk_nil, condE_true, bin_add, suc64 k (by omega)])
    · exact (Ok.of (r := (.exit 6, [.int .i64 (k : Int)], g)) (.inr ⟨by simp, rfl, rfl, k, rfl, by omega, hlo, fun z hz => by rw [hy] at hz; cases hz; exact h⟩)).eq (by
        simp -implicitDefEqProofs only [k_law7_MarkMore_b2, hY.1, Option.bind_some, bin_lss, hlt, decide_true, gdW_tt, gV_true, ix, ix', ld g (KpX.refl _ _), ld' g (KpX.refl _ _), h, decide_false, pickP_bool, if_true, chk_nil, condE_false])
  · have hlt : ¬ (k : Int) < Y.length := by omega
    exact (Ok.of (r := (.exit 6, [.int .i64 (k : Int)], g)) (.inr ⟨by simp, rfl, rfl, k, rfl, by omega, hlo, fun z hz => by have := (List.getElem?_eq_some_iff.1 hz).1; omega⟩)).eq (by
      simp -implicitDefEqProofs only [k_law7_MarkMore_b2, hY.1, Option.bind_some, bin_lss, hlt, decide_false, gdW_ft, gV_false, pickP_bool, Bool.false_eq_true, if_false, chk_nil, condE_false])
theorem sub_at {Y : List Int} (so : Y.Pairwise (· < ·)) {x : Int} (hx : x ∈ Y) {k : Nat} (h1 : ∀ (j : Nat) y, j < k → Y[j]? = some y → y < x) (h2 : ∀ y, Y[k]? = some y → ¬ y < x) (hk : k ≤ Y.length) : Y[k]? = some x := by
  obtain ⟨p, hp, e⟩ := List.getElem_of_mem hx
  have hpx : Y[p]? = some x := by rw [List.getElem?_eq_getElem hp, e]
  have hkp : k ≤ p := by
    apply Classical.byContradiction
    intro h
    have := h1 p x (by omega) hpx
    omega
  by_cases e2 : k = p
  · rw [e2]; exact hpx
  · exfalso
    have hlt := List.pairwise_iff_getElem.1 so k p (by omega) hp (by omega)
    rw [e] at hlt
    exact h2 _ (List.getElem?_eq_getElem (by omega)) hlt
theorem more_loop3 {vX vY : AV} {X Y : List Int} (hX : Ird g0 X0 vX X) (hY : Ird g0 X0 vY Y) {vA : AV} (hA : Ird g0 X0 vA X) (soX : X.Pairwise (· < ·)) (soY : Y.Pairwise (· < ·)) (sub : ∀ x ∈ X, x ∈ Y) (hXl : X.length ≤ 32768) (hYl : Y.length ≤ 32768) (y6 : AV) :
    Ok (k_law7_MarkMore_L3 vX vA vY y6 (.int .i64 0) (.int .i64 0) g0) fun r => r.1 = .exit 4 ∧ r.2.2 = g0 := by
  refine ok_loop (fun m vs g => ∃ (i k : Nat), vs = [y6, .int .i64 (k : Int), .int .i64 (i : Int)] ∧ m + i = X.length ∧ g = g0 ∧ k ≤ Y.length ∧ (∀ (j : Nat) y x, j < k → Y[j]? = some y → X[i]? = some x → y < x)) ?_ (n := X.length) (by omega) ⟨0, 0, rfl, by omega, rfl, by omega, fun j y x h => by omega⟩
  rintro m vs g ⟨i, k, rfl, hm, hgg, hk, hlo⟩
  subst hgg
  rw [gd0, gd1, gd2]
  by_cases hi : i < X.length
  · have hlt : (i : Int) < X.length := by omega
    obtain ⟨x, hx⟩ : ∃ x, X[i]? = some x := ⟨_, List.getElem?_eq_getElem hi⟩
    refine Ok.eq ?_ (by simp -implicitDefEqProofs only [k_law7_MarkMore_b3, hX.1, Option.bind_some, bin_lss, hlt, decide_true, condE_true] <;> rfl)
    refine ok_lp (more_loop2 hX hY hx hk (fun j y hj hy => hlo j y x hj hy hx) hYl) ?_
    rintro _ vs2 g2 ⟨rfl, rfl, k', hv, hk', h1, h2⟩
    simp only at hv
    have hy := sub_at soY (sub x (List.mem_of_getElem? hx)) h1 h2 hk'
    have hkl := (List.getElem?_eq_some_iff.1 hy).1
    obtain ⟨p, ix, ld⟩ := hX.2 i x hx
    obtain ⟨pa, ixa, lda⟩ := hA.2 i x hx
    obtain ⟨py, ixy, ldy⟩ := hY.2 k' x hy
    have hne : decide ((k' : Int) = (Y.length : Int)) = false := decide_eq_false (by omega)
    exact (Ok.of (r := (.normal, [y6, .int .i64 (k' : Int), .int .i64 ((i + 1 : Nat) : Int)], g2)) (.inl ⟨rfl, m - 1, by omega, i + 1, k', rfl, by omega, rfl, hk', fun j y z hj hy hz => by
      have h3 := h1 j y hj hy
      have h4 := List.pairwise_iff_getElem.1 soX i (i + 1) (by omega) (List.getElem?_eq_some_iff.1 hz).1 (by omega)
      rw [(List.getElem?_eq_some_iff.1 hx).2, (List.getElem?_eq_some_iff.1 hz).2] at h4
      omega⟩)).eq (by
      simp -implicitDefEqProofs only [if_true, thenK_normal, ixa, lda g2 (KpX.refl _ _), Option.bind_some, ix, ld g2 (KpX.refl _ _), neq_int, decide_true, Bool.not_true, gdW_ff, gV_true, hv, hY.1, eql_int, hne, pickP_bool, Bool.false_eq_true, if_false, ixy, ldy g2 (KpX.refl _ _), chk_nil, condE_false, bin_add, suc64 i (by omega)])
  · have hlt : ¬ (i : Int) < X.length := by omega
    exact (Ok.of (r := (.exit 4, [y6, .int .i64 (k : Int), .int .i64 (i : Int)], g)) (.inr ⟨by simp, rfl, rfl⟩)).eq (by
      simp -implicitDefEqProofs only [k_law7_MarkMore_b3, hX.1, Option.bind_some, bin_lss, hlt, decide_false, condE_false])
theorem more_loop4 {vr vY : AV} {r Y : List Int} (hr : Ird g0 X0 vr r) (hY : Ird g0 X0 vY Y) {vs0 : List AV} (hvs : vs0.getD 0 .bot = vr) {i : Nat} {x : Int} (hx : r[i]? = some x) (hYl : Y.length ≤ 32768) :
    Ok (k_law7_MarkMore_L4 vs0 vY (.int .i64 (i : Int)) (.bool false) (.int .i64 0) g0) fun s => s.1 = .exit 10 ∧ s.2.2 = g0 ∧ s.2.1.getD 0 .bot = .bool (decide (x ∈ Y)) := by
  refine ok_loop (fun m vs g => ∃ n : Nat, vs = [.bool (decide (x ∈ Y.take n)), .int .i64 (n : Int)] ∧ m + n = Y.length ∧ g = g0) ?_ (n := Y.length) (by omega) ⟨0, by simp, by omega, rfl⟩
  rintro m vs g ⟨n, rfl, hm, hgg⟩
  subst hgg
  rw [gd0, gd1]
  by_cases hn : n < Y.length
  · have hlt : (n : Int) < Y.length := by omega
    obtain ⟨y, hy⟩ : ∃ y, Y[n]? = some y := ⟨_, List.getElem?_eq_getElem hn⟩
    obtain ⟨p, ix, ld⟩ := hr.2 i x hx
    obtain ⟨p', ix', ld'⟩ := hY.2 n y hy
    have es := take_suc hy
    by_cases hm0 : x ∈ Y.take n
    · have h1 : x ∈ Y.take (n + 1) := by rw [es]; exact List.mem_append_left _ hm0
      exact (Ok.of (r := (.normal, [.bool (decide (x ∈ Y.take (n + 1))), .int .i64 ((n + 1 : Nat) : Int)], g)) (.inl ⟨rfl, m - 1, by omega, n + 1, rfl, by omega, rfl⟩)).eq (by
        simp -implicitDefEqProofs only [k_law7_MarkMore_b4, hY.1, Option.bind_some, bin_lss, hlt, decide_true, condE_true, hm0, gdW_tf, gV_false, pickP_bool, if_true, chk_nil, bin_add, suc64 n (by omega), h1])
    · by_cases e : y = x
      · have h1 : x ∈ Y.take (n + 1) := by rw [es, e]; simp
        exact (Ok.of (r := (.normal, [.bool (decide (x ∈ Y.take (n + 1))), .int .i64 ((n + 1 : Nat) : Int)], g)) (.inl ⟨rfl, m - 1, by omega, n + 1, rfl, by omega, rfl⟩)).eq (by
          simp -implicitDefEqProofs only [k_law7_MarkMore_b4, hY.1, Option.bind_some, bin_lss, hlt, decide_true, decide_false, condE_true, hm0, gdW_ff, gV_true, ix', ld' g (KpX.refl _ _), hvs, ix, ld g (KpX.refl _ _), eql_int, e, pickP_bool, Bool.false_eq_true, if_false, chk_nil, bin_add, suc64 n (by omega), h1])
      · have h1 : ¬ x ∈ Y.take (n + 1) := by
          rw [es, List.mem_append, List.mem_singleton]
          exact fun h => h.elim hm0 (fun h => e h.symm)
        exact (Ok.of (r := (.normal, [.bool (decide (x ∈ Y.take (n + 1))), .int .i64 ((n + 1 : Nat) : Int)], g)) (.inl ⟨rfl, m - 1, by omega, n + 1, rfl, by omega, rfl⟩)).eq (by
          simp -implicitDefEqProofs only [k_law7_MarkMore_b4, hY.1, Option.bind_some, bin_lss, hlt, decide_true, decide_false, condE_true, hm0, gdW_ff, gV_true, ix', ld' g (KpX.refl _ _), hvs, ix, ld g (KpX.refl _ _), eql_int, e, pickP_bool, Bool.false_eq_true, if_false, chk_nil, bin_add, suc64 n (by omega), h1])
  · have hlt : ¬ (n : Int) < Y.length := by omega
    obtain rfl : n = Y.length := by omega
    exact (Ok.of (r := (.exit 10, [.bool (decide (x ∈ Y.take Y.length)), .int .i64 (Y.length : Int)], g)) (.inr ⟨by simp, rfl, rfl, by rw [List.take_length]; rfl⟩)).eq (by
      simp -implicitDefEqProofs only [k_law7_MarkMore_b4, hY.1, Option.bind_some, bin_lss, hlt, decide_false, condE_false])
theorem more_loop5 {vr vY : AV} {r Y : List Int} {qb : Option Nat} {gq : List Int} {XM : List Nat} (M : Mm g0 C l sh7 qb gq XM) (hr : Ird g0 X0 vr r) (hY : Ird g0 X0 vY Y) {vs0 : List AV} (hvs : vs0.getD 0 .bot = vr) (hmem : ∀ x ∈ r, l.ar.is x = decide (x ∈ Y)) (hrl : r.length ≤ 1000) (hYl : Y.length ≤ 32768) (y6 : AV) :
    Ok (k_law7_MarkMore_L5 (.ptr (some (C 6, 0))) vs0 vY y6 (.int .i64 0) g0) fun s => s.1 = .exit 8 ∧ s.2.2 = g0 := by
  refine ok_loop (fun m vs g => ∃ i : Nat, vs = [y6, .int .i64 (i : Int)] ∧ m + i = r.length ∧ g = g0) ?_ (n := r.length) (by omega) ⟨0, rfl, by omega, rfl⟩
  rintro m vs g ⟨i, rfl, hm, hgg⟩
  subst hgg
  rw [gd0, gd1]
  by_cases hi : i < r.length
  · have hlt : (i : Int) < r.length := by omega
    obtain ⟨x, hx⟩ : ∃ x, r[i]? = some x := ⟨_, List.getElem?_eq_getElem hi⟩
    obtain ⟨p, ix, ld⟩ := hr.2 i x hx
    refine Ok.eq ?_ (by simp -implicitDefEqProofs only [k_law7_MarkMore_b5, hvs, hr.1, Option.bind_some, bin_lss, hlt, decide_true, condE_true] <;> rfl)
    refine ok_lp (more_loop4 hr hY hvs hx hYl) ?_
    rintro _ vs2 g2 ⟨rfl, rfl, hv⟩
    simp only at hv
    have hb := hmem x (List.mem_of_getElem? hx)
    have hbb : (l.ar.is x == decide (x ∈ Y)) = true := by rw [hb]; simp
    exact (Ok.of (r := (.normal, [y6, .int .i64 ((i + 1 : Nat) : Int)], g2)) (.inl ⟨rfl, m - 1, by omega, i + 1, rfl, by omega, rfl⟩)).eq (by
      simp -implicitDefEqProofs only [if_true, thenK_normal, ix, ld g2 (KpX.refl _ _), Option.bind_some, is_eq M.al.ar, cl_some, hv, neq_bool, hbb, Bool.not_true, condE_false, bin_add, suc64 i (by omega)])
  · have hlt : ¬ (i : Int) < r.length := by omega
    exact (Ok.of (r := (.exit 8, [y6, .int .i64 (i : Int)], g)) (.inr ⟨by simp, rfl, rfl⟩)).eq (by
      simp -implicitDefEqProofs only [k_law7_MarkMore_b5, hvs, hr.1, Option.bind_some, bin_lss, hlt, decide_false, condE_false])
end
end Go.Ab.F

namespace Go.Ab.F
open Go Go.Ab
set_option linter.all false
set_option linter.all false
attribute [local congr] c_bind c_cl c_mk c_lp c_clC c_gQ c_gV c_condE c_thenK

/-! MarkMore. -/
theorem rch_idem {T : List Shp} {a : PAr} {G R R2 : List Int} (H : RchL T a G R) (H2 : RchL T a R R2) : R2 = R :=
  H2.uniq H fun x => ⟨fun h => rch_mono (fun y hy _ => (H.mem y).1 hy) h, fun h => Rch.root ((H.mem x).2 h) h.found⟩
theorem markMore_true {h : Heap} (hsub : Sub hQ1 h) (hn1 : 1 ≤ h.next) {x0 x1 x2 : AV} {ts : List Th} {asL bsL : List Int} (hts : ThsRd h x0 ts) (has : RdW h 1 x1 (asL.map (AV.int .i64)) asL.length) (hbs : RdW h 1 x2 (bsL.map (AV.int .i64)) bsL.length) :
    Ok (k_law7_MarkMore x0 x1 x2 h) fun r => r.1 = .bool true := by
  have ht := tab0_sub hsub hn1
  have haw : k_law7_awake h = some (.bool true, h) := quiet_pos hsub
  by_cases h30 : 30 < ts.length
  · have h30' : (30 : Int) < ts.length := by omega
    exact ok_val (v := .bool true) (g := h) (by simp -implicitDefEqProofs only [k_law7_MarkMore, haw, cl_some, un_not, Bool.not_true, Option.bind_some, condE_false, hts.lnL, bin_gtr, h30', decide_true, gdW_tf, gQ_false, pickP_bool, if_true, condE_true]) rfl
  have h30' : ¬ (30 : Int) < ts.length := by omega
  by_cases h10 : 10 < asL.length
  · have h10' : (10 : Int) < asL.length := by omega
    exact ok_val (v := .bool true) (g := h) (by simp -implicitDefEqProofs only [k_law7_MarkMore, haw, cl_some, un_not, Bool.not_true, Option.bind_some, condE_false, hts.lnL, has.lnL, bin_gtr, h30', h10', decide_true, decide_false, gdW_ff, gdW_tf, gQ_true, gQ_false, pickP_bool, Bool.false_eq_true, if_false, if_true, condE_true]) rfl
  have h10' : ¬ (10 : Int) < asL.length := by omega
  by_cases h11 : 10 < bsL.length
  · have h11' : (10 : Int) < bsL.length := by omega
    exact ok_val (v := .bool true) (g := h) (by simp -implicitDefEqProofs only [k_law7_MarkMore, haw, cl_some, un_not, Bool.not_true, Option.bind_some, condE_false, hts.lnL, has.lnL, hbs.lnL, bin_gtr, h30', h10', h11', decide_true, decide_false, gdW_ff, gQ_true, pickP_bool, Bool.false_eq_true, if_false, condE_true]) rfl
  have h11' : ¬ (10 : Int) < bsL.length := by omega
  refine Ok.eq ?_ (by simp -implicitDefEqProofs only [k_law7_MarkMore, haw, cl_some, un_not, Bool.not_true, Option.bind_some, condE_false, hts.lnL, has.lnL, hbs.lnL, bin_gtr, h30', h10', h11', decide_false, gdW_ff, gQ_true, pickP_bool, Bool.false_eq_true, if_false] <;> rfl)
  have wk := world_ok ht (N := 10) (by omega) (by omega) hts (by omega)
  refine ok_cl wk ?_
  rintro _ g6 ⟨C, D, va, at_, qb, b, bT, ba, cls, L, l, rfl, W⟩
  simp only at W
  refine Ok.eq ?_ (by simp -implicitDefEqProofs only [extractV_tup, e0, e1, e2, e3, Option.bind_some, eql_ptr_nil, condE_false] <;> rfl)
  have M6 := W.P.pm
  generalize hX : ownR D b bT none L ++ (ba.toList ++ Zr h) = X0 at M6
  have zX : ∀ j ∈ Zr h, j ∈ X0 := fun j hj => by rw [← hX]; exact List.mem_append_right _ (List.mem_append_right _ hj)
  have bX : ∀ j, ba = some j → j ∈ X0 := fun j hj => by rw [← hX]; simp [hj]
  have hr1 : Ird g6 X0 x1 asL := (ird_rdw has (zr_all h)).kp W.k zX
  have hr2 : Ird g6 X0 x2 bsL := (ird_rdw hbs (zr_all h)).kp W.k zX
  have ha : Ird g6 X0 va at_ := ird_slb W.sl bX
  have W0 : Rt7 g6 g6 C l qb X0 [] (.sl none 0 (.ex 0)) none := { M := M6, sl := SlB.mt, k := KpX.refl _ _, x0 := M6.x0 }
  refine ok_lp (more_loop0 W0 hr1 ha (by omega) (by simp) (fun j hj => by cases hj)) ?_
  rintro _ vs7 g7 ⟨rfl, br, V, hbr⟩
  simp only [List.nil_append] at V
  have rl := rootsOf_len at_ asL
  have rl2 := rootsOf_len at_ bsL
  generalize rootsOf at_ asL = G at *
  have M7 := V.M
  refine Ok.eq ?_ (by simp -implicitDefEqProofs only [if_true, thenK_normal] <;> rfl)
  refine ok_cl (reach_ok M7 (Srd.of V.sl) (by omega)) ?_
  rintro vX g8 ⟨R1, RL1, hR1, bx, hvX, s8, hbx⟩
  simp only at hvX s8
  refine ok_cl (reach_ok (M7.keep s8) (Srd.of hvX) (by omega)) ?_
  rintro vA g9 ⟨R2, RL2, hR2, b2, hvA, s9, hb2⟩
  simp only at hvA s9
  have e2 := rch_idem RL1 RL2
  subst e2
  have s79 := s8.trans s9
  have n8 := s8.next
  have M9 : Mm g9 C l sh7 qb [] (br.toList ++ (bx.toList ++ (b2.toList ++ X0))) := M7.frame s79 (fun j hj => by simp at hj) (fun j hj => by
    simp only [List.mem_append, Option.mem_toList] at hj
    rcases hj with hj | hj | hj | hj
    · exact ⟨fun hm => (M7.own hm).1 (by simp [hj]), Nat.lt_of_lt_of_le (M7.xl j (by simp [hj])) s79.next⟩
    · exact ⟨fun hm => by have := (M7.own hm).2.2; have := hbx j hj; omega, Nat.lt_of_lt_of_le (hvX.blk j hj).1 s9.next⟩
    · exact ⟨fun hm => by have := (M7.own hm).2.2; have := hb2 j hj; omega, (hvA.blk j hj).1⟩
    · exact ⟨fun hm => (M7.own hm).1 (by simp [hj]), Nat.lt_of_lt_of_le (M7.xl j (by simp [hj])) s79.next⟩) (by simp [M6.x0])
  have hbr7 : ∀ j, br = some j → j < g7.next := fun j hj => M7.xl j (by simp [hj])
  have k69 : KpX X0 g6 g9 := V.k.trans (KpX.same s79)
  have sX : ∀ j ∈ X0, j ∈ bx.toList ++ (b2.toList ++ X0) := fun j hj => by simp [hj]
  have W9 : Rt7 g9 g9 C l qb (bx.toList ++ (b2.toList ++ X0)) G (vs7.getD 0 .bot) br := { M := M9, sl := V.sl.same s79 (by simp), k := KpX.refl _ _, x0 := by simp [M6.x0] }
  refine ok_lp (more_loop1 W9 (hr2.kp k69 sX) (ha.kp k69 sX) (by omega) (by omega) (fun j hj => ?_)) ?_
  · refine ⟨fun hm => ?_, (hbr j hj).2⟩
    have h7 := hbr7 j hj
    simp only [List.mem_append, Option.mem_toList] at hm
    rcases hm with hm | hm | hm
    · have := hbx j hm; omega
    · have := hb2 j hm; omega
    · exact (hbr j hj).1 hm
  rintro _ vs10 g10 ⟨rfl, br2, V2, hbr2⟩
  simp only at V2
  have rl3 : (G ++ rootsOf at_ bsL).length ≤ 20 := by rw [List.length_append]; omega
  generalize hr3 : G ++ rootsOf at_ bsL = G2 at *
  refine Ok.eq ?_ (by simp -implicitDefEqProofs only [if_true, thenK_normal] <;> rfl)
  refine ok_cl (reach_ok V2.M (Srd.of V2.sl) (by omega)) ?_
  rintro vY g11 ⟨R3, RL3, hR3, b3, hvY, s11, hb3⟩
  simp only at hvY s11
  have kx : KpX (bx.toList ++ (b2.toList ++ X0)) g9 g11 := V2.k.trans (KpX.same s11)
  have hvX11 := (hvX.same s9 (by simp)).same kx.frame (fun j hj => not_out (by simp [hj]))
  have hvA11 := hvA.same kx.frame (fun j hj => not_out (by simp [hj]))
  have hvr11 := V2.sl.same s11 (by simp)
  generalize hXX : bx.toList ++ (b2.toList ++ (b3.toList ++ br2.toList)) = XX
  have iX : Ird g11 XX vX R2 := ird_slb hvX11 (fun j hj => by rw [← hXX]; simp [hj])
  have iA : Ird g11 XX vA R2 := ird_slb hvA11 (fun j hj => by rw [← hXX]; simp [hj])
  have iY : Ird g11 XX vY R3 := ird_slb hvY (fun j hj => by rw [← hXX]; simp [hj])
  have ir : Ird g11 XX (vs10.getD 0 .bot) G2 := ird_slb hvr11 (fun j hj => by rw [← hXX]; simp [hj])
  have sub : ∀ x ∈ R2, x ∈ R3 := fun x hx => by
    rw [RL3.mem]
    exact rch_mono (fun y hy hf => Rch.root (by rw [← hr3]; exact List.mem_append_left _ hy) hf) ((RL1.mem x).1 hx)
  have hmem : ∀ x ∈ G2, l.ar.is x = decide (x ∈ R3) := fun x hx => by
    by_cases hf : l.ar.find x = none
    · have h1 : l.ar.is x = false := by unfold PAr.is; rw [hf]; rfl
      have h2 : ¬ x ∈ R3 := fun h => ((RL3.mem x).1 h).found hf
      rw [h1]; simp [h2]
    · rw [(is_find _ _).2 hf]
      have h2 : x ∈ R3 := (RL3.mem x).2 (Rch.root hx hf)
      simp [h2]
  refine Ok.eq ?_ (by simp -implicitDefEqProofs only [iA.1, iX.1, Option.bind_some, neq_int, decide_true, Bool.not_true, condE_false] <;> rfl)
  refine ok_lp (more_loop3 iX iY iA RL1.so RL3.so sub hR1 hR3 _) ?_
  rintro _ vs12 g12 ⟨rfl, rfl⟩
  refine Ok.eq ?_ (by simp -implicitDefEqProofs only [if_true, thenK_normal] <;> rfl)
  refine ok_lp (more_loop5 (V2.M.keep s11) ir iY rfl hmem (by omega) hR3 _) ?_
  rintro _ vs13 g13 ⟨rfl, rfl⟩
  exact ok_val (v := .bool true) (g := g13) (by simp -implicitDefEqProofs only [if_true, thenK_normal]) rfl
end Go.Ab.F
