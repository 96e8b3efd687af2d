import Derived.Test.YtfenhliknhmihaaDoorL4a
namespace Go.Ab.F
open Go Go.Ab
set_option linter.all false
attribute [local congr] c_bind c_cl c_mk c_lp c_clC c_gQ c_gV c_condE c_thenK

theorem getD0 (a : AV) (l : List AV) : (a :: l).getD 0 .bot = a := rfl
theorem getD1 (a b : AV) (l : List AV) : (a :: b :: l).getD 1 .bot = b := rfl
theorem getD2 (a b c : AV) (l : List AV) : (a :: b :: c :: l).getD 2 .bot = c := rfl
theorem getD3 (a b c d : AV) (l : List AV) : (a :: b :: c :: d :: l).getD 3 .bot = d := rfl
theorem succ_i64 (i : Nat) (h : i < 2 ^ 62) : IntKind.i64.wrap ((i : Int) + 1) = ((i + 1 : Nat) : Int) := by rw [wrap_i64 (by omega) (by omega)]; rfl
section
variable {p w s : Nat} {v : Int}
/-- A place's words are asked for, and written. -/
theorem apart_L0 {g : Heap} {a : PAr} {E : List En} {e : En} {q7 : AV} {b1 : Option Nat} (H : ArAt g p w s a) (hn : Nw a v E e 0) (hq : SlB g b1 1 q7 (wsC (E.map En.ad)) E.length) (hb : ∀ j, b1 = some j → j ≠ w) :
    Ok (k_law4_ArenaApart_L0 (.int .i64 v) (.ptr (some (p, 0))) q7 (.int .i64 e.ad) (.int .i64 (wordsOf e.c)) (.bool false) (.int .i64 0) g) fun r =>
      r.1 = .exit 2 ∧ ∃ a', r.2.1 = [.bool false, .int .i64 (wordsOf e.c)] ∧ Same [w] g r.2.2 ∧ ArAt r.2.2 p w s a' ∧ Ap a' v (E ++ [e]) := by
  obtain ⟨r1, r2, r3, r4, _⟩ := hn.room
  refine ok_loop (fun n vs g' => ∃ (k : Nat) (a : PAr), vs = [.bool false, .int .i64 k] ∧ (n : Int) + k = wordsOf e.c ∧ Same [w] g g' ∧ ArAt g' p w s a ∧ Nw a v E e k) ?_ (n := (wordsOf e.c).toNat) (by omega)
    ⟨0, a, rfl, by omega, Same.refl _ _, H, hn⟩
  rintro n vs g' ⟨k, a, rfl, hk, hs, H, hn⟩
  rw [getD0, getD1]
  by_cases hi : (k : Int) < wordsOf e.c
  · obtain ⟨w1, w2⟩ := hn.write hi
    have hq' := hq.same hs (fun j hj => by have := hb j hj; simpa using this)
    have hw := write_ok H e.ad k (xr E.length v)
    rw [w1] at hw
    refine Ok.eq ?_ (by simp -implicitDefEqProofs only [k_law4_ArenaApart_b0, bin_lss, hi, decide_true, Option.bind_some, condE_true, read_eq H, hn.read hi, cl_some, extractV_tup, List.getElem?_cons_zero, List.getElem?_cons_succ, neq_int, Bool.not_true, gdW_bool, beq_self_eq_true, gQ_true, pickP_bool, Bool.false_eq_true, if_false, hq'.lnL, xor_i64, cl_id]; rfl)
    refine ok_cl hw ?_
    rintro _ g1 ⟨rfl, H1, s1⟩
    refine (Ok.of (r := (.normal, [.bool false, .int .i64 ((k + 1 : Nat) : Int)], g1)) ?_).eq (by
      simp -implicitDefEqProofs only [neq_int, decide_true, Option.bind_some, Bool.not_true, cl_some, gdW_bool, beq_self_eq_true, gQ_true, pickP_bool, Bool.false_eq_true, if_false, condE_false, bin_add, succ_i64 k (by omega)])
    exact .inl ⟨rfl, n - 1, by omega, k + 1, _, rfl, by omega, hs.trans s1, H1, w2⟩
  · refine (Ok.of (r := (.exit 2, [.bool false, .int .i64 (k : Int)], g')) ?_).eq (by
      simp -implicitDefEqProofs only [k_law4_ArenaApart_b0, bin_lss, hi, decide_false, Option.bind_some, condE_false])
    have hk' : (k : Int) = wordsOf e.c := by omega
    exact .inr ⟨by simp, rfl, a, by rw [hk'], hs, H, hn.done (by omega)⟩
/-- The first loop: places are taken. -/
theorem apart_L1 {h g : Heap} {x0 : AV} {l : List Int} {a : PAr} {B : Nat} (hx : RdC h 1 x0 (l.map fun n => .int .i64 n) l.length) (hN : l.length ≤ 100)
    (hp : p < B) (hw : w < B) (hs : s < B) (hp' : h.next ≤ p) (hw' : h.next ≤ w) (hs' : h.next ≤ s) (h0 : 0 < h.next) (hB : B ≤ g.next) (H : ArAt g p w s a) (hA : Ap a v []) (ht : Tab0 g) (hS : Same [] h g) :
    Ok (k_law4_ArenaApart_L1 x0 (.int .i64 v) (.ptr (some (p, 0))) (.bool false) (.sl none 0 (.ex 0)) (.sl none 0 (.ex 0)) (.int .i64 0) g) fun r =>
      r.1 = .exit 0 ∧ ∃ q7 q8 b1 b2 E a', r.2.1 = [.bool false, q7, q8, .int .i64 l.length] ∧ E.length ≤ 100 ∧ SlB r.2.2 b1 1 q7 (wsC (E.map En.ad)) E.length ∧ SlB r.2.2 b2 1 q8 (wsC (E.map fun e => wordsOf e.c)) E.length ∧ ArAt r.2.2 p w s a' ∧ Ap a' v E := by
  refine ok_loop (fun n vs g => ∃ (i : Nat) (q7 q8 : AV) (b1 b2 : Option Nat) (E : List En) (a : PAr), vs = [.bool false, q7, q8, .int .i64 i] ∧ n + i = l.length ∧ E.length ≤ i ∧ SlB g b1 1 q7 (wsC (E.map En.ad)) E.length ∧ SlB g b2 1 q8 (wsC (E.map fun e => wordsOf e.c)) E.length ∧
      (∀ j, b1 = some j → B ≤ j) ∧ (∀ j, b2 = some j → B ≤ j) ∧ (∀ j k, b1 = some j → b2 = some k → j ≠ k) ∧ ArAt g p w s a ∧ Ap a v E ∧ Tab0 g ∧ Same [] h g ∧ B ≤ g.next) ?_ (n := l.length) (by omega)
    ⟨0, _, _, none, none, [], a, rfl, rfl, Nat.le_refl _, SlB.mt, SlB.mt, (fun j hj => by cases hj), (fun j hj => by cases hj), (fun j k hj => by cases hj), H, hA, ht, hS, hB⟩
  rintro n vs g ⟨i, q7, q8, b1, b2, E, a, rfl, hn, hEi, hq7, hq8, hb1, hb2, hb12, H, hA, ht, hS, hB⟩
  rw [getD0, getD1, getD2, getD3]
  by_cases hi : i < l.length
  · have hlt : (i : Int) < l.length := by omega
    obtain ⟨b, hbn, hbg, hix⟩ := hx.ix hi
    have hld : ldS g (.ptr (some (b, i))) = some (.int .i64 l[i]) := by
      rw [ldS_at ((hS.get b hbn (by simp)).trans hbg)]; simp [hi]
    generalize l[i] = x at hld
    obtain ⟨m, hm⟩ := shr_i64 x 3
    have hm : binP .shr (.int .i64 x) (.int .u64 3) = some (.int .i64 m) := hm
    have h8 : IntKind.i64.wrap (1 + x % 8) = 1 + x % 8 := wrap_i64 (by omega) (by omega)
    have hs8 := succ_i64 i (by omega)
    rw [Nat.mul_one] at hix
    by_cases c1 : 7 < 1 + x % 8
    · refine (Ok.of (r := (.normal, [.bool false, q7, q8, .int .i64 ((i + 1 : Nat) : Int)], g)) ?_).eq (by
        simp -implicitDefEqProofs only [k_law4_ArenaApart_b1, hx.lnL, Option.bind_some, bin_lss, hlt, decide_true, condE_true, hix, hld, and7, bin_add, h8, hm, bin_gtr, c1, gdW_tf, gQ_false, pickP_bool, if_true, k_law4_ArenaApart_j0, hs8])
      exact .inl ⟨rfl, n - 1, by omega, i + 1, q7, q8, b1, b2, E, a, rfl, by omega, by omega, hq7, hq8, hb1, hb2, hb12, H, hA, ht, hS, hB⟩
    by_cases c2 : 5 < m % 8
    · refine (Ok.of (r := (.normal, [.bool false, q7, q8, .int .i64 ((i + 1 : Nat) : Int)], g)) ?_).eq (by
        simp -implicitDefEqProofs only [k_law4_ArenaApart_b1, hx.lnL, Option.bind_some, bin_lss, hlt, decide_true, condE_true, hix, hld, and7, bin_add, h8, hm, bin_gtr, c1, c2, decide_false, gdW_bool, beq_self_eq_true, gQ_true, cl_some, pickP_bool, Bool.false_eq_true, if_false, k_law4_ArenaApart_j0, hs8])
      exact .inl ⟨rfl, n - 1, by omega, i + 1, q7, q8, b1, b2, E, a, rfl, by omega, by omega, hq7, hq8, hb1, hb2, hb12, H, hA, ht, hS, hB⟩
    refine Ok.eq ?_ (by simp -implicitDefEqProofs only [k_law4_ArenaApart_b1, hx.lnL, Option.bind_some, bin_lss, hlt, decide_true, condE_true, hix, hld, and7, bin_add, h8, hm, bin_gtr, c1, c2, decide_false, gdW_bool, beq_self_eq_true, gQ_true, cl_some, pickP_bool, Bool.false_eq_true, if_false, condE_false]; rfl)
    generalize hsp : 1 + x % 8 = sp at *
    have hsp1 : 1 ≤ sp ∧ sp ≤ 7 := by omega
    refine ok_cl (set_ok H sp (m % 8)) ?_
    rintro _ g1 ⟨-, H1, s1⟩
    have hA1 := hA.setNo sp (m % 8)
    simp only at H1 s1
    generalize (a.set sp (m % 8)).2 = a1 at H1 hA1
    have ht1 := ht.same s1 (by simp; omega)
    have hS1 : Same [] h g1 := hS.old s1 (by simp; omega)
    have hq71 := hq7.same s1 (fun j hj => by have := hb1 j hj; simp; omega)
    have hq81 := hq8.same s1 (fun j hj => by have := hb2 j hj; simp; omega)
    have hB1 := Nat.le_trans hB s1.next
    have hhas : a1.has sp := ⟨hsp1.1, by rw [hA1.len]; omega⟩
    refine ok_cl (take_ok H1 ht1.tab (by omega) sp) ?_
    rintro _ g2 ⟨rfl, H2, s2⟩
    simp only at H2 s2
    have ht2 := ht1.same s2 (by simp; omega)
    have hS2 : Same [] h g2 := hS1.old s2 (by simp; omega)
    have hq72 := hq71.same s2 (fun j hj => by have := hb1 j hj; simp; omega)
    have hq82 := hq81.same s2 (fun j hj => by have := hb2 j hj; simp; omega)
    have hB2 := Nat.le_trans hB1 s2.next
    by_cases he : (a1.take sp).2.1 = 0
    · obtain ⟨e, hes, had, hnw⟩ := hA1.take hhas he
      obtain ⟨r1, r2, r3, r4, _⟩ := hnw.room
      rw [he, had]
      generalize (a1.take sp).2.2 = a2 at H2 hnw
      have hcl : a2.cls sp = e.c := by rw [cls_at (hes ▸ hnw.has), ← hes, hnw.cls]
      refine Ok.eq ?_ (by simp -implicitDefEqProofs only [extractV_tup, List.getElem?_cons_zero, List.getElem?_cons_succ, Option.bind_some, neq_int, decide_true, Bool.not_true, condE_false, class_eq H2, hcl, cl_some]; rfl)
      refine ok_cl (rwords_ok e.c g2) ?_
      rintro _ g3 ⟨rfl, s3⟩
      simp only at s3
      have H3 := H2.same s3 (by simp) (by simp) (by simp)
      have ht3 := ht2.same s3 (by simp)
      have hS3 : Same [] h g3 := hS2.trans s3
      have hq73 := hq72.same s3 (fun j hj => by simp)
      have hq83 := hq82.same s3 (fun j hj => by simp)
      have hB3 := Nat.le_trans hB2 s3.next
      refine ok_lp (apart_L0 H3 hnw hq73 (fun j hj => by have := hb1 j hj; omega)) ?_
      rintro _ _ g4 ⟨rfl, a4, rfl, s4, H4, hA4⟩
      simp only at s4 H4
      have ht4 := ht3.same s4 (by simp; omega)
      have hS4 : Same [] h g4 := hS3.old s4 (by simp; omega)
      have hq74 := hq73.same s4 (fun j hj => by have := hb1 j hj; simp; omega)
      have hq84 := hq83.same s4 (fun j hj => by have := hb2 j hj; simp; omega)
      have hB4 := Nat.le_trans hB3 s4.next
      refine Ok.eq ?_ (by simp -implicitDefEqProofs only [if_true, thenK_normal, getD0]; rfl)
      have ins : ∀ {b : Option Nat} {x : Nat}, (∀ j, b = some j → B ≤ j) → x < B → x ∉ b.toList := fun {b} {x} hb hx hm => by
        cases b with
        | none => simp at hm
        | some y => have := hb y rfl; simp at hm; omega
      have inh : ∀ {b : Option Nat}, (∀ j, b = some j → B ≤ j) → ∀ j, j ∈ b.toList → j ∈ ([] : List Nat) ∨ h.next ≤ j := fun {b} hb j hm => by
        cases b with
        | none => simp at hm
        | some y => have := hb y rfl; simp at hm; right; omega
      refine app1 hq74 rfl rfl rfl (by decide) (by omega) fun q7' g5 hq75 s5 n5 => ?_
      have hq85 := hq84.same s5 (fun j hj hm => by
        cases b1 with
        | none => simp at hm
        | some y => simp at hm; exact hb12 y j rfl hj hm.symm)
      have H5 := H4.same s5 (ins hb1 hp) (ins hb1 hw) (ins hb1 hs)
      have ht5 := ht4.same s5 (ins hb1 (by omega))
      have hS5 : Same [] h g5 := hS4.old s5 (inh hb1)
      refine app1 hq85 rfl rfl rfl (by decide) (by omega) fun q8' g6 hq86 s6 n6 => ?_
      have hq76 := hq75.same s6 (fun j hj hm => by
        cases b2 with
        | none => simp at hm
        | some y =>
          simp at hm hj
          have := (hq84.blk y rfl).1
          omega)
      have H6 := H5.same s6 (ins hb2 hp) (ins hb2 hw) (ins hb2 hs)
      have ht6 := ht5.same s6 (ins hb2 (by omega))
      have hS6 : Same [] h g6 := hS5.old s6 (inh hb2)
      refine (Ok.of (r := (.normal, [.bool false, q7', q8', .int .i64 ((i + 1 : Nat) : Int)], g6)) ?_).eq (by
        simp -implicitDefEqProofs only [k_law4_ArenaApart_j0, bin_add, hs8, Option.bind_some])
      left
      have e7 : wsC (E.map En.ad) ++ (AV.int .i64 e.ad).cells = wsC ((E ++ [e]).map En.ad) := by simp [wsC, AV.cells]
      have e8 : wsC (E.map fun e => wordsOf e.c) ++ (AV.int .i64 (wordsOf e.c)).cells = wsC ((E ++ [e]).map fun e => wordsOf e.c) := by simp [wsC, AV.cells]
      rw [e7] at hq76
      rw [e8] at hq86
      exact ⟨rfl, n - 1, by omega, i + 1, q7', q8', _, _, E ++ [e], a4, rfl, by omega, by simp; omega, by simpa using hq76, by simpa using hq86, (fun j hj => by cases hj; omega), (fun j hj => by cases hj; omega), (fun j k hj hk => by cases hj; cases hk; omega), H6, hA4, ht6, hS6, by show B ≤ g6.next; omega⟩
    · refine (Ok.of (r := (.normal, [.bool false, q7, q8, .int .i64 ((i + 1 : Nat) : Int)], g2)) ?_).eq (by
        simp -implicitDefEqProofs only [extractV_tup, List.getElem?_cons_zero, List.getElem?_cons_succ, Option.bind_some, neq_int, he, decide_false, Bool.not_false, condE_true, k_law4_ArenaApart_j0, bin_add, hs8])
      left
      have hA2 : Ap (a1.take sp).2.2 v E := by
        have : (a1.take sp).2.2 = a1 := by
          unfold PAr.take at he ⊢
          split
          · rfl
          · rename_i h1
            rw [if_neg h1] at he
            split
            · rfl
            · rename_i h2
              rw [if_neg h2] at he
              exact absurd rfl he
        rw [this]; exact hA1
      exact ⟨rfl, n - 1, by omega, i + 1, q7, q8, b1, b2, E, _, rfl, by omega, by omega, hq72, hq82, hb1, hb2, hb12, H2, hA2, ht2, hS2, hB2⟩
  · have hlt : ¬ (i : Int) < l.length := by omega
    refine (Ok.of (r := (.exit 0, [.bool false, q7, q8, .int .i64 (i : Int)], g)) ?_).eq (by
      simp -implicitDefEqProofs only [k_law4_ArenaApart_b1, hx.lnL, Option.bind_some, bin_lss, hlt, decide_false, condE_false])
    have hi' : i = l.length := by omega
    exact .inr ⟨by simp, rfl, q7, q8, b1, b2, E, a, by rw [hi'], by omega, hq7, hq8, H, hA⟩
/-- All is read again. -/
theorem apart_L2 {g : Heap} {a : PAr} {E : List En} {q7 q8 q0 : AV} {b1 b2 : Option Nat} (rest : List AV) (H : ArAt g p w s a) (hA : Ap a v E) (hq7 : SlB g b1 1 q7 (wsC (E.map En.ad)) E.length) (hq8 : SlB g b2 1 q8 (wsC (E.map fun e => wordsOf e.c)) E.length) {j : Nat} {e : En} (he : E[j]? = some e) :
    Ok (k_law4_ArenaApart_L2 (.int .i64 v) (.ptr (some (p, 0))) (q0 :: q7 :: q8 :: rest) (.int .i64 j) (.bool false) (.int .i64 0) g) fun r => ∃ vs, r = (.exit 6, .bool false :: vs, g) := by
  obtain ⟨r1, r2, r3, r4⟩ := ent_room hA he
  have hw64 : wordsOf e.c ≤ 64 := by omega
  have hj : j < E.length := (List.getElem?_eq_some_iff.1 he).1
  obtain ⟨j1, rfl, hix1⟩ := hq7.ix hj
  obtain ⟨j2, rfl, hix2⟩ := hq8.ix hj
  have ld1 := hq7.ld (o := j) rfl
  have ld2 := hq8.ld (o := j) rfl
  have e1 : (wsC (E.map En.ad))[j]? = some (.int .i64 e.ad) := by simp [wsC, he]
  have e2 : (wsC (E.map fun e => wordsOf e.c))[j]? = some (.int .i64 (wordsOf e.c)) := by simp [wsC, he]
  rw [e1] at ld1
  rw [e2] at ld2
  rw [Nat.mul_one] at hix1 hix2
  refine ok_loop (fun n vs g' => ∃ (k : Nat), vs = [.bool false, .int .i64 k] ∧ (n : Int) + k = wordsOf e.c ∧ g = g') ?_ (n := (wordsOf e.c).toNat) (by omega) ⟨0, rfl, by omega, rfl⟩
  rintro n vs _ ⟨k, rfl, hk, rfl⟩
  simp only [getD0, getD1]
  by_cases hi : (k : Int) < wordsOf e.c
  · refine (Ok.of (r := (.normal, [.bool false, .int .i64 ((k + 1 : Nat) : Int)], g)) ?_).eq (by
      simp -implicitDefEqProofs only [k_law4_ArenaApart_b2, getD1, getD2, hix1, hix2, Option.bind_some, ld1, ld2, bin_lss, hi, decide_true, condE_true, read_eq H, hA.read he ⟨by omega, hi⟩, cl_some, extractV_tup, List.getElem?_cons_zero, List.getElem?_cons_succ, neq_int, Bool.not_true, gdW_bool, beq_self_eq_true, gQ_true, xor_i64, pickP_bool, Bool.false_eq_true, if_false, condE_false, bin_add, succ_i64 k (by omega)])
    exact .inl ⟨rfl, n - 1, by omega, k + 1, rfl, by omega, rfl⟩
  · refine (Ok.of (r := (.exit 6, [.bool false, .int .i64 (k : Int)], g)) ?_).eq (by
      simp -implicitDefEqProofs only [k_law4_ArenaApart_b2, getD1, getD2, hix1, hix2, Option.bind_some, ld1, ld2, bin_lss, hi, decide_false, condE_false])
    exact .inr ⟨by simp, _, rfl⟩
theorem apart_L3 {g : Heap} {a : PAr} {E : List En} {q7 q8 q0 : AV} {b1 b2 : Option Nat} (rest : List AV) (H : ArAt g p w s a) (hA : Ap a v E) (hE : E.length ≤ 100) (hq7 : SlB g b1 1 q7 (wsC (E.map En.ad)) E.length) (hq8 : SlB g b2 1 q8 (wsC (E.map fun e => wordsOf e.c)) E.length) :
    Ok (k_law4_ArenaApart_L3 (.int .i64 v) (.ptr (some (p, 0))) (q0 :: q7 :: q8 :: rest) (.bool false) (.int .i64 0) g) fun r => r.1 = .exit 4 := by
  refine ok_loop (fun n vs g' => ∃ (i : Nat), vs = [.bool false, .int .i64 i] ∧ n + i = E.length ∧ g = g') ?_ (n := E.length) (by omega) ⟨0, rfl, rfl, rfl⟩
  rintro n vs _ ⟨i, rfl, hn, rfl⟩
  simp only [getD0, getD1]
  by_cases hi : i < E.length
  · have hlt : (i : Int) < E.length := by omega
    obtain ⟨e, he⟩ : ∃ e, E[i]? = some e := ⟨_, List.getElem?_eq_getElem hi⟩
    refine Ok.eq ?_ (by simp -implicitDefEqProofs only [k_law4_ArenaApart_b3, getD1, hq7.lnL, Option.bind_some, bin_lss, hlt, decide_true, condE_true]; rfl)
    refine ok_lp (apart_L2 rest H hA hq7 hq8 he) ?_
    rintro _ _ _ ⟨vs, he⟩
    cases he
    refine (Ok.of (r := (.normal, [.bool false, .int .i64 ((i + 1 : Nat) : Int)], g)) ?_).eq (by
      simp -implicitDefEqProofs [bin_add, succ_i64 i (by omega)])
    exact .inl ⟨rfl, n - 1, by omega, i + 1, rfl, by omega, rfl⟩
  · have hlt : ¬ (i : Int) < E.length := by omega
    refine (Ok.of (r := (.exit 4, [.bool false, .int .i64 (i : Int)], g)) ?_).eq (by
      simp -implicitDefEqProofs only [k_law4_ArenaApart_b3, getD1, hq7.lnL, Option.bind_some, bin_lss, hlt, decide_false, condE_false])
    exact .inr ⟨by simp, rfl⟩
end
theorem apart_true {h : Heap} (hsub : Sub hQ1 h) (hn1 : 1 ≤ h.next) {x0 : AV} {l : List Int} (hx : RdC h 1 x0 (l.map fun n => .int .i64 n) l.length) (v : Int) :
    Ok (k_law4_ArenaApart x0 (.int .i64 v) h) fun r => r.1 = .bool true := by
  have ht := tab0_sub hsub hn1
  have haw : k_law4_awake h = some (.bool true, h) := quiet_pos hsub
  by_cases h1 : (100 : Int) < l.length
  · exact ok_val (v := .bool true) (g := h) (by simp -implicitDefEqProofs only [k_law4_ArenaApart, haw, cl_some, un_not, Bool.not_true, Option.bind_some, condE_false, hx.lnL, bin_gtr, h1, decide_true, condE_true]) rfl
  refine Ok.eq ?_ (by simp -implicitDefEqProofs only [k_law4_ArenaApart, haw, cl_some, un_not, Bool.not_true, Option.bind_some, condE_false, hx.lnL, bin_gtr, h1, decide_false]; rfl)
  refine ok_cl (new_ok 8 (by decide) (by decide)) ?_
  rintro _ g1 ⟨rfl, H, s1, n1⟩
  simp only at H s1 n1
  have ht1 := ht.same s1 (by simp)
  refine Ok.eq ?_ (by simp -implicitDefEqProofs only [extractV_tup, List.getElem?_cons_zero, List.getElem?_cons_succ, Option.bind_some, neq_int, decide_true, Bool.not_true, condE_false]; rfl)
  refine ok_lp (apart_L1 (v := v) (B := g1.next) hx (by omega) (by omega) (by omega) (by omega) (by omega) (by omega) (by omega) (by omega) (Nat.le_refl _) H (apart_new v) ht1 s1) ?_
  rintro _ _ g2 ⟨rfl, q7, q8, b1, b2, E, a2, rfl, hE, hq7, hq8, H2, hA⟩
  simp only at hq7 hq8 H2
  refine Ok.eq ?_ (by simp -implicitDefEqProofs only [if_true, thenK_normal, getD0]; rfl)
  refine ok_lp (apart_L3 _ H2 hA hE hq7 hq8) ?_
  rintro _ vs g3 he
  simp only at he
  subst he
  exact ok_val (v := .bool true) (g := g3) (by simp -implicitDefEqProofs only [if_true, thenK_normal]) rfl
end Go.Ab.F
