import Derived.Test.YtfenhliknhmihaaDoorA9
namespace Go.Ab.F
open Go Go.Ab
set_option linter.all false
attribute [local congr] c_bind c_cl c_mk c_lp c_clC c_gQ c_gV c_condE c_thenK

/-! ### Clear -/
def PAr.clear (a : PAr) : PAr := ⟨a.ws, a.sp.map fun x => ⟨x.cls, x.tk, 0⟩⟩
/-- A loop over spans sets one after the other. -/
def upTo (f : PSp → PSp) (l l' : List PSp) (i : Nat) : Prop := l'.length = l.length ∧ ∀ j, l'[j]? = if j < i then (l[j]?).map f else l[j]?
theorem upTo_end {f : PSp → PSp} {l l' : List PSp} (h : upTo f l l' l.length) : l' = l.map f := by
  apply List.ext_getElem?
  intro j
  rw [h.2 j, List.getElem?_map]
  split
  · rfl
  · rename_i hj; rw [List.getElem?_eq_none (by omega)]; rfl
theorem upTo_step {f : PSp → PSp} {l l' : List PSp} {i : Nat} (h : upTo f l l' i) {x : PSp} (hx : l[i]? = some x) : upTo f l (l'.set i (f x)) (i + 1) := by
  have hi : i < l.length := (List.getElem?_eq_some_iff.1 hx).1
  refine ⟨by rw [List.length_set, h.1], fun j => ?_⟩
  by_cases e : j = i
  · subst e
    rw [List.getElem?_set_self (by rw [h.1]; exact hi), if_pos (by omega), hx]; rfl
  · rw [List.getElem?_set_ne (fun e' => e e'.symm), h.2 j]
    by_cases hj : j < i
    · rw [if_pos hj, if_pos (by omega)]
    · rw [if_neg hj, if_neg (by omega)]
theorem upTo_at {f : PSp → PSp} {l l' : List PSp} {i : Nat} (h : upTo f l l' i) : l'[i]? = l[i]? := by rw [h.2 i, if_neg (Nat.lt_irrefl i)]
theorem ix_any {s len : Nat} {d : Cap} {i : Nat} (hi : i < len) : iaS 3 (.sl (some (s, 0)) len d) (.int .i64 (i : Int)) = some (.ptr (some (s, i * 3))) := by
  rw [iaS_sl 3 (s, 0) _ _ .i64 _ ⟨by omega, by omega⟩]; simp
theorem clear_ok {h : Heap} {p w s : Nat} {a : PAr} (H : ArAt h p w s a) :
    Ok (k_arena_Arena_Clear (.ptr (some (p, 0))) h) fun r => r.1 = .tup [] ∧ ArAt r.2 p w s a.clear ∧ Same [s] h r.2 := by
  obtain ⟨d, hd⟩ := H.ld1
  have lp0 : Ok (k_arena_Arena_Clear_L0 (.ptr (some (p, 0))) (.int .i64 a.sp.length) (.int .i64 0) h) fun r => r.1 = .exit 0 ∧ ArAt r.2.2 p w s a.clear ∧ Same [s] h r.2.2 := by
    refine ok_loop (fun n vs g => ∃ (i : Nat) (l : List PSp), vs = [.int .i64 (i : Int)] ∧ n + i = a.sp.length ∧ upTo (fun x => ⟨x.cls, x.tk, 0⟩) a.sp l i ∧ ArAt g p w s ⟨a.ws, l⟩ ∧ Same [s] h g) ?_ (n := a.sp.length) (by have := H.hi; omega)
      ⟨0, a.sp, rfl, rfl, ⟨rfl, fun j => by rw [if_neg (by omega)]⟩, H, Same.refl _ _⟩
    rintro n vs g ⟨i, l, rfl, hn, hu, Hg, hsm⟩
    simp only [List.getD_eq_getElem?_getD, List.getElem?_cons_zero, Option.getD_some]
    obtain ⟨d', hd'⟩ := Hg.ld1
    have hll : l.length = a.sp.length := hu.1
    simp only at hd'
    by_cases hi : i < a.sp.length
    · obtain ⟨x, hx⟩ : ∃ x, a.sp[i]? = some x := ⟨_, List.getElem?_eq_getElem hi⟩
      have hx' : l[i]? = some x := by rw [upTo_at hu, hx]
      have hst : stP 1 g (.ptr (some (s, i * 3 + 2))) (.int .u64 0) = some (.bot, g.put s (some (.cells true (spsC (l.set i ⟨x.cls, x.tk, 0⟩))))) := by
        have := stP_one (v := .int .u64 (0#64).toNat) Hg.hs (o := i * 3 + 2) (by rw [spsC_length]; simp only; omega) rfl
        rw [spsC_set2 0#64 hx'] at this; exact this
      have hw : IntKind.i64.wrap ((i : Int) + 1) = ((i + 1 : Nat) : Int) := by rw [wrap_i64 (by omega) (by have := H.hi; omega)]; rfl
      have hlt : (i : Int) < a.sp.length := by omega
      refine (Ok.of (r := (.normal, [.int .i64 ((i + 1 : Nat) : Int)], _)) ?_).eq (by
        simp -implicitDefEqProofs only [k_arena_Arena_Clear_b0, bin_lss, hlt, decide_true, Option.bind_some, condE_true, nilV_ptr, faP_ptr, Nat.zero_add, hd', ix_any (show i < l.length by omega), hst, cl_some, bin_add, hw]
        rfl)
      left
      exact ⟨rfl, n - 1, by omega, i + 1, _, rfl, by omega, upTo_step hu hx, Hg.setSp (by simp), hsm.trans (Same.put _ _ _)⟩
    · have hlt : ¬ (i : Int) < a.sp.length := by omega
      refine (Ok.of (r := (.exit 0, [.int .i64 (i : Int)], g)) ?_).eq (by
        simp -implicitDefEqProofs only [k_arena_Arena_Clear_b0, bin_lss, hlt, decide_false, Option.bind_some, condE_false])
      right
      have hi' : i = a.sp.length := by omega
      subst hi'
      rw [upTo_end hu] at Hg
      exact ⟨by simp, rfl, Hg, hsm⟩
  refine Ok.eq ?_ (by simp -implicitDefEqProofs only [k_arena_Arena_Clear, nilV_ptr, Option.bind_some, faP_ptr, Nat.zero_add, hd, lnL_sl]; rfl)
  refine ok_lp lp0 ?_
  rintro e vs g ⟨he, Hg, hs⟩
  simp only at he Hg hs
  subst he
  exact ⟨_, rfl, rfl, Hg, hs⟩

/-! ### New -/
def newA (n : Nat) : PAr := ⟨List.replicate (n * 64) 0, List.replicate n ⟨-1, 0, 0⟩⟩
theorem rep_three (n : Nat) : rep [AV.int .i64 0, AV.int .u64 0, AV.int .u64 0] n = spsC (List.replicate n ⟨0, 0, 0⟩) := by
  rw [rep_eq]
  induction n with
  | zero => rfl
  | succ n ih => rw [List.replicate_succ, List.flatten_cons, ih, List.replicate_succ]; rfl
theorem msP_ok (n b : Nat) (z : List AV) (x : Nat) (hx : x ≤ 2 ^ 40) (hb : b ≤ 64) (hz : z.length = n) : msP n b z (.int .i64 x) (.int .i64 x) = some (.cells true (rep z x), fun i => .sl (some (i, 0)) x (.ex x)) := by
  have h1 : (b : Int) * x ≤ 2 ^ 47 := by
    have : b * x ≤ 64 * 2 ^ 40 := Nat.mul_le_mul hb hx
    have e : ((b * x : Nat) : Int) = (b : Int) * x := by push_cast; rfl
    rw [← e]; omega
  simp only [msP]
  rw [if_pos ⟨by omega, by omega, by omega, h1, hz⟩]
  simp
theorem new_ok {h : Heap} (x : Nat) (h1 : 8 ≤ x) (h2 : x ≤ 512) :
    Ok (k_arena_New (.int .i64 x) h) fun r => r.1 = .tup [.ptr (some (h.next + 2, 0)), .int .i64 0] ∧ ArAt r.2 (h.next + 2) h.next (h.next + 1) (newA x) ∧ Same [] h r.2 ∧ r.2.next = h.next + 3 := by
  have e1 : ¬ (x : Int) < 8 := by omega
  have e2 : ¬ (512 : Int) < x := by omega
  have hw : IntKind.i64.wrap ((x : Int) * 64) = ((x * 64 : Nat) : Int) := by rw [wrap_i64 (by omega) (by omega)]; simp
  have m1 := msP_ok 1 8 [.int .i64 0] (x * 64) (by omega) (by decide) rfl
  have m2 := msP_ok 3 24 [AV.int .i64 0, AV.int .u64 0, AV.int .u64 0] x (by omega) (by decide) rfl
  rw [rep_one] at m1
  rw [rep_three] at m2
  have ws : List.replicate (x * 64) (AV.int .i64 0) = wsC (List.replicate (x * 64) 0) := by simp [wsC]
  rw [ws] at m1
  have hb : bldS [(0, 1), (1, 1)] [AV.sl none 0 (.ex 0), AV.sl none 0 (.ex 0)] [(0, .sl (some (h.next, 0)) (x * 64) (.ex (x * 64))), (1, .sl (some (h.next + 1, 0)) x (.ex x))]
      = some (.agg [.sl (some (h.next, 0)) (x * 64) (.ex (x * 64)), .sl (some (h.next + 1, 0)) x (.ex x)]) := rfl
  have hx : bxP (.agg [.sl (some (h.next, 0)) (x * 64) (.ex (x * 64)), .sl (some (h.next + 1, 0)) x (.ex x)])
      = some (.cells true [.sl (some (h.next, 0)) (x * 64) (.ex (x * 64)), .sl (some (h.next + 1, 0)) x (.ex x)], fun i => .ptr (some (i, 0))) := rfl
  let g0 : Heap := (((hpN h 3).put h.next (some (.cells true (wsC (List.replicate (x * 64) 0))))).put (h.next + 1) (some (.cells true (spsC (List.replicate x ⟨0, 0, 0⟩))))).put (h.next + 2) (some (.cells true [.sl (some (h.next, 0)) (x * 64) (.ex (x * 64)), .sl (some (h.next + 1, 0)) x (.ex x)]))
  have H0 : ArAt g0 (h.next + 2) h.next (h.next + 1) ⟨List.replicate (x * 64) 0, List.replicate x ⟨0, 0, 0⟩⟩ :=
    { hp := ⟨.ex (x * 64), .ex x, .inl (by simp), by show g0.get _ = _; simp only [g0]; rw [get_put_eq]; simp⟩
      hw := by simp only [g0]; rw [get_put_ne (by omega), get_put_ne (by omega), get_put_eq]
      hs := by simp only [g0]; rw [get_put_ne (by omega), get_put_eq]
      pw := by omega
      ps := by omega
      sw := by omega
      lp := by show h.next + 2 < h.next + 3; omega
      lw := by show h.next < h.next + 3; omega
      ls := by show h.next + 1 < h.next + 3; omega
      len := by simp
      lo := by simp; omega
      hi := by simp; omega }
  have hsm : Same [] h g0 := ⟨by show h.next ≤ h.next + 3; omega, fun j hj _ => by
    simp only [g0]; rw [get_put_ne (by omega), get_put_ne (by omega), get_put_ne (by omega)]; rfl⟩
  obtain ⟨d, hd⟩ := H0.ld1
  simp only [List.length_replicate] at hd
  have lp0 : Ok (k_arena_New_L0 (.ptr (some (h.next + 2, 0))) (.int .i64 x) (.int .i64 0) g0) fun r => r.1 = .exit 0 ∧ ArAt r.2.2 (h.next + 2) h.next (h.next + 1) (newA x) ∧ Same [] h r.2.2 ∧ r.2.2.next = h.next + 3 := by
    refine ok_loop (fun n vs g => ∃ (i : Nat) (l : List PSp), vs = [.int .i64 (i : Int)] ∧ n + i = x ∧ upTo (fun y => ⟨-1, y.tk, y.md⟩) (List.replicate x ⟨0, 0, 0⟩) l i ∧ ArAt g (h.next + 2) h.next (h.next + 1) ⟨List.replicate (x * 64) 0, l⟩ ∧ Same [] h g ∧ g.next = h.next + 3) ?_ (n := x) (by omega)
      ⟨0, _, rfl, rfl, ⟨rfl, fun j => by rw [if_neg (by omega)]⟩, H0, hsm, rfl⟩
    rintro n vs g ⟨i, l, rfl, hn, hu, Hg, hsm', hgn⟩
    simp only [List.getD_eq_getElem?_getD, List.getElem?_cons_zero, Option.getD_some]
    obtain ⟨d', hd'⟩ := Hg.ld1
    have hll : l.length = x := by simpa using hu.1
    simp only [hll] at hd'
    by_cases hi : i < x
    · obtain ⟨y, hy⟩ : ∃ y, (List.replicate x (⟨0, 0, 0⟩ : PSp))[i]? = some y := ⟨_, List.getElem?_eq_getElem (by simpa using hi)⟩
      have hy' : l[i]? = some y := by rw [upTo_at hu, hy]
      have hst : stP 1 g (.ptr (some (h.next + 1, i * 3))) (.int .i64 (-1)) = some (.bot, g.put (h.next + 1) (some (.cells true (spsC (l.set i ⟨-1, y.tk, y.md⟩))))) := by
        have := stP_one (v := .int .i64 (-1)) Hg.hs (o := i * 3) (by rw [spsC_length]; simp only; omega) rfl
        rw [spsC_set0 (-1) hy'] at this; exact this
      have hw : IntKind.i64.wrap ((i : Int) + 1) = ((i + 1 : Nat) : Int) := by rw [wrap_i64 (by omega) (by omega)]; rfl
      have hlt : (i : Int) < x := by omega
      refine (Ok.of (r := (.normal, [.int .i64 ((i + 1 : Nat) : Int)], _)) ?_).eq (by
        simp -implicitDefEqProofs only [k_arena_New_b0, bin_lss, hlt, decide_true, Option.bind_some, condE_true, nilV_ptr, faP_ptr, Nat.zero_add, Nat.add_zero, hd', ix_any hi, hst, cl_some, bin_add, hw]
        rfl)
      left
      refine ⟨rfl, n - 1, by omega, i + 1, _, rfl, by omega, upTo_step hu hy, Hg.setSp (by simp), ?_, hgn⟩
      exact hsm'.old (Same.put _ _ _) (by simp)
    · have hlt : ¬ (i : Int) < x := by omega
      refine (Ok.of (r := (.exit 0, [.int .i64 (i : Int)], g)) ?_).eq (by
        simp -implicitDefEqProofs only [k_arena_New_b0, bin_lss, hlt, decide_false, Option.bind_some, condE_false])
      right
      have hi' : i = x := by omega
      subst hi'
      have := upTo_end (l := List.replicate i ⟨0, 0, 0⟩) (by simpa using hu)
      rw [this] at Hg
      exact ⟨by simp, rfl, by simpa [newA] using Hg, hsm', hgn⟩
  refine Ok.eq ?_ (by
    simp -implicitDefEqProofs only [k_arena_New, bin_lss, e1, decide_false, Option.bind_some, gdW_bool, beq_self_eq_true, gQ_true, bin_gtr, e2, pickP_bool, Bool.false_eq_true, if_false, condE_false, bin_mul, hw, m1, m2, mkAt, cl_some, Nat.add_zero]
    simp -implicitDefEqProofs only [hb, hx, Option.bind_some, cl_some, chk_nil, nilV_ptr, faP_ptr, Nat.zero_add]
    rw [show ∀ (K : AV → Option (AV × Heap)), (ldS g0 (.ptr (some (h.next + 2, 1)))).bind K = K (.sl (some (h.next + 1, 0)) x d) from fun K => by rw [hd]; rfl])
  simp -implicitDefEqProofs only [lnL_sl, Option.bind_some]
  refine ok_lp lp0 ?_
  rintro e vs g ⟨he, Hg, hs, hgn⟩
  simp only at he Hg hs hgn
  subst he
  exact ⟨_, rfl, rfl, Hg, hs, hgn⟩
theorem new_no {h : Heap} (x : Int) (hx : x < 8 ∨ 512 < x) : k_arena_New (.int .i64 x) h = some (.tup [.ptr none, .int .i64 1], h) := by
  by_cases h1 : x < 8
  · simp -implicitDefEqProofs [k_arena_New, h1]
  · have h2 : 512 < x := by omega
    simp -implicitDefEqProofs [k_arena_New, h1, h2]
end Go.Ab.F
