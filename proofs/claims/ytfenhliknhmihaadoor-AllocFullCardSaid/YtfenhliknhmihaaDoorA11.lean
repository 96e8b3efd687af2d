import Derived.Test.YtfenhliknhmihaaDoorA10
namespace Go.Ab.F
open Go Go.Ab
set_option linter.all false
attribute [local congr] c_bind c_cl c_mk c_lp c_clC c_gQ c_gV c_condE c_thenK

/-! ### Sweep -/
def PAr.sweep (a : PAr) (n : Int) : Nat × PAr :=
  if a.cls n = -1 then (0, a) else
  (ones ((a.at n).tk &&& ~~~ (a.at n).md), a.setS n (if (a.at n).tk &&& (a.at n).md = 0 then ⟨-1, 0, 0⟩ else ⟨(a.at n).cls, (a.at n).tk &&& (a.at n).md, (a.at n).md⟩))
theorem toNat_zero (b : BitVec 64) : ((b.toNat : Int) = 0) ↔ b = 0 := by
  constructor
  · intro h; exact BitVec.eq_of_toNat_eq (by simpa using h)
  · intro h; rw [h]; rfl
theorem sweep_ok {h : Heap} {p w s : Nat} {a : PAr} (H : ArAt h p w s a) (n : Int) :
    Ok (k_arena_Arena_Sweep (.ptr (some (p, 0))) (.int .i64 n) h) fun r => r.1 = .int .i64 (a.sweep n).1 ∧ ArAt r.2 p w s (a.sweep n).2 ∧ Same [s] h r.2 := by
  by_cases h1 : a.cls n = -1
  · refine (Ok.of (r := (.int .i64 0, h)) ?_).eq (by simp -implicitDefEqProofs [k_arena_Arena_Sweep, class_eq H, h1])
    simp only [PAr.sweep, h1, if_true]
    exact ⟨rfl, H, Same.refl _ _⟩
  · obtain ⟨hn, hc⟩ := cls_has h1
    obtain ⟨d, hd⟩ := H.ld1
    have H1 := H.sets n ⟨(a.at n).cls, (a.at n).tk &&& (a.at n).md, (a.at n).md⟩
    have hn1 := (a.setS_has n n ⟨(a.at n).cls, (a.at n).tk &&& (a.at n).md, (a.at n).md⟩).2 hn
    have e1 := PAr.setS_at ⟨(a.at n).cls, (a.at n).tk &&& (a.at n).md, (a.at n).md⟩ hn
    have l1 := H1.ldt hn1
    rw [e1] at l1
    by_cases h2 : (a.at n).tk &&& (a.at n).md = 0
    · have hz : (((a.at n).tk &&& (a.at n).md).toNat : Int) = 0 := (toNat_zero _).2 h2
      have s2 := H1.sts hn1 ⟨-1, 0, 0⟩
      rw [PAr.setS_setS] at s2
      have H2 := H1.sets n ⟨-1, 0, 0⟩
      rw [PAr.setS_setS] at H2
      refine (Ok.of ?_).eq (by
        simp -implicitDefEqProofs only [k_arena_Arena_Sweep, class_eq H, cl_some, eql_int, h1, decide_false, Option.bind_some, condE_false, nilV_ptr, faP_ptr, Nat.zero_add, hd, H.ix hn, H.ldt hn, H.ldm hn, andNot_u64, ofInt_toNat, bones_eq, chk_nil, and_u64, H.stt hn, l1]
        simp -implicitDefEqProofs only [hz, decide_true, condE_true, bld_sp (-1) 0 0, Option.bind_some, nilV_ptr, s2, cl_some]
        rfl)
      simp only [PAr.sweep, h1, if_false]
      rw [if_pos h2]
      exact ⟨trivial, H2, (Same.put _ _ _).trans (Same.put _ _ _)⟩
    · have hz : ¬ (((a.at n).tk &&& (a.at n).md).toNat : Int) = 0 := fun e => h2 ((toNat_zero _).1 e)
      refine (Ok.of ?_).eq (by
        simp -implicitDefEqProofs only [k_arena_Arena_Sweep, class_eq H, cl_some, eql_int, h1, decide_false, Option.bind_some, condE_false, nilV_ptr, faP_ptr, Nat.zero_add, hd, H.ix hn, H.ldt hn, H.ldm hn, andNot_u64, ofInt_toNat, bones_eq, chk_nil, and_u64, H.stt hn, l1]
        simp -implicitDefEqProofs only [hz, decide_false, condE_false]
        rfl)
      simp only [PAr.sweep, h1, if_false]
      rw [if_neg h2]
      exact ⟨trivial, H1, Same.put _ _ _⟩

/-! ### Copy -/
theorem sc_ws (l : List Int) : (wsC l).all scalar = true := by simp [wsC, scalar]
theorem sc_sps : ∀ l : List PSp, (spsC l).all scalar = true
  | [] => rfl
  | s :: l => by simp only [spsC, List.all_cons, scalar, sc_sps l, Bool.and_self]
theorem clone_ws {h : Heap} {w : Nat} {l : List Int} {c : Cap} (hw : h.get w = some (.cells true (wsC l))) (hlt : w < h.next) (h0 : l ≠ []) (hn : l.length ≤ 2 ^ 40) :
    k_slices_Clone_int64_int64 (.sl (some (w, 0)) l.length c) h = some (.sl (some (h.next + 1, 0)) l.length (.un 1), (h.new (.cells true [])).new (.cells true (wsC l))) := by
  have hb : bsP 1 [.int .i64 0] 0 [] = some (.cells true [], fun i => .sl (some (i, 0)) 0 (.ex 0)) := rfl
  have hg : (h.new (.cells true [])).get w = some (.cells true (wsC l)) := by rw [get_new_ne (by omega)]; exact hw
  have hl : ¬ l.length ≤ 0 := by have := List.length_pos_iff.2 h0; omega
  have ha : appendA (h.new (.cells true [])) 1 8 (.sl (some (h.next, 0)) 0 (.ex 0)) (.sl (some (w, 0)) l.length c) = some (.sl (some (h.next + 1, 0)) l.length (.un 1), (h.new (.cells true [])).new (.cells true (wsC l))) := by
    have hld : loadN (h.new (.cells true [])) (w, 0) (l.length * 1) = some (wsC l) := by
      simp only [loadN, hg, spanF_eq]
      rw [span_some _ _ _ (by simp [wsC])]
      rw [show l.length * 1 = (wsC l).length by simp [wsC], List.drop_zero, List.take_length]
    have hld0 : loadN (h.new (.cells true [])) (h.next, 0) (0 * 1) = some [] := by
      simp only [loadN, get_new_eq, spanF_eq]; rfl
    simp only [appendA, countA, addedA, hld, Option.bind_some, Nat.zero_add, hl, if_false]
    rw [if_pos (by omega)]
    simp only [hld0, Option.bind_some, List.nil_append, sc_ws, if_true, Heap.next_new]
  simp -implicitDefEqProofs only [k_slices_Clone_int64_int64, hb, mk_some, ha, cl_some]
  have : eqP (some (.slice 0)) none false .eql (.sl (some (w, 0)) l.length c) (.sl none 0 (.ex 0)) = some (.bool false) := rfl
  simp -implicitDefEqProofs only [this, Option.bind_some, condE_false]
theorem clone_sps {h : Heap} {s : Nat} {l : List PSp} {c : Cap} (hw : h.get s = some (.cells true (spsC l))) (hlt : s < h.next) (h0 : l ≠ []) (hn : l.length ≤ 2 ^ 40) :
    k_slices_Clone_arena_span_arena_span (.sl (some (s, 0)) l.length c) h = some (.sl (some (h.next + 1, 0)) l.length (.un 3), (h.new (.cells true [])).new (.cells true (spsC l))) := by
  have hb : bsP 3 [AV.int .i64 0, AV.int .u64 0, AV.int .u64 0] 0 [] = some (.cells true [], fun i => .sl (some (i, 0)) 0 (.ex 0)) := rfl
  have hg : (h.new (.cells true [])).get s = some (.cells true (spsC l)) := by rw [get_new_ne (by omega)]; exact hw
  have hl : ¬ l.length ≤ 0 := by have := List.length_pos_iff.2 h0; omega
  have ha : appendA (h.new (.cells true [])) 3 24 (.sl (some (h.next, 0)) 0 (.ex 0)) (.sl (some (s, 0)) l.length c) = some (.sl (some (h.next + 1, 0)) l.length (.un 3), (h.new (.cells true [])).new (.cells true (spsC l))) := by
    have hld : loadN (h.new (.cells true [])) (s, 0) (l.length * 3) = some (spsC l) := by
      simp only [loadN, hg, spanF_eq]
      rw [span_some _ _ _ (by rw [spsC_length]; omega)]
      rw [← spsC_length, List.drop_zero, List.take_length]
    have hld0 : loadN (h.new (.cells true [])) (h.next, 0) (0 * 3) = some [] := by
      simp only [loadN, get_new_eq, spanF_eq]; rfl
    simp only [appendA, countA, addedA, hld, Option.bind_some, Nat.zero_add, hl, if_false]
    rw [if_pos (by omega)]
    simp only [hld0, Option.bind_some, List.nil_append, sc_sps, if_true, Heap.next_new]
  simp -implicitDefEqProofs only [k_slices_Clone_arena_span_arena_span, hb, mk_some, ha, cl_some]
  have : eqP (some (.slice 0)) none false .eql (.sl (some (s, 0)) l.length c) (.sl none 0 (.ex 0)) = some (.bool false) := rfl
  simp -implicitDefEqProofs only [this, Option.bind_some, condE_false]
theorem copy_ok {h : Heap} {p w s : Nat} {a : PAr} (H : ArAt h p w s a) :
    ∃ p' w' s', Ok (k_arena_Arena_Copy (.ptr (some (p, 0))) h) fun r => r.1 = .ptr (some (p', 0)) ∧ ArAt r.2 p' w' s' a ∧ Same [] h r.2 ∧ h.next ≤ p' ∧ h.next ≤ w' ∧ h.next ≤ s' := by
  obtain ⟨c, d, hcap, hp⟩ := H.hp
  have hlen := H.len
  have hlo := H.lo
  have hhi := H.hi
  have lp := H.lp
  have lw := H.lw
  have ls := H.ls
  have nw : a.ws ≠ [] := by intro e; rw [e] at hlen; simp at hlen; omega
  have ns : a.sp ≠ [] := by intro e; rw [e] at hlo; simp at hlo
  have g0 : ∀ j, (hpN h 1).get j = h.get j := fun j => rfl
  have c1 := clone_ws (h := hpN h 1) (w := w) (l := a.ws) (c := c) H.hw (by show w < h.next + 1; omega) nw (by omega)
  have hn1 : (hpN h 1).next = h.next + 1 := rfl
  generalize hG : ((hpN h 1).new (.cells true [])).new (.cells true (wsC a.ws)) = G at c1
  have Gn : G.next = h.next + 3 := by rw [← hG]; rfl
  have Gg : ∀ j, j ≤ h.next → G.get j = h.get j := fun j hj => by
    rw [← hG, get_new_ne (by rw [Heap.next_new, hn1]; omega), get_new_ne (by rw [hn1]; omega)]; rfl
  have Gw : G.get (h.next + 2) = some (.cells true (wsC a.ws)) := by
    rw [← hG]; exact get_new_eq
  have c2 := clone_sps (h := G) (s := s) (l := a.sp) (c := d) (by rw [Gg s (by omega)]; exact H.hs) (by omega) ns (by omega)
  generalize hF : (G.new (.cells true [])).new (.cells true (spsC a.sp)) = F at c2
  have Fn : F.next = h.next + 5 := by rw [← hF, Heap.next_new, Heap.next_new, Gn]
  have Fg : ∀ j, j < h.next + 3 → F.get j = G.get j := fun j hj => by
    rw [← hF, get_new_ne (by rw [Heap.next_new, Gn]; omega), get_new_ne (by rw [Gn]; omega)]
  have Fs : F.get (h.next + 4) = some (.cells true (spsC a.sp)) := by
    rw [← hF]; have := get_new_eq (h := G.new (.cells true [])) (b := .cells true (spsC a.sp)); rw [Heap.next_new, Gn] at this; exact this
  refine ⟨h.next, h.next + 2, h.next + 4, ?_⟩
  rw [hn1] at c1
  rw [Gn] at c2
  have l0 : ldS (hpN h 1) (.ptr (some (p, 0))) = some (.sl (some (w, 0)) a.ws.length c) := by rw [ldS_at (show (hpN h 1).get p = _ from hp)]; rfl
  have l1 : ldS G (.ptr (some (p, 1))) = some (.sl (some (s, 0)) a.sp.length d) := by rw [ldS_at ((Gg p (by omega)).trans hp)]; rfl
  have l2 : ldS (hpN h 1) (.ptr (some (p, 1))) = some (.sl (some (s, 0)) a.sp.length d) := by rw [ldS_at (show (hpN h 1).get p = _ from hp)]; rfl
  have hb : bldS [(0, 1), (1, 1)] [AV.sl none 0 (.ex 0), AV.sl none 0 (.ex 0)] [(0, .sl (some (h.next + 2, 0)) a.ws.length (.un 1)), (1, .sl (some (h.next + 4, 0)) a.sp.length (.un 3))]
      = some (.agg [.sl (some (h.next + 2, 0)) a.ws.length (.un 1), .sl (some (h.next + 4, 0)) a.sp.length (.un 3)]) := rfl
  have hx : bxP (.agg [.sl (some (h.next + 2, 0)) a.ws.length (.un 1), .sl (some (h.next + 4, 0)) a.sp.length (.un 3)])
      = some (.cells true [.sl (some (h.next + 2, 0)) a.ws.length (.un 1), .sl (some (h.next + 4, 0)) a.sp.length (.un 3)], fun i => .ptr (some (i, 0))) := rfl
  refine (Ok.of (r := (.ptr (some (h.next, 0)), F.put h.next (some (.cells true [.sl (some (h.next + 2, 0)) a.ws.length (.un 1), .sl (some (h.next + 4, 0)) a.sp.length (.un 3)])))) ?_).eq (by
    simp -implicitDefEqProofs only [k_arena_Arena_Copy, nilV_ptr, Option.bind_some, faP_ptr, Nat.zero_add, Nat.add_zero, l0, c1, cl_some, rdC, l1, clC_some, c2, hb, hx, mkAt]
    exact chk_two (same_sl _ _ _) l2 l1)
  refine ⟨rfl, ?_, ⟨by show h.next ≤ F.next; omega, fun j hj _ => ?_⟩, Nat.le_refl _, by omega, by omega⟩
  · exact
    { hp := ⟨.un 1, .un 3, .inr rfl, get_put_eq⟩
      hw := by rw [get_put_ne (by omega), Fg _ (by omega)]; exact Gw
      hs := by rw [get_put_ne (by omega)]; exact Fs
      pw := by omega
      ps := by omega
      sw := by omega
      lp := by show h.next < F.next; omega
      lw := by show h.next + 2 < F.next; omega
      ls := by show h.next + 4 < F.next; omega
      len := H.len, lo := H.lo, hi := H.hi }
  · show (F.put _ _).get j = _
    rw [get_put_ne (by omega), Fg j (by omega), Gg j (by omega)]
end Go.Ab.F
