import Derived.Test.YtmpinijdejafkaaDoorChn
import Derived.Test.YtmpinijdejafkaaDoorArn

namespace Go.Ab.F
open Go Go.Ab
set_option linter.all false
set_option linter.all false
attribute [local congr] c_bind c_cl c_mk c_lp c_clC c_gQ c_gV c_condE c_thenK

/-! ChansRing. -/
def sh15 : List Shp := [⟨3, 0, 0⟩, ⟨3, 0, 1⟩, ⟨0, 0, 0⟩]
theorem sh15_nd : sh15.Nodup := by decide
theorem sh15_good : ∀ s ∈ sh15, goodB s = true := by decide
theorem shapes15 (h : Heap) : k_law15_shapes h = some (.sl (some (h.next, 0)) 3 (.ex 3), h.new (.cells true (shC sh15))) := rfl
theorem ring_loop {h : Heap} {A : Nat → Nat} {l : PAl} (H : HpAt h A l sh15 0) {ad : Int} {c : Chan} {adr : Bool} {sx : Nat} {rest : List Int} (C : ChAt l.ar sh15 ad c adr sx rest) (h0 : c.closed = 0) (Q : InQ c []) {n a : Nat} (hn : n ≤ 300) (ha : 1 ≤ a) (hr : (a : Int) ≤ c.room) (q : AV) :
    Ok (k_law15_ChansRing_L0 (.int .i64 n) (.int .i64 a) (.ptr (some (A 0, 0))) (.int .i64 ad) q (.int .i64 0) (.int .i64 0) h) fun r => r.1 = .exit 0 ∧ ∃ o : Nat, o ≤ n ∧ r.2.1.getD 1 .bot = .int .i64 o ∧ ∃ l' c', HpAt r.2.2 A l' sh15 0 ∧ ChAt l'.ar sh15 ad c' adr sx rest ∧ c'.count = (n : Int) - o := by
  refine ok_loop (fun m vs g => ∃ (i o : Nat) (l' : PAl) (c' : Chan) (L : List Int), vs = [q, .int .i64 o, .int .i64 i] ∧ m + i = n ∧ HpAt g A l' sh15 0 ∧ ChAt l'.ar sh15 ad c' adr sx rest ∧ c'.closed = 0 ∧ c'.room = c.room ∧ InQ c' L ∧ o + L.length = i ∧ L.length < a ∧ ∀ (k : Nat) x, L[k]? = some x → x = 3 * ((o + k : Nat) : Int)) ?_ (n := n) (by omega)
    ⟨0, 0, l, c, [], rfl, rfl, H, C, h0, rfl, Q, rfl, by simp; omega, fun k x hx => by simp at hx⟩
  rintro m vs g ⟨i, o, l', c', L, rfl, hm, G, C', hc, hroom, Q', ho, hl, hL⟩
  rw [gd0, gd1, gd2]
  have ql := Q'.len
  by_cases hi : i < n
  · have hlt : (i : Int) < n := by omega
    have w3 : IntKind.i64.wrap (3 * (i : Int)) = 3 * (i : Int) := wrap_i64 (by omega) (by omega)
    have hcr : c'.count < c'.room := by omega
    refine Ok.eq ?_ (by simp -implicitDefEqProofs only [k_law15_ChansRing_b0, bin_lss, hlt, decide_true, Option.bind_some, condE_true, bin_mul, w3] <;> rfl)
    refine ok_cl (push_ok G C' (3 * (i : Int)) (.int .i64 1)) ?_
    rintro v1 g1 hv1
    rw [if_pos ⟨hc, hcr⟩] at hv1
    obtain ⟨rfl, l1, G1, s1, W1⟩ := hv1
    simp only at G1 s1
    obtain ⟨Q1, O1⟩ := push_q C'.ok Q' hcr (3 * (i : Int))
    have C1 := C'.wrote (c' := c'.pushed (3 * (i : Int))) rfl O1 W1
    have w4 : IntKind.i64.wrap ((i : Int) - o) = (i : Int) - o := wrap_i64 (by omega) (by omega)
    have w5 : IntKind.i64.wrap ((i : Int) - o + 1) = (i : Int) - o + 1 := wrap_i64 (by omega) (by omega)
    have hsc := suc64 i (by omega)
    have hL1 : ∀ (k : Nat) x, (L ++ [3 * (i : Int)])[k]? = some x → x = 3 * ((o + k : Nat) : Int) := by
      intro k x hx
      by_cases hk : k < L.length
      · rw [List.getElem?_append_left hk] at hx; exact hL k x hx
      · rw [List.getElem?_append_right (by omega)] at hx
        have : k - L.length = 0 := by
          have := (List.getElem?_eq_some_iff.1 hx).1
          simp at this; omega
        rw [this] at hx
        simp at hx
        subst hx; omega
    by_cases hb : (a : Int) ≤ (i : Int) - o + 1
    · refine Ok.eq ?_ (by simp -implicitDefEqProofs only [un_not, Bool.not_true, Option.bind_some, condE_false, bin_sub, bin_add, w4, w5, bin_geq, hb, decide_true, condE_true] <;> rfl)
      have hcp : 0 < (c'.pushed (3 * (i : Int))).count := by have := C'.ok.c0; show 0 < c'.count + 1; omega
      refine ok_cl (pop_ok G1 C1) ?_
      rintro v2 g2 hv2
      rw [if_pos hcp] at hv2
      obtain ⟨rfl, l2, G2, s2, W2⟩ := hv2
      simp only at G2 s2
      obtain ⟨x, L2, e1', e2', Q2, O2⟩ := pop_q C1.ok Q1 hcp
      have C2 := C1.wrote (c' := (c'.pushed (3 * (i : Int))).popped) rfl O2 W2
      have hx := hL1 0 x (by rw [e1']; rfl)
      rw [Nat.add_zero] at hx
      have w6 : IntKind.i64.wrap (3 * (o : Int)) = 3 * (o : Int) := wrap_i64 (by omega) (by omega)
      have hso := suc64 o (by omega)
      refine (Ok.of (r := (.normal, [q, .int .i64 ((o + 1 : Nat) : Int), .int .i64 ((i + 1 : Nat) : Int)], g2)) (.inl ⟨rfl, m - 1, by omega, i + 1, o + 1, l2, _, L2, rfl, by omega, G2, C2, hc, hroom, Q2, ?_, ?_, ?_⟩)).eq ?_
      · rw [e2', hx]
        simp -implicitDefEqProofs only [extractV_tup, e0, e1, Option.bind_some, un_not, Bool.not_true, gdW_ff, gQ_true, cl_some, bin_mul, w6, neq_int, decide_true, pickP_bool, Bool.false_eq_true, if_false, condE_false, bin_add, hso, k_law15_ChansRing_j0, hsc]
      · have := congrArg List.length e1'
        simp at this; omega
      · have := congrArg List.length e1'
        simp at this; omega
      · intro k y hy
        have := hL1 (k + 1) y (by rw [e1']; simpa using hy)
        rw [this]; omega
    · refine (Ok.of (r := (.normal, [q, .int .i64 (o : Int), .int .i64 ((i + 1 : Nat) : Int)], g1)) (.inl ⟨rfl, m - 1, by omega, i + 1, o, l1, _, L ++ [3 * (i : Int)], rfl, by omega, G1, C1, hc, hroom, Q1, ?_, ?_, hL1⟩)).eq (by
        simp -implicitDefEqProofs only [un_not, Bool.not_true, Option.bind_some, condE_false, bin_sub, bin_add, w4, w5, bin_geq, hb, decide_false, k_law15_ChansRing_j0, hsc])
      · simp; omega
      · simp; omega
  · have hlt : ¬ (i : Int) < n := by omega
    refine (Ok.of (r := (.exit 0, [q, .int .i64 (o : Int), .int .i64 (i : Int)], g)) (.inr ⟨by simp, rfl, o, by omega, rfl, l', c', G, C', by omega⟩)).eq (by simp -implicitDefEqProofs only [k_law15_ChansRing_b0, bin_lss, hlt, decide_false, Option.bind_some, condE_false])
theorem ring_true {h : Heap} (hsub : Sub hQ1 h) (hn1 : 1 ≤ h.next) (room n a : Int) : Ok (k_law15_ChansRing (.int .i64 room) (.int .i64 n) (.int .i64 a) h) fun r => r.1 = .bool true := by
  have ht := tab0_sub hsub hn1
  have haw : k_law15_awake h = some (.bool true, h) := quiet_pos hsub
  by_cases h1 : room < 1
  · exact ok_val (v := .bool true) (g := h) (by simp -implicitDefEqProofs only [k_law15_ChansRing, haw, cl_some, un_not, Bool.not_true, Option.bind_some, condE_false, bin_lss, h1, decide_true, gdW_tf, gQ_false, pickP_bool, if_true, condE_true]) rfl
  by_cases h2 : 59 < room
  · exact ok_val (v := .bool true) (g := h) (by simp -implicitDefEqProofs only [k_law15_ChansRing, haw, cl_some, un_not, Bool.not_true, Option.bind_some, condE_false, bin_lss, bin_gtr, h1, h2, decide_true, decide_false, gdW_ff, gdW_tf, gQ_true, gQ_false, pickP_bool, Bool.false_eq_true, if_false, if_true, condE_true]) rfl
  by_cases h3 : n < 0
  · exact ok_val (v := .bool true) (g := h) (by simp -implicitDefEqProofs only [k_law15_ChansRing, haw, cl_some, un_not, Bool.not_true, Option.bind_some, condE_false, bin_lss, bin_gtr, h1, h2, h3, decide_true, decide_false, gdW_ff, gdW_tf, gQ_true, gQ_false, pickP_bool, Bool.false_eq_true, if_false, if_true, condE_true]) rfl
  by_cases h4 : 300 < n
  · exact ok_val (v := .bool true) (g := h) (by simp -implicitDefEqProofs only [k_law15_ChansRing, haw, cl_some, un_not, Bool.not_true, Option.bind_some, condE_false, bin_lss, bin_gtr, h1, h2, h3, h4, decide_true, decide_false, gdW_ff, gdW_tf, gQ_true, gQ_false, pickP_bool, Bool.false_eq_true, if_false, if_true, condE_true]) rfl
  by_cases h5 : a < 1
  · exact ok_val (v := .bool true) (g := h) (by simp -implicitDefEqProofs only [k_law15_ChansRing, haw, cl_some, un_not, Bool.not_true, Option.bind_some, condE_false, bin_lss, bin_gtr, h1, h2, h3, h4, h5, decide_true, decide_false, gdW_ff, gdW_tf, gQ_true, gQ_false, pickP_bool, Bool.false_eq_true, if_false, if_true, condE_true]) rfl
  by_cases h6 : room < a
  · exact ok_val (v := .bool true) (g := h) (by simp -implicitDefEqProofs only [k_law15_ChansRing, haw, cl_some, un_not, Bool.not_true, Option.bind_some, condE_false, bin_lss, bin_gtr, h1, h2, h3, h4, h5, h6, decide_true, decide_false, gdW_ff, gQ_true, pickP_bool, Bool.false_eq_true, if_false, condE_true]) rfl
  obtain ⟨N, rfl⟩ : ∃ N : Nat, n = N := ⟨n.toNat, by omega⟩
  obtain ⟨B, rfl⟩ : ∃ B : Nat, a = B := ⟨a.toNat, by omega⟩
  refine Ok.eq ?_ (by simp -implicitDefEqProofs only [k_law15_ChansRing, haw, cl_some, un_not, Bool.not_true, Option.bind_some, condE_false, bin_lss, bin_gtr, h1, h2, h3, h4, h5, h6, decide_false, gdW_ff, gQ_true, pickP_bool, Bool.false_eq_true, if_false, shapes15] <;> rfl)
  have s0 : Same [] h (h.new (.cells true (shC sh15))) := Same.new _ _
  refine ok_cl (hnew_ok (h := h.new (.cells true (shC sh15))) (N := 8) (T := sh15) (by decide) (by decide) (ht.same s0 (by simp)) get_new_eq (Nat.lt_succ_self _) (by decide) (by decide) sh15_nd sh15_good) ?_
  rintro _ g1 ⟨A, rfl, H1, s1, _⟩
  simp only at H1 s1
  have bn : bldS [(0, 1)] [(AV.sl none 0 (.ex 0))] [] = some (.agg [.sl none 0 (.ex 0)]) := rfl
  have xn : bxP (.agg [.sl none 0 (.ex 0)]) = some (.cells true [.sl none 0 (.ex 0)], fun i => .ptr (some (i, 0))) := rfl
  have s2 : Same [] g1 (g1.new (.cells true [.sl none 0 (.ex 0)])) := Same.new _ _
  have H2 := H1.keep s2
  refine Ok.eq ?_ (by simp -implicitDefEqProofs only [extractV_tup, e0, e1, Option.bind_some, neq_int, decide_true, Bool.not_true, condE_false, bn, xn, mk_some] <;> rfl)
  have hlen : (newA 8).sp.length = 8 := by show (List.replicate 8 _).length = 8; rw [List.length_replicate]
  have hu8 := used_new 8
  refine ok_cl (cmake_ok H2 (sx := 0) (s := ⟨3, 0, 0⟩) rfl rfl (room := room) (by omega) (by omega) (by show (newA 8).used + 1 < (newA 8).sp.length; omega) _) ?_
  rintro _ g3 ⟨ad, l', rest, rfl, H3, s3, C, _⟩
  simp only at H3 s3
  refine Ok.eq ?_ (by simp -implicitDefEqProofs only [extractV_tup, e0, e1, e2, Option.bind_some, neq_int, decide_true, Bool.not_true, gdW_ff, gQ_true, cl_some, pickP_bool, Bool.false_eq_true, if_false, condE_false] <;> rfl)
  refine ok_lp (ring_loop H3 C rfl (inQ_new (by omega)) (n := N) (a := B) (by omega) (by omega) (by show (B : Int) ≤ room; omega) _) ?_
  rintro _ vs g4 ⟨rfl, o, ho, hv, l4, c4, H4, C4, hc4⟩
  simp only at hv H4 C4
  refine Ok.eq ?_ (by simp -implicitDefEqProofs only [if_true, thenK_normal] <;> rfl)
  refine ok_cl (count_ok H4 C4) ?_
  rintro _ g5 ⟨rfl, s5⟩
  have w : IntKind.i64.wrap ((N : Int) - o) = (N : Int) - o := wrap_i64 (by omega) (by omega)
  exact ok_val (v := .bool true) (g := g5) (by simp -implicitDefEqProofs only [hv, bin_sub, w, Option.bind_some, hc4, eql_int, decide_true]) rfl
end Go.Ab.F
