import Derived.Test.YtokefidnmopedaaQuFn
import Derived.Test.YtokefidnmopedaaLwk

namespace Go.Ab.F
open Go Go.Ab
set_option linter.all false
set_option linter.unusedSimpArgs false
attribute [local congr] c_bind c_cl c_mk c_lp c_clC c_gQ c_gV c_condE c_thenK

/-- Slots that hold addresses. -/
def kindsB (l : List Bool) : BitVec 64 := (l.zipIdx).foldl (fun a x => a ||| (if x.1 then bitB (x.2 : Int) else 0#64)) 0#64
theorem kinds_step {l : List Bool} {i : Nat} {x : Bool} (h : l[i]? = some x) : kindsB (l.take (i + 1)) = kindsB (l.take i) ||| (if x then bitB (i : Int) else 0#64) := by
  have hi := (List.getElem?_eq_some_iff.1 h).1
  unfold kindsB
  rw [List.take_add_one, h, List.zipIdx_append, List.foldl_append]
  simp [Nat.min_eq_left (Nat.le_of_lt hi)]
theorem kinds_loop {g : Heap} {v : AV} {l : List Bool} (H : RdW g 1 v (l.map AV.bool) l.length) (hl : l.length ≤ 64) :
    Ok (k_live_Maps_L0 v (.int .i64 l.length) (.int .u64 0) (.int .i64 0) g) fun r => r.1 = .exit 0 ∧ r.2.2 = g ∧ r.2.1.getD 0 .bot = w64 (kindsB l) := by
  refine ok_loop (fun k vs g' => ∃ i : Nat, vs = [w64 (kindsB (l.take i)), .int .i64 i] ∧ k + i = l.length ∧ g' = g) ?_ (n := l.length) (by omega) ⟨0, rfl, rfl, rfl⟩
  rintro k vs g' ⟨i, rfl, hk, rfl⟩
  rw [gD0, gD1]
  by_cases hi : i < l.length
  · obtain ⟨x, hx⟩ : ∃ x, l[i]? = some x := ⟨_, List.getElem?_eq_getElem hi⟩
    have hi' : (i : Int) < l.length := by omega
    obtain ⟨b2, o, _, hix, hld⟩ := H.at (i := i) (x := .bool x) (by rw [List.getElem?_map, hx]; rfl)
    have hs := kinds_step hx
    refine (Ok.of (r := (Ex.normal, [w64 (kindsB (l.take (i + 1))), AV.int .i64 ((i + 1 : Nat) : Int)], g')) (.inl ⟨rfl, k - 1, by omega, i + 1, rfl, by omega, rfl⟩)).eq ?_
    have h0 : (0 : Int) ≤ (i : Int) := by omega
    have h1 : (i : Int) < 64 := by omega
    cases x with
    | true =>
      have e := shl_one (i : Int) h0 h1
      rw [cv_u64 (i : Int) h0 h1, Option.bind_some] at e
      have hb : bitB (i : Int) = 1#64 <<< ((i : Int)).toNat := by simp only [bitB, h0, h1, and_self, if_true]
      simp -implicitDefEqProofs only [k_live_Maps_b0, bin_lss, hi', decide_true, Option.bind_some, condE_true, hix, hld, cv_u64 (i : Int) h0 h1, e, or_w, bin_add, suc64 i (by omega), hs, hb, if_true]
    | false =>
      simp -implicitDefEqProofs only [k_live_Maps_b0, bin_lss, hi', decide_true, Option.bind_some, condE_true, condE_false, hix, hld, bin_add, suc64 i (by omega), hs, Bool.false_eq_true, if_false, BitVec.or_zero]
  · have hi' : ¬ (i : Int) < l.length := by omega
    refine (Ok.of (r := (Ex.exit 0, [w64 (kindsB (l.take i)), AV.int .i64 (i : Int)], g')) (.inr ⟨by simp, rfl, rfl, ?_⟩)).eq (by simp -implicitDefEqProofs only [k_live_Maps_b0, bin_lss, hi', decide_false, Option.bind_some, condE_false])
    show w64 (kindsB (l.take i)) = _
    rw [List.take_of_length_le (by omega)]
theorem min_i (a b : Int) : minP (.int .i64 a) (.int .i64 b) = some (.int .i64 (min a b)) := by
  simp only [minP]
  first
    | rfl
    | (split <;> simp_all <;> omega)
/-- What live.Maps hands back. -/
structure MapsR (h g : Heap) (v : AV) (m : Md) (f : Fn) (s : List (BitVec 64)) : Prop where
  same : Same [] h g
  eq : ∃ b, v = .sl (some (b, 0)) s.length (.ex s.length) ∧ h.next ≤ b ∧ b < g.next ∧ g.get b = some (.cells true ((s.map fun a => a &&& kindsB (f.kinds.take 64)).map w64))
  len : s.length = f.code.length
  fix : Fix m f s
  low : Low m f s
theorem mask_loop {g0 g : Heap} {b : Nat} {vs0 : List AV} {s : List (BitVec 64)} {a : BitVec 64} (ha : vs0.getD 0 .bot = w64 a) (hs : Same [] g0 g) (hb0 : g0.next ≤ b) (hbl : b < g.next) (hb : g.get b = some (.cells true (s.map w64))) (hl : s.length ≤ 1048576) :
    Ok (k_live_Maps_L1 vs0 (.sl (some (b, 0)) s.length (.ex s.length)) (.int .i64 s.length) (.int .i64 0) g) fun r => r.1 = .exit 2 ∧ Same [] g0 r.2.2 ∧ b < r.2.2.next ∧ r.2.2.get b = some (.cells true ((s.map fun x => x &&& a).map w64)) := by
  refine ok_loop (fun k vs g' => ∃ i : Nat, vs = [.int .i64 i] ∧ k + i = s.length ∧ Same [] g0 g' ∧ b < g'.next ∧ g'.get b = some (.cells true (((s.take i).map fun x => x &&& a).map w64 ++ (s.drop i).map w64))) ?_ (n := s.length) (by omega)
    ⟨0, rfl, rfl, hs, hbl, by simpa using hb⟩
  rintro k vs g' ⟨i, rfl, hk, s', hbl', hb'⟩
  rw [gD0]
  by_cases hi : i < s.length
  · have hi' : (i : Int) < s.length := by omega
    obtain ⟨x, hx⟩ : ∃ x, s[i]? = some x := ⟨_, List.getElem?_eq_getElem hi⟩
    have hlen : (((s.take i).map fun x => x &&& a).map w64).length = i := by simp; omega
    have hdrop : (s.drop i).map w64 = w64 x :: (s.drop (i + 1)).map w64 := by
      rw [List.drop_eq_getElem_cons hi, List.map_cons]
      rw [List.getElem?_eq_getElem hi] at hx; cases hx; rfl
    have hix : iaS 1 (.sl (some (b, 0)) s.length (.ex s.length)) (.int .i64 (i : Int)) = some (.ptr (some (b, i))) := by rw [iaS_sl 1 (b, 0) _ _ _ _ ⟨by omega, by omega⟩]; simp
    have hld : ldS g' (.ptr (some (b, i))) = some (w64 x) := by
      rw [ldS_at hb', List.getElem?_append_right (by omega), hlen, hdrop]; simp
    have hst := stP_one (v := w64 (x &&& a)) hb' (o := i) (by rw [List.length_append, hlen]; simp; omega) (sc_w _)
    have hset : ((((s.take i).map fun x => x &&& a).map w64 ++ (s.drop i).map w64).set i (w64 (x &&& a))) = ((s.take (i + 1)).map fun x => x &&& a).map w64 ++ (s.drop (i + 1)).map w64 := by
      rw [List.set_append_right _ _ (by omega), hlen, hdrop, List.take_add_one, hx]
      simp
    rw [hset] at hst
    refine (Ok.of (r := (Ex.normal, [AV.int .i64 ((i + 1 : Nat) : Int)], g'.put b (some (.cells true (((s.take (i + 1)).map fun x => x &&& a).map w64 ++ (s.drop (i + 1)).map w64))))) (.inl ⟨rfl, k - 1, by omega, i + 1, rfl, by omega, s'.old (Same.put _ _ _) (fun j hj => .inr (by simp at hj; omega)), by simpa using hbl', get_put_eq⟩)).eq ?_
    simp -implicitDefEqProofs only [k_live_Maps_b1, bin_lss, hi', decide_true, Option.bind_some, condE_true, hix, hld, ha, and_w, hst, cl_some, bin_add, suc64 i (by omega)]
  · have hi' : ¬ (i : Int) < s.length := by omega
    refine (Ok.of (r := (Ex.exit 2, [AV.int .i64 (i : Int)], g')) (.inr ⟨by simp, rfl, s', hbl', ?_⟩)).eq (by simp -implicitDefEqProofs only [k_live_Maps_b1, bin_lss, hi', decide_false, Option.bind_some, condE_false])
    rw [hb', List.take_of_length_le (by omega), List.drop_eq_nil_of_le (by omega)]; simp
theorem maps_ok {h : Heap} {v : AV} {r : List AV} {m : Md} {f : Fn} (H : MdRd h v m) (G : FnRd h r f) (hc : m.cases.length ≤ 60) (hn : f.code.length ≤ 1048576) : Ok (k_live_Maps v (.agg r) h) fun r => ∃ s, MapsR h r.2 r.1 m f s := by
  have hck : CapV 1 (r.getD 4 .bot) := by
    obtain ⟨_, _, _, rfl, _, _, _, _, _, _, _, _, _, _, h1, _⟩ := G
    exact h1
  obtain ⟨kv, cv, mv, rfl, hbf, FB⟩ := G.box
  have hck : CapV 1 kv := hck
  obtain ⟨sv, gv, cv0, cv', fv, rfl, hbx, B⟩ := H.box
  have s0 : Same [] h (h.new (.cells true [sv, gv, cv0, cv', fv, .int .i64 m.main])) := Same.new _ _
  have FB := FB _ s0
  generalize hg : h.new (.cells true [sv, gv, cv0, cv', fv, .int .i64 m.main]) = g at *
  have s1 : Same [] g (g.new (.cells true [.int .i64 f.pa, .int .i64 f.ca, .int .i64 f.sl, .int .i64 f.re, kv, cv, mv])) := Same.new _ _
  have B1 := B.mono s1
  generalize hg1 : g.new (.cells true [.int .i64 f.pa, .int .i64 f.ca, .int .i64 f.sl, .int .i64 f.re, kv, cv, mv]) = g1 at *
  have s2 : Same [] h g1 := s0.trans s1
  have hkl := FB.bnd.2
  rw [mxl] at hkl
  -- the first 64 kinds
  obtain ⟨v', e5, hv'⟩ : ∃ v', slcP 1 kv none (some (.int .i64 (min (f.kinds.length : Int) 64))) none = some v' ∧ RdW g1 1 v' ((f.kinds.take 64).map AV.bool) (f.kinds.take 64).length := by
    have hR := FB.ks
    have hmin : (min (f.kinds.length : Int) 64) = ((f.kinds.take 64).length : Int) := by rw [List.length_take]; omega
    rw [hmin]
    have hle : (f.kinds.take 64).length ≤ f.kinds.length := by rw [List.length_take]; omega
    rcases hR.eq with ⟨rfl, h0⟩ | ⟨bb, o, c, rfl, hb, hgg⟩
    · have : f.kinds = [] := List.eq_nil_of_length_eq_zero h0
      refine ⟨.sl none 0 (.ex 0), by rw [this]; rfl, ⟨by simp, .inl ⟨rfl, by rw [this]; rfl⟩⟩⟩
    · have hap : CapOk 1 f.kinds.length c := by
        rcases hck with hc' | ⟨p, n, c', hc', h4⟩
        · cases hc'
        · cases hc'; exact h4
      have blk : (f.kinds.take 64).length ≠ 0 → ∃ w pre rest, pre.length = o ∧ g1.get bb = some (.cells w (pre ++ (f.kinds.take 64).map AV.bool ++ rest)) := fun hne => by
        obtain ⟨w, pre, rest, ho, hget⟩ := hgg (by omega)
        refine ⟨w, pre, (f.kinds.drop 64).map AV.bool ++ rest, ho, ?_⟩
        rw [hget]
        have : f.kinds.map AV.bool = (f.kinds.take 64).map AV.bool ++ (f.kinds.drop 64).map AV.bool := by rw [← List.map_append, List.take_append_drop]
        rw [this]; simp only [List.append_assoc]
      cases c with
      | ex k =>
        simp only [CapOk] at hap
        refine ⟨.sl (some (bb, o)) (f.kinds.take 64).length (.ex k), ?_, ⟨by simp, .inr ⟨bb, o, .ex k, rfl, hb, blk⟩⟩⟩
        simp only [slcP, sliceEx, mostA, highA, lowA, boundA, Option.bind_some]
        rw [if_pos ⟨by omega, by omega⟩]
        simp only [Option.bind_some, Int.toNat_natCast, Nat.zero_mul, addA, Option.map_some, Nat.add_zero, Nat.sub_zero, ite_self]
      | un s =>
        simp only [CapOk] at hap
        subst hap
        refine ⟨.sl (some (bb, o)) (f.kinds.take 64).length (.un 1), ?_, ⟨by simp, .inr ⟨bb, o, .un 1, rfl, hb, blk⟩⟩⟩
        simp only [slcP, sliceUn, ne_eq, not_true_eq_false, if_false, highA, lowA, boundA]
        rw [if_pos ⟨by omega, by omega⟩]
        simp only [Option.bind_some, Int.toNat_natCast, Nat.zero_mul, addA, Option.map_some, Nat.add_zero, Nat.sub_zero]
  refine Ok.eq ?_ (by simp -implicitDefEqProofs only [k_live_Maps, hbx, hbf, mk_some, hg, hg1, faP_ptr, FB.l4, FB.ln4, Option.bind_some, min_i, e5, hv'.lnL]; rfl)
  refine ok_lp (kinds_loop hv' (by rw [List.length_take]; omega)) ?_
  rintro _ vs g2 ⟨rfl, hg2, hv⟩
  simp only at hg2 hv
  subst hg2
  refine Ok.eq ?_ (by simp -implicitDefEqProofs only [if_true, thenK_normal, B1.la, FB.la, Option.bind_some]; rfl)
  refine ok_cl (sets_ok B1.rd FB.rd hc hn) ?_
  rintro v3 g3 ⟨s, S⟩
  simp only at S
  obtain ⟨b, rfl, hb1, hb2, hb3⟩ := S.eq
  have hls : lnL (.sl (some (b, 0)) s.length (.ex s.length)) = some (.int .i64 s.length) := by simp
  have hsl := S.len
  refine Ok.eq ?_ (by simp -implicitDefEqProofs only [hls, Option.bind_some]; rfl)
  refine ok_lp (mask_loop (g0 := h) hv (s2.trans S.same) (Nat.le_trans s2.next hb1) hb2 hb3 (by omega)) ?_
  rintro _ vs2 g4 ⟨rfl, hs4, hb4, hg4⟩
  simp only at hs4 hb4 hg4
  refine ok_val (v := .sl (some (b, 0)) s.length (.ex s.length)) (g := g4) (by simp -implicitDefEqProofs only [if_true, thenK_normal]) ⟨s, hs4, ⟨b, rfl, Nat.le_trans s2.next hb1, hb4, hg4⟩, hsl, S.fix, S.low⟩
end Go.Ab.F

namespace Go.Ab.F
open Go Go.Ab
set_option linter.all false
set_option linter.unusedSimpArgs false
attribute [local congr] c_bind c_cl c_mk c_lp c_clC c_gQ c_gV c_condE c_thenK

/-- The sets' slice, as it is read. -/
structure SlW (g : Heap) (b : Nat) (s : List (BitVec 64)) : Prop where
  blk : g.get b = some (.cells true (s.map w64))
  lt : b < g.next
theorem SlW.mono {g g' : Heap} {b : Nat} {s : List (BitVec 64)} (H : SlW g b s) (e : Same [] g g') : SlW g' b s := ⟨by rw [e.get b H.lt (by simp)]; exact H.blk, Nat.lt_of_lt_of_le H.lt e.next⟩
theorem SlW.ld {g : Heap} {b : Nat} {s : List (BitVec 64)} (H : SlW g b s) {n : Nat} (h1 : n < s.length) : ldS g (.ptr (some (b, n))) = some (w64 (s.getD n 0#64)) := by
  rw [ldS_at H.blk, List.getElem?_map, List.getElem?_eq_getElem h1]; simp [List.getElem?_eq_getElem h1]
theorem SlW.ix {s : List (BitVec 64)} {b n : Nat} (h1 : n < s.length) : iaS 1 (.sl (some (b, 0)) s.length (.ex s.length)) (.int .i64 (n : Int)) = some (.ptr (some (b, n))) := by
  rw [iaS_sl 1 (b, 0) _ _ _ _ ⟨by omega, by omega⟩]; simp
theorem neq_w0 (a : BitVec 64) : eqP (some (.int .u64)) none false .neq (w64 a) (.int .u64 0) = some (.bool (!decide (a = 0#64))) := by
  rw [zero_w, neq_w]
theorem andn_zero {a b : BitVec 64} (h : SubW a b) : a &&& ~~~b = 0#64 := by
  apply BitVec.eq_of_getLsbD_eq
  intro i hi
  rw [BitVec.getLsbD_and, BitVec.getLsbD_not]
  cases ha : a.getLsbD i with
  | false => simp
  | true => simp [h i ha, hi]

theorem fits_reads {g : Heap} {v q : AV} {b pc : Nat} {l : List Int} {s : List (BitVec 64)} (H : RdW g 1 v (wI l) l.length) (hl : l.length ≤ 1048576) (S : SlW g b s) (hpc : pc < s.length)
    (hok : ∀ n ∈ l, 0 ≤ n → n < 64 → (s.getD pc 0#64).getLsbD n.toNat = true) :
    Ok (k_law10_LiveFits_L0 (.sl (some (b, 0)) s.length (.ex s.length)) (.int .i64 (pc : Int)) v q (.int .i64 0) g) fun r => r.1 = .exit 2 ∧ r.2.2 = g ∧ r.2.1.getD 0 .bot = q := by
  refine ok_loop (fun k vs g' => ∃ i : Nat, vs = [q, .int .i64 i] ∧ k + i = l.length ∧ g' = g) ?_ (n := l.length) (by omega) ⟨0, rfl, rfl, rfl⟩
  rintro k vs g' ⟨i, rfl, hk, rfl⟩
  rw [gD0, gD1]
  by_cases hi : i < l.length
  · obtain ⟨n, hn⟩ : ∃ n, l[i]? = some n := ⟨_, List.getElem?_eq_getElem hi⟩
    have hi' : (i : Int) < l.length := by omega
    obtain ⟨b2, o, _, hx, hl2⟩ := H.at (i := i) (x := .int .i64 n) (by simp [wI, hn])
    have hix := SlW.ix (b := b) hpc
    have hld := S.ld hpc
    have go : ∀ x, x = some (Ex.normal, [q, AV.int .i64 ((i + 1 : Nat) : Int)], g') → Ok x fun r => (r.1 = .normal ∧ ∃ k', k' < k ∧ ∃ i : Nat, r.2.1 = [q, .int .i64 i] ∧ k' + i = l.length ∧ r.2.2 = g') ∨ (r.1 ≠ .normal ∧ r.1 = .exit 2 ∧ r.2.2 = g' ∧ r.2.1.getD 0 .bot = q) := fun x hx => by
      subst hx; exact Ok.of (.inl ⟨rfl, k - 1, by omega, i + 1, rfl, by omega, rfl⟩)
    by_cases h0 : 0 ≤ n
    · by_cases h1 : n < 64
      · have hs := hok n (List.mem_of_getElem? hn) h0 h1
        refine go _ ?_
        simp -implicitDefEqProofs only [k_law10_LiveFits_b0, H.lnL, bin_lss, hi', decide_true, Option.bind_some, condE_true, hx, hl2, bin_geq, h0, h1, gdW_tt, gdW_ft, gdW_tup, gV_true, gV_false, pickP_bool, if_true, cv_u64 n h0 h1, shr_w _ n h0 h1, one_w, zero_w, and_w, eql_w, bit_zero, hs, hix, hld, Bool.not_true, Bool.false_eq_true, if_false, chk_nil, condE_false, bin_add, suc64 i (by omega)]
      · refine go _ ?_
        simp -implicitDefEqProofs only [k_law10_LiveFits_b0, H.lnL, bin_lss, hi', decide_true, decide_false, Option.bind_some, condE_true, hx, hl2, bin_geq, h0, h1, gdW_tt, gdW_ft, gdW_tup, gV_true, gV_false, pickP_bool, if_true, Bool.false_eq_true, if_false, chk_nil, condE_false, bin_add, suc64 i (by omega)]
    · refine go _ ?_
      simp -implicitDefEqProofs only [k_law10_LiveFits_b0, H.lnL, bin_lss, hi', decide_true, decide_false, Option.bind_some, condE_true, hx, hl2, bin_geq, h0, gdW_tt, gdW_ft, gdW_tup, gV_true, gV_false, pickP_bool, if_true, Bool.false_eq_true, if_false, chk_nil, condE_false, bin_add, suc64 i (by omega)]
  · have hi' : ¬ (i : Int) < l.length := by omega
    exact (Ok.of (r := (Ex.exit 2, [q, AV.int .i64 (i : Int)], g')) (.inr ⟨by simp, rfl, rfl, rfl⟩)).eq (by simp -implicitDefEqProofs only [k_law10_LiveFits_b0, H.lnL, bin_lss, hi', decide_false, Option.bind_some, condE_false])
theorem fits_writes {g : Heap} {v : AV} {l : List Int} {w : BitVec 64} (H : RdW g 1 v (wI l) l.length) (hl : l.length ≤ 1048576) :
    Ok (k_law10_LiveFits_L1 v (w64 w) (.int .i64 0) g) fun r => r.1 = .exit 4 ∧ r.2.2 = g ∧ r.2.1.getD 0 .bot = w64 (l.foldl (fun a n => a ||| bitB n) w) := by
  refine ok_loop (fun k vs g' => ∃ i : Nat, vs = [w64 ((l.take i).foldl (fun a n => a ||| bitB n) w), .int .i64 i] ∧ k + i = l.length ∧ g' = g) ?_ (n := l.length) (by omega) ⟨0, rfl, rfl, rfl⟩
  rintro k vs g' ⟨i, rfl, hk, rfl⟩
  rw [gD0, gD1]
  by_cases hi : i < l.length
  · obtain ⟨n, hn⟩ : ∃ n, l[i]? = some n := ⟨_, List.getElem?_eq_getElem hi⟩
    have hi' : (i : Int) < l.length := by omega
    obtain ⟨b2, o, _, hx, hl2⟩ := H.at (i := i) (x := .int .i64 n) (by simp [wI, hn])
    have hs := or_step (a := w) hn
    refine (Ok.of (r := (Ex.normal, [w64 ((l.take (i + 1)).foldl (fun a n => a ||| bitB n) w), AV.int .i64 ((i + 1 : Nat) : Int)], g')) (.inl ⟨rfl, k - 1, by omega, i + 1, rfl, by omega, rfl⟩)).eq ?_
    by_cases h0 : 0 ≤ n
    · by_cases h1 : n < 64
      · have e := shl_one n h0 h1
        rw [cv_u64 n h0 h1, Option.bind_some] at e
        have hb : bitB n = 1#64 <<< n.toNat := by simp only [bitB, h0, h1, and_self, if_true]
        simp -implicitDefEqProofs only [k_law10_LiveFits_b1, H.lnL, bin_lss, hi', decide_true, Option.bind_some, condE_true, hx, hl2, bin_geq, h0, h1, gdW_tt, gQ_true, cl_some, pickP_bool, if_true, cv_u64 n h0 h1, e, or_w, k_law10_LiveFits_j0, bin_add, suc64 i (by omega), hs, hb]
      · have hb : bitB n = 0#64 := by simp only [bitB, h1, and_false, if_false]
        simp -implicitDefEqProofs only [k_law10_LiveFits_b1, H.lnL, bin_lss, hi', decide_true, decide_false, Option.bind_some, condE_true, condE_false, hx, hl2, bin_geq, h0, h1, gdW_tt, gQ_true, cl_some, pickP_bool, if_true, k_law10_LiveFits_j0, bin_add, suc64 i (by omega), hs, hb, BitVec.or_zero]
    · have hb : bitB n = 0#64 := by simp only [bitB, h0, false_and, if_false]
      simp -implicitDefEqProofs only [k_law10_LiveFits_b1, H.lnL, bin_lss, hi', decide_true, decide_false, Option.bind_some, condE_true, condE_false, hx, hl2, bin_geq, h0, gdW_ft, gdW_tup, gQ_false, pickP_bool, Bool.false_eq_true, if_false, k_law10_LiveFits_j0, bin_add, suc64 i (by omega), hs, hb, BitVec.or_zero]
  · have hi' : ¬ (i : Int) < l.length := by omega
    refine (Ok.of (r := (Ex.exit 4, [w64 ((l.take i).foldl (fun a n => a ||| bitB n) w), AV.int .i64 (i : Int)], g')) (.inr ⟨by simp, rfl, rfl, ?_⟩)).eq (by simp -implicitDefEqProofs only [k_law10_LiveFits_b1, H.lnL, bin_lss, hi', decide_false, Option.bind_some, condE_false])
    show w64 ((l.take i).foldl (fun a n => a ||| bitB n) w) = _
    rw [List.take_of_length_le (by omega)]
theorem fits_follows {g : Heap} {v q : AV} {b pc : Nat} {vs0 : List AV} {l : List Int} {s : List (BitVec 64)} {w : BitVec 64} (hw : vs0.getD 0 .bot = w64 w) (H : RdW g 1 v (wI l) l.length) (hl : l.length ≤ 1048576) (S : SlW g b s) (hpc : pc < s.length)
    (hr : ∀ n ∈ l, 0 ≤ n ∧ n < s.length) (hok : ∀ n ∈ l, sAt s n &&& ~~~w &&& ~~~(s.getD pc 0#64) = 0#64) :
    Ok (k_law10_LiveFits_L2 (.sl (some (b, 0)) s.length (.ex s.length)) (.int .i64 (pc : Int)) vs0 v q (.int .i64 0) g) fun r => r.1 = .exit 6 ∧ r.2.2 = g ∧ r.2.1.getD 0 .bot = q := by
  refine ok_loop (fun k vs g' => ∃ i : Nat, vs = [q, .int .i64 i] ∧ k + i = l.length ∧ g' = g) ?_ (n := l.length) (by omega) ⟨0, rfl, rfl, rfl⟩
  rintro k vs g' ⟨i, rfl, hk, rfl⟩
  rw [gD0, gD1]
  by_cases hi : i < l.length
  · obtain ⟨n, hn⟩ : ∃ n, l[i]? = some n := ⟨_, List.getElem?_eq_getElem hi⟩
    have hi' : (i : Int) < l.length := by omega
    obtain ⟨b2, o, _, hx, hl2⟩ := H.at (i := i) (x := .int .i64 n) (by simp [wI, hn])
    obtain ⟨h0, h1⟩ := hr n (List.mem_of_getElem? hn)
    have hz := hok n (List.mem_of_getElem? hn)
    have hix := SlW.ix (b := b) hpc
    have hld := S.ld hpc
    have hix2 := SlW.ix (b := b) (n := n.toNat) (s := s) (by omega)
    rw [show ((n.toNat : Nat) : Int) = n by omega] at hix2
    have hld2 : ldS g' (.ptr (some (b, n.toNat))) = some (w64 (sAt s n)) := S.ld (by omega)
    refine (Ok.of (r := (Ex.normal, [q, AV.int .i64 ((i + 1 : Nat) : Int)], g')) (.inl ⟨rfl, k - 1, by omega, i + 1, rfl, by omega, rfl⟩)).eq ?_
    simp -implicitDefEqProofs only [k_law10_LiveFits_b2, H.lnL, bin_lss, hi', decide_true, Option.bind_some, condE_true, hx, hl2, hix2, hld2, hw, andNot_w, hix, hld, neq_w0, hz, Bool.not_true, chk_nil, condE_false, bin_add, suc64 i (by omega)]
  · have hi' : ¬ (i : Int) < l.length := by omega
    exact (Ok.of (r := (Ex.exit 6, [q, AV.int .i64 (i : Int)], g')) (.inr ⟨by simp, rfl, rfl, rfl⟩)).eq (by simp -implicitDefEqProofs only [k_law10_LiveFits_b2, H.lnL, bin_lss, hi', decide_false, Option.bind_some, condE_false])
theorem fits_loop {g0 g : Heap} {p q b b2 : Nat} {m : Md} {f : Fn} {sv gv kv cv fv kv' cv' mv' : AV} {s t : List (BitVec 64)} (B : MdB g0 p m sv gv kv cv fv) (F : FnB g0 q f kv' cv' mv') (e : Same [] g0 g) (hc : m.cases.length ≤ 60) (hn : f.code.length ≤ 200)
    (S : SlW g b s) (T : SlW g b2 t) (hs : s.length = f.code.length) (ht : t.length = f.code.length) (hF : Fix m f s) (hts : ∀ n : Nat, SubW (t.getD n 0#64) (s.getD n 0#64)) :
    Ok (k_law10_LiveFits_L3 (.ptr (some (p, 0))) (.ptr (some (q, 0))) (.sl (some (b, 0)) s.length (.ex s.length)) (.sl (some (b2, 0)) t.length (.ex t.length)) (.bool false) (.int .i64 0) g) fun r => r.1 = .exit 0 := by
  refine ok_loop (fun k vs g' => ∃ (pc : Nat) (x : AV), vs = [x, .int .i64 (pc : Int)] ∧ k + pc = s.length ∧ Same [] g g') ?_ (n := s.length) (by omega) ⟨0, _, rfl, rfl, Same.refl _ _⟩
  rintro k vs g' ⟨pc, x, rfl, hk, e'⟩
  rw [gD0, gD1]
  have e0 := e.trans e'
  have hls : lnL (.sl (some (b, 0)) s.length (.ex s.length)) = some (.int .i64 s.length) := by simp
  by_cases hpc : pc < s.length
  · have hpc' : (pc : Int) < s.length := by omega
    obtain ⟨ins, hins⟩ : ∃ ins, f.code[pc]? = some ins := ⟨_, List.getElem?_eq_getElem (by omega)⟩
    have B1 := B.mono e0
    have F1 := F.mono e0
    have S1 := S.mono e'
    have T1 := T.mono e'
    have hiw := F1.wf (List.mem_of_getElem? hins)
    obtain ⟨b1, o1, hix, hla, hlo⟩ := F1.code hins
    have z1 := andn_zero (hts pc)
    refine Ok.eq ?_ (by simp -implicitDefEqProofs only [k_law10_LiveFits_b3, hls, bin_lss, hpc', decide_true, Option.bind_some, condE_true, SlW.ix (b := b) hpc, S1.ld hpc, SlW.ix (b := b2) (s := t) (n := pc) (by omega), T1.ld (n := pc) (by omega), andNot_w, neq_w0, z1, Bool.not_true, chk_nil, condE_false, B1.la, faP_ptr, F1.l5, hix, hla]; rfl)
    refine ok_cl (reads_ok B1.rd ins hiw hc) ?_
    intro v3 g3 h3
    simp only at h3
    have hrl := readsL_len (i := ins) hc
    have e3 := h3.same
    have S3 := S1.mono e3
    refine ok_lp (fits_reads (q := x) h3.rd (by omega) S3 hpc fun n hn' h0 h1 => read_in hF hins hn' h0 h1) ?_
    rintro _ vs g3' ⟨rfl, hg3, hv⟩
    simp only at hg3 hv
    subst hg3
    have B3 := B1.mono e3
    have F3 := F1.mono e3
    obtain ⟨b4, o4, hix2, hla2, hlo2⟩ := F3.code hins
    by_cases c41 : ins.op = 41
    · exact (Ok.of (r := (Ex.normal, [vs.getD 0 .bot, AV.int .i64 ((pc + 1 : Nat) : Int)], g3')) (.inl ⟨rfl, k - 1, by omega, pc + 1, _, rfl, by omega, e'.trans e3⟩)).eq (by
        simp -implicitDefEqProofs only [if_true, thenK_normal, faP_ptr, F3.l5, Option.bind_some, hix2, hlo2, eql_int, c41, decide_true, condE_true, bin_add, suc64 pc (by omega)])
    refine Ok.eq ?_ (by simp -implicitDefEqProofs only [if_true, thenK_normal, faP_ptr, F3.l5, Option.bind_some, hix2, hla2, hlo2, eql_int, c41, decide_false, condE_false]; rfl)
    refine ok_cl (writes_ok ins) ?_
    intro v4 g4 h4
    simp only at h4
    have hwl := writesL_len ins
    have e4 := h4.same
    refine ok_lp (fits_writes (w := 0#64) h4.rd (by omega)) ?_
    rintro _ vs2 g4' ⟨rfl, hg4, hv2⟩
    simp only at hg4 hv2
    subst hg4
    have B4 := B3.mono e4
    have F4 := F3.mono e4
    refine Ok.eq ?_ (by simp -implicitDefEqProofs only [if_true, thenK_normal, B4.la, F4.la, Option.bind_some]; rfl)
    refine ok_cl (follows_ok B4.rd F4.rd (pc : Int) hc (wfI_nat (by omega))) ?_
    intro v5 g5 h5
    simp only at h5
    have hfl := followsL_len hc f (pc : Int)
    have e5 := h5.same
    have S5 := (S3.mono e4).mono e5
    refine ok_lp (fits_follows (q := vs.getD 0 .bot) hv2 h5.rd (by omega) S5 hpc (fun n hn' => by have := followsL_mem hn'; omega) fun n hn' => ?_) ?_
    · refine andn_zero fun j hj => ?_
      rw [BitVec.getLsbD_and, BitVec.getLsbD_not] at hj
      simp only [Bool.and_eq_true, Bool.not_eq_true', decide_eq_true_eq] at hj
      obtain ⟨h1, h2, h3'⟩ := hj
      refine follow_in hF hins c41 hn' h1 ?_
      rw [fold_bit j h2] at h3'
      simpa using h3'
    · rintro _ vs6 g6 ⟨rfl, hg6, hv6⟩
      simp only at hg6 hv6
      subst hg6
      exact (Ok.of (r := (Ex.normal, [vs6.getD 0 .bot, AV.int .i64 ((pc + 1 : Nat) : Int)], g6)) (.inl ⟨rfl, k - 1, by omega, pc + 1, _, rfl, by omega, e'.trans ((e3.trans e4).trans e5)⟩)).eq (by
        simp -implicitDefEqProofs only [if_true, reduceCtorEq, if_false, thenK_normal, bin_add, suc64 pc (by omega), Option.bind_some])
  · have hpc' : ¬ (pc : Int) < s.length := by omega
    exact (Ok.of (r := (Ex.exit 0, [x, AV.int .i64 (pc : Int)], g')) (.inr ⟨by simp, rfl⟩)).eq (by simp -implicitDefEqProofs only [k_law10_LiveFits_b3, hls, bin_lss, hpc', decide_false, Option.bind_some, condE_false])
theorem liveFits_ok {h : Heap} {v : AV} {r : List AV} {m : Md} {f : Fn} (H : MdRd h v m) (G : FnRd h r f) (hl : (1 + m.funcs.length) * 104 ≤ 2 ^ 47) (hq : ∀ g, Same [] h g → k_law10_awake g = some (.bool true, g)) :
    Ok (k_law10_LiveFits v (.agg r) h) fun r => r.1 = .bool true := by
  obtain ⟨kv', cv', mv', rfl, hbf, FB⟩ := G.box
  have H0 := H
  obtain ⟨sv, gv, kv, cv, fv, rfl, hbx, B⟩ := H.box
  have s0 : Same [] h (h.new (.cells true [sv, gv, kv, cv, fv, .int .i64 m.main])) := Same.new _ _
  have FB := FB _ s0
  have hget : (h.new (.cells true [sv, gv, kv, cv, fv, .int .i64 m.main])).get h.next = some (.cells true [sv, gv, kv, cv, fv, .int .i64 m.main]) := get_new_eq
  have hn1 : (h.new (.cells true [sv, gv, kv, cv, fv, .int .i64 m.main])).next = h.next + 1 := rfl
  generalize hg : h.new (.cells true [sv, gv, kv, cv, fv, .int .i64 m.main]) = g at *
  have s1 : Same [] g (g.new (.cells true [.int .i64 f.pa, .int .i64 f.ca, .int .i64 f.sl, .int .i64 f.re, kv', cv', mv'])) := Same.new _ _
  have B1 := B.mono s1
  have hget1 : (g.new (.cells true [.int .i64 f.pa, .int .i64 f.ca, .int .i64 f.sl, .int .i64 f.re, kv', cv', mv'])).get h.next = some (.cells true [sv, gv, kv, cv, fv, .int .i64 m.main]) := by rw [s1.get _ (by omega) (by simp)]; exact hget
  generalize hg1 : g.new (.cells true [.int .i64 f.pa, .int .i64 f.ca, .int .i64 f.sl, .int .i64 f.re, kv', cv', mv']) = g1 at *
  have s2 : Same [] h g1 := s0.trans s1
  refine Ok.eq ?_ (by simp -implicitDefEqProofs only [k_law10_LiveFits, hbx, hbf, mk_some, hg, hg1, hq g1 s2, cl_some, un_not, Option.bind_some, Bool.not_true, condE_false]; rfl)
  refine ok_front H0 G s2 B1 FB (Nat.le_refl _) (by omega) hget1 hl fun g5 v5 s5 B5 F5 => ?_
  refine Ok.eq ?_ (by simp -implicitDefEqProofs only [B5.la, Option.bind_some]; rfl)
  refine ok_cl (big_ok B5.rd) ?_
  rintro _ g6 ⟨s6, bb, rfl, hsm⟩
  simp only at s6
  cases bb with
  | true => exact Ok.of (r := (AV.bool true, g6)) rfl
  | false =>
    obtain ⟨_, hc, hfs, _⟩ := hsm rfl
    have hfl := (hfs 0 f rfl).1
    have hc : m.cases.length ≤ 60 := hc
    have B6 := B5.mono s6
    have F6 := F5.mono s6
    refine Ok.eq ?_ (by simp -implicitDefEqProofs only [condE_false, B6.la, F6.la, Option.bind_some]; rfl)
    refine ok_cl (sets_ok B6.rd F6.rd hc (by omega)) ?_
    rintro v7 g7 ⟨s, S⟩
    simp only at S
    obtain ⟨b, rfl, hb1, hb2, hb3⟩ := S.eq
    have B7 := B6.mono S.same
    have F7 := F6.mono S.same
    refine Ok.eq ?_ (by simp -implicitDefEqProofs only [B7.la, F7.la, Option.bind_some]; rfl)
    refine ok_cl (maps_ok B7.rd F7.rd hc (by omega)) ?_
    rintro v8 g8 ⟨t, M⟩
    simp only at M
    obtain ⟨b2, rfl, hb4, hb5, hb6⟩ := M.eq
    have F8 := F7.mono M.same
    have hl1 : lnL (.sl (some (b, 0)) s.length (.ex s.length)) = some (.int .i64 s.length) := by simp
    have hl2 : lnL (.sl (some (b2, 0)) t.length (.ex t.length)) = some (.int .i64 t.length) := by simp
    have e1 : (s.length : Int) = f.code.length := by rw [S.len]
    have e2 : (t.length : Int) = f.code.length := by rw [M.len]
    have hmt : (t.map fun a => a &&& kindsB (f.kinds.take 64)).length = t.length := by simp
    have closed : ∀ (pc : Nat) i, f.code[pc]? = some i → SubW (genL (frontM f m) f s pc i) (s.getD pc 0#64) := fun pc i hi => by rw [S.fix pc i hi]; exact SubW.refl _
    have hsub := M.low s closed
    refine Ok.eq ?_ (by simp -implicitDefEqProofs only [hl1, hl2, faP_ptr, F8.l5, F8.ln5, Option.bind_some, neq_int, e1, e2, decide_true, Bool.not_true, gdW_ff, gQ_true, cl_some, pickP_bool, Bool.false_eq_true, if_false, condE_false]; rfl)
    have hL := fits_loop (b := b) (b2 := b2) B6 F6 (S.same.trans M.same) hc hfl (SlW.mono ⟨hb3, hb2⟩ M.same) (t := t.map fun a => a &&& kindsB (f.kinds.take 64)) ⟨hb6, hb5⟩ S.len (by rw [hmt]; exact M.len) S.fix (fun n j hj => by
      have : (t.getD n 0#64).getLsbD j = true := by
        rw [List.getD_eq_getElem?_getD, List.getElem?_map] at hj
        cases hx : t[n]? with
        | none => rw [hx] at hj; simp at hj
        | some a =>
          rw [hx] at hj
          simp only [Option.map_some, Option.getD_some, BitVec.getLsbD_and, Bool.and_eq_true] at hj
          rw [List.getD_eq_getElem?_getD, hx]; exact hj.1
      exact hsub n j this)
    rw [hmt] at hL
    refine ok_lp hL ?_
    rintro _ vs g9 rfl
    exact ok_val (v := .bool true) (g := g9) (by simp -implicitDefEqProofs only [if_true, thenK_normal]) rfl
end Go.Ab.F
