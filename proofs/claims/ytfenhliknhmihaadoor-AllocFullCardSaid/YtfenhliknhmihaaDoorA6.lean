import Derived.Test.YtfenhliknhmihaaDoorA5
namespace Go.Ab.F
open Go Go.Ab
set_option linter.all false
attribute [local congr] c_bind c_cl c_mk c_lp c_clC c_gQ c_gV c_condE c_thenK

/-! ### Places and their bits -/
def bitOf (q : Nat) : BitVec 64 := BitVec.twoPow 64 q
theorem shl_one (q : Nat) (hq : q < 64) : binP .shl (.int .u64 1) (.int .u64 (q : Int)) = some (.int .u64 (bitOf q).toNat) := by
  have h := shl_u64 1#64 .u64 q (by omega)
  have e : ((1#64).toNat : Int) = 1 := rfl
  rw [e] at h
  rw [h, Int.toNat_natCast, ← BitVec.twoPow_eq]; rfl
theorem bit_get (q i : Nat) (hq : q < 64) : (bitOf q).getLsbD i = decide (i = q) := by
  unfold bitOf
  rw [BitVec.getLsbD_twoPow]
  by_cases h : i = q
  · subst h; simp [hq]
  · have : ¬ q = i := fun e => h e.symm
    simp [h, this]
theorem wp_cases (c : Int) (q : Int) (h0 : 0 ≤ q) (h : q < placesOf c) : 0 ≤ c ∧ c ≤ 5 ∧ 2 ≤ wordsOf c ∧ q * wordsOf c + wordsOf c ≤ 64 ∧ placesOf c * wordsOf c = 64 ∧ placesOf c ≤ 32 := by
  rcases cls_cases c with (rfl | rfl | rfl | rfl | rfl | rfl) | ⟨_, h2, _⟩
  all_goals simp only [wordsOf, placesOf] at *
  all_goals first
    | (simp at h ⊢; omega)
    | omega
theorem addr_eq (n q c : Int) (h : Heap) (hn : 1 ≤ n ∧ n < 512) (hq : 0 ≤ q) (hc : q < placesOf c) : k_geom_Addr (.int .i64 n) (.int .i64 q) (.int .i64 c) h = some (.int .i64 (n * 64 + q * wordsOf c), h) := by
  obtain ⟨_, _, h3, h4, h5, h6⟩ := wp_cases c q hq hc
  have e1 : ¬ n < 1 := by omega
  have e2 : ¬ 512 ≤ n := by omega
  have e3 : ¬ q < 0 := by omega
  have e4 : ¬ placesOf c ≤ q := by omega
  have h7 : 0 ≤ q * wordsOf c := Int.mul_nonneg hq (by omega)
  simp -implicitDefEqProofs [k_geom_Addr, e1, e2, e3, places_eq, e4, words_eq]
  rw [wrap_i64 (n := n * 64) (by omega) (by omega), wrap_i64 (n := q * wordsOf c) (by omega) (by omega), wrap_i64 (by omega) (by omega)]

/-! ### Slices of a list of words -/
def clr (l : List Int) (o n : Nat) : List Int := l.take o ++ List.replicate n 0 ++ l.drop (o + n)
theorem clr_length {l : List Int} {o n : Nat} (h : o + n ≤ l.length) : (clr l o n).length = l.length := by
  simp only [clr, List.length_append, List.length_take, List.length_replicate, List.length_drop]; omega
theorem rep_eq (z : List AV) : ∀ n, rep z n = (List.replicate n z).flatten
  | 0 => rfl
  | n + 1 => by rw [List.replicate_succ, List.flatten_cons, ← rep_eq z n]; rfl
theorem rep_one (v : AV) (n : Nat) : rep [v] n = List.replicate n v := by
  rw [rep_eq]
  induction n with
  | zero => rfl
  | succ n ih => rw [List.replicate_succ, List.flatten_cons, ih, List.replicate_succ]; rfl
theorem slc_eq {w len : Nat} {c : Cap} (hc : capOk 1 len c) {lo hi : Int} (h0 : 0 ≤ lo) (h1 : lo ≤ hi) (h2 : hi ≤ len) :
    ∃ c', slcP 1 (.sl (some (w, 0)) len c) (some (.int .i64 lo)) (some (.int .i64 hi)) none = some (.sl (some (w, if lo = len ∧ c = .ex len then 0 else lo.toNat)) (hi - lo).toNat c') := by
  have b1 : boundA (.int .i64 hi) len = some hi.toNat := by simp only [boundA]; rw [if_pos ⟨by omega, h2⟩]
  have b2 : boundA (.int .i64 lo) hi.toNat = some lo.toNat := by simp only [boundA]; rw [if_pos ⟨h0, by omega⟩]
  have e : hi.toNat - lo.toNat = (hi - lo).toNat := by omega
  rcases hc with rfl | rfl
  · refine ⟨.ex (len - lo.toNat), ?_⟩
    simp only [slcP, sliceEx, mostA, highA, lowA, b1, b2, Option.bind_some, e]
    by_cases hl : len = lo.toNat
    · obtain rfl : lo = (len : Int) := by omega
      simp
    · have : ¬ lo = len := by omega
      simp [hl, this, addA]
  · refine ⟨.un 1, ?_⟩
    simp [slcP, sliceUn, highA, lowA, b1, b2, e, addA]
theorem clL_ok {h : Heap} {w : Nat} {ws : List Int} (hw : h.get w = some (.cells true (wsC ws))) {o n : Nat} (hn : 0 < n) (ho : o + n ≤ ws.length) (c : Cap) :
    clL 1 [.int .i64 0] h (.sl (some (w, o)) n c) = some (.tup [], h.put w (some (.cells true (wsC (clr ws o n))))) := by
  have hz : ¬ n = 0 := by omega
  have hr : (rep [AV.int .i64 0] n) = wsC (List.replicate n 0) := by rw [rep_one]; simp [wsC]
  have hall : (wsC (List.replicate n 0)).all scalar = true := by simp [wsC, scalar]
  simp only [clL, hz, if_false, List.length_singleton, ne_eq, not_true_eq_false, storeN, hr, hall, if_true, hw, spliceF_eq]
  rw [splice_some _ _ _ (by simp [wsC]; omega)]
  simp [wsC, clr]

/-! ### Take -/
theorem PAr.setS_ws (a : PAr) (n : Int) (x : PSp) : (a.setS n x).ws = a.ws := rfl
def PAr.take (a : PAr) (n : Int) : Int × Int × PAr :=
  if a.cls n = -1 then (0, 4, a) else
  if placesOf (a.at n).cls ≤ first0 (a.at n).tk then (0, 5, a) else
  (n * 64 + first0 (a.at n).tk * wordsOf (a.at n).cls, 0,
    ⟨clr a.ws (n * 64 + first0 (a.at n).tk * wordsOf (a.at n).cls).toNat (wordsOf (a.at n).cls).toNat,
     (a.setS n ⟨(a.at n).cls, (a.at n).tk ||| bitOf (first0 (a.at n).tk), (a.at n).md &&& ~~~ bitOf (first0 (a.at n).tk)⟩).sp⟩)
theorem take_ok {h : Heap} {p w s : Nat} {a : PAr} (H : ArAt h p w s a) (ht : Tabled h) (h0 : s ≠ 0) (n : Int) :
    Ok (k_arena_Arena_Take (.ptr (some (p, 0))) (.int .i64 n) h) fun r => r.1 = .tup [.int .i64 (a.take n).1, .int .i64 (a.take n).2.1] ∧ ArAt r.2 p w s (a.take n).2.2 ∧ Same [w, s] h r.2 := by
  by_cases h1 : a.cls n = -1
  · refine (Ok.of (r := (.tup [.int .i64 0, .int .i64 4], h)) ?_).eq (by simp -implicitDefEqProofs [k_arena_Arena_Take, class_eq H, h1])
    simp only [PAr.take, h1, if_true]
    exact ⟨trivial, H, Same.refl _ _⟩
  · have hn : a.has n := by
      by_cases hn : a.has n
      · exact hn
      · exact absurd (by simp only [PAr.cls, hn, if_false]) h1
    have hc : a.cls n = (a.at n).cls := by simp only [PAr.cls, hn, if_true]
    rw [hc] at h1
    obtain ⟨d, hd⟩ := H.ld1
    by_cases h2 : placesOf (a.at n).cls ≤ first0 (a.at n).tk
    · refine (Ok.of (r := (.tup [.int .i64 0, .int .i64 5], h)) ?_).eq (by
        simp -implicitDefEqProofs [k_arena_Arena_Take, class_eq H, hc, h1, hd, H.ix hn, H.ldt hn, first_eq _ ht, places_eq, h2])
      simp only [PAr.take, hc, h1, h2, if_true, if_false]
      exact ⟨trivial, H, Same.refl _ _⟩
    · have hq := wp_cases (a.at n).cls (first0 (a.at n).tk) (by omega) (by omega)
      generalize hqq : first0 (a.at n).tk = q at *
      obtain ⟨q1, q2, q3, q4, q5, q6⟩ := hq
      have hqw : (0 : Int) ≤ q * wordsOf (a.at n).cls := Int.mul_nonneg (by omega) (by omega)
      have H1 := H.sets n ⟨(a.at n).cls, (a.at n).tk ||| bitOf q, (a.at n).md⟩
      have hn1 := (a.setS_has n n ⟨(a.at n).cls, (a.at n).tk ||| bitOf q, (a.at n).md⟩).2 hn
      have e1 := PAr.setS_at ⟨(a.at n).cls, (a.at n).tk ||| bitOf q, (a.at n).md⟩ hn
      have l1 := H1.ldm hn1
      have s1 := H1.stm hn1 ((a.at n).md &&& ~~~ bitOf q)
      have H2 := H1.sets n ⟨(a.at n).cls, (a.at n).tk ||| bitOf q, (a.at n).md &&& ~~~ bitOf q⟩
      rw [e1] at l1 s1
      rw [PAr.setS_setS] at H2
      simp only [PAr.setS_setS] at s1 H2
      obtain ⟨c, hcap, hd2⟩ := H2.ld0
      simp only [PAr.setS_ws] at hcap hd2
      have hlen := H.len
      have hhi := H.hi
      have b1 := hn.1
      have b2 := hn.2
      have hsl : ∃ c', slcP 1 (.sl (some (w, 0)) a.ws.length c) (some (.int .i64 (n * 64 + q * wordsOf (a.at n).cls))) (some (.int .i64 (n * 64 + q * wordsOf (a.at n).cls + wordsOf (a.at n).cls))) none
          = some (.sl (some (w, (n * 64 + q * wordsOf (a.at n).cls).toNat)) (wordsOf (a.at n).cls).toNat c') := by
        obtain ⟨c', hc'⟩ := slc_eq (w := w) hcap (lo := n * 64 + q * wordsOf (a.at n).cls) (hi := n * 64 + q * wordsOf (a.at n).cls + wordsOf (a.at n).cls) (by omega) (by omega) (by simp only [PAr.setS_ws] at *; omega)
        refine ⟨c', hc'.trans ?_⟩
        rw [if_neg (by simp only [PAr.setS_ws] at *; omega)]
        congr 3; omega
      obtain ⟨c', hsl⟩ := hsl
      have hcl := clL_ok H2.hw (o := (n * 64 + q * wordsOf (a.at n).cls).toNat) (n := (wordsOf (a.at n).cls).toNat) (by omega) (by simp only [PAr.setS_ws] at *; omega) c'
      have H3 := H2.setWs (l := clr (a.setS n ⟨(a.at n).cls, (a.at n).tk ||| bitOf q, (a.at n).md &&& ~~~ bitOf q⟩).ws (n * 64 + q * wordsOf (a.at n).cls).toNat (wordsOf (a.at n).cls).toNat) (clr_length (by simp only [PAr.setS_ws] at *; omega))
      have hw64 : IntKind.u64.wrap (q : Int) = q := wrap_u64 (by omega) (by omega)
      have hwr : IntKind.i64.wrap (n * 64 + q * wordsOf (a.at n).cls + wordsOf (a.at n).cls) = n * 64 + q * wordsOf (a.at n).cls + wordsOf (a.at n).cls := wrap_i64 (by omega) (by omega)
      refine (Ok.of ?_).eq (by
        simp -implicitDefEqProofs only [k_arena_Arena_Take, class_eq H, hc, h1, hd, H.ix hn, H.ldt hn, first_eq _ ht, hqq, places_eq, h2, cl_some, eql_int, decide_false, Option.bind_some, condE_false, nilV_ptr, faP_ptr, bin_geq, cvI_int, hw64, shl_one q (by omega), or_u64, ofInt_toNat, H.stt hn, l1, andNot_u64, s1, addr_eq n q (a.at n).cls _ ⟨by omega, by omega⟩ (by omega) (by omega), Nat.add_zero]
        simp -implicitDefEqProofs only [rdC, hd2, Option.bind_some, clC_some, words_eq, cl_some, bin_add, hwr, hsl, hcl]
        exact chk_two (same_sl _ _ _) hd2 hd2)
      simp only [PAr.take, hc, h1, hqq, h2, if_false]
      refine ⟨trivial, H3, ?_⟩
      exact ((Same.put _ _ _).trans ((Same.put _ _ _).sub (by simp)) |>.sub (T := [w, s]) (by simp)).trans ((Same.put _ _ _).sub (by simp))
end Go.Ab.F
