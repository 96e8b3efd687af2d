import Derived.Test.YtfenhliknhmihaaDoorArn

namespace Go.Ab.F
open Go Go.Ab
set_option linter.all false
attribute [local congr] c_bind c_cl c_mk c_lp c_clC c_gQ c_gV c_condE c_thenK

theorem gd0 (a : AV) (l : List AV) : (a :: l).getD 0 .bot = a := rfl
theorem gd1 (a b : AV) (l : List AV) : (a :: b :: l).getD 1 .bot = b := rfl
theorem gd2 (a b c : AV) (l : List AV) : (a :: b :: c :: l).getD 2 .bot = c := rfl
theorem gd3 (a b c d : AV) (l : List AV) : (a :: b :: c :: d :: l).getD 3 .bot = d := rfl
theorem suc64 (i : Nat) (h : i < 2 ^ 62) : IntKind.i64.wrap ((i : Int) + 1) = ((i + 1 : Nat) : Int) := by rw [wrap_i64 (by omega) (by omega)]; rfl
theorem eql_bool' (fs : Option (List (Nat × TypeDesc))) (a b : Bool) : eqP (some .bool) fs false .eql (.bool a) (.bool b) = some (.bool (decide (a = b))) := by rw [eql_bool]; cases a <;> cases b <;> rfl

/-! ### The class of so many words -/
def classOf (n : Int) : Int := if n < 1 then -1 else if n ≤ 2 then 0 else if n ≤ 4 then 1 else if n ≤ 8 then 2 else if n ≤ 16 then 3 else if n ≤ 32 then 4 else if n ≤ 64 then 5 else -1
theorem classOf_range (n : Int) : classOf n = -1 ∨ (0 ≤ classOf n ∧ classOf n ≤ 5 ∧ n ≤ wordsOf (classOf n) ∧ 1 ≤ n) := by
  unfold classOf wordsOf
  repeat' split
  all_goals omega
theorem classOf_step (n : Int) (i : Nat) (hi : i < 6) (hno : ∀ j : Nat, j < i → ¬ (1 ≤ n ∧ n ≤ wordsOf j)) (h : 1 ≤ n ∧ n ≤ wordsOf i) : classOf n = i := by
  have h0 := hno 0
  have h1 := hno 1
  have h2 := hno 2
  have h3 := hno 3
  have h4 := hno 4
  rcases (by omega : i = 0 ∨ i = 1 ∨ i = 2 ∨ i = 3 ∨ i = 4 ∨ i = 5) with rfl | rfl | rfl | rfl | rfl | rfl <;>
    simp [wordsOf] at h0 h1 h2 h3 h4 h <;> unfold classOf <;> repeat' split <;> omega
theorem classOf_none (n : Int) (hno : ∀ j : Nat, j < 6 → ¬ (1 ≤ n ∧ n ≤ wordsOf j)) : classOf n = -1 := by
  have h5 := hno 5 (by decide)
  simp [wordsOf] at h5
  unfold classOf
  repeat' split
  all_goals omega
theorem gclass_eq (n : Int) (h : Heap) : Ok (k_geom_Class (.int .i64 n) h) fun r => r = (.int .i64 (classOf n), h) := by
  have lp0 : Ok (k_geom_Class_L0 (.int .i64 n) (.int .i64 0) (.int .i64 0) h) fun r => (r.1 = .exit 0 ∧ r.2.2 = h ∧ classOf n = -1) ∨ (r.1 = .ret ∧ r.2.2 = h ∧ r.2.1.getD 0 .bot = .int .i64 (classOf n)) := by
    refine ok_loop (fun m vs g => ∃ (i : Nat), vs = [.int .i64 0, .int .i64 i] ∧ m + i = 6 ∧ h = g ∧ ∀ j : Nat, j < i → ¬ (1 ≤ n ∧ n ≤ wordsOf j)) ?_ (n := 6) (by omega) ⟨0, rfl, rfl, rfl, fun j hj => by omega⟩
    rintro m vs _ ⟨i, rfl, hm, rfl, hno⟩
    rw [gd0, gd1]
    by_cases hi : i < 6
    · have hlt : (i : Int) < 6 := by omega
      by_cases h1 : 1 ≤ n
      · by_cases h2 : n ≤ wordsOf i
        · refine (Ok.of (r := (.ret, [.int .i64 i, .int .i64 i], h)) ?_).eq (by
            simp -implicitDefEqProofs only [k_geom_Class_b0, bin_lss, hlt, decide_true, Option.bind_some, condE_true, bin_geq, h1, gdW_tt, gQ_true, words_eq, cl_some, bin_leq, h2, pickP_bool, if_true])
          exact .inr ⟨by simp, .inr ⟨rfl, rfl, by rw [classOf_step n i hi hno ⟨h1, h2⟩]; rfl⟩⟩
        · refine (Ok.of (r := (.normal, [.int .i64 0, .int .i64 ((i + 1 : Nat) : Int)], h)) ?_).eq (by
            simp -implicitDefEqProofs only [k_geom_Class_b0, bin_lss, hlt, decide_true, decide_false, Option.bind_some, condE_true, condE_false, bin_geq, h1, gdW_tt, gQ_true, words_eq, cl_some, bin_leq, h2, pickP_bool, if_true, bin_add, suc64 i (by omega)])
          refine .inl ⟨rfl, m - 1, by omega, i + 1, rfl, by omega, rfl, fun j hj hh => ?_⟩
          by_cases e : j = i
          · subst e; exact h2 hh.2
          · exact hno j (by omega) hh
      · refine (Ok.of (r := (.normal, [.int .i64 0, .int .i64 ((i + 1 : Nat) : Int)], h)) ?_).eq (by
          simp -implicitDefEqProofs only [k_geom_Class_b0, bin_lss, hlt, decide_true, decide_false, Option.bind_some, condE_true, condE_false, bin_geq, h1, gdW_ft, gQ_false, pickP_bool, Bool.false_eq_true, if_false, bin_add, suc64 i (by omega)])
        refine .inl ⟨rfl, m - 1, by omega, i + 1, rfl, by omega, rfl, fun j hj hh => h1 hh.1⟩
    · have hlt : ¬ (i : Int) < 6 := by omega
      refine (Ok.of (r := (.exit 0, [.int .i64 0, .int .i64 (i : Int)], h)) ?_).eq (by
        simp -implicitDefEqProofs only [k_geom_Class_b0, bin_lss, hlt, decide_false, Option.bind_some, condE_false])
      have : i = 6 := by omega
      subst this
      exact .inr ⟨by simp, .inl ⟨rfl, rfl, classOf_none n hno⟩⟩
  refine Ok.eq ?_ (by unfold k_geom_Class; rfl)
  refine ok_lp lp0 ?_
  rintro e vs g (⟨rfl, rfl, hc⟩ | ⟨rfl, rfl, hv⟩)
  · exact ok_val (v := .int .i64 (-1)) (g := g) rfl (by rw [hc])
  · simp only at hv
    exact ok_val (v := .int .i64 (classOf n)) (g := g) (by show some (vs.getD 0 .bot, g) = _; rw [hv]) rfl

/-! ### All places -/
def fullB (c : Int) : BitVec 64 := if c = 0 then 0xFFFFFFFF else if c = 1 then 0xFFFF else if c = 2 then 0xFF else if c = 3 then 0xF else if c = 4 then 3 else if c = 5 then 1 else 0
def pls (c : Int) : Nat := (placesOf c).toNat
theorem pls_eq {c : Int} (hc : 0 ≤ c ∧ c ≤ 5) : (pls c : Int) = placesOf c ∧ 1 ≤ pls c ∧ pls c ≤ 32 ∧ 2 ≤ wordsOf c ∧ wordsOf c ≤ 64 ∧ (pls c : Int) * wordsOf c = 64 := by
  rcases (by omega : c = 0 ∨ c = 1 ∨ c = 2 ∨ c = 3 ∨ c = 4 ∨ c = 5) with rfl | rfl | rfl | rfl | rfl | rfl <;> decide
theorem full_eq {c : Int} (hc : 0 ≤ c ∧ c ≤ 5) (h : Heap) : k_geom_Full (.int .i64 c) h = some (.int .u64 (fullB c).toNat, h) := by
  rcases (by omega : c = 0 ∨ c = 1 ∨ c = 2 ∨ c = 3 ∨ c = 4 ∨ c = 5) with rfl | rfl | rfl | rfl | rfl | rfl <;> rfl
theorem full_bits {c : Int} (hc : 0 ≤ c ∧ c ≤ 5) (j : Nat) (hj : j < 64) : (fullB c).getLsbD j = decide (j < pls c) := by
  have all : ∀ c : Fin 6, ∀ j : Fin 64, (fullB c.val).getLsbD j.val = decide (j.val < pls c.val) := by decide +kernel
  have := all ⟨c.toNat, by omega⟩ ⟨j, hj⟩
  rw [show ((⟨c.toNat, by omega⟩ : Fin 6).val : Int) = c by simp; omega] at this
  exact this

/-! ### An allocator -/
structure PAl where
  ar : PAr
  un : List Bool
def unC (l : List Bool) : List AV := l.map .bool
structure AlAt (h : Heap) (q u p w s : Nat) (l : PAl) : Prop where
  hq : ∃ c, h.get q = some (.cells true [.ptr (some (p, 0)), .sl (some (u, 0)) l.un.length c])
  hu : h.get u = some (.cells true (unC l.un))
  ar : ArAt h p w s l.ar
  qu : q ≠ u
  qp : q ≠ p
  qw : q ≠ w
  qs : q ≠ s
  up : u ≠ p
  uw : u ≠ w
  us : u ≠ s
  lq : q < h.next
  lu : u < h.next
  len : l.un.length = l.ar.sp.length
theorem AlAt.same {h h' : Heap} {q u p w s : Nat} {l : PAl} {S : List Nat} (H : AlAt h q u p w s l) (hs : Same S h h') (h1 : q ∉ S) (h2 : u ∉ S) (h3 : p ∉ S) (h4 : w ∉ S) (h5 : s ∉ S) : AlAt h' q u p w s l :=
  { hq := by rw [hs.get q H.lq h1]; exact H.hq
    hu := by rw [hs.get u H.lu h2]; exact H.hu
    ar := H.ar.same hs h3 h4 h5
    qu := H.qu, qp := H.qp, qw := H.qw, qs := H.qs, up := H.up, uw := H.uw, us := H.us
    lq := Nat.lt_of_lt_of_le H.lq hs.next, lu := Nat.lt_of_lt_of_le H.lu hs.next, len := H.len }
/-- The arena has turned, the rest has not. -/
theorem AlAt.arena {h h' : Heap} {q u p w s : Nat} {l : PAl} {a : PAr} (H : AlAt h q u p w s l) (hs : Same [w, s] h h') (ha : ArAt h' p w s a) (hl : a.sp.length = l.ar.sp.length) : AlAt h' q u p w s ⟨a, l.un⟩ :=
  { hq := by rw [hs.get q H.lq (by simp [H.qw, H.qs])]; exact H.hq
    hu := by rw [hs.get u H.lu (by simp [H.uw, H.us])]; exact H.hu
    ar := ha
    qu := H.qu, qp := H.qp, qw := H.qw, qs := H.qs, up := H.up, uw := H.uw, us := H.us
    lq := Nat.lt_of_lt_of_le H.lq hs.next, lu := Nat.lt_of_lt_of_le H.lu hs.next, len := H.len.trans hl.symm }
section
variable {h : Heap} {q u p w s : Nat} {l : PAl} (H : AlAt h q u p w s l)
include H
theorem AlAt.ld0 : ldS h (.ptr (some (q, 0))) = some (.ptr (some (p, 0))) := by
  obtain ⟨c, hq⟩ := H.hq
  rw [ldS_at hq]; rfl
theorem AlAt.ld1 : ∃ c, ldS h (.ptr (some (q, 1))) = some (.sl (some (u, 0)) l.un.length c) := by
  obtain ⟨c, hq⟩ := H.hq
  exact ⟨c, by rw [ldS_at hq]; rfl⟩
theorem AlAt.ldu {n : Nat} (hn : n < l.un.length) : ldS h (.ptr (some (u, n))) = some (.bool ((l.un[n]?).getD false)) := by
  rw [ldS_at H.hu]; simp [unC, hn]
theorem AlAt.stu {n : Nat} (hn : n < l.un.length) (b : Bool) : stP 1 h (.ptr (some (u, n))) (.bool b) = some (.bot, h.put u (some (.cells true (unC (l.un.set n b))))) := by
  rw [stP_one H.hu (by simpa [unC] using hn) rfl]; simp [unC, List.map_set]
theorem AlAt.setU (n : Nat) (b : Bool) : AlAt (h.put u (some (.cells true (unC (l.un.set n b))))) q u p w s ⟨l.ar, l.un.set n b⟩ :=
  { hq := by rw [get_put_ne H.qu, List.length_set]; exact H.hq
    hu := get_put_eq
    ar := H.ar.same (Same.put _ _ _) (by simp [Ne.symm H.up]) (by simp [Ne.symm H.uw]) (by simp [Ne.symm H.us])
    qu := H.qu, qp := H.qp, qw := H.qw, qs := H.qs, up := H.up, uw := H.uw, us := H.us
    lq := H.lq, lu := H.lu, len := by rw [List.length_set]; exact H.len }
theorem ixU {n : Nat} (hn : n < l.un.length) (c : Cap) : iaS 1 (.sl (some (u, 0)) l.un.length c) (.int .i64 (n : Int)) = some (.ptr (some (u, n))) := by
  rw [iaS_sl 1 (u, 0) _ _ .i64 _ ⟨by omega, by omega⟩]; simp
end
def PAl.sweepU (l : PAl) (n : Nat) : PAl := ⟨(l.ar.sweep n).2, l.un.set n false⟩
theorem sweepL_len (l : PAl) (n : Nat) : (l.sweepU n).un.length = l.un.length ∧ (l.sweepU n).ar.sp.length = l.ar.sp.length := by
  refine ⟨by simp [PAl.sweepU], ?_⟩
  unfold PAl.sweepU PAr.sweep
  split
  · rfl
  · exact l.ar.setS_len _ _
theorem asweep_ok {h : Heap} {q u p w s : Nat} {l : PAl} (H : AlAt h q u p w s l) {n : Nat} (hn : n < l.un.length) :
    Ok (k_alloc_Alloc_sweep (.ptr (some (q, 0))) (.int .i64 n) h) fun r => r.1 = .tup [] ∧ AlAt r.2 q u p w s (l.sweepU n) ∧ Same [u, s] h r.2 := by
  refine Ok.eq ?_ (by simp -implicitDefEqProofs only [k_alloc_Alloc_sweep, nilV_ptr, Option.bind_some, faP_ptr, Nat.zero_add, H.ld0]; rfl)
  refine ok_cl (sweep_ok H.ar n) ?_
  rintro _ g ⟨-, H1, s1⟩
  simp only at H1 s1
  have hl : (l.ar.sweep n).2.sp.length = l.ar.sp.length := (sweepL_len l n).2
  have H2 := H.arena (s1.sub (by simp)) H1 hl
  obtain ⟨c, hd⟩ := H2.ld1
  refine ok_val (v := .tup []) (g := g.put u (some (.cells true (unC (l.un.set n false))))) (by
    simp -implicitDefEqProofs only [nilV_ptr, Option.bind_some, faP_ptr, Nat.zero_add, hd, ixU H2 (n := n) (by exact hn), H2.stu (n := n) (by exact hn), cl_some]) ⟨rfl, H2.setU n false, ?_⟩
  exact (s1.sub (by simp)).trans ((Same.put _ _ _).sub (by simp))
end Go.Ab.F

namespace Go.Ab.F
open Go Go.Ab
set_option linter.all false
attribute [local congr] c_bind c_cl c_mk c_lp c_clC c_gQ c_gV c_condE c_thenK

/-! ### A new span -/
def PAl.beginU (l : PAl) (n : Nat) (c : Int) : (Int × Int) × PAl :=
  (((l.ar.set n c).2.take n).1, ((l.ar.set n c).2.take n).2.1, ⟨((l.ar.set n c).2.take n).2.2, l.un.set n false⟩) |> fun r => ((r.1, r.2.1), r.2.2)
theorem set_len' (a : PAr) (n c : Int) : (a.set n c).2.sp.length = a.sp.length := by
  unfold PAr.set; split
  · rfl
  · split
    · rfl
    · exact a.setS_len _ _
theorem take_len' (a : PAr) (n : Int) : (a.take n).2.2.sp.length = a.sp.length := by
  unfold PAr.take; split
  · rfl
  · split
    · rfl
    · exact a.setS_len _ _
theorem abegin_ok {h : Heap} {q u p w s : Nat} {l : PAl} (H : AlAt h q u p w s l) (ht : Tab0 h) (hs0 : s ≠ 0) (hu0 : u ≠ 0) {n : Nat} (hn : n < l.un.length) (c : Int) :
    Ok (k_alloc_Alloc_begin (.ptr (some (q, 0))) (.int .i64 n) (.int .i64 c) h) fun r => r.1 = .tup [.int .i64 (l.beginU n c).1.1, .int .i64 (l.beginU n c).1.2] ∧ AlAt r.2 q u p w s (l.beginU n c).2 ∧ Same [u, w, s] h r.2 := by
  obtain ⟨d, hd⟩ := H.ld1
  have H1 := H.setU n false
  have s1 : Same [u] h (h.put u (some (.cells true (unC (l.un.set n false))))) := Same.put _ _ _
  have ht1 := ht.same s1 (by simp; omega)
  generalize hg1 : h.put u (some (.cells true (unC (l.un.set n false)))) = g1 at *
  have hst := H.stu hn false
  rw [hg1] at hst
  refine Ok.eq ?_ (by simp -implicitDefEqProofs only [k_alloc_Alloc_begin, nilV_ptr, Option.bind_some, faP_ptr, Nat.zero_add, hd, ixU H hn, hst, cl_some, H1.ld0]; rfl)
  refine ok_cl (set_ok H1.ar n c) ?_
  rintro _ g2 ⟨-, H2, s2⟩
  simp only at H2 s2
  have H2' := H1.arena (s2.sub (by simp)) H2 (set_len' _ _ _)
  have ht2 := ht1.same s2 (by simp; omega)
  refine Ok.eq ?_ (by simp -implicitDefEqProofs only [nilV_ptr, Option.bind_some, faP_ptr, Nat.zero_add, H2'.ld0]; rfl)
  refine ok_cl (take_ok H2 ht2.tab hs0 n) ?_
  rintro _ g3 ⟨rfl, H3, s3⟩
  simp only at H3 s3
  have H3' := H2'.arena s3 H3 (take_len' _ _)
  refine ok_val (g := g3) (by simp -implicitDefEqProofs only [extractV_tup, List.getElem?_cons_zero, List.getElem?_cons_succ, Option.bind_some]; rfl) ⟨rfl, H3', ?_⟩
  exact ((s1.sub (by simp)).trans (s2.sub (by simp))).trans (s3.sub (by simp))

/-! ### Take -/
def PAl.at1 (c : Int) (n : Nat) (l : PAl) : PAl := if (l.un[n]?).getD false = true then l.sweepU n else l
def PAl.scan1 (c : Int) : Nat → Nat → PAl → Option (Int × Int) × PAl
  | 0, _, l => (none, l)
  | k + 1, n, l =>
    if l.ar.cls n ≠ c then PAl.scan1 c k (n + 1) l else
    if (l.at1 c n).ar.cls n = c ∧ (l.at1 c n).ar.taken n ≠ fullB c then
      (some (((l.at1 c n).ar.take n).1, ((l.at1 c n).ar.take n).2.1), ⟨((l.at1 c n).ar.take n).2.2, (l.at1 c n).un⟩)
    else PAl.scan1 c k (n + 1) (l.at1 c n)
def PAl.scan2 (c : Int) : Nat → Nat → PAl → Option (Int × Int) × PAl
  | 0, _, l => (none, l)
  | k + 1, n, l => if l.ar.cls n = -1 then (some (l.beginU n c).1, (l.beginU n c).2) else PAl.scan2 c k (n + 1) l
def PAl.scan3 (c : Int) : Nat → Nat → PAl → Option (Int × Int) × PAl
  | 0, _, l => (none, l)
  | k + 1, n, l =>
    if (l.un[n]?).getD false = true then
      if (l.sweepU n).ar.cls n = -1 then (some ((l.sweepU n).beginU n c).1, ((l.sweepU n).beginU n c).2) else PAl.scan3 c k (n + 1) (l.sweepU n)
    else PAl.scan3 c k (n + 1) l
def PAl.more2 (c : Int) (l : PAl) : (Int × Int) × PAl :=
  match PAl.scan3 c l.un.length 0 l with
  | (some r, l') => (r, l')
  | (none, l') => ((0, 5), l')
def PAl.more (c : Int) (l : PAl) : (Int × Int) × PAl :=
  match PAl.scan2 c (l.un.length - 1) 1 l with
  | (some r, l') => (r, l')
  | (none, l') => PAl.more2 c l'
def PAl.take (l : PAl) (words : Int) : (Int × Int) × PAl :=
  if classOf words = -1 then ((0, 1), l) else
  match PAl.scan1 (classOf words) l.un.length 0 l with
  | (some r, l') => (r, l')
  | (none, l') => PAl.more (classOf words) l'
theorem at1_len (c : Int) (n : Nat) (l : PAl) : (l.at1 c n).un.length = l.un.length ∧ (l.at1 c n).ar.sp.length = l.ar.sp.length := by
  unfold PAl.at1; split
  · exact sweepL_len l n
  · exact ⟨rfl, rfl⟩
theorem begin_len (c : Int) (n : Nat) (l : PAl) : (l.beginU n c).2.un.length = l.un.length ∧ (l.beginU n c).2.ar.sp.length = l.ar.sp.length := by
  refine ⟨by simp [PAl.beginU], ?_⟩
  show (((l.ar.set n c).2.take n).2.2).sp.length = _
  rw [take_len', set_len']
/-- How a scan ends in the code: an answer, or on. -/
def ScanEnd (q u p w s : Nat) (g : Heap) (x : Option (Int × Int) × PAl) (i : Nat) (r : Ex × List AV × Heap) : Prop :=
  AlAt r.2.2 q u p w s x.2 ∧ Same [u, w, s] g r.2.2 ∧
  match x.1 with
  | some a => r.1 = .ret ∧ ∃ v rest, r.2.1 = .int .i64 a.1 :: .int .i64 a.2 :: v :: rest
  | none => r.1 = .exit i ∧ ∃ rest, r.2.1 = .int .i64 0 :: .int .i64 0 :: rest
section
variable {q u p w s : Nat}
theorem scan1_ok {g : Heap} {l : PAl} (H : AlAt g q u p w s l) (ht : Tab0 g) (hs0 : s ≠ 0) (hu0 : u ≠ 0) (hw0 : w ≠ 0) {c : Int} (hc : 0 ≤ c ∧ c ≤ 5) :
    Ok (k_alloc_Alloc_Take_L0 (.ptr (some (q, 0))) (.int .i64 c) (.int .i64 l.un.length) (.int .i64 0) (.int .i64 0) (.int .i64 0) g) (ScanEnd q u p w s g (PAl.scan1 c l.un.length 0 l) 0) := by
  have hN : l.un.length ≤ 512 := by rw [H.len]; exact H.ar.hi
  refine ok_loop (fun m vs g' => ∃ (n : Nat) (l' : PAl), vs = [.int .i64 0, .int .i64 0, .int .i64 n] ∧ m + n = l.un.length ∧ AlAt g' q u p w s l' ∧ l'.un.length = l.un.length ∧ Same [u, w, s] g g' ∧ PAl.scan1 c l.un.length 0 l = PAl.scan1 c m n l') ?_ (n := l.un.length) (by omega)
    ⟨0, l, rfl, rfl, H, rfl, Same.refl _ _, rfl⟩
  rintro m vs g' ⟨n, l', rfl, hm, H, hl, hs, he⟩
  rw [gd0, gd1, gd2]
  by_cases hi : n < l.un.length
  · have hlt : (n : Int) < l.un.length := by omega
    obtain ⟨k, rfl⟩ : ∃ k, m = k + 1 := ⟨m - 1, by omega⟩
    have ht' := ht.same hs (by simp; omega)
    have hsc := suc64 n (by omega)
    by_cases h1 : l'.ar.cls n = c
    · obtain ⟨d, hd⟩ := H.ld1
      have hun := H.ldu (n := n) (by omega)
      -- behind the sweep
      have step2 : ∀ (g2 : Heap), AlAt g2 q u p w s (l'.at1 c n) → Same [u, w, s] g g2 →
          Ok (k_alloc_Alloc_Take_j0 (.ptr (some (q, 0))) (.int .i64 c) (.int .i64 0) (.int .i64 0) (.int .i64 (n : Int)) g2) fun r => (r.1 = .normal ∧ ∃ m, m < k + 1 ∧ ∃ (n : Nat) (l' : PAl), r.2.1 = [.int .i64 0, .int .i64 0, .int .i64 n] ∧ m + n = l.un.length ∧ AlAt r.2.2 q u p w s l' ∧ l'.un.length = l.un.length ∧ Same [u, w, s] g r.2.2 ∧ PAl.scan1 c l.un.length 0 l = PAl.scan1 c m n l') ∨
            (r.1 ≠ .normal ∧ ScanEnd q u p w s g (PAl.scan1 c l.un.length 0 l) 0 r) := by
        intro g2 H2 hs2
        have ht2 := ht.same hs2 (by simp; omega)
        by_cases h2 : (l'.at1 c n).ar.cls n = c ∧ (l'.at1 c n).ar.taken n ≠ fullB c
        · have hne : ¬ (((l'.at1 c n).ar.taken n).toNat : Int) = (fullB c).toNat := fun e => h2.2 (BitVec.eq_of_toNat_eq (by omega))
          refine Ok.eq ?_ (by simp -implicitDefEqProofs only [k_alloc_Alloc_Take_j0, nilV_ptr, Option.bind_some, faP_ptr, Nat.zero_add, H2.ld0, class_eq H2.ar, cl_some, eql_int, h2.1, decide_true, gdW_tt, gQ_true, taken_eq H2.ar, full_eq hc, neq_int, hne, decide_false, Bool.not_false, pickP_bool, if_true, condE_true]; rfl)
          refine ok_cl (take_ok H2.ar ht2.tab hs0 n) ?_
          rintro _ g3 ⟨rfl, H3, s3⟩
          simp only at H3 s3
          have H3' := H2.arena s3 H3 (take_len' _ _)
          refine (Ok.of (r := (.ret, [_, _, .int .i64 (n : Int)], g3)) ?_).eq (by simp -implicitDefEqProofs only [extractV_tup, List.getElem?_cons_zero, List.getElem?_cons_succ, Option.bind_some]; rfl)
          refine .inr ⟨by simp, ?_⟩
          rw [he, PAl.scan1, if_neg (fun h => h h1), if_pos h2]
          exact ⟨H3', hs2.trans (s3.sub (by simp)), rfl, _, _, rfl⟩
        · have hal := at1_len c n l'
          refine (Ok.of (r := (.normal, [.int .i64 0, .int .i64 0, .int .i64 ((n + 1 : Nat) : Int)], g2)) ?_).eq ?_
          · refine .inl ⟨rfl, k, by omega, n + 1, l'.at1 c n, rfl, by omega, H2, hal.1.trans hl, hs2, ?_⟩
            rw [he, PAl.scan1, if_neg (fun h => h h1), if_neg h2]
          · by_cases h3 : (l'.at1 c n).ar.cls n = c
            · have heq : (((l'.at1 c n).ar.taken n).toNat : Int) = (fullB c).toNat := by
                have : (l'.at1 c n).ar.taken n = fullB c := Classical.byContradiction fun e => h2 ⟨h3, e⟩
                rw [this]
              simp -implicitDefEqProofs only [k_alloc_Alloc_Take_j0, nilV_ptr, Option.bind_some, faP_ptr, Nat.zero_add, H2.ld0, class_eq H2.ar, cl_some, eql_int, h3, decide_true, gdW_tt, gQ_true, taken_eq H2.ar, full_eq hc, neq_int, heq, Bool.not_true, pickP_bool, if_true, condE_false, bin_add, hsc]
            · simp -implicitDefEqProofs only [k_alloc_Alloc_Take_j0, nilV_ptr, Option.bind_some, faP_ptr, Nat.zero_add, H2.ld0, class_eq H2.ar, cl_some, eql_int, h3, decide_false, gdW_ft, gQ_false, pickP_bool, Bool.false_eq_true, if_false, condE_false, bin_add, hsc]
      rcases bool_cases ((l'.un[n]?).getD false) with hb | hb
      · rw [hb] at hun
        refine Ok.eq ?_ (by simp -implicitDefEqProofs only [k_alloc_Alloc_Take_b0, bin_lss, hlt, decide_true, Option.bind_some, condE_true, nilV_ptr, faP_ptr, Nat.zero_add, H.ld0, class_eq H.ar, cl_some, neq_int, h1, Bool.not_true, condE_false, hd, ixU H (n := n) (by omega), hun]; rfl)
        refine ok_cl (asweep_ok H (n := n) (by omega)) ?_
        rintro _ g2 ⟨-, H2, s2⟩
        simp only at H2 s2
        exact step2 g2 (by unfold PAl.at1; rw [if_pos hb]; exact H2) (hs.trans (s2.sub (by simp)))
      · rw [hb] at hun
        refine Ok.eq ?_ (by simp -implicitDefEqProofs only [k_alloc_Alloc_Take_b0, bin_lss, hlt, decide_true, Option.bind_some, condE_true, nilV_ptr, faP_ptr, Nat.zero_add, H.ld0, class_eq H.ar, cl_some, neq_int, h1, Bool.not_true, condE_false, hd, ixU H (n := n) (by omega), hun]; rfl)
        exact step2 g' (by unfold PAl.at1; rw [if_neg (by rw [hb]; decide)]; exact H) hs
    · refine (Ok.of (r := (.normal, [.int .i64 0, .int .i64 0, .int .i64 ((n + 1 : Nat) : Int)], g')) ?_).eq (by
        simp -implicitDefEqProofs only [k_alloc_Alloc_Take_b0, bin_lss, hlt, decide_true, Option.bind_some, condE_true, nilV_ptr, faP_ptr, Nat.zero_add, H.ld0, class_eq H.ar, cl_some, neq_int, h1, decide_false, Bool.not_false, bin_add, hsc])
      refine .inl ⟨rfl, k, by omega, n + 1, l', rfl, by omega, H, hl, hs, ?_⟩
      rw [he, PAl.scan1, if_pos h1]
  · have hlt : ¬ (n : Int) < l.un.length := by omega
    have hm0 : m = 0 := by omega
    subst hm0
    refine (Ok.of (r := (.exit 0, [.int .i64 0, .int .i64 0, .int .i64 (n : Int)], g')) ?_).eq (by
      simp -implicitDefEqProofs only [k_alloc_Alloc_Take_b0, bin_lss, hlt, decide_false, Option.bind_some, condE_false])
    exact .inr ⟨by simp, by rw [he]; exact ⟨H, hs, rfl, _, rfl⟩⟩
theorem scan2_ok {g : Heap} {l : PAl} (H : AlAt g q u p w s l) (ht : Tab0 g) (hs0 : s ≠ 0) (hu0 : u ≠ 0) (hw0 : w ≠ 0) (c : Int) :
    Ok (k_alloc_Alloc_Take_L1 (.ptr (some (q, 0))) (.int .i64 c) (.int .i64 0) (.int .i64 0) (.int .i64 1) g) (ScanEnd q u p w s g (PAl.scan2 c (l.un.length - 1) 1 l) 2) := by
  have hN : l.un.length ≤ 512 := by rw [H.len]; exact H.ar.hi
  have hN' : 8 ≤ l.un.length := by rw [H.len]; exact H.ar.lo
  refine ok_loop (fun m vs g' => ∃ (n : Nat), vs = [.int .i64 0, .int .i64 0, .int .i64 n] ∧ m + n = l.un.length ∧ g = g' ∧ PAl.scan2 c (l.un.length - 1) 1 l = PAl.scan2 c m n l) ?_ (n := l.un.length - 1) (by omega)
    ⟨1, rfl, by omega, rfl, rfl⟩
  rintro m vs _ ⟨n, rfl, hm, rfl, he⟩
  rw [gd0, gd1, gd2]
  obtain ⟨d, hd⟩ := H.ld1
  by_cases hi : n < l.un.length
  · have hlt : (n : Int) < l.un.length := by omega
    obtain ⟨k, rfl⟩ : ∃ k, m = k + 1 := ⟨m - 1, by omega⟩
    have hsc := suc64 n (by omega)
    by_cases h1 : l.ar.cls n = -1
    · refine Ok.eq ?_ (by simp -implicitDefEqProofs only [k_alloc_Alloc_Take_b1, nilV_ptr, Option.bind_some, faP_ptr, Nat.zero_add, hd, lnL_sl, bin_lss, hlt, decide_true, condE_true, H.ld0, class_eq H.ar, cl_some, eql_int, h1]; rfl)
      refine ok_cl (abegin_ok H ht hs0 hu0 hi c) ?_
      rintro _ g3 ⟨rfl, H3, s3⟩
      simp only at H3 s3
      refine (Ok.of (r := (.ret, [_, _, .int .i64 (n : Int)], g3)) ?_).eq (by simp -implicitDefEqProofs only [extractV_tup, List.getElem?_cons_zero, List.getElem?_cons_succ, Option.bind_some]; rfl)
      refine .inr ⟨by simp, ?_⟩
      rw [he, PAl.scan2, if_pos h1]
      exact ⟨H3, s3, rfl, _, _, rfl⟩
    · refine (Ok.of (r := (.normal, [.int .i64 0, .int .i64 0, .int .i64 ((n + 1 : Nat) : Int)], g)) ?_).eq (by
        simp -implicitDefEqProofs only [k_alloc_Alloc_Take_b1, nilV_ptr, Option.bind_some, faP_ptr, Nat.zero_add, hd, lnL_sl, bin_lss, hlt, decide_true, condE_true, H.ld0, class_eq H.ar, cl_some, eql_int, h1, decide_false, condE_false, bin_add, hsc])
      refine .inl ⟨rfl, k, by omega, n + 1, rfl, by omega, rfl, ?_⟩
      rw [he, PAl.scan2, if_neg h1]
  · have hlt : ¬ (n : Int) < l.un.length := by omega
    have hm0 : m = 0 := by omega
    subst hm0
    refine (Ok.of (r := (.exit 2, [.int .i64 0, .int .i64 0, .int .i64 (n : Int)], g)) ?_).eq (by
      simp -implicitDefEqProofs only [k_alloc_Alloc_Take_b1, nilV_ptr, Option.bind_some, faP_ptr, Nat.zero_add, hd, lnL_sl, bin_lss, hlt, decide_false, condE_false])
    exact .inr ⟨by simp, by rw [he]; exact ⟨H, Same.refl _ _, rfl, _, rfl⟩⟩
theorem scan3_ok {g : Heap} {l : PAl} (H : AlAt g q u p w s l) (ht : Tab0 g) (hs0 : s ≠ 0) (hu0 : u ≠ 0) (hw0 : w ≠ 0) (c : Int) (d : Cap) :
    Ok (k_alloc_Alloc_Take_L2 (.ptr (some (q, 0))) (.int .i64 c) (.sl (some (u, 0)) l.un.length d) (.int .i64 l.un.length) (.int .i64 0) (.int .i64 0) (.int .i64 0) g) (ScanEnd q u p w s g (PAl.scan3 c l.un.length 0 l) 4) := by
  have hN : l.un.length ≤ 512 := by rw [H.len]; exact H.ar.hi
  refine ok_loop (fun m vs g' => ∃ (n : Nat) (l' : PAl), vs = [.int .i64 0, .int .i64 0, .int .i64 n] ∧ m + n = l.un.length ∧ AlAt g' q u p w s l' ∧ l'.un.length = l.un.length ∧ Same [u, w, s] g g' ∧ PAl.scan3 c l.un.length 0 l = PAl.scan3 c m n l') ?_ (n := l.un.length) (by omega)
    ⟨0, l, rfl, rfl, H, rfl, Same.refl _ _, rfl⟩
  rintro m vs g' ⟨n, l', rfl, hm, H, hl, hs, he⟩
  rw [gd0, gd1, gd2]
  by_cases hi : n < l.un.length
  · have hlt : (n : Int) < l.un.length := by omega
    obtain ⟨k, rfl⟩ : ∃ k, m = k + 1 := ⟨m - 1, by omega⟩
    have ht' := ht.same hs (by simp; omega)
    have hsc := suc64 n (by omega)
    have hun := H.ldu (n := n) (by omega)
    have hix := ixU H (n := n) (by omega) d
    rw [hl] at hix
    rcases bool_cases ((l'.un[n]?).getD false) with hb | hb
    · rw [hb] at hun
      refine Ok.eq ?_ (by simp -implicitDefEqProofs only [k_alloc_Alloc_Take_b2, bin_lss, hlt, decide_true, Option.bind_some, condE_true, hix, hun]; rfl)
      refine ok_cl (asweep_ok H (n := n) (by omega)) ?_
      rintro _ g2 ⟨-, H2, s2⟩
      simp only at H2 s2
      have hs2 : Same [u, w, s] g g2 := hs.trans (s2.sub (by simp))
      have ht2 := ht.same hs2 (by simp; omega)
      have hsl := sweepL_len l' n
      by_cases h1 : (l'.sweepU n).ar.cls n = -1
      · refine Ok.eq ?_ (by simp -implicitDefEqProofs only [nilV_ptr, Option.bind_some, faP_ptr, Nat.zero_add, H2.ld0, class_eq H2.ar, cl_some, eql_int, h1, decide_true, condE_true]; rfl)
        refine ok_cl (abegin_ok H2 ht2 hs0 hu0 (n := n) (by omega) c) ?_
        rintro _ g3 ⟨rfl, H3, s3⟩
        simp only at H3 s3
        refine (Ok.of (r := (.ret, [_, _, .int .i64 (n : Int)], g3)) ?_).eq (by simp -implicitDefEqProofs only [extractV_tup, List.getElem?_cons_zero, List.getElem?_cons_succ, Option.bind_some]; rfl)
        refine .inr ⟨by simp, ?_⟩
        rw [he, PAl.scan3, if_pos hb, if_pos h1]
        exact ⟨H3, hs2.trans s3, rfl, _, _, rfl⟩
      · refine (Ok.of (r := (.normal, [.int .i64 0, .int .i64 0, .int .i64 ((n + 1 : Nat) : Int)], g2)) ?_).eq (by
          simp -implicitDefEqProofs only [nilV_ptr, Option.bind_some, faP_ptr, Nat.zero_add, H2.ld0, class_eq H2.ar, cl_some, eql_int, h1, decide_false, condE_false, k_alloc_Alloc_Take_j1, bin_add, hsc])
        refine .inl ⟨rfl, k, by omega, n + 1, l'.sweepU n, rfl, by omega, H2, hsl.1.trans hl, hs2, ?_⟩
        rw [he, PAl.scan3, if_pos hb, if_neg h1]
    · rw [hb] at hun
      refine (Ok.of (r := (.normal, [.int .i64 0, .int .i64 0, .int .i64 ((n + 1 : Nat) : Int)], g')) ?_).eq (by
        simp -implicitDefEqProofs only [k_alloc_Alloc_Take_b2, bin_lss, hlt, decide_true, Option.bind_some, condE_true, condE_false, hix, hun, k_alloc_Alloc_Take_j1, bin_add, hsc])
      refine .inl ⟨rfl, k, by omega, n + 1, l', rfl, by omega, H, hl, hs, ?_⟩
      rw [he, PAl.scan3, if_neg (by rw [hb]; decide)]
  · have hlt : ¬ (n : Int) < l.un.length := by omega
    have hm0 : m = 0 := by omega
    subst hm0
    refine (Ok.of (r := (.exit 4, [.int .i64 0, .int .i64 0, .int .i64 (n : Int)], g')) ?_).eq (by
      simp -implicitDefEqProofs only [k_alloc_Alloc_Take_b2, bin_lss, hlt, decide_false, Option.bind_some, condE_false])
    exact .inr ⟨by simp, by rw [he]; exact ⟨H, hs, rfl, _, rfl⟩⟩
theorem scan1_len (c : Int) : ∀ (k n : Nat) (l : PAl), (PAl.scan1 c k n l).2.un.length = l.un.length
  | 0, n, l => rfl
  | k + 1, n, l => by
    rw [PAl.scan1]
    split
    · exact scan1_len c k (n + 1) l
    · split
      · exact (at1_len c n l).1
      · rw [scan1_len c k (n + 1)]; exact (at1_len c n l).1
theorem scan2_len (c : Int) : ∀ (k n : Nat) (l : PAl), (PAl.scan2 c k n l).2.un.length = l.un.length
  | 0, n, l => rfl
  | k + 1, n, l => by
    rw [PAl.scan2]
    split
    · exact (begin_len c n l).1
    · exact scan2_len c k (n + 1) l
theorem atake_ok {h : Heap} {l : PAl} (H : AlAt h q u p w s l) (ht : Tab0 h) (hs0 : s ≠ 0) (hu0 : u ≠ 0) (hw0 : w ≠ 0) (n : Int) :
    Ok (k_alloc_Alloc_Take (.ptr (some (q, 0))) (.int .i64 n) h) fun r => r.1 = .tup [.int .i64 (l.take n).1.1, .int .i64 (l.take n).1.2] ∧ AlAt r.2 q u p w s (l.take n).2 ∧ Same [u, w, s] h r.2 := by
  refine Ok.eq ?_ (by unfold k_alloc_Alloc_Take; rfl)
  refine ok_cl (gclass_eq n h) ?_
  rintro _ _ he
  cases he
  unfold PAl.take
  by_cases h1 : classOf n = -1
  · rw [if_pos h1]
    exact ok_val (v := .tup [.int .i64 0, .int .i64 1]) (g := h) (by simp -implicitDefEqProofs only [eql_int, h1, decide_true, Option.bind_some, condE_true]) ⟨rfl, H, Same.refl _ _⟩
  rw [if_neg h1]
  have hc : 0 ≤ classOf n ∧ classOf n ≤ 5 := by
    rcases classOf_range n with h | h
    · exact absurd h h1
    · exact ⟨h.1, h.2.1⟩
  generalize classOf n = c at *
  obtain ⟨d, hd⟩ := H.ld1
  refine Ok.eq ?_ (by simp -implicitDefEqProofs only [eql_int, h1, decide_false, Option.bind_some, condE_false, nilV_ptr, faP_ptr, Nat.zero_add, hd, lnL_sl]; rfl)
  refine ok_lp (scan1_ok H ht hs0 hu0 hw0 hc) ?_
  rintro e vs g ⟨H1, s1, hx⟩
  have hl1 := scan1_len c l.un.length 0 l
  generalize PAl.scan1 c l.un.length 0 l = x1 at *
  obtain ⟨r1, l1⟩ := x1
  simp only at H1 s1 hl1
  cases r1 with
  | some a =>
    obtain ⟨rfl, v, rest, hv⟩ := hx
    simp only at hv
    subst hv
    exact ok_val (v := .tup [.int .i64 a.1, .int .i64 a.2]) (g := g) rfl ⟨rfl, H1, s1⟩
  | none =>
    obtain ⟨rfl, rest, hv⟩ := hx
    simp only at hv
    subst hv
    have ht1 := ht.same s1 (by simp; omega)
    refine Ok.eq ?_ (by simp -implicitDefEqProofs only [if_true, thenK_normal, gd0, gd1]; rfl)
    refine ok_lp (scan2_ok H1 ht1 hs0 hu0 hw0 c) ?_
    rintro e vs g2 ⟨H2, s2, hx⟩
    have hl2 := scan2_len c (l1.un.length - 1) 1 l1
    unfold PAl.more
    simp only
    generalize PAl.scan2 c (l1.un.length - 1) 1 l1 = x2 at *
    obtain ⟨r2, l2⟩ := x2
    simp only at H2 s2 hl2
    cases r2 with
    | some a =>
      obtain ⟨rfl, v, rest, hv⟩ := hx
      simp only at hv
      subst hv
      exact ok_val (v := .tup [.int .i64 a.1, .int .i64 a.2]) (g := g2) rfl ⟨rfl, H2, s1.trans s2⟩
    | none =>
      obtain ⟨rfl, rest, hv⟩ := hx
      simp only at hv
      subst hv
      have ht2 := ht1.same s2 (by simp; omega)
      obtain ⟨d2, hd2⟩ := H2.ld1
      refine Ok.eq ?_ (by simp -implicitDefEqProofs only [if_true, thenK_normal, gd0, gd1, nilV_ptr, Option.bind_some, faP_ptr, Nat.zero_add, hd2, lnL_sl]; rfl)
      refine ok_lp (scan3_ok H2 ht2 hs0 hu0 hw0 c d2) ?_
      rintro e vs g3 ⟨H3, s3, hx⟩
      unfold PAl.more2
      simp only
      generalize PAl.scan3 c l2.un.length 0 l2 = x3 at *
      obtain ⟨r3, l3⟩ := x3
      simp only at H3 s3
      cases r3 with
      | some a =>
        obtain ⟨rfl, v, rest, hv⟩ := hx
        simp only at hv
        subst hv
        exact ok_val (v := .tup [.int .i64 a.1, .int .i64 a.2]) (g := g3) rfl ⟨rfl, H3, (s1.trans s2).trans s3⟩
      | none =>
        obtain ⟨rfl, rest, hv⟩ := hx
        simp only at hv
        subst hv
        exact ok_val (v := .tup [.int .i64 0, .int .i64 5]) (g := g3) (by simp -implicitDefEqProofs only [if_true, thenK_normal]) ⟨rfl, H3, (s1.trans s2).trans s3⟩
end
end Go.Ab.F

namespace Go.Ab.F
open Go Go.Ab
set_option linter.all false
attribute [local congr] c_bind c_cl c_mk c_lp c_clC c_gQ c_gV c_condE c_thenK

/-! ### New -/
theorem rep_false (n : Nat) : rep [AV.bool false] n = unC (List.replicate n false) := by rw [rep_one]; simp [unC]
theorem anew_ok {h : Heap} {p w s : Nat} {a : PAr} (H : ArAt h p w s a) :
    Ok (k_alloc_New (.ptr (some (p, 0))) h) fun r => r.1 = .ptr (some (h.next + 1, 0)) ∧ AlAt r.2 (h.next + 1) h.next p w s ⟨a, List.replicate a.sp.length false⟩ ∧ Same [] h r.2 ∧ r.2.next = h.next + 2 := by
  have m := msP_ok 1 1 [AV.bool false] a.sp.length (by have := H.hi; omega) (by decide) rfl
  rw [rep_false] at m
  have hb : bldS [(0, 1), (1, 1)] [AV.ptr none, AV.sl none 0 (.ex 0)] [(0, .ptr (some (p, 0))), (1, .sl (some (h.next, 0)) a.sp.length (.ex a.sp.length))] = some (.agg [.ptr (some (p, 0)), .sl (some (h.next, 0)) a.sp.length (.ex a.sp.length)]) := rfl
  have hx : bxP (.agg [.ptr (some (p, 0)), .sl (some (h.next, 0)) a.sp.length (.ex a.sp.length)]) = some (.cells true [.ptr (some (p, 0)), .sl (some (h.next, 0)) a.sp.length (.ex a.sp.length)], fun i => .ptr (some (i, 0))) := rfl
  have s2 : Same [] h ((h.new (.cells true (unC (List.replicate a.sp.length false)))).new (.cells true [.ptr (some (p, 0)), .sl (some (h.next, 0)) a.sp.length (.ex a.sp.length)])) := (Same.new _ _).trans (Same.new _ _)
  have lp := H.lp
  have lw := H.lw
  have ls := H.ls
  refine ok_val (g := (h.new (.cells true (unC (List.replicate a.sp.length false)))).new (.cells true [.ptr (some (p, 0)), .sl (some (h.next, 0)) a.sp.length (.ex a.sp.length)])) (v := .ptr (some (h.next + 1, 0))) (by
    simp -implicitDefEqProofs only [k_alloc_New, spans_eq H, cl_some, m, mk_some, hb, hx, Option.bind_some, Heap.next_new]) ⟨rfl, ?_, s2, rfl⟩
  exact
  { hq := ⟨.ex a.sp.length, by
      have := get_new_eq (h := h.new (.cells true (unC (List.replicate a.sp.length false)))) (b := .cells true [.ptr (some (p, 0)), .sl (some (h.next, 0)) a.sp.length (.ex a.sp.length)])
      rw [Heap.next_new] at this; rw [this]; simp⟩
    hu := by rw [get_new_ne (by rw [Heap.next_new]; omega), get_new_eq]
    ar := H.same s2 (by simp) (by simp) (by simp)
    qu := by omega
    qp := by omega
    qw := by omega
    qs := by omega
    up := by omega
    uw := by omega
    us := by omega
    lq := by show h.next + 1 < h.next + 1 + 1; omega
    lu := by show h.next < h.next + 1 + 1; omega
    len := by simp }

/-! ### The document's own -/
theorem rnew_ok {h : Heap} (N : Nat) (hN : N ≤ 2 ^ 20) :
    Ok (k_ref4_NewArena (.int .i64 N) h) fun r => r.1 = .ptr (some (h.next, 0)) ∧ Same [] h r.2 ∧ h.next < r.2.next ∧ ∃ b v, r.2.get h.next = some (.cells true [v, .sl none 0 (.ex 0)]) ∧ SlB r.2 b 1 v (wsC (List.replicate N (-1))) N ∧ ∀ j, b = some j → h.next < j := by
  have hb : bldS [(0, 1), (1, 1)] [AV.sl none 0 (.ex 0), AV.sl none 0 (.ex 0)] [] = some (.agg [AV.sl none 0 (.ex 0), AV.sl none 0 (.ex 0)]) := rfl
  have hx : bxP (.agg [AV.sl none 0 (.ex 0), AV.sl none 0 (.ex 0)]) = some (.cells true [AV.sl none 0 (.ex 0), AV.sl none 0 (.ex 0)], fun i => .ptr (some (i, 0))) := rfl
  refine Ok.eq ?_ (by simp -implicitDefEqProofs only [k_ref4_NewArena, hb, Option.bind_some, hx, mk_some]; rfl)
  generalize hr : h.next = r0
  have g0 : (h.new (.cells true [AV.sl none 0 (.ex 0), AV.sl none 0 (.ex 0)])).get r0 = some (.cells true [AV.sl none 0 (.ex 0), AV.sl none 0 (.ex 0)]) := by rw [← hr]; exact get_new_eq
  have n0 : (h.new (.cells true [AV.sl none 0 (.ex 0), AV.sl none 0 (.ex 0)])).next = r0 + 1 := by rw [← hr]; rfl
  have s0 : Same [] h (h.new (.cells true [AV.sl none 0 (.ex 0), AV.sl none 0 (.ex 0)])) := Same.new _ _
  generalize h.new (.cells true [AV.sl none 0 (.ex 0), AV.sl none 0 (.ex 0)]) = h1 at *
  have lp0 : Ok (k_ref4_NewArena_L0 (.int .i64 N) (.ptr (some (r0, 0))) (.int .i64 0) h1) fun r => r.1 = .exit 0 ∧ Same [] h r.2.2 ∧ r0 < r.2.2.next ∧ ∃ b v, r.2.2.get r0 = some (.cells true [v, .sl none 0 (.ex 0)]) ∧ SlB r.2.2 b 1 v (wsC (List.replicate N (-1))) N ∧ ∀ j, b = some j → r0 < j := by
    refine ok_loop (fun m vs g => ∃ (i : Nat) (b : Option Nat) (v : AV), vs = [.int .i64 i] ∧ m + i = N ∧ Same [] h g ∧ r0 < g.next ∧ g.get r0 = some (.cells true [v, .sl none 0 (.ex 0)]) ∧ SlB g b 1 v (wsC (List.replicate i (-1))) i ∧ ∀ j, b = some j → r0 < j) ?_ (n := N) (by omega)
      ⟨0, none, _, rfl, rfl, s0, by omega, g0, SlB.mt, fun j hj => by cases hj⟩
    rintro m vs g ⟨i, b, v, rfl, hm, hs, hrn, hg, hv, hb⟩
    rw [gd0]
    by_cases hi : i < N
    · have hlt : (i : Int) < N := by omega
      have hld : ldS g (.ptr (some (r0, 0))) = some v := by rw [ldS_at hg]; rfl
      refine Ok.eq ?_ (by simp -implicitDefEqProofs only [k_ref4_NewArena_b0, bin_lss, hlt, decide_true, Option.bind_some, condE_true, nilV_ptr, faP_ptr, Nat.zero_add, hld]; rfl)
      refine app1 hv rfl rfl rfl (by decide) (by omega) fun v' g' hv' hs' hn' => ?_
      have hg' : g'.get r0 = some (.cells true [v, .sl none 0 (.ex 0)]) := by
        rw [hs'.get r0 hrn (by
          cases b with
          | none => simp
          | some x => have := hb x rfl; simp; omega)]; exact hg
      have hsc : scalar v' = true := by rw [hv'.eq]; rfl
      have hst : stP 1 g' (.ptr (some (r0, 0))) v' = some (.bot, g'.put r0 (some (.cells true [v', .sl none 0 (.ex 0)]))) := stP_one hg' (by simp) hsc
      refine (Ok.of (r := (.normal, [.int .i64 ((i + 1 : Nat) : Int)], g'.put r0 (some (.cells true [v', .sl none 0 (.ex 0)])))) ?_).eq (by
        simp -implicitDefEqProofs only [nilV_ptr, Option.bind_some, faP_ptr, Nat.zero_add, hst, cl_some, bin_add, suc64 i (by omega)])
      left
      have e : wsC (List.replicate i (-1)) ++ (AV.int .i64 (-1)).cells = wsC (List.replicate (i + 1) (-1)) := by rw [List.replicate_succ']; simp [wsC, AV.cells]
      rw [e] at hv'
      refine ⟨rfl, m - 1, by omega, i + 1, _, v', rfl, by omega, ?_, by show r0 < g'.next; omega, get_put_eq, hv'.same (Same.put _ _ _) (fun j hj => by cases hj; simp; omega), fun j hj => by cases hj; omega⟩
      refine (hs.old hs' fun j hj => ?_).old (Same.put _ _ _) (by simp; omega)
      cases b with
      | none => simp at hj
      | some x => have := hb x rfl; simp at hj; right; omega
    · have hlt : ¬ (i : Int) < N := by omega
      obtain rfl : i = N := by omega
      refine (Ok.of (r := (.exit 0, [.int .i64 (i : Int)], g)) ?_).eq (by simp -implicitDefEqProofs only [k_ref4_NewArena_b0, bin_lss, hlt, decide_false, Option.bind_some, condE_false])
      exact .inr ⟨by simp, rfl, hs, hrn, b, v, hg, hv, hb⟩
  refine ok_lp lp0 ?_
  rintro _ vs g ⟨rfl, h1, h2, h3⟩
  exact ok_val (v := .ptr (some (r0, 0))) (g := g) (by simp -implicitDefEqProofs only [if_true, thenK_normal]) ⟨rfl, h1, h2, h3⟩
theorem rnewl_ok {h : Heap} {r0 N : Nat} {b : Option Nat} {v : AV} (hN : N ≤ 2 ^ 20) (hg : h.get r0 = some (.cells true [v, .sl none 0 (.ex 0)])) (hv : SlB h b 1 v (wsC (List.replicate N (-1))) N) :
    Ok (k_ref4_NewAlloc (.ptr (some (r0, 0))) h) fun r => (∃ x, r.1 = .ptr (some (x, 0))) ∧ Same [] h r.2 := by
  have hld : ldS h (.ptr (some (r0, 0))) = some v := by rw [ldS_at hg]; rfl
  have m := msP_ok 1 1 [AV.bool false] N (by omega) (by decide) rfl
  have hb : bldS [(0, 1), (1, 1)] [AV.ptr none, AV.sl none 0 (.ex 0)] [(0, .ptr (some (r0, 0))), (1, .sl (some (h.next, 0)) N (.ex N))] = some (.agg [.ptr (some (r0, 0)), .sl (some (h.next, 0)) N (.ex N)]) := rfl
  have hx : bxP (.agg [.ptr (some (r0, 0)), .sl (some (h.next, 0)) N (.ex N)]) = some (.cells true [.ptr (some (r0, 0)), .sl (some (h.next, 0)) N (.ex N)], fun i => .ptr (some (i, 0))) := rfl
  exact ok_val (by simp -implicitDefEqProofs only [k_ref4_NewAlloc, nilV_ptr, Option.bind_some, faP_ptr, Nat.zero_add, hld, hv.lnL, m, mk_some, hb, hx]; rfl) ⟨⟨_, rfl⟩, (Same.new _ _).trans (Same.new _ _)⟩
theorem made_ok {h : Heap} (N : Nat) (h1 : 8 ≤ N) (h2 : N ≤ 512) :
    Ok (k_law5_made (.int .i64 N) h) fun r => ∃ q u p w s x, r.1 = .tup [.ptr (some (q, 0)), .ptr (some (p, 0)), .ptr (some (x, 0))] ∧ AlAt r.2 q u p w s ⟨newA N, List.replicate N false⟩ ∧ Same [] h r.2 ∧ h.next ≤ q ∧ h.next ≤ u ∧ h.next ≤ p ∧ h.next ≤ w ∧ h.next ≤ s := by
  refine Ok.eq ?_ (by unfold k_law5_made; rfl)
  refine ok_cl (new_ok N h1 h2) ?_
  rintro _ g1 ⟨rfl, H, s1, n1⟩
  simp only at H s1 n1
  refine Ok.eq ?_ (by simp -implicitDefEqProofs only [extractV_tup, List.getElem?_cons_zero, List.getElem?_cons_succ, Option.bind_some, neq_int, decide_true, Bool.not_true, gdW_ff, gQ_true, cl_some, eql_ptr_nil, pickP_bool, Bool.false_eq_true, if_false, condE_false]; rfl)
  refine ok_cl (anew_ok H) ?_
  rintro _ g2 ⟨rfl, H2, s2, n2⟩
  simp only at H2 s2 n2
  have hl : (newA N).sp.length = N := by show (List.replicate N _).length = N; rw [List.length_replicate]
  rw [hl] at H2
  refine ok_cl (rnew_ok N (by omega)) ?_
  rintro _ g3 ⟨rfl, s3, n3, b, v, hg, hv, hb⟩
  simp only at s3 n3 hg hv
  refine ok_cl (rnewl_ok (by omega) hg hv) ?_
  rintro _ g4 ⟨⟨x, rfl⟩, s4⟩
  simp only at s4
  refine ok_val rfl ⟨_, _, _, _, _, x, rfl, (H2.same s3 (by simp) (by simp) (by simp) (by simp) (by simp)).same s4 (by simp) (by simp) (by simp) (by simp) (by simp), ((s1.trans s2).trans s3).trans s4, by omega, by omega, by omega, by omega, by omega⟩

/-! ### Stale, Left, SweepOne -/
def PAl.stale (l : PAl) : PAl := ⟨l.ar, (List.range l.un.length).map fun i : Nat => decide (¬ l.ar.cls i = -1)⟩
section
variable {q u p w s : Nat}
theorem stale_ok {g : Heap} {l : PAl} (H : AlAt g q u p w s l) : Ok (k_alloc_Alloc_Stale (.ptr (some (q, 0))) g) fun r => r.1 = .tup [] ∧ AlAt r.2 q u p w s l.stale ∧ Same [u] g r.2 := by
  have hN : l.un.length ≤ 512 := by rw [H.len]; exact H.ar.hi
  obtain ⟨d, hd⟩ := H.ld1
  have lp0 : Ok (k_alloc_Alloc_Stale_L0 (.ptr (some (q, 0))) (.int .i64 l.un.length) (.int .i64 0) g) fun r => r.1 = .exit 0 ∧ AlAt r.2.2 q u p w s l.stale ∧ Same [u] g r.2.2 := by
    refine ok_loop (fun m vs g' => ∃ (i : Nat) (un : List Bool), vs = [.int .i64 i] ∧ m + i = l.un.length ∧ un.length = l.un.length ∧ (∀ j : Nat, j < i → un[j]? = some (decide (¬ l.ar.cls j = -1))) ∧ AlAt g' q u p w s ⟨l.ar, un⟩ ∧ Same [u] g g') ?_ (n := l.un.length) (by omega)
      ⟨0, l.un, rfl, rfl, rfl, fun j hj => by omega, H, Same.refl _ _⟩
    rintro m vs g' ⟨i, un, rfl, hm, hl, hu, H, hs⟩
    rw [gd0]
    by_cases hi : i < l.un.length
    · have hlt : (i : Int) < l.un.length := by omega
      obtain ⟨d, hd⟩ := H.ld1
      simp only [hl] at hd
      have hix := ixU H (n := i) (by show i < un.length; omega) d
      simp only [hl] at hix
      have hst := H.stu (n := i) (by show i < un.length; omega) (decide (¬ l.ar.cls i = -1))
      have H2 := H.setU i (decide (¬ l.ar.cls i = -1))
      have e : (!decide (l.ar.cls i = -1)) = decide (¬ l.ar.cls i = -1) := by simp
      refine (Ok.of (r := (.normal, [.int .i64 ((i + 1 : Nat) : Int)], g'.put u (some (.cells true (unC (un.set i (decide (¬ l.ar.cls i = -1)))))))) ?_).eq (by
        simp -implicitDefEqProofs only [k_alloc_Alloc_Stale_b0, bin_lss, hlt, decide_true, Option.bind_some, condE_true, nilV_ptr, faP_ptr, Nat.zero_add, rdC, hd, clC_some, H.ld0, class_eq H.ar, cl_some, neq_int, e, hix, hst, bin_add, suc64 i (by omega)]
        exact chk_two (same_sl _ _ _) hd hd)
      refine .inl ⟨rfl, m - 1, by omega, i + 1, _, rfl, by omega, by simpa using hl, fun j hj => ?_, H2, hs.trans (Same.put _ _ _)⟩
      by_cases ej : j = i
      · subst ej; rw [List.getElem?_set_self (by show j < un.length; omega)]
      · rw [List.getElem?_set_ne (fun e => ej e.symm)]; exact hu j (by omega)
    · have hlt : ¬ (i : Int) < l.un.length := by omega
      obtain rfl : i = l.un.length := by omega
      refine (Ok.of (r := (.exit 0, [.int .i64 (l.un.length : Int)], g')) ?_).eq (by simp -implicitDefEqProofs only [k_alloc_Alloc_Stale_b0, bin_lss, hlt, decide_false, Option.bind_some, condE_false])
      have e : un = l.stale.un := by
        apply List.ext_getElem?
        intro j
        by_cases hj : j < l.un.length
        · rw [hu j hj]; simp [PAl.stale, hj]
        · rw [List.getElem?_eq_none (by omega), List.getElem?_eq_none (by simp [PAl.stale]; omega)]
      rw [e] at H
      exact .inr ⟨by simp, rfl, H, hs⟩
  refine Ok.eq ?_ (by simp -implicitDefEqProofs only [k_alloc_Alloc_Stale, nilV_ptr, Option.bind_some, faP_ptr, Nat.zero_add, hd, lnL_sl]; rfl)
  refine ok_lp lp0 ?_
  rintro _ vs g2 ⟨rfl, h1, h2⟩
  exact ok_val (v := .tup []) (g := g2) rfl ⟨rfl, h1, h2⟩
def PAl.left (l : PAl) : Nat := cnt (fun i => (l.un[i]?).getD false) l.un.length
theorem left_eq {g : Heap} {l : PAl} (H : AlAt g q u p w s l) : Ok (k_alloc_Alloc_Left (.ptr (some (q, 0))) g) fun r => r = (.int .i64 l.left, g) := by
  have hN : l.un.length ≤ 512 := by rw [H.len]; exact H.ar.hi
  obtain ⟨d, hd⟩ := H.ld1
  have lp0 : Ok (k_alloc_Alloc_Left_L0 (.sl (some (u, 0)) l.un.length d) (.int .i64 l.un.length) (.int .i64 0) (.int .i64 0) g) fun r => r = (.exit 0, [.int .i64 l.left, .int .i64 l.un.length], g) := by
    refine ok_loop (fun m vs g' => ∃ (i : Nat), vs = [.int .i64 (cnt (fun i => (l.un[i]?).getD false) i), .int .i64 i] ∧ m + i = l.un.length ∧ g = g') ?_ (n := l.un.length) (by omega) ⟨0, rfl, rfl, rfl⟩
    rintro m vs _ ⟨i, rfl, hm, rfl⟩
    rw [gd0, gd1]
    have hc := cnt_le (fun i => (l.un[i]?).getD false) i
    by_cases hi : i < l.un.length
    · have hlt : (i : Int) < l.un.length := by omega
      have hu := H.ldu hi
      have e : cnt (fun i => (l.un[i]?).getD false) (i + 1) = cnt (fun i => (l.un[i]?).getD false) i + ((l.un[i]?).getD false).toNat := rfl
      refine (Ok.of (r := (.normal, [.int .i64 ((cnt (fun i => (l.un[i]?).getD false) (i + 1) : Nat) : Int), .int .i64 ((i + 1 : Nat) : Int)], g)) ?_).eq ?_
      · exact .inl ⟨rfl, m - 1, by omega, i + 1, rfl, by omega, rfl⟩
      · rcases bool_cases ((l.un[i]?).getD false) with hb | hb
        · rw [hb] at hu e
          simp -implicitDefEqProofs only [k_alloc_Alloc_Left_b0, bin_lss, hlt, decide_true, Option.bind_some, condE_true, ixU H hi, hu, bin_add, suc64 _ (show cnt (fun i => (l.un[i]?).getD false) i < 2 ^ 62 by omega), suc64 i (by omega), e]
          rfl
        · rw [hb] at hu e
          simp -implicitDefEqProofs only [k_alloc_Alloc_Left_b0, bin_lss, hlt, decide_true, Option.bind_some, condE_true, condE_false, ixU H hi, hu, bin_add, suc64 i (by omega), e]
          rfl
    · have hlt : ¬ (i : Int) < l.un.length := by omega
      obtain rfl : i = l.un.length := by omega
      refine (Ok.of (r := (.exit 0, [.int .i64 l.left, .int .i64 (l.un.length : Int)], g)) ?_).eq (by simp -implicitDefEqProofs only [k_alloc_Alloc_Left_b0, bin_lss, hlt, decide_false, Option.bind_some, condE_false]; rfl)
      exact .inr ⟨by simp, rfl⟩
  refine Ok.eq ?_ (by simp -implicitDefEqProofs only [k_alloc_Alloc_Left, nilV_ptr, Option.bind_some, faP_ptr, Nat.zero_add, hd, lnL_sl]; rfl)
  refine ok_lp lp0 ?_
  rintro _ _ _ he
  cases he
  exact ok_val (v := .int .i64 l.left) (g := g) (by simp -implicitDefEqProofs only [if_true, thenK_normal, gd0]) rfl
/-- The least one that is not swept yet. -/
def PAl.one (l : PAl) : Nat → Nat → Option Nat
  | 0, _ => none
  | k + 1, n => if (l.un[n]?).getD false = true then some n else PAl.one l k (n + 1)
def PAl.sweepOne (l : PAl) : Bool × PAl := match l.one l.un.length 0 with | some n => (true, l.sweepU n) | none => (false, l)
theorem sweepOne_ok {g : Heap} {l : PAl} (H : AlAt g q u p w s l) : Ok (k_alloc_Alloc_SweepOne (.ptr (some (q, 0))) g) fun r => r.1 = .bool l.sweepOne.1 ∧ AlAt r.2 q u p w s l.sweepOne.2 ∧ Same [u, s] g r.2 := by
  have hN : l.un.length ≤ 512 := by rw [H.len]; exact H.ar.hi
  obtain ⟨d, hd⟩ := H.ld1
  have lp0 : Ok (k_alloc_Alloc_SweepOne_L0 (.ptr (some (q, 0))) (.sl (some (u, 0)) l.un.length d) (.int .i64 l.un.length) (.bool false) (.int .i64 0) g) fun r => AlAt r.2.2 q u p w s l.sweepOne.2 ∧ Same [u, s] g r.2.2 ∧ (r.1 = .exit 0 ∧ l.sweepOne.1 = false ∨ r.1 = .ret ∧ l.sweepOne.1 = true ∧ r.2.1.getD 0 .bot = .bool true) := by
    refine ok_loop (fun m vs g' => ∃ (n : Nat), vs = [.bool false, .int .i64 n] ∧ m + n = l.un.length ∧ g = g' ∧ l.one l.un.length 0 = l.one m n) ?_ (n := l.un.length) (by omega) ⟨0, rfl, rfl, rfl, rfl⟩
    rintro m vs _ ⟨n, rfl, hm, rfl, he⟩
    rw [gd0, gd1]
    by_cases hi : n < l.un.length
    · have hlt : (n : Int) < l.un.length := by omega
      obtain ⟨k, rfl⟩ : ∃ k, m = k + 1 := ⟨m - 1, by omega⟩
      have hu := H.ldu hi
      rcases bool_cases ((l.un[n]?).getD false) with hb | hb
      · rw [hb] at hu
        refine Ok.eq ?_ (by simp -implicitDefEqProofs only [k_alloc_Alloc_SweepOne_b0, bin_lss, hlt, decide_true, Option.bind_some, condE_true, ixU H hi, hu]; rfl)
        refine ok_cl (asweep_ok H hi) ?_
        rintro _ g2 ⟨-, H2, s2⟩
        simp only at H2 s2
        have e : l.sweepOne = (true, l.sweepU n) := by unfold PAl.sweepOne; rw [he, PAl.one, if_pos hb]
        refine Ok.of (r := (Ex.ret, [AV.bool true, AV.int .i64 (n : Int)], g2)) ?_
        exact .inr ⟨by simp, by rw [e]; exact H2, s2, .inr ⟨rfl, by rw [e], rfl⟩⟩
      · rw [hb] at hu
        refine (Ok.of (r := (.normal, [.bool false, .int .i64 ((n + 1 : Nat) : Int)], g)) ?_).eq (by simp -implicitDefEqProofs only [k_alloc_Alloc_SweepOne_b0, bin_lss, hlt, decide_true, Option.bind_some, condE_true, condE_false, ixU H hi, hu, bin_add, suc64 n (by omega)])
        exact .inl ⟨rfl, k, by omega, n + 1, rfl, by omega, rfl, by rw [he, PAl.one, if_neg (by rw [hb]; decide)]⟩
    · have hlt : ¬ (n : Int) < l.un.length := by omega
      obtain rfl : m = 0 := by omega
      have e : l.sweepOne = (false, l) := by unfold PAl.sweepOne; rw [he]; rfl
      refine (Ok.of (r := (.exit 0, [.bool false, .int .i64 (n : Int)], g)) ?_).eq (by simp -implicitDefEqProofs only [k_alloc_Alloc_SweepOne_b0, bin_lss, hlt, decide_false, Option.bind_some, condE_false])
      exact .inr ⟨by simp, by rw [e]; exact H, Same.refl _ _, .inl ⟨rfl, by rw [e]⟩⟩
  refine Ok.eq ?_ (by simp -implicitDefEqProofs only [k_alloc_Alloc_SweepOne, nilV_ptr, Option.bind_some, faP_ptr, Nat.zero_add, hd, lnL_sl]; rfl)
  refine ok_lp lp0 ?_
  rintro e vs g2 ⟨h1, h2, (⟨rfl, h3⟩ | ⟨rfl, h3, h4⟩)⟩
  · exact ok_val (v := .bool false) (g := g2) rfl ⟨by rw [h3], h1, h2⟩
  · exact ok_val (v := .bool true) (g := g2) (by show some (vs.getD 0 .bot, g2) = _; simp only at h4; rw [h4]) ⟨by rw [h3], h1, h2⟩
end

/-! ### The document's numbers -/
theorem rclass_ok (n : Int) (h : Heap) : Ok (k_ref1_Class (.int .i64 n) h) fun r => r.1 = .int .i64 (classOf n) ∧ Same [] h r.2 := by
  have lp0 : Ok (k_ref1_Class_L0 (.int .i64 n) (.int .i64 0) (.int .i64 0) h) fun r => Same [] h r.2.2 ∧ ((r.1 = .exit 0 ∧ classOf n = -1) ∨ (r.1 = .ret ∧ r.2.1.getD 0 .bot = .int .i64 (classOf n))) := by
    refine ok_loop (fun m vs g => ∃ (i : Nat), vs = [.int .i64 0, .int .i64 i] ∧ m + i = 6 ∧ Same [] h g ∧ ∀ j : Nat, j < i → ¬ (1 ≤ n ∧ n ≤ wordsOf j)) ?_ (n := 6) (by omega) ⟨0, rfl, rfl, Same.refl _ _, fun j hj => by omega⟩
    rintro m vs g ⟨i, rfl, hm, hs, hno⟩
    rw [gd0, gd1]
    by_cases hi : i < 6
    · have hlt : (i : Int) < 6 := by omega
      by_cases h1 : 1 ≤ n
      · refine Ok.eq ?_ (by simp -implicitDefEqProofs only [k_ref1_Class_b0, bin_lss, hlt, decide_true, Option.bind_some, bin_geq, h1, gdW_tt, gQ_true, cl_some, pickP_bool, if_true, condE_true]; rfl)
        refine ok_cl (rwords_ok i g) ?_
        rintro _ g2 ⟨rfl, s2⟩
        simp only at s2
        by_cases h2 : n ≤ wordsOf i
        · refine (Ok.of (r := (.ret, [.int .i64 i, .int .i64 i], g2)) ?_).eq (by simp -implicitDefEqProofs only [bin_geq, h2, decide_true, Option.bind_some, condE_true])
          exact .inr ⟨by simp, hs.trans s2, .inr ⟨rfl, by rw [classOf_step n i hi hno ⟨h1, h2⟩]; rfl⟩⟩
        · refine (Ok.of (r := (.normal, [.int .i64 0, .int .i64 ((i + 1 : Nat) : Int)], g2)) ?_).eq (by simp -implicitDefEqProofs only [bin_geq, h2, decide_false, Option.bind_some, condE_false, bin_add, suc64 i (by omega)])
          refine .inl ⟨rfl, m - 1, by omega, i + 1, rfl, by omega, hs.trans s2, fun j hj hh => ?_⟩
          by_cases e : j = i
          · subst e; exact h2 hh.2
          · exact hno j (by omega) hh
      · refine (Ok.of (r := (.exit 0, [.int .i64 0, .int .i64 (i : Int)], g)) ?_).eq (by
          simp -implicitDefEqProofs only [k_ref1_Class_b0, bin_lss, hlt, decide_true, decide_false, Option.bind_some, bin_geq, h1, gdW_tt, gQ_true, cl_some, pickP_bool, if_true, condE_false])
        exact .inr ⟨by simp, hs, .inl ⟨rfl, classOf_none n fun j _ hh => h1 hh.1⟩⟩
    · have hlt : ¬ (i : Int) < 6 := by omega
      refine (Ok.of (r := (.exit 0, [.int .i64 0, .int .i64 (i : Int)], g)) ?_).eq (by
        simp -implicitDefEqProofs only [k_ref1_Class_b0, bin_lss, hlt, decide_false, Option.bind_some, gdW_ft, gQ_false, pickP_bool, Bool.false_eq_true, if_false, condE_false])
      have : i = 6 := by omega
      subst this
      exact .inr ⟨by simp, hs, .inl ⟨rfl, classOf_none n hno⟩⟩
  refine Ok.eq ?_ (by unfold k_ref1_Class; rfl)
  refine ok_lp lp0 ?_
  rintro e vs g ⟨hs, (⟨rfl, hc⟩ | ⟨rfl, hv⟩)⟩
  · exact ok_val (v := .int .i64 (-1)) (g := g) rfl ⟨by rw [hc], hs⟩
  · simp only at hv
    exact ok_val (v := .int .i64 (classOf n)) (g := g) (by show some (vs.getD 0 .bot, g) = _; rw [hv]) ⟨rfl, hs⟩
theorem rbit_eq (b : BitVec 64) (i : Nat) (hi : i < 64) (h : Heap) : k_ref1_Bit (.int .u64 b.toNat) (.int .i64 i) h = some (.bool (b.getLsbD i), h) := by
  have h0 : (0 : Int) ≤ i := by omega
  have h1 : (i : Int) < 64 := by omega
  have hw : IntKind.u64.wrap (i : Int) = i := wrap_u64 (by omega) (by omega)
  simp -implicitDefEqProofs only [k_ref1_Bit, bin_geq, h0, decide_true, Option.bind_some, gdW_tt, gQ_true, bin_lss, h1, cl_some, pickP_bool, if_true, cvI_int, hw, shr_is, and_u64, ofInt_toNat, eql_int, bit_is1]
theorem rones_ok (b : BitVec 64) (h : Heap) : Ok (k_ref1_Ones (.int .u64 b.toNat) h) fun r => r = (.int .i64 (ones b), h) := by
  have lp0 : Ok (k_ref1_Ones_L0 (.int .u64 b.toNat) (.int .i64 0) (.int .i64 0) h) fun r => r = (.exit 0, [.int .i64 (ones b), .int .i64 64], h) := by
    refine ok_loop (fun m vs g => ∃ (i : Nat), vs = [.int .i64 (cnt b.getLsbD i), .int .i64 i] ∧ m + i = 64 ∧ h = g) ?_ (n := 64) (by omega) ⟨0, rfl, rfl, rfl⟩
    rintro m vs _ ⟨i, rfl, hm, rfl⟩
    rw [gd0, gd1]
    have hc := cnt_le b.getLsbD i
    by_cases hi : i < 64
    · have hlt : (i : Int) < 64 := by omega
      have e : cnt b.getLsbD (i + 1) = cnt b.getLsbD i + (b.getLsbD i).toNat := rfl
      refine (Ok.of (r := (.normal, [.int .i64 ((cnt b.getLsbD (i + 1) : Nat) : Int), .int .i64 ((i + 1 : Nat) : Int)], h)) ?_).eq ?_
      · exact .inl ⟨rfl, m - 1, by omega, i + 1, rfl, by omega, rfl⟩
      · have hbit := rbit_eq b i hi h
        rcases bool_cases (b.getLsbD i) with hb | hb
        · rw [hb] at hbit e
          simp -implicitDefEqProofs only [k_ref1_Ones_b0, bin_lss, hlt, decide_true, Option.bind_some, condE_true, hbit, cl_some, bin_add, suc64 _ (show cnt b.getLsbD i < 2 ^ 62 by omega), suc64 i (by omega), e]
          rfl
        · rw [hb] at hbit e
          simp -implicitDefEqProofs only [k_ref1_Ones_b0, bin_lss, hlt, decide_true, Option.bind_some, condE_true, condE_false, hbit, cl_some, bin_add, suc64 i (by omega), e]
          rfl
    · have hlt : ¬ (i : Int) < 64 := by omega
      obtain rfl : i = 64 := by omega
      refine (Ok.of (r := (.exit 0, [.int .i64 (ones b), .int .i64 64], h)) ?_).eq (by simp -implicitDefEqProofs only [k_ref1_Ones_b0, bin_lss, hlt, decide_false, Option.bind_some, condE_false]; rfl)
      exact .inr ⟨by simp, rfl⟩
  refine Ok.eq ?_ (by unfold k_ref1_Ones; rfl)
  refine ok_lp lp0 ?_
  rintro _ _ _ he
  cases he
  exact ok_val (v := .int .i64 (ones b)) (g := h) (by simp -implicitDefEqProofs only [if_true, thenK_normal, gd0]) rfl
theorem rplaces_ok (c : Int) (h : Heap) : Ok (k_ref1_Places (.int .i64 c) h) fun r => r.1 = .int .i64 (placesOf c) ∧ Same [] h r.2 := by
  rcases cls_cases c with hc | ⟨_, h2, h3⟩
  · have h1 : ¬ c < 0 := by omega
    have h2 : ¬ 5 < c := by omega
    refine Ok.eq ?_ (by simp -implicitDefEqProofs only [k_ref1_Places, bin_lss, h1, decide_false, Option.bind_some, gdW_ff, gQ_true, bin_gtr, h2, cl_some, pickP_bool, Bool.false_eq_true, if_false, condE_false]; rfl)
    refine ok_cl (rwords_ok c h) ?_
    rintro _ g ⟨rfl, s⟩
    refine ok_val (v := .int .i64 (placesOf c)) (g := g) ?_ ⟨rfl, s⟩
    rcases hc with rfl | rfl | rfl | rfl | rfl | rfl <;> rfl
  · by_cases h1 : c < 0
    · exact ok_val (v := .int .i64 0) (g := h) (by simp -implicitDefEqProofs [k_ref1_Places, h1]) ⟨by rw [h2], Same.refl _ _⟩
    · have h4 : 5 < c := by omega
      exact ok_val (v := .int .i64 0) (g := h) (by simp -implicitDefEqProofs [k_ref1_Places, h1, h4]) ⟨by rw [h2], Same.refl _ _⟩
end Go.Ab.F
