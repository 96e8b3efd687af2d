import Derived.Test.YtmpinijdejafkaaDoorKit
import Derived.Test.YtmpinijdejafkaaDoorObj
import Derived.Test.YtmpinijdejafkaaDoorArn
import Derived.Test.YtmpinijdejafkaaDoorHea

namespace Go.Ab.F
open Go Go.Ab
set_option linter.all false
set_option linter.all false
attribute [local congr] c_bind c_cl c_mk c_lp c_clC c_gQ c_gV c_condE c_thenK

/-! Lists of ints of one's own that lose their first and get a last. -/
structure QuV (g : Heap) (base : Nat) (b : Option Nat) (v : AV) (L : List Int) : Prop where
  nil : b = none → v = .sl none 0 (.ex 0) ∧ L = []
  blk : ∀ i, b = some i → base ≤ i ∧ i < g.next ∧ ∃ pre : List AV, g.get i = some (.cells true (pre ++ wsC L)) ∧ v = .sl (some (i, pre.length)) L.length (.un 1)
theorem QuV.lnL {g : Heap} {base : Nat} {b : Option Nat} {v : AV} {L : List Int} (H : QuV g base b v L) : Go.Ab.lnL v = some (.int .i64 L.length) := by
  cases b with
  | none => obtain ⟨rfl, rfl⟩ := H.nil rfl; rfl
  | some i => obtain ⟨_, _, pre, _, rfl⟩ := H.blk i rfl; simp
theorem QuV.sc {g : Heap} {base : Nat} {b : Option Nat} {v : AV} {L : List Int} (H : QuV g base b v L) : scalar v = true := by
  cases b with
  | none => obtain ⟨rfl, rfl⟩ := H.nil rfl; rfl
  | some i => obtain ⟨_, _, pre, _, rfl⟩ := H.blk i rfl; rfl
theorem QuV.samev {g : Heap} {base : Nat} {b : Option Nat} {v : AV} {L : List Int} (H : QuV g base b v L) : same v v = true := by
  cases b with
  | none => obtain ⟨rfl, rfl⟩ := H.nil rfl; rfl
  | some i => obtain ⟨_, _, pre, _, rfl⟩ := H.blk i rfl; exact same_sl _ _ _
theorem QuV.mt {g : Heap} {base : Nat} : QuV g base none (.sl none 0 (.ex 0)) [] := ⟨fun _ => ⟨rfl, rfl⟩, fun i h => by cases h⟩
theorem QuV.keep {g g' : Heap} {base : Nat} {b : Option Nat} {v : AV} {L : List Int} {S : List Nat} (H : QuV g base b v L) (s : Same S g g') (hb : ∀ i, b = some i → i ∉ S) : QuV g' base b v L :=
  ⟨H.nil, fun i hi => by
    obtain ⟨h1, h2, pre, h3, h4⟩ := H.blk i hi
    exact ⟨h1, Nat.lt_of_lt_of_le h2 s.next, pre, (s.get i h2 (hb i hi)).trans h3, h4⟩⟩
theorem wsC_app (a b : List Int) : wsC (a ++ b) = wsC a ++ wsC b := by simp [wsC]
theorem wsC_len (a : List Int) : (wsC a).length = a.length := by simp [wsC]
theorem QuV.app {g : Heap} {base c : Nat} {b : Option Nat} {v : AV} {L : List Int} {x : Int} (H : QuV g base b v L) (hc : g.get c = some (.cells true [.int .i64 x])) (hb : base ≤ g.next) (hl : L.length ≤ 1000) :
    ∃ v' g', appendA g 1 8 v (.sl (some (c, 0)) 1 (.ex 1)) = some (v', g') ∧ QuV g' base (some g.next) v' (L ++ [x]) ∧ Same b.toList g g' ∧ g'.next = g.next + 1 := by
  have hld : loadN g (c, 0) (1 * 1) = some [.int .i64 x] := by simp only [loadN, hc, spanF_eq]; rfl
  cases b with
  | none =>
    obtain ⟨rfl, rfl⟩ := H.nil rfl
    refine ⟨.sl (some (g.next, 0)) 1 (.un 1), g.new (.cells true [.int .i64 x]), ?_, ⟨(fun h => by cases h), fun i hi => ?_⟩, Same.new _ _, rfl⟩
    · simp only [appendA, countA, addedA, hld, Option.bind_some]
      rw [if_neg (by omega), if_pos (by omega)]
      rfl
    · cases hi
      exact ⟨hb, Nat.lt_succ_self _, [], get_new_eq, rfl⟩
  | some i =>
    obtain ⟨b1, b2, pre, b3, rfl⟩ := H.blk i rfl
    have hle : (pre ++ wsC L).length = pre.length + L.length := by rw [List.length_append, wsC_len]
    refine ⟨.sl (some (g.next, 0)) (L.length + 1) (.un 1), (g.put i none).new (.cells true (wsC (L ++ [x]))), ?_, ⟨(fun h => by cases h), fun j hj => ?_⟩, ?_, rfl⟩
    · simp only [appendA, countA, addedA, hld, Option.bind_some, ne_eq, not_true_eq_false, if_false, b3]
      rw [if_neg (by omega), if_pos (by omega), if_neg (by omega), if_pos (by omega)]
      have : ([AV.int .i64 x].all scalar) = true := rfl
      simp only [this, if_true, List.drop_left, wsC_app]
      rfl
    · cases hj
      exact ⟨hb, Nat.lt_succ_self _, [], by
        have := get_new_eq (h := g.put i none) (b := .cells true (wsC (L ++ [x]))); simpa using this, by simp⟩
    · exact (Same.put _ _ _).sub (by simp) |>.trans ((Same.new _ _).sub (by simp))
theorem QuV.tail {g : Heap} {base : Nat} {b : Option Nat} {v : AV} {x : Int} {L : List Int} (H : QuV g base b v (x :: L)) :
    ∃ i o, b = some i ∧ v = .sl (some (i, o)) (L.length + 1) (.un 1) ∧ ldS g (.ptr (some (i, o))) = some (.int .i64 x) ∧ ∃ v', slcP 1 v (some (.int .i64 1)) none none = some v' ∧ QuV g base b v' L := by
  cases b with
  | none => obtain ⟨_, h⟩ := H.nil rfl; cases h
  | some i =>
    obtain ⟨b1, b2, pre, b3, rfl⟩ := H.blk i rfl
    refine ⟨i, pre.length, rfl, rfl, ?_, .sl (some (i, pre.length + 1)) L.length (.un 1), ?_, ⟨(fun h => by cases h), fun j hj => ?_⟩⟩
    · rw [ldS_at b3, List.getElem?_append_right (Nat.le_refl _), Nat.sub_self]; rfl
    · have e : (x :: L).length = L.length + 1 := rfl
      rw [e]
      simp only [slcP, sliceUn, highA, lowA, boundA, ne_eq, not_true_eq_false, if_false, Option.bind_some]
      rw [if_pos ⟨by omega, by omega⟩]
      simp [addA]
    · cases hj
      exact ⟨b1, b2, pre ++ [.int .i64 x], by rw [b3, List.append_assoc]; rfl, by simp⟩

/-! ### Cells by a function -/
def upd {α : Type} (f : Nat → α) (k : Nat) (x : α) : Nat → α := fun i => if i = k then x else f i
theorem upd_eq {α : Type} (f : Nat → α) (k : Nat) (x : α) : upd f k x k = x := by unfold upd; rw [if_pos rfl]
theorem upd_ne {α : Type} (f : Nat → α) {k i : Nat} (x : α) (h : i ≠ k) : upd f k x i = f i := by unfold upd; rw [if_neg h]
def fc (n : Nat) (f : Nat → AV) : List AV := (List.range n).map f
theorem fc_len (n : Nat) (f : Nat → AV) : (fc n f).length = n := by simp [fc]
theorem fc_at {n k : Nat} (f : Nat → AV) (h : k < n) : (fc n f)[k]? = some (f k) := by simp [fc, h]
theorem fc_set {n k : Nat} (f : Nat → AV) (x : AV) (h : k < n) : (fc n f).set k x = fc n (upd f k x) := by
  apply List.ext_getElem?
  intro i
  by_cases hi : i < n
  · by_cases e : i = k
    · subst e
      rw [List.getElem?_set_self (by rw [fc_len]; exact h), fc_at _ h, upd_eq]
    · rw [List.getElem?_set_ne (fun e' => e e'.symm), fc_at _ hi, fc_at _ hi, upd_ne _ _ e]
  · rw [List.getElem?_eq_none (by rw [List.length_set, fc_len]; omega), List.getElem?_eq_none (by rw [fc_len]; omega)]
theorem fc_congr {n : Nat} {f g : Nat → AV} (h : ∀ i, i < n → f i = g i) : fc n f = fc n g := by
  unfold fc
  apply List.map_congr_left
  intro i hi
  exact h i (List.mem_range.1 hi)
theorem fc_succ (n : Nat) (f : Nat → AV) : fc (n + 1) f = fc n f ++ [f n] := by simp [fc, List.range_succ]
theorem and_mask (n : Int) (k : Nat) (hk : k ≤ 32) : binP .and (.int .i64 n) (.int .i64 (((2 ^ k - 1 : Nat)) : Int)) = some (.int .i64 (n % ((2 ^ k : Nat) : Int))) := by
  rw [bin_int _ (by decide) (by decide)]
  have h2 : 2 ^ k ≤ 2 ^ 32 := Nat.pow_le_pow_right (by decide) hk
  have h1 := Nat.two_pow_pos k
  have e : intBin .and .i64 n ((2 ^ k - 1 : Nat) : Int) = some (.int .i64 (IntKind.i64.wrap (BitVec.ofInt 64 n &&& BitVec.ofInt 64 ((2 ^ k - 1 : Nat) : Int)).toNat)) := rfl
  have e7 : (BitVec.ofInt 64 ((2 ^ k - 1 : Nat) : Int)).toNat = 2 ^ k - 1 := by
    rw [BitVec.ofInt_natCast, BitVec.toNat_ofNat]; exact Nat.mod_eq_of_lt (by omega)
  have h : (BitVec.ofInt 64 n &&& BitVec.ofInt 64 ((2 ^ k - 1 : Nat) : Int)).toNat = (n % ((2 ^ k : Nat) : Int)).toNat := by
    rw [BitVec.toNat_and, e7, Nat.and_two_pow_sub_one_eq_mod, BitVec.toNat_ofInt]
    have hd : ((2 ^ k : Nat) : Int) ∣ ((2 ^ 64 : Nat) : Int) := by
      rw [Int.natCast_dvd_natCast]; exact Nat.pow_dvd_pow 2 (by omega)
    have hm := Int.emod_emod_of_dvd n hd
    have h0 := Int.emod_nonneg n (show ((2 ^ 64 : Nat) : Int) ≠ 0 by decide)
    rw [← hm, Int.toNat_emod h0 (by omega), Int.toNat_natCast]
  have h0 := Int.emod_nonneg n (show ((2 ^ k : Nat) : Int) ≠ 0 by omega)
  have h3 := Int.emod_lt_of_pos n (show 0 < ((2 ^ k : Nat) : Int) by omega)
  rw [e, h, wrap_i64 (by omega) (by omega)]
  congr 2; omega
theorem find_zero {a : PAr} (H : Wf a) : a.find 0 = none := by
  cases h : a.find 0 with
  | none => rfl
  | some x =>
    obtain ⟨n, q⟩ := x
    obtain ⟨h1, h2⟩ := find_en h
    have := placed_rm H h2
    rw [h1] at this; omega
end Go.Ab.F

namespace Go.Ab.F
open Go Go.Ab
set_option linter.all false
set_option linter.all false

/-! The same places: what a mark, a clearing leave. -/
theorem isM_of {a : PAr} {ad n : Int} {q : Nat} (h : a.find ad = some (n, q)) : a.isM ad = (a.at n).md.getLsbD q := by unfold PAr.isM; rw [h]
/-- The same places. -/
structure SameTk (a b : PAr) : Prop where
  ws : b.ws = a.ws
  len : b.sp.length = a.sp.length
  cls : ∀ n, a.has n → (b.at n).cls = (a.at n).cls
  tk : ∀ n, a.has n → (b.at n).tk = (a.at n).tk
namespace SameTk
variable {a b : PAr} (S : SameTk a b)
include S
theorem has (n : Int) : b.has n ↔ a.has n := by unfold PAr.has; rw [S.len]
theorem clsE (n : Int) : b.cls n = a.cls n := by
  unfold PAr.cls
  by_cases h : a.has n
  · rw [if_pos h, if_pos ((S.has n).2 h), S.cls n h]
  · rw [if_neg h, if_neg (fun h' => h ((S.has n).1 h'))]
theorem find (ad : Int) : b.find ad = a.find ad := by
  unfold PAr.find
  rw [S.clsE]
  by_cases h : a.has (spanOf ad)
  · rw [S.tk _ h]
  · have : a.cls (spanOf ad) = -1 := by unfold PAr.cls; rw [if_neg h]
    have hp : placeOf ad (-1) = -1 := by unfold placeOf; rw [if_pos (.inl rfl)]
    rw [this, hp, if_pos (.inl (by decide)), if_pos (.inl (by decide))]
theorem placed (e : En) : Placed b e ↔ Placed a e := by
  unfold Placed
  constructor
  · rintro ⟨h1, h2, h3, h4⟩
    have h1' := (S.has _).1 h1
    rw [S.cls _ h1'] at h2; rw [S.tk _ h1'] at h4
    exact ⟨h1', h2, h3, h4⟩
  · rintro ⟨h1, h2, h3, h4⟩
    exact ⟨(S.has _).2 h1, by rw [S.cls _ h1]; exact h2, h3, by rw [S.tk _ h1]; exact h4⟩
theorem lies {ad : Int} {W : List Int} (h : Lies a ad W) : Lies b ad W := by
  obtain ⟨e, h1, h2, h3⟩ := h.en
  exact ⟨⟨e, h1, (S.placed e).2 h2, h3⟩, fun i hi => by rw [S.ws]; exact h.wd i hi⟩
theorem wf (W : Wf a) : Wf b := ⟨by rw [S.ws, S.len]; exact W.len, by rw [S.len]; exact W.hi, fun n hn => by
  have hn' := (S.has n).1 hn
  rw [S.cls n hn', S.tk n hn']; exact W.fi n hn'⟩
end SameTk
theorem clear_at (a : PAr) (n : Int) (hn : a.has n) : (a.clear).at n = ⟨(a.at n).cls, (a.at n).tk, 0⟩ := by
  have h := PAr.at_some hn
  unfold PAr.clear
  show (((a.sp.map fun x : PSp => (⟨x.cls, x.tk, 0⟩ : PSp))[n.toNat]?).getD ⟨-1, 0, 0⟩) = _
  rw [List.getElem?_map, h]; rfl
theorem clear_same (a : PAr) : SameTk a a.clear := ⟨rfl, by simp [PAr.clear], fun n hn => by rw [clear_at a n hn], fun n hn => by rw [clear_at a n hn]⟩
/-- A mark. -/
theorem mark_no {a : PAr} {ad : Int} (h : a.find ad = none) : a.mark ad = (false, a) := by unfold PAr.mark; rw [h]
theorem mark_was {a : PAr} {ad n : Int} {q : Nat} (h : a.find ad = some (n, q)) (hm : (a.at n).md.getLsbD q = true) : a.mark ad = (false, a) := by unfold PAr.mark; rw [h]; simp [hm]
theorem mark_new {a : PAr} {ad n : Int} {q : Nat} (h : a.find ad = some (n, q)) (hm : (a.at n).md.getLsbD q = false) : a.mark ad = (true, a.setS n ⟨(a.at n).cls, (a.at n).tk, (a.at n).md ||| bitOf q⟩) := by unfold PAr.mark; rw [h]; simp [hm]
theorem setM_same {a : PAr} {n : Int} (hn : a.has n) (m : BitVec 64) : SameTk a (a.setS n ⟨(a.at n).cls, (a.at n).tk, m⟩) := by
  have hat := PAr.setS_at ⟨(a.at n).cls, (a.at n).tk, m⟩ hn
  exact ⟨rfl, a.setS_len _ _, fun k hk => by
    by_cases e : k = n
    · subst e; rw [hat]
    · rw [PAr.setS_ne _ hn hk e], fun k hk => by
    by_cases e : k = n
    · subst e; rw [hat]
    · rw [PAr.setS_ne _ hn hk e]⟩
theorem SameTk.refl (a : PAr) : SameTk a a := ⟨rfl, rfl, fun _ _ => rfl, fun _ _ => rfl⟩
theorem SameTk.trans {a b c : PAr} (S : SameTk a b) (U : SameTk b c) : SameTk a c :=
  ⟨U.ws.trans S.ws, U.len.trans S.len, fun n hn => (U.cls n ((S.has n).2 hn)).trans (S.cls n hn), fun n hn => (U.tk n ((S.has n).2 hn)).trans (S.tk n hn)⟩
theorem mark_same (a : PAr) (ad : Int) : SameTk a (a.mark ad).2 := by
  cases hf : a.find ad with
  | none => rw [mark_no hf]; exact SameTk.refl a
  | some x =>
    obtain ⟨n, q⟩ := x
    cases hm : (a.at n).md.getLsbD q with
    | true => rw [mark_was hf hm]; exact SameTk.refl a
    | false => rw [mark_new hf hm]; exact setM_same (find_some hf).1 _
theorem SameTk.cov {a b : PAr} (S : SameTk a b) : SameTk b a :=
  ⟨S.ws.symm, S.len.symm, fun n hn => (S.cls n ((S.has n).1 hn)).symm, fun n hn => (S.tk n ((S.has n).1 hn)).symm⟩
/-- What is marked then. -/
theorem mark_isM {a : PAr} (H : Wf a) (ad : Int) : ((a.mark ad).1 = true ↔ (a.find ad ≠ none ∧ a.isM ad = false)) ∧ ∀ x, (a.mark ad).2.isM x = true ↔ a.isM x = true ∨ (x = ad ∧ a.find ad ≠ none) := by
  cases hf : a.find ad with
  | none =>
    rw [mark_no hf]
    exact ⟨by simp, fun x => by simp⟩
  | some y =>
    obtain ⟨n, q⟩ := y
    obtain ⟨f1, f2, f3, f4, f5, f6, f7⟩ := find_some hf
    obtain ⟨P0, P1, P2, _⟩ := pls_eq (c := (a.at n).cls) ⟨f6, f7⟩
    cases hm : (a.at n).md.getLsbD q with
    | true =>
      rw [mark_was hf hm]
      refine ⟨by rw [isM_of hf, hm]; simp, fun x => ⟨.inl, fun h => ?_⟩⟩
      rcases h with h | ⟨rfl, _⟩
      · exact h
      · show a.isM x = true
        rw [isM_of hf, hm]
    | false =>
      have S := setM_same f1 ((a.at n).md ||| bitOf q)
      rw [mark_new hf hm]
      refine ⟨by rw [isM_of hf, hm]; simp, fun x => ?_⟩
      simp only
      have hat := PAr.setS_at ⟨(a.at n).cls, (a.at n).tk, (a.at n).md ||| bitOf q⟩ f1
      cases hx : a.find x with
      | none =>
        have h1 : a.isM x = false := by unfold PAr.isM; rw [hx]
        have h2 : (a.setS n ⟨(a.at n).cls, (a.at n).tk, (a.at n).md ||| bitOf q⟩).isM x = false := by unfold PAr.isM; rw [S.find, hx]
        rw [h1, h2]
        have : x ≠ ad := fun e => by rw [e, hf] at hx; cases hx
        simp [this]
      | some z =>
        obtain ⟨m, k⟩ := z
        obtain ⟨g1, g2, g3, g4, g5, g6, g7⟩ := find_some hx
        obtain ⟨Q0, Q1, Q2, _⟩ := pls_eq (c := (a.at m).cls) ⟨g6, g7⟩
        rw [isM_of hx, isM_of (by rw [S.find]; exact hx)]
        by_cases e : m = n
        · subst e
          rw [hat]
          show ((a.at m).md ||| bitOf q).getLsbD k = true ↔ _
          rw [BitVec.getLsbD_or, bit_get q k (by omega)]
          have hkq : k = q ↔ x = ad := ⟨fun h => by rw [g5, f5, h], fun h => by
            rw [h, hf] at hx
            injection hx with hx
            injection hx with _ h2
            exact h2.symm⟩
          by_cases h : k = q
          · simp [h, hkq.1 h]
          · have : x ≠ ad := fun e => h (hkq.2 e)
            simp [h, this]
        · rw [PAr.setS_ne _ f1 g1 e]
          have : x ≠ ad := fun e' => by
            rw [e', hf] at hx
            injection hx with hx
            injection hx with h1 _
            exact e h1.symm
          simp [this]
end Go.Ab.F

namespace Go.Ab.F
open Go Go.Ab
set_option linter.all false
set_option linter.all false

/-! Slices of one's own, or literals of none. -/
/-- A slice of one's own, or a literal of none. -/
def SlG (g : Heap) (b : Option Nat) (sz : Nat) (v : AV) (cs : List AV) (n : Nat) : Prop :=
  SlB g b sz v cs n ∨ (∃ i, b = some i ∧ v = .sl (some (i, 0)) 0 (.ex 0) ∧ cs = [] ∧ n = 0 ∧ g.get i = some (.cells true []) ∧ i < g.next)
theorem appG {g : Heap} {b : Option Nat} {sz n m bytes : Nat} {q x : AV} {cs xs : List AV} (H : SlG g b sz q cs n) (hc : countA x = some m) (ha : addedA g sz x = some xs) (hl : xs.length = m * sz) (hs : xs.all scalar = true) (h0 : 0 < sz) (hm : 0 < m) (hn : (n + m) * bytes ≤ 2 ^ 47) :
    ∃ v' g', appendA g sz bytes q x = some (v', g') ∧ SlB g' (some g.next) sz v' (cs ++ xs) (n + m) ∧ Same b.toList g g' ∧ g'.next = g.next + 1 := by
  have hms : 0 < m * sz := Nat.mul_pos hm h0
  rcases H with H | ⟨i, rfl, rfl, rfl, rfl, hg, hlt⟩
  · cases b with
    | none =>
      have e : q = .sl none 0 (.ex 0) := H.eq
      have hn0 := H.nil rfl
      subst hn0
      have hcs : cs = [] := by have := H.len; simpa using this
      subst hcs
      refine ⟨.sl (some (g.next, 0)) m (.un sz), g.new (.cells true xs), ?_, ⟨by rw [List.nil_append, Nat.zero_add]; exact hl, by rw [List.nil_append]; exact hs, by rw [Nat.zero_add], (fun h => by cases h), fun i hi => ?_⟩, Same.new _ _, rfl⟩
      · rw [e]
        simp only [appendA, hc, ha, Option.bind_some]
        rw [if_neg (by omega), if_pos (by omega)]
        simp only [if_true, Option.bind_some, List.nil_append, hs, Nat.zero_add]
      · cases hi
        exact ⟨Nat.lt_succ_self _, by rw [List.nil_append]; exact get_new_eq, by omega⟩
    | some i =>
      have e : q = .sl (some (i, 0)) n (.un sz) := H.eq
      obtain ⟨b1, b2, b3⟩ := H.blk i rfl
      have hlc := H.len
      have hmul : (n + m) * sz = n * sz + m * sz := Nat.add_mul ..
      refine ⟨.sl (some (g.next, 0)) (n + m) (.un sz), (g.put i none).new (.cells true (cs ++ xs)), ?_, ⟨by rw [List.length_append, hl, hlc, hmul], by rw [List.all_append, H.sc, hs]; rfl, rfl, (fun h => by cases h), fun j hj => ?_⟩, ?_, rfl⟩
      · rw [e]
        simp only [appendA, hc, ha, Option.bind_some, ne_eq, not_true_eq_false, if_false, b2]
        rw [if_neg (by omega), if_pos hn, if_neg (by omega), if_pos (by omega)]
        simp only [hs, if_true, List.drop_zero]
      · cases hj
        exact ⟨Nat.lt_succ_self _, by have := get_new_eq (h := g.put i none) (b := .cells true (cs ++ xs)); simpa using this, by omega⟩
      · exact (Same.put _ _ _).sub (by simp) |>.trans ((Same.new _ _).sub (by simp))
  · have hlo : loadN g (i, 0) (0 * sz) = some [] := by
      rw [Nat.zero_mul]
      simp only [loadN, hg, spanF_eq]; rfl
    refine ⟨.sl (some (g.next, 0)) m (.un sz), g.new (.cells true xs), ?_, ⟨by rw [List.nil_append, Nat.zero_add]; exact hl, by rw [List.nil_append]; exact hs, by rw [Nat.zero_add], (fun h => by cases h), fun j hj => ?_⟩, (Same.new _ _).sub (by simp), rfl⟩
    · simp only [appendA, hc, ha, Option.bind_some]
      rw [if_neg (by omega), if_pos (by omega)]
      simp only [hlo, Option.bind_some, List.nil_append, hs, if_true, Nat.zero_add]
    · cases hj
      exact ⟨Nat.lt_succ_self _, by rw [List.nil_append]; exact get_new_eq, by omega⟩
theorem appG0 {g : Heap} {b : Option Nat} {sz n bytes : Nat} {q x : AV} {cs : List AV} (H : SlG g b sz q cs n) (hc : countA x = some 0) (ha : addedA g sz x = some []) :
    ∃ g', appendA g sz bytes q x = some (q, g') ∧ SlG g' b sz q cs n ∧ Same [] g g' ∧ g'.next = g.next := by
  rcases H with H | ⟨i, rfl, rfl, rfl, rfl, hg, hlt⟩
  · cases b with
    | none =>
      have e : q = .sl none 0 (.ex 0) := H.eq
      refine ⟨g, ?_, .inl H, Same.refl _ _, rfl⟩
      rw [e]; simp [appendA, hc, ha]
    | some i =>
      have e : q = .sl (some (i, 0)) n (.un sz) := H.eq
      refine ⟨g, ?_, .inl H, Same.refl _ _, rfl⟩
      rw [e]; simp [appendA, hc, ha]
  · refine ⟨g.put i (some (.cells true [])), ?_, .inr ⟨i, rfl, rfl, rfl, rfl, get_put_eq, hlt⟩, ⟨Nat.le_refl _, fun j _ _ => ?_⟩, rfl⟩
    · have : storeN g (i, 0) [] = some (g.put i (some (.cells true []))) := by
        simp only [storeN, hg, spliceF_eq]; rfl
      simp [appendA, hc, ha, addA, this]
    · by_cases e : j = i
      · subst e; rw [get_put_eq, hg]
      · rw [get_put_ne e]

theorem SlG.scv {g : Heap} {b : Option Nat} {sz n : Nat} {v : AV} {cs : List AV} (H : SlG g b sz v cs n) : scalar v = true := by
  rcases H with H | ⟨i, rfl, rfl, _⟩
  · exact H.scv
  · rfl
theorem SlG.keep {g g' : Heap} {b : Option Nat} {sz n : Nat} {v : AV} {cs : List AV} {S : List Nat} (H : SlG g b sz v cs n) (s : Same S g g') (hb : ∀ i, b = some i → i ∉ S) : SlG g' b sz v cs n := by
  rcases H with H | ⟨i, rfl, rfl, rfl, rfl, h1, h2⟩
  · exact .inl (H.same s hb)
  · exact .inr ⟨i, rfl, rfl, rfl, rfl, (s.get _ h2 (hb i rfl)).trans h1, Nat.lt_of_lt_of_le h2 s.next⟩
theorem SlG.slb {g : Heap} {b : Option Nat} {sz n : Nat} {v : AV} {cs : List AV} (H : SlG g b sz v cs n) (hn : 0 < n) : SlB g b sz v cs n := by
  rcases H with H | ⟨i, rfl, rfl, rfl, rfl, h1, h2⟩
  · exact H
  · omega
theorem appS {g : Heap} {b : Option Nat} {sz n m bytes : Nat} {q x : AV} {cs xs : List AV} (H : SlG g b sz q cs n) (hc : countA x = some m) (ha : addedA g sz x = some xs) (hl : xs.length = m * sz) (hs : xs.all scalar = true) (h0 : 0 < sz) (hn : (n + m) * bytes ≤ 2 ^ 47) :
    ∃ b' v' g', appendA g sz bytes q x = some (v', g') ∧ SlG g' b' sz v' (cs ++ xs) (n + m) ∧ Same b.toList g g' ∧ (b' = b ∨ b' = some g.next) := by
  cases m with
  | zero =>
    obtain rfl : xs = [] := List.eq_nil_of_length_eq_zero (by omega)
    obtain ⟨g', h1, h2, h3, h4⟩ := appG0 (bytes := bytes) H hc ha
    exact ⟨b, q, g', h1, by rw [List.append_nil, Nat.add_zero]; exact h2, h3.sub (by simp), .inl rfl⟩
  | succ m =>
    obtain ⟨v', g', h1, h2, h3, h4⟩ := appG (bytes := bytes) H hc ha hl hs h0 (by omega) hn
    exact ⟨some g.next, v', g', h1, .inl h2, h3, .inr rfl⟩
end Go.Ab.F

namespace Go.Ab.F
open Go Go.Ab
set_option linter.all false
set_option linter.all false

/-! What a span's sweep leaves. -/
structure Swept (a b : PAr) (n : Int) : Prop where
  wf : Wf b
  len : b.sp.length = a.sp.length
  find : ∀ ad m q, b.find ad = some (m, q) ↔ a.find ad = some (m, q) ∧ (m = n → (a.at n).md.getLsbD q = true)
  lies : ∀ ad W, Lies a ad W → b.find ad ≠ none → Lies b ad W
  isM : ∀ ad, b.find ad ≠ none → b.isM ad = a.isM ad
  cls : ∀ m, m ≠ n → b.cls m = a.cls m
  clsn : b.cls n = -1 ∨ (b.cls n = a.cls n ∧ ∃ ad q, b.find ad = some (n, q))
theorem sweep_no {a : PAr} {n : Int} (h : a.cls n = -1) : a.sweep n = (0, a) := by unfold PAr.sweep; rw [if_pos h]
theorem sweep_swept {a : PAr} (H : Wf a) {n : Int} (hc : a.cls n ≠ -1) : Swept a (a.sweep n).2 n := by
  obtain ⟨hn, he⟩ := cls_has hc
  have hfi := H.fi n hn
  rw [← he] at hfi
  rcases hfi with h | ⟨c0, c5, hbd⟩
  · exact absurd h hc
  obtain ⟨P0, P1, P2, _⟩ := pls_eq (c := a.cls n) ⟨c0, c5⟩
  have hn1 := hn.1
  have hn2 := hn.2
  unfold PAr.sweep
  rw [if_neg hc]
  simp only
  generalize hx : (if (a.at n).tk &&& (a.at n).md = 0 then (⟨-1, 0, 0⟩ : PSp) else ⟨(a.at n).cls, (a.at n).tk &&& (a.at n).md, (a.at n).md⟩) = x
  have hat := PAr.setS_at x hn
  have hcls := fun m => a.setS_cls (m := m) x hn
  have hlen := a.setS_len n x
  have hhas := fun m => a.setS_has n m x
  have hne : ∀ m, a.has m → m ≠ n → (a.setS n x).at m = a.at m := fun m hm h => PAr.setS_ne _ hn hm h
  have hws := PAr.setS_ws a n x
  generalize a.setS n x = b at *
  have hxc : ((a.at n).tk &&& (a.at n).md = 0 → x = ⟨-1, 0, 0⟩) ∧ (¬ (a.at n).tk &&& (a.at n).md = 0 → x.cls = a.cls n ∧ x.md = (a.at n).md) := by
    rw [← hx]
    constructor
    · intro h; rw [if_pos h]
    · intro h; rw [if_neg h]; exact ⟨he.symm, rfl⟩
  have hxt : ∀ j, x.tk.getLsbD j = ((a.at n).tk.getLsbD j && (a.at n).md.getLsbD j) := fun j => by
    rw [← hx]
    split
    · rename_i h
      rw [← BitVec.getLsbD_and, h]
    · show ((a.at n).tk &&& (a.at n).md).getLsbD j = _
      rw [BitVec.getLsbD_and]
  have nz : ∀ {q : Nat}, (a.at n).tk.getLsbD q = true → (a.at n).md.getLsbD q = true → ¬ (a.at n).tk &&& (a.at n).md = 0 := fun {q} h1 h2 h => by
    have h6 : ((a.at n).tk &&& (a.at n).md).getLsbD q = true := by rw [BitVec.getLsbD_and, h1, h2]; rfl
    rw [h] at h6
    simp at h6
  have hpl : ∀ e : En, Placed b e ↔ Placed a e ∧ (e.s = n → (a.at n).md.getLsbD e.q = true) := by
    intro e
    by_cases hs : e.s = n
    · constructor
      · rintro ⟨h1, h2, h3, h4⟩
        rw [hs, hat] at h2 h4
        rw [hxt, Bool.and_eq_true] at h4
        have hz := nz h4.1 h4.2
        exact ⟨⟨by rw [hs]; exact hn, by rw [hs, ← he, ← h2, (hxc.2 hz).1], h3, by rw [hs]; exact h4.1⟩, fun _ => h4.2⟩
      · rintro ⟨⟨h1, h2, h3, h4⟩, h5⟩
        have h5 := h5 hs
        rw [hs] at h2 h4
        have hz := nz h4 h5
        exact ⟨(hhas _).2 h1, by rw [hs, hat, (hxc.2 hz).1, he]; exact h2, h3, by rw [hs, hat, hxt, h4, h5]; rfl⟩
    · constructor
      · rintro ⟨h1, h2, h3, h4⟩
        have h1' := (hhas _).1 h1
        rw [hne _ h1' hs] at h2 h4
        exact ⟨⟨h1', h2, h3, h4⟩, fun h => absurd h hs⟩
      · rintro ⟨⟨h1, h2, h3, h4⟩, _⟩
        exact ⟨(hhas _).2 h1, by rw [hne _ h1 hs]; exact h2, h3, by rw [hne _ h1 hs]; exact h4⟩
  have hwf : Wf b := ⟨by rw [hlen, hws]; exact H.len, by rw [hlen]; exact H.hi, fun m hm => by
    have hm' := (hhas m).1 hm
    by_cases e : m = n
    · subst e
      rw [hat]
      by_cases hz : (a.at m).tk &&& (a.at m).md = 0
      · rw [hxc.1 hz]; exact .inl rfl
      · right
        rw [(hxc.2 hz).1]
        refine ⟨c0, c5, fun j hj => ?_⟩
        rw [hxt, hbd j hj]; rfl
    · rw [hne m hm' e]; exact H.fi m hm'⟩
  have hf : ∀ ad m q, b.find ad = some (m, q) ↔ a.find ad = some (m, q) ∧ (m = n → (a.at n).md.getLsbD q = true) := fun ad m q => by
    constructor
    · intro hf
      obtain ⟨g1, g2⟩ := find_en hf
      obtain ⟨g3, g4⟩ := (hpl _).1 g2
      have := placed_find' H g3
      rw [g1] at this; exact ⟨this, g4⟩
    · rintro ⟨hf, h⟩
      obtain ⟨g1, g2⟩ := find_en hf
      have := placed_find' hwf ((hpl _).2 ⟨g2, h⟩)
      rw [g1] at this; exact this
  refine ⟨hwf, hlen, hf, fun ad W L hb => ?_, fun ad hb => ?_, fun m hm => by rw [hcls, if_neg hm], ?_⟩
  · obtain ⟨⟨m, q⟩, hb⟩ := Option.ne_none_iff_exists'.1 hb
    obtain ⟨h1, h2⟩ := (hf ad m q).1 hb
    obtain ⟨e, k1, k2, k3⟩ := L.en
    have := placed_find' H k2
    rw [k1, h1] at this
    injection this with this
    injection this with e1 e2
    exact ⟨⟨e, k1, (hpl e).2 ⟨k2, fun hs => by rw [← e2]; exact h2 (by rw [e1]; exact hs)⟩, k3⟩, fun i hi => by rw [hws]; exact L.wd i hi⟩
  · obtain ⟨⟨m, q⟩, hb⟩ := Option.ne_none_iff_exists'.1 hb
    obtain ⟨h1, h2⟩ := (hf ad m q).1 hb
    rw [isM_of h1, isM_of hb]
    by_cases e : m = n
    · subst e
      rw [hat, (hxc.2 (nz (find_some h1).2.2.2.1 (h2 rfl))).2]
    · rw [hne m (find_some h1).1 e]
  · by_cases hz : (a.at n).tk &&& (a.at n).md = 0
    · left; rw [hcls, if_pos rfl, hxc.1 hz]
    · right
      refine ⟨by rw [hcls, if_pos rfl, (hxc.2 hz).1], ?_⟩
      obtain ⟨j, hj⟩ : ∃ j, ((a.at n).tk &&& (a.at n).md).getLsbD j = true := by
        apply Classical.byContradiction
        intro hno
        apply hz
        apply BitVec.eq_of_getLsbD_eq
        intro j _
        cases hb : ((a.at n).tk &&& (a.at n).md).getLsbD j with
        | true => exact absurd ⟨j, hb⟩ hno
        | false => simp
      rw [BitVec.getLsbD_and, Bool.and_eq_true] at hj
      have hjp : j < pls (a.cls n) := by
        apply Classical.byContradiction
        intro h
        rw [hbd j (by omega)] at hj; cases hj.1
      have hfd := find_at (a := a) H.hi hn (q := j) (by rw [← he]; omega)
      rw [hj.1, if_pos rfl] at hfd
      exact ⟨_, j, (hf _ n j).2 ⟨hfd, fun _ => hj.2⟩⟩
theorem sweep_wf {a : PAr} (H : Wf a) (n : Int) : Wf (a.sweep n).2 := by
  by_cases hc : a.cls n = -1
  · rw [sweep_no hc]; exact H
  · exact (sweep_swept H hc).wf
end Go.Ab.F

namespace Go.Ab.F
open Go Go.Ab
set_option linter.all false
set_option linter.all false
attribute [local congr] c_bind c_cl c_mk c_lp c_clC c_gQ c_gV c_condE c_thenK

/-! A collection: the cycle's blocks. 0 to 10 as in a heap; 11 the marker, 12 the queue, 13 the map of black stacks. X: what others have. -/
/-- What is kept. -/
structure KpX (X : List Nat) (g g' : Heap) : Prop where
  next : g.next ≤ g'.next
  get : ∀ j, j ∈ X → j < g.next → g'.get j = g.get j
theorem KpX.trans {X : List Nat} {g g' g'' : Heap} (a : KpX X g g') (b : KpX X g' g'') : KpX X g g'' :=
  ⟨Nat.le_trans a.next b.next, fun j hj hl => (b.get j hj (Nat.lt_of_lt_of_le hl a.next)).trans (a.get j hj hl)⟩
theorem KpX.of {X S : List Nat} {g g' : Heap} (s : Same S g g') (h : ∀ j ∈ S, j ∉ X) : KpX X g g' := ⟨s.next, fun j hj hl => s.get j hl fun hm => h j hm hj⟩
theorem KpX.same {X : List Nat} {g g' : Heap} (s : Same [] g g') : KpX X g g' := KpX.of s (fun j hj => by simp at hj)
theorem KpX.sub {X Z : List Nat} {g g' : Heap} (k : KpX X g g') (h : ∀ j ∈ Z, j ∈ X) : KpX Z g g' := ⟨k.next, fun j hj hl => k.get j (h j hj) hl⟩
theorem KpX.refl (X : List Nat) (g : Heap) : KpX X g g := ⟨Nat.le_refl _, fun _ _ _ => rfl⟩
structure Cy (h : Heap) (C : Nat → Nat) (l : PAl) (T : List Shp) (ph : Int) (qb : Option Nat) (gq : List Int) (dn us : Int) (X : List Nat) : Prop where
  cyb : h.get (C 1) = some (.cells true [.ptr (some (C 6, 0)), .ptr (some (C 2, 0)), .ptr (some (C 4, 0)), .ptr (some (C 11, 0)), .int .i64 ph, .mp (some (C 13)), .int .i64 dn, .int .i64 us])
  mkb : h.get (C 11) = some (.cells true [.ptr (some (C 6, 0)), .ptr (some (C 2, 0)), .ptr (some (C 12, 0))])
  gqb : ∃ v, h.get (C 12) = some (.cells true [v]) ∧ QuV h 0 qb v gq
  bmb : h.get (C 13) = some (.mp [])
  tab : TbAt h (C 2) (C 3) (some (C 9)) T
  al : AlAt h (C 4) (C 5) (C 6) (C 7) (C 8) l
  wf : Wf l.ar
  lt : ∀ i, i < 14 → C i < h.next
  pos : ∀ i, i < 14 → C i ≠ 0
  inj : ∀ i j, i < 14 → j < 14 → C i = C j → i = j
  t0 : Tab0 h
  xC : ∀ i, i < 14 → i ≠ 0 → i ≠ 10 → C i ∉ X
  xq : ∀ i, qb = some i → i ∉ X ∧ (∀ j, j < 14 → i ≠ C j) ∧ i ≠ 0
  x0 : 0 ∈ X
  xl : ∀ j ∈ X, j < h.next
section
variable {h : Heap} {C : Nat → Nat} {l : PAl} {T : List Shp} {ph : Int} {qb : Option Nat} {gq : List Int} {dn us : Int} {X : List Nat}
theorem Cy.ne (H : Cy h C l T ph qb gq dn us X) (i j : Nat) (hi : i < 14 := by decide) (hj : j < 14 := by decide) (hij : i ≠ j := by decide) : C i ≠ C j := fun e => hij (H.inj i j hi hj e)
theorem Cy.keep {h' : Heap} (H : Cy h C l T ph qb gq dn us X) (s : Same [] h h') : Cy h' C l T ph qb gq dn us X := by
  obtain ⟨v, hv, hq⟩ := H.gqb
  exact
  { H with
    cyb := (s.get _ (H.lt 1 (by decide)) (by simp)).trans H.cyb
    mkb := (s.get _ (H.lt 11 (by decide)) (by simp)).trans H.mkb
    gqb := ⟨v, (s.get _ (H.lt 12 (by decide)) (by simp)).trans hv, hq.keep s (by simp)⟩
    bmb := (s.get _ (H.lt 13 (by decide)) (by simp)).trans H.bmb
    tab := H.tab.same s (by simp) (by simp) (by simp)
    al := H.al.same s (by simp) (by simp) (by simp) (by simp) (by simp)
    lt := fun i hi => Nat.lt_of_lt_of_le (H.lt i hi) s.next
    t0 := H.t0.same s (by simp)
    xl := fun j hj => Nat.lt_of_lt_of_le (H.xl j hj) s.next }
/-- The allocator and what is below it have turned. -/
theorem Cy.turn {h' : Heap} {l' : PAl} (H : Cy h C l T ph qb gq dn us X) (s : Same [C 5, C 7, C 8] h h') (a : AlAt h' (C 4) (C 5) (C 6) (C 7) (C 8) l') (w : Wf l'.ar) : Cy h' C l' T ph qb gq dn us X ∧ KpX X h h' := by
  have hS : ∀ i, i < 14 → i ≠ 5 → i ≠ 7 → i ≠ 8 → C i ∉ [C 5, C 7, C 8] := fun i hi h5 h7 h8 hm => by
    simp only [List.mem_cons, List.not_mem_nil, or_false] at hm
    rcases hm with e | e | e
    · exact h5 (H.inj i 5 hi (by decide) e)
    · exact h7 (H.inj i 7 hi (by decide) e)
    · exact h8 (H.inj i 8 hi (by decide) e)
  obtain ⟨v, hv, hq⟩ := H.gqb
  refine ⟨
  { H with
    cyb := (s.get _ (H.lt 1 (by decide)) (hS 1 (by decide) (by decide) (by decide) (by decide))).trans H.cyb
    mkb := (s.get _ (H.lt 11 (by decide)) (hS 11 (by decide) (by decide) (by decide) (by decide))).trans H.mkb
    gqb := ⟨v, (s.get _ (H.lt 12 (by decide)) (hS 12 (by decide) (by decide) (by decide) (by decide))).trans hv, hq.keep s (fun i hi => by
      have h1 := (H.xq i hi).2.1
      have h5 := h1 5 (by decide)
      have h7 := h1 7 (by decide)
      have h8 := h1 8 (by decide)
      simp; omega)⟩
    bmb := (s.get _ (H.lt 13 (by decide)) (hS 13 (by decide) (by decide) (by decide) (by decide))).trans H.bmb
    tab := H.tab.same s (hS 2 (by decide) (by decide) (by decide) (by decide)) (hS 3 (by decide) (by decide) (by decide) (by decide)) (fun i hi => by cases hi; exact hS 9 (by decide) (by decide) (by decide) (by decide))
    al := a
    wf := w
    lt := fun i hi => Nat.lt_of_lt_of_le (H.lt i hi) s.next
    t0 := H.t0.same s (by
      have h5 := H.pos 5 (by decide)
      have h7 := H.pos 7 (by decide)
      have h8 := H.pos 8 (by decide)
      simp; omega)
    xl := fun j hj => Nat.lt_of_lt_of_le (H.xl j hj) s.next }, KpX.of s fun j hj => ?_⟩
  simp only [List.mem_cons, List.not_mem_nil, or_false] at hj
  rcases hj with rfl | rfl | rfl
  · exact H.xC 5 (by decide) (by decide) (by decide)
  · exact H.xC 7 (by decide) (by decide) (by decide)
  · exact H.xC 8 (by decide) (by decide) (by decide)
/-- The queue's list has turned. -/
theorem Cy.queue {h' : Heap} (H : Cy h C l T ph qb gq dn us X) {S : List Nat} (hS : ∀ j ∈ S, some j = qb) (s : Same S h h') {qb' : Option Nat} {v' : AV} {gq' : List Int} (hv : QuV h' 0 qb' v' gq') (hb : ∀ i, qb' = some i → qb = some i ∨ h.next ≤ i) :
    stP 1 h' (.ptr (some (C 12, 0))) v' = some (.bot, h'.put (C 12) (some (.cells true [v']))) ∧ Cy (h'.put (C 12) (some (.cells true [v']))) C l T ph qb' gq' dn us X ∧ KpX X h (h'.put (C 12) (some (.cells true [v']))) := by
  obtain ⟨v, hg, hq⟩ := H.gqb
  have nC : ∀ i, i < 14 → C i ∉ S := fun i hi hm => (H.xq _ (hS _ hm).symm).2.1 i hi rfl
  have hg' : h'.get (C 12) = some (.cells true [v]) := (s.get _ (H.lt 12 (by decide)) (nC 12 (by decide))).trans hg
  have st : stP 1 h' (.ptr (some (C 12, 0))) v' = some (.bot, h'.put (C 12) (some (.cells true [v']))) := stP_one hg' (by simp) hv.sc
  have hb' : ∀ i, qb' = some i → i ∉ X ∧ (∀ j, j < 14 → i ≠ C j) ∧ i ≠ 0 := fun i hi => by
    rcases hb i hi with h1 | h1
    · exact H.xq i h1
    · refine ⟨fun hx => by have := H.xl i hx; omega, fun j hj e => by have := H.lt j hj; omega, by have := H.t0.pos; omega⟩
  have s2 : Same (C 12 :: S) h (h'.put (C 12) (some (.cells true [v']))) := (s.sub (fun j hj => List.mem_cons_of_mem _ hj)).trans ((Same.put _ _ _).sub (by simp))
  have nS : ∀ i, i < 14 → i ≠ 12 → C i ∉ C 12 :: S := fun i hi h12 hm => by
    rw [List.mem_cons] at hm
    rcases hm with e | hm
    · exact h12 (H.inj i 12 hi (by decide) e)
    · exact nC i hi hm
  refine ⟨st,
  { H with
    cyb := (s2.get _ (H.lt 1 (by decide)) (nS 1 (by decide) (by decide))).trans H.cyb
    mkb := (s2.get _ (H.lt 11 (by decide)) (nS 11 (by decide) (by decide))).trans H.mkb
    gqb := ⟨v', get_put_eq, hv.keep (Same.put _ _ _) (fun i hi => by simp; exact (hb' i hi).2.1 12 (by decide))⟩
    bmb := (s2.get _ (H.lt 13 (by decide)) (nS 13 (by decide) (by decide))).trans H.bmb
    tab := H.tab.same s2 (nS 2 (by decide) (by decide)) (nS 3 (by decide) (by decide)) (fun i hi => by cases hi; exact nS 9 (by decide) (by decide))
    al := H.al.same s2 (nS 4 (by decide) (by decide)) (nS 5 (by decide) (by decide)) (nS 6 (by decide) (by decide)) (nS 7 (by decide) (by decide)) (nS 8 (by decide) (by decide))
    lt := fun i hi => Nat.lt_of_lt_of_le (H.lt i hi) s2.next
    t0 := H.t0.same s2 (by
      rw [List.mem_cons]
      rintro (e | hm)
      · exact H.pos 12 (by decide) e.symm
      · exact (H.xq _ (hS _ hm).symm).2.2 rfl)
    xq := hb'
    xl := fun j hj => Nat.lt_of_lt_of_le (H.xl j hj) s2.next }, KpX.of s2 fun j hj => ?_⟩
  rw [List.mem_cons] at hj
  rcases hj with rfl | hj
  · exact H.xC 12 (by decide) (by decide) (by decide)
  · exact (H.xq j (hS j hj).symm).1
/-- The cycle's own numbers. -/
theorem Cy.num {h' : Heap} (H : Cy h C l T ph qb gq dn us X) {ph' dn' us' : Int} (e : h' = h.put (C 1) (some (.cells true [.ptr (some (C 6, 0)), .ptr (some (C 2, 0)), .ptr (some (C 4, 0)), .ptr (some (C 11, 0)), .int .i64 ph', .mp (some (C 13)), .int .i64 dn', .int .i64 us']))) :
    Cy h' C l T ph' qb gq dn' us' X ∧ KpX X h h' := by
  have s : Same [C 1] h h' := by rw [e]; exact Same.put _ _ _
  have nS : ∀ i, i < 14 → i ≠ 1 → C i ∉ [C 1] := fun i hi h1 hm => by
    rw [List.mem_singleton] at hm
    exact h1 (H.inj i 1 hi (by decide) hm)
  obtain ⟨v, hg, hq⟩ := H.gqb
  refine ⟨
  { H with
    cyb := by rw [e]; exact get_put_eq
    mkb := (s.get _ (H.lt 11 (by decide)) (nS 11 (by decide) (by decide))).trans H.mkb
    gqb := ⟨v, (s.get _ (H.lt 12 (by decide)) (nS 12 (by decide) (by decide))).trans hg, hq.keep s (fun i hi => by simp; exact (H.xq i hi).2.1 1 (by decide))⟩
    bmb := (s.get _ (H.lt 13 (by decide)) (nS 13 (by decide) (by decide))).trans H.bmb
    tab := H.tab.same s (nS 2 (by decide) (by decide)) (nS 3 (by decide) (by decide)) (fun i hi => by cases hi; exact nS 9 (by decide) (by decide))
    al := H.al.same s (nS 4 (by decide) (by decide)) (nS 5 (by decide) (by decide)) (nS 6 (by decide) (by decide)) (nS 7 (by decide) (by decide)) (nS 8 (by decide) (by decide))
    lt := fun i hi => Nat.lt_of_lt_of_le (H.lt i hi) s.next
    t0 := H.t0.same s (by simp; exact fun e => H.pos 1 (by decide) e.symm)
    xl := fun j hj => Nat.lt_of_lt_of_le (H.xl j hj) s.next }, KpX.of s fun j hj => ?_⟩
  rw [List.mem_singleton] at hj
  subst hj
  exact H.xC 1 (by decide) (by decide) (by decide)
theorem Cy.c (H : Cy h C l T ph qb gq dn us X) (k : Nat) (x : AV) (hx : [AV.ptr (some (C 6, 0)), .ptr (some (C 2, 0)), .ptr (some (C 4, 0)), .ptr (some (C 11, 0)), .int .i64 ph, .mp (some (C 13)), .int .i64 dn, .int .i64 us][k]? = some x) : ldS h (.ptr (some (C 1, k))) = some x := by rw [ldS_at H.cyb]; exact hx
theorem Cy.m (H : Cy h C l T ph qb gq dn us X) (k : Nat) (x : AV) (hx : [AV.ptr (some (C 6, 0)), .ptr (some (C 2, 0)), .ptr (some (C 12, 0))][k]? = some x) : ldS h (.ptr (some (C 11, k))) = some x := by rw [ldS_at H.mkb]; exact hx
theorem Cy.st (H : Cy h C l T ph qb gq dn us X) : (∀ x : Int, stP 1 h (.ptr (some (C 1, 4))) (.int .i64 x) = some (.bot, h.put (C 1) (some (.cells true [.ptr (some (C 6, 0)), .ptr (some (C 2, 0)), .ptr (some (C 4, 0)), .ptr (some (C 11, 0)), .int .i64 x, .mp (some (C 13)), .int .i64 dn, .int .i64 us])))) ∧
    (∀ x : Int, stP 1 h (.ptr (some (C 1, 6))) (.int .i64 x) = some (.bot, h.put (C 1) (some (.cells true [.ptr (some (C 6, 0)), .ptr (some (C 2, 0)), .ptr (some (C 4, 0)), .ptr (some (C 11, 0)), .int .i64 ph, .mp (some (C 13)), .int .i64 x, .int .i64 us])))) ∧
    (∀ x : Int, stP 1 h (.ptr (some (C 1, 7))) (.int .i64 x) = some (.bot, h.put (C 1) (some (.cells true [.ptr (some (C 6, 0)), .ptr (some (C 2, 0)), .ptr (some (C 4, 0)), .ptr (some (C 11, 0)), .int .i64 ph, .mp (some (C 13)), .int .i64 dn, .int .i64 x])))) :=
  ⟨fun x => stP_one H.cyb (by simp) rfl, fun x => stP_one H.cyb (by simp) rfl, fun x => stP_one H.cyb (by simp) rfl⟩
theorem QuV.appN {g : Heap} {base c : Nat} {b : Option Nat} {v : AV} {L : List Int} {x : Int} (H : QuV g base b v L) (hc : g.get c = some (.cells true [.int .i64 x])) (hb : base ≤ g.next) (hl : L.length ≤ 2 ^ 40) :
    ∃ v' g', appendA g 1 8 v (.sl (some (c, 0)) 1 (.ex 1)) = some (v', g') ∧ QuV g' base (some g.next) v' (L ++ [x]) ∧ Same b.toList g g' ∧ g'.next = g.next + 1 := by
  have hld : loadN g (c, 0) (1 * 1) = some [.int .i64 x] := by simp only [loadN, hc, spanF_eq]; rfl
  cases b with
  | none =>
    obtain ⟨rfl, rfl⟩ := H.nil rfl
    refine ⟨.sl (some (g.next, 0)) 1 (.un 1), g.new (.cells true [.int .i64 x]), ?_, ⟨(fun h => by cases h), fun i hi => ?_⟩, Same.new _ _, rfl⟩
    · simp only [appendA, countA, addedA, hld, Option.bind_some]
      rw [if_neg (by omega), if_pos (by omega)]
      rfl
    · cases hi
      exact ⟨hb, Nat.lt_succ_self _, [], get_new_eq, rfl⟩
  | some i =>
    obtain ⟨b1, b2, pre, b3, rfl⟩ := H.blk i rfl
    have hle : (pre ++ wsC L).length = pre.length + L.length := by rw [List.length_append, wsC_len]
    refine ⟨.sl (some (g.next, 0)) (L.length + 1) (.un 1), (g.put i none).new (.cells true (wsC (L ++ [x]))), ?_, ⟨(fun h => by cases h), fun j hj => ?_⟩, ?_, rfl⟩
    · simp only [appendA, countA, addedA, hld, Option.bind_some, ne_eq, not_true_eq_false, if_false, b3]
      rw [if_neg (by omega), if_pos (by omega), if_neg (by omega), if_pos (by omega)]
      have : ([AV.int .i64 x].all scalar) = true := rfl
      simp only [this, if_true, List.drop_left, wsC_app]
      rfl
    · cases hj
      exact ⟨hb, Nat.lt_succ_self _, [], by
        have := get_new_eq (h := g.put i none) (b := .cells true (wsC (L ++ [x]))); simpa using this, by simp⟩
    · exact (Same.put _ _ _).sub (by simp) |>.trans ((Same.new _ _).sub (by simp))
theorem qadd_ok (H : Cy h C l T ph qb gq dn us X) (ad : Int) (hl : gq.length ≤ 2 ^ 40) : Ok (k_grey_Queue_Add (.ptr (some (C 12, 0))) (.int .i64 ad) h) fun r => r.1 = .tup [] ∧ ∃ qb', Cy r.2 C l T ph qb' (gq ++ [ad]) dn us X ∧ KpX X h r.2 := by
  obtain ⟨v, hg, hq⟩ := H.gqb
  have l0 : ldS h (.ptr (some (C 12, 0))) = some v := by rw [ldS_at hg]; rfl
  have b1 : bsP 1 [AV.int .i64 0] 1 [(0, .int .i64 ad)] = some (.cells true [.int .i64 ad], fun i => .sl (some (i, 0)) 1 (.ex 1)) := rfl
  have s1 : Same [] h (h.new (.cells true [.int .i64 ad])) := Same.new _ _
  have H1 := H.keep s1
  have hq1 := hq.keep s1 (by simp)
  obtain ⟨v', g2, e, hq2, s2, n2⟩ := hq1.appN (c := h.next) (x := ad) get_new_eq (Nat.zero_le _) hl
  obtain ⟨st, H3, k3⟩ := H1.queue (S := qb.toList) (fun j hj => by simp at hj; exact hj.symm) s2 hq2 (fun i hi => by cases hi; exact .inr (Nat.le_refl _))
  exact ok_val (by simp -implicitDefEqProofs only [k_grey_Queue_Add, nilV_ptr, Option.bind_some, faP_ptr, Nat.zero_add, l0, b1, mk_some, e, cl_some, st] <;> rfl) ⟨rfl, _, H3, (KpX.same s1).trans k3⟩
theorem mshade_ok (H : Cy h C l T ph qb gq dn us X) (ad : Int) (hl : gq.length ≤ 2 ^ 40) : Ok (k_mark_Marker_Shade (.ptr (some (C 11, 0))) (.int .i64 ad) h) fun r => r.1 = .bool (l.ar.mark ad).1 ∧ ∃ qb', Cy r.2 C ⟨(l.ar.mark ad).2, l.un⟩ T ph qb' (if (l.ar.mark ad).1 then gq ++ [ad] else gq) dn us X ∧ KpX X h r.2 := by
  refine Ok.eq ?_ (by simp -implicitDefEqProofs only [k_mark_Marker_Shade, nilV_ptr, Option.bind_some, faP_ptr, Nat.zero_add, H.m 0 _ rfl] <;> rfl)
  refine ok_cl (mark_ok H.al.ar ad) ?_
  rintro _ g1 ⟨rfl, A1, s1⟩
  simp only at A1 s1
  have S := mark_same l.ar ad
  obtain ⟨H1, k1⟩ := H.turn (l' := ⟨(l.ar.mark ad).2, l.un⟩) (s1.sub (by simp)) (H.al.arena (s1.sub (by simp)) A1 S.len) (S.wf H.wf)
  cases hm : (l.ar.mark ad).1 with
  | false => exact ok_val (v := .bool false) (g := g1) (by simp -implicitDefEqProofs only [un_not, Bool.not_false, Option.bind_some, condE_true]) ⟨rfl, qb, by simpa using H1, k1⟩
  | true =>
    refine Ok.eq ?_ (by simp -implicitDefEqProofs only [un_not, Bool.not_true, Option.bind_some, condE_false, nilV_ptr, faP_ptr, Nat.zero_add, H1.m 2 _ rfl] <;> rfl)
    refine ok_cl (qadd_ok H1 ad hl) ?_
    rintro _ g2 ⟨rfl, qb', H2, k2⟩
    simp only at H2 k2
    exact ok_val (v := .bool true) (g := g2) rfl ⟨rfl, qb', by simpa using H2, k1.trans k2⟩
end
end Go.Ab.F

namespace Go.Ab.F
open Go Go.Ab
set_option linter.all false
set_option linter.all false
attribute [local congr] c_bind c_cl c_mk c_lp c_clC c_gQ c_gV c_condE c_thenK

/-! An object's addresses. -/
def fieldsUp (S : Shp) (a : PAr) (ad w : Int) (k : Nat) : List Int := (List.range k).filterMap fun i : Nat => if holdsB S i w = true ∧ (a.read ad (i + 1)).1 ≠ 0 then some (a.read ad (i + 1)).1 else none
theorem fieldsUp_succ (S : Shp) (a : PAr) (ad w : Int) (k : Nat) : fieldsUp S a ad w (k + 1) = fieldsUp S a ad w k ++ (if holdsB S k w = true ∧ (a.read ad (k + 1)).1 ≠ 0 then [(a.read ad (k + 1)).1] else []) := by
  unfold fieldsUp
  rw [List.range_succ, List.filterMap_append]
  congr 1
  by_cases h : holdsB S k w = true ∧ (a.read ad (k + 1)).1 ≠ 0
  · simp [h]
  · rw [if_neg h]; simp [h]
theorem fieldsUp_len (S : Shp) (a : PAr) (ad w : Int) (k : Nat) : (fieldsUp S a ad w k).length ≤ k := by
  unfold fieldsUp
  exact Nat.le_trans (List.length_filterMap_le _ _) (by simp)
def fieldsL (T : List Shp) (a : PAr) (ad : Int) : List Int :=
  if (a.read ad 0).2 = 0 then
    match unp (a.read ad 0).1 with
    | some x => if wordsOf (a.cls (spanOf ad)) < x.1 then [] else
      match T[x.2.2.toNat]? with
      | some s => fieldsUp s a ad x.1 (x.1 - 1).toNat
      | none => []
    | none => []
  else []
theorem chk_two' {R : Type} {f : Heap → Option AV} {v : AV} {g g' : Heap} {hs : List Heap} {cs : List Asked} {x : Option R} (hv : same v v = true) (h0 : f g = some v) (h1 : f g' = some v) : chk (g :: g' :: hs) ((f, v, 0, 1) :: cs) x = chk (g :: g' :: hs) cs x := by
  rw [chk_cons, allFrom_succ, allFrom_succ, allFrom_zero]
  simp [h0, h1, hv]
theorem chk_same4 {R : Type} {f : Heap → Option AV} {v : AV} {g : Heap} {cs : List Asked} {x : Option R} (hv : same v v = true) (h0 : f g = some v) : chk [g, g, g, g] ((f, v, 0, 3) :: cs) x = chk [g, g, g, g] cs x := by
  rw [chk_cons, allFrom_succ, allFrom_succ, allFrom_succ, allFrom_succ, allFrom_zero]
  simp [h0, hv]
/-- A list of one's own that was handed back. -/
def Back (h g : Heap) (v : AV) (L : List Int) : Prop := ∃ b, SlB g b 1 v (wsC L) L.length ∧ Same [] h g ∧ ∀ j, b = some j → h.next ≤ j
theorem Back.mt {h g : Heap} (s : Same [] h g) : Back h g (.sl none 0 (.ex 0)) [] := ⟨none, SlB.mt, s, fun j hj => by cases hj⟩
section
variable {h : Heap} {C : Nat → Nat} {l : PAl} {T : List Shp} {ph : Int} {qb : Option Nat} {gq : List Int} {dn us : Int} {X : List Nat}
theorem fields_loop (H : Cy h C l T ph qb gq dn us X) {ad w a2 a3 : Int} {S : Shp} {r1 r2 : Nat} (h1 : h.get r1 = some (.cells true (hdC w a2 a3))) (h2 : h.get r2 = some (.cells true S.row)) (l1 : r1 < h.next) (l2 : r2 < h.next) (hw : 1 ≤ w ∧ w ≤ 64) :
    Ok (k_mark_Marker_Fields_L0 (.ptr (some (C 11, 0))) (.int .i64 ad) (.ptr (some (r1, 0))) (.ptr (some (r2, 0))) (.int .i64 (w - 1)) (.sl none 0 (.ex 0)) (.int .i64 0) h) fun r => r.1 = .exit 0 ∧ Back h r.2.2 (r.2.1.getD 0 .bot) (fieldsUp S l.ar ad w (w - 1).toNat) := by
  refine ok_loop (fun m vs g => ∃ (i : Nat) (v : AV), vs = [v, .int .i64 i] ∧ m + i = (w - 1).toNat ∧ Back h g v (fieldsUp S l.ar ad w i)) ?_ (n := (w - 1).toNat) (by omega) ⟨0, _, rfl, by omega, Back.mt (Same.refl _ _)⟩
  rintro m vs g ⟨i, v, rfl, hm, b, hv, s, hb⟩
  rw [gd0, gd1]
  by_cases hi : i < (w - 1).toNat
  · have hlt : (i : Int) < w - 1 := by omega
    have Hg := H.keep s
    have lr : ldS g (.ptr (some (r1, 0))) = some (.int .i64 w) := by rw [ldS_at ((s.get _ l1 (by simp)).trans h1)]; rfl
    have la : ldA 3 g (.ptr (some (r2, 0))) = some (.agg S.row) := ldA_row ((s.get _ l2 (by simp)).trans h2)
    have sc := suc64 i (by omega)
    refine Ok.eq ?_ (by simp -implicitDefEqProofs only [k_mark_Marker_Fields_b0, bin_lss, hlt, decide_true, Option.bind_some, condE_true, nilV_ptr, faP_ptr, Nat.zero_add, Hg.m 0 _ rfl, bin_add, sc, read_eq Hg.al.ar, cl_some, extractV_tup, e0, e1, la, lr] <;> rfl)
    refine ok_cl (holds_ok S i w (by omega) hw.2 g) ?_
    rintro _ g2 ⟨rfl, s2⟩
    simp only at s2
    have ec : (((i + 1 : Nat) : Int)) = (i : Int) + 1 := by omega
    have eu := fieldsUp_succ S l.ar ad w i
    generalize hx : (l.ar.read ad ((i + 1 : Nat) : Int)).1 = x at *
    have hx' : (l.ar.read ad ((i : Int) + 1)).1 = x := by rw [← hx, ec]
    rw [hx'] at eu
    cases hh : holdsB S i w with
    | false =>
      refine (Ok.of (r := (.normal, [v, .int .i64 ((i + 1 : Nat) : Int)], g2)) (.inl ⟨rfl, m - 1, by omega, i + 1, v, rfl, by omega, b, ?_, s.trans s2, hb⟩)).eq (by
        simp -implicitDefEqProofs only [gdW_ft, gQ_false, pickP_bool, Bool.false_eq_true, if_false, Option.bind_some, condE_false, bin_add, sc])
      rw [eu, hh, if_neg (by simp), List.append_nil]; exact hv.same s2 (by simp)
    | true =>
      by_cases h0 : x = 0
      · refine (Ok.of (r := (.normal, [v, .int .i64 ((i + 1 : Nat) : Int)], g2)) (.inl ⟨rfl, m - 1, by omega, i + 1, v, rfl, by omega, b, ?_, s.trans s2, hb⟩)).eq (by
          simp -implicitDefEqProofs only [gdW_tt, gQ_true, cl_some, neq_int, h0, decide_true, Bool.not_true, pickP_bool, if_true, Option.bind_some, condE_false, bin_add, sc])
        rw [eu, if_neg (fun h => h.2 h0), List.append_nil]; exact hv.same s2 (by simp)
      · have hl := fieldsUp_len S l.ar ad w i
        refine Ok.eq ?_ (by simp -implicitDefEqProofs only [gdW_tt, gQ_true, cl_some, neq_int, h0, decide_false, Bool.not_false, pickP_bool, if_true, Option.bind_some, condE_true] <;> rfl)
        refine app1 (t := .int .i64 x) (hv.same s2 (by simp)) rfl rfl rfl (by decide) (by omega) fun v' g3 hv' s3 n3 => ?_
        refine (Ok.of (r := (.normal, [v', .int .i64 ((i + 1 : Nat) : Int)], g3)) (.inl ⟨rfl, m - 1, by omega, i + 1, v', rfl, by omega, some (g2.next + 1), ?_, ?_, fun j hj => ?_⟩)).eq (by
          simp -implicitDefEqProofs only [bin_add, sc, Option.bind_some])
        · rw [eu, if_pos ⟨hh, h0⟩, List.length_append]
          have e : wsC (fieldsUp S l.ar ad w i ++ [x]) = wsC (fieldsUp S l.ar ad w i) ++ (AV.int .i64 x).cells := by rw [wsC_app]; rfl
          rw [e]; exact hv'
        · refine (s.trans s2).old s3 fun j hj => ?_
          cases b with
          | none => simp at hj
          | some y => have := hb y rfl; simp at hj; right; omega
        · cases hj
          have := s.next; have := s2.next; omega
  · have hlt : ¬ (i : Int) < w - 1 := by omega
    obtain rfl : i = (w - 1).toNat := by omega
    exact (Ok.of (r := (.exit 0, [v, .int .i64 (((w - 1).toNat : Nat) : Int)], g)) (.inr ⟨by simp, rfl, b, hv, s, hb⟩)).eq (by
      simp -implicitDefEqProofs only [k_mark_Marker_Fields_b0, bin_lss, hlt, decide_false, Option.bind_some, condE_false])
theorem Back.of {h h' g : Heap} {v : AV} {L : List Int} (H : Back h' g v L) (s : Same [] h h') : Back h g v L := by
  obtain ⟨b, h1, h2, h3⟩ := H
  exact ⟨b, h1, s.trans h2, fun j hj => Nat.le_trans s.next (h3 j hj)⟩
theorem fields_ok (H : Cy h C l T ph qb gq dn us X) (ad : Int) : Ok (k_mark_Marker_Fields (.ptr (some (C 11, 0))) (.int .i64 ad) h) fun r => Back h r.2 r.1 (fieldsL T l.ar ad) := by
  have zr : ([AV.int .i64 0, .int .i64 0, .int .u64 0] : List AV) = shpZ.row := rfl
  have rd := read_eq H.al.ar ad 0
  by_cases he : (l.ar.read ad 0).2 = 0
  · have hof : fieldsL T l.ar ad = match unp (l.ar.read ad 0).1 with
      | some x => if wordsOf (l.ar.cls (spanOf ad)) < x.1 then [] else
        match T[x.2.2.toNat]? with
        | some s => fieldsUp s l.ar ad x.1 (x.1 - 1).toNat
        | none => []
      | none => [] := by unfold fieldsL; rw [if_pos he]
    rw [hof]
    rw [he] at rd
    refine Ok.eq ?_ (by simp -implicitDefEqProofs only [k_mark_Marker_Fields, nilV_ptr, Option.bind_some, faP_ptr, Nat.zero_add, H.m 0 _ rfl, rd, cl_some, extractV_tup, e0, e1, neq_int, decide_true, Bool.not_true, condE_false] <;> rfl)
    refine ok_cl (unpack_ok (l.ar.read ad 0).1 h) ?_
    rintro _ g2 ⟨rfl, s2⟩
    simp only at s2
    cases hun : unp (l.ar.read ad 0).1 with
    | none =>
      have hv : unpV (l.ar.read ad 0).1 = .tup [.agg (hdC 0 0 0), .int .i64 3] := by unfold unpV; rw [hun]
      rw [hv]
      refine Ok.eq ?_ (by simp -implicitDefEqProofs only [extractV_tup, e0, e1, Option.bind_some] <;> rfl)
      refine ok_tmp (cs := hdC 0 0 0) (n := 3) rfl rfl rfl fun g3 s3 n3 p3 => ?_
      have z3 : decide ((3 : Int) = 0) = false := rfl
      exact ok_val (v := .sl none 0 (.ex 0)) (g := g3) (by simp -implicitDefEqProofs only [neq_int, z3, Bool.not_false, Option.bind_some, gdW_tf, gV_false, clC_some, gQ_false, pickP_bool, if_true, chk_nil, condE_true]) (Back.mt (s2.trans s3))
    | some x =>
      obtain ⟨a, b, c⟩ := x
      have hm := unp_may hun
      have hv : unpV (l.ar.read ad 0).1 = .tup [.agg (hdC a b c), .int .i64 0] := by unfold unpV; rw [hun]
      rw [hv]
      refine Ok.eq ?_ (by simp -implicitDefEqProofs only [extractV_tup, e0, e1, Option.bind_some] <;> rfl)
      refine ok_tmp (cs := hdC a b c) (n := 3) rfl rfl rfl fun g3 s3 n3 p3 => ?_
      have s13 := s2.trans s3
      have H3 := H.keep s13
      have m0 := H3.m 0 _ rfl
      have r0 : ldS g3 (.ptr (some (g2.next, 0))) = some (.int .i64 a) := by rw [ldS_at p3]; rfl
      have k1 : ∀ x, chk [g3, g3, g3, g3] [((fun g => ldS g (.ptr (some (C 11, 0)))), .ptr (some (C 6, 0)), 0, 1), ((fun g => ldS g (.ptr (some (g2.next, 0)))), .int .i64 a, 0, 3)] x = (x : Option (AV × Heap)) := fun x => by
        rw [chk_two' (same_ptr _) m0 m0, chk_same4 (same_int _ _) r0]; rfl
      by_cases hgt : wordsOf (l.ar.cls (spanOf ad)) < a
      · simp only [hgt, if_true]
        exact ok_val (v := .sl none 0 (.ex 0)) (g := g3) (by simp -implicitDefEqProofs only [neq_int, decide_true, Bool.not_true, Option.bind_some, gdW_ff, gV_true, faP_ptr, Nat.zero_add, rdC, r0, clC_some, nilV_ptr, m0, gQ_true, span_eq, cl_some, class_eq H3.al.ar, words_eq, bin_gtr, hgt, pickP_bool, Bool.false_eq_true, if_false, k1, condE_true]) (Back.mt s13)
      · simp only [hgt, if_false]
        have s3' : Same [] g3 (hpN g3 1) := ⟨Nat.le_succ _, fun _ _ _ => rfl⟩
        have H3' := H3.keep s3'
        have lc : ldS (hpN g3 1) (.ptr (some (g2.next, 2))) = some (.int .i64 c) := by rw [ldS_at (show (hpN g3 1).get g2.next = _ from p3)]; rfl
        refine Ok.eq ?_ (by simp -implicitDefEqProofs only [neq_int, decide_true, Bool.not_true, Option.bind_some, gdW_ff, gV_true, faP_ptr, Nat.zero_add, rdC, r0, clC_some, nilV_ptr, m0, gQ_true, span_eq, cl_some, class_eq H3.al.ar, words_eq, bin_gtr, hgt, decide_false, pickP_bool, Bool.false_eq_true, if_false, k1, condE_false, H3'.m 1 _ rfl, lc] <;> rfl)
        refine ok_cl (shape_ok H3'.tab c) ?_
        rintro _ g4 ⟨rfl, s4⟩
        simp only at s4
        have hc0 : ¬ c < 0 := by have := hm.2.2.2.2.1; omega
        have n4 : g3.next < g4.next := Nat.lt_of_lt_of_le (Nat.lt_succ_self _) s4.next
        have ma : mkAt Heap.put (some (Blk.cells true shpZ.row, fun i => AV.ptr (some (i, 0)))) (g3.next + 0) g4 = some (.ptr (some (g3.next, 0)), g4.put g3.next (some (.cells true shpZ.row))) := rfl
        have sf : ∀ (z : List AV), Same [] g3 (g4.put g3.next (some (.cells true z))) := fun z => (s3'.trans s4).old (Same.put _ _ _) (fun j hj => by simp at hj; right; omega)
        have sput : ∀ (y z : List AV), Same [g3.next] (g4.put g3.next (some (.cells true y))) ((g4.put g3.next (some (.cells true y))).put g3.next (some (.cells true z))) := fun y z => Same.put _ _ _
        have stT : ∀ (s : Shp), stP 3 (g4.put g3.next (some (.cells true shpZ.row))) (.ptr (some (g3.next, 0))) (.agg s.row) = some (.bot, (g4.put g3.next (some (.cells true shpZ.row))).put g3.next (some (.cells true s.row))) := fun s => stP_all get_put_eq rfl rfl rfl
        have s35 : ∀ (s : Shp), Same [] g3 ((g4.put g3.next (some (.cells true shpZ.row))).put g3.next (some (.cells true s.row))) := fun s => (sf shpZ.row).old (sput _ _) (fun j hj => by simp at hj; right; omega)
        cases hT : T[c.toNat]? with
        | none =>
          have hsv : shapeV T c = .tup [.agg shpZ.row, .int .i64 4] := by unfold shapeV; rw [if_neg hc0, hT]; rfl
          rw [hsv]
          have z4 : decide ((4 : Int) = 0) = false := rfl
          exact ok_val (v := .sl none 0 (.ex 0)) (g := (g4.put g3.next (some (.cells true shpZ.row))).put g3.next (some (.cells true shpZ.row))) (by simp -implicitDefEqProofs only [extractV_tup, e0, e1, Option.bind_some, zr, ma, stT, chk_nil, cl_some, neq_int, z4, Bool.not_false, condE_true] <;> rfl) (Back.mt (s13.trans (s35 shpZ)))
        | some s =>
          have hsv : shapeV T c = .tup [.agg s.row, .int .i64 0] := by unfold shapeV; rw [if_neg hc0, hT]
          rw [hsv]
          have p5 : ((g4.put g3.next (some (.cells true shpZ.row))).put g3.next (some (.cells true s.row))).get g3.next = some (.cells true s.row) := get_put_eq
          have s5 := s35 s
          have n5 : ((g4.put g3.next (some (.cells true shpZ.row))).put g3.next (some (.cells true s.row))).next = g4.next := rfl
          refine Ok.eq ?_ (by simp -implicitDefEqProofs only [extractV_tup, e0, e1, Option.bind_some, zr, ma, stT, chk_nil, cl_some, neq_int, decide_true, Bool.not_true, condE_false] <;> rfl)
          generalize (g4.put g3.next (some (.cells true shpZ.row))).put g3.next (some (.cells true s.row)) = g5 at *
          have p35 : g5.get g2.next = some (.cells true (hdC a b c)) := (s5.get _ (by omega) (by simp)).trans p3
          have r5 : ldS g5 (.ptr (some (g2.next, 0))) = some (.int .i64 a) := by rw [ldS_at p35]; rfl
          have ha : 1 ≤ a ∧ a ≤ 64 := ⟨hm.1, hm.2.1⟩
          have hw : IntKind.i64.wrap (a - 1) = a - 1 := wrap_i64 (by omega) (by omega)
          refine Ok.eq ?_ (by simp -implicitDefEqProofs only [faP_ptr, Nat.zero_add, Option.bind_some, r5, bin_sub, hw] <;> rfl)
          refine ok_lp (fields_loop (H3.keep s5) (ad := ad) p35 p5 (by omega) (by omega) ha) ?_
          rintro _ vs g6 ⟨rfl, hB⟩
          simp only at hB
          exact ok_val (v := vs.getD 0 .bot) (g := g6) rfl (hB.of (s13.trans s5))
  · have hof : fieldsL T l.ar ad = [] := by unfold fieldsL; rw [if_neg he]
    rw [hof]
    exact ok_val (v := .sl none 0 (.ex 0)) (g := h) (by simp -implicitDefEqProofs only [k_mark_Marker_Fields, nilV_ptr, Option.bind_some, faP_ptr, Nat.zero_add, H.m 0 _ rfl, rd, cl_some, extractV_tup, e0, e1, neq_int, he, decide_false, Bool.not_false, condE_true]) (Back.mt (Same.refl _ _))
end
end Go.Ab.F

namespace Go.Ab.F
open Go Go.Ab
set_option linter.all false
set_option linter.all false
attribute [local congr] c_bind c_cl c_mk c_lp c_clC c_gQ c_gV c_condE c_thenK

/-! How many are not marked yet. -/
theorem cnt_ins (k : Nat) (g : Nat → Bool) (hg : g k = false) : ∀ n, cnt (fun j => decide (k = j) || g j) n = cnt g n + (decide (k < n)).toNat
  | 0 => by simp [cnt]
  | n + 1 => by
    rw [cnt, cnt_ins k g hg n, cnt]
    rcases Nat.lt_trichotomy k n with h | h | h
    · have h1 : ¬ k = n := by omega
      simp [h, h1, show k < n + 1 by omega]; omega
    · subst h; simp [hg]
    · have h1 : ¬ k = n := by omega
      simp [h1, show ¬ k < n by omega, show ¬ k < n + 1 by omega]
def unmk (s : PSp) : Nat := ones (s.tk &&& ~~~ s.md)
def PAr.mu (a : PAr) : Nat := (a.sp.map unmk).sum
theorem sum_set {l : List PSp} : ∀ {i : Nat} {x : PSp} (y : PSp), l[i]? = some x → ((l.set i y).map unmk).sum + unmk x = (l.map unmk).sum + unmk y := by
  induction l with
  | nil => intro i x y h; simp at h
  | cons a l ih =>
    intro i x y h
    cases i with
    | zero => simp at h; subst h; simp only [List.set_cons_zero, List.map_cons, List.sum_cons]; omega
    | succ i => simp at h; have := ih y h; simp only [List.set_cons_succ, List.map_cons, List.sum_cons]; omega
theorem mu_le (a : PAr) : a.mu ≤ a.sp.length * 64 := by
  unfold PAr.mu
  induction a.sp with
  | nil => simp
  | cons x l ih =>
    have : unmk x ≤ 64 := cnt_le _ _
    simp; omega
theorem mark_mu (a : PAr) (ad : Int) : (a.mark ad).2.mu + (a.mark ad).1.toNat = a.mu := by
  cases hf : a.find ad with
  | none => rw [mark_no hf]; simp
  | some x =>
    obtain ⟨n, q⟩ := x
    cases hm : (a.at n).md.getLsbD q with
    | true => rw [mark_was hf hm]; simp
    | false =>
      rw [mark_new hf hm]
      obtain ⟨f1, f2, f3, f4, f5, f6, f7⟩ := find_some hf
      obtain ⟨P0, P1, P2, _⟩ := pls_eq (c := (a.at n).cls) ⟨f6, f7⟩
      have hs := sum_set (l := a.sp) (i := n.toNat) (x := a.at n) ⟨(a.at n).cls, (a.at n).tk, (a.at n).md ||| bitOf q⟩ (PAr.at_some f1)
      have hu : unmk (a.at n) = unmk ⟨(a.at n).cls, (a.at n).tk, (a.at n).md ||| bitOf q⟩ + 1 := by
        have hq : q < 64 := by omega
        have := cnt_ins q (fun j => ((a.at n).tk &&& ~~~ ((a.at n).md ||| bitOf q)).getLsbD j) (by
          rw [BitVec.getLsbD_and, BitVec.getLsbD_not, BitVec.getLsbD_or, bit_get q q hq]; simp) 64
        simp only [hq, decide_true, Bool.toNat_true] at this
        show ones ((a.at n).tk &&& ~~~ (a.at n).md) = ones ((a.at n).tk &&& ~~~ ((a.at n).md ||| bitOf q)) + 1
        unfold ones
        rw [← this]
        apply cnt_congr
        intro j hj
        rw [BitVec.getLsbD_and, BitVec.getLsbD_and, BitVec.getLsbD_not, BitVec.getLsbD_not, BitVec.getLsbD_or, bit_get q j hq]
        by_cases e : q = j
        · subst e; rw [f4, hm]; simp [hj]
        · have : ¬ j = q := fun h => e h.symm
          simp [e, this]
      show ((a.sp.set n.toNat _).map unmk).sum + true.toNat = (a.sp.map unmk).sum
      simp only [Bool.toNat_true]
      omega
/-- Many are shaded. -/
def shadeL : PAr → List Int → List Int → PAr × List Int
  | a, q, [] => (a, q)
  | a, q, x :: L => shadeL (a.mark x).2 (if (a.mark x).1 then q ++ [x] else q) L
theorem shadeL_mu : ∀ (L : List Int) (a : PAr) (q : List Int), (shadeL a q L).2.length + (shadeL a q L).1.mu = q.length + a.mu
  | [], a, q => rfl
  | x :: L, a, q => by
    rw [shadeL, shadeL_mu L]
    have := mark_mu a x
    cases h : (a.mark x).1 with
    | true => rw [h] at this; simp at this ⊢; omega
    | false => rw [h] at this; simp at this ⊢; omega
theorem shadeL_same : ∀ (L : List Int) (a : PAr) (q : List Int), SameTk a (shadeL a q L).1
  | [], a, q => SameTk.refl a
  | x :: L, a, q => (mark_same a x).trans (shadeL_same L _ _)
section
variable {h : Heap} {C : Nat → Nat} {l : PAl} {T : List Shp} {ph : Int} {qb : Option Nat} {gq : List Int} {dn us : Int} {X : List Nat}
theorem Cy.addX {g : Heap} (H : Cy h C l T ph qb gq dn us X) (s : Same [] h g) {b : Nat} (h1 : h.next ≤ b) (h2 : b < g.next) : Cy g C l T ph qb gq dn us (b :: X) := by
  obtain ⟨v, _, hq⟩ := H.gqb
  exact { H.keep s with
    xC := fun i hi h0 h10 hm => by
      rw [List.mem_cons] at hm
      rcases hm with e | hm
      · have := H.lt i hi; omega
      · exact H.xC i hi h0 h10 hm
    xq := fun i hi => by
      have h3 := H.xq i hi
      have h4 := (hq.blk i hi).2.1
      exact ⟨by rw [List.mem_cons]; exact fun hm => hm.elim (fun e => by omega) h3.1, h3.2⟩
    x0 := List.mem_cons_of_mem _ H.x0
    xl := fun j hj => by
      rw [List.mem_cons] at hj
      rcases hj with rfl | hj
      · exact h2
      · exact (H.keep s).xl j hj }
theorem Cy.subX {Y : List Nat} (H : Cy h C l T ph qb gq dn us X) (hs : ∀ j ∈ Y, j ∈ X) (h0 : 0 ∈ Y) : Cy h C l T ph qb gq dn us Y :=
  { H with
    xC := fun i hi a b hm => H.xC i hi a b (hs _ hm)
    xq := fun i hi => ⟨fun hm => (H.xq i hi).1 (hs _ hm), (H.xq i hi).2⟩
    x0 := h0
    xl := fun j hj => H.xl j (hs j hj) }
/-- A list that is read, whatever is done to what others have not. -/
def Lrd (h : Heap) (v : AV) (L : List Int) (X : List Nat) : Prop := lnL v = some (.int .i64 L.length) ∧ ∀ (i : Nat) x, L[i]? = some x → ∃ p, iaS 1 v (.int .i64 (i : Int)) = some (.ptr (some p)) ∧ ∀ g, KpX X h g → ldS g (.ptr (some p)) = some (.int .i64 x)
theorem lst_at {g : Heap} {b : Option Nat} {v : AV} {L : List Int} (hv : SlB g b 1 v (wsC L) L.length) {i : Nat} {x : Int} (hx : L[i]? = some x) : ∃ j, b = some j ∧ iaS 1 v (.int .i64 (i : Int)) = some (.ptr (some (j, i))) ∧ ∀ g' : Heap, g'.get j = g.get j → ldS g' (.ptr (some (j, i))) = some (.int .i64 x) := by
  have hi := (List.getElem?_eq_some_iff.1 hx).1
  obtain ⟨j, hj, hix⟩ := hv.ix hi
  refine ⟨j, hj, by rw [hix, Nat.mul_one], fun g' hg => ?_⟩
  rw [ldS_at (hg.trans (hv.blk j hj).2.1)]
  simp [wsC, hx]
theorem lrd_of {g : Heap} {b : Option Nat} {v : AV} {L : List Int} {X : List Nat} (hv : SlB g b 1 v (wsC L) L.length) (hbX : ∀ j, b = some j → j ∈ X) : Lrd g v L X :=
  ⟨hv.lnL, fun i x hx => by
    obtain ⟨j, hj, hix, hld⟩ := lst_at hv hx
    exact ⟨(j, i), hix, fun g' k => hld g' (k.get j (hbX j hj) (hv.blk j hj).1)⟩⟩
theorem drop_at {α : Type} {L : List α} {i : Nat} {x : α} (h : L[i]? = some x) : L.drop i = x :: L.drop (i + 1) := by
  have hi := (List.getElem?_eq_some_iff.1 h).1
  rw [List.drop_eq_getElem_cons hi]
  congr 1
  rw [List.getElem?_eq_getElem hi] at h; exact Option.some.inj h
theorem cshade_loop (H : Cy h C l T ph qb gq dn us X) {L : List Int} {v : AV} (hv : Lrd h v L X) (hq : gq.length + L.length ≤ 2 ^ 40) :
    Ok (k_cycle_Cycle_shade_L0 (.ptr (some (C 1, 0))) v (.int .i64 L.length) (.int .i64 0) h) fun r => r.1 = .exit 0 ∧ ∃ qb', Cy r.2.2 C ⟨(shadeL l.ar gq L).1, l.un⟩ T ph qb' (shadeL l.ar gq L).2 dn us X ∧ KpX X h r.2.2 := by
  refine ok_loop (fun m vs g => ∃ (i : Nat) (a' : PAr) (qb' : Option Nat) (gq' : List Int), vs = [.int .i64 i] ∧ m + i = L.length ∧ Cy g C ⟨a', l.un⟩ T ph qb' gq' dn us X ∧ shadeL a' gq' (L.drop i) = shadeL l.ar gq L ∧ gq'.length ≤ gq.length + i ∧ KpX X h g) ?_ (n := L.length) (by omega) ⟨0, l.ar, qb, gq, rfl, rfl, H, rfl, by omega, KpX.refl _ _⟩
  rintro m vs g ⟨i, a', qb', gq', rfl, hm, H', he, hl, k⟩
  rw [gd0]
  by_cases hi : i < L.length
  · have hlt : (i : Int) < L.length := by omega
    obtain ⟨x, hx⟩ : ∃ x, L[i]? = some x := ⟨_, List.getElem?_eq_getElem hi⟩
    obtain ⟨p, hix, hld⟩ := hv.2 i x hx
    have ld := hld g k
    refine Ok.eq ?_ (by simp -implicitDefEqProofs only [k_cycle_Cycle_shade_b0, bin_lss, hlt, decide_true, Option.bind_some, condE_true, hix, ld, nilV_ptr, faP_ptr, Nat.zero_add, H'.c 3 _ rfl] <;> rfl)
    refine ok_cl (mshade_ok H' x (by omega)) ?_
    rintro _ g2 ⟨rfl, qb2, H2, k2⟩
    simp only at H2 k2
    refine (Ok.of (r := (.normal, [.int .i64 ((i + 1 : Nat) : Int)], g2)) (.inl ⟨rfl, m - 1, by omega, i + 1, _, qb2, _, rfl, by omega, H2, ?_, ?_, k.trans k2⟩)).eq (by
      simp -implicitDefEqProofs only [bin_add, Option.bind_some, suc64 i (by omega)])
    · rw [← he, drop_at hx, shadeL]
    · split
      · rw [List.length_append]; simp; omega
      · omega
  · have hlt : ¬ (i : Int) < L.length := by omega
    obtain rfl : i = L.length := by omega
    rw [List.drop_of_length_le (Nat.le_refl _), shadeL] at he
    rw [← he]
    exact (Ok.of (r := (.exit 0, [.int .i64 (L.length : Int)], g)) (.inr ⟨by simp, rfl, qb', H', k⟩)).eq (by
      simp -implicitDefEqProofs only [k_cycle_Cycle_shade_b0, bin_lss, hlt, decide_false, Option.bind_some, condE_false])
theorem mstep_loop (H : Cy h C l T ph qb gq dn us X) {L : List Int} {v : AV} (hv : Lrd h v L X) (hq : gq.length + L.length ≤ 2 ^ 40) :
    Ok (k_mark_Marker_Step_L0 (.ptr (some (C 11, 0))) v (.int .i64 L.length) (.int .i64 0) h) fun r => r.1 = .exit 0 ∧ ∃ qb', Cy r.2.2 C ⟨(shadeL l.ar gq L).1, l.un⟩ T ph qb' (shadeL l.ar gq L).2 dn us X ∧ KpX X h r.2.2 := by
  refine ok_loop (fun m vs g => ∃ (i : Nat) (a' : PAr) (qb' : Option Nat) (gq' : List Int), vs = [.int .i64 i] ∧ m + i = L.length ∧ Cy g C ⟨a', l.un⟩ T ph qb' gq' dn us X ∧ shadeL a' gq' (L.drop i) = shadeL l.ar gq L ∧ gq'.length ≤ gq.length + i ∧ KpX X h g) ?_ (n := L.length) (by omega) ⟨0, l.ar, qb, gq, rfl, rfl, H, rfl, by omega, KpX.refl _ _⟩
  rintro m vs g ⟨i, a', qb', gq', rfl, hm, H', he, hl, k⟩
  rw [gd0]
  by_cases hi : i < L.length
  · have hlt : (i : Int) < L.length := by omega
    obtain ⟨x, hx⟩ : ∃ x, L[i]? = some x := ⟨_, List.getElem?_eq_getElem hi⟩
    obtain ⟨p, hix, hld⟩ := hv.2 i x hx
    have ld := hld g k
    refine Ok.eq ?_ (by simp -implicitDefEqProofs only [k_mark_Marker_Step_b0, bin_lss, hlt, decide_true, Option.bind_some, condE_true, hix, ld] <;> rfl)
    refine ok_cl (mshade_ok H' x (by omega)) ?_
    rintro _ g2 ⟨rfl, qb2, H2, k2⟩
    simp only at H2 k2
    refine (Ok.of (r := (.normal, [.int .i64 ((i + 1 : Nat) : Int)], g2)) (.inl ⟨rfl, m - 1, by omega, i + 1, _, qb2, _, rfl, by omega, H2, ?_, ?_, k.trans k2⟩)).eq (by
      simp -implicitDefEqProofs only [bin_add, Option.bind_some, suc64 i (by omega)])
    · rw [← he, drop_at hx, shadeL]
    · split
      · rw [List.length_append]; simp; omega
      · omega
  · have hlt : ¬ (i : Int) < L.length := by omega
    obtain rfl : i = L.length := by omega
    rw [List.drop_of_length_le (Nat.le_refl _), shadeL] at he
    rw [← he]
    exact (Ok.of (r := (.exit 0, [.int .i64 (L.length : Int)], g)) (.inr ⟨by simp, rfl, qb', H', k⟩)).eq (by
      simp -implicitDefEqProofs only [k_mark_Marker_Step_b0, bin_lss, hlt, decide_false, Option.bind_some, condE_false])
theorem fieldsL_len (T : List Shp) (a : PAr) (ad : Int) : (fieldsL T a ad).length ≤ 64 := by
  unfold fieldsL
  split
  · split
    · rename_i x hx
      have hm := unp_may hx
      split
      · simp
      · split
        · have := fieldsUp_len (by assumption) a ad x.1 (x.1 - 1).toNat
          have := hm.2.1
          omega
        · simp
    · simp
  · simp
/-- A list that was handed back is read while they are shaded. -/
theorem Back.use (H : Cy h C l T ph qb gq dn us X) {g : Heap} {v : AV} {L : List Int} (hB : Back h g v L) : ∃ b, SlB g b 1 v (wsC L) L.length ∧ ∃ Y : List Nat, (∀ j, b = some j → j ∈ Y) ∧ (∀ j ∈ X, j ∈ Y) ∧ Cy g C l T ph qb gq dn us Y ∧ Same [] h g := by
  obtain ⟨b, h1, h2, h3⟩ := hB
  cases b with
  | none => exact ⟨none, h1, X, (fun j hj => by cases hj), fun j hj => hj, H.keep h2, h2⟩
  | some b => exact ⟨some b, h1, b :: X, (fun j hj => by cases hj; exact List.mem_cons_self ..), fun j hj => List.mem_cons_of_mem _ hj, H.addX h2 (h3 b rfl) (h1.blk b rfl).1, h2⟩
theorem mstep_no (H : Cy h C l T ph qb [] dn us X) : k_mark_Marker_Step (.ptr (some (C 11, 0))) h = some (.bool false, h) := by
  obtain ⟨v, hg, hq⟩ := H.gqb
  have l0 : ldS h (.ptr (some (C 12, 0))) = some v := by rw [ldS_at hg]; rfl
  have ln := hq.lnL
  simp -implicitDefEqProofs only [k_mark_Marker_Step, nilV_ptr, Option.bind_some, faP_ptr, Nat.zero_add, H.m 2 _ rfl, k_grey_Queue_Next, l0, ln, List.length_nil, eql_int, Int.ofNat_zero, Int.natCast_zero, decide_true, condE_true, cl_some, extractV_tup, e0, e1, un_not, Bool.not_false]
theorem mstep_ok {x : Int} (H : Cy h C l T ph qb (x :: gq) dn us X) (hq : gq.length ≤ 2 ^ 30) : Ok (k_mark_Marker_Step (.ptr (some (C 11, 0))) h) fun r => r.1 = .bool true ∧ ∃ qb', Cy r.2 C ⟨(shadeL l.ar gq (fieldsL T l.ar x)).1, l.un⟩ T ph qb' (shadeL l.ar gq (fieldsL T l.ar x)).2 dn us X ∧ KpX X h r.2 := by
  obtain ⟨v, hg, hqv⟩ := H.gqb
  have l0 : ldS h (.ptr (some (C 12, 0))) = some v := by rw [ldS_at hg]; rfl
  have ln := hqv.lnL
  obtain ⟨i, o, hb, hve, hld, v', hsl, hq'⟩ := hqv.tail
  have zl : decide ((((x :: gq).length : Nat) : Int) = 0) = false := by simp; omega
  have hix : iaS 1 v (.int .i64 0) = some (.ptr (some (i, o))) := by
    rw [hve, iaS_sl 1 _ _ _ _ _ ⟨by omega, by omega⟩]; simp
  obtain ⟨st, H1, k1⟩ := H.queue (S := []) (fun j hj => by simp at hj) (Same.refl [] h) hq' (fun j hj => .inl hj)
  refine Ok.eq ?_ (by simp -implicitDefEqProofs only [k_mark_Marker_Step, nilV_ptr, Option.bind_some, faP_ptr, Nat.zero_add, H.m 2 _ rfl, k_grey_Queue_Next, l0, ln, eql_int, zl, condE_false, hix, hld, hsl, st, cl_some, extractV_tup, e0, e1, un_not, Bool.not_true] <;> rfl)
  generalize h.put (C 12) (some (.cells true [v'])) = g1 at *
  refine ok_cl (fields_ok H1 x) ?_
  rintro v2 g2 hB
  obtain ⟨b, hv, Y, hY, hXY, H2, s2⟩ := hB.use H1
  simp only at hv H2 s2
  have hfl := fieldsL_len T l.ar x
  refine Ok.eq ?_ (by simp -implicitDefEqProofs only [hv.lnL, Option.bind_some] <;> rfl)
  refine ok_lp (mstep_loop H2 (lrd_of hv hY) (by omega)) ?_
  rintro _ vs g3 ⟨rfl, qb', H3, k3⟩
  simp only at H3 k3
  exact ok_val (v := .bool true) (g := g3) rfl ⟨rfl, qb', H3.subX hXY H.x0, (k1.trans (KpX.same s2)).trans (k3.sub hXY)⟩
end
end Go.Ab.F

namespace Go.Ab.F
open Go Go.Ab
set_option linter.all false
set_option linter.all false
attribute [local congr] c_bind c_cl c_mk c_lp c_clC c_gQ c_gV c_condE c_thenK

/-! Steps of a collection for one that has globals alone. -/
structure Rt (h : Heap) (x1 : AV) (G : List Int) (X : List Nat) : Prop where
  ex : ∃ ty rb gv, x1 = .ifc ty (.ptr (some (rb, 0))) ∧ (ty = 30 ∨ ty = 66) ∧ (∀ g, KpX X h g → g.get rb = some (.cells true [gv]) ∧ addedA g 1 gv = some (wsC G)) ∧ countA gv = some G.length
theorem Rt.kp {h h' : Heap} {x1 : AV} {G : List Int} {X : List Nat} (R : Rt h x1 G X) (k : KpX X h h') : Rt h' x1 G X := by
  obtain ⟨ty, rb, gv, h1, h2, h3, h4⟩ := R.ex
  exact ⟨ty, rb, gv, h1, h2, fun g k' => h3 g (k.trans k'), h4⟩
theorem slgLrd {g : Heap} {b : Option Nat} {v : AV} {L : List Int} {X : List Nat} (hv : SlG g b 1 v (wsC L) L.length) (hb : ∀ j, b = some j → j ∈ X) : Lrd g v L X := by
  rcases hv with h | ⟨i, rfl, rfl, h1, h2, _, _⟩
  · exact lrd_of h hb
  · obtain rfl : L = [] := List.eq_nil_of_length_eq_zero h2
    exact ⟨rfl, fun i x hx => by simp at hx⟩
section
variable {h : Heap} {C : Nat → Nat} {l : PAl} {T : List Shp} {ph : Int} {qb : Option Nat} {gq : List Int} {dn us : Int} {X : List Nat} {x1 : AV} {G : List Int}
theorem glob_ok {v : AV} {rb : Nat} (hp : v = .ptr (some (rb, 0))) {gv : AV} (hg : ∀ g, KpX X h g → g.get rb = some (.cells true [gv]) ∧ addedA g 1 gv = some (wsC G)) (hc : countA gv = some G.length) (hG : G.length ≤ 2 ^ 40) :
    Ok (k_law14_nobody_Globals v h) fun r => ∃ b, SlG r.2 b 1 r.1 (wsC G) G.length ∧ Same [] h r.2 ∧ ∀ j, b = some j → h.next ≤ j ∧ j < r.2.next := by
  subst hp
  have b1 : bsP 1 [AV.int .i64 0] 0 [] = some (.cells true [], fun i => .sl (some (i, 0)) 0 (.ex 0)) := rfl
  have s1 : Same [] h (h.new (.cells true [])) := Same.new _ _
  obtain ⟨g1, g2⟩ := hg _ (KpX.same s1)
  have l0 : ldS (h.new (.cells true [])) (.ptr (some (rb, 0))) = some gv := by rw [ldS_at g1]; rfl
  have G1 : SlG (h.new (.cells true [])) (some h.next) 1 (.sl (some (h.next, 0)) 0 (.ex 0)) [] 0 := .inr ⟨h.next, rfl, rfl, rfl, rfl, get_new_eq, Nat.lt_succ_self _⟩
  have hsc : (wsC G).all scalar = true := sc_ws G
  obtain ⟨b', v', g', e, G2, s2, hb⟩ := appS (bytes := 8) G1 hc g2 (by rw [wsC_len]; omega) hsc (by decide) (by omega)
  refine ok_val (by simp -implicitDefEqProofs only [k_law14_nobody_Globals, b1, mk_some, nilV_ptr, Option.bind_some, faP_ptr, Nat.zero_add, l0, e, cl_some] <;> rfl) ⟨b', by simpa using G2, s1.old s2 (fun j hj => by simp at hj; right; omega), fun j hj => ?_⟩
  have hlt : j < g'.next := by
    rcases G2 with h | ⟨i, hi, _, _, _, _, h⟩
    · exact (h.blk j hj).1
    · rw [hi] at hj; cases hj; exact h
  rcases hb with e' | e'
  · rw [e'] at hj; cases hj; exact ⟨Nat.le_refl _, hlt⟩
  · rw [e'] at hj; cases hj; exact ⟨Nat.le_succ _, hlt⟩
/-- No stack is left to scan. -/
theorem next_ok (R : Rt h x1 G X) : Ok (k_cycle_Cycle_next (.ptr (some (C 1, 0))) x1 h) fun r => r = (.tup [.int .i64 0, .bool false], h) := by
  obtain ⟨ty, rb, gv, rfl, hty, _, _⟩ := R.ex
  have hs : ∀ {Q : AV × Heap → Prop} (K : AV → Heap → Option (AV × Heap)), Ok (K (.sl none 0 (.ex 0)) h) Q → Ok (clF (lookT T52) (ivP [(30, 136), (66, 140)] (.ifc ty (.ptr (some (rb, 0)))) []) h K) Q := fun K hK => by
    rcases hty with rfl | rfl
    · exact hK
    · exact hK
  refine Ok.eq ?_ (by unfold k_cycle_Cycle_next; rfl)
  refine hs _ ?_
  have e1 : eqP (some (.slice 0)) none false .eql (.sl none 0 (.ex 0)) (.sl none 0 (.ex 0)) = some (.bool true) := rfl
  have cl1 : k_slices_Clone_int_int (.sl none 0 (.ex 0)) h = some (.sl none 0 (.ex 0), h) := by
    simp -implicitDefEqProofs only [k_slices_Clone_int_int, e1, Option.bind_some, condE_true]
  have ln0 : lnL (.sl none 0 (.ex 0)) = some (.int .i64 0) := rfl
  have z : ¬ (0 : Int) < 0 := by omega
  have lp0 : Ok (k_slices_IndexFunc_int_int_L0 (.sl none 0 (.ex 0)) (AV.fn 103 [.ptr (some (C 1, 0))] []) (.int .i64 0) (.int .i64 0) (.int .i64 0) h) fun r => r = (.exit 0, [.int .i64 0, .int .i64 0], h) := by
    refine ok_loop (fun m vs g => vs = [.int .i64 0, .int .i64 0] ∧ g = h) ?_ (n := 0) (by omega) ⟨rfl, rfl⟩
    rintro m vs g ⟨rfl, rfl⟩
    rw [gd0, gd1]
    exact (Ok.of (r := (.exit 0, [.int .i64 0, .int .i64 0], g)) (.inr ⟨by simp, rfl⟩)).eq (by
      simp -implicitDefEqProofs only [k_slices_IndexFunc_int_int_b0, bin_lss, z, decide_false, Option.bind_some, condE_false])
  have df : Ok (k_slices_DeleteFunc_int_int (.sl none 0 (.ex 0)) (AV.fn 103 [.ptr (some (C 1, 0))] []) h) fun r => r = (.sl none 0 (.ex 0), h) := by
    refine Ok.eq ?_ (by unfold k_slices_DeleteFunc_int_int; rfl)
    refine ok_cl (P := fun (r : AV × Heap) => r = (.int .i64 (-1), h)) ?_ ?_
    · refine Ok.eq ?_ (by simp -implicitDefEqProofs only [k_slices_IndexFunc_int_int, ln0, Option.bind_some] <;> rfl)
      refine ok_lp lp0 ?_
      rintro _ _ _ he
      cases he
      exact ok_val (v := .int .i64 (-1)) (g := h) rfl rfl
    · rintro _ _ he
      cases he
      exact ok_val (v := .sl none 0 (.ex 0)) (g := h) (by simp -implicitDefEqProofs only [eql_int, decide_true, Option.bind_some, condE_true]) rfl
  refine Ok.eq ?_ (by simp -implicitDefEqProofs only [cl1, cl_some] <;> rfl)
  refine ok_cl df ?_
  rintro _ _ he
  cases he
  exact ok_val (v := .tup [.int .i64 0, .bool false]) (g := h) (by simp -implicitDefEqProofs only [ln0, Option.bind_some, eql_int, decide_true, condE_true]) rfl
theorem chk_same5 {R : Type} {f : Heap → Option AV} {v : AV} {g : Heap} {x : Option R} (hv : same v v = true) (h0 : f g = some v) : chk [g, g, g, g, g] [(f, v, 0, 2)] x = x := by
  rw [chk_cons, allFrom_succ, allFrom_succ, allFrom_succ, allFrom_zero]
  simp [h0, hv]
theorem used_ok (H : Cy h C l T ph qb gq dn us X) : Ok (k_alloc_Alloc_Used (.ptr (some (C 4, 0))) h) fun r => ∃ n : Int, r = (.int .i64 n, h) := by
  have hN := H.wf.hi
  have hul := H.al.len
  obtain ⟨d, hd⟩ := H.al.ld1
  have ldp := H.al.ld0
  have lp0 : Ok (k_alloc_Alloc_Used_L0 (.ptr (some (C 4, 0))) (.int .i64 l.un.length) (.int .i64 0) (.int .i64 0) h) fun r => r.1 = .exit 0 ∧ r.2.2 = h ∧ ∃ n : Int, r.2.1.getD 0 .bot = .int .i64 n := by
    refine ok_loop (fun m vs g => ∃ (i : Nat) (n : Int), vs = [.int .i64 n, .int .i64 i] ∧ m + i = l.un.length ∧ g = h) ?_ (n := l.un.length) (by omega) ⟨0, 0, rfl, rfl, rfl⟩
    rintro m vs g ⟨i, n, rfl, hm, hgg⟩
    subst hgg
    rw [gd0, gd1]
    by_cases hi : i < l.un.length
    · have hlt : (i : Int) < l.un.length := by omega
      exact (Ok.of (r := (.normal, [.int .i64 (IntKind.i64.wrap (n + IntKind.i64.wrap ((ones (l.ar.taken i) : Int) * wordsOf (l.ar.cls i)))), .int .i64 ((i + 1 : Nat) : Int)], g)) (.inl ⟨rfl, m - 1, by omega, i + 1, _, rfl, by omega, rfl⟩)).eq (by
        simp -implicitDefEqProofs only [k_alloc_Alloc_Used_b0, bin_lss, hlt, decide_true, Option.bind_some, condE_true, nilV_ptr, faP_ptr, Nat.zero_add, ldp, taken_eq H.al.ar, cl_some, bones_eq, rdC, clC_some, class_eq H.al.ar, words_eq, bin_mul, bin_add, chk_same5 (f := fun g => ldS g (.ptr (some (C 4, 0)))) (same_ptr _) ldp, suc64 i (by omega)])
    · have hlt : ¬ (i : Int) < l.un.length := by omega
      exact (Ok.of (r := (.exit 0, [.int .i64 n, .int .i64 (i : Int)], g)) (.inr ⟨by simp, rfl, rfl, n, rfl⟩)).eq (by
        simp -implicitDefEqProofs only [k_alloc_Alloc_Used_b0, bin_lss, hlt, decide_false, Option.bind_some, condE_false])
  refine Ok.eq ?_ (by simp -implicitDefEqProofs only [k_alloc_Alloc_Used, nilV_ptr, Option.bind_some, faP_ptr, Nat.zero_add, hd, lnL_sl] <;> rfl)
  refine ok_lp lp0 ?_
  rintro _ vs g ⟨rfl, hg, n, hv⟩
  simp only at hg hv
  subst hg
  exact ok_val (v := .int .i64 n) (g := g) (by rw [← hv]; rfl) ⟨n, rfl⟩
/-! ### A step -/
theorem step0_eq (H : Cy h C l T 0 qb gq dn us X) (x : AV) : k_cycle_Cycle_Step (.ptr (some (C 1, 0))) x h = some (.bool false, h) := by
  have z1 : decide ((0 : Int) = 1) = false := rfl
  have z2 : decide ((0 : Int) = 2) = false := rfl
  have z3 : decide ((0 : Int) = 3) = false := rfl
  simp -implicitDefEqProofs only [k_cycle_Cycle_Step, nilV_ptr, Option.bind_some, faP_ptr, Nat.zero_add, H.c 4 _ rfl, eql_int, z1, z2, z3, decide_false, condE_false, show ((0 : Int) = 1) = False by simp, show ((0 : Int) = 2) = False by simp, show ((0 : Int) = 3) = False by simp]
theorem step1_ok (H : Cy h C l T 1 qb gq dn us X) (R : Rt h x1 G X) : Ok (k_cycle_Cycle_Step (.ptr (some (C 1, 0))) x1 h) fun r => r.1 = .bool true ∧ Cy r.2 C l T 2 qb gq dn us X ∧ KpX X h r.2 := by
  refine Ok.eq ?_ (by simp -implicitDefEqProofs only [k_cycle_Cycle_Step, nilV_ptr, Option.bind_some, faP_ptr, Nat.zero_add, H.c 4 _ rfl, eql_int, decide_true, condE_true] <;> rfl)
  refine ok_cl (next_ok R) ?_
  rintro _ _ he
  cases he
  obtain ⟨st, _, _⟩ := H.st
  obtain ⟨H2, k2⟩ := H.num (ph' := 2) (dn' := dn) (us' := us) rfl
  exact ok_val (v := .bool true) (by simp -implicitDefEqProofs only [extractV_tup, e0, e1, Option.bind_some, condE_false, nilV_ptr, faP_ptr, Nat.zero_add, st 2, cl_some] <;> rfl) ⟨rfl, H2, k2⟩
theorem step2_ok {x : Int} (H : Cy h C l T 2 qb (x :: gq) dn us X) (hq : gq.length ≤ 2 ^ 30) : Ok (k_cycle_Cycle_Step (.ptr (some (C 1, 0))) x1 h) fun r => r.1 = .bool true ∧ ∃ qb', Cy r.2 C ⟨(shadeL l.ar gq (fieldsL T l.ar x)).1, l.un⟩ T 2 qb' (shadeL l.ar gq (fieldsL T l.ar x)).2 dn us X ∧ KpX X h r.2 := by
  refine Ok.eq ?_ (by simp -implicitDefEqProofs only [k_cycle_Cycle_Step, nilV_ptr, Option.bind_some, faP_ptr, Nat.zero_add, H.c 4 _ rfl, eql_int, decide_true, decide_false, show ((2 : Int) = 1) = False by simp, condE_true, condE_false, H.c 3 _ rfl] <;> rfl)
  refine ok_cl (mstep_ok H hq) ?_
  rintro _ g ⟨rfl, qb', H2, k2⟩
  exact ok_val (v := .bool true) (g := g) rfl ⟨rfl, qb', H2, k2⟩
theorem stale_wf {l : PAl} (H : Wf l.ar) : Wf l.stale.ar := H
theorem step2_no (H : Cy h C l T 2 qb [] dn us X) (R : Rt h x1 G X) : Ok (k_cycle_Cycle_Step (.ptr (some (C 1, 0))) x1 h) fun r => r.1 = .bool true ∧ Cy r.2 C l.stale T 3 qb [] dn us X ∧ KpX X h r.2 := by
  refine Ok.eq ?_ (by simp -implicitDefEqProofs only [k_cycle_Cycle_Step, nilV_ptr, Option.bind_some, faP_ptr, Nat.zero_add, H.c 4 _ rfl, eql_int, decide_true, decide_false, show ((2 : Int) = 1) = False by simp, condE_true, condE_false, H.c 3 _ rfl, mstep_no H, cl_some] <;> rfl)
  refine ok_cl (next_ok R) ?_
  rintro _ _ he
  cases he
  obtain ⟨st, _, _⟩ := H.st
  obtain ⟨H2, k2⟩ := H.num (ph' := 3) (dn' := dn) (us' := us) rfl
  refine Ok.eq ?_ (by simp -implicitDefEqProofs only [extractV_tup, e0, e1, Option.bind_some, condE_false, nilV_ptr, faP_ptr, Nat.zero_add, st 3, cl_some, H2.c 2 _ rfl] <;> rfl)
  refine ok_cl (stale_ok H2.al) ?_
  rintro _ g3 ⟨rfl, A3, s3⟩
  simp only at A3 s3
  obtain ⟨H3, k3⟩ := H2.turn (s3.sub (by simp)) A3 (stale_wf H2.wf)
  exact ok_val (v := .bool true) (g := g3) rfl ⟨rfl, H3, k2.trans k3⟩
theorem one_wf {l : PAl} (H : Wf l.ar) : Wf l.sweepOne.2.ar := by
  unfold PAl.sweepOne
  cases l.one l.un.length 0 with
  | none => exact H
  | some n => exact sweep_wf H n
theorem step3_ok (H : Cy h C l T 3 qb gq dn us X) (h1 : l.sweepOne.1 = true) : Ok (k_cycle_Cycle_Step (.ptr (some (C 1, 0))) x1 h) fun r => r.1 = .bool true ∧ Cy r.2 C l.sweepOne.2 T 3 qb gq dn us X ∧ KpX X h r.2 := by
  refine Ok.eq ?_ (by simp -implicitDefEqProofs only [k_cycle_Cycle_Step, nilV_ptr, Option.bind_some, faP_ptr, Nat.zero_add, H.c 4 _ rfl, eql_int, decide_true, decide_false, show ((3 : Int) = 1) = False by simp, show ((3 : Int) = 2) = False by simp, condE_true, condE_false, H.c 2 _ rfl] <;> rfl)
  refine ok_cl (sweepOne_ok H.al) ?_
  rintro _ g3 ⟨rfl, A3, s3⟩
  simp only at A3 s3
  rw [h1]
  obtain ⟨H3, k3⟩ := H.turn (s3.sub (by simp)) A3 (one_wf H.wf)
  exact ok_val (v := .bool true) (g := g3) rfl ⟨rfl, H3, k3⟩
theorem step3_no (H : Cy h C l T 3 qb gq dn us X) (h1 : l.sweepOne.1 = false) : Ok (k_cycle_Cycle_Step (.ptr (some (C 1, 0))) x1 h) fun r => r.1 = .bool true ∧ ∃ us', Cy r.2 C l T 0 qb gq (IntKind.i64.wrap (dn + 1)) us' X ∧ KpX X h r.2 := by
  have hl : l.sweepOne.2 = l := by
    unfold PAl.sweepOne at h1 ⊢
    cases hl : l.one l.un.length 0 with
    | none => rfl
    | some n => rw [hl] at h1; cases h1
  refine Ok.eq ?_ (by simp -implicitDefEqProofs only [k_cycle_Cycle_Step, nilV_ptr, Option.bind_some, faP_ptr, Nat.zero_add, H.c 4 _ rfl, eql_int, decide_true, decide_false, show ((3 : Int) = 1) = False by simp, show ((3 : Int) = 2) = False by simp, condE_true, condE_false, H.c 2 _ rfl] <;> rfl)
  refine ok_cl (sweepOne_ok H.al) ?_
  rintro _ g3 ⟨rfl, A3, s3⟩
  simp only at A3 s3
  rw [hl] at A3
  rw [h1]
  obtain ⟨H3, k3⟩ := H.turn (s3.sub (by simp)) A3 H.wf
  obtain ⟨st4, _, _⟩ := H3.st
  obtain ⟨H4, k4⟩ := H3.num (ph' := 0) (dn' := dn) (us' := us) rfl
  obtain ⟨_, st5, _⟩ := H4.st
  obtain ⟨H5, k5⟩ := H4.num (ph' := 0) (dn' := IntKind.i64.wrap (dn + 1)) (us' := us) rfl
  refine Ok.eq ?_ (by simp -implicitDefEqProofs only [un_not, Bool.not_false, Option.bind_some, condE_true, nilV_ptr, faP_ptr, Nat.zero_add, st4 0, cl_some, H4.c 6 _ rfl, bin_add, st5, H5.c 2 _ rfl] <;> rfl)
  refine ok_cl (used_ok H5) ?_
  rintro _ _ ⟨n, he⟩
  cases he
  obtain ⟨_, _, st6⟩ := H5.st
  obtain ⟨y, hy⟩ : ∃ y : Int, maxP (.int .i64 n) (.int .i64 64) = some (.int .i64 y) := ⟨_, rfl⟩
  obtain ⟨H6, k6⟩ := H5.num (ph' := 0) (dn' := IntKind.i64.wrap (dn + 1)) (us' := y) rfl
  exact ok_val (v := .bool true) (by simp -implicitDefEqProofs only [hy, Option.bind_some, nilV_ptr, faP_ptr, Nat.zero_add, st6, cl_some] <;> rfl) ⟨rfl, y, H6, ((k3.trans k4).trans k5).trans k6⟩
end
end Go.Ab.F

namespace Go.Ab.F
open Go Go.Ab
set_option linter.all false
set_option linter.all false
attribute [local congr] c_bind c_cl c_mk c_lp c_clC c_gQ c_gV c_condE c_thenK

/-! A whole collection. -/
inductive MR (T : List Shp) : PAr → List Int → PAr → Prop
  | done (a : PAr) : MR T a [] a
  | step {a : PAr} {x : Int} {q : List Int} {a' : PAr} : MR T (shadeL a q (fieldsL T a x)).1 (shadeL a q (fieldsL T a x)).2 a' → MR T a (x :: q) a'
inductive SW : PAl → PAl → Prop
  | done {l : PAl} : l.sweepOne.1 = false → SW l l
  | step {l l' : PAl} : l.sweepOne.1 = true → SW l.sweepOne.2 l' → SW l l'
def WholeR (T : List Shp) (l : PAl) (G : List Int) (l' : PAl) : Prop := ∃ a', MR T (shadeL l.ar.clear [] G).1 (shadeL l.ar.clear [] G).2 a' ∧ SW (PAl.stale ⟨a', l.un⟩) l'
theorem one_at {l : PAl} : ∀ {k n m : Nat}, l.one k n = some m → (l.un[m]?).getD false = true ∧ n ≤ m ∧ m < n + k
  | 0, n, m, h => by cases h
  | k + 1, n, m, h => by
    rw [PAl.one] at h
    split at h
    · rename_i e; cases h; exact ⟨e, Nat.le_refl _, by omega⟩
    · obtain ⟨h1, h2, h3⟩ := one_at h
      exact ⟨h1, by omega, by omega⟩
theorem one_no {l : PAl} : ∀ {k n : Nat}, l.one k n = none → ∀ m, n ≤ m → m < n + k → (l.un[m]?).getD false = false
  | 0, n, h, m, h1, h2 => by omega
  | k + 1, n, h, m, h1, h2 => by
    rw [PAl.one] at h
    split at h
    · cases h
    · rename_i e
      by_cases em : m = n
      · subst em; simpa using e
      · exact one_no h m (by omega) (by omega)
theorem one_cases (l : PAl) : (l.sweepOne.1 = false ∧ l.sweepOne.2 = l ∧ ∀ m : Nat, (l.un[m]?).getD false = false) ∨ (∃ n, l.sweepOne = (true, l.sweepU n) ∧ n < l.un.length ∧ (l.un[n]?).getD false = true) := by
  unfold PAl.sweepOne
  cases h : l.one l.un.length 0 with
  | none =>
    left
    refine ⟨rfl, rfl, fun m => ?_⟩
    by_cases hm : m < l.un.length
    · exact one_no h m (Nat.zero_le _) (by omega)
    · rw [List.getElem?_eq_none (by omega)]; rfl
  | some n =>
    right
    obtain ⟨h1, h2, h3⟩ := one_at h
    exact ⟨n, rfl, by omega, h1⟩
theorem left_one {l : PAl} (h : l.sweepOne.1 = true) : l.sweepOne.2.left + 1 = l.left := by
  rcases one_cases l with ⟨h1, _⟩ | ⟨n, h1, h2, h3⟩
  · rw [h1] at h; cases h
  · rw [h1]
    show (l.sweepU n).left + 1 = l.left
    unfold PAl.left
    rw [(sweepL_len l n).1]
    have := cnt_ins n (fun i => ((l.un.set n false)[i]?).getD false) (by rw [List.getElem?_set_self h2]; rfl) l.un.length
    simp only [h2, decide_true, Bool.toNat_true] at this
    show cnt (fun i => ((l.un.set n false)[i]?).getD false) l.un.length + 1 = _
    rw [← this]
    apply cnt_congr
    intro i hi
    by_cases e : n = i
    · subst e; simp [h3]
    · simp [e]
section
variable {h : Heap} {C : Nat → Nat} {l : PAl} {T : List Shp} {ph : Int} {qb : Option Nat} {gq : List Int} {dn us : Int} {X : List Nat} {x1 : AV} {G : List Int}
theorem start_ok (H : Cy h C l T 0 qb gq dn us X) (R : Rt h x1 G X) (hG : gq.length + G.length ≤ 2 ^ 40) : Ok (k_cycle_Cycle_Start (.ptr (some (C 1, 0))) x1 h) fun r => r.1 = .bool true ∧ ∃ qb', Cy r.2 C ⟨(shadeL l.ar.clear gq G).1, l.un⟩ T 1 qb' (shadeL l.ar.clear gq G).2 dn us X ∧ KpX X h r.2 := by
  refine Ok.eq ?_ (by simp -implicitDefEqProofs only [k_cycle_Cycle_Start, nilV_ptr, Option.bind_some, faP_ptr, Nat.zero_add, H.c 4 _ rfl, neq_int, decide_true, Bool.not_true, condE_false, H.c 0 _ rfl] <;> rfl)
  refine ok_cl (clear_ok H.al.ar) ?_
  rintro _ g1 ⟨rfl, A1, s1⟩
  simp only at A1 s1
  have S := clear_same l.ar
  obtain ⟨H1, k1⟩ := H.turn (l' := ⟨l.ar.clear, l.un⟩) (s1.sub (by simp)) (H.al.arena (s1.sub (by simp)) A1 S.len) (S.wf H.wf)
  obtain ⟨st4, _, _⟩ := H1.st
  obtain ⟨H2, k2⟩ := H1.num (ph' := 1) (dn' := dn) (us' := us) rfl
  refine Ok.eq ?_ (by simp -implicitDefEqProofs only [nilV_ptr, faP_ptr, Nat.zero_add, Option.bind_some, st4 1, cl_some, H2.c 5 _ rfl] <;> rfl)
  generalize g1.put (C 1) _ = g2 at *
  have cm : clM g2 (.mp (some (C 13))) = some (.tup [], g2.put (C 13) (some (.mp []))) := by simp only [clM, H2.bmb]
  have sm : Same [] g2 (g2.put (C 13) (some (.mp []))) := ⟨Nat.le_refl _, fun j _ _ => by
    by_cases e : j = C 13
    · subst e; rw [get_put_eq, H2.bmb]
    · rw [get_put_ne e]⟩
  refine Ok.eq ?_ (by simp -implicitDefEqProofs only [cm, cl_some] <;> rfl)
  generalize g2.put (C 13) (some (.mp [])) = g3 at *
  have H3 := H2.keep sm
  have k3 : KpX X h g3 := (k1.trans k2).trans (KpX.same sm)
  obtain ⟨ty, rb, gv, rfl, hty, hg, hc⟩ := (R.kp k3).ex
  have hs : ∀ {Q : AV × Heap → Prop} (K : AV → Heap → Option (AV × Heap)), Ok (cl (k_law14_nobody_Globals (.ptr (some (rb, 0))) g3) K) Q → Ok (clF (lookT T74) (ivP [(30, 134), (66, 138)] (.ifc ty (.ptr (some (rb, 0)))) []) g3 K) Q := fun K hK => by
    rcases hty with rfl | rfl
    · exact hK
    · exact hK
  refine hs _ ?_
  refine ok_cl (glob_ok rfl hg hc (by omega)) ?_
  rintro v g4 ⟨b, hv, s4, hb⟩
  simp only at hv s4 hb
  obtain ⟨Y, hY, hXY, H4⟩ : ∃ Y : List Nat, (∀ j, b = some j → j ∈ Y) ∧ (∀ j ∈ X, j ∈ Y) ∧ Cy g4 C ⟨l.ar.clear, l.un⟩ T 1 qb gq dn us Y := by
    cases b with
    | none => exact ⟨X, (fun j hj => by cases hj), fun j hj => hj, H3.keep s4⟩
    | some b => exact ⟨b :: X, (fun j hj => by cases hj; exact List.mem_cons_self ..), fun j hj => List.mem_cons_of_mem _ hj, H3.addX s4 (hb b rfl).1 (hb b rfl).2⟩
  have lr := slgLrd hv hY
  refine ok_cl (P := fun (r : AV × Heap) => r.1 = .tup [] ∧ ∃ qb', Cy r.2 C ⟨(shadeL l.ar.clear gq G).1, l.un⟩ T 1 qb' (shadeL l.ar.clear gq G).2 dn us Y ∧ KpX Y g4 r.2) ?_ ?_
  · refine Ok.eq ?_ (by simp -implicitDefEqProofs only [k_cycle_Cycle_shade, lr.1, Option.bind_some] <;> rfl)
    refine ok_lp (cshade_loop H4 lr hG) ?_
    rintro _ vs g5 ⟨rfl, qb', H5, k5⟩
    exact ok_val (v := .tup []) (g := g5) rfl ⟨rfl, qb', H5, k5⟩
  · rintro _ g5 ⟨rfl, qb', H5, k5⟩
    simp only at H5 k5
    exact ok_val (v := .bool true) (g := g5) rfl ⟨rfl, qb', H5.subX hXY H.x0, (k3.trans (KpX.same s4)).trans (k5.sub hXY)⟩
theorem whole_ok (H : Cy h C l T 0 qb [] dn us X) (R : Rt h x1 G X) (hG : G.length ≤ 2 ^ 30) : Ok (k_cycle_Cycle_Whole (.ptr (some (C 1, 0))) x1 h) fun r => r.1 = .tup [] ∧ ∃ l' qb' us', Cy r.2 C l' T 0 qb' [] (IntKind.i64.wrap (dn + 1)) us' X ∧ KpX X h r.2 ∧ WholeR T l G l' := by
  have lp0 : Ok (k_cycle_Cycle_Whole_L0 (.ptr (some (C 1, 0))) x1 h) fun r => r = (.exit 0, [], h) := by
    refine ok_loop (fun m vs g => vs = [] ∧ g = h) ?_ (n := 0) (by omega) ⟨rfl, rfl⟩
    rintro m vs g ⟨rfl, rfl⟩
    exact (Ok.of (r := (.exit 0, [], g)) (.inr ⟨by simp, rfl⟩)).eq (by
      simp -implicitDefEqProofs only [k_cycle_Cycle_Whole_b0, step0_eq H, cl_some, condE_false])
  refine Ok.eq ?_ (by unfold k_cycle_Cycle_Whole; rfl)
  refine ok_lp lp0 ?_
  rintro _ _ _ he
  cases he
  rw [if_pos rfl, thenK_normal]
  refine ok_cl (start_ok H R (by simp; omega)) ?_
  rintro _ g1 ⟨rfl, qb1, H1, k1⟩
  simp only at H1 k1
  have R1 := R.kp k1
  have hmu := shadeL_mu G l.ar.clear []
  have hm0 := mu_le l.ar.clear
  have hcl : l.ar.clear.sp.length ≤ 512 := by rw [(clear_same l.ar).len]; exact H.wf.hi
  simp only [List.length_nil, Nat.zero_add] at hmu
  generalize ha1 : (shadeL l.ar.clear [] G).1 = a1 at *
  generalize ha2 : (shadeL l.ar.clear [] G).2 = q1 at *
  have lp1 : Ok (k_cycle_Cycle_Whole_L1 (.ptr (some (C 1, 0))) x1 g1) fun r => r.1 = .exit 2 ∧ ∃ l' qb' us', Cy r.2.2 C l' T 0 qb' [] (IntKind.i64.wrap (dn + 1)) us' X ∧ KpX X g1 r.2.2 ∧ ∃ a', MR T a1 q1 a' ∧ SW (PAl.stale ⟨a', l.un⟩) l' := by
    refine ok_loop (fun m vs g => vs = [] ∧ KpX X g1 g ∧
      ((∃ qb', m = 100000 + q1.length + a1.mu ∧ Cy g C ⟨a1, l.un⟩ T 1 qb' q1 dn us X) ∨
       (∃ qb' a q, m = 10000 + q.length + a.mu ∧ Cy g C ⟨a, l.un⟩ T 2 qb' q dn us X ∧ (∀ a', MR T a q a' → MR T a1 q1 a') ∧ q.length + a.mu ≤ 2 ^ 20) ∨
       (∃ qb' a' l2, m = 1 + l2.left ∧ Cy g C l2 T 3 qb' [] dn us X ∧ MR T a1 q1 a' ∧ ∀ l', SW l2 l' → SW (PAl.stale ⟨a', l.un⟩) l') ∨
       (m = 0 ∧ ∃ l' qb' us', Cy g C l' T 0 qb' [] (IntKind.i64.wrap (dn + 1)) us' X ∧ ∃ a', MR T a1 q1 a' ∧ SW (PAl.stale ⟨a', l.un⟩) l'))) ?_ (n := 100000 + q1.length + a1.mu) (by omega) ⟨rfl, KpX.refl _ _, .inl ⟨qb1, rfl, H1⟩⟩
    rintro m vs g ⟨rfl, k, (⟨qb', hm, Hg⟩ | ⟨qb', a, q, hm, Hg, hMR, hb⟩ | ⟨qb', a', l2, hm, Hg, hMR, hSW⟩ | ⟨hm, l', qb', us', Hg, hR⟩)⟩
    · refine Ok.eq ?_ (by unfold k_cycle_Cycle_Whole_b1; rfl)
      refine ok_cl (step1_ok Hg (R1.kp k)) ?_
      rintro _ g2 ⟨rfl, H2, k2⟩
      simp only at H2 k2
      exact (Ok.of (r := ((Ex.normal, ([] : List AV), g2) : Ex × List AV × Heap)) (.inl ⟨rfl, 10000 + q1.length + a1.mu, by omega, rfl, k.trans k2, .inr (.inl ⟨qb', a1, q1, rfl, H2, fun a' h => h, by omega⟩)⟩)).eq rfl
    · refine Ok.eq ?_ (by unfold k_cycle_Cycle_Whole_b1; rfl)
      cases q with
      | nil =>
        refine ok_cl (step2_no Hg (R1.kp k)) ?_
        rintro _ g2 ⟨rfl, H2, k2⟩
        simp only at H2 k2
        have hl : (PAl.stale ⟨a, l.un⟩).left ≤ 512 := by
          have h1 : (PAl.stale ⟨a, l.un⟩).left ≤ (PAl.stale ⟨a, l.un⟩).un.length := cnt_le _ _
          have h2 := H2.al.len
          have h3 := H2.wf.hi
          omega
        exact (Ok.of (r := ((Ex.normal, ([] : List AV), g2) : Ex × List AV × Heap)) (.inl ⟨rfl, 1 + (PAl.stale ⟨a, l.un⟩).left, by omega, rfl, k.trans k2, .inr (.inr (.inl ⟨qb', a, _, rfl, H2, hMR a (MR.done a), fun l' h => h⟩))⟩)).eq rfl
      | cons x q =>
        refine ok_cl (step2_ok Hg (by simp at hb; omega)) ?_
        rintro _ g2 ⟨rfl, qb2, H2, k2⟩
        simp only at H2 k2
        have hs := shadeL_mu (fieldsL T a x) a q
        simp only [List.length_cons] at hm hb
        exact (Ok.of (r := ((Ex.normal, ([] : List AV), g2) : Ex × List AV × Heap)) (.inl ⟨rfl, 10000 + (shadeL a q (fieldsL T a x)).2.length + (shadeL a q (fieldsL T a x)).1.mu, by omega, rfl, k.trans k2, .inr (.inl ⟨qb2, _, _, rfl, H2, fun a' h => hMR a' (MR.step h), by omega⟩)⟩)).eq rfl
    · refine Ok.eq ?_ (by unfold k_cycle_Cycle_Whole_b1; rfl)
      cases h1 : l2.sweepOne.1 with
      | true =>
        refine ok_cl (step3_ok Hg h1) ?_
        rintro _ g2 ⟨rfl, H2, k2⟩
        simp only at H2 k2
        have := left_one h1
        exact (Ok.of (r := ((Ex.normal, ([] : List AV), g2) : Ex × List AV × Heap)) (.inl ⟨rfl, 1 + l2.sweepOne.2.left, by omega, rfl, k.trans k2, .inr (.inr (.inl ⟨qb', a', _, rfl, H2, hMR, fun l' h => hSW l' (SW.step h1 h)⟩))⟩)).eq rfl
      | false =>
        refine ok_cl (step3_no Hg h1) ?_
        rintro _ g2 ⟨rfl, us', H2, k2⟩
        simp only at H2 k2
        exact (Ok.of (r := ((Ex.normal, ([] : List AV), g2) : Ex × List AV × Heap)) (.inl ⟨rfl, 0, by omega, rfl, k.trans k2, .inr (.inr (.inr ⟨rfl, l2, qb', us', H2, a', hMR, hSW l2 (SW.done h1)⟩))⟩)).eq rfl
    · exact (Ok.of (r := ((Ex.exit 2, ([] : List AV), g) : Ex × List AV × Heap)) (.inr ⟨by simp, rfl, l', qb', us', Hg, k, hR⟩)).eq (by
        simp -implicitDefEqProofs only [k_cycle_Cycle_Whole_b1, step0_eq Hg, cl_some, condE_false])
  refine ok_lp lp1 ?_
  rintro _ vs g2 ⟨rfl, l', qb', us', H2, k2, hR⟩
  simp only at H2 k2
  exact ok_val (v := .tup []) (g := g2) rfl ⟨rfl, l', qb', us', H2, k1.trans k2, by unfold WholeR; rw [ha1, ha2]; exact hR⟩
end
end Go.Ab.F

namespace Go.Ab.F
open Go Go.Ab
set_option linter.all false
set_option linter.all false

/-! What a whole collection leaves. -/
theorem SameTk.word {a b : PAr} (S : SameTk a b) (ad k : Int) : b.word ad k = a.word ad k := by
  unfold PAr.word
  rw [S.find]
  cases hf : a.find ad with
  | none => rfl
  | some x =>
    obtain ⟨n, q⟩ := x
    simp only
    rw [S.cls n (find_some hf).1]
theorem SameTk.read {a b : PAr} (S : SameTk a b) (ad k : Int) : b.read ad k = a.read ad k := by
  unfold PAr.read
  rw [S.word, S.ws]
theorem SameTk.fields {a b : PAr} (S : SameTk a b) (T : List Shp) (ad : Int) : fieldsL T b ad = fieldsL T a ad := by
  unfold fieldsL fieldsUp
  simp only [S.read, S.clsE]
theorem shadeL_isM : ∀ (L : List Int) {a : PAr} (q : List Int), Wf a → ∀ x, ((shadeL a q L).1.isM x = true ↔ a.isM x = true ∨ (x ∈ L ∧ a.find x ≠ none))
  | [], a, q, H, x => by simp [shadeL]
  | y :: L, a, q, H, x => by
    have S := mark_same a y
    rw [shadeL, shadeL_isM L _ (S.wf H) x, (mark_isM H y).2 x, S.find]
    constructor
    · rintro ((h | ⟨rfl, h⟩) | ⟨h1, h2⟩)
      · exact .inl h
      · exact .inr ⟨List.mem_cons_self .., h⟩
      · exact .inr ⟨List.mem_cons_of_mem _ h1, h2⟩
    · rintro (h | ⟨h1, h2⟩)
      · exact .inl (.inl h)
      · rcases List.mem_cons.1 h1 with rfl | h1
        · exact .inl (.inr ⟨rfl, h2⟩)
        · exact .inr ⟨h1, h2⟩
theorem clear_isM {a : PAr} (ad : Int) : a.clear.isM ad = false := by
  have S := clear_same a
  cases hf : a.find ad with
  | none => unfold PAr.isM; rw [S.find, hf]
  | some x =>
    obtain ⟨n, q⟩ := x
    rw [isM_of (by rw [S.find]; exact hf), clear_at a n (find_some hf).1]; simp
/-- No thing holds an address. -/
theorem mr_none {T : List Shp} {a a' : PAr} {q : List Int} (h : MR T a q a') : (∀ x, fieldsL T a x = []) → a' = a := by
  induction h with
  | done a => exact fun _ => rfl
  | step h ih =>
    intro h0
    rename_i a x q a'
    have e : shadeL a q (fieldsL T a x) = (a, q) := by rw [h0 x]; rfl
    rw [e] at ih
    exact ih h0
/-- Sweeping goes on. -/
structure Swp (a : PAr) (l : PAl) : Prop where
  wf : Wf l.ar
  len : l.ar.sp.length = a.sp.length
  ul : l.un.length = l.ar.sp.length
  find : ∀ ad m q, l.ar.find ad = some (m, q) ↔ a.find ad = some (m, q) ∧ ((l.un[m.toNat]?).getD false = false → a.isM ad = true)
  lies : ∀ ad W, Lies a ad W → l.ar.find ad ≠ none → Lies l.ar ad W
  isM : ∀ ad, l.ar.find ad ≠ none → l.ar.isM ad = a.isM ad
  cls : ∀ m : Int, 0 ≤ m → ((l.un[m.toNat]?).getD false = true → l.ar.cls m = a.cls m ∧ a.cls m ≠ -1) ∧ ((l.un[m.toNat]?).getD false = false → l.ar.cls m = -1 ∨ (l.ar.cls m = a.cls m ∧ ∃ ad q, l.ar.find ad = some (m, q)))
theorem swp_stale {a : PAr} {un : List Bool} (H : Wf a) (hu : un.length = a.sp.length) : Swp a (PAl.stale ⟨a, un⟩) where
  wf := H
  len := rfl
  ul := by simp [PAl.stale, hu]
  find := fun ad m q => by
    constructor
    · intro h
      refine ⟨h, fun hm => ?_⟩
      exfalso
      have hf := find_some (a := a) h
      have h1 := hf.1.1
      have h2 := hf.1.2
      have hc : a.cls m ≠ -1 := by rw [cls_at hf.1]; omega
      have hlt : m.toNat < un.length := by rw [hu]; omega
      have hmm : ((m.toNat : Nat) : Int) = m := by omega
      simp [PAl.stale, hlt, hmm, hc] at hm
    · exact fun h => h.1
  lies := fun ad W h _ => h
  isM := fun ad _ => rfl
  cls := fun m hm => by
    have hmm : ((m.toNat : Nat) : Int) = m := by omega
    by_cases hlt : m.toNat < un.length
    · have e : (((PAl.stale ⟨a, un⟩).un[m.toNat]?).getD false) = decide (¬ a.cls m = -1) := by simp [PAl.stale, hlt, hmm]
      rw [e]
      constructor
      · intro h; exact ⟨rfl, by simpa using h⟩
      · intro h; left; show a.cls m = -1; simpa using h
    · have e : (((PAl.stale ⟨a, un⟩).un[m.toNat]?).getD false) = false := by simp [PAl.stale, hlt]
      rw [e]
      constructor
      · intro h; cases h
      · intro _
        left
        show a.cls m = -1
        unfold PAr.cls
        rw [if_neg (fun h => by have := h.2; omega)]
theorem swp_step {a : PAr} {l : PAl} (S : Swp a l) {n : Nat} (hn : n < l.un.length) (hu : (l.un[n]?).getD false = true) : Swp a (l.sweepU n) := by
  have hc := (S.cls n (by omega)).1 (by rw [Int.toNat_natCast]; exact hu)
  have hc1 : l.ar.cls n ≠ -1 := by rw [hc.1]; exact hc.2
  have W := sweep_swept S.wf hc1
  have hl := sweepL_len l n
  have eu : ∀ m : Nat, ((l.sweepU n).un[m]?).getD false = if m = n then false else (l.un[m]?).getD false := fun m => by
    show ((l.un.set n false)[m]?).getD false = _
    by_cases e : m = n
    · subst e; rw [if_pos rfl, List.getElem?_set_self hn]; rfl
    · rw [if_neg e, List.getElem?_set_ne (fun e' => e e'.symm)]
  have ef : ∀ ad m q, (l.sweepU n).ar.find ad = some (m, q) ↔ l.ar.find ad = some (m, q) ∧ (m = n → a.isM ad = true) := fun ad m q => by
    rw [show (l.sweepU n).ar = (l.ar.sweep n).2 from rfl, W.find ad m q]
    constructor
    · rintro ⟨h1, h2⟩
      refine ⟨h1, fun e => ?_⟩
      rw [← S.isM ad (by rw [h1]; simp), isM_of h1, e]; exact h2 e
    · rintro ⟨h1, h2⟩
      refine ⟨h1, fun e => ?_⟩
      have := h2 e
      rw [← S.isM ad (by rw [h1]; simp), isM_of h1, e] at this; exact this
  have back : ∀ ad, (l.sweepU n).ar.find ad ≠ none → l.ar.find ad ≠ none := fun ad h => by
    obtain ⟨⟨m, q⟩, h⟩ := Option.ne_none_iff_exists'.1 h
    rw [((ef ad m q).1 h).1]; simp
  refine ⟨W.wf, W.len.trans S.len, by rw [hl.1, hl.2]; exact S.ul, fun ad m q => ?_, fun ad W' h1 h2 => W.lies ad W' (S.lies ad W' h1 (back ad h2)) h2, fun ad h => (W.isM ad h).trans (S.isM ad (back ad h)), fun m hm => ?_⟩
  · rw [ef, S.find, eu]
    constructor
    · rintro ⟨⟨h1, h2⟩, h3⟩
      refine ⟨h1, fun h => ?_⟩
      by_cases e : m.toNat = n
      · have := (find_some h1).1.1
        exact h3 (by omega)
      · rw [if_neg e] at h; exact h2 h
    · rintro ⟨h1, h2⟩
      refine ⟨⟨h1, fun h => ?_⟩, fun e => ?_⟩
      · by_cases e : m.toNat = n
        · exact h2 (by rw [if_pos e])
        · exact h2 (by rw [if_neg e]; exact h)
      · exact h2 (by rw [if_pos (by omega)])
  · rw [eu]
    by_cases e : m.toNat = n
    · have em : m = n := by omega
      subst em
      rw [if_pos e]
      refine ⟨(fun h => by cases h), fun _ => ?_⟩
      rcases W.clsn with h | ⟨h, ad, q, hf⟩
      · exact .inl h
      · exact .inr ⟨h.trans hc.1, ad, q, hf⟩
    · have hmn : m ≠ n := by omega
      rw [if_neg e]
      have hcm : (l.sweepU n).ar.cls m = l.ar.cls m := W.cls m hmn
      obtain ⟨s1, s2⟩ := S.cls m hm
      refine ⟨fun h => by rw [hcm]; exact s1 h, fun h => ?_⟩
      rw [hcm]
      rcases s2 h with h | ⟨h, ad, q, hf⟩
      · exact .inl h
      · exact .inr ⟨h, ad, q, (ef ad m q).2 ⟨hf, fun e => absurd e hmn⟩⟩
theorem sw_swp {a : PAr} {l l' : PAl} (h : SW l l') : Swp a l → Swp a l' ∧ ∀ m : Nat, (l'.un[m]?).getD false = false := by
  induction h with
  | done h1 =>
    intro S
    rename_i l
    rcases one_cases l with ⟨_, _, h3⟩ | ⟨n, h2, _⟩
    · exact ⟨S, h3⟩
    · rw [h2] at h1; cases h1
  | step h1 _ ih =>
    intro S
    rename_i l l' _
    rcases one_cases l with ⟨h2, _⟩ | ⟨n, h2, h3, h4⟩
    · rw [h2] at h1; cases h1
    · rw [h2] at ih
      exact ih (swp_step S h3 h4)
/-- All in all. -/
structure Whole (a : PAr) (l' : PAl) (K : Int → Prop) : Prop where
  wf : Wf l'.ar
  len : l'.ar.sp.length = a.sp.length
  ul : l'.un.length = l'.ar.sp.length
  un : ∀ m : Nat, (l'.un[m]?).getD false = false
  find : ∀ ad, l'.ar.find ad ≠ none ↔ a.find ad ≠ none ∧ K ad
  lies : ∀ ad W, Lies a ad W → K ad → Lies l'.ar ad W
  cls : ∀ m : Int, l'.ar.cls m ≠ -1 → ∃ ad q, l'.ar.find ad = some (m, q)
theorem whole_none {T : List Shp} {l l' : PAl} {G : List Int} (H : Wf l.ar) (hu : l.un.length = l.ar.sp.length) (h0 : ∀ x, fieldsL T l.ar x = []) (h : WholeR T l G l') : Whole l.ar l' (fun ad => ad ∈ G) := by
  obtain ⟨a', h1, h2⟩ := h
  have S1 := clear_same l.ar
  have S2 := shadeL_same G l.ar.clear []
  have S := S1.trans S2
  have ea := mr_none h1 (fun x => by rw [S.fields]; exact h0 x)
  subst ea
  have hm := shadeL_isM G [] (S1.wf H)
  generalize (shadeL l.ar.clear [] G).1 = a at *
  have hM : ∀ x, a.isM x = true ↔ x ∈ G ∧ l.ar.find x ≠ none := fun x => by rw [hm x, clear_isM, S1.find]; simp
  obtain ⟨Sw, un⟩ := sw_swp h2 (swp_stale (S.wf H) (by rw [S.len]; exact hu))
  have hf : ∀ ad, l'.ar.find ad ≠ none ↔ l.ar.find ad ≠ none ∧ ad ∈ G := fun ad => by
    constructor
    · intro h
      obtain ⟨⟨m, q⟩, h⟩ := Option.ne_none_iff_exists'.1 h
      obtain ⟨h1, h2⟩ := (Sw.find ad m q).1 h
      have := (hM ad).1 (h2 (un _))
      exact ⟨this.2, this.1⟩
    · rintro ⟨h1, h2⟩
      obtain ⟨⟨m, q⟩, h⟩ := Option.ne_none_iff_exists'.1 h1
      have := (Sw.find ad m q).2 ⟨by rw [S.find]; exact h, fun _ => (hM ad).2 ⟨h2, h1⟩⟩
      rw [this]; simp
  refine ⟨Sw.wf, Sw.len.trans S.len, Sw.ul, un, hf, fun ad W hL hK => ?_, fun m hm => ?_⟩
  · refine Sw.lies ad W (S.lies hL) ((hf ad).2 ⟨?_, hK⟩)
    obtain ⟨n, q, h⟩ := hL.find H
    rw [h]; simp
  · by_cases h : 0 ≤ m
    · rcases (Sw.cls m h).2 (un _) with h | ⟨_, ad, q, h⟩
      · exact absurd h hm
      · exact ⟨ad, q, h⟩
    · exfalso
      apply hm
      unfold PAr.cls
      rw [if_neg (fun h' => h (by have := h'.1; omega))]
end Go.Ab.F
