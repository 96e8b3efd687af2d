import Derived.Test.YtmpinijdejafkaaDoorChn
import Derived.Test.YtmpinijdejafkaaDoorArn
import Derived.Test.YtmpinijdejafkaaDoorKit
import Derived.Test.YtmpinijdejafkaaDoorCgs

namespace Go.Ab.F
open Go Go.Ab
set_option linter.all false
set_option linter.all false
attribute [local congr] c_bind c_cl c_mk c_lp c_clC c_gQ c_gV c_condE c_thenK

/-! Lists of ints of one's own that lose their first and get a last. -/
structure QuV (g : Heap) (base : Nat) (b : Option Nat) (v : AV) (L : List Int) : Prop where
  nil : b = none → v = .sl none 0 (.ex 0) ∧ L = []
  blk : ∀ i, b = some i → base ≤ i ∧ i < g.next ∧ ∃ pre : List AV, g.get i = some (.cells true (pre ++ wsC L)) ∧ v = .sl (some (i, pre.length)) L.length (.un 1)
theorem QuV.lnL {g : Heap} {base : Nat} {b : Option Nat} {v : AV} {L : List Int} (H : QuV g base b v L) : Go.Ab.lnL v = some (.int .i64 L.length) := by
  cases b with
  | none => obtain ⟨rfl, rfl⟩ := H.nil rfl; rfl
  | some i => obtain ⟨_, _, pre, _, rfl⟩ := H.blk i rfl; simp
theorem QuV.sc {g : Heap} {base : Nat} {b : Option Nat} {v : AV} {L : List Int} (H : QuV g base b v L) : scalar v = true := by
  cases b with
  | none => obtain ⟨rfl, rfl⟩ := H.nil rfl; rfl
  | some i => obtain ⟨_, _, pre, _, rfl⟩ := H.blk i rfl; rfl
theorem QuV.samev {g : Heap} {base : Nat} {b : Option Nat} {v : AV} {L : List Int} (H : QuV g base b v L) : same v v = true := by
  cases b with
  | none => obtain ⟨rfl, rfl⟩ := H.nil rfl; rfl
  | some i => obtain ⟨_, _, pre, _, rfl⟩ := H.blk i rfl; exact same_sl _ _ _
theorem QuV.mt {g : Heap} {base : Nat} : QuV g base none (.sl none 0 (.ex 0)) [] := ⟨fun _ => ⟨rfl, rfl⟩, fun i h => by cases h⟩
theorem QuV.keep {g g' : Heap} {base : Nat} {b : Option Nat} {v : AV} {L : List Int} {S : List Nat} (H : QuV g base b v L) (s : Same S g g') (hb : ∀ i, b = some i → i ∉ S) : QuV g' base b v L :=
  ⟨H.nil, fun i hi => by
    obtain ⟨h1, h2, pre, h3, h4⟩ := H.blk i hi
    exact ⟨h1, Nat.lt_of_lt_of_le h2 s.next, pre, (s.get i h2 (hb i hi)).trans h3, h4⟩⟩
theorem wsC_app (a b : List Int) : wsC (a ++ b) = wsC a ++ wsC b := by simp [wsC]
theorem wsC_len (a : List Int) : (wsC a).length = a.length := by simp [wsC]
theorem QuV.app {g : Heap} {base c : Nat} {b : Option Nat} {v : AV} {L : List Int} {x : Int} (H : QuV g base b v L) (hc : g.get c = some (.cells true [.int .i64 x])) (hb : base ≤ g.next) (hl : L.length ≤ 1000) :
    ∃ v' g', appendA g 1 8 v (.sl (some (c, 0)) 1 (.ex 1)) = some (v', g') ∧ QuV g' base (some g.next) v' (L ++ [x]) ∧ Same b.toList g g' ∧ g'.next = g.next + 1 := by
  have hld : loadN g (c, 0) (1 * 1) = some [.int .i64 x] := by simp only [loadN, hc, spanF_eq]; rfl
  cases b with
  | none =>
    obtain ⟨rfl, rfl⟩ := H.nil rfl
    refine ⟨.sl (some (g.next, 0)) 1 (.un 1), g.new (.cells true [.int .i64 x]), ?_, ⟨(fun h => by cases h), fun i hi => ?_⟩, Same.new _ _, rfl⟩
    · simp only [appendA, countA, addedA, hld, Option.bind_some]
      rw [if_neg (by omega), if_pos (by omega)]
      rfl
    · cases hi
      exact ⟨hb, Nat.lt_succ_self _, [], get_new_eq, rfl⟩
  | some i =>
    obtain ⟨b1, b2, pre, b3, rfl⟩ := H.blk i rfl
    have hle : (pre ++ wsC L).length = pre.length + L.length := by rw [List.length_append, wsC_len]
    refine ⟨.sl (some (g.next, 0)) (L.length + 1) (.un 1), (g.put i none).new (.cells true (wsC (L ++ [x]))), ?_, ⟨(fun h => by cases h), fun j hj => ?_⟩, ?_, rfl⟩
    · simp only [appendA, countA, addedA, hld, Option.bind_some, ne_eq, not_true_eq_false, if_false, b3]
      rw [if_neg (by omega), if_pos (by omega), if_neg (by omega), if_pos (by omega)]
      have : ([AV.int .i64 x].all scalar) = true := rfl
      simp only [this, if_true, List.drop_left, wsC_app]
      rfl
    · cases hj
      exact ⟨hb, Nat.lt_succ_self _, [], by
        have := get_new_eq (h := g.put i none) (b := .cells true (wsC (L ++ [x]))); simpa using this, by simp⟩
    · exact (Same.put _ _ _).sub (by simp) |>.trans ((Same.new _ _).sub (by simp))
theorem QuV.tail {g : Heap} {base : Nat} {b : Option Nat} {v : AV} {x : Int} {L : List Int} (H : QuV g base b v (x :: L)) :
    ∃ i o, b = some i ∧ v = .sl (some (i, o)) (L.length + 1) (.un 1) ∧ ldS g (.ptr (some (i, o))) = some (.int .i64 x) ∧ ∃ v', slcP 1 v (some (.int .i64 1)) none none = some v' ∧ QuV g base b v' L := by
  cases b with
  | none => obtain ⟨_, h⟩ := H.nil rfl; cases h
  | some i =>
    obtain ⟨b1, b2, pre, b3, rfl⟩ := H.blk i rfl
    refine ⟨i, pre.length, rfl, rfl, ?_, .sl (some (i, pre.length + 1)) L.length (.un 1), ?_, ⟨(fun h => by cases h), fun j hj => ?_⟩⟩
    · rw [ldS_at b3, List.getElem?_append_right (Nat.le_refl _), Nat.sub_self]; rfl
    · have e : (x :: L).length = L.length + 1 := rfl
      rw [e]
      simp only [slcP, sliceUn, highA, lowA, boundA, ne_eq, not_true_eq_false, if_false, Option.bind_some]
      rw [if_pos ⟨by omega, by omega⟩]
      simp [addA]
    · cases hj
      exact ⟨b1, b2, pre ++ [.int .i64 x], by rw [b3, List.append_assoc]; rfl, by simp⟩

/-! ### Cells by a function -/
def upd {α : Type} (f : Nat → α) (k : Nat) (x : α) : Nat → α := fun i => if i = k then x else f i
theorem upd_eq {α : Type} (f : Nat → α) (k : Nat) (x : α) : upd f k x k = x := by unfold upd; rw [if_pos rfl]
theorem upd_ne {α : Type} (f : Nat → α) {k i : Nat} (x : α) (h : i ≠ k) : upd f k x i = f i := by unfold upd; rw [if_neg h]
def fc (n : Nat) (f : Nat → AV) : List AV := (List.range n).map f
theorem fc_len (n : Nat) (f : Nat → AV) : (fc n f).length = n := by simp [fc]
theorem fc_at {n k : Nat} (f : Nat → AV) (h : k < n) : (fc n f)[k]? = some (f k) := by simp [fc, h]
theorem fc_set {n k : Nat} (f : Nat → AV) (x : AV) (h : k < n) : (fc n f).set k x = fc n (upd f k x) := by
  apply List.ext_getElem?
  intro i
  by_cases hi : i < n
  · by_cases e : i = k
    · subst e
      rw [List.getElem?_set_self (by rw [fc_len]; exact h), fc_at _ h, upd_eq]
    · rw [List.getElem?_set_ne (fun e' => e e'.symm), fc_at _ hi, fc_at _ hi, upd_ne _ _ e]
  · rw [List.getElem?_eq_none (by rw [List.length_set, fc_len]; omega), List.getElem?_eq_none (by rw [fc_len]; omega)]
theorem fc_congr {n : Nat} {f g : Nat → AV} (h : ∀ i, i < n → f i = g i) : fc n f = fc n g := by
  unfold fc
  apply List.map_congr_left
  intro i hi
  exact h i (List.mem_range.1 hi)
theorem fc_succ (n : Nat) (f : Nat → AV) : fc (n + 1) f = fc n f ++ [f n] := by simp [fc, List.range_succ]
theorem and_mask (n : Int) (k : Nat) (hk : k ≤ 32) : binP .and (.int .i64 n) (.int .i64 (((2 ^ k - 1 : Nat)) : Int)) = some (.int .i64 (n % ((2 ^ k : Nat) : Int))) := by
  rw [bin_int _ (by decide) (by decide)]
  have h2 : 2 ^ k ≤ 2 ^ 32 := Nat.pow_le_pow_right (by decide) hk
  have h1 := Nat.two_pow_pos k
  have e : intBin .and .i64 n ((2 ^ k - 1 : Nat) : Int) = some (.int .i64 (IntKind.i64.wrap (BitVec.ofInt 64 n &&& BitVec.ofInt 64 ((2 ^ k - 1 : Nat) : Int)).toNat)) := rfl
  have e7 : (BitVec.ofInt 64 ((2 ^ k - 1 : Nat) : Int)).toNat = 2 ^ k - 1 := by
    rw [BitVec.ofInt_natCast, BitVec.toNat_ofNat]; exact Nat.mod_eq_of_lt (by omega)
  have h : (BitVec.ofInt 64 n &&& BitVec.ofInt 64 ((2 ^ k - 1 : Nat) : Int)).toNat = (n % ((2 ^ k : Nat) : Int)).toNat := by
    rw [BitVec.toNat_and, e7, Nat.and_two_pow_sub_one_eq_mod, BitVec.toNat_ofInt]
    have hd : ((2 ^ k : Nat) : Int) ∣ ((2 ^ 64 : Nat) : Int) := by
      rw [Int.natCast_dvd_natCast]; exact Nat.pow_dvd_pow 2 (by omega)
    have hm := Int.emod_emod_of_dvd n hd
    have h0 := Int.emod_nonneg n (show ((2 ^ 64 : Nat) : Int) ≠ 0 by decide)
    rw [← hm, Int.toNat_emod h0 (by omega), Int.toNat_natCast]
  have h0 := Int.emod_nonneg n (show ((2 ^ k : Nat) : Int) ≠ 0 by omega)
  have h3 := Int.emod_lt_of_pos n (show 0 < ((2 ^ k : Nat) : Int) by omega)
  rw [e, h, wrap_i64 (by omega) (by omega)]
  congr 2; omega
theorem find_zero {a : PAr} (H : Wf a) : a.find 0 = none := by
  cases h : a.find 0 with
  | none => rfl
  | some x =>
    obtain ⟨n, q⟩ := x
    obtain ⟨h1, h2⟩ := find_en h
    have := placed_rm H h2
    rw [h1] at this; omega
end Go.Ab.F

namespace Go.Ab.F
open Go Go.Ab
set_option linter.all false
set_option linter.all false
attribute [local congr] c_bind c_cl c_mk c_lp c_clC c_gQ c_gV c_condE c_thenK

/-! ChansPlays: the channels are made. -/
/-- The channels so far: where none could be, 0. -/
def Chs (l : PAl) (T : List Shp) (n : Nat) (rm : Nat → Int) (ad : Nat → Int) : Prop :=
  (∀ k, k < n → (ad k = 0 ∧ ¬ (0 ≤ rm k ∧ rm k ≤ 59)) ∨ ∃ rest, ChAt l.ar T (ad k) (newC (rm k)) false 0 rest) ∧ ∀ i j, i < n → j < n → ad i = ad j → ad i ≠ 0 → i = j
theorem chAt_pos {l : PAl} {T : List Shp} {ad : Int} {c : Chan} {adr : Bool} {sx : Nat} {rest : List Int} (W : Wf l.ar) (C : ChAt l.ar T ad c adr sx rest) : 64 ≤ ad := (C.lies.pos W).1
theorem chs_step {l l' : PAl} {T : List Shp} {n : Nat} {rm ad : Nat → Int} {x : Int} {ws : List Int} {rest : List Int} (W : Wf l.ar) (H : Chs l T n rm ad) (M : Made l l' x ws) (C : ChAt l'.ar T x (newC (rm n)) false 0 rest) : Chs l' T (n + 1) rm (upd ad n x) := by
  have hne : ∀ k, k < n → ad k ≠ 0 → ad k ≠ x := fun k hk h0 e => by
    rcases H.1 k hk with h | ⟨rest', C'⟩
    · exact h0 h.1
    · obtain ⟨p, q, hf⟩ := C'.lies.find W
      rw [e, M.new] at hf; cases hf
  refine ⟨fun k hk => ?_, fun i j hi hj e h0 => ?_⟩
  · by_cases e : k = n
    · subst e; rw [upd_eq]; exact .inr ⟨rest, C⟩
    · rw [upd_ne _ _ e]
      rcases H.1 k (by omega) with h | ⟨rest', C'⟩
      · exact .inl h
      · have hp := chAt_pos W C'
        exact .inr ⟨rest', M.old _ _ (hne k (by omega) (by omega)) C'.lies, C'.ok, C'.sh, C'.sx⟩
  · by_cases ei : i = n
    · by_cases ej : j = n
      · omega
      · subst ei
        rw [upd_eq, upd_ne _ _ ej] at e
        rw [upd_eq] at h0
        exact absurd e.symm (hne j (by omega) (by rw [← e]; exact h0))
    · rw [upd_ne _ _ ei] at e h0
      by_cases ej : j = n
      · subst ej
        rw [upd_eq] at e
        exact absurd e (hne i (by omega) h0)
      · rw [upd_ne _ _ ej] at e
        exact H.2 i j (by omega) (by omega) e h0
theorem chs_none {l : PAl} {T : List Shp} {n : Nat} {rm ad : Nat → Int} (H : Chs l T n rm ad) (hr : ¬ (0 ≤ rm n ∧ rm n ≤ 59)) : Chs l T (n + 1) rm (upd ad n 0) := by
  refine ⟨fun k hk => ?_, fun i j hi hj e h0 => ?_⟩
  · by_cases e : k = n
    · subst e; rw [upd_eq]; exact .inl ⟨rfl, hr⟩
    · rw [upd_ne _ _ e]; exact H.1 k (by omega)
  · by_cases ei : i = n
    · subst ei; rw [upd_eq] at h0; exact absurd rfl h0
    · rw [upd_ne _ _ ei] at e h0
      by_cases ej : j = n
      · subst ej; rw [upd_eq] at e; exact absurd e h0
      · rw [upd_ne _ _ ej] at e
        exact H.2 i j (by omega) (by omega) e h0
theorem bseq {g : Heap} {b : Option Nat} {sz : Nat} {v : AV} {cs : List AV} {n : Nat} (H : SlB g b sz v cs n) {S : List Nat} {g' : Heap} (s : Same S g g') (hS : ∀ j ∈ S, j < g.next → b ≠ some j) : SlB g' b sz v cs n :=
  H.same s (fun i hi hm => hS i hm (H.blk i hi).1 hi)
/-- Behind so many rooms. -/
structure Lp0 (g0 g : Heap) (A : Nat → Nat) (ph : Nat) (n : Nat) (rm ad : Nat → Int) (q8 q9 : AV) (b8 b9 bh : Option Nat) : Prop where
  hp : ∃ l, HpAt g A l sh15 0 ∧ Chs l sh15 n rm ad ∧ l.ar.used ≤ n ∧ l.ar.sp.length = 40
  l8 : SlB g b8 1 q8 (fc n fun k => .int .i64 (ad k)) n
  l9 : SlB g b9 1 q9 (fc n fun _ => .sl none 0 (.ex 0)) n
  lh : ∃ vh, g.get ph = some (.cells true [vh]) ∧ SlB g bh 1 vh (fc n fun k => .int .i64 (ad k)) n
  n8 : ∀ i, b8 = some i → g0.next ≤ i
  n9 : ∀ i, b9 = some i → g0.next ≤ i
  nh : ∀ i, bh = some i → g0.next ≤ i
  d1 : ∀ i, b8 = some i → b9 ≠ some i
  d2 : ∀ i, b8 = some i → bh ≠ some i
  d3 : ∀ i, b9 = some i → bh ≠ some i
  same : Same [A 5, A 7, A 8, ph] g0 g
theorem lp0_j0 {g0 g : Heap} {A : Nat → Nat} {ph n : Nat} {rm ad : Nat → Int} {q8 q9 : AV} {b8 b9 bh : Option Nat} {l' : PAl} {x : Int} {v4 : AV} (hn : n < 100)
    (hA : ∀ i, i < 11 → A i < g0.next) (hph : ph < g0.next) (hpA : ∀ i, i < 11 → A i ≠ ph) (hp0 : ph ≠ 0) (hg0 : g0.next ≤ g.next)
    (H : HpAt g A l' sh15 0) (hc : Chs l' sh15 (n + 1) rm (upd ad n x)) (hu : l'.ar.used ≤ n + 1) (hl : l'.ar.sp.length = 40)
    (l8 : SlB g b8 1 q8 (fc n fun k => .int .i64 (ad k)) n) (l9 : SlB g b9 1 q9 (fc n fun _ => .sl none 0 (.ex 0)) n) (lh : ∃ vh, g.get ph = some (.cells true [vh]) ∧ SlB g bh 1 vh (fc n fun k => .int .i64 (ad k)) n)
    (n8 : ∀ i, b8 = some i → g0.next ≤ i) (n9 : ∀ i, b9 = some i → g0.next ≤ i) (nh : ∀ i, bh = some i → g0.next ≤ i) (d1 : ∀ i, b8 = some i → b9 ≠ some i) (d2 : ∀ i, b8 = some i → bh ≠ some i) (d3 : ∀ i, b9 = some i → bh ≠ some i)
    (same : Same [A 5, A 7, A 8, ph] g0 g) :
    Ok (k_law15_ChansPlays_j0 (.ptr (some (ph, 0))) q8 q9 (.int .i64 n) (.int .i64 x) v4 g) fun r => r.1 = .normal ∧ ∃ q8' q9' b8' b9' bh', r.2.1 = [v4, q8', q9', .int .i64 ((n + 1 : Nat) : Int)] ∧ Lp0 g0 r.2.2 A ph (n + 1) rm (upd ad n x) q8' q9' b8' b9' bh' := by
  obtain ⟨vh, hvh, sh⟩ := lh
  refine Ok.eq ?_ (by unfold k_law15_ChansPlays_j0; rfl)
  refine app1 l8 (t := .int .i64 x) rfl rfl rfl (by decide) (by omega) fun v1 g1 m8 s1 n1 => ?_
  have t9 := bseq l9 s1 (fun j hj _ e => by cases b8 with | none => simp at hj | some i => simp at hj; subst hj; exact d1 _ rfl e)
  refine app1 t9 (t := .sl none 0 (.ex 0)) rfl rfl rfl (by decide) (by omega) fun v2 g2 m9 s2 n2 => ?_
  have hsm1 : Same b8.toList g g1 := s1
  have p8 : ∀ j, j ∈ b8.toList → g0.next ≤ j := fun j hj => by cases b8 with | none => simp at hj | some i => simp at hj; subst hj; exact n8 _ rfl
  have p9 : ∀ j, j ∈ b9.toList → g0.next ≤ j := fun j hj => by cases b9 with | none => simp at hj | some i => simp at hj; subst hj; exact n9 _ rfl
  have pH : ∀ j, j ∈ bh.toList → g0.next ≤ j := fun j hj => by cases bh with | none => simp at hj | some i => simp at hj; subst hj; exact nh _ rfl
  have q1 : g1.get ph = some (.cells true [vh]) := (s1.get _ (by omega) (fun h => by have := p8 _ h; omega)).trans hvh
  have q2 : g2.get ph = some (.cells true [vh]) := (s2.get _ (by omega) (fun h => by have := p9 _ h; omega)).trans q1
  have sh1 := bseq sh s1 (fun j hj _ e => by cases b8 with | none => simp at hj | some i => simp at hj; subst hj; exact d2 _ rfl e)
  have sh2 := bseq sh1 s2 (fun j hj _ e => by cases b9 with | none => simp at hj | some i => simp at hj; subst hj; exact d3 _ rfl e)
  have lv : ldS g2 (.ptr (some (ph, 0))) = some vh := by rw [ldS_at q2]; rfl
  have m8' := bseq m8 s2 (fun j hj hlt e => by cases b9 with | none => simp at hj | some i => simp at hj; subst hj; have := (l9.blk _ rfl).1; cases e; omega)
  refine Ok.eq ?_ (by simp -implicitDefEqProofs only [nilV_ptr, faP_ptr, Nat.zero_add, Option.bind_some, lv] <;> rfl)
  refine app1 sh2 (t := .int .i64 x) rfl rfl rfl (by decide) (by omega) fun v3 g3 mh s3 n3 => ?_
  have q3 : g3.get ph = some (.cells true [vh]) := (s3.get _ (by omega) (fun h => by have := pH _ h; omega)).trans q2
  have sc3 : scalar v3 = true := mh.scv
  have st : stP 1 g3 (.ptr (some (ph, 0))) v3 = some (.bot, g3.put ph (some (.cells true [v3]))) := stP_one q3 (by simp) sc3
  have s4 : Same [ph] g3 (g3.put ph (some (.cells true [v3]))) := Same.put _ _ _
  have hsc := suc64 n (by omega)
  refine (Ok.of (r := (.normal, [v4, v1, v2, .int .i64 ((n + 1 : Nat) : Int)], g3.put ph (some (.cells true [v3])))) ?_).eq (by
    simp -implicitDefEqProofs only [nilV_ptr, faP_ptr, Nat.zero_add, Option.bind_some, st, cl_some, bin_add, hsc])
  have fcx : ∀ (f : Nat → AV) (y : AV), (∀ k, k < n → f k = (fun k => AV.int .i64 (upd ad n x k)) k) → y = .int .i64 x → fc n f ++ [y] = fc (n + 1) fun k => .int .i64 (upd ad n x k) := fun f y hf hy => by
    rw [fc_succ, fc_congr hf, hy, upd_eq]
  have fx := fcx (fun k => .int .i64 (ad k)) (.int .i64 x) (fun k hk => by show AV.int .i64 (ad k) = .int .i64 (upd ad n x k); rw [upd_ne _ _ (by omega)]) rfl
  have c1 : (AV.int .i64 x).cells = [.int .i64 x] := rfl
  have c2 : (AV.sl none 0 (.ex 0)).cells = [.sl none 0 (.ex 0)] := rfl
  rw [c1, fx] at m8 m8' mh
  rw [c2, ← fc_succ n fun _ => AV.sl none 0 (.ex 0)] at m9
  have b8g : g.next + 1 < g1.next := (m8.blk _ rfl).1
  have b9g : g1.next + 1 < g2.next := (m9.blk _ rfl).1
  have bhg : g2.next + 1 < g3.next := (mh.blk _ rfl).1
  have w8 : ∀ {j}, j ∈ bh.toList → j < g.next := fun {j} hj => by cases bh with | none => simp at hj | some i => simp at hj; subst hj; exact (sh.blk _ rfl).1
  have w9 : ∀ {j}, j ∈ b9.toList → j < g.next := fun {j} hj => by cases b9 with | none => simp at hj | some i => simp at hj; subst hj; exact (l9.blk _ rfl).1
  have a1 : ∀ i, i < 11 → A i ∉ b8.toList := fun i hi h => by have := p8 _ h; have := hA i hi; omega
  have a2 : ∀ i, i < 11 → A i ∉ b9.toList := fun i hi h => by have := p9 _ h; have := hA i hi; omega
  have a3 : ∀ i, i < 11 → A i ∉ bh.toList := fun i hi h => by have := pH _ h; have := hA i hi; omega
  have z : ∀ {S : List Nat}, (∀ j ∈ S, g0.next ≤ j) → 0 ∉ S := fun {S} h hm => by have := h 0 hm; have := H.t0.pos; have := hA 0 (by decide); omega
  have H3 := ((H.mono s1 a1 (z p8)).mono s2 a2 (z p9)).mono s3 a3 (z pH)
  have H4 := H3.mono s4 (fun i hi h => by simp at h; exact hpA i hi h) (by simp; omega)
  refine ⟨rfl, v1, v2, some (g.next + 1), some (g1.next + 1), some (g2.next + 1), rfl, ⟨⟨l', H4, hc, hu, hl⟩, ?_, ?_, ⟨v3, get_put_eq, mh.same s4 (fun i hi => by cases hi; simp; omega)⟩, (fun i hi => by cases hi; omega), (fun i hi => by cases hi; omega), (fun i hi => by cases hi; omega), (fun i hi e => by have := Option.some.inj hi; have := Option.some.inj e; omega), (fun i hi e => by have := Option.some.inj hi; have := Option.some.inj e; omega), (fun i hi e => by have := Option.some.inj hi; have := Option.some.inj e; omega), ?_⟩⟩
  · exact (m8'.same s3 (fun i hi h => by cases hi; have := w8 h; omega)).same s4 (fun i hi => by cases hi; simp; omega)
  · exact (m9.same s3 (fun i hi h => by cases hi; have := w8 h; omega)).same s4 (fun i hi => by cases hi; simp; omega)
  · refine (((same.old s1 (fun j hj => .inr (p8 j hj))).old s2 (fun j hj => .inr (p9 j hj))).old s3 (fun j hj => .inr (pH j hj))).trans (s4.sub (by simp))
theorem lp0_ok {g0 : Heap} {A : Nat → Nat} {ph N : Nat} {l : PAl} {x0 : AV} {rm : Nat → Int} (hN : N ≤ 8) (hx : RdC g0 1 x0 (fc N fun k => .int .i64 (rm k)) N)
    (H : HpAt g0 A l sh15 0) (hu : l.ar.used = 0) (hl : l.ar.sp.length = 40) (hph : ph < g0.next) (hpA : ∀ i, i < 11 → A i ≠ ph) (hp0 : ph ≠ 0) (hg : g0.get ph = some (.cells true [.sl none 0 (.ex 0)])) (hxb : ∀ b, g0.get b = some (.cells false (fc N fun k => .int .i64 (rm k))) → b ∉ [A 5, A 7, A 8, ph]) (v4 : AV) (ty : TypeId) :
    Ok (k_law15_ChansPlays_L0 x0 (.ptr (some (A 0, 0))) (.ptr (some (ph, 0))) v4 (.sl none 0 (.ex 0)) (.sl none 0 (.ex 0)) (.int .i64 0) g0) fun r => r.1 = .exit 0 ∧ ∃ ad q8 q9 b8 b9 bh, r.2.1 = [v4, q8, q9, .int .i64 N] ∧ Lp0 g0 r.2.2 A ph N rm ad q8 q9 b8 b9 bh := by
  have hA := H.lt
  refine ok_loop (fun m vs g => ∃ (i : Nat) (ad : Nat → Int) (q8 q9 : AV) (b8 b9 bh : Option Nat), vs = [v4, q8, q9, .int .i64 i] ∧ m + i = N ∧ Lp0 g0 g A ph i rm ad q8 q9 b8 b9 bh) ?_ (n := N) (by omega)
    ⟨0, fun _ => 0, _, _, none, none, none, rfl, rfl, ⟨l, H, ⟨fun k hk => by omega, fun i j hi => by omega⟩, by omega, hl⟩, SlB.mt, SlB.mt, ⟨_, hg, SlB.mt⟩, (fun i h => by cases h), (fun i h => by cases h), (fun i h => by cases h), (fun i h => by cases h), (fun i h => by cases h), (fun i h => by cases h), Same.refl _ _⟩
  rintro m vs g ⟨i, ad, q8, q9, b8, b9, bh, rfl, hm, P⟩
  rw [gd0, gd1, gd2, gd3]
  by_cases hi : i < N
  · have hlt : (i : Int) < N := by omega
    obtain ⟨l1, H1, C1, u1, n1⟩ := P.hp
    obtain ⟨b, hb, hgb, hix⟩ := hx.ix hi
    have hS := hxb b hgb
    have gb : ∀ {g' : Heap} {S : List Nat}, Same S g g' → b ∉ S → g'.get b = some (.cells false (fc N fun k => .int .i64 (rm k))) := fun {g' S} s h => (s.get _ (Nat.lt_of_lt_of_le hb P.same.next) h).trans ((P.same.get _ hb hS).trans hgb)
    have ldb : ∀ {g' : Heap}, g'.get b = some (.cells false (fc N fun k => .int .i64 (rm k))) → ldS g' (.ptr (some (b, i))) = some (.int .i64 (rm i)) := fun {g'} h => by rw [ldS_at h, fc_at _ hi]
    have ix : iaS 1 x0 (.int .i64 (i : Int)) = some (.ptr (some (b, i))) := by rw [hix, Nat.mul_one]
    have l0 := ldb (gb (Same.refl [] g) (by simp))
    have nx := P.same.next
    by_cases hr : 0 ≤ rm i ∧ rm i ≤ 59
    · have r1 : ¬ rm i < 0 := by omega
      have r2 : ¬ 59 < rm i := by omega
      refine Ok.eq ?_ (by simp -implicitDefEqProofs only [k_law15_ChansPlays_b0, hx.lnL, bin_lss, hlt, decide_true, Option.bind_some, condE_true, ix, l0] <;> rfl)
      refine ok_cl (cmake_ok H1 (sx := 0) (s := ⟨3, 0, 0⟩) rfl rfl (room := rm i) hr.1 hr.2 (by omega) _) ?_
      rintro _ g1 ⟨x, l2, rest, rfl, H2, s2, C2, ws, M⟩
      simp only at H2 s2
      have hb2 : b ∉ [A 5, A 7, A 8] := fun h => hS (by simp at h ⊢; omega)
      have l2' := ldb (gb s2 hb2)
      refine Ok.eq ?_ (by simp -implicitDefEqProofs only [extractV_tup, e0, e1, e2, Option.bind_some, ix, l2', bin_lss, r1, decide_false, gdW_ff, gQ_true, cl_some, bin_gtr, r2, pickP_bool, Bool.false_eq_true, if_false, condE_false, neq_int, decide_true, Bool.not_true, gV_true] <;> rfl)
      refine ok_cl (P := fun r => r.1 = .int .i64 (rm i) ∧ Same [] g1 r.2) (ok_cl (room_ok H2 C2) fun _ _ hv => ok_val rfl hv) ?_
      rintro _ g2 ⟨rfl, s3⟩
      simp only at s3
      have H3 := H2.keep s3
      have l3' := ldb (gb (s2.trans (s3.sub (by simp))) hb2)
      have Cs := chs_step H1.wf C1 M C2
      have s13 := s2.trans (s3.sub (T := [A 5, A 7, A 8]) (by simp))
      have ns : ∀ {bb : Option Nat}, (∀ j, bb = some j → g0.next ≤ j) → ∀ j, bb = some j → j ∉ [A 5, A 7, A 8] := fun h j hj hm => by
        have := h j hj
        have h5 := hA 5 (by decide)
        have h7 := hA 7 (by decide)
        have h8 := hA 8 (by decide)
        simp at hm; omega
      obtain ⟨vh, hvh, sh⟩ := P.lh
      have phS : ph ∉ [A 5, A 7, A 8] := fun h => by
        have h5 := hpA 5 (by decide)
        have h7 := hpA 7 (by decide)
        have h8 := hpA 8 (by decide)
        simp at h; omega
      have J := lp0_j0 (n := i) (v4 := v4) (rm := rm) (ad := ad) (by omega) hA hph hpA hp0 (Nat.le_trans nx s13.next) H3 Cs (Nat.le_trans M.used (by omega)) (M.len.trans n1) (P.l8.same s13 (ns P.n8)) (P.l9.same s13 (ns P.n9)) ⟨vh, (s13.get _ (Nat.lt_of_lt_of_le hph nx) phS).trans hvh, sh.same s13 (ns P.nh)⟩ P.n8 P.n9 P.nh P.d1 P.d2 P.d3 (P.same.trans (s13.sub (by simp)))
      refine Ok.eq (J.mono fun r hr => ?_) (by
        simp -implicitDefEqProofs only [Option.bind_some, gV_true, ix, rdC, l3', clC_some, neq_int, decide_true, Bool.not_true, pickP_bool, Bool.false_eq_true, if_false, chk_two (f := fun g => ldS g (.ptr (some (b, i)))) (same_int _ _) l2' l3', condE_false])
      obtain ⟨h1, q8', q9', b8', b9', bh', h2, h3⟩ := hr
      exact .inl ⟨h1, m - 1, by omega, i + 1, _, q8', q9', b8', b9', bh', h2, by omega, h3⟩
    · have J := lp0_j0 (n := i) (x := 0) (v4 := v4) (rm := rm) (ad := ad) (by omega) hA hph hpA hp0 nx H1 (chs_none C1 hr) (by omega) n1 P.l8 P.l9 P.lh P.n8 P.n9 P.nh P.d1 P.d2 P.d3 P.same
      have hbad := fun y z w h => cmake_bad (rm i) (by omega) y z w h
      refine Ok.eq (J.mono fun r hr => ?_) ?_
      · obtain ⟨h1, q8', q9', b8', b9', bh', h2, h3⟩ := hr
        exact .inl ⟨h1, m - 1, by omega, i + 1, _, q8', q9', b8', b9', bh', h2, by omega, h3⟩
      · by_cases r1 : rm i < 0
        · simp -implicitDefEqProofs only [k_law15_ChansPlays_b0, hx.lnL, bin_lss, hlt, decide_true, Option.bind_some, condE_true, ix, l0, hbad, cl_some, extractV_tup, e0, e1, e2, r1, gdW_tf, gQ_false, pickP_bool, if_true, neq_int, Bool.not_true, gdW_ff, gQ_true, Bool.false_eq_true, if_false, condE_false]
        · have r2 : 59 < rm i := by omega
          simp -implicitDefEqProofs only [k_law15_ChansPlays_b0, hx.lnL, bin_lss, hlt, decide_true, decide_false, Option.bind_some, condE_true, ix, l0, hbad, cl_some, extractV_tup, e0, e1, e2, r1, r2, bin_gtr, gdW_ff, gQ_true, pickP_bool, if_true, neq_int, Bool.not_true, Bool.false_eq_true, if_false, condE_false]
  · have hlt : ¬ (i : Int) < N := by omega
    obtain rfl : i = N := by omega
    exact (Ok.of (r := (.exit 0, [v4, q8, q9, .int .i64 (i : Int)], g)) (.inr ⟨by simp, rfl, ad, q8, q9, b8, b9, bh, rfl, P⟩)).eq (by simp -implicitDefEqProofs only [k_law15_ChansPlays_b0, hx.lnL, bin_lss, hlt, decide_false, Option.bind_some, condE_false])
end Go.Ab.F

namespace Go.Ab.F
open Go Go.Ab
set_option linter.all false
set_option linter.all false
attribute [local congr] c_bind c_cl c_mk c_lp c_clC c_gQ c_gV c_condE c_thenK

/-! ChansPlays: the acts. -/
structure Fx (A : Nat → Nat) (N base ba bv bc : Nat) (rm ad : Nat → Int) : Prop where
  hA : ∀ i, i < 11 → A i < base
  la : ba < base
  lv : bv < base
  lc : bc < base
  za : ba ≠ 0
  zv : bv ≠ 0
  zc : bc ≠ 0
  na : ∀ i, i < 11 → A i ≠ ba
  nv : ∀ i, i < 11 → A i ≠ bv
  nc : ∀ i, i < 11 → A i ≠ bc
  av : ba ≠ bv
  ac : ba ≠ bc
  vc : bv ≠ bc
  inj : ∀ i j, i < N → j < N → ad i = ad j → ad i ≠ 0 → i = j
  N0 : 0 < N
  N8 : N ≤ 8
structure PlSt (g : Heap) (l : PAl) (A : Nat → Nat) (N base ba bv bc : Nat) (rm ad : Nat → Int) (val : Nat → AV) (bq : Nat → Option Nat) (Lc Lv : Nat → List Int) (cc cv : Nat → Bool) : Prop where
  hp : HpAt g A l sh15 0
  ch : ∀ k, k < N → (ad k = 0 ∧ Lc k = []) ∨ ∃ c rest, ChAt l.ar sh15 (ad k) c false 0 rest ∧ c.room = rm k ∧ c.closed = (if cc k then 1 else 0) ∧ InQ c (Lc k)
  ga : g.get ba = some (.cells true (fc N fun k => .int .i64 (ad k)))
  gv : g.get bv = some (.cells true (fc N val))
  gc : g.get bc = some (.cells true (fc N fun k => .bool (cv k)))
  qv : ∀ k, k < N → QuV g base (bq k) (val k) (Lv k)
  qi : ∀ i j, i < N → j < N → ∀ x, bq i = some x → bq j = some x → i = j
  nx : base ≤ g.next
section
variable {g : Heap} {l : PAl} {A : Nat → Nat} {N base ba bv bc : Nat} {rm ad : Nat → Int} {val : Nat → AV} {bq : Nat → Option Nat} {Lc Lv : Nat → List Int} {cc cv : Nat → Bool}
theorem PlSt.keep {g' : Heap} (P : PlSt g l A N base ba bv bc rm ad val bq Lc Lv cc cv) (X : Fx A N base ba bv bc rm ad) (s : Same [] g g') : PlSt g' l A N base ba bv bc rm ad val bq Lc Lv cc cv := by
  have := P.nx
  have := X.la
  have := X.lv
  have := X.lc
  exact ⟨P.hp.keep s, P.ch, (s.get _ (by omega) (by simp)).trans P.ga, (s.get _ (by omega) (by simp)).trans P.gv, (s.get _ (by omega) (by simp)).trans P.gc, fun k hk => (P.qv k hk).keep s (fun _ _ => by simp), P.qi, Nat.le_trans P.nx s.next⟩
theorem PlSt.chan {g' : Heap} {l' : PAl} {k : Nat} {c c' : Chan} {rest : List Int} {L' : List Int} {b : Bool} (P : PlSt g l A N base ba bv bc rm ad val bq Lc Lv cc cv) (X : Fx A N base ba bv bc rm ad) (hk : k < N)
    (H' : HpAt g' A l' sh15 0) (s : Same [A 7] g g') (C : ChAt l.ar sh15 (ad k) c false 0 rest) (W : Wrote l l' (ad k) (cws c' (c.room + 5 + 128 * 3 + 1024 * ((0 : Nat) : Int)) rest)) (O : ChOk c') (hr : c'.room = c.room) (hrm : c.room = rm k) (hb : c'.closed = if b then 1 else 0) (Q : InQ c' L') :
    PlSt g' l' A N base ba bv bc rm ad val bq (upd Lc k L') Lv (upd cc k b) cv := by
  have h0 := P.nx
  have h1 := X.la
  have h2 := X.lv
  have h3 := X.lc
  have h7 := X.hA 7 (by decide)
  have n1 := X.na 7 (by decide)
  have n2 := X.nv 7 (by decide)
  have n3 := X.nc 7 (by decide)
  have hp := chAt_pos P.hp.wf C
  refine ⟨H', fun j hj => ?_, (s.get _ (by omega) (by simp; omega)).trans P.ga, (s.get _ (by omega) (by simp; omega)).trans P.gv, (s.get _ (by omega) (by simp; omega)).trans P.gc, fun j hj => (P.qv j hj).keep s (fun i hi => by have := ((P.qv j hj).blk i hi).1; simp; omega), P.qi, Nat.le_trans P.nx s.next⟩
  by_cases e : j = k
  · subst e
    rw [upd_eq, upd_eq]
    exact .inr ⟨c', rest, C.wrote hr O W, hr.trans hrm, hb, Q⟩
  · rw [upd_ne _ _ e, upd_ne _ _ e]
    rcases P.ch j hj with h | ⟨d, rest', D, d1, d2, d3⟩
    · exact .inl h
    · refine .inr ⟨d, rest', ⟨W.old _ _ (fun e' => ?_) D.lies, D.ok, D.sh, D.sx⟩, d1, d2, d3⟩
      exact e (X.inj j k hj hk e' (by have := chAt_pos P.hp.wf D; omega))
/-- A value's cell gets another list. -/
theorem PlSt.put {g' : Heap} {k : Nat} {v' : AV} {b' : Option Nat} {L' : List Int} {S : List Nat} (P : PlSt g l A N base ba bv bc rm ad val bq Lc Lv cc cv) (X : Fx A N base ba bv bc rm ad) (hk : k < N)
    (s : Same S g g') (hS : ∀ j ∈ S, bq k = some j) (Q : QuV g' base b' v' L') (hn : ∀ i, b' = some i → bq k = some i ∨ g.next ≤ i) :
    ∃ g2, stP 1 g' (.ptr (some (bv, k))) v' = some (.bot, g2) ∧ Same [bv] g' g2 ∧ PlSt g2 l A N base ba bv bc rm ad (upd val k v') (upd bq k b') Lc (upd Lv k L') cc cv := by
  have h0 := P.nx
  have h1 := X.la
  have h2 := X.lv
  have h3 := X.lc
  have hSb : ∀ j ∈ S, base ≤ j := fun j hj => ((P.qv k hk).blk j (hS j hj)).1
  have lo : ∀ {j}, j < base → j ∉ S := fun hj hm => by have := hSb _ hm; omega
  have gv' : g'.get bv = some (.cells true (fc N val)) := (s.get _ (by omega) (lo h2)).trans P.gv
  have st : stP 1 g' (.ptr (some (bv, k))) v' = some (.bot, g'.put bv (some (.cells true (fc N (upd val k v'))))) := by
    rw [stP_one gv' (by rw [fc_len]; exact hk) Q.sc, fc_set _ _ hk]
  have s2 : Same [bv] g' (g'.put bv (some (.cells true (fc N (upd val k v'))))) := Same.put _ _ _
  refine ⟨_, st, s2, ?_⟩
  have n1 := s.next
  exact
  { hp := (P.hp.mono s (fun i hi => lo (X.hA i hi)) (lo (by omega))).mono s2 (fun i hi => by simp; exact X.nv i hi) (by have := X.zv; simp; omega)
    ch := P.ch
    ga := (s2.get _ (by omega) (by simp; exact X.av)).trans ((s.get _ (by omega) (lo h1)).trans P.ga)
    gv := get_put_eq
    gc := (s2.get _ (by omega) (by simp; exact Ne.symm X.vc)).trans ((s.get _ (by omega) (lo h3)).trans P.gc)
    qv := fun j hj => by
      by_cases e : j = k
      · subst e
        rw [upd_eq, upd_eq, upd_eq]
        exact Q.keep s2 (fun i hi => by have := (Q.blk i hi).1; simp; omega)
      · rw [upd_ne _ _ e, upd_ne _ _ e, upd_ne _ _ e]
        exact ((P.qv j hj).keep s (fun i hi hm => e (P.qi j k hj hk i hi (hS i hm)))).keep s2 (fun i hi => by have := ((P.qv j hj).blk i hi).1; simp; omega)
    qi := fun i j hi hj x hx hy => by
      by_cases ei : i = k
      · by_cases ej : j = k
        · omega
        · subst ei
          rw [upd_eq] at hx
          rw [upd_ne _ _ ej] at hy
          rcases hn x hx with h | h
          · exact absurd (P.qi i j hi hj x h hy) (fun e => ej e.symm)
          · have := ((P.qv j hj).blk x hy).2.1; omega
      · rw [upd_ne _ _ ei] at hx
        by_cases ej : j = k
        · subst ej
          rw [upd_eq] at hy
          rcases hn x hy with h | h
          · exact absurd (P.qi i j hi hj x hx h) ei
          · have := ((P.qv i hi).blk x hx).2.1; omega
        · rw [upd_ne _ _ ej] at hy
          exact P.qi i j hi hj x hx hy
    nx := Nat.le_trans P.nx (Nat.le_trans n1 s2.next) }
theorem PlSt.shut {k : Nat} (P : PlSt g l A N base ba bv bc rm ad val bq Lc Lv cc cv) (X : Fx A N base ba bv bc rm ad) (hk : k < N) :
    ∃ g2, stP 1 g (.ptr (some (bc, k))) (.bool true) = some (.bot, g2) ∧ PlSt g2 l A N base ba bv bc rm ad val bq Lc Lv cc (upd cv k true) ∧ Same [bc] g g2 := by
  have h0 := P.nx
  have h1 := X.la
  have h2 := X.lv
  have h3 := X.lc
  have st : stP 1 g (.ptr (some (bc, k))) (.bool true) = some (.bot, g.put bc (some (.cells true (fc N fun j => .bool (upd cv k true j))))) := by
    rw [stP_one P.gc (by rw [fc_len]; exact hk) rfl, fc_set _ _ hk]
    have : upd (fun k => AV.bool (cv k)) k (.bool true) = fun j => .bool (upd cv k true j) := by
      funext j; unfold upd; split <;> rfl
    rw [this]
  have s2 : Same [bc] g (g.put bc (some (.cells true (fc N fun j => .bool (upd cv k true j))))) := Same.put _ _ _
  exact ⟨_, st,
  { hp := P.hp.mono s2 (fun i hi => by simp; exact X.nc i hi) (by have := X.zc; simp; omega)
    ch := P.ch
    ga := (s2.get _ (by omega) (by simp; exact X.ac)).trans P.ga
    gv := (s2.get _ (by omega) (by simp; exact X.vc)).trans P.gv
    gc := get_put_eq
    qv := fun j hj => (P.qv j hj).keep s2 (fun i hi => by have := ((P.qv j hj).blk i hi).1; simp; omega)
    qi := P.qi
    nx := Nat.le_trans P.nx s2.next }, s2⟩
theorem PlSt.len {k : Nat} (P : PlSt g l A N base ba bv bc rm ad val bq Lc Lv cc cv) (hk : k < N) : (Lc k).length ≤ 59 := by
  rcases P.ch k hk with h | ⟨c, rest, C, h1, h2, h3⟩
  · rw [h.2]; simp
  · have := h3.len
    have := C.ok.c1
    have := C.ok.r1
    omega
/-- Where no channel is, its flag may be anything. -/
theorem PlSt.flag {k : Nat} {b : Bool} (P : PlSt g l A N base ba bv bc rm ad val bq Lc Lv cc cv) (h : ad k = 0) : PlSt g l A N base ba bv bc rm ad val bq Lc Lv (upd cc k b) cv :=
  { P with
    ch := fun j hj => by
      by_cases e : j = k
      · subst e
        rcases P.ch j hj with h' | ⟨c, rest, C, _⟩
        · exact .inl h'
        · have := chAt_pos P.hp.wf C; omega
      · rw [upd_ne _ _ e]; exact P.ch j hj }
/-- What is compared behind each act. -/
theorem pl_j1 {L : Nat → List Int} {c0 : Nat → Bool} (P : PlSt g l A N base ba bv bc rm ad val bq L L c0 c0) (X : Fx A N base ba bv bc rm ad) {k i : Nat} (hk : k < N) (hi : i < 1000) {q8 v4 w4 v5 : AV} {c1 : Cap} :
    Ok (k_law15_ChansPlays_j1 (.ptr (some (A 0, 0))) (.sl (some (bc, 0)) N (.ex N)) [v4, q8, .sl (some (bv, 0)) N c1, v5] (.int .i64 i) (.int .i64 k) (.int .i64 (ad k)) w4 g) fun r => r.1 = .normal ∧ r.2.1 = [w4, .int .i64 ((i + 1 : Nat) : Int)] ∧
      PlSt r.2.2 l A N base ba bv bc rm ad val bq L L c0 c0 ∧ Same [] g r.2.2 := by
  have hsc := suc64 i (by omega)
  have ixv : iaS 1 (.sl (some (bv, 0)) N c1) (.int .i64 (k : Int)) = some (.ptr (some (bv, k))) := by
    rw [iaS_sl 1 (bv, 0) _ _ .i64 _ ⟨by omega, by omega⟩]; simp
  have ixc : iaS 1 (.sl (some (bc, 0)) N (.ex N)) (.int .i64 (k : Int)) = some (.ptr (some (bc, k))) := by
    rw [iaS_sl 1 (bc, 0) _ _ .i64 _ ⟨by omega, by omega⟩]; simp
  have hlv := (P.qv k hk).lnL
  have hsv := (P.qv k hk).samev
  have ldv : ∀ {g' : Heap}, Same [] g g' → ldS g' (.ptr (some (bv, k))) = some (val k) := fun {g'} s => by
    rw [ldS_at ((P.keep X s).gv), fc_at _ hk]
  have ldc : ∀ {g' : Heap}, Same [] g g' → ldS g' (.ptr (some (bc, k))) = some (.bool (c0 k)) := fun {g'} s => by
    rw [ldS_at ((P.keep X s).gc), fc_at _ hk]
  refine Ok.eq ?_ (by simp -implicitDefEqProofs only [k_law15_ChansPlays_j1, gd2] <;> rfl)
  rcases P.ch k hk with ⟨h1, h2⟩ | ⟨c, rest, C, h1, h2, h3⟩
  · have hno : ofP l.ar sh15 (ad k) = none := by rw [h1]; exact ofP_none (find_zero P.hp.wf)
    rw [h2] at hlv
    refine ok_cl (count_no P.hp hno) ?_
    rintro _ g1 ⟨rfl, s1⟩
    simp only at s1
    have P1 := P.keep X s1
    have l0 : (([] : List Int).length : Int) = 0 := rfl
    rw [show (([] : List Int).length) = 0 from rfl] at hlv
    have hz : decide ((0 : Int) = ((0 : Nat) : Int)) = true := rfl
    refine Ok.eq ?_ (by simp -implicitDefEqProofs only [ixv, Option.bind_some, rdC, ldv s1, clC_some, hlv, neq_int, hz, Bool.not_true, gdW_ff, gV_true, gQ_true] <;> rfl)
    refine ok_cl (P := fun r => r.1 = .bool true ∧ Same [] g1 r.2) (ok_cl (closed_no P1.hp hno) fun _ _ hv => ok_val rfl hv) ?_
    rintro _ g2 ⟨rfl, s2⟩
    simp only at s2
    have s12 := s1.trans s2
    exact (Ok.of (r := (.normal, [w4, .int .i64 ((i + 1 : Nat) : Int)], g2)) ⟨rfl, rfl, P.keep X s12, s12⟩).eq (by
      simp -implicitDefEqProofs only [gdW_ff, gV_true, Option.bind_some, h1, eql_int, decide_true, gdW_tf, gV_false, pickP_bool, if_true, neq_bool, beq_self_eq_true, Bool.not_true, Bool.false_eq_true, if_false, chk_two (f := fun g => ldS g (.ptr (some (bv, k)))) hsv (ldv (Same.refl [] g)) (ldv s1), condE_false, bin_add, hsc])
  · have ql := h3.len
    have hp := chAt_pos P.hp.wf C
    refine ok_cl (count_ok P.hp C) ?_
    rintro _ g1 ⟨rfl, s1⟩
    simp only at s1
    have P1 := P.keep X s1
    have hz : decide (c.count = ((L k).length : Int)) = true := by simp; omega
    refine Ok.eq ?_ (by simp -implicitDefEqProofs only [ixv, Option.bind_some, rdC, ldv s1, clC_some, hlv, neq_int, hz, Bool.not_true, gdW_ff, gV_true, gQ_true] <;> rfl)
    refine ok_cl (P := fun r => r.1 = .bool (!decide (c.closed = 0)) ∧ Same [] g1 r.2) (ok_cl (closed_ok P1.hp C) fun _ _ hv => ok_val rfl hv) ?_
    rintro _ g2 ⟨rfl, s2⟩
    simp only at s2
    have s12 := s1.trans s2
    have ha : ¬ ad k = 0 := by omega
    have hcl : (!decide (c.closed = 0)) = c0 k := by
      rw [h2]; cases c0 k <;> rfl
    rw [hcl]
    exact (Ok.of (r := (.normal, [w4, .int .i64 ((i + 1 : Nat) : Int)], g2)) ⟨rfl, rfl, P.keep X s12, s12⟩).eq (by
      simp -implicitDefEqProofs only [gdW_ff, gV_true, Option.bind_some, ha, eql_int, decide_false, ixc, ldc s12, pickP_bool, Bool.false_eq_true, if_false, neq_bool, beq_self_eq_true, Bool.not_true, chk_two (f := fun g => ldS g (.ptr (some (bv, k)))) hsv (ldv (Same.refl [] g)) (ldv s1), condE_false, bin_add, hsc])
end
end Go.Ab.F

namespace Go.Ab.F
open Go Go.Ab
set_option linter.all false
set_option linter.all false
attribute [local congr] c_bind c_cl c_mk c_lp c_clC c_gQ c_gV c_condE c_thenK

/-! ChansPlays: the loop, the law. -/
theorem upd_upd {α : Type} (f : Nat → α) (k : Nat) (x : α) : upd f k (f k) = f := by
  funext j; unfold upd; split
  · rename_i h; rw [h]
  · rfl
def rowP (r : List AV) : Prop := ∃ a b c : Int, r = [.int .i64 a, .int .i64 b, .int .i64 c]
theorem plays_loop {g0 : Heap} {l0 : PAl} {A : Nat → Nat} {N base ba bv bc : Nat} {rm ad : Nat → Int} {val : Nat → AV} {bq : Nat → Option Nat} {L0 : Nat → List Int} {c0 : Nat → Bool} {x0 x1 : AV} {rows : List (List AV)} {c8 c9 : Cap}
    (X : Fx A N base ba bv bc rm ad) (P : PlSt g0 l0 A N base ba bv bc rm ad val bq L0 L0 c0 c0) (hx : RdC g0 1 x0 (fc N fun k => .int .i64 (rm k)) N) (hrow : ∀ r ∈ rows, rowP r) (hlen : rows.length ≤ 150)
    (hx0 : ∃ b, b < base ∧ b ≠ A 7 ∧ b ≠ bv ∧ b ≠ bc ∧ g0.get b = some (.cells false (fc N fun k => .int .i64 (rm k))) ∧ ∀ i : Nat, i < N → iaS 1 x0 (.int .i64 (i : Int)) = some (.ptr (some (b, i))))
    (hx1 : ∀ (i : Nat) r, rows[i]? = some r → ∃ b o, b < base ∧ b ≠ A 7 ∧ b ≠ bv ∧ b ≠ bc ∧ iaS 3 x1 (.int .i64 (i : Int)) = some (.ptr (some (b, o))) ∧ ∀ g, g.get b = g0.get b → ldA 3 g (.ptr (some (b, o))) = some (.agg r))
    (hl1 : lnL x1 = some (.int .i64 rows.length)) {v4 w4 v5 : AV} :
    Ok (k_law15_ChansPlays_L1 x0 x1 (.ptr (some (A 0, 0))) (.sl (some (bc, 0)) N (.ex N)) [v4, .sl (some (ba, 0)) N c8, .sl (some (bv, 0)) N c9, v5] w4 (.int .i64 0) g0) fun r => r.1 = .exit 2 := by
  have hN0 := X.N0
  have hN8 := X.N8
  refine ok_loop (fun m vs g => ∃ (i : Nat) (l : PAl) (val : Nat → AV) (bq : Nat → Option Nat) (L : Nat → List Int) (c : Nat → Bool), vs = [w4, .int .i64 i] ∧ m + i = rows.length ∧ PlSt g l A N base ba bv bc rm ad val bq L L c c ∧ (∀ b, b < base → b ≠ A 7 → b ≠ bv → b ≠ bc → g.get b = g0.get b)) ?_ (n := rows.length) (by omega)
    ⟨0, l0, val, bq, L0, c0, rfl, rfl, P, fun _ _ _ _ _ => rfl⟩
  clear P val bq L0 c0 l0
  rintro m vs g ⟨i, l, val, bq, L, c0, rfl, hm, P, old⟩
  rw [gd0, gd1]
  by_cases hi : i < rows.length
  · have hlt : (i : Int) < rows.length := by omega
    obtain ⟨r, hr⟩ : ∃ r, rows[i]? = some r := ⟨_, List.getElem?_eq_getElem hi⟩
    obtain ⟨op, kk, v, rfl⟩ := hrow r (List.mem_of_getElem? hr)
    obtain ⟨b1, o1, q1, q2, q3, q4, q5, q6⟩ := hx1 i _ hr
    obtain ⟨b0, p1, p2, p3, p4, p5, p6⟩ := hx0
    have la := q6 g (old b1 q1 q2 q3 q4)
    refine Ok.eq ?_ (by simp -implicitDefEqProofs only [k_law15_ChansPlays_b1, hl1, bin_lss, hlt, decide_true, Option.bind_some, condE_true, q5, la] <;> rfl)
    refine ok_tmp (cs := [.int .i64 op, .int .i64 kk, .int .i64 v]) (n := 3) rfl rfl rfl fun g1 s1 n1 t1 => ?_
    have P1 := P.keep X s1
    have hmask := and_mask kk 16 (by decide)
    rw [show ((2 ^ 16 - 1 : Nat) : Int) = 65535 from rfl, show ((2 ^ 16 : Nat) : Int) = 65536 from rfl] at hmask
    have hk0 := Int.emod_nonneg kk (show (65536 : Int) ≠ 0 by decide)
    obtain ⟨k, hk, hkN⟩ : ∃ k : Nat, (kk % 65536) % (N : Int) = (k : Int) ∧ k < N := by
      have h1 := Int.emod_nonneg (kk % 65536) (show (N : Int) ≠ 0 by omega)
      have h2 := Int.emod_lt_of_pos (kk % 65536) (show (0 : Int) < N by omega)
      exact ⟨((kk % 65536) % (N : Int)).toNat, by omega, by omega⟩
    have hrem : (kk % 65536).tmod (N : Int) = (k : Int) := by rw [Int.tmod_eq_emod_of_nonneg hk0, hk]
    have hNz : ¬ (N : Int) = 0 := by omega
    have ixa : iaS 1 (.sl (some (ba, 0)) N c8) (.int .i64 (k : Int)) = some (.ptr (some (ba, k))) := by
      rw [iaS_sl 1 (ba, 0) _ _ .i64 _ ⟨by omega, by omega⟩]; simp
    have ixv : iaS 1 (.sl (some (bv, 0)) N c9) (.int .i64 (k : Int)) = some (.ptr (some (bv, k))) := by
      rw [iaS_sl 1 (bv, 0) _ _ .i64 _ ⟨by omega, by omega⟩]; simp
    have ixc : iaS 1 (.sl (some (bc, 0)) N (.ex N)) (.int .i64 (k : Int)) = some (.ptr (some (bc, k))) := by
      rw [iaS_sl 1 (bc, 0) _ _ .i64 _ ⟨by omega, by omega⟩]; simp
    have ix0 := p6 k hkN
    have lda : ldS g1 (.ptr (some (ba, k))) = some (.int .i64 (ad k)) := by rw [ldS_at P1.ga, fc_at _ hkN]
    have ldv : ldS g1 (.ptr (some (bv, k))) = some (val k) := by rw [ldS_at P1.gv, fc_at _ hkN]
    have ldc : ldS g1 (.ptr (some (bc, k))) = some (.bool (c0 k)) := by rw [ldS_at P1.gc, fc_at _ hkN]
    have bn := P.nx
    have ld0 : ldS g1 (.ptr (some (b0, k))) = some (.int .i64 (rm k)) := by
      rw [ldS_at ((s1.get _ (by omega) (by simp)).trans ((old b0 p1 p2 p3 p4).trans p5)), fc_at _ hkN]
    have lt0 : ldS g1 (.ptr (some (g.next, 0))) = some (.int .i64 op) := by rw [ldS_at t1]; rfl
    have lt1 : ldS g1 (.ptr (some (g.next, 1))) = some (.int .i64 kk) := by rw [ldS_at t1]; rfl
    have lt2 : ∀ {g' : Heap}, g'.get g.next = some (.cells true [.int .i64 op, .int .i64 kk, .int .i64 v]) → ldS g' (.ptr (some (g.next, 2))) = some (.int .i64 v) := fun {g'} h => by rw [ldS_at h]; rfl
    have hlv := (P1.qv k hkN).lnL
    have old1 : ∀ b, b < base → b ≠ A 7 → b ≠ bv → b ≠ bc → g1.get b = g0.get b := fun b h1 h2 h3 h4 => (s1.get _ (by omega) (by simp)).trans (old b h1 h2 h3 h4)
    have fin : ∀ {l' : PAl} {val' : Nat → AV} {bq' : Nat → Option Nat} {L' : Nat → List Int} {c' : Nat → Bool} {g' : Heap}, PlSt g' l' A N base ba bv bc rm ad val' bq' L' L' c' c' → (∀ b, b < base → b ≠ A 7 → b ≠ bv → b ≠ bc → g'.get b = g0.get b) →
        Ok (k_law15_ChansPlays_j1 (.ptr (some (A 0, 0))) (.sl (some (bc, 0)) N (.ex N)) [v4, .sl (some (ba, 0)) N c8, .sl (some (bv, 0)) N c9, v5] (.int .i64 i) (.int .i64 k) (.int .i64 (ad k)) w4 g') fun r =>
          (r.1 = .normal ∧ ∃ m', m' < m ∧ ∃ (i : Nat) (l : PAl) (val : Nat → AV) (bq : Nat → Option Nat) (L : Nat → List Int) (c : Nat → Bool), r.2.1 = [w4, .int .i64 i] ∧ m' + i = rows.length ∧ PlSt r.2.2 l A N base ba bv bc rm ad val bq L L c c ∧ (∀ b, b < base → b ≠ A 7 → b ≠ bv → b ≠ bc → r.2.2.get b = g0.get b)) ∨ (r.1 ≠ .normal ∧ r.1 = .exit 2) := by
      intro l' val' bq' L' c' g' P' o'
      refine (pl_j1 P' X hkN (by omega)).mono fun r hr => ?_
      obtain ⟨h1, h2, h3, h4⟩ := hr
      have := P'.nx
      exact .inl ⟨h1, m - 1, by omega, i + 1, l', val', bq', L', c', h2, by omega, h3, fun b e1 e2 e3 e4 => (h4.get _ (by omega) (by simp)).trans (o' b e1 e2 e3 e4)⟩
    have oldA : ∀ {ga gb : Heap}, Same [A 7] ga gb → base ≤ ga.next → (∀ b, b < base → b ≠ A 7 → b ≠ bv → b ≠ bc → ga.get b = g0.get b) → ∀ b, b < base → b ≠ A 7 → b ≠ bv → b ≠ bc → gb.get b = g0.get b := fun s h o b e1 e2 e3 e4 => (s.get _ (by omega) (by simp; exact e2)).trans (o b e1 e2 e3 e4)
    refine Ok.eq ?_ (by simp -implicitDefEqProofs only [faP_ptr, Nat.zero_add, Option.bind_some, lt1, hmask, gd1, lnL_sl, bin_rem, hNz, if_false, hrem, ixa, lda, lt0, eql_int] <;> rfl)
    have b7 : A 7 < base := X.hA 7 (by decide)
    by_cases h0 : op = 0
    · subst h0
      have lt2' := lt2 t1
      rcases P1.ch k hkN with ⟨h1, h2⟩ | ⟨c, rest, C, h1, h2, h3⟩
      · have hno : ofP l.ar sh15 (ad k) = none := by rw [h1]; exact ofP_none (find_zero P1.hp.wf)
        refine Ok.eq ?_ (by simp -implicitDefEqProofs only [decide_true, condE_true, neq_int, h1, Bool.not_true, Option.bind_some, gdW_ft, gV_false, pickP_bool, Bool.false_eq_true, if_false, chk_nil, faP_ptr, Nat.zero_add, lt2'] <;> rfl)
        rw [h1] at hno
        refine ok_cl (push_no P1.hp hno _ _) ?_
        rintro _ g2 ⟨rfl, s2⟩
        simp only at s2
        have F := fin (P1.keep X s2) (fun b e1 e2 e3 e4 => (s2.get _ (by omega) (by simp)).trans (old1 b e1 e2 e3 e4))
        rw [h1] at F
        exact F.eq (by simp -implicitDefEqProofs only [neq_bool, beq_self_eq_true, Bool.not_true, Option.bind_some, condE_false])
      · have ha : ¬ ad k = 0 := by have := chAt_pos P1.hp.wf C; omega
        have ql := h3.len
        have da : (!decide (ad k = 0)) = true := by simp [ha]
        by_cases hc : c0 k = true
        · have hcl : ¬ (c.closed = 0 ∧ c.count < c.room) := by rw [h2, hc]; simp
          refine Ok.eq ?_ (by simp -implicitDefEqProofs only [decide_true, condE_true, neq_int, da, Option.bind_some, gdW_tt, gV_true, ixc, ldc, hc, un_not, Bool.not_true, pickP_bool, if_true, gdW_ft, gV_false, Bool.false_eq_true, if_false, chk_nil, faP_ptr, Nat.zero_add, lt2'] <;> rfl)
          refine ok_cl (push_ok P1.hp C v (.int .i64 1)) ?_
          rintro w g2 hw
          rw [if_neg hcl] at hw
          obtain ⟨rfl, s2⟩ := hw
          simp only at s2
          exact (fin (P1.keep X s2) (fun b e1 e2 e3 e4 => (s2.get _ (by omega) (by simp)).trans (old1 b e1 e2 e3 e4))).eq (by simp -implicitDefEqProofs only [neq_bool, beq_self_eq_true, Bool.not_true, Option.bind_some, condE_false])
        · have hc' : c0 k = false := by simpa using hc
          have hz : c.closed = 0 := by rw [h2, hc']; rfl
          by_cases hb : ((L k).length : Int) < rm k
          · have hcl : c.closed = 0 ∧ c.count < c.room := ⟨hz, by omega⟩
            refine Ok.eq ?_ (by simp -implicitDefEqProofs only [decide_true, condE_true, neq_int, da, Option.bind_some, gdW_tt, gV_true, ixc, ldc, hc', un_not, Bool.not_false, pickP_bool, if_true, gd2, ixv, ldv, hlv, ix0, ld0, bin_lss, hb, chk_nil, faP_ptr, Nat.zero_add, lt2'] <;> rfl)
            refine ok_cl (push_ok P1.hp C v (.int .i64 1)) ?_
            rintro w g2 hw
            rw [if_pos hcl] at hw
            obtain ⟨rfl, l2, H2, s2, W2⟩ := hw
            simp only at H2 s2
            obtain ⟨Q2, O2⟩ := push_q C.ok h3 hcl.2 v
            have P2 := P1.chan (b := c0 k) X hkN H2 s2 C W2 O2 rfl h1 (by rw [← h2]; rfl) Q2
            rw [upd_upd c0 k true] at P2
            have nx2 := P2.nx
            have n12 := s1.next
            have t2 : g2.get g.next = some (.cells true [.int .i64 0, .int .i64 kk, .int .i64 v]) := (s2.get _ (by omega) (by simp; omega)).trans t1
            have s3 : Same [] g2 ((hpN g2 1).put g2.next (some (.cells true [.int .i64 v]))) := ⟨Nat.le_succ _, fun j hj _ => by rw [get_put_ne (by omega)]; rfl⟩
            have n3 : ((hpN g2 1).put g2.next (some (.cells true [.int .i64 v]))).next = g2.next + 1 := rfl
            have t3 : ((hpN g2 1).put g2.next (some (.cells true [.int .i64 v]))).get g2.next = some (.cells true [.int .i64 v]) := get_put_eq
            have ldv2 : ldS (hpN g2 1) (.ptr (some (bv, k))) = some (val k) := by rw [ldS_at (show (hpN g2 1).get bv = _ from P2.gv), fc_at _ hkN]
            have ltv : ldS (hpN g2 1) (.ptr (some (g.next, 2))) = some (.int .i64 v) := lt2 (show (hpN g2 1).get g.next = _ from t2)
            have bs1 : bsP 1 [(AV.int .i64 0)] 1 [(0, .int .i64 v)] = some (.cells true [.int .i64 v], fun i => .sl (some (i, 0)) 1 (.ex 1)) := bsP_one (t := .int .i64 v) rfl rfl rfl
            have ma : mkAt Heap.put (bsP 1 [(AV.int .i64 0)] 1 [(0, .int .i64 v)]) (g2.next + 0) (hpN g2 1) = some (.sl (some (g2.next, 0)) 1 (.ex 1), (hpN g2 1).put g2.next (some (.cells true [.int .i64 v]))) := by rw [bs1]; rfl
            refine Ok.eq ?_ (by simp -implicitDefEqProofs only [neq_bool, beq_self_eq_true, Bool.not_true, Option.bind_some, condE_false, condE_true, gd2, ixv, ldv2, faP_ptr, Nat.zero_add, ltv, ma, cl_some] <;> rfl)
            generalize (hpN g2 1).put g2.next (some (.cells true [.int .i64 v])) = g3 at *
            have P3 := P2.keep X s3
            have hLk := P1.len hkN
            obtain ⟨v', g4, ea, Q4, s4, n4⟩ := (P3.qv k hkN).app t3 P3.nx (by omega)
            obtain ⟨g5, e5, s5, P5⟩ := P3.put X hkN s4 (fun j hj => by cases hb : bq k with | none => rw [hb] at hj; simp at hj | some i => rw [hb] at hj; simp at hj; rw [hj]) Q4 (fun i hi => by cases hi; exact .inr (Nat.le_refl _))
            have nx4 := s4.next
            refine Ok.eq (fin P5 ?_) (by simp -implicitDefEqProofs only [ea, cl_some, gd2, ixv, Option.bind_some, e5, chk_nil])
            intro b e1 e2 e3 e4
            have hb' : b ∉ (bq k).toList := fun hm => by
              cases hbk : bq k with
              | none => rw [hbk] at hm; simp at hm
              | some y =>
                rw [hbk] at hm; simp at hm; subst hm
                have := ((P1.qv k hkN).blk _ hbk).1; omega
            rw [s5.get _ (by omega) (by simp; exact e3), s4.get _ (by omega) hb', s3.get _ (by omega) (by simp)]
            exact oldA s2 P1.nx old1 b e1 e2 e3 e4
          · have hcl : ¬ (c.closed = 0 ∧ c.count < c.room) := by omega
            refine Ok.eq ?_ (by simp -implicitDefEqProofs only [decide_true, condE_true, neq_int, da, Option.bind_some, gdW_tt, gV_true, ixc, ldc, hc', un_not, Bool.not_false, pickP_bool, if_true, gd2, ixv, ldv, hlv, ix0, ld0, bin_lss, hb, decide_false, chk_nil, faP_ptr, Nat.zero_add, lt2'] <;> rfl)
            refine ok_cl (push_ok P1.hp C v (.int .i64 1)) ?_
            rintro w g2 hw
            rw [if_neg hcl] at hw
            obtain ⟨rfl, s2⟩ := hw
            simp only at s2
            exact (fin (P1.keep X s2) (fun b e1 e2 e3 e4 => (s2.get _ (by omega) (by simp)).trans (old1 b e1 e2 e3 e4))).eq (by simp -implicitDefEqProofs only [neq_bool, beq_self_eq_true, Bool.not_true, Option.bind_some, condE_false])
    have d0 : decide (op = 0) = false := by simp [h0]
    by_cases hop : op = 1
    · have d1 : decide (op = 1) = true := by simp [hop]
      have ldv' : ∀ {g' : Heap}, Same [A 7] g1 g' → ldS g' (.ptr (some (bv, k))) = some (val k) := fun {g'} s => by
        have := X.nv 7 (by decide)
        have := X.lv
        have := P1.nx
        rw [ldS_at ((s.get _ (by omega) (by simp; omega)).trans P1.gv), fc_at _ hkN]
      refine Ok.eq ?_ (by simp -implicitDefEqProofs only [d0, condE_false, d1, condE_true, Option.bind_some] <;> rfl)
      have none_case : ∀ (w : AV) (g2 : Heap), w = .tup [.int .i64 0, .bool false] → Same [] g1 g2 → L k = [] → Ok ((extractV 0 w).bind fun t204 => (extractV 1 w).bind fun t205 => some (t204, t205)) fun r => r = (.int .i64 0, .bool false) := by
        rintro w g2 rfl _ _; exact ⟨_, rfl, rfl⟩
      rcases P1.ch k hkN with ⟨h1, h2⟩ | ⟨c, rest, C, h1, h2, h3⟩
      · have hno : ofP l.ar sh15 (ad k) = none := by rw [h1]; exact ofP_none (find_zero P1.hp.wf)
        rw [h2] at hlv
        rw [show (([] : List Int).length) = 0 from rfl, show ((0 : Nat) : Int) = 0 from rfl] at hlv
        refine ok_cl (pop_no P1.hp hno) ?_
        rintro _ g2 ⟨rfl, s2⟩
        simp only at s2
        have z00 : decide ((0 : Int) < 0) = false := rfl
        exact (fin (P1.keep X s2) (fun b e1 e2 e3 e4 => (s2.get _ (by omega) (by simp)).trans (old1 b e1 e2 e3 e4))).eq (by
          simp -implicitDefEqProofs only [extractV_tup, e0, e1, Option.bind_some, gd2, ixv, ldv' (s2.sub (by simp)), hlv, bin_gtr, z00, neq_bool, beq_self_eq_true, Bool.not_true, gdW_ff, gQ_true, cl_some, un_not, Bool.not_false, gdW_tt, neq_int, decide_true, pickP_bool, if_true, Bool.false_eq_true, if_false, gdW_ft, gQ_false, condE_false])
      · have ql := h3.len
        refine ok_cl (pop_ok P1.hp C) ?_
        rintro w g2 hw
        by_cases hcz : 0 < c.count
        · rw [if_pos hcz] at hw
          obtain ⟨rfl, l2, H2, s2, W2⟩ := hw
          simp only at H2 s2
          obtain ⟨x, L2, eL, ex, Q2, O2⟩ := pop_q C.ok h3 hcz
          have P2 := P1.chan (b := c0 k) X hkN H2 s2 C W2 O2 rfl h1 (by rw [← h2]; rfl) Q2
          rw [upd_upd c0 k true] at P2
          rw [ex]
          have Qk := P2.qv k hkN
          rw [eL] at Qk
          obtain ⟨ib, o, eb, ev, el, v', es, Q'⟩ := Qk.tail
          have ix00 : iaS 1 (val k) (.int .i64 0) = some (.ptr (some (ib, o))) := by
            rw [ev, iaS_sl 1 (ib, o) _ _ .i64 _ ⟨by omega, by omega⟩]; simp
          have hlp : decide ((0 : Int) < ((L k).length : Int)) = true := by simp; omega
          obtain ⟨g3, e3', s3, P3⟩ := P2.put X hkN (S := []) (Same.refl _ _) (by simp) Q' (fun i hi => .inl hi)
          have eLL : upd L k L2 = upd L k L2 := rfl
          refine Ok.eq (fin P3 ?_) (by
            simp -implicitDefEqProofs only [extractV_tup, e0, e1, Option.bind_some, gd2, ixv, ldv' s2, hlv, bin_gtr, hlp, neq_bool, beq_self_eq_true, Bool.not_true, gdW_ff, gQ_true, cl_some, un_not, gdW_ft, gQ_false, pickP_bool, Bool.false_eq_true, if_false, gdW_tt, ix00, el, neq_int, decide_true, if_true, condE_false, condE_true, es, e3'])
          intro b e1 e2 e3 e4
          have := s2.next
          rw [s3.get _ (by have := P2.nx; omega) (by simp; exact e3)]
          exact oldA s2 P1.nx old1 b e1 e2 e3 e4
        · rw [if_neg hcz] at hw
          obtain ⟨rfl, s2⟩ := hw
          simp only at s2
          have c0' := C.ok.c0
          have hl0 : ((L k).length : Int) = 0 := by omega
          rw [hl0] at hlv
          have z00 : decide ((0 : Int) < 0) = false := rfl
          exact (fin (P1.keep X s2) (fun b e1 e2 e3 e4 => (s2.get _ (by omega) (by simp)).trans (old1 b e1 e2 e3 e4))).eq (by
            simp -implicitDefEqProofs only [extractV_tup, e0, e1, Option.bind_some, gd2, ixv, ldv' (s2.sub (by simp)), hlv, bin_gtr, z00, neq_bool, beq_self_eq_true, Bool.not_true, gdW_ff, gQ_true, cl_some, un_not, Bool.not_false, gdW_tt, neq_int, decide_true, pickP_bool, if_true, Bool.false_eq_true, if_false, gdW_ft, gQ_false, condE_false])
    · have d1 : decide (op = 1) = false := by simp [hop]
      have ldc' : ∀ {g' : Heap}, Same [A 7] g1 g' → ldS g' (.ptr (some (bc, k))) = some (.bool (c0 k)) := fun {g'} s => by
        have := X.nc 7 (by decide)
        have := X.lc
        have := P1.nx
        rw [ldS_at ((s.get _ (by omega) (by simp; omega)).trans P1.gc), fc_at _ hkN]
      refine Ok.eq ?_ (by simp -implicitDefEqProofs only [d0, condE_false, d1, Option.bind_some] <;> rfl)
      rcases P1.ch k hkN with ⟨h1, h2⟩ | ⟨c, rest, C, h1, h2, h3⟩
      · have hno : ofP l.ar sh15 (ad k) = none := by rw [h1]; exact ofP_none (find_zero P1.hp.wf)
        refine ok_cl (close_no P1.hp hno) ?_
        rintro _ g2 ⟨rfl, s2⟩
        simp only at s2
        obtain ⟨g3, e3', P3, s3⟩ := ((P1.keep X s2).flag (b := true) h1).shut X hkN
        have F := fin P3 (fun b e1 e2 e3 e4 => (s3.get _ (by have := s2.next; have := P1.nx; omega) (by simp; exact e4)).trans ((s2.get _ (by omega) (by simp)).trans (old1 b e1 e2 e3 e4)))
        exact F.eq (by simp -implicitDefEqProofs only [neq_int, h1, decide_true, Bool.not_true, Option.bind_some, gdW_ft, gQ_false, pickP_bool, Bool.false_eq_true, if_false, neq_bool, beq_self_eq_true, condE_false, ixc, e3', cl_some])
      · have ha : ¬ ad k = 0 := by have := chAt_pos P1.hp.wf C; omega
        have da : (!decide (ad k = 0)) = true := by simp [ha]
        refine ok_cl (close_ok P1.hp C) ?_
        rintro w g2 hw
        by_cases hc : c0 k = true
        · have hcl : ¬ c.closed = 0 := by rw [h2, hc]; simp
          rw [if_neg hcl] at hw
          obtain ⟨rfl, s2⟩ := hw
          simp only at s2
          obtain ⟨g3, e3', P3, s3⟩ := (P1.keep X s2).shut X hkN
          have eu : upd c0 k true = c0 := by have := upd_upd c0 k true; rwa [hc] at this
          rw [eu] at P3
          exact (fin P3 (fun b e1 e2 e3 e4 => (s3.get _ (by have := s2.next; have := P1.nx; omega) (by simp; exact e4)).trans ((s2.get _ (by omega) (by simp)).trans (old1 b e1 e2 e3 e4)))).eq (by
            simp -implicitDefEqProofs only [neq_int, da, Option.bind_some, gdW_tt, gQ_true, cl_some, ixc, ldc' (s2.sub (by simp)), hc, un_not, Bool.not_true, pickP_bool, if_true, neq_bool, beq_self_eq_true, condE_false, e3'])
        · have hc' : c0 k = false := by simpa using hc
          have hz : c.closed = 0 := by rw [h2, hc']; rfl
          rw [if_pos hz] at hw
          obtain ⟨rfl, l2, H2, s2, W2⟩ := hw
          simp only at H2 s2
          obtain ⟨Q2, O2⟩ := shut_q C.ok h3
          have P2 := P1.chan (b := true) X hkN H2 s2 C W2 O2 rfl h1 rfl Q2
          have eL : upd L k (L k) = L := upd_upd L k []
          rw [eL] at P2
          obtain ⟨g3, e3', P3, s3⟩ := P2.shut X hkN
          exact (fin P3 (fun b e1 e2 e3 e4 => (s3.get _ (by have := s2.next; have := P1.nx; omega) (by simp; exact e4)).trans (oldA s2 P1.nx old1 b e1 e2 e3 e4))).eq (by
            simp -implicitDefEqProofs only [neq_int, da, Option.bind_some, gdW_tt, gQ_true, cl_some, ixc, ldc' s2, hc', un_not, Bool.not_false, Bool.not_true, pickP_bool, if_true, neq_bool, beq_self_eq_true, condE_false, e3'])
  · have hlt : ¬ (i : Int) < rows.length := by omega
    exact (Ok.of (r := (.exit 2, [w4, .int .i64 (i : Int)], g)) (.inr ⟨by simp, rfl⟩)).eq (by simp -implicitDefEqProofs only [k_law15_ChansPlays_b1, hl1, bin_lss, hlt, decide_false, Option.bind_some, condE_false])
end Go.Ab.F

namespace Go.Ab.F
open Go Go.Ab
set_option linter.all false
set_option linter.all false
attribute [local congr] c_bind c_cl c_mk c_lp c_clC c_gQ c_gV c_condE c_thenK

theorem ldA_congr {g g' : Heap} {b : Nat} (h : g.get b = g'.get b) (n o : Nat) : ldA n g (.ptr (some (b, o))) = ldA n g' (.ptr (some (b, o))) := by
  simp only [ldA, h]
theorem fc_list (lr : List Int) : lr.map (fun n => AV.int .i64 n) = fc lr.length fun k => .int .i64 (lr.getD k 0) := by
  apply List.ext_getElem?
  intro i
  by_cases hi : i < lr.length
  · rw [fc_at _ hi]
    simp [hi]
  · rw [List.getElem?_eq_none (by simp; omega), List.getElem?_eq_none (by rw [fc_len]; omega)]
theorem plays15_true {h : Heap} (hsub : Sub hQ1 h) (hn1 : 1 ≤ h.next) {x0 x1 : AV} {lr : List Int} {rows : List (List AV)} (hx : RdC h 1 x0 (lr.map fun n => .int .i64 n) lr.length) (hy : RwC h 3 x1 rows) (hrow : ∀ r ∈ rows, rowP r) :
    Ok (k_law15_ChansPlays x0 x1 h) fun r => r.1 = .bool true := by
  have ht := tab0_sub hsub hn1
  have haw : k_law15_awake h = some (.bool true, h) := quiet_pos hsub
  rw [fc_list] at hx
  generalize hN : lr.length = N at *
  generalize hrm : (fun k => lr.getD k 0) = rm at *
  have hx' : RdC h 1 x0 (fc N fun k => .int .i64 (rm k)) N := by rw [← hrm]; exact hx
  clear hx
  have hl0 := hx'.lnL
  have hl1 := hy.lnL
  by_cases h1 : 8 < N
  · have h1' : (8 : Int) < N := by omega
    exact ok_val (v := .bool true) (g := h) (by simp -implicitDefEqProofs only [k_law15_ChansPlays, haw, cl_some, un_not, Bool.not_true, Option.bind_some, condE_false, hl0, bin_gtr, h1', decide_true, gdW_tf, gQ_false, pickP_bool, if_true, condE_true]) rfl
  have h1' : ¬ (8 : Int) < N := by omega
  by_cases h2 : N = 0
  · have h2' : decide ((N : Int) = 0) = true := by simp [h2]
    exact ok_val (v := .bool true) (g := h) (by simp -implicitDefEqProofs only [k_law15_ChansPlays, haw, cl_some, un_not, Bool.not_true, Option.bind_some, condE_false, hl0, bin_gtr, h1', decide_false, gdW_ff, gQ_true, eql_int, h2', pickP_bool, Bool.false_eq_true, if_false, gdW_tf, gQ_false, if_true, condE_true]) rfl
  have h2' : ¬ (N : Int) = 0 := by omega
  by_cases h3 : 150 < rows.length
  · have h3' : (150 : Int) < rows.length := by omega
    exact ok_val (v := .bool true) (g := h) (by simp -implicitDefEqProofs only [k_law15_ChansPlays, haw, cl_some, un_not, Bool.not_true, Option.bind_some, condE_false, hl0, bin_gtr, h1', decide_false, gdW_ff, gQ_true, eql_int, h2', pickP_bool, Bool.false_eq_true, if_false, hl1, h3', decide_true, condE_true]) rfl
  have h3' : ¬ (150 : Int) < rows.length := by omega
  refine Ok.eq ?_ (by simp -implicitDefEqProofs only [k_law15_ChansPlays, haw, cl_some, un_not, Bool.not_true, Option.bind_some, condE_false, hl0, bin_gtr, h1', decide_false, gdW_ff, gQ_true, eql_int, h2', pickP_bool, Bool.false_eq_true, if_false, hl1, h3', shapes15] <;> rfl)
  have s0 : Same [] h (h.new (.cells true (shC sh15))) := Same.new _ _
  have n0 : (h.new (.cells true (shC sh15))).next = h.next + 1 := rfl
  refine ok_cl (hnew_ok (h := h.new (.cells true (shC sh15))) (N := 40) (T := sh15) (by decide) (by decide) (ht.same s0 (by simp)) get_new_eq (Nat.lt_succ_self _) (by decide) (by decide) sh15_nd sh15_good) ?_
  rintro _ g1 ⟨A, rfl, H1, s1, hA⟩
  simp only at H1 s1
  rw [n0] at hA
  have bn : bldS [(0, 1)] [(AV.sl none 0 (.ex 0))] [] = some (.agg [.sl none 0 (.ex 0)]) := rfl
  have xn : bxP (.agg [.sl none 0 (.ex 0)]) = some (.cells true [.sl none 0 (.ex 0)], fun i => .ptr (some (i, 0))) := rfl
  have s2 : Same [] g1 (g1.new (.cells true [.sl none 0 (.ex 0)])) := Same.new _ _
  have p2 : (g1.new (.cells true [.sl none 0 (.ex 0)])).get g1.next = some (.cells true [.sl none 0 (.ex 0)]) := get_new_eq
  have n2 : (g1.new (.cells true [.sl none 0 (.ex 0)])).next = g1.next + 1 := rfl
  have m := msP_ok 1 1 [AV.bool false] N (by omega) (by decide) rfl
  refine Ok.eq ?_ (by simp -implicitDefEqProofs only [extractV_tup, e0, e1, Option.bind_some, neq_int, decide_true, Bool.not_true, condE_false, bn, xn, mk_some, hl0, m] <;> rfl)
  generalize g1.new (.cells true [.sl none 0 (.ex 0)]) = g2 at *
  have s3 : Same [] g2 (g2.new (.cells true (rep [.bool false] N))) := Same.new _ _
  have p3 : (g2.new (.cells true (rep [.bool false] N))).get g2.next = some (.cells true (rep [.bool false] N)) := get_new_eq
  have n3 : (g2.new (.cells true (rep [.bool false] N))).next = g2.next + 1 := rfl
  generalize g2.new (.cells true (rep [.bool false] N)) = g3 at *
  have s13 := s2.trans s3
  have H3 := H1.keep s13
  have q2 : g3.get g1.next = some (.cells true [.sl none 0 (.ex 0)]) := (s3.get _ (by omega) (by simp)).trans p2
  have lt1 := H1.lt
  have s03 := (s0.trans s1).trans s13
  have hx3 : RdC g3 1 x0 (fc N fun k => .int .i64 (rm k)) N := ⟨hx'.len, by
    rcases hx'.eq with h | ⟨b, c, e, hb, hg⟩
    · exact .inl h
    · exact .inr ⟨b, c, e, Nat.lt_of_lt_of_le hb s03.next, fun hne => (s03.get b hb (by simp)).trans (hg hne)⟩⟩
  have hlen : (newA 40).sp.length = 40 := by show (List.replicate 40 _).length = 40; rw [List.length_replicate]
  have notA : ∀ b, g3.get b = some (.cells false (fc N fun k => .int .i64 (rm k))) → b ∉ [A 5, A 7, A 8, g1.next] := by
    intro b hb hm
    simp only [List.mem_cons, List.not_mem_nil, or_false] at hm
    rcases hm with rfl | rfl | rfl | rfl
    · rw [H3.al.hu] at hb; cases hb
    · rw [H3.al.ar.hw] at hb; cases hb
    · rw [H3.al.ar.hs] at hb; cases hb
    · rw [q2] at hb; cases hb
  refine ok_lp (lp0_ok (rm := rm) (by omega) hx3 H3 (used_new 40) hlen (by omega) (fun i hi => by have := lt1 i hi; omega) (by have := H1.pos 0 (by decide); have := lt1 0 (by decide); omega) q2 notA _ 0) ?_
  rintro _ vs g4 ⟨rfl, ad, q8, q9, b8, b9, bh, rfl, P⟩
  simp only at P
  refine Ok.eq ?_ (by simp -implicitDefEqProofs only [if_true, thenK_normal, gd0] <;> rfl)
  obtain ⟨l4, H4, C4, u4, sp4⟩ := P.hp
  have hb8 : ∃ i, b8 = some i := by
    cases b8 with
    | none => have := P.l8.nil rfl; omega
    | some i => exact ⟨i, rfl⟩
  have hb9 : ∃ i, b9 = some i := by
    cases b9 with
    | none => have := P.l9.nil rfl; omega
    | some i => exact ⟨i, rfl⟩
  obtain ⟨ba, rfl⟩ := hb8
  obtain ⟨bv, rfl⟩ := hb9
  have eq8 : q8 = .sl (some (ba, 0)) N (.un 1) := P.l8.eq
  have eq9 : q9 = .sl (some (bv, 0)) N (.un 1) := P.l9.eq
  subst eq8; subst eq9
  obtain ⟨ba1, ba2, _⟩ := P.l8.blk ba rfl
  obtain ⟨bv1, bv2, _⟩ := P.l9.blk bv rfl
  have ba3 := P.n8 ba rfl
  have bv3 := P.n9 bv rfl
  have nn := P.same.next
  have pc : g4.get g2.next = some (.cells true (fc N fun k => .bool ((fun _ => false : Nat → Bool) k))) := by
    rw [P.same.get _ (by omega) (by
      have h5 := lt1 5 (by decide)
      have h7 := lt1 7 (by decide)
      have h8 := lt1 8 (by decide)
      simp; omega), p3, rep_one]
    congr 2
    apply List.ext_getElem?
    intro i
    by_cases hi : i < N
    · rw [fc_at _ hi]; simp [hi]
    · rw [List.getElem?_eq_none (by simp; omega), List.getElem?_eq_none (by rw [fc_len]; omega)]
  have X : Fx A N g4.next ba bv g2.next rm ad :=
    { hA := fun i hi => by have := lt1 i hi; omega
      la := ba1, lv := bv1, lc := by omega
      za := by omega
      zv := by omega
      zc := by omega
      na := fun i hi => by have := lt1 i hi; omega
      nv := fun i hi => by have := lt1 i hi; omega
      nc := fun i hi => by have := lt1 i hi; omega
      av := fun e => P.d1 ba rfl (by rw [e])
      ac := by omega
      vc := by omega
      inj := C4.2
      N0 := by omega
      N8 := by omega }
  have Q : PlSt g4 l4 A N g4.next ba bv g2.next rm ad (fun _ => .sl none 0 (.ex 0)) (fun _ => none) (fun _ => []) (fun _ => []) (fun _ => false) (fun _ => false) :=
    { hp := H4
      ch := fun k hk => by
        rcases C4.1 k hk with h | ⟨rest, C⟩
        · exact .inl ⟨h.1, rfl⟩
        · exact .inr ⟨_, rest, C, rfl, rfl, inQ_new C.ok.r0⟩
      ga := ba2, gv := bv2, gc := pc
      qv := fun k hk => QuV.mt
      qi := fun i j _ _ x hx => by cases hx
      nx := Nat.le_refl _ }
  obtain ⟨b0, hb0, hg0, hix0⟩ := hx'.ix (i := 0) (by omega)
  have gb0 : g4.get b0 = some (.cells false (fc N fun k => .int .i64 (rm k))) := by
    have e3 : g3.get b0 = _ := (s03.get b0 hb0 (by simp)).trans hg0
    rw [P.same.get _ (Nat.lt_of_lt_of_le hb0 s03.next) (notA b0 e3)]; exact e3
  have hA7 := hA 7 (by decide)
  have frm : ∀ b, b < h.next → g4.get b = h.get b := fun b hb => by
    have h5 := hA 5 (by decide)
    have h8 := hA 8 (by decide)
    have := (s0.trans s1).next
    rw [P.same.get _ (Nat.lt_of_lt_of_le hb s03.next) (by simp; omega), s03.get b hb (by simp)]
  have hsn := s03.next
  have hsn1 := (s0.trans s1).next
  refine ok_lp (plays_loop (rows := rows) X Q ⟨hx'.len, ?_⟩ hrow (by omega) ⟨b0, by omega, by omega, by omega, by omega, gb0, fun i hi => ?_⟩ ?_ hl1) ?_
  · rcases hx'.eq with h | ⟨b, c, e, hb, hg⟩
    · exact .inl h
    · exact .inr ⟨b, c, e, by omega, fun hne => (frm b hb).trans (hg hne)⟩
  · obtain ⟨b, hb, hg, hix⟩ := hx'.ix hi
    have : b = b0 := by
      have e1 := hix0 .i64
      rcases hx'.eq with ⟨e, e'⟩ | ⟨b', c, e, _⟩
      · omega
      · rw [e, iaS_sl 1 (b', 0) _ _ .i64 _ ⟨by omega, by omega⟩] at e1
        have e2 := hix .i64
        rw [e, iaS_sl 1 (b', 0) _ _ .i64 _ ⟨by omega, by omega⟩] at e2
        simp at e1 e2
        omega
    subst this
    rw [hix, Nat.mul_one]
  · intro i r hr
    obtain ⟨b, o, hb, hix, hla, _⟩ := hy.at hr
    refine ⟨b, o, by omega, by omega, by omega, by omega, hix .i64, fun g hg => ?_⟩
    rw [ldA_congr (hg.trans (frm b hb)) 3 o]; exact hla
  · rintro _ vs g5 rfl
    exact ok_val (v := .bool true) (g := g5) (by simp -implicitDefEqProofs only [if_true, thenK_normal]) rfl
theorem rd_rows3 {h : Heap} {x : D} {vs : List AV} (H : Rep h (.sl (.st [.int .i64, .int .i64, .int .i64])) x vs) : ∃ rows, RwC h 3 (argAV (.sl (.st [.int .i64, .int .i64, .int .i64])) vs) rows ∧ ∀ r ∈ rows, rowP r := by
  obtain ⟨l, h1, h2⟩ := rd_rows H
  refine ⟨l, h1, fun r hr => ?_⟩
  obtain ⟨y, hy⟩ := h2 r hr
  cases y <;> simp only [Rep] at hy
  rename_i xs
  obtain ⟨m, hm, e, _⟩ := reps_ints 3 (xs := xs) (cs := r) (by first | exact hy | exact hy.1 | exact hy.2)
  match m, hm with
  | [a, b, c], _ => exact ⟨a, b, c, e⟩
end Go.Ab.F
