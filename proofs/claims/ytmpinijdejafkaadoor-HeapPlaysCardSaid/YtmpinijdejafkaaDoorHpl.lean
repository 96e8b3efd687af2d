import Derived.Test.YtmpinijdejafkaaDoorChn
import Derived.Test.YtmpinijdejafkaaDoorArn
import Derived.Test.YtmpinijdejafkaaDoorKit
import Derived.Test.YtmpinijdejafkaaDoorHea

namespace Go.Ab.F
open Go Go.Ab
set_option linter.all false
set_option linter.all false
attribute [local congr] c_bind c_cl c_mk c_lp c_clC c_gQ c_gV c_condE c_thenK

/-! Lists of ints of one's own that lose their first and get a last. -/
structure QuV (g : Heap) (base : Nat) (b : Option Nat) (v : AV) (L : List Int) : Prop where
  nil : b = none → v = .sl none 0 (.ex 0) ∧ L = []
  blk : ∀ i, b = some i → base ≤ i ∧ i < g.next ∧ ∃ pre : List AV, g.get i = some (.cells true (pre ++ wsC L)) ∧ v = .sl (some (i, pre.length)) L.length (.un 1)
theorem QuV.lnL {g : Heap} {base : Nat} {b : Option Nat} {v : AV} {L : List Int} (H : QuV g base b v L) : Go.Ab.lnL v = some (.int .i64 L.length) := by
  cases b with
  | none => obtain ⟨rfl, rfl⟩ := H.nil rfl; rfl
  | some i => obtain ⟨_, _, pre, _, rfl⟩ := H.blk i rfl; simp
theorem QuV.sc {g : Heap} {base : Nat} {b : Option Nat} {v : AV} {L : List Int} (H : QuV g base b v L) : scalar v = true := by
  cases b with
  | none => obtain ⟨rfl, rfl⟩ := H.nil rfl; rfl
  | some i => obtain ⟨_, _, pre, _, rfl⟩ := H.blk i rfl; rfl
theorem QuV.samev {g : Heap} {base : Nat} {b : Option Nat} {v : AV} {L : List Int} (H : QuV g base b v L) : same v v = true := by
  cases b with
  | none => obtain ⟨rfl, rfl⟩ := H.nil rfl; rfl
  | some i => obtain ⟨_, _, pre, _, rfl⟩ := H.blk i rfl; exact same_sl _ _ _
theorem QuV.mt {g : Heap} {base : Nat} : QuV g base none (.sl none 0 (.ex 0)) [] := ⟨fun _ => ⟨rfl, rfl⟩, fun i h => by cases h⟩
theorem QuV.keep {g g' : Heap} {base : Nat} {b : Option Nat} {v : AV} {L : List Int} {S : List Nat} (H : QuV g base b v L) (s : Same S g g') (hb : ∀ i, b = some i → i ∉ S) : QuV g' base b v L :=
  ⟨H.nil, fun i hi => by
    obtain ⟨h1, h2, pre, h3, h4⟩ := H.blk i hi
    exact ⟨h1, Nat.lt_of_lt_of_le h2 s.next, pre, (s.get i h2 (hb i hi)).trans h3, h4⟩⟩
theorem wsC_app (a b : List Int) : wsC (a ++ b) = wsC a ++ wsC b := by simp [wsC]
theorem wsC_len (a : List Int) : (wsC a).length = a.length := by simp [wsC]
theorem QuV.app {g : Heap} {base c : Nat} {b : Option Nat} {v : AV} {L : List Int} {x : Int} (H : QuV g base b v L) (hc : g.get c = some (.cells true [.int .i64 x])) (hb : base ≤ g.next) (hl : L.length ≤ 1000) :
    ∃ v' g', appendA g 1 8 v (.sl (some (c, 0)) 1 (.ex 1)) = some (v', g') ∧ QuV g' base (some g.next) v' (L ++ [x]) ∧ Same b.toList g g' ∧ g'.next = g.next + 1 := by
  have hld : loadN g (c, 0) (1 * 1) = some [.int .i64 x] := by simp only [loadN, hc, spanF_eq]; rfl
  cases b with
  | none =>
    obtain ⟨rfl, rfl⟩ := H.nil rfl
    refine ⟨.sl (some (g.next, 0)) 1 (.un 1), g.new (.cells true [.int .i64 x]), ?_, ⟨(fun h => by cases h), fun i hi => ?_⟩, Same.new _ _, rfl⟩
    · simp only [appendA, countA, addedA, hld, Option.bind_some]
      rw [if_neg (by omega), if_pos (by omega)]
      rfl
    · cases hi
      exact ⟨hb, Nat.lt_succ_self _, [], get_new_eq, rfl⟩
  | some i =>
    obtain ⟨b1, b2, pre, b3, rfl⟩ := H.blk i rfl
    have hle : (pre ++ wsC L).length = pre.length + L.length := by rw [List.length_append, wsC_len]
    refine ⟨.sl (some (g.next, 0)) (L.length + 1) (.un 1), (g.put i none).new (.cells true (wsC (L ++ [x]))), ?_, ⟨(fun h => by cases h), fun j hj => ?_⟩, ?_, rfl⟩
    · simp only [appendA, countA, addedA, hld, Option.bind_some, ne_eq, not_true_eq_false, if_false, b3]
      rw [if_neg (by omega), if_pos (by omega), if_neg (by omega), if_pos (by omega)]
      have : ([AV.int .i64 x].all scalar) = true := rfl
      simp only [this, if_true, List.drop_left, wsC_app]
      rfl
    · cases hj
      exact ⟨hb, Nat.lt_succ_self _, [], by
        have := get_new_eq (h := g.put i none) (b := .cells true (wsC (L ++ [x]))); simpa using this, by simp⟩
    · exact (Same.put _ _ _).sub (by simp) |>.trans ((Same.new _ _).sub (by simp))
theorem QuV.tail {g : Heap} {base : Nat} {b : Option Nat} {v : AV} {x : Int} {L : List Int} (H : QuV g base b v (x :: L)) :
    ∃ i o, b = some i ∧ v = .sl (some (i, o)) (L.length + 1) (.un 1) ∧ ldS g (.ptr (some (i, o))) = some (.int .i64 x) ∧ ∃ v', slcP 1 v (some (.int .i64 1)) none none = some v' ∧ QuV g base b v' L := by
  cases b with
  | none => obtain ⟨_, h⟩ := H.nil rfl; cases h
  | some i =>
    obtain ⟨b1, b2, pre, b3, rfl⟩ := H.blk i rfl
    refine ⟨i, pre.length, rfl, rfl, ?_, .sl (some (i, pre.length + 1)) L.length (.un 1), ?_, ⟨(fun h => by cases h), fun j hj => ?_⟩⟩
    · rw [ldS_at b3, List.getElem?_append_right (Nat.le_refl _), Nat.sub_self]; rfl
    · have e : (x :: L).length = L.length + 1 := rfl
      rw [e]
      simp only [slcP, sliceUn, highA, lowA, boundA, ne_eq, not_true_eq_false, if_false, Option.bind_some]
      rw [if_pos ⟨by omega, by omega⟩]
      simp [addA]
    · cases hj
      exact ⟨b1, b2, pre ++ [.int .i64 x], by rw [b3, List.append_assoc]; rfl, by simp⟩

/-! ### Cells by a function -/
def upd {α : Type} (f : Nat → α) (k : Nat) (x : α) : Nat → α := fun i => if i = k then x else f i
theorem upd_eq {α : Type} (f : Nat → α) (k : Nat) (x : α) : upd f k x k = x := by unfold upd; rw [if_pos rfl]
theorem upd_ne {α : Type} (f : Nat → α) {k i : Nat} (x : α) (h : i ≠ k) : upd f k x i = f i := by unfold upd; rw [if_neg h]
def fc (n : Nat) (f : Nat → AV) : List AV := (List.range n).map f
theorem fc_len (n : Nat) (f : Nat → AV) : (fc n f).length = n := by simp [fc]
theorem fc_at {n k : Nat} (f : Nat → AV) (h : k < n) : (fc n f)[k]? = some (f k) := by simp [fc, h]
theorem fc_set {n k : Nat} (f : Nat → AV) (x : AV) (h : k < n) : (fc n f).set k x = fc n (upd f k x) := by
  apply List.ext_getElem?
  intro i
  by_cases hi : i < n
  · by_cases e : i = k
    · subst e
      rw [List.getElem?_set_self (by rw [fc_len]; exact h), fc_at _ h, upd_eq]
    · rw [List.getElem?_set_ne (fun e' => e e'.symm), fc_at _ hi, fc_at _ hi, upd_ne _ _ e]
  · rw [List.getElem?_eq_none (by rw [List.length_set, fc_len]; omega), List.getElem?_eq_none (by rw [fc_len]; omega)]
theorem fc_congr {n : Nat} {f g : Nat → AV} (h : ∀ i, i < n → f i = g i) : fc n f = fc n g := by
  unfold fc
  apply List.map_congr_left
  intro i hi
  exact h i (List.mem_range.1 hi)
theorem fc_succ (n : Nat) (f : Nat → AV) : fc (n + 1) f = fc n f ++ [f n] := by simp [fc, List.range_succ]
theorem and_mask (n : Int) (k : Nat) (hk : k ≤ 32) : binP .and (.int .i64 n) (.int .i64 (((2 ^ k - 1 : Nat)) : Int)) = some (.int .i64 (n % ((2 ^ k : Nat) : Int))) := by
  rw [bin_int _ (by decide) (by decide)]
  have h2 : 2 ^ k ≤ 2 ^ 32 := Nat.pow_le_pow_right (by decide) hk
  have h1 := Nat.two_pow_pos k
  have e : intBin .and .i64 n ((2 ^ k - 1 : Nat) : Int) = some (.int .i64 (IntKind.i64.wrap (BitVec.ofInt 64 n &&& BitVec.ofInt 64 ((2 ^ k - 1 : Nat) : Int)).toNat)) := rfl
  have e7 : (BitVec.ofInt 64 ((2 ^ k - 1 : Nat) : Int)).toNat = 2 ^ k - 1 := by
    rw [BitVec.ofInt_natCast, BitVec.toNat_ofNat]; exact Nat.mod_eq_of_lt (by omega)
  have h : (BitVec.ofInt 64 n &&& BitVec.ofInt 64 ((2 ^ k - 1 : Nat) : Int)).toNat = (n % ((2 ^ k : Nat) : Int)).toNat := by
    rw [BitVec.toNat_and, e7, Nat.and_two_pow_sub_one_eq_mod, BitVec.toNat_ofInt]
    have hd : ((2 ^ k : Nat) : Int) ∣ ((2 ^ 64 : Nat) : Int) := by
      rw [Int.natCast_dvd_natCast]; exact Nat.pow_dvd_pow 2 (by omega)
    have hm := Int.emod_emod_of_dvd n hd
    have h0 := Int.emod_nonneg n (show ((2 ^ 64 : Nat) : Int) ≠ 0 by decide)
    rw [← hm, Int.toNat_emod h0 (by omega), Int.toNat_natCast]
  have h0 := Int.emod_nonneg n (show ((2 ^ k : Nat) : Int) ≠ 0 by omega)
  have h3 := Int.emod_lt_of_pos n (show 0 < ((2 ^ k : Nat) : Int) by omega)
  rw [e, h, wrap_i64 (by omega) (by omega)]
  congr 2; omega
theorem find_zero {a : PAr} (H : Wf a) : a.find 0 = none := by
  cases h : a.find 0 with
  | none => rfl
  | some x =>
    obtain ⟨n, q⟩ := x
    obtain ⟨h1, h2⟩ := find_en h
    have := placed_rm H h2
    rw [h1] at this; omega
end Go.Ab.F

namespace Go.Ab.F
open Go Go.Ab
set_option linter.all false
set_option linter.all false
attribute [local congr] c_bind c_cl c_mk c_lp c_clC c_gQ c_gV c_condE c_thenK

/-! Add. -/
theorem eqD_row (s t : Shp) : eqD (some (.struct #[])) (some keyL) (.agg s.row) (.agg t.row) = some (decide (s = t)) := by
  obtain ⟨a, b, c⟩ := s
  obtain ⟨d, e, f⟩ := t
  by_cases h1 : a = d
  · by_cases h2 : b = e
    · by_cases h3 : c = f
      · subst h1; subst h2; subst h3
        simp [eqD, eqFs, eqT, Shp.row, keyL]
      · have : ¬ (c.toNat : Int) = f.toNat := fun h => h3 (BitVec.eq_of_toNat_eq (by omega))
        subst h1; subst h2
        simp [eqD, eqFs, eqT, Shp.row, keyL, h3, this]
    · subst h1
      simp [eqD, eqFs, eqT, Shp.row, keyL, h2]
  · simp [eqD, eqFs, eqT, Shp.row, keyL, h1]
theorem eql_row (s t : Shp) : eqP (some (.struct #[])) (some keyL) false .eql (.agg s.row) (.agg t.row) = some (.bool (decide (s = t))) := by
  simp only [eqP, guardE, Bool.false_eq_true, if_false, binE, eqD_row, Option.map_some]
theorem neq_row (s t : Shp) : eqP (some (.struct #[])) (some keyL) false .neq (.agg s.row) (.agg t.row) = some (.bool (!decide (s = t))) := by
  simp only [eqP, guardE, Bool.false_eq_true, if_false, binE, eqD_row, Option.map_some]
theorem keyL_eq : ([(0, (.int .i64)), (1, (.int .i64)), (2, (.int .u64))] : List (Nat × TypeDesc)) = keyL := rfl
/-- The first place of a shape. -/
def firstIx (T : List Shp) (s : Shp) : Nat → Nat → Option Nat
  | 0, _ => none
  | k + 1, n => if T[n]? = some s then some n else firstIx T s k (n + 1)
theorem firstIx_at {T : List Shp} {s : Shp} : ∀ {k n m : Nat}, firstIx T s k n = some m → T[m]? = some s ∧ n ≤ m
  | 0, n, m, h => by cases h
  | k + 1, n, m, h => by
    rw [firstIx] at h
    split at h
    · rename_i e; cases h; exact ⟨e, Nat.le_refl _⟩
    · have := firstIx_at h; exact ⟨this.1, by omega⟩
theorem firstIx_no {T : List Shp} {s : Shp} : ∀ {k n : Nat}, firstIx T s k n = none → ∀ m, n ≤ m → m < n + k → T[m]? ≠ some s
  | 0, n, _, m, h1, h2 => by omega
  | k + 1, n, h, m, h1, h2 => by
    rw [firstIx] at h
    split at h
    · cases h
    · rename_i e
      by_cases em : m = n
      · subst em; exact e
      · exact firstIx_no h m (by omega) (by omega)
theorem firstIx_none {T : List Shp} {s : Shp} (h : firstIx T s T.length 0 = none) : s ∉ T := fun hm => by
  obtain ⟨j, hj⟩ := List.getElem?_of_mem hm
  exact firstIx_no h j (by omega) (by have := (List.getElem?_eq_some_iff.1 hj).1; omega) hj
section
variable {h : Heap} {A : Nat → Nat} {l : PAl} {T : List Shp} {F : Int}
theorem index_ok {b : Nat} {v : AV} {s : Shp} (hs : SlB h (some b) 3 v (shC T) T.length) (hl : T.length ≤ 60000) : Ok (k_slices_Index_head_Shape_head_Shape v (.agg s.row) h) fun r =>
    r.1 = (match firstIx T s T.length 0 with | some n => .int .i64 (n : Int) | none => .int .i64 (-1)) ∧ Same [] h r.2 := by
  have bx : bxP (.agg s.row) = some (.cells true s.row, fun i => .ptr (some (i, 0))) := rfl
  have hg := new_get h (.cells true s.row)
  have sm : Same [] h (h.new (.cells true s.row)) := Same.new _ _
  have hs1 := hs.same sm (fun _ _ => by simp)
  refine Ok.eq ?_ (by simp -implicitDefEqProofs only [k_slices_Index_head_Shape_head_Shape, bx, mk_some, hs.lnL, Option.bind_some] <;> rfl)
  generalize h.new (.cells true s.row) = g at *
  have lp0 : Ok (k_slices_Index_head_Shape_head_Shape_L0 v (.ptr (some (h.next, 0))) (.int .i64 T.length) (.int .i64 0) (.int .i64 0) g) fun r => r.2.2 = g ∧
      match firstIx T s T.length 0 with | some n => r.1 = .ret ∧ r.2.1.getD 0 .bot = .int .i64 (n : Int) | none => r.1 = .exit 0 := by
    refine ok_loop (fun m vs g' => ∃ n : Nat, vs = [.int .i64 0, .int .i64 n] ∧ m + n = T.length ∧ g' = g ∧ firstIx T s T.length 0 = firstIx T s m n) ?_ (n := T.length) (by omega) ⟨0, rfl, rfl, rfl, rfl⟩
    rintro m vs g' ⟨n, rfl, hm, hgg, he⟩
    subst hgg
    rw [gd0, gd1]
    by_cases hn : n < T.length
    · have hlt : (n : Int) < T.length := by omega
      obtain ⟨k, rfl⟩ : ∃ k, m = k + 1 := ⟨m - 1, by omega⟩
      obtain ⟨t, ht⟩ : ∃ t, T[n]? = some t := ⟨_, List.getElem?_eq_getElem hn⟩
      obtain ⟨ix, la⟩ := rowIx hs1 ht
      by_cases e : s = t
      · subst e
        refine (Ok.of (r := (.ret, [.int .i64 (n : Int), .int .i64 (n : Int)], g')) (.inr ⟨by simp, rfl, ?_⟩)).eq (by
          simp -implicitDefEqProofs only [k_slices_Index_head_Shape_head_Shape_b0, bin_lss, hlt, decide_true, Option.bind_some, condE_true, ldA_row hg, ix, la, keyL_eq, eql_row, chk_nil])
        rw [he, firstIx, if_pos ht]; exact ⟨rfl, rfl⟩
      · have de : decide (s = t) = false := by simp [e]
        refine (Ok.of (r := (.normal, [.int .i64 0, .int .i64 ((n + 1 : Nat) : Int)], g')) (.inl ⟨rfl, k, by omega, n + 1, rfl, by omega, rfl, ?_⟩)).eq (by
          simp -implicitDefEqProofs only [k_slices_Index_head_Shape_head_Shape_b0, bin_lss, hlt, decide_true, Option.bind_some, condE_true, ldA_row hg, ix, la, keyL_eq, eql_row, de, chk_nil, condE_false, bin_add, suc64 n (by omega)])
        rw [he, firstIx, if_neg (by rw [ht]; intro h; exact e (Option.some.inj h).symm)]
    · have hlt : ¬ (n : Int) < T.length := by omega
      obtain rfl : m = 0 := by omega
      refine (Ok.of (r := (.exit 0, [.int .i64 0, .int .i64 (n : Int)], g')) (.inr ⟨by simp, rfl, ?_⟩)).eq (by simp -implicitDefEqProofs only [k_slices_Index_head_Shape_head_Shape_b0, bin_lss, hlt, decide_false, Option.bind_some, condE_false])
      rw [he]; exact rfl
  refine ok_lp lp0 ?_
  rintro e vs _ ⟨rfl, hr⟩
  cases hf : firstIx T s T.length 0 with
  | none =>
    rw [hf] at hr
    obtain rfl := hr
    exact ok_val (by simp -implicitDefEqProofs only [if_true, thenK_normal] <;> rfl) ⟨rfl, sm⟩
  | some n =>
    rw [hf] at hr
    obtain ⟨rfl, hv⟩ := hr
    simp only at hv
    exact ok_val (v := .int .i64 (n : Int)) (by rw [← hv]; rfl) ⟨rfl, sm⟩
/-- Where the shapes stand anew. -/
def moved (A : Nat → Nat) (b9 b10 : Nat) : Nat → Nat := fun i => if i = 9 then b9 else if i = 10 then b10 else A i
theorem moved_9 (A : Nat → Nat) (x y : Nat) : moved A x y 9 = x := rfl
theorem moved_10 (A : Nat → Nat) (x y : Nat) : moved A x y 10 = y := rfl
theorem moved_ne {A : Nat → Nat} {x y i : Nat} (h9 : i ≠ 9) (h10 : i ≠ 10) : moved A x y i = A i := by unfold moved; rw [if_neg h9, if_neg h10]
theorem add_ok (H : HpAt h A l T F) (s : Shp) (hl : T.length < 1000) : Ok (k_heap_Heap_Add (.ptr (some (A 0, 0))) (.agg s.row) h) fun r =>
    if goodB s = false then r.1 = .tup [.int .i64 0, .int .i64 1] ∧ Same [] h r.2
    else match firstIx T s T.length 0 with
      | some n => r.1 = .tup [.int .i64 (n : Int), .int .i64 0] ∧ Same [] h r.2
      | none => r.1 = .tup [.int .i64 (T.length : Int), .int .i64 0] ∧ ∃ b9 b10, h.next ≤ b9 ∧ h.next ≤ b10 ∧ HpAt r.2 (moved A b9 b10) l (T ++ [s]) F ∧ Same [A 0, A 2, A 3, A 9, A 10] h r.2 := by
  have bx : bxP (.agg s.row) = some (.cells true s.row, fun i => .ptr (some (i, 0))) := rfl
  have hgt := new_get h (.cells true s.row)
  have sm : Same [] h (h.new (.cells true s.row)) := Same.new _ _
  have hlt : h.next < (h.new (.cells true s.row)).next := Nat.lt_succ_self _
  refine Ok.eq ?_ (by simp -implicitDefEqProofs only [k_heap_Heap_Add, bx, mk_some, ldA_row hgt, Option.bind_some] <;> rfl)
  generalize h.new (.cells true s.row) = g0 at *
  refine ok_cl (good_ok s g0) ?_
  rintro _ g1 ⟨rfl, s1⟩
  simp only at s1
  have sm1 := sm.trans s1
  by_cases hg : goodB s = false
  · refine ok_pos hg ?_
    exact ok_val (by simp -implicitDefEqProofs only [hg, un_not, Bool.not_false, Option.bind_some, condE_true] <;> rfl) ⟨rfl, sm1⟩
  refine ok_neg hg ?_
  have hg' : goodB s = true := by simpa using hg
  have H1 := H.keep sm1
  obtain ⟨v, hv, hs⟩ := H1.hpb
  have p1 := (s1.get _ hlt (by simp)).trans hgt
  have lv : ldS g1 (.ptr (some (A 0, 1))) = some v := by rw [ldS_at hv]; rfl
  refine Ok.eq ?_ (by simp -implicitDefEqProofs only [hg', un_not, Bool.not_true, Option.bind_some, condE_false, nilV_ptr, faP_ptr, Nat.zero_add, lv, ldA_row p1] <;> rfl)
  refine ok_cl (index_ok (s := s) hs (by omega)) ?_
  rintro w g2 ⟨hw, s2⟩
  simp only at hw s2
  have H2 := H1.keep s2
  cases hf : firstIx T s T.length 0 with
  | some n =>
    rw [hf] at hw
    obtain rfl := hw
    have h0 : (0 : Int) ≤ n := by omega
    exact ok_val (by simp -implicitDefEqProofs only [chk_nil, bin_geq, h0, decide_true, Option.bind_some, condE_true] <;> rfl) ⟨rfl, sm1.trans s2⟩
  | none =>
    rw [hf] at hw
    obtain rfl := hw
    have hno := firstIx_none hf
    have h0 : decide ((0 : Int) ≤ -1) = false := rfl
    have hA := H.lt
    have p2 := (s2.get _ (Nat.lt_of_lt_of_le hlt s1.next) (by simp)).trans p1
    refine Ok.eq ?_ (by simp -implicitDefEqProofs only [chk_nil, bin_geq, h0, Option.bind_some, condE_false, nilV_ptr, faP_ptr, Nat.zero_add, H2.ld0, ctable_eq H2, cl_some, rdC, ldA_row p2, clC_some] <;> rfl)
    refine ok_cl (number_new H2.tab hno hg' (by omega)) ?_
    rintro _ g3 ⟨rfl, s3, b9, hb9, T3⟩
    simp only at s3 hb9 T3
    have s12 := sm1.trans s2
    have n12 := s12.next
    have n23 := s3.next
    have inS : ∀ j ∈ A 2 :: A 3 :: (some (A 9)).toList, j < h.next := fun j hj => by
      have h2 := hA 2 (by decide)
      have h3 := hA 3 (by decide)
      have h9 := hA 9 (by decide)
      simp at hj; omega
    have fr3 : ∀ i, i < 11 → i ≠ 2 → i ≠ 3 → i ≠ 9 → A i ∉ A 2 :: A 3 :: (some (A 9)).toList := fun i hi e2 e3 e9 hm => by
      simp at hm
      rcases hm with e | e | e
      · exact e2 (H.inj i 2 hi (by decide) e)
      · exact e3 (H.inj i 3 hi (by decide) e)
      · exact e9 (H.inj i 9 hi (by decide) e)
    obtain ⟨v2, hv2, hs2⟩ := H2.hpb
    have n2 : h.next < g2.next := Nat.lt_of_lt_of_le hlt (Nat.le_trans s1.next s2.next)
    have p3 : g3.get h.next = some (.cells true s.row) := (s3.get _ n2 (fun hm => by have := inS _ hm; omega)).trans p2
    have hv3 : g3.get (A 0) = some (.cells true [.ptr (some (A 1, 0)), v2, .int .i64 F]) := (s3.get _ (by have := hA 0 (by decide); omega) (fr3 0 (by decide) (by decide) (by decide) (by decide))).trans hv2
    have hs3 := hs2.same s3 (fun i hi => by cases hi; exact fr3 10 (by decide) (by decide) (by decide) (by decide))
    -- the append
    have s4 : Same [] g3 ((hpN g3 1).put g3.next (some (.cells true s.row))) := ⟨Nat.le_succ _, fun j hj _ => by rw [get_put_ne (by omega)]; rfl⟩
    have p4 : ((hpN g3 1).put g3.next (some (.cells true s.row))).get g3.next = some (.cells true s.row) := get_put_eq
    have n4 : ((hpN g3 1).put g3.next (some (.cells true s.row))).next = g3.next + 1 := rfl
    have lv3 : ldS (hpN g3 1) (.ptr (some (A 0, 1))) = some v2 := by rw [ldS_at (show (hpN g3 1).get (A 0) = _ from hv3)]; rfl
    have la3 : ldA 3 (hpN g3 1) (.ptr (some (h.next, 0))) = some (.agg s.row) := ldA_row (show (hpN g3 1).get h.next = _ from p3)
    have bs1 : bsP 3 [(AV.int .i64 0), (AV.int .i64 0), (AV.int .u64 0)] 1 [(0, .agg s.row)] = some (.cells true s.row, fun i => .sl (some (i, 0)) 1 (.ex 1)) := bsP_one (t := .agg s.row) rfl rfl rfl
    have ma : mkAt Heap.put (bsP 3 [(AV.int .i64 0), (AV.int .i64 0), (AV.int .u64 0)] 1 [(0, .agg s.row)]) (g3.next + 0) (hpN g3 1) = some (.sl (some (g3.next, 0)) 1 (.ex 1), (hpN g3 1).put g3.next (some (.cells true s.row))) := by rw [bs1]; rfl
    refine Ok.eq ?_ (by simp -implicitDefEqProofs only [extractV_tup, e0, e1, Option.bind_some, chk_two (f := fun g => ldA 3 g (.ptr (some (h.next, 0)))) (same_row s) (ldA_row p2) (ldA_row p2), neq_int, decide_true, Bool.not_true, condE_false, nilV_ptr, faP_ptr, Nat.zero_add, lv3, la3, ma, cl_some] <;> rfl)
    generalize (hpN g3 1).put g3.next (some (.cells true s.row)) = g4 at *
    have hs4 := hs3.same s4 (fun _ _ => by simp)
    obtain ⟨v', g5, ha, hs5, s5, n5⟩ := appAt (bytes := 24) hs4 p4 rfl rfl (by decide) (by omega)
    have hA0 := hA 0 (by decide)
    have hA10 := hA 10 (by decide)
    have ne010 := H.ne 0 10
    have hv5 : g5.get (A 0) = some (.cells true [.ptr (some (A 1, 0)), v2, .int .i64 F]) := (s5.get _ (by omega) (by simp; exact ne010)).trans ((s4.get _ (by omega) (by simp)).trans hv3)
    have st : stP 1 g5 (.ptr (some (A 0, 1))) v' = some (.bot, g5.put (A 0) (some (.cells true [.ptr (some (A 1, 0)), v', .int .i64 F]))) := stP_one hv5 (by simp) hs5.scv
    have s6 : Same [A 0] g5 (g5.put (A 0) (some (.cells true [.ptr (some (A 1, 0)), v', .int .i64 F]))) := Same.put _ _ _
    have p6 : (g5.put (A 0) (some (.cells true [.ptr (some (A 1, 0)), v', .int .i64 F]))).get (A 0) = some (.cells true [.ptr (some (A 1, 0)), v', .int .i64 F]) := get_put_eq
    have n6 : (g5.put (A 0) (some (.cells true [.ptr (some (A 1, 0)), v', .int .i64 F]))).next = g5.next := rfl
    refine Ok.eq ?_ (by simp -implicitDefEqProofs only [ha, cl_some, nilV_ptr, Option.bind_some, faP_ptr, Nat.zero_add, st] <;> rfl)
    generalize g5.put (A 0) (some (.cells true [.ptr (some (A 1, 0)), v', .int .i64 F])) = g6 at *
    have l6 : ldS g6 (.ptr (some (A 0, 1))) = some v' := by rw [ldS_at p6]; rfl
    have hs6 := hs5.same s6 (fun i hi => by cases hi; simp; omega)
    have hw : IntKind.i64.wrap (((T.length + 1 : Nat) : Int) - 1) = (T.length : Int) := by rw [wrap_i64 (by omega) (by omega)]; omega
    -- all that stays
    have s46 : Same [A 0, A 10] g3 g6 := ⟨by omega, fun j hj hn => by
      simp at hn
      rw [s6.get _ (by omega) (by simp; exact hn.1), s5.get _ (by omega) (by simp; exact hn.2), s4.get _ (by omega) (by simp)]⟩
    have sAll : Same [A 0, A 2, A 3, A 9, A 10] h g6 := ⟨by omega, fun j hj hn => by
      simp at hn
      rw [s46.get _ (by omega) (by simp; omega), s3.get _ (by omega) (by simp; omega), s12.get _ hj (by simp)]⟩
    have nt : ∀ i, i < 11 → i ≠ 0 → i ≠ 2 → i ≠ 3 → i ≠ 9 → i ≠ 10 → A i ∉ [A 0, A 2, A 3, A 9, A 10] := fun i hi e0 e2 e3 e9 e10 hm => by
      simp at hm
      rcases hm with e | e | e | e | e
      · exact e0 (H.inj i 0 hi (by decide) e)
      · exact e2 (H.inj i 2 hi (by decide) e)
      · exact e3 (H.inj i 3 hi (by decide) e)
      · exact e9 (H.inj i 9 hi (by decide) e)
      · exact e10 (H.inj i 10 hi (by decide) e)
    refine ok_val (by simp -implicitDefEqProofs only [chk_nil, nilV_ptr, Option.bind_some, faP_ptr, Nat.zero_add, l6, hs6.lnL, bin_sub, hw] <;> rfl) ⟨rfl, b9, g4.next, by omega, by omega, ?_, sAll⟩
    obtain ⟨m, bl, d, u, hc⟩ := H.cyb
    have hb9' : b9 < g3.next := by
      obtain ⟨vv, _, hvv⟩ := T3.tbl
      exact (hvv.blk b9 rfl).1
    exact
    { hpb := ⟨v', by rw [moved_ne (by decide) (by decide), moved_ne (by decide) (by decide)]; exact p6, by rw [moved_10, shC_app, show shC [s] = s.row by simp [shC], List.length_append]; exact hs6⟩
      cyb := ⟨m, bl, d, u, by rw [moved_ne (by decide) (by decide), moved_ne (by decide) (by decide), moved_ne (by decide) (by decide), moved_ne (by decide) (by decide), sAll.get _ (hA 1 (by decide)) (nt 1 (by decide) (by decide) (by decide) (by decide) (by decide) (by decide))]; exact hc⟩
      tab := by
        rw [moved_ne (by decide) (by decide), moved_ne (by decide) (by decide), moved_9]
        have h2 := hA 2 (by decide)
        have h3 := hA 3 (by decide)
        have e20 := H.ne 2 0
        have e30 := H.ne 3 0
        have e210 := H.ne 2 10
        have e310 := H.ne 3 10
        exact T3.same s46 (by simp; omega) (by simp; omega) (fun i hi => by cases hi; simp; omega)
      al := by
        rw [moved_ne (by decide) (by decide), moved_ne (by decide) (by decide), moved_ne (by decide) (by decide), moved_ne (by decide) (by decide), moved_ne (by decide) (by decide)]
        exact H.al.same sAll (nt 4 (by decide) (by decide) (by decide) (by decide) (by decide) (by decide)) (nt 5 (by decide) (by decide) (by decide) (by decide) (by decide) (by decide)) (nt 6 (by decide) (by decide) (by decide) (by decide) (by decide) (by decide)) (nt 7 (by decide) (by decide) (by decide) (by decide) (by decide) (by decide)) (nt 8 (by decide) (by decide) (by decide) (by decide) (by decide) (by decide))
      fi := H.fi, wf := H.wf
      lt := fun i hi => by
        show _ < g6.next
        unfold moved
        split
        · omega
        · split
          · omega
          · have := hA i hi; omega
      pos := fun i hi => by
        have h0 := H.t0.pos
        unfold moved
        split
        · omega
        · split
          · omega
          · exact H.pos i hi
      inj := fun i j hi hj e => by
        unfold moved at e
        by_cases i9 : i = 9
        · rw [if_pos i9] at e
          by_cases j9 : j = 9
          · omega
          · rw [if_neg j9] at e
            by_cases j10 : j = 10
            · rw [if_pos j10] at e; omega
            · rw [if_neg j10] at e; have := hA j hj; omega
        · rw [if_neg i9] at e
          by_cases i10 : i = 10
          · rw [if_pos i10] at e
            by_cases j9 : j = 9
            · rw [if_pos j9] at e; omega
            · rw [if_neg j9] at e
              by_cases j10 : j = 10
              · omega
              · rw [if_neg j10] at e; have := hA j hj; omega
          · rw [if_neg i10] at e
            by_cases j9 : j = 9
            · rw [if_pos j9] at e; have := hA i hi; omega
            · rw [if_neg j9] at e
              by_cases j10 : j = 10
              · rw [if_pos j10] at e; have := hA i hi; omega
              · rw [if_neg j10] at e; exact H.inj i j hi hj e
      t0 := H.t0.same sAll (by
        have e0 := H.pos 0 (by decide)
        have e2 := H.pos 2 (by decide)
        have e3 := H.pos 3 (by decide)
        have e9 := H.pos 9 (by decide)
        have e10 := H.pos 10 (by decide)
        simp; omega) }
end
end Go.Ab.F

namespace Go.Ab.F
open Go Go.Ab
set_option linter.all false
set_option linter.all false
attribute [local congr] c_bind c_cl c_mk c_lp c_clC c_gQ c_gV c_condE c_thenK

/-! HeapPlays: the document's own numbers; what the statement keeps. -/
def bitB (b : BitVec 64) (i : Int) : Bool := decide (0 ≤ i) && b.getLsbD i.toNat
theorem refBit (b : BitVec 64) (i : Int) (h : Heap) : k_ref1_Bit (.int .u64 b.toNat) (.int .i64 i) h = some (.bool (bitB b i), h) := by
  by_cases h1 : 0 ≤ i
  · by_cases h2 : i < 64
    · have c : cvI .u64 (.int .i64 i) = some (.int .u64 ((i.toNat : Nat) : Int)) := by rw [cvI_int, wrap_u64 (by omega) (by omega)]; congr 2; omega
      have e : bitB b i = b.getLsbD i.toNat := by unfold bitB; simp [h1]
      rw [e]
      simp -implicitDefEqProofs only [k_ref1_Bit, bin_geq, h1, decide_true, Option.bind_some, gdW_tt, gQ_true, cl_some, bin_lss, h2, pickP_bool, if_true, c, shr_n, and_u64, ofInt_toNat, eql_int, bit_is1]
    · have e : bitB b i = false := by
        unfold bitB
        rw [BitVec.getLsbD_of_ge b i.toNat (by omega)]; simp
      rw [e]
      simp -implicitDefEqProofs only [k_ref1_Bit, bin_geq, h1, decide_true, decide_false, Option.bind_some, gdW_tt, gdW_ft, gQ_true, gQ_false, cl_some, bin_lss, h2, pickP_bool, if_true, Bool.false_eq_true, if_false]
  · have e : bitB b i = false := by unfold bitB; simp [h1]
    rw [e]
    simp -implicitDefEqProofs only [k_ref1_Bit, bin_geq, h1, decide_false, Option.bind_some, gdW_ft, gQ_false, pickP_bool, Bool.false_eq_true, if_false]
theorem shr_zero (b : BitVec 64) (n : Nat) : b >>> n = 0 ↔ ∀ i, n ≤ i → b.getLsbD i = false := by
  constructor
  · intro h i hi
    have : (b >>> n).getLsbD (i - n) = false := by rw [h]; simp
    rw [BitVec.getLsbD_ushiftRight, show n + (i - n) = i by omega] at this
    exact this
  · intro h
    apply BitVec.eq_of_getLsbD_eq
    intro i hi
    rw [BitVec.getLsbD_ushiftRight, h _ (by omega)]; simp
theorem goodShape_ok (s : Shp) (h : Heap) : Ok (k_ref1_GoodShape (.agg s.row) h) fun r => r.1 = .bool (goodB s) ∧ Same [] h r.2 := by
  have bx : bxP (.agg s.row) = some (.cells true s.row, fun i => .ptr (some (i, 0))) := rfl
  have hg := new_get h (.cells true s.row)
  have sm : Same [] h (h.new (.cells true s.row)) := Same.new _ _
  generalize hG : h.new (.cells true s.row) = g at *
  have l0 : ldS g (.ptr (some (h.next, 0 + 0))) = some (.int .i64 s.kind) := by rw [ldS_at hg]; rfl
  have l1 : ldS g (.ptr (some (h.next, 0 + 1))) = some (.int .i64 s.fields) := by rw [ldS_at hg]; rfl
  have l2 : ldS g (.ptr (some (h.next, 0 + 2))) = some (.int .u64 s.map.toNat) := by rw [ldS_at hg]; rfl
  have j1 : ∀ (q : AV), Ok (k_ref1_GoodShape_j1 (.ptr (some (h.next, 0))) q (.bool true) g) fun r => r.1 = .bool (decide (0 ≤ s.fields) && decide (s.fields ≤ 63) && decide (s.map >>> s.fields.toNat = 0)) ∧ Same [] h r.2 := by
    intro q
    by_cases h1 : s.fields < 0
    · have : ¬ 0 ≤ s.fields := by omega
      exact ok_val (v := .bool false) (g := g) (by simp -implicitDefEqProofs only [k_ref1_GoodShape_j1, condE_true, faP_ptr, Option.bind_some, l1, bin_lss, h1, decide_true, gdW_tf, gQ_false, pickP_bool, if_true]) ⟨by simp [this], sm⟩
    by_cases h2 : 63 < s.fields
    · have : ¬ s.fields ≤ 63 := by omega
      exact ok_val (v := .bool false) (g := g) (by simp -implicitDefEqProofs only [k_ref1_GoodShape_j1, condE_true, faP_ptr, Option.bind_some, l1, bin_lss, bin_gtr, h1, h2, decide_true, decide_false, gdW_ff, gQ_true, cl_some, pickP_bool, Bool.false_eq_true, if_false]) ⟨by simp [this], sm⟩
    obtain ⟨f, hf⟩ : ∃ f : Nat, s.fields = (f : Int) := ⟨s.fields.toNat, by omega⟩
    have lp0 : Ok (k_ref1_GoodShape_L0 (.ptr (some (h.next, 0))) (.bool false) (.int .i64 (f : Int)) g) fun r => r.2.2 = g ∧ ((r.1 = .exit 1 ∧ ∀ i, f ≤ i → s.map.getLsbD i = false) ∨ (r.1 = .ret ∧ r.2.1.getD 0 .bot = .bool false ∧ ∃ i, f ≤ i ∧ s.map.getLsbD i = true)) := by
      refine ok_loop (fun m vs g' => ∃ n : Nat, vs = [.bool false, .int .i64 n] ∧ m + n = 64 ∧ f ≤ n ∧ g' = g ∧ ∀ i, f ≤ i → i < n → s.map.getLsbD i = false) ?_ (n := 64 - f) (by omega) ⟨f, rfl, by omega, Nat.le_refl _, rfl, fun i h1 h2 => by omega⟩
      rintro m vs g' ⟨n, rfl, hm, hfn, hgg, hz⟩
      subst hgg
      rw [gd0, gd1]
      by_cases hn : n < 64
      · have hlt : (n : Int) < 64 := by omega
        have hb := refBit s.map (n : Int) g'
        have eb : bitB s.map (n : Int) = s.map.getLsbD n := by unfold bitB; simp
        rw [eb] at hb
        cases hbit : s.map.getLsbD n with
        | true =>
          rw [hbit] at hb
          exact (Ok.of (r := (.ret, [.bool false, .int .i64 (n : Int)], g')) (.inr ⟨by simp, rfl, .inr ⟨rfl, rfl, n, hfn, hbit⟩⟩)).eq (by simp -implicitDefEqProofs only [k_ref1_GoodShape_b0, bin_lss, hlt, decide_true, Option.bind_some, condE_true, faP_ptr, l2, hb, cl_some])
        | false =>
          rw [hbit] at hb
          refine (Ok.of (r := (.normal, [.bool false, .int .i64 ((n + 1 : Nat) : Int)], g')) (.inl ⟨rfl, m - 1, by omega, n + 1, rfl, by omega, by omega, rfl, fun i h1 h2 => ?_⟩)).eq (by simp -implicitDefEqProofs only [k_ref1_GoodShape_b0, bin_lss, hlt, decide_true, Option.bind_some, condE_true, faP_ptr, l2, hb, cl_some, condE_false, bin_add, suc64 n (by omega)])
          by_cases e : i = n
          · subst e; exact hbit
          · exact hz i h1 (by omega)
      · have hlt : ¬ (n : Int) < 64 := by omega
        refine (Ok.of (r := (.exit 1, [.bool false, .int .i64 (n : Int)], g')) (.inr ⟨by simp, rfl, .inl ⟨rfl, fun i h1 => ?_⟩⟩)).eq (by simp -implicitDefEqProofs only [k_ref1_GoodShape_b0, bin_lss, hlt, decide_false, Option.bind_some, condE_false])
        by_cases e : i < n
        · exact hz i h1 e
        · exact BitVec.getLsbD_of_ge _ _ (by omega)
    rw [hf] at l1
    have c1 : ¬ (f : Int) < 0 := by omega
    have c2 : ¬ (63 : Int) < (f : Int) := by omega
    have d : (decide (0 ≤ s.fields) && decide (s.fields ≤ 63) && decide (s.map >>> s.fields.toNat = 0)) = decide (s.map >>> f = 0) := by
      have e1 : 0 ≤ s.fields := by omega
      have e2 : s.fields ≤ 63 := by omega
      simp only [e1, e2, decide_true, Bool.true_and]
      rw [hf, Int.toNat_natCast]
    rw [d]
    refine Ok.eq ?_ (by simp -implicitDefEqProofs only [k_ref1_GoodShape_j1, condE_true, faP_ptr, Option.bind_some, l1, bin_lss, bin_gtr, c1, c2, decide_false, gdW_ff, gQ_true, cl_some, pickP_bool, Bool.false_eq_true, if_false, condE_false] <;> rfl)
    refine ok_lp lp0 ?_
    rintro e vs _ ⟨rfl, (⟨rfl, hz⟩ | ⟨rfl, hv, i, hi, hb⟩)⟩
    · have : decide (s.map >>> f = 0) = true := by rw [decide_eq_true_eq]; exact (shr_zero _ _).2 hz
      rw [this]
      exact ok_val (v := .bool true) (by simp -implicitDefEqProofs only [if_true, thenK_normal] <;> rfl) ⟨rfl, sm⟩
    · have : decide (s.map >>> f = 0) = false := by
        rw [decide_eq_false_iff_not, shr_zero]
        intro h
        rw [h i hi] at hb; cases hb
      rw [this]
      simp only at hv
      exact ok_val (v := .bool false) (by rw [← hv]; rfl) ⟨rfl, sm⟩
  have j0 : Ok (k_ref1_GoodShape_j0 (.ptr (some (h.next, 0))) (.bool true) g) fun r => r.1 = .bool (decide (s.fields = 0) && decide (s.map.toNat ≤ 1)) ∧ Same [] h r.2 := by
    by_cases h1 : s.fields = 0
    · have e : decide ((s.map.toNat : Int) ≤ 1) = decide (s.map.toNat ≤ 1) := by apply decide_eq_decide.2; omega
      exact ok_val (by simp -implicitDefEqProofs only [k_ref1_GoodShape_j0, condE_true, faP_ptr, Option.bind_some, l1, l2, eql_int, bin_leq, h1, decide_true, gdW_tt, gQ_true, cl_some, pickP_bool, if_true, e] <;> rfl) ⟨by simp [h1], sm⟩
    · exact ok_val (by simp -implicitDefEqProofs only [k_ref1_GoodShape_j0, condE_true, faP_ptr, Option.bind_some, l1, l2, eql_int, h1, decide_false, gdW_ft, gQ_false, cl_some, pickP_bool, Bool.false_eq_true, if_false] <;> rfl) ⟨by simp [h1], sm⟩
  unfold goodB
  by_cases k0 : s.kind = 0
  · rw [if_pos (.inl k0)]
    refine (j1 (.int .i64 s.kind)).eq (by simp -implicitDefEqProofs only [k_ref1_GoodShape, bx, mk_some, hG, faP_ptr, Option.bind_some, l0, eql_int, k0, decide_true, condE_true])
  · by_cases k2 : s.kind = 2
    · rw [if_pos (.inr k2)]
      refine (j1 (.int .i64 s.kind)).eq (by simp -implicitDefEqProofs only [k_ref1_GoodShape, bx, mk_some, hG, faP_ptr, Option.bind_some, l0, eql_int, k0, k2, decide_true, decide_false, condE_false] <;> rfl)
    · rw [if_neg (fun h => h.elim k0 k2)]
      have st : k_ref1_GoodShape (.agg s.row) h = k_ref1_GoodShape_j1 (.ptr (some (h.next, 0))) (.int .i64 s.kind) (.bool false) g := by
        simp -implicitDefEqProofs only [k_ref1_GoodShape, bx, mk_some, hG, faP_ptr, Option.bind_some, l0, eql_int, k0, k2, decide_false, condE_false]
      by_cases k1 : s.kind = 1
      · rw [if_pos (.inl k1)]
        exact j0.eq (by rw [st]; simp -implicitDefEqProofs only [k_ref1_GoodShape_j1, condE_false, eql_int, k1, decide_true, Option.bind_some, condE_true])
      · by_cases k3 : s.kind = 3
        · rw [if_pos (.inr k3)]
          exact j0.eq (by rw [st]; simp -implicitDefEqProofs only [k_ref1_GoodShape_j1, condE_false, eql_int, k1, k3, decide_true, decide_false, Option.bind_some] <;> rfl)
        · rw [if_neg (fun h => h.elim k1 k3)]
          exact ok_val (v := .bool false) (g := g) (by rw [st]; simp -implicitDefEqProofs only [k_ref1_GoodShape_j1, k_ref1_GoodShape_j0, condE_false, eql_int, k1, k3, decide_false, Option.bind_some]) ⟨rfl, sm⟩
end Go.Ab.F

namespace Go.Ab.F
open Go Go.Ab
set_option linter.all false
set_option linter.all false
attribute [local congr] c_bind c_cl c_mk c_lp c_clC c_gQ c_gV c_condE c_thenK

/-! HeapPlays: what the statement keeps; a read, a write. -/
structure Tg where
  ad : Int
  s : Shp
  n : Int
  vb : Nat
  vs : List Int
def Tg.row (t : Tg) : List AV := [.int .i64 t.ad, .int .i64 t.s.kind, .int .i64 t.s.fields, .int .u64 t.s.map.toNat, .int .i64 t.n, .sl (some (t.vb, 0)) t.vs.length (.ex t.vs.length)]
def tgC (l : List Tg) : List AV := (l.map Tg.row).flatten
theorem tgC_len (l : List Tg) : (tgC l).length = l.length * 6 := by
  induction l with
  | nil => rfl
  | cons a l ih => rw [show tgC (a :: l) = a.row ++ tgC l from rfl, List.length_append, ih]; simp [Tg.row]; omega
theorem tgC_at {l : List Tg} {i : Nat} {t : Tg} (h : l[i]? = some t) : span (tgC l) (i * 6) 6 = some t.row := by
  unfold tgC
  exact span_flat (l := l.map Tg.row) (fun r hr => by rw [List.mem_map] at hr; obtain ⟨x, _, rfl⟩ := hr; rfl) i t.row (by rw [List.getElem?_map, h]; rfl)
theorem tgC_cell {l : List Tg} {i j : Nat} {t : Tg} {x : AV} (h : l[i]? = some t) (hj : t.row[j]? = some x) : (tgC l)[i * 6 + j]? = some x := by
  have hs := tgC_at h
  have hl := span_le hs
  rw [span_some _ _ _ hl] at hs
  have hs := Option.some.inj hs
  rw [← hs, List.getElem?_take] at hj
  split at hj
  · rw [List.getElem?_drop] at hj; exact hj
  · cases hj
structure Act where
  op : Int
  sh : Int
  n : Int
  k : Int
  f : Int
  v : Int
  adr : Bool
  raw : Bool
  S : Shp
def Act.row (a : Act) : List AV := [.int .i64 a.op, .int .i64 a.sh, .int .i64 a.n, .int .i64 a.k, .int .i64 a.f, .int .i64 a.v, .bool a.adr, .bool a.raw, .int .i64 a.S.kind, .int .i64 a.S.fields, .int .u64 a.S.map.toNat]
def tgHd (t : Tg) (sx : Nat) : Int := t.n + 128 * t.s.kind + 1024 * sx
/-- A thing lies in the heap. -/
structure TgIn (l : PAl) (T : List Shp) (t : Tg) : Prop where
  sx : ∃ sx rest, T[sx]? = some t.s ∧ Lies l.ar t.ad (tgHd t sx :: t.vs ++ rest)
  n1 : 1 ≤ t.n
  n2 : t.n ≤ 64
  len : (t.vs.length : Int) + 1 = t.n
structure HpSt (g : Heap) (A : Nat → Nat) (l : PAl) (T : List Shp) (tg : List Tg) (q7 : AV) (b7 : Option Nat) (R : List Nat) : Prop where
  hp : HpAt g A l T 0
  q7 : SlB g b7 6 q7 (tgC tg) tg.length
  vb : ∀ (i : Nat) (t : Tg), tg[i]? = some t → t.vb < g.next ∧ g.get t.vb = some (.cells true (wsC t.vs)) ∧ (∀ i, i < 11 → A i ≠ t.vb) ∧ b7 ≠ some t.vb ∧ t.vb ∉ R ∧ t.vb ≠ 0
  vd : ∀ (i j : Nat) (t u : Tg), tg[i]? = some t → tg[j]? = some u → t.vb = u.vb → i = j
  ti : ∀ (i : Nat) (t : Tg), tg[i]? = some t → TgIn l T t
  cov : ∀ ad, l.ar.find ad ≠ none → ∃ (i : Nat) (t : Tg), tg[i]? = some t ∧ t.ad = ad
  dis : ∀ (i j : Nat) (t u : Tg), tg[i]? = some t → tg[j]? = some u → t.ad = u.ad → i = j
  b7n : ∀ i, b7 = some i → i ∉ R ∧ i ≠ 0 ∧ ∀ j, j < 11 → A j ≠ i
  len : tg.length ≤ 60
section
variable {g : Heap} {A : Nat → Nat} {l : PAl} {T : List Shp} {tg : List Tg} {q7 : AV} {b7 : Option Nat} {R : List Nat}
theorem HpSt.keep {g' : Heap} (P : HpSt g A l T tg q7 b7 R) (s : Same [] g g') : HpSt g' A l T tg q7 b7 R :=
  { P with
    hp := P.hp.keep s
    q7 := P.q7.same s (fun _ _ => by simp)
    vb := fun i t ht => by
      obtain ⟨h1, h2, h3⟩ := P.vb i t ht
      exact ⟨Nat.lt_of_lt_of_le h1 s.next, (s.get _ h1 (by simp)).trans h2, h3⟩ }
theorem TgIn.of {t : Tg} (I : TgIn l T t) (W : Wf l.ar) (hT : T.length ≤ 60000) (hg : ∀ s ∈ T, goodB s = true) : ∃ sx : Nat, T[sx]? = some t.s ∧ ofP l.ar T t.ad = some ((t.n, t.s.kind, (sx : Int)), t.s) := by
  obtain ⟨sx, rest, hs, L⟩ := I.sx
  have hk := good_kind (hg _ (List.mem_of_getElem? hs))
  have hl := (List.getElem?_eq_some_iff.1 hs).1
  exact ⟨sx, hs, ofP_lies W L rfl ⟨I.n1, I.n2, hk.1, hk.2, by omega, by omega⟩ hs⟩
theorem HpSt.none (P : HpSt g A l T tg q7 b7 R) {ad : Int} (h : ∀ (i : Nat) (t : Tg), tg[i]? = some t → t.ad ≠ ad) : ofP l.ar T ad = none := by
  refine ofP_none ?_
  cases hf : l.ar.find ad with
  | none => rfl
  | some x =>
    obtain ⟨i, t, ht, e⟩ := P.cov ad (by rw [hf]; simp)
    exact absurd e (h i t ht)
/-- A thing's word is written, in the heap. -/
theorem HpSt.wrote {g' : Heap} {k : Nat} {t : Tg} {f : Nat} {v : Int} (P : HpSt g A l T tg q7 b7 R) (ht : tg[k]? = some t) (hf : f < t.vs.length) (H' : HpAt g' A ⟨(l.ar.write t.ad ((f : Int) + 1) v).2, l.un⟩ T 0) (s : Same [A 7] g g') :
    ∃ g2 l2, stP 1 g' (.ptr (some (t.vb, f))) (.int .i64 v) = some (.bot, g2) ∧ Same [A 7, t.vb] g g2 ∧ HpSt g2 A l2 T (tg.set k { t with vs := t.vs.set f v }) q7 b7 R ∧ l2.ar.sp = l.ar.sp := by
  obtain ⟨v1, v2, v3, v4, v5, v6⟩ := P.vb k t ht
  have h7 := v3 7 (by decide)
  have hget : g'.get t.vb = some (.cells true (wsC t.vs)) := (s.get _ v1 (by simp; exact fun e => h7 e.symm)).trans v2
  have hset : (wsC t.vs).set f (.int .i64 v) = wsC (t.vs.set f v) := by simp [wsC, List.map_set]
  have st : stP 1 g' (.ptr (some (t.vb, f))) (.int .i64 v) = some (.bot, g'.put t.vb (some (.cells true (wsC (t.vs.set f v))))) := by
    rw [stP_one hget (by rw [wsC_len]; exact hf) rfl, hset]
  have s2 : Same [t.vb] g' (g'.put t.vb (some (.cells true (wsC (t.vs.set f v))))) := Same.put _ _ _
  have s12 : Same [A 7, t.vb] g (g'.put t.vb (some (.cells true (wsC (t.vs.set f v))))) := (s.sub (by simp)).trans (s2.sub (by simp))
  obtain ⟨sx, rest, hsx, L⟩ := (P.ti k t ht).sx
  obtain ⟨b, eb, wb, bs, lb, lo⟩ := L.write P.hp.wf (k := (f : Int) + 1) ⟨by omega, by simp; omega⟩ v
  rw [eb] at H'
  have hl : (tg.set k { t with vs := t.vs.set f v }).length = tg.length := List.length_set ..
  have hkl := (List.getElem?_eq_some_iff.1 ht).1
  have gt : ∀ (i : Nat) (u : Tg), (tg.set k { t with vs := t.vs.set f v })[i]? = some u → (i = k ∧ u = { t with vs := t.vs.set f v }) ∨ (i ≠ k ∧ tg[i]? = some u) := fun i u hu => by
    by_cases e : i = k
    · subst e; rw [List.getElem?_set_self hkl] at hu; exact .inl ⟨rfl, (Option.some.inj hu).symm⟩
    · rw [List.getElem?_set_ne (fun e' => e e'.symm)] at hu; exact .inr ⟨e, hu⟩
  have same_rows : tgC (tg.set k { t with vs := t.vs.set f v }) = tgC tg := by
    unfold tgC
    congr 1
    rw [List.map_set]
    apply List.ext_getElem?
    intro i
    by_cases e : i = k
    · subst e
      rw [List.getElem?_set_self (by simpa using hkl), List.getElem?_map, ht]
      simp [Tg.row]
    · rw [List.getElem?_set_ne (fun e' => e e'.symm)]
  refine ⟨_, ⟨b, l.un⟩, st, s12, ?_, bs⟩
  exact
  { hp := H'.mono s2 (fun i hi => by simp; exact v3 i hi) (by simp; exact fun e => v6 e.symm)
    q7 := by
      rw [same_rows, hl]
      refine P.q7.same s12 (fun i hi hm => ?_)
      obtain ⟨_, _, h⟩ := P.b7n i hi
      simp at hm
      rcases hm with e | e
      · exact h 7 (by decide) e.symm
      · exact v4 (by rw [hi, e])
    vb := fun i u hu => by
      rcases gt i u hu with ⟨rfl, rfl⟩ | ⟨hne, hu'⟩
      · exact ⟨Nat.lt_of_lt_of_le v1 s12.next, get_put_eq, v3, v4, v5, v6⟩
      · obtain ⟨u1, u2, u3, u4, u5, u6⟩ := P.vb i u hu'
        have h7' := u3 7 (by decide)
        refine ⟨Nat.lt_of_lt_of_le u1 s12.next, (s12.get _ u1 (fun hm => ?_)).trans u2, u3, u4, u5, u6⟩
        simp at hm
        rcases hm with e | e
        · exact h7' e.symm
        · exact hne (P.vd i k u t hu' ht e)
    vd := fun i j u w hu hw e => by
      rcases gt i u hu with ⟨rfl, rfl⟩ | ⟨hne, hu'⟩
      · rcases gt j w hw with ⟨rfl, rfl⟩ | ⟨hne', hw'⟩
        · rfl
        · exact P.vd _ _ t w ht hw' e
      · rcases gt j w hw with ⟨rfl, rfl⟩ | ⟨hne', hw'⟩
        · exact P.vd _ _ u t hu' ht e
        · exact P.vd _ _ u w hu' hw' e
    ti := fun i u hu => by
      rcases gt i u hu with ⟨rfl, rfl⟩ | ⟨hne, hu'⟩
      · refine ⟨⟨sx, rest, hsx, ?_⟩, (P.ti _ t ht).n1, (P.ti _ t ht).n2, by rw [List.length_set]; exact (P.ti _ t ht).len⟩
        rw [show ((f : Int) + 1).toNat = f + 1 by omega] at lb
        have : (tgHd t sx :: t.vs ++ rest).set (f + 1) v = tgHd t sx :: (t.vs.set f v) ++ rest := by
          simp only [List.cons_append, List.set_cons_succ]
          rw [List.set_append_left _ _ hf]
        rw [this] at lb
        exact lb
      · obtain ⟨⟨sx', rest', h1, L'⟩, h2, h3, h4⟩ := P.ti i u hu'
        exact ⟨⟨sx', rest', h1, lo _ _ (fun e => hne (P.dis i k u t hu' ht e)) L'⟩, h2, h3, h4⟩
    cov := fun ad had => by
      rw [find_sp bs] at had
      obtain ⟨i, u, hu, e⟩ := P.cov ad had
      by_cases ei : i = k
      · subst ei
        rw [ht] at hu; cases hu
        exact ⟨i, _, List.getElem?_set_self hkl, e⟩
      · exact ⟨i, u, by rw [List.getElem?_set_ne (fun e' => ei e'.symm)]; exact hu, e⟩
    dis := fun i j u w hu hw e => by
      rcases gt i u hu with ⟨rfl, rfl⟩ | ⟨hne, hu'⟩
      · rcases gt j w hw with ⟨rfl, rfl⟩ | ⟨hne', hw'⟩
        · rfl
        · exact P.dis _ _ t w ht hw' e
      · rcases gt j w hw with ⟨rfl, rfl⟩ | ⟨hne', hw'⟩
        · exact P.dis _ _ u t hu' ht e
        · exact P.dis _ _ u w hu' hw' e
    b7n := P.b7n
    len := by rw [hl]; exact P.len }
theorem HpSt.ix (P : HpSt g A l T tg q7 b7 R) {k : Nat} {t : Tg} (ht : tg[k]? = some t) : ∃ b, (∀ kk, iaS 6 q7 (.int kk (k : Int)) = some (.ptr (some (b, k * 6)))) ∧ b7 = some b ∧
    ∀ {g' : Heap}, Same [] g g' → ∀ (j : Nat) x, t.row[j]? = some x → ldS g' (.ptr (some (b, k * 6 + j))) = some x := by
  have hk := (List.getElem?_eq_some_iff.1 ht).1
  obtain ⟨b, hb, hix⟩ := P.q7.ix hk
  refine ⟨b, hix, hb, fun {g'} s j x hx => ?_⟩
  rw [ldS_at (((P.keep s).q7.blk b hb).2.1), tgC_cell ht hx]
/-- What the statement holds of an answer. -/
theorem pl_j0 (P : HpSt g A l T tg q7 b7 R) {x : Act} {p : Nat} (hp : g.get p = some (.cells true x.row)) (hp0 : p ∉ [A 7]) {kk : Int} {rest : List AV} {want got val f : Int}
    (hg : got = want) (h0 : want ≠ 0 → val = 0) (hz : want = 0 → ∃ (k : Nat) (t : Tg) (j : Nat), kk = k ∧ tg[k]? = some t ∧ f = j ∧ j < t.vs.length ∧ (x.op = 2 ∨ x.op = 4 → False) ∧ t.vs[j]? = some val) :
    Ok (k_law14_played_j0 q7 (.ptr (some (p, 0))) (.int .i64 kk :: rest) (.int .i64 want) (.int .i64 f) (.int .i64 val) (.int .i64 got) g) fun r => r.1 = .bool true ∧ Same [] g r.2 := by
  subst hg
  by_cases hw : got = 0
  · obtain ⟨k, t, j, rfl, ht, rfl, hj, hno, hv⟩ := hz hw
    obtain ⟨b, hix, hb, hld⟩ := P.ix ht
    obtain ⟨v1, v2, _⟩ := P.vb k t ht
    have lop : ldS g (.ptr (some (p, 0))) = some (.int .i64 x.op) := by rw [ldS_at hp]; rfl
    have n2 : decide (x.op = 2) = false := by simp; intro h; exact hno (.inl h)
    have n4 : decide (x.op = 4) = false := by simp; intro h; exact hno (.inr h)
    have lv := hld (Same.refl [] g) 5 _ rfl
    have iv : iaS 1 (.sl (some (t.vb, 0)) t.vs.length (.ex t.vs.length)) (.int .i64 (j : Int)) = some (.ptr (some (t.vb, j))) := by
      rw [iaS_sl 1 (t.vb, 0) _ _ .i64 _ ⟨by omega, by omega⟩]; simp
    have lw : ldS g (.ptr (some (t.vb, j))) = some (.int .i64 val) := by
      rw [ldS_at v2]; simp [wsC, hv]
    have dw : decide (got = 0) = true := by simp [hw]
    exact ok_val (v := .bool true) (g := g) (by
      simp -implicitDefEqProofs only [k_law14_played_j0, neq_int, decide_true, Bool.not_true, Option.bind_some, condE_false, dw, faP_ptr, Nat.zero_add, lop, eql_int, n2, gdW_ff, gQ_true, cl_some, n4, pickP_bool, Bool.false_eq_true, if_false, gd0, hix, lv, iv, lw]) ⟨rfl, Same.refl _ _⟩
  · have dw : decide (got = 0) = false := by simp [hw]
    have dv : decide (val = 0) = true := by simp [h0 hw]
    exact ok_val (v := .bool true) (g := g) (by
      simp -implicitDefEqProofs only [k_law14_played_j0, neq_int, decide_true, Bool.not_true, Option.bind_some, condE_false, dw, Bool.not_false, condE_true, eql_int, dv]) ⟨rfl, Same.refl _ _⟩
/-- A write that was let. -/
theorem pl_j0w {g' : Heap} (P : HpSt g A l T tg q7 b7 R) {x : Act} {p : Nat} (hp : g'.get p = some (.cells true x.row)) {k j : Nat} {t : Tg} {rest : List AV} {val : Int} (ht : tg[k]? = some t) (hj : j < t.vs.length) (hop : x.op = 2 ∨ x.op = 4)
    (H' : HpAt g' A ⟨(l.ar.write t.ad ((j : Int) + 1) x.v).2, l.un⟩ T 0) (s : Same [A 7] g g') :
    Ok (k_law14_played_j0 q7 (.ptr (some (p, 0))) (.int .i64 (k : Int) :: rest) (.int .i64 0) (.int .i64 (j : Int)) (.int .i64 val) (.int .i64 0) g') fun r => r.1 = .bool true ∧ ∃ l2 tg2, HpSt r.2 A l2 T tg2 q7 b7 R ∧ tg2.length = tg.length ∧ l2.ar.sp = l.ar.sp ∧ Same [A 7, t.vb] g r.2 := by
  obtain ⟨b, hix, hb, _⟩ := P.ix ht
  obtain ⟨q1, q2, q3⟩ := P.b7n b hb
  have hk := (List.getElem?_eq_some_iff.1 ht).1
  have lop : ldS g' (.ptr (some (p, 0))) = some (.int .i64 x.op) := by rw [ldS_at hp]; rfl
  have lxv : ldS g' (.ptr (some (p, 5))) = some (.int .i64 x.v) := by rw [ldS_at hp]; rfl
  have h7 := q3 7 (by decide)
  have q7' := P.q7.same s (fun i hi => by rw [hb] at hi; cases hi; simp; exact fun e => h7 e.symm)
  have lv : ldS g' (.ptr (some (b, k * 6 + 5))) = some (.sl (some (t.vb, 0)) t.vs.length (.ex t.vs.length)) := by rw [ldS_at ((q7'.blk b hb).2.1), tgC_cell ht rfl]
  have iv : iaS 1 (.sl (some (t.vb, 0)) t.vs.length (.ex t.vs.length)) (.int .i64 (j : Int)) = some (.ptr (some (t.vb, j))) := by
    rw [iaS_sl 1 (t.vb, 0) _ _ .i64 _ ⟨by omega, by omega⟩]; simp
  obtain ⟨g2, l2, st, s2, P2, hsp⟩ := P.wrote ht hj H' s
  have d0 : decide ((0 : Int) = 0) = true := rfl
  have hb24 : ∀ {R' : Type} (K : AV → Heap → Option R'), True := fun _ => trivial
  refine ok_val (v := .bool true) (g := g2) ?_ ⟨rfl, l2, _, P2, List.length_set .., hsp, s2⟩
  rcases hop with h | h
  · have e2 : decide (x.op = 2) = true := by simp [h]
    simp -implicitDefEqProofs only [k_law14_played_j0, neq_int, decide_true, Bool.not_true, Option.bind_some, condE_false, faP_ptr, Nat.zero_add, lop, eql_int, e2, gdW_tf, gQ_false, pickP_bool, if_true, condE_true, gd0, hix, lv, lxv, iv, st, cl_some, chk_nil]
  · have e2 : decide (x.op = 2) = false := by simp [h]
    have e4 : decide (x.op = 4) = true := by simp [h]
    simp -implicitDefEqProofs only [k_law14_played_j0, neq_int, decide_true, Bool.not_true, Option.bind_some, condE_false, faP_ptr, Nat.zero_add, lop, eql_int, e2, gdW_ff, gQ_true, cl_some, e4, pickP_bool, Bool.false_eq_true, if_false, condE_true, gd0, hix, lv, lxv, iv, st, chk_nil]
end
end Go.Ab.F

namespace Go.Ab.F
open Go Go.Ab
set_option linter.all false
set_option linter.all false
attribute [local congr] c_bind c_cl c_mk c_lp c_clC c_gQ c_gV c_condE c_thenK

/-! HeapPlays: one read or write. -/
section
variable {g : Heap} {A : Nat → Nat} {l : PAl} {T : List Shp} {tg : List Tg} {q7 : AV} {b7 : Option Nat} {R : List Nat}
theorem tg_read {t : Tg} (I : TgIn l T t) (W : Wf l.ar) {j : Nat} (hj : j < t.vs.length) : ∃ x, t.vs[j]? = some x ∧ (l.ar.read t.ad ((j : Int) + 1)).1 = x := by
  obtain ⟨sx, rest, _, L⟩ := I.sx
  obtain ⟨x, hx⟩ : ∃ x, t.vs[j]? = some x := ⟨_, List.getElem?_eq_getElem hj⟩
  refine ⟨x, hx, ?_⟩
  rw [L.read W, if_pos ⟨by omega, by simp; omega⟩]
  simp only
  rw [show ((j : Int) + 1).toNat = j + 1 by omega, List.cons_append, List.getElem?_cons_succ, List.getElem?_append_left hj, hx]; rfl
/-- Behind an act. -/
def Done (g : Heap) (A : Nat → Nat) (l : PAl) (T : List Shp) (tg : List Tg) (q7 : AV) (b7 : Option Nat) (R : List Nat) (r : AV × Heap) : Prop :=
  r.1 = .bool true ∧ g.next ≤ r.2.next ∧ (∀ j, j ∈ R → j < g.next → r.2.get j = g.get j) ∧ ∃ l2 tg2, HpSt r.2 A l2 T tg2 q7 b7 R ∧ tg2.length = tg.length ∧ l2.ar.sp = l.ar.sp
theorem done_same (P : HpSt g A l T tg q7 b7 R) {v : AV} {g' : Heap} (hv : v = .bool true) (s : Same [] g g') : Done g A l T tg q7 b7 R (v, g') :=
  ⟨hv, s.next, fun j _ hl => s.get j hl (by simp), l, tg, P.keep s, rfl, rfl⟩
theorem pl_j1' (P : HpSt g A l T tg q7 b7 R) (hAR : ∀ i, i < 11 → A i ∉ R) {x : Act} {p : Nat} (hp : g.get p = some (.cells true x.row)) (hpl : p < g.next) (hpA : p ≠ A 7) {ad kf want f : Int} {rest : List AV} (hf0 : x.op = 1 ∨ x.op = 2 ∨ x.op = 3 ∨ x.op = 4 ∨ x.op = 5)
    (w12 : x.op = 1 ∨ x.op = 2 → x.f = x.f % 128 → want = if flP (ofP l.ar T ad) x.f x.adr = true then 0 else 1)
    (w34 : x.op = 3 ∨ x.op = 4 → want = elP (ofP l.ar T ad) x.f x.adr)
    (w5 : x.op = 5 → want = 1 ∧ lenP (ofP l.ar T ad) = (0, 1))
    (z : want = 0 → (x.op = 1 ∨ x.op = 2 → x.f = x.f % 128) → ∃ (k : Nat) (t : Tg) (j : Nat), kf = k ∧ tg[k]? = some t ∧ t.ad = ad ∧ f = j ∧ x.f = j ∧ j < t.vs.length) :
    Ok (k_law14_played_j1 (.ptr (some (A 0, 0))) q7 (.ptr (some (p, 0))) (.int .i64 ad) (.int .i64 kf :: rest) (.int .i64 want) (.int .i64 f) g) (Done g A l T tg q7 b7 R) := by
  have lx : ∀ {g' : Heap}, g'.get p = some (.cells true x.row) → ldS g' (.ptr (some (p, 0))) = some (.int .i64 x.op) ∧ ldS g' (.ptr (some (p, 4))) = some (.int .i64 x.f) ∧ ldS g' (.ptr (some (p, 5))) = some (.int .i64 x.v) ∧ ldS g' (.ptr (some (p, 6))) = some (.bool x.adr) := fun {g'} h => by
    refine ⟨?_, ?_, ?_, ?_⟩ <;> rw [ldS_at h] <;> rfl
  obtain ⟨x0, x4, x5, x6⟩ := lx hp
  have hmask := and_mask x.f 7 (by decide)
  rw [show ((2 ^ 7 - 1 : Nat) : Int) = 127 from rfl, show ((2 ^ 7 : Nat) : Int) = 128 from rfl] at hmask
  have fin0 : ∀ {g' : Heap} {val got : Int}, Same [] g g' → got = want → (want ≠ 0 → val = 0) → (want = 0 → ∃ (k : Nat) (t : Tg) (j : Nat), kf = k ∧ tg[k]? = some t ∧ f = j ∧ j < t.vs.length ∧ (x.op = 2 ∨ x.op = 4 → False) ∧ t.vs[j]? = some val) →
      Ok (k_law14_played_j0 q7 (.ptr (some (p, 0))) (.int .i64 kf :: rest) (.int .i64 want) (.int .i64 f) (.int .i64 val) (.int .i64 got) g') (Done g A l T tg q7 b7 R) := fun {g' val got} s h1 h2 h3 => by
    have P' := P.keep s
    refine (pl_j0 P' ((s.get _ hpl (by simp)).trans hp) (by simp; exact hpA) h1 h2 h3).mono ?_
    rintro ⟨v, g''⟩ ⟨hv, s'⟩
    exact done_same P hv (s.trans s')
  have finw : ∀ {g' : Heap} {k j : Nat} {t : Tg}, tg[k]? = some t → j < t.vs.length → kf = k → f = j → t.ad = ad → want = 0 → (x.op = 2 ∨ x.op = 4) → HpAt g' A ⟨(l.ar.write t.ad ((j : Int) + 1) x.v).2, l.un⟩ T 0 → Same [A 7] g g' →
      Ok (k_law14_played_j0 q7 (.ptr (some (p, 0))) (.int .i64 kf :: rest) (.int .i64 want) (.int .i64 f) (.int .i64 0) (.int .i64 0) g') (Done g A l T tg q7 b7 R) := fun {g' k j t} ht hj hk hf ha hw hop H' s => by
    subst hk; subst hf; subst hw
    refine (pl_j0w P ((s.get _ hpl (by simp; exact hpA)).trans hp) ht hj hop H' s).mono ?_
    rintro ⟨v, g''⟩ ⟨hv, l2, tg2, P2, hl, hsp, s2⟩
    obtain ⟨_, _, v3, _, v5, _⟩ := P.vb k t ht
    refine ⟨hv, s2.next, fun i hi hlt => s2.get i hlt (fun hm => ?_), l2, tg2, P2, hl, hsp⟩
    simp at hm
    rcases hm with e | e
    · exact hAR 7 (by decide) (e ▸ hi)
    · exact v5 (e ▸ hi)
  by_cases h1 : x.op = 1
  · have d1 : decide (x.op = 1) = true := by simp [h1]
    refine Ok.eq ?_ (by simp -implicitDefEqProofs only [k_law14_played_j1, faP_ptr, Nat.zero_add, Option.bind_some, x0, eql_int, d1, condE_true, x4, hmask, x6] <;> rfl)
    refine ok_cl (get_ok' P.hp ad (x.f % 128) x.adr) ?_
    rintro _ g1 ⟨rfl, s1⟩
    simp only at s1
    obtain ⟨y0, y4, y5, y6⟩ := lx ((s1.get _ hpl (by simp)).trans hp)
    by_cases hf : x.f = x.f % 128
    · have df : (!decide (x.f = x.f % 128)) = false := by rw [← hf]; simp
      refine Ok.eq ?_ (by simp -implicitDefEqProofs only [extractV_tup, e0, e1, Option.bind_some, faP_ptr, Nat.zero_add, y4, hmask, neq_int, df, condE_false] <;> rfl)
      rw [← hf]
      have hw := w12 (.inl h1) hf
      refine fin0 s1 (by rw [hw]) (fun h => ?_) (fun h => ?_)
      · rw [hw] at h
        by_cases hfl : flP (ofP l.ar T ad) x.f x.adr = true
        · rw [if_pos hfl] at h; exact absurd rfl h
        · rw [if_neg hfl]
      · rw [hw] at h
        by_cases hfl : flP (ofP l.ar T ad) x.f x.adr = true
        · rw [if_pos hfl]
          obtain ⟨k, t, j, hk, ht, ha, hfj, hxj, hj⟩ := z (by rw [hw, if_pos hfl]) (fun _ => hf)
          obtain ⟨y, hy, hr⟩ := tg_read (P.ti k t ht) P.hp.wf hj
          refine ⟨k, t, j, hk, ht, hfj, hj, fun h => by omega, ?_⟩
          rw [← ha, hxj, hr]; exact hy
        · rw [if_neg hfl] at h; omega
    · have df : (!decide (x.f = x.f % 128)) = true := by simp [hf]
      exact ok_val (v := .bool true) (g := g1) (by simp -implicitDefEqProofs only [extractV_tup, e0, e1, Option.bind_some, faP_ptr, Nat.zero_add, y4, hmask, neq_int, df, condE_true]) (done_same P rfl s1)
  have d1 : decide (x.op = 1) = false := by simp [h1]
  by_cases h2 : x.op = 2
  · have d2 : decide (x.op = 2) = true := by simp [h2]
    by_cases hf : x.f = x.f % 128
    · have df : (!decide (x.f = x.f % 128)) = false := by rw [← hf]; simp
      refine Ok.eq ?_ (by simp -implicitDefEqProofs only [k_law14_played_j1, faP_ptr, Nat.zero_add, Option.bind_some, x0, eql_int, d1, condE_false, d2, condE_true, x4, hmask, neq_int, df, x5, x6] <;> rfl)
      refine ok_cl (set_ok' P.hp ad x.f x.v x.adr true (.int .i64 1)) ?_
      rintro _ g1 ⟨rfl, H1, s1⟩
      simp only at H1 s1
      have hw := w12 (.inr h2) hf
      by_cases hfl : flP (ofP l.ar T ad) x.f x.adr = true
      · rw [if_pos hfl] at hw ⊢
        unfold PAl.wr at H1
        rw [if_pos hfl] at H1
        obtain ⟨k, t, j, hk, ht, ha, hfj, hxj, hj⟩ := z hw (fun _ => hf)
        rw [hxj, ← ha] at H1
        exact finw ht hj hk hfj ha hw (.inl h2) H1 s1
      · rw [if_neg hfl] at hw ⊢
        unfold PAl.wr at H1
        rw [if_neg hfl] at H1
        have P1 : HpSt g1 A l T tg q7 b7 R :=
          { P with
            hp := H1
            q7 := P.q7.same s1 (fun i hi => by obtain ⟨_, _, h⟩ := P.b7n i hi; have := h 7 (by decide); simp; exact fun e => this e.symm)
            vb := fun i t ht => by
              obtain ⟨u1, u2, u3, u4⟩ := P.vb i t ht
              have := u3 7 (by decide)
              exact ⟨Nat.lt_of_lt_of_le u1 s1.next, (s1.get _ u1 (by simp; exact fun e => this e.symm)).trans u2, u3, u4⟩ }
        have hp1 : g1.get p = some (.cells true x.row) := (s1.get _ hpl (by simp; exact hpA)).trans hp
        refine (pl_j0 P1 hp1 (by simp; exact hpA) (by rw [hw]) (fun _ => rfl) (fun h => by omega)).mono ?_
        rintro ⟨v, g''⟩ ⟨hv, s'⟩
        exact ⟨hv, Nat.le_trans s1.next s'.next, fun i hi hlt => (s'.get i (Nat.lt_of_lt_of_le hlt s1.next) (by simp)).trans (s1.get i hlt (by simp; exact fun e => hAR 7 (by decide) (e ▸ hi))), l, tg, P1.keep s', rfl, rfl⟩
    · have df : (!decide (x.f = x.f % 128)) = true := by simp [hf]
      exact ok_val (v := .bool true) (g := g) (by simp -implicitDefEqProofs only [k_law14_played_j1, faP_ptr, Nat.zero_add, Option.bind_some, x0, eql_int, d1, condE_false, d2, condE_true, x4, hmask, neq_int, df]) (done_same P rfl (Same.refl _ _))
  have d2 : decide (x.op = 2) = false := by simp [h2]
  by_cases h3 : x.op = 3
  · have d3 : decide (x.op = 3) = true := by simp [h3]
    have hw := w34 (.inl h3)
    refine Ok.eq ?_ (by simp -implicitDefEqProofs only [k_law14_played_j1, faP_ptr, Nat.zero_add, Option.bind_some, x0, eql_int, d1, d2, condE_false, d3, condE_true, x4, x6] <;> rfl)
    refine ok_cl (at_ok P.hp ad x.f x.adr) ?_
    rintro _ g1 ⟨rfl, s1⟩
    simp only at s1
    refine Ok.eq ?_ (by simp -implicitDefEqProofs only [extractV_tup, e0, e1, Option.bind_some] <;> rfl)
    refine fin0 s1 (by rw [hw]) (fun h => ?_) (fun h => ?_)
    · rw [hw] at h; rw [if_neg h]
    · rw [hw] at h
      rw [if_pos h]
      obtain ⟨k, t, j, hk, ht, ha, hfj, hxj, hj⟩ := z (by rw [hw]; exact h) (fun h => h.elim (fun h => absurd h h1) (fun h => absurd h h2))
      obtain ⟨y, hy, hr⟩ := tg_read (P.ti k t ht) P.hp.wf hj
      refine ⟨k, t, j, hk, ht, hfj, hj, fun h => by omega, ?_⟩
      rw [← ha, hxj, hr]; exact hy
  have d3 : decide (x.op = 3) = false := by simp [h3]
  by_cases h4 : x.op = 4
  · have d4 : decide (x.op = 4) = true := by simp [h4]
    have hw := w34 (.inr h4)
    refine Ok.eq ?_ (by simp -implicitDefEqProofs only [k_law14_played_j1, faP_ptr, Nat.zero_add, Option.bind_some, x0, eql_int, d1, d2, d3, condE_false, d4, condE_true, x4, x5, x6] <;> rfl)
    refine ok_cl (put_ok P.hp ad x.f x.v x.adr true (.int .i64 1)) ?_
    rintro _ g1 ⟨rfl, H1, s1⟩
    simp only at H1 s1
    by_cases hz : elP (ofP l.ar T ad) x.f x.adr = 0
    · unfold PAl.wr at H1
      rw [if_pos hz] at H1
      rw [hz] at hw ⊢
      obtain ⟨k, t, j, hk, ht, ha, hfj, hxj, hj⟩ := z hw (fun h => h.elim (fun h => absurd h h1) (fun h => absurd h h2))
      rw [hxj, ← ha] at H1
      exact finw ht hj hk hfj ha hw (.inr h4) H1 s1
    · unfold PAl.wr at H1
      rw [if_neg hz] at H1
      have P1 : HpSt g1 A l T tg q7 b7 R :=
        { P with
          hp := H1
          q7 := P.q7.same s1 (fun i hi => by obtain ⟨_, _, h⟩ := P.b7n i hi; have := h 7 (by decide); simp; exact fun e => this e.symm)
          vb := fun i t ht => by
            obtain ⟨u1, u2, u3, u4⟩ := P.vb i t ht
            have := u3 7 (by decide)
            exact ⟨Nat.lt_of_lt_of_le u1 s1.next, (s1.get _ u1 (by simp; exact fun e => this e.symm)).trans u2, u3, u4⟩ }
      have hp1 : g1.get p = some (.cells true x.row) := (s1.get _ hpl (by simp; exact hpA)).trans hp
      refine (pl_j0 P1 hp1 (by simp; exact hpA) (by rw [hw]) (fun _ => rfl) (fun h => absurd (hw ▸ h) hz)).mono ?_
      rintro ⟨v, g''⟩ ⟨hv, s'⟩
      exact ⟨hv, Nat.le_trans s1.next s'.next, fun i hi hlt => (s'.get i (Nat.lt_of_lt_of_le hlt s1.next) (by simp)).trans (s1.get i hlt (by simp; exact fun e => hAR 7 (by decide) (e ▸ hi))), l, tg, P1.keep s', rfl, rfl⟩
  have d4 : decide (x.op = 4) = false := by simp [h4]
  obtain ⟨hw, hln⟩ := w5 ((((hf0.resolve_left h1).resolve_left h2).resolve_left h3).resolve_left h4)
  refine Ok.eq ?_ (by simp -implicitDefEqProofs only [k_law14_played_j1, faP_ptr, Nat.zero_add, Option.bind_some, x0, eql_int, d1, d2, d3, d4, condE_false] <;> rfl)
  refine ok_cl (len_ok P.hp ad) ?_
  rintro _ g1 ⟨rfl, s1⟩
  simp only at s1
  rw [hln]
  refine Ok.eq ?_ (by simp -implicitDefEqProofs only [extractV_tup, e0, e1, Option.bind_some] <;> rfl)
  exact fin0 s1 (by rw [hw]) (fun _ => rfl) (fun h => by omega)
end
end Go.Ab.F

namespace Go.Ab.F
open Go Go.Ab
set_option linter.all false
set_option linter.all false
attribute [local congr] c_bind c_cl c_mk c_lp c_clC c_gQ c_gV c_condE c_thenK

section
variable {g : Heap} {A : Nat → Nat} {l : PAl} {T : List Shp} {tg : List Tg} {q7 : AV} {b7 : Option Nat} {R : List Nat}
theorem played_loop (P : HpSt g A l T tg q7 b7 R) {ad kf : Int} (hk : kf = -1 ∨ ∃ (k : Nat) (t : Tg), kf = k ∧ tg[k]? = some t ∧ t.ad = ad) :
    Ok (k_law14_played_L0 q7 (.int .i64 ad) (.int .i64 kf) (.int .i64 0) g) fun r => r.1 = .exit 0 ∧ r.2.2 = g ∧ ∃ rest, (r.2.1 = .int .i64 (-1) :: rest ∧ ∀ (i : Nat) (t : Tg), tg[i]? = some t → t.ad ≠ ad) ∨ (∃ (k : Nat) (t : Tg), r.2.1 = .int .i64 k :: rest ∧ tg[k]? = some t ∧ t.ad = ad) := by
  have hlen := P.len
  refine ok_loop (fun m vs g' => ∃ (n : Nat) (kf : Int), vs = [.int .i64 kf, .int .i64 n] ∧ m + n = tg.length + 1 ∧ n ≤ tg.length ∧ g' = g ∧ ((kf = -1 ∧ ∀ (i : Nat) (t : Tg), i < n → tg[i]? = some t → t.ad ≠ ad) ∨ ∃ (k : Nat) (t : Tg), kf = k ∧ tg[k]? = some t ∧ t.ad = ad)) ?_ (n := tg.length + 1) (by omega)
    ⟨0, kf, rfl, rfl, Nat.zero_le _, rfl, hk.imp (fun h => ⟨h, fun i t hi => by omega⟩) id⟩
  rintro m vs g' ⟨n, kf, rfl, hm, hn, hgg, hi⟩
  subst hgg
  rw [gd0, gd1]
  have hlv := P.q7.lnL
  by_cases hlt : n < tg.length
  · have hlt' : (n : Int) < tg.length := by omega
    rcases hi with ⟨rfl, hno⟩ | ⟨k, t, rfl, ht, ha⟩
    · obtain ⟨t, ht⟩ : ∃ t, tg[n]? = some t := ⟨_, List.getElem?_eq_getElem hlt⟩
      obtain ⟨b, hix, _, hld⟩ := P.ix ht
      have ld := hld (Same.refl [] g') 0 _ rfl
      rw [Nat.add_zero] at ld
      have hneg : decide ((-1 : Int) < 0) = true := rfl
      by_cases e : t.ad = ad
      · have de : decide (t.ad = ad) = true := by simp [e]
        refine (Ok.of (r := (.normal, [.int .i64 (n : Int), .int .i64 ((n + 1 : Nat) : Int)], g')) (.inl ⟨rfl, m - 1, by omega, n + 1, n, rfl, by omega, by omega, rfl, .inr ⟨n, t, rfl, ht, e⟩⟩)).eq (by
          simp -implicitDefEqProofs only [k_law14_played_b0, hlv, Option.bind_some, bin_lss, hlt', decide_true, gdW_tt, gQ_true, cl_some, hneg, pickP_bool, if_true, condE_true, hix, faP_ptr, Nat.add_zero, ld, eql_int, de, bin_add, suc64 n (by omega)])
      · have de : decide (t.ad = ad) = false := by simp [e]
        refine (Ok.of (r := (.normal, [.int .i64 (-1), .int .i64 ((n + 1 : Nat) : Int)], g')) (.inl ⟨rfl, m - 1, by omega, n + 1, -1, rfl, by omega, by omega, rfl, .inl ⟨rfl, fun i u hi hu => ?_⟩⟩)).eq (by
          simp -implicitDefEqProofs only [k_law14_played_b0, hlv, Option.bind_some, bin_lss, hlt', decide_true, gdW_tt, gQ_true, cl_some, hneg, pickP_bool, if_true, condE_true, hix, faP_ptr, Nat.add_zero, ld, eql_int, de, condE_false, bin_add, suc64 n (by omega)])
        by_cases ei : i = n
        · subst ei; rw [ht] at hu; cases hu; exact e
        · exact hno i u (by omega) hu
    · have hneg : ¬ (k : Int) < 0 := by omega
      exact (Ok.of (r := (.exit 0, [.int .i64 (k : Int), .int .i64 (n : Int)], g')) (.inr ⟨by simp, rfl, rfl, [.int .i64 (n : Int)], .inr ⟨k, t, rfl, ht, ha⟩⟩)).eq (by
        simp -implicitDefEqProofs only [k_law14_played_b0, hlv, Option.bind_some, bin_lss, hlt', decide_true, gdW_tt, gQ_true, cl_some, hneg, decide_false, pickP_bool, if_true, condE_false])
  · have hlt' : ¬ (n : Int) < tg.length := by omega
    have st : k_law14_played_b0 q7 (.int .i64 ad) (.int .i64 kf) (.int .i64 (n : Int)) g' = some (.exit 0, [.int .i64 kf, .int .i64 (n : Int)], g') := by
      simp -implicitDefEqProofs only [k_law14_played_b0, hlv, Option.bind_some, bin_lss, hlt', decide_false, gdW_ft, gQ_false, pickP_bool, Bool.false_eq_true, if_false, condE_false]
    refine (Ok.of (r := (.exit 0, [.int .i64 kf, .int .i64 (n : Int)], g')) (.inr ⟨by simp, rfl, rfl, [.int .i64 (n : Int)], ?_⟩)).eq st
    rcases hi with ⟨rfl, hno⟩ | ⟨k, t, rfl, ht, ha⟩
    · exact .inl ⟨rfl, fun i t ht => hno i t (by have := (List.getElem?_eq_some_iff.1 ht).1; omega) ht⟩
    · exact .inr ⟨k, t, rfl, ht, ha⟩
theorem played_j3 (P : HpSt g A l T tg q7 b7 R) (hAR : ∀ i, i < 11 → A i ∉ R) {x : Act} {p : Nat} (hp : g.get p = some (.cells true x.row)) (hpl : p < g.next) (hpA : p ≠ A 7) (hop : 1 ≤ x.op ∧ x.op ≤ 5) {ad kf : Int} (hk : kf = -1 ∨ ∃ (k : Nat) (t : Tg), kf = k ∧ tg[k]? = some t ∧ t.ad = ad) :
    Ok (k_law14_played_j3 (.ptr (some (A 0, 0))) q7 (.ptr (some (p, 0))) (.int .i64 kf) (.int .i64 ad) g) (Done g A l T tg q7 b7 R) := by
  have hop5 : x.op = 1 ∨ x.op = 2 ∨ x.op = 3 ∨ x.op = 4 ∨ x.op = 5 := by omega
  refine Ok.eq ?_ (by unfold k_law14_played_j3; rfl)
  refine ok_lp (played_loop P hk) ?_
  rintro _ vs g' ⟨rfl, hgg, rest, hr⟩
  simp only at hgg
  subst hgg
  have lx0 : ldS g' (.ptr (some (p, 0))) = some (.int .i64 x.op) := by rw [ldS_at hp]; rfl
  have lx4 : ldS g' (.ptr (some (p, 4))) = some (.int .i64 x.f) := by rw [ldS_at hp]; rfl
  have lx6 : ldS g' (.ptr (some (p, 6))) = some (.bool x.adr) := by rw [ldS_at hp]; rfl
  have hm5 : decide ((-1 : Int) < 0) = true := rfl
  rcases hr with ⟨hvs, hno⟩ | ⟨k, t, hvs, ht, ha⟩
  · simp only at hvs
    subst hvs
    have hof := P.none hno
    refine Ok.eq ?_ (by simp -implicitDefEqProofs only [if_true, thenK_normal, gd0, bin_lss, hm5, Option.bind_some, condE_true] <;> rfl)
    refine pl_j1' P hAR hp hpl hpA hop5 ?_ ?_ ?_ ?_
    · intro _ _; rw [hof]; rfl
    · intro _; rw [hof]; rfl
    · intro _; rw [hof]; exact ⟨rfl, rfl⟩
    · intro h; exact absurd h (by decide)
  · simp only at hvs
    subst hvs
    subst ha
    have hTl := P.hp.tab.len
    obtain ⟨sx, hsx, hof⟩ := (P.ti k t ht).of P.hp.wf hTl P.hp.tab.good
    have hn1 := (P.ti k t ht).n1
    have hn2 := (P.ti k t ht).n2
    have hvl := (P.ti k t ht).len
    obtain ⟨b, hix, hb, hld⟩ := P.ix ht
    have hk0 : ¬ (k : Int) < 0 := by omega
    have bl := (P.q7.blk b hb).1
    by_cases h2 : x.op ≤ 2
    · -- fields
      have hfp : ∀ f, flP (ofP l.ar T t.ad) f x.adr = (decide (t.s.kind = 0 ∧ 0 ≤ f ∧ f < t.s.fields ∧ f < t.n - 1) && (holdsB t.s f t.n == x.adr)) := fun f => by rw [hof]; rfl
      have la : ldA 3 g' (.ptr (some (b, k * 6 + 1))) = some (.agg t.s.row) := by
        rw [ldA_at (P.q7.blk b hb).2.1]
        have hs := tgC_at ht
        have hl := span_le hs
        rw [span_some _ _ _ hl] at hs
        rw [span_some _ _ _ (by omega)]
        have hs := Option.some.inj hs
        have h3 : ((tgC tg).drop (k * 6 + 1)).take 3 = ((((tgC tg).drop (k * 6)).take 6).drop 1).take 3 := by
          rw [List.drop_take, List.take_take, List.drop_drop]
          congr 1
        rw [h3, hs]; rfl
      refine Ok.eq ?_ (by simp -implicitDefEqProofs only [if_true, thenK_normal, gd0, bin_lss, hk0, decide_false, Option.bind_some, condE_false, faP_ptr, Nat.zero_add, lx0, bin_leq, h2, decide_true, condE_true, hix, la] <;> rfl)
      refine ok_tmp (cs := t.s.row) (n := 3) rfl rfl rfl fun g1 s1 n1 p1 => ?_
      have P1 := P.keep s1
      have hp1 : g1.get p = some (.cells true x.row) := (s1.get _ hpl (by simp)).trans hp
      have y0 : ldS g1 (.ptr (some (p, 0))) = some (.int .i64 x.op) := by rw [ldS_at hp1]; rfl
      have y4 : ldS g1 (.ptr (some (p, 4))) = some (.int .i64 x.f) := by rw [ldS_at hp1]; rfl
      have y6 : ldS g1 (.ptr (some (p, 6))) = some (.bool x.adr) := by rw [ldS_at hp1]; rfl
      have z0 : ldS g1 (.ptr (some (g'.next, 0))) = some (.int .i64 t.s.kind) := by rw [ldS_at p1]; rfl
      have z1 : ldS g1 (.ptr (some (g'.next, 1))) = some (.int .i64 t.s.fields) := by rw [ldS_at p1]; rfl
      have z2 : ldS g1 (.ptr (some (g'.next, 2))) = some (.int .u64 t.s.map.toNat) := by rw [ldS_at p1]; rfl
      have zn := hld s1 4 _ rfl
      have hmask := and_mask x.f 6 (by decide)
      rw [show ((2 ^ 6 - 1 : Nat) : Int) = 63 from rfl, show ((2 ^ 6 : Nat) : Int) = 64 from rfl] at hmask
      have j2 : ∀ w : Int, w = (if flP (ofP l.ar T t.ad) x.f x.adr = true then 0 else 1) → Ok (k_law14_played_j2 (.ptr (some (A 0, 0))) q7 (.ptr (some (p, 0))) (.int .i64 t.ad) (.int .i64 (k : Int) :: rest) (.int .i64 w) g1) (Done g' A l T tg q7 b7 R) := by
        intro w hw
        refine Ok.eq ?_ (by simp -implicitDefEqProofs only [k_law14_played_j2, faP_ptr, Nat.zero_add, Option.bind_some, y4, hmask] <;> rfl)
        refine (pl_j1' P1 hAR hp1 (Nat.lt_of_lt_of_le hpl s1.next) hpA hop5 (fun _ _ => hw) (fun h => ?_) (fun h => ?_) (fun h hf => ?_)).mono ?_
        · exact absurd h2 (by omega)
        · exact absurd h2 (by omega)
        · rw [hw] at h
          by_cases hfl : flP (ofP l.ar T t.ad) x.f x.adr = true
          · have hfl' := hfl
            rw [hfp] at hfl'
            simp only [Bool.and_eq_true, decide_eq_true_eq] at hfl'
            obtain ⟨⟨_, f0, _, f2⟩, _⟩ := hfl'
            refine ⟨k, t, x.f.toNat, rfl, ht, rfl, ?_, by omega, by omega⟩
            rw [Int.emod_eq_of_lt f0 (by omega)]; omega
          · rw [if_neg hfl] at h; omega
        · rintro ⟨v, g''⟩ ⟨d1, d2, d3, d4⟩
          exact ⟨d1, Nat.le_trans s1.next d2, fun j hj hlt => (d3 j hj (Nat.lt_of_lt_of_le hlt s1.next)).trans (s1.get j hlt (by simp)), d4⟩
      have wr : IntKind.i64.wrap (t.n - 2) = t.n - 2 := wrap_i64 (by omega) (by omega)
      by_cases c1 : t.s.kind = 0
      · by_cases c2 : x.f < 0
        · refine (j2 1 (by rw [hfp, if_neg (by simp; omega)])).eq ?_
          simp -implicitDefEqProofs only [faP_ptr, Nat.zero_add, Option.bind_some, z0, neq_int, c1, decide_true, Bool.not_true, gdW_ff, gV_true, y4, bin_lss, c2, pickP_bool, Bool.false_eq_true, if_false, gdW_tf, gV_false, if_true, gQ_false, clC_some, chk_nil, condE_true]
        by_cases c3 : t.s.fields ≤ x.f
        · refine (j2 1 (by rw [hfp, if_neg (by simp; omega)])).eq ?_
          simp -implicitDefEqProofs only [faP_ptr, Nat.zero_add, Option.bind_some, z0, z1, neq_int, c1, decide_true, decide_false, Bool.not_true, gdW_ff, gV_true, y4, bin_lss, c2, bin_geq, c3, pickP_bool, Bool.false_eq_true, if_false, gdW_tf, gV_false, if_true, gQ_false, clC_some, chk_nil, condE_true]
        by_cases c4 : t.n - 2 < x.f
        · refine (j2 1 (by rw [hfp, if_neg (by simp; omega)])).eq ?_
          simp -implicitDefEqProofs only [faP_ptr, Nat.zero_add, Option.bind_some, z0, z1, neq_int, c1, decide_true, decide_false, Bool.not_true, gdW_ff, gV_true, y4, bin_lss, c2, bin_geq, c3, gd0, hix, zn, bin_sub, wr, bin_gtr, c4, pickP_bool, Bool.false_eq_true, if_false, gdW_tf, gV_false, if_true, gQ_false, clC_some, chk_nil, condE_true]
        have hho : holdsB t.s x.f t.n = t.s.map.getLsbD x.f.toNat := by
          unfold holdsB; rw [if_neg (by omega), if_pos (.inl c1)]
        have hbb : bitB t.s.map x.f = t.s.map.getLsbD x.f.toNat := by unfold bitB; have : 0 ≤ x.f := by omega
                                                                      simp [this]
        have hrb := refBit t.s.map x.f g1
        rw [hbb] at hrb
        have hfv : flP (ofP l.ar T t.ad) x.f x.adr = (t.s.map.getLsbD x.f.toNat == x.adr) := by
          rw [hfp, hho]
          have : decide (t.s.kind = 0 ∧ 0 ≤ x.f ∧ x.f < t.s.fields ∧ x.f < t.n - 1) = true := by rw [decide_eq_true_eq]; exact ⟨c1, by omega, by omega, by omega⟩
          rw [this, Bool.true_and]
        have common : ∀ (c : Bool), (!(t.s.map.getLsbD x.f.toNat == x.adr)) = c → Ok (condE (.bool c) (k_law14_played_j2 (.ptr (some (A 0, 0))) q7 (.ptr (some (p, 0))) (.int .i64 t.ad) (.int .i64 (k : Int) :: rest) (.int .i64 1) g1) (k_law14_played_j2 (.ptr (some (A 0, 0))) q7 (.ptr (some (p, 0))) (.int .i64 t.ad) (.int .i64 (k : Int) :: rest) (.int .i64 0) g1)) (Done g' A l T tg q7 b7 R) := by
          rintro c hc
          cases c with
          | true => exact j2 1 (by rw [hfv, if_neg (by simpa using hc)])
          | false => exact j2 0 (by rw [hfv, if_pos (by simpa using hc)])
        refine (common _ rfl).eq ?_
        simp -implicitDefEqProofs only [faP_ptr, Nat.zero_add, Option.bind_some, z0, z1, z2, neq_int, c1, decide_true, decide_false, Bool.not_true, gdW_ff, gV_true, y4, bin_lss, c2, bin_geq, c3, gd0, hix, zn, bin_sub, wr, bin_gtr, c4, pickP_bool, Bool.false_eq_true, if_false, gQ_true, hrb, cl_some, rdC, y6, clC_some, neq_bool, chk_two (f := fun g => ldS g (.ptr (some (p, 6)))) (same_bool x.adr) y6 y6]
      · refine (j2 1 (by rw [hfp, if_neg (by simp [c1])])).eq ?_
        simp -implicitDefEqProofs only [faP_ptr, Nat.zero_add, Option.bind_some, z0, neq_int, c1, decide_false, Bool.not_false, gdW_tf, gV_false, pickP_bool, if_true, gQ_false, clC_some, chk_nil, condE_true]
    · -- elements
      have hep : elP (ofP l.ar T t.ad) x.f x.adr = if t.s.kind ≠ 1 ∨ t.s.map.getLsbD 0 ≠ x.adr then 1 else if x.f < 0 ∨ t.n - 1 ≤ x.f then 2 else 0 := by rw [hof]; rfl
      have hlp : lenP (ofP l.ar T t.ad) = if t.s.kind = 1 then (t.n - 1, 0) else (0, 1) := by rw [hof]; rfl
      have lk := hld (Same.refl [] g') 1 _ rfl
      have lm := hld (Same.refl [] g') 3 _ rfl
      have ln := hld (Same.refl [] g') 4 _ rfl
      have hm1 : goodB t.s = true := P.hp.tab.good _ (List.mem_of_getElem? hsx)
      have n12 : ¬ (x.op = 1 ∨ x.op = 2) := by omega
      by_cases c1 : t.s.kind = 1
      · by_cases c5 : x.op = 5
        · have d5 : decide (x.op = 5) = true := by simp [c5]
          refine Ok.eq ?_ (by simp -implicitDefEqProofs only [if_true, thenK_normal, gd0, bin_lss, hk0, decide_false, Option.bind_some, condE_false, faP_ptr, Nat.zero_add, Nat.add_zero, lx0, bin_leq, h2, hix, lk, neq_int, c1, decide_true, Bool.not_true, eql_int, d5, condE_true] <;> rfl)
          refine ok_cl (len_ok P.hp t.ad) ?_
          rintro _ g1 ⟨rfl, s1⟩
          simp only at s1
          rw [hlp, if_pos c1]
          have zn := hld s1 4 _ rfl
          have wr : IntKind.i64.wrap (t.n - 1) = t.n - 1 := wrap_i64 (by omega) (by omega)
          exact ok_val (v := .bool true) (g := g1) (by simp -implicitDefEqProofs only [extractV_tup, e0, e1, Option.bind_some, eql_int, decide_true, gdW_tt, gQ_true, cl_some, hix, faP_ptr, zn, bin_sub, wr, pickP_bool, if_true]) (done_same P rfl s1)
        · have hmap : decide ((t.s.map.toNat : Int) = 1) = t.s.map.getLsbD 0 := by
            have h01 : t.s.map.toNat ≤ 1 := by
              unfold goodB at hm1
              rw [if_neg (by omega), if_pos (.inl c1)] at hm1
              simp only [Bool.and_eq_true, decide_eq_true_eq] at hm1
              exact hm1.2
            rw [BitVec.getLsbD, Nat.testBit_zero]
            apply decide_eq_decide.2
            omega
          have pre : ∀ {Q : AV × Heap → Prop}, Ok (condE (.bool (!(t.s.map.getLsbD 0 == x.adr))) (k_law14_played_j1 (.ptr (some (A 0, 0))) q7 (.ptr (some (p, 0))) (.int .i64 t.ad) (.int .i64 (k : Int) :: rest) (.int .i64 1) (.int .i64 (-1)) g')
              ((binP .lss (.int .i64 x.f) (AV.int .i64 0)).bind fun t153 => Option.none)) Q → True := fun _ => trivial
          by_cases c6 : t.s.map.getLsbD 0 = x.adr
          · have hb6 : (!(t.s.map.getLsbD 0 == x.adr)) = false := by rw [c6, beq_self_eq_true]; rfl
            have wr : IntKind.i64.wrap (t.n - 2) = t.n - 2 := wrap_i64 (by omega) (by omega)
            have he : elP (ofP l.ar T t.ad) x.f x.adr = if x.f < 0 ∨ t.n - 1 ≤ x.f then 2 else 0 := by rw [hep, if_neg (fun h => h.elim (fun h => h c1) (fun h => h c6))]
            have el2 : ∀ w f : Int, w = elP (ofP l.ar T t.ad) x.f x.adr → (w = 0 → f = x.f ∧ 0 ≤ x.f ∧ x.f < t.n - 1) → Ok (k_law14_played_j1 (.ptr (some (A 0, 0))) q7 (.ptr (some (p, 0))) (.int .i64 t.ad) (.int .i64 (k : Int) :: rest) (.int .i64 w) (.int .i64 f) g') (Done g' A l T tg q7 b7 R) := by
              intro w f hw hz
              refine pl_j1' P hAR hp hpl hpA hop5 (fun h _ => absurd h n12) (fun _ => hw) (fun h => absurd h c5) (fun h _ => ?_)
              obtain ⟨hf, f0, f1⟩ := hz h
              exact ⟨k, t, x.f.toNat, rfl, ht, rfl, by omega, by omega, by omega⟩
            by_cases d1 : x.f < 0
            · refine (el2 2 (-1) (by rw [he, if_pos (.inl d1)]) (fun h => absurd h (by decide))).eq ?_
              simp -implicitDefEqProofs only [if_true, thenK_normal, gd0, bin_lss, hk0, decide_false, Option.bind_some, condE_false, faP_ptr, Nat.zero_add, Nat.add_zero, Nat.add_assoc, Nat.reduceAdd, lx0, bin_leq, h2, hix, lk, lm, neq_int, c1, decide_true, Bool.not_true, eql_int, c5, hmap, lx6, neq_bool, hb6, chk_nil, lx4, d1, gdW_tf, gV_false, pickP_bool, condE_true]
            · by_cases d2 : t.n - 2 < x.f
              · refine (el2 2 (-1) (by rw [he, if_pos (.inr (by omega))]) (fun h => absurd h (by decide))).eq ?_
                simp -implicitDefEqProofs only [if_true, thenK_normal, gd0, bin_lss, hk0, decide_false, Option.bind_some, condE_false, faP_ptr, Nat.zero_add, Nat.add_zero, Nat.add_assoc, Nat.reduceAdd, lx0, bin_leq, h2, hix, lk, lm, ln, neq_int, c1, decide_true, Bool.not_true, eql_int, c5, hmap, lx6, neq_bool, hb6, chk_nil, lx4, d1, d2, gdW_ff, gV_true, bin_sub, wr, bin_gtr, pickP_bool, Bool.false_eq_true, if_false, condE_true]
              · refine (el2 0 x.f (by rw [he, if_neg (by omega)]) (fun _ => ⟨rfl, by omega, by omega⟩)).eq ?_
                simp -implicitDefEqProofs only [if_true, thenK_normal, gd0, bin_lss, hk0, decide_false, Option.bind_some, condE_false, faP_ptr, Nat.zero_add, Nat.add_zero, Nat.add_assoc, Nat.reduceAdd, lx0, bin_leq, h2, hix, lk, lm, ln, neq_int, c1, decide_true, Bool.not_true, eql_int, c5, hmap, lx6, neq_bool, hb6, chk_nil, lx4, d1, d2, gdW_ff, gV_true, bin_sub, wr, bin_gtr, pickP_bool, Bool.false_eq_true, if_false]
          · have hb6 : (!(t.s.map.getLsbD 0 == x.adr)) = true := by rw [Bool.not_eq_true', beq_eq_false_iff_ne]; exact c6
            have he : elP (ofP l.ar T t.ad) x.f x.adr = 1 := by rw [hep, if_pos (.inr c6)]
            refine (pl_j1' (rest := rest) (kf := (k : Int)) (f := -1) P hAR hp hpl hpA hop5 (fun h _ => absurd h n12) (fun _ => he.symm) (fun h => absurd h c5) (fun h _ => absurd h (by decide))).eq ?_
            simp -implicitDefEqProofs only [if_true, thenK_normal, gd0, bin_lss, hk0, decide_false, Option.bind_some, condE_false, faP_ptr, Nat.zero_add, Nat.add_zero, Nat.add_assoc, Nat.reduceAdd, lx0, bin_leq, h2, hix, lk, lm, neq_int, c1, decide_true, Bool.not_true, eql_int, c5, hmap, lx6, neq_bool, hb6, chk_nil, condE_true]
      · have he : elP (ofP l.ar T t.ad) x.f x.adr = 1 := by rw [hep, if_pos (.inl c1)]
        refine (pl_j1' (rest := rest) (kf := (k : Int)) (f := -1) P hAR hp hpl hpA hop5 (fun h _ => absurd h n12) (fun _ => he.symm) (fun _ => ⟨rfl, by rw [hlp, if_neg c1]⟩) (fun h _ => absurd h (by decide))).eq ?_
        simp -implicitDefEqProofs only [if_true, thenK_normal, gd0, bin_lss, hk0, decide_false, Option.bind_some, condE_false, faP_ptr, Nat.zero_add, Nat.add_zero, lx0, bin_leq, h2, hix, lk, neq_int, c1, Bool.not_false, condE_true]
theorem played_ok (P : HpSt g A l T tg q7 b7 R) (hAR : ∀ i, i < 11 → A i ∉ R) {x : Act} (hop : 1 ≤ x.op ∧ x.op ≤ 5) :
    Ok (k_law14_played (.ptr (some (A 0, 0))) q7 (.agg x.row) g) (Done g A l T tg q7 b7 R) := by
  have bx : bxP (.agg x.row) = some (.cells true x.row, fun i => .ptr (some (i, 0))) := rfl
  have hp := new_get g (.cells true x.row)
  have s1 : Same [] g (g.new (.cells true x.row)) := Same.new _ _
  have n1 : g.next < (g.new (.cells true x.row)).next := Nat.lt_succ_self _
  generalize hG : g.new (.cells true x.row) = g1 at *
  have P1 := P.keep s1
  have hA7 := P.hp.lt 7 (by decide)
  have lv : ldS g1 (.ptr (some (g.next, 5))) = some (.int .i64 x.v) := by rw [ldS_at hp]; rfl
  have lr : ldS g1 (.ptr (some (g.next, 7))) = some (.bool x.raw) := by rw [ldS_at hp]; rfl
  have lk : ldS g1 (.ptr (some (g.next, 3))) = some (.int .i64 x.k) := by rw [ldS_at hp]; rfl
  have hlv := P.q7.lnL
  have lift : ∀ {X : Option (AV × Heap)}, Ok X (Done g1 A l T tg q7 b7 R) → Ok X (Done g A l T tg q7 b7 R) := fun h => h.mono (by
    rintro ⟨v, g''⟩ ⟨d1, d2, d3, d4⟩
    exact ⟨d1, Nat.le_trans s1.next d2, fun j hj hlt => (d3 j hj (Nat.lt_of_lt_of_le hlt s1.next)).trans (s1.get j hlt (by simp)), d4⟩)
  have raw : ∀ (c : Bool), True := fun _ => trivial
  have jraw := lift (played_j3 P1 hAR hp n1 (by omega) hop (ad := x.v) (kf := -1) (.inl rfl))
  cases hr : x.raw with
  | true =>
    rw [hr] at lr
    exact jraw.eq (by simp -implicitDefEqProofs only [k_law14_played, bx, mk_some, hG, faP_ptr, Nat.zero_add, Option.bind_some, lv, lr, un_not, Bool.not_true, gdW_ft, gQ_false, pickP_bool, Bool.false_eq_true, if_false, condE_false])
  | false =>
    rw [hr] at lr
    by_cases hz : tg.length = 0
    · have hz' : ¬ (0 : Int) < tg.length := by omega
      exact jraw.eq (by simp -implicitDefEqProofs only [k_law14_played, bx, mk_some, hG, faP_ptr, Nat.zero_add, Option.bind_some, lv, lr, un_not, Bool.not_false, gdW_tt, gQ_true, cl_some, hlv, bin_gtr, hz', decide_false, pickP_bool, if_true, condE_false])
    · have hz' : (0 : Int) < tg.length := by omega
      have hmask := and_mask x.k 16 (by decide)
      rw [show ((2 ^ 16 - 1 : Nat) : Int) = 65535 from rfl, show ((2 ^ 16 : Nat) : Int) = 65536 from rfl] at hmask
      have hk0 := Int.emod_nonneg x.k (show (65536 : Int) ≠ 0 by decide)
      obtain ⟨k, hk, hkN⟩ : ∃ k : Nat, (x.k % 65536) % (tg.length : Int) = (k : Int) ∧ k < tg.length := by
        have h1 := Int.emod_nonneg (x.k % 65536) (show (tg.length : Int) ≠ 0 by omega)
        have h2 := Int.emod_lt_of_pos (x.k % 65536) (show (0 : Int) < tg.length by omega)
        exact ⟨((x.k % 65536) % (tg.length : Int)).toNat, by omega, by omega⟩
      have hrem : (x.k % 65536).tmod (tg.length : Int) = (k : Int) := by rw [Int.tmod_eq_emod_of_nonneg hk0, hk]
      have hNz : ¬ (tg.length : Int) = 0 := by omega
      obtain ⟨t, ht⟩ : ∃ t, tg[k]? = some t := ⟨_, List.getElem?_eq_getElem hkN⟩
      obtain ⟨b, hix, _, hld⟩ := P.ix ht
      have la := hld s1 0 _ rfl
      rw [Nat.add_zero] at la
      exact (lift (played_j3 P1 hAR hp n1 (by omega) hop (ad := t.ad) (kf := (k : Int)) (.inr ⟨k, t, rfl, ht, rfl⟩))).eq (by
        simp -implicitDefEqProofs only [k_law14_played, bx, mk_some, hG, faP_ptr, Nat.zero_add, Nat.add_zero, Option.bind_some, lv, lr, lk, un_not, Bool.not_false, gdW_tt, gQ_true, cl_some, hlv, bin_gtr, hz', decide_true, pickP_bool, if_true, condE_true, hmask, bin_rem, hNz, if_false, hrem, hix, la])
end
end Go.Ab.F

namespace Go.Ab.F
open Go Go.Ab
set_option linter.all false
set_option linter.all false
attribute [local congr] c_bind c_cl c_mk c_lp c_clC c_gQ c_gV c_condE c_thenK

/-! Law 14's heaps. -/
def sh14 : List Shp := [⟨0, 2, 2⟩, ⟨1, 0, 0⟩, ⟨1, 0, 1⟩]
theorem sh14_nd : sh14.Nodup := by decide
theorem sh14_good : ∀ s ∈ sh14, goodB s = true := by decide
theorem shapes14 (h : Heap) : k_law14_shapes h = some (.sl (some (h.next, 0)) 3 (.ex 3), h.new (.cells true (shC sh14))) := rfl
end Go.Ab.F

namespace Go.Ab.F
open Go Go.Ab
set_option linter.all false
set_option linter.all false
attribute [local congr] c_bind c_cl c_mk c_lp c_clC c_gQ c_gV c_condE c_thenK

/-! HeapPlays: the acts. -/
structure ShV (g : Heap) (v : AV) (b : Nat) (T : List Shp) : Prop where
  eq : ∃ c, v = .sl (some (b, 0)) T.length c ∧ (c = .ex T.length ∨ c = .un 3)
  get : g.get b = some (.cells true (shC T))
  lt : b < g.next
theorem ShV.keep {g g' : Heap} {v : AV} {b : Nat} {T : List Shp} {S : List Nat} (H : ShV g v b T) (s : Same S g g') (h : b ∉ S) : ShV g' v b T := ⟨H.eq, (s.get _ H.lt h).trans H.get, Nat.lt_of_lt_of_le H.lt s.next⟩
theorem ShV.lnL {g : Heap} {v : AV} {b : Nat} {T : List Shp} (H : ShV g v b T) : Go.Ab.lnL v = some (.int .i64 T.length) := by
  obtain ⟨c, rfl, _⟩ := H.eq; simp
theorem ShV.ix {g : Heap} {v : AV} {b : Nat} {T : List Shp} (H : ShV g v b T) {k : Nat} {s : Shp} (hk : T[k]? = some s) : iaS 3 v (.int .i64 (k : Int)) = some (.ptr (some (b, k * 3))) ∧ ∀ {g' : Heap}, g'.get b = g.get b → ldA 3 g' (.ptr (some (b, k * 3))) = some (.agg s.row) := by
  obtain ⟨c, rfl, _⟩ := H.eq
  have hl := (List.getElem?_eq_some_iff.1 hk).1
  refine ⟨by rw [iaS_sl 3 (b, 0) _ _ .i64 _ ⟨by omega, by omega⟩]; simp, fun {g'} e => ?_⟩
  rw [ldA_at (e.trans H.get), shC_at hk]; rfl
theorem ShV.app {g : Heap} {v : AV} {b c : Nat} {T : List Shp} {s : Shp} (H : ShV g v b T) (hc : g.get c = some (.cells true s.row)) (hl : T.length ≤ 1000) :
    ∃ v' g', appendA g 3 24 v (.sl (some (c, 0)) 1 (.ex 1)) = some (v', g') ∧ ShV g' v' g.next (T ++ [s]) ∧ Same [b] g g' ∧ g'.next = g.next + 1 := by
  obtain ⟨cp, rfl, hcp⟩ := H.eq
  have hld : loadN g (c, 0) (1 * 3) = some s.row := by simp only [loadN, hc, spanF_eq]; rfl
  have hsc : s.row.all scalar = true := rfl
  rcases hcp with rfl | rfl
  · have hlo : loadN g (b, 0) (T.length * 3) = some (shC T) := by
      simp only [loadN, H.get, spanF_eq]
      rw [span_some _ _ _ (by rw [shC_len]; omega), ← shC_len, List.drop_zero, List.take_length]
    refine ⟨.sl (some (g.next, 0)) (T.length + 1) (.un 3), g.new (.cells true (shC T ++ s.row)), ?_, ⟨⟨.un 3, by simp, .inr rfl⟩, ?_, Nat.lt_succ_self _⟩, (Same.new _ _).sub (by simp), rfl⟩
    · simp only [appendA, countA, addedA, hld, Option.bind_some]
      rw [if_neg (by omega), if_pos (by omega)]
      simp only [hlo, Option.bind_some, List.all_append, shC_sc, hsc, Bool.and_self, if_true]
    · rw [shC_app, show shC [s] = s.row by simp [shC]]; exact get_new_eq
  · have hle := shC_len T
    refine ⟨.sl (some (g.next, 0)) (T.length + 1) (.un 3), (g.put b none).new (.cells true (shC T ++ s.row)), ?_, ⟨⟨.un 3, by simp, .inr rfl⟩, ?_, Nat.lt_succ_self _⟩, ((Same.put _ _ _).trans ((Same.new _ _).sub (by simp))), rfl⟩
    · simp only [appendA, countA, addedA, hld, Option.bind_some, ne_eq, not_true_eq_false, if_false, H.get]
      rw [if_neg (by omega), if_pos (by omega), if_neg (by omega), if_pos (by omega)]
      simp only [hsc, if_true, List.drop_zero]
    · rw [shC_app, show shC [s] = s.row by simp [shC]]
      have := get_new_eq (h := g.put b none) (b := .cells true (shC T ++ s.row)); simpa using this
theorem make_bad {h : Heap} {A : Nat → Nat} {l : PAl} {T : List Shp} {F : Int} (H : HpAt h A l T F) {sh n : Int} (hb : sh < 0 ∨ (T.length : Int) ≤ sh ∨ n < 1 ∨ 64 < n) (r : AV) :
    k_heap_Heap_Make (.ptr (some (A 0, 0))) (.int .i64 sh) (.int .i64 n) r h = some (.tup [.int .i64 0, .int .i64 1], h) := by
  obtain ⟨v, hv, hs⟩ := H.hpb
  have lv : ldS h (.ptr (some (A 0, 1))) = some v := by rw [ldS_at hv]; rfl
  by_cases h1 : sh < 0
  · simp -implicitDefEqProofs only [k_heap_Heap_Make, bin_lss, h1, decide_true, Option.bind_some, gdW_tf, gQ_false, pickP_bool, if_true, condE_true]
  by_cases h2 : (T.length : Int) ≤ sh
  · simp -implicitDefEqProofs only [k_heap_Heap_Make, bin_lss, h1, decide_false, Option.bind_some, gdW_ff, gQ_true, cl_some, nilV_ptr, faP_ptr, Nat.zero_add, lv, hs.lnL, bin_geq, h2, decide_true, pickP_bool, Bool.false_eq_true, if_false, gdW_tf, gQ_false, if_true, condE_true]
  by_cases h3 : n < 1
  · simp -implicitDefEqProofs only [k_heap_Heap_Make, bin_lss, h1, h3, decide_true, decide_false, Option.bind_some, gdW_ff, gQ_true, cl_some, nilV_ptr, faP_ptr, Nat.zero_add, lv, hs.lnL, bin_geq, h2, pickP_bool, Bool.false_eq_true, if_false, gdW_tf, gQ_false, if_true, condE_true]
  have h4 : 64 < n := by omega
  simp -implicitDefEqProofs only [k_heap_Heap_Make, bin_lss, h1, h3, h4, bin_gtr, decide_true, decide_false, Option.bind_some, gdW_ff, gQ_true, cl_some, nilV_ptr, faP_ptr, Nat.zero_add, lv, hs.lnL, bin_geq, h2, pickP_bool, Bool.false_eq_true, if_false, if_true, condE_true]
/-- Between the acts. -/
structure Hl (g0 g : Heap) (A : Nat → Nat) (l : PAl) (T : List Shp) (tg : List Tg) (q3 q7 : AV) (b3 : Nat) (b7 bh : Option Nat) (ph bx : Nat) (i : Nat) : Prop where
  P : HpSt g A l T tg q7 b7 (bx :: b3 :: ph :: bh.toList)
  AR : ∀ j, j < 11 → A j ∉ bx :: b3 :: ph :: bh.toList
  s3 : ShV g q3 b3 T
  hh : ∃ vh cs n, g.get ph = some (.cells true [vh]) ∧ SlB g bh 1 vh cs n ∧ n ≤ i
  d1 : b3 ≠ ph
  d2 : bh ≠ some b3
  d3 : bh ≠ some ph
  d4 : bx ≠ ph
  d5 : bx ≠ b3
  d6 : bh ≠ some bx
  z3 : b3 ≠ 0
  zp : ph ≠ 0
  zh : bh ≠ some 0
  lx : bx < g.next
  gx : g.get bx = g0.get bx
  lp : ph < g.next
  us : l.ar.used ≤ tg.length
  sp : l.ar.sp.length = 100
  Tn : T.length ≤ 3 + i
  T0 : T ≠ []
  tn : tg.length ≤ i
section
variable {g0 g : Heap} {A : Nat → Nat} {l : PAl} {T : List Shp} {tg : List Tg} {q3 q7 : AV} {b3 : Nat} {b7 bh : Option Nat} {ph bx i : Nat}
theorem Hl.up (H : Hl g0 g A l T tg q3 q7 b3 b7 bh ph bx i) : Hl g0 g A l T tg q3 q7 b3 b7 bh ph bx (i + 1) :=
  { H with
    hh := by obtain ⟨vh, cs, n, h1, h2, h3⟩ := H.hh; exact ⟨vh, cs, n, h1, h2, by omega⟩
    Tn := by have := H.Tn; omega
    tn := by have := H.tn; omega }
theorem Hl.keep {g' : Heap} (H : Hl g0 g A l T tg q3 q7 b3 b7 bh ph bx i) (s : Same [] g g') : Hl g0 g' A l T tg q3 q7 b3 b7 bh ph bx i :=
  { H with
    P := H.P.keep s
    s3 := H.s3.keep s (by simp)
    hh := by obtain ⟨vh, cs, n, h1, h2, h3⟩ := H.hh; exact ⟨vh, cs, n, (s.get _ H.lp (by simp)).trans h1, h2.same s (fun _ _ => by simp), h3⟩
    lx := Nat.lt_of_lt_of_le H.lx s.next
    gx := (s.get _ H.lx (by simp)).trans H.gx
    lp := Nat.lt_of_lt_of_le H.lp s.next }
/-- Behind a read or a write. -/
theorem Hl.done (H : Hl g0 g A l T tg q3 q7 b3 b7 bh ph bx i) {r : AV × Heap} (D : Done g A l T tg q7 b7 (bx :: b3 :: ph :: bh.toList) r) :
    r.1 = .bool true ∧ ∃ l2 tg2, Hl g0 r.2 A l2 T tg2 q3 q7 b3 b7 bh ph bx i := by
  obtain ⟨h1, h2, h3, l2, tg2, P2, hl, hsp⟩ := D
  obtain ⟨vh, cs, n, e1', e2', e3'⟩ := H.hh
  have u1 : l2.ar.used ≤ tg2.length := by rw [used_same (fun m => cls_sp hsp m) (by rw [hsp]), hl]; exact H.us
  have u2 : l2.ar.sp.length = 100 := by rw [hsp]; exact H.sp
  refine ⟨h1, l2, tg2, { H with
    P := P2
    s3 := ⟨H.s3.eq, (h3 b3 (by simp) H.s3.lt).trans H.s3.get, Nat.lt_of_lt_of_le H.s3.lt h2⟩
    hh := ⟨vh, cs, n, (h3 ph (by simp) H.lp).trans e1', ⟨e2'.len, e2'.sc, e2'.eq, e2'.nil, fun j hj => by
      obtain ⟨k1, k2, k3⟩ := e2'.blk j hj
      exact ⟨Nat.lt_of_lt_of_le k1 h2, (h3 j (by rw [hj]; simp) k1).trans k2, k3⟩⟩, e3'⟩
    lx := Nat.lt_of_lt_of_le H.lx h2
    gx := (h3 bx (by simp) H.lx).trans H.gx
    lp := Nat.lt_of_lt_of_le H.lp h2
    us := u1
    sp := u2
    tn := by have := H.tn; omega }⟩
end
end Go.Ab.F

namespace Go.Ab.F
open Go Go.Ab
set_option linter.all false
set_option linter.all false
attribute [local congr] c_bind c_cl c_mk c_lp c_clC c_gQ c_gV c_condE c_thenK

/-! HeapPlays: a thing is made; a shape is added. -/
section
variable {g0 g : Heap} {A : Nat → Nat} {l : PAl} {T : List Shp} {tg : List Tg} {q3 q7 : AV} {b3 : Nat} {b7 bh : Option Nat} {ph bx i : Nat}
theorem tgC_app (a b : List Tg) : tgC (a ++ b) = tgC a ++ tgC b := by simp [tgC]
theorem rep_zero (x : Nat) : rep [AV.int .i64 0] x = wsC (List.replicate x 0) := by rw [rep_one]; simp [wsC]
theorem hl_made (H : Hl g0 g A l T tg q3 q7 b3 b7 bh ph bx i) (hi : i < 60) {x : Act} {p : Nat} (hp : g.get p = some (.cells true x.row)) (hpl : p < g.next) (hpf : p ∉ bx :: b3 :: ph :: bh.toList) (hpA : ∀ j, j < 11 → A j ≠ p) (hp7 : b7 ≠ some p)
    {sx : Nat} {s : Shp} (hx : T[sx]? = some s) (hsh : x.sh = sx) (h1 : 1 ≤ x.n) (h2 : x.n ≤ 64) {g2 : Heap} {l2 : PAl} {ad : Int} (H2 : HpAt g2 A l2 T 0) (s2 : Same [A 5, A 7, A 8] g g2) (M : Made l l2 ad ((x.n + 128 * s.kind + 1024 * sx) :: List.replicate ((wordsOf (classOf x.n)).toNat - 1) 0)) {R : Type} {K : AV → Heap → Option R} {Q : R → Prop}
    (hk : ∀ q7' b7' bh' g7 tg', tg'.length = tg.length + 1 → Hl g0 g7 A l2 T tg' q3 q7' b3 b7' bh' ph bx (i + 1) → Ok (K q7' g7) Q) :
    Ok ((nilV (.ptr (some (ph, 0)))).bind fun t106 =>
      (faP 0 t106).bind fun t107 =>
      (ldS g2 t107).bind fun t108 =>
      mk Heap.new (bsP 1 [(AV.int .i64 0)] 1 [(0, .int .i64 ad)]) g2 fun t110 h321 =>
      cl (appendA h321 1 8 t108 t110) fun t111 h322 =>
      (nilV (.ptr (some (ph, 0)))).bind fun t112 =>
      (faP 0 t112).bind fun t113 =>
      cl (stP 1 h322 t113 t111) fun u_323 h324 =>
      (faP 1 (.ptr (some (p, 0)))).bind fun t117 =>
      (ldS (hpN h324 2) t117).bind fun t118 =>
      (iaS 3 q3 t118).bind fun t119 =>
      (ldA 3 (hpN h324 2) t119).bind fun t120 =>
      (faP 2 (.ptr (some (p, 0)))).bind fun t121 =>
      (ldS (hpN h324 2) t121).bind fun t122 =>
      (faP 2 (.ptr (some (p, 0)))).bind fun t123 =>
      (ldS (hpN h324 2) t123).bind fun t124 =>
      (binP .sub t124 (AV.int .i64 1)).bind fun t125 =>
      cl (mkAt Heap.put (msP 1 8 [(AV.int .i64 0)] t125 t125) (h324.next + 0) (hpN h324 2)) fun t126 h325 =>
      (bldS [(0, 1), (1, 3), (4, 1), (5, 1)] [(AV.int .i64 0), (AV.int .i64 0), (AV.int .i64 0), (AV.int .u64 0), (AV.int .i64 0), (AV.sl none 0 (.ex 0))] [(0, .int .i64 ad), (1, t120), (2, t122), (3, t126)]).bind fun t127 =>
      cl (mkAt Heap.put (bsP 6 [(AV.int .i64 0), (AV.int .i64 0), (AV.int .i64 0), (AV.int .u64 0), (AV.int .i64 0), (AV.sl none 0 (.ex 0))] 1 [(0, t127)]) (h324.next + 1) h325) fun t128 h326 =>
      cl (appendA h326 6 64 q7 t128) fun t129 h327 =>
      chk [(hpN h324 2), h327] [] (K t129 h327)) Q := by
  obtain ⟨vh, cs, nh, hvh, sh, hnh⟩ := H.hh
  have inA : ∀ {j}, j ∈ [A 5, A 7, A 8] → ∃ k, k < 11 ∧ A k = j := fun {j} hj => by
    simp at hj
    rcases hj with e | e | e
    · exact ⟨5, by decide, e.symm⟩
    · exact ⟨7, by decide, e.symm⟩
    · exact ⟨8, by decide, e.symm⟩
  have offR : ∀ {j}, j ∈ bx :: b3 :: ph :: bh.toList → j ∉ [A 5, A 7, A 8] := fun {j} hj hm => by
    obtain ⟨k, hk, e⟩ := inA hm
    exact H.AR k hk (e ▸ hj)
  have mh : ∀ {j}, bh = some j → j ∈ bx :: b3 :: ph :: bh.toList := fun {j} h => by rw [h]; simp
  have q2 : g2.get ph = some (.cells true [vh]) := (s2.get _ H.lp (offR (by simp))).trans hvh
  have sh2 := sh.same s2 (fun j hj => offR (mh hj))
  have n12 := s2.next
  have lv : ldS g2 (.ptr (some (ph, 0))) = some vh := by rw [ldS_at q2]; rfl
  refine Ok.eq ?_ (by simp -implicitDefEqProofs only [nilV_ptr, Option.bind_some, faP_ptr, Nat.zero_add, lv] <;> rfl)
  refine app1 sh2 (t := .int .i64 ad) rfl rfl rfl (by decide) (by omega) fun v3 g3 m3 s3 n3 => ?_
  have hbt : ∀ {j}, j ∈ bh.toList → bh = some j := fun {j} hj => by cases hb : bh with | none => rw [hb] at hj; simp at hj | some y => rw [hb] at hj; simp at hj; rw [hj]
  have q3' : g3.get ph = some (.cells true [vh]) := (s3.get _ (by have := H.lp; omega) (fun hm => H.d3 (hbt hm))).trans q2
  have st : stP 1 g3 (.ptr (some (ph, 0))) v3 = some (.bot, g3.put ph (some (.cells true [v3]))) := stP_one q3' (by simp) m3.scv
  have s4 : Same [ph] g3 (g3.put ph (some (.cells true [v3]))) := Same.put _ _ _
  have n4 : (g3.put ph (some (.cells true [v3]))).next = g3.next := rfl
  have q4 : (g3.put ph (some (.cells true [v3]))).get ph = some (.cells true [v3]) := get_put_eq
  have m3lt : g2.next + 1 < g3.next := (m3.blk _ rfl).1
  have hlp := H.lp
  have m4 := m3.same s4 (fun j hj => by cases hj; simp; omega)
  refine Ok.eq ?_ (by simp -implicitDefEqProofs only [nilV_ptr, Option.bind_some, faP_ptr, Nat.zero_add, st, cl_some] <;> rfl)
  generalize g3.put ph (some (.cells true [v3])) = g4 at *
  -- all old blocks
  have old4 : ∀ j, j < g.next → j ∉ [A 5, A 7, A 8] → bh ≠ some j → j ≠ ph → g4.get j = g.get j := fun j hj ha hb hp => by
    rw [s4.get _ (by omega) (by simp; exact hp), s3.get _ (by omega) (fun hm => hb (hbt hm)), s2.get _ hj ha]
  have pget : g4.get p = some (.cells true x.row) := (old4 p hpl (fun hm => by obtain ⟨k, hk, e⟩ := inA hm; exact hpA k hk e) (fun h => hpf (mh h)) (fun e => hpf (by rw [e]; simp))).trans hp
  have l1 : ldS (hpN g4 2) (.ptr (some (p, 1))) = some (.int .i64 (sx : Int)) := by rw [ldS_at (show (hpN g4 2).get p = _ from pget), ← hsh]; rfl
  have l2' : ldS (hpN g4 2) (.ptr (some (p, 2))) = some (.int .i64 x.n) := by rw [ldS_at (show (hpN g4 2).get p = _ from pget)]; rfl
  obtain ⟨ix3, la3⟩ := H.s3.ix hx
  have b3get : g4.get b3 = g.get b3 := old4 b3 H.s3.lt (offR (by simp)) (fun h => H.d2 h) H.d1
  have la := la3 (show (hpN g4 2).get b3 = g.get b3 from b3get)
  obtain ⟨N, hN⟩ : ∃ N : Nat, x.n - 1 = (N : Int) := ⟨(x.n - 1).toNat, by omega⟩
  have wr : IntKind.i64.wrap (x.n - 1) = (N : Int) := by rw [wrap_i64 (by omega) (by omega), hN]
  have ms := msP_ok 1 8 [.int .i64 0] N (by omega) (by decide) rfl
  rw [rep_zero] at ms
  have ma : mkAt Heap.put (msP 1 8 [(AV.int .i64 0)] (.int .i64 (N : Int)) (.int .i64 (N : Int))) (g4.next + 0) (hpN g4 2) = some (.sl (some (g4.next, 0)) N (.ex N), (hpN g4 2).put g4.next (some (.cells true (wsC (List.replicate N 0))))) := by rw [ms]; rfl
  have hz : (List.replicate N (0 : Int)).length = N := List.length_replicate ..
  have bl : bldS [(0, 1), (1, 3), (4, 1), (5, 1)] [(AV.int .i64 0), (AV.int .i64 0), (AV.int .i64 0), (AV.int .u64 0), (AV.int .i64 0), (AV.sl none 0 (.ex 0))] [(0, .int .i64 ad), (1, .agg s.row), (2, .int .i64 x.n), (3, .sl (some (g4.next, 0)) N (.ex N))]
      = some (.agg (⟨ad, s, x.n, g4.next, List.replicate N 0⟩ : Tg).row) := by
    unfold Tg.row
    simp only [hz]; rfl
  generalize htn : (⟨ad, s, x.n, g4.next, List.replicate N 0⟩ : Tg) = tn at *
  have s5 : Same [] g4 ((hpN g4 2).put g4.next (some (.cells true (wsC (List.replicate N 0))))) := ⟨by show g4.next ≤ g4.next + 2; omega, fun j hj _ => by rw [get_put_ne (by omega)]; rfl⟩
  have p5 : ((hpN g4 2).put g4.next (some (.cells true (wsC (List.replicate N 0))))).get g4.next = some (.cells true (wsC (List.replicate N 0))) := get_put_eq
  have n5 : ((hpN g4 2).put g4.next (some (.cells true (wsC (List.replicate N 0))))).next = g4.next + 2 := rfl
  refine Ok.eq ?_ (by simp -implicitDefEqProofs only [faP_ptr, Nat.zero_add, Option.bind_some, l1, ix3, la, l2', bin_sub, wr, ma, cl_some, bl] <;> rfl)
  generalize (hpN g4 2).put g4.next (some (.cells true (wsC (List.replicate N 0)))) = g5 at *
  have rsc : tn.row.all scalar = true := by rw [← htn]; rfl
  have rlen : tn.row.length = 6 := by rw [← htn]; rfl
  have bs1 : bsP 6 [(AV.int .i64 0), (AV.int .i64 0), (AV.int .i64 0), (AV.int .u64 0), (AV.int .i64 0), (AV.sl none 0 (.ex 0))] 1 [(0, .agg tn.row)] = some (.cells true tn.row, fun i => .sl (some (i, 0)) 1 (.ex 1)) := bsP_one (t := .agg tn.row) rfl rlen rsc
  have ma2 : mkAt Heap.put (bsP 6 [(AV.int .i64 0), (AV.int .i64 0), (AV.int .i64 0), (AV.int .u64 0), (AV.int .i64 0), (AV.sl none 0 (.ex 0))] 1 [(0, .agg tn.row)]) (g4.next + 1) g5 = some (.sl (some (g4.next + 1, 0)) 1 (.ex 1), g5.put (g4.next + 1) (some (.cells true tn.row))) := by rw [bs1]; rfl
  have s6 : Same [g4.next + 1] g5 (g5.put (g4.next + 1) (some (.cells true tn.row))) := Same.put _ _ _
  have p6 : (g5.put (g4.next + 1) (some (.cells true tn.row))).get (g4.next + 1) = some (.cells true tn.row) := get_put_eq
  have n6 : (g5.put (g4.next + 1) (some (.cells true tn.row))).next = g5.next := rfl
  refine Ok.eq ?_ (by simp -implicitDefEqProofs only [ma2, cl_some] <;> rfl)
  generalize g5.put (g4.next + 1) (some (.cells true tn.row)) = g6 at *
  have old6 : ∀ j, j < g4.next → g6.get j = g4.get j := fun j hj => by rw [s6.get _ (by omega) (by simp; omega), s5.get _ hj (by simp)]
  have P := H.P
  have b7lt : ∀ {j}, b7 = some j → j < g.next := fun {j} h => (P.q7.blk j h).1
  have b7n : ∀ {j}, b7 = some j → j ∉ [A 5, A 7, A 8] ∧ bh ≠ some j ∧ j ≠ ph := fun {j} h => by
    obtain ⟨h1, h2, h3⟩ := P.b7n j h
    refine ⟨fun hm => ?_, fun e => h1 (mh e), fun e => h1 (by rw [e]; simp)⟩
    obtain ⟨k, hk, e⟩ := inA hm
    exact h3 k hk e
  have q76 : SlB g6 b7 6 q7 (tgC tg) tg.length := ⟨P.q7.len, P.q7.sc, P.q7.eq, P.q7.nil, fun j hj => by
    obtain ⟨k1, k2, k3⟩ := P.q7.blk j hj
    obtain ⟨c1, c2, c3⟩ := b7n hj
    exact ⟨by omega, (old6 j (by omega)).trans ((old4 j k1 c1 c2 c3).trans k2), k3⟩⟩
  have htl := H.tn
  obtain ⟨q7', g7, ea, m7, s7, n7⟩ := appAt (bytes := 64) q76 p6 rlen rsc (by decide) (by omega)
  refine Ok.eq ?_ (by simp -implicitDefEqProofs only [ea, cl_some, chk_nil] <;> rfl)
  have hb7t : ∀ {j}, j ∈ b7.toList → b7 = some j := fun {j} hj => by cases hb : b7 with | none => rw [hb] at hj; simp at hj | some y => rw [hb] at hj; simp at hj; rw [hj]
  have old7 : ∀ j, j < g4.next + 2 → b7 ≠ some j → g7.get j = g6.get j := fun j hj hb => s7.get _ (by omega) (fun hm => hb (hb7t hm))
  have oldg : ∀ j, j < g.next → j ∉ [A 5, A 7, A 8] → bh ≠ some j → j ≠ ph → b7 ≠ some j → g7.get j = g.get j := fun j hj a b c d => by
    rw [old7 j (by omega) d, old6 j (by omega), old4 j hj a b c]
  have hA := P.hp.lt
  -- the arena's own
  have HA : HpAt g7 A l2 T 0 := by
    have e : ∀ j, j < 11 → bh ≠ some (A j) ∧ A j ≠ ph ∧ b7 ≠ some (A j) := fun j hj => ⟨fun h => H.AR j hj (mh h), fun e => H.AR j hj (by rw [e]; simp), fun h => (P.b7n _ h).2.2 j hj rfl⟩
    have S : Same (ph :: (bh.toList ++ b7.toList)) g2 g7 := ⟨by omega, fun j hj hn => by
      simp only [List.mem_cons, List.mem_append, not_or] at hn
      rw [s7.get _ (by omega) hn.2.2, old6 j (by omega), s4.get _ (by omega) (by simp; exact hn.1), s3.get _ hj hn.2.1]⟩
    refine H2.mono S (fun j hj hm => ?_) (fun hm => ?_)
    · simp only [List.mem_cons, List.mem_append] at hm
      obtain ⟨e1, e2, e3⟩ := e j hj
      rcases hm with h | h | h
      · exact e2 h
      · exact e1 (hbt h)
      · exact e3 (hb7t h)
    · simp only [List.mem_cons, List.mem_append] at hm
      rcases hm with h | h | h
      · exact H.zp h.symm
      · exact H.zh (hbt h)
      · exact (P.b7n 0 (hb7t h)).2.1 rfl
  have hvs : tn.vs = List.replicate N 0 := by rw [← htn]
  have hvb : tn.vb = g4.next := by rw [← htn]
  have had : tn.ad = ad := by rw [← htn]
  have hta : tgC (tg ++ [tn]) = tgC tg ++ tn.row := by rw [tgC_app, show tgC [tn] = tn.row by simp [tgC]]
  have gl : ∀ (j : Nat) (u : Tg), (tg ++ [tn])[j]? = some u → (j < tg.length ∧ tg[j]? = some u) ∨ (j = tg.length ∧ u = tn) := fun j u hu => by
    by_cases hj : j < tg.length
    · rw [List.getElem?_append_left hj] at hu; exact .inl ⟨hj, hu⟩
    · rw [List.getElem?_append_right (by omega)] at hu
      have := (List.getElem?_eq_some_iff.1 hu).1
      simp at this
      have : j - tg.length = 0 := by omega
      rw [this] at hu
      simp at hu
      exact .inr ⟨by omega, hu.symm⟩
  have nad : ∀ (j : Nat) (u : Tg), tg[j]? = some u → u.ad ≠ ad := fun j u hu e => by
    obtain ⟨sx', rest, _, L⟩ := (P.ti j u hu).sx
    obtain ⟨a1, a2, a3⟩ := L.find P.hp.wf
    rw [e, M.new] at a3; cases a3
  have hcl := class_some h1 h2
  refine hk q7' (some g6.next) (some (g2.next + 1)) g7 (tg ++ [tn]) (by simp) ?_
  exact
  { P :=
    { hp := HA
      q7 := by rw [hta, List.length_append]; exact m7
      vb := fun j u hu => by
        rcases gl j u hu with ⟨hj, hu'⟩ | ⟨rfl, rfl⟩
        · obtain ⟨v1, v2, v3, v4, v5, v6⟩ := P.vb j u hu'
          have c1 : u.vb ∉ [A 5, A 7, A 8] := fun hm => by obtain ⟨k, hk, e⟩ := inA hm; exact v3 k hk e
          have c2 : bh ≠ some u.vb := fun h => v5 (mh h)
          have c3 : u.vb ≠ ph := fun e => v5 (by rw [e]; simp)
          refine ⟨by omega, (oldg _ v1 c1 c2 c3 v4).trans v2, v3, fun e => by have := Option.some.inj e; omega, ?_, v6⟩
          simp only [List.mem_cons, Option.toList_some, List.not_mem_nil, or_false, not_or] at v5 ⊢
          exact ⟨v5.1, v5.2.1, v5.2.2.1, by omega⟩
        · rw [hvb, hvs]
          refine ⟨by omega, ?_, fun k hk e => ?_, fun e => by have := Option.some.inj e; omega, ?_, by omega⟩
          · rw [old7 _ (by omega) (fun e => by have := b7lt e; omega), s6.get _ (by omega) (by simp)]; exact p5
          · have := hA k hk; omega
          · have lx := H.lx
            have l3 := H.s3.lt
            simp; omega
      vd := fun j k u w hu hw e => by
        rcases gl j u hu with ⟨hj, hu'⟩ | ⟨rfl, rfl⟩
        · rcases gl k w hw with ⟨hk, hw'⟩ | ⟨rfl, rfl⟩
          · exact P.vd j k u w hu' hw' e
          · have := (P.vb j u hu').1; rw [hvb] at e; omega
        · rcases gl k w hw with ⟨hk, hw'⟩ | ⟨rfl, _⟩
          · have := (P.vb k w hw').1; rw [hvb] at e; omega
          · rfl
      ti := fun j u hu => by
        rcases gl j u hu with ⟨hj, hu'⟩ | ⟨rfl, rfl⟩
        · obtain ⟨⟨sx', rest, a1, L⟩, a2, a3, a4⟩ := P.ti j u hu'
          exact ⟨⟨sx', rest, a1, M.old _ _ (nad j u hu') L⟩, a2, a3, a4⟩
        · have hn : u.n = x.n := by rw [← htn]
          have hss : u.s = s := by rw [← htn]
          refine ⟨⟨sx, List.replicate ((wordsOf (classOf x.n)).toNat - 1 - N) 0, by rw [hss]; exact hx, ?_⟩, by rw [hn]; exact h1, by rw [hn]; exact h2, by rw [hvs, hz, hn]; omega⟩
          have := M.lies
          rw [had, hvs]
          unfold tgHd
          rw [hn, hss, List.cons_append, List.replicate_append_replicate, show N + ((wordsOf (classOf x.n)).toNat - 1 - N) = (wordsOf (classOf x.n)).toNat - 1 by omega]
          exact this
      cov := fun ad' had' => by
        by_cases e : ad' = ad
        · exact ⟨tg.length, tn, by simp, had.trans e.symm⟩
        · rw [M.find _ e] at had'
          obtain ⟨j, u, hu, hua⟩ := P.cov ad' had'
          exact ⟨j, u, by rw [List.getElem?_append_left (List.getElem?_eq_some_iff.1 hu).1]; exact hu, hua⟩
      dis := fun j k u w hu hw e => by
        rcases gl j u hu with ⟨hj, hu'⟩ | ⟨rfl, rfl⟩
        · rcases gl k w hw with ⟨hk, hw'⟩ | ⟨rfl, rfl⟩
          · exact P.dis j k u w hu' hw' e
          · exact absurd (e.trans had) (nad j u hu')
        · rcases gl k w hw with ⟨hk, hw'⟩ | ⟨rfl, _⟩
          · exact absurd (e.symm.trans had) (nad k w hw')
          · rfl
      b7n := fun j hj => by
        obtain rfl : g6.next = j := Option.some.inj hj
        have lx := H.lx
        have l3 := H.s3.lt
        refine ⟨by simp; omega, by omega, fun k hk e => by have := hA k hk; omega⟩
      len := by simp; omega }
    AR := fun j hj => by
      have := H.AR j hj
      have := hA j hj
      simp only [List.mem_cons, Option.toList_some, List.not_mem_nil, or_false, not_or] at this ⊢
      have h3 := H.AR j hj
      simp only [List.mem_cons, not_or] at h3
      exact ⟨h3.1, h3.2.1, h3.2.2.1, by omega⟩
    s3 := ⟨H.s3.eq, (oldg b3 H.s3.lt (offR (by simp)) H.d2 H.d1 (fun e => (P.b7n b3 e).1 (by simp))).trans H.s3.get, by have := H.s3.lt; omega⟩
    hh := ⟨v3, _, _, (old7 ph (by omega) (fun e => (P.b7n ph e).1 (by simp))).trans ((old6 ph (by omega)).trans q4), ⟨m4.len, m4.sc, m4.eq, m4.nil, fun j hj => by
      obtain ⟨k1, k2, k3⟩ := m4.blk j hj
      obtain rfl : g2.next + 1 = j := Option.some.inj hj
      exact ⟨by omega, (old7 _ (by omega) (fun e => by have := b7lt e; omega)).trans ((old6 _ (by omega)).trans k2), k3⟩⟩, by omega⟩
    d1 := H.d1
    d2 := fun e => by have := Option.some.inj e; have := H.s3.lt; omega
    d3 := fun e => by have := Option.some.inj e; omega
    d4 := H.d4, d5 := H.d5
    d6 := fun e => by have := Option.some.inj e; have := H.lx; omega
    z3 := H.z3, zp := H.zp
    zh := fun e => by have := Option.some.inj e; omega
    lx := by have := H.lx; omega
    gx := (oldg bx H.lx (offR (by simp)) H.d6 H.d4 (fun e => (P.b7n bx e).1 (by simp))).trans H.gx
    lp := by omega
    us := by have := M.used; have := H.us; simp; omega
    sp := M.len.trans H.sp
    Tn := by have := H.Tn; omega
    T0 := H.T0
    tn := by simp; omega }
end
end Go.Ab.F

namespace Go.Ab.F
open Go Go.Ab
set_option linter.all false
set_option linter.all false
attribute [local congr] c_bind c_cl c_mk c_lp c_clC c_gQ c_gV c_condE c_thenK

/-! HeapPlays: the loops, the law. -/
section
variable {g0 g : Heap} {A : Nat → Nat} {l : PAl} {T : List Shp} {tg : List Tg} {q3 q7 : AV} {b3 : Nat} {b7 bh : Option Nat} {ph bx i : Nat}
/-- The place of a shape among those the statement keeps. -/
theorem ix_loop (H : ShV g q3 b3 T) (hl : T.length ≤ 1000) {x : Act} {p : Nat} (hp : g.get p = some (.cells true x.row)) :
    Ok (k_law14_HeapPlays_L0 q3 (.ptr (some (p, 0))) (.int .i64 0) g) fun r => r.1 = .exit 3 ∧ r.2.2 = g ∧ r.2.1 = [.int .i64 (match firstIx T x.S T.length 0 with | some n => (n : Int) | none => (T.length : Int))] := by
  have la : ldA 3 g (.ptr (some (p, 8))) = some (.agg x.S.row) := by rw [ldA_at hp]; rfl
  refine ok_loop (fun m vs g' => ∃ n : Nat, vs = [.int .i64 n] ∧ m + n = T.length + 1 ∧ n ≤ T.length ∧ g' = g ∧ firstIx T x.S T.length 0 = firstIx T x.S (T.length - n) n) ?_ (n := T.length + 1) (by omega) ⟨0, rfl, rfl, Nat.zero_le _, rfl, rfl⟩
  rintro m vs g' ⟨n, rfl, hm, hn, hgg, he⟩
  subst hgg
  rw [gd0]
  have hlv := H.lnL
  by_cases hlt : n < T.length
  · have hlt' : (n : Int) < T.length := by omega
    obtain ⟨t, ht⟩ : ∃ t, T[n]? = some t := ⟨_, List.getElem?_eq_getElem hlt⟩
    obtain ⟨ix, la3⟩ := H.ix ht
    have la' := la3 (rfl : g'.get b3 = g'.get b3)
    rw [show T.length - n = (T.length - n - 1) + 1 by omega, firstIx] at he
    by_cases e : t = x.S
    · have de : decide (t = x.S) = true := by simp [e]
      refine (Ok.of (r := (.exit 3, [.int .i64 (n : Int)], g')) (.inr ⟨by simp, rfl, rfl, ?_⟩)).eq (by
        simp -implicitDefEqProofs only [k_law14_HeapPlays_b0, hlv, Option.bind_some, bin_lss, hlt', decide_true, gdW_tt, gV_true, ix, la', faP_ptr, Nat.zero_add, la, keyL_eq, neq_row, de, Bool.not_true, pickP_bool, if_true, chk_nil, condE_false])
      rw [he, if_pos (by rw [ht, e])]
    · have de : decide (t = x.S) = false := by simp [e]
      refine (Ok.of (r := (.normal, [.int .i64 ((n + 1 : Nat) : Int)], g')) (.inl ⟨rfl, m - 1, by omega, n + 1, rfl, by omega, by omega, rfl, ?_⟩)).eq (by
        simp -implicitDefEqProofs only [k_law14_HeapPlays_b0, hlv, Option.bind_some, bin_lss, hlt', decide_true, gdW_tt, gV_true, ix, la', faP_ptr, Nat.zero_add, la, keyL_eq, neq_row, de, Bool.not_false, pickP_bool, if_true, chk_nil, condE_true, bin_add, suc64 n (by omega)])
      rw [he, if_neg (by rw [ht]; intro h; exact e (Option.some.inj h)), show T.length - n - 1 = T.length - (n + 1) by omega]
  · have hlt' : ¬ (n : Int) < T.length := by omega
    obtain rfl : n = T.length := by omega
    refine (Ok.of (r := (.exit 3, [.int .i64 (T.length : Int)], g')) (.inr ⟨by simp, rfl, rfl, ?_⟩)).eq (by
      simp -implicitDefEqProofs only [k_law14_HeapPlays_b0, hlv, Option.bind_some, bin_lss, hlt', decide_false, gdW_ft, gV_false, faP_ptr, pickP_bool, Bool.false_eq_true, if_false, chk_nil, condE_false])
    rw [he, Nat.sub_self]; rfl
/-- A shape more, in the heap. -/
theorem hl_added (H : Hl g0 g A l T tg q3 q7 b3 b7 bh ph bx i) {g' : Heap} {s : Shp} {b9 b10 : Nat} (h9 : g.next ≤ b9) (h10 : g.next ≤ b10) (H' : HpAt g' (moved A b9 b10) l (T ++ [s]) 0) (S : Same [A 0, A 2, A 3, A 9, A 10] g g') :
    HpSt g' (moved A b9 b10) l (T ++ [s]) tg q7 b7 (bx :: b3 :: ph :: bh.toList) ∧ (∀ j, j < 11 → moved A b9 b10 j ∉ bx :: b3 :: ph :: bh.toList) ∧ ∀ j, j < g.next → (∀ k, k < 11 → A k ≠ j) → g'.get j = g.get j := by
  have P := H.P
  have fr : ∀ j, j < g.next → (∀ k, k < 11 → A k ≠ j) → g'.get j = g.get j := fun j hj hk => S.get j hj (by
    have k0 := hk 0 (by decide)
    have k2 := hk 2 (by decide)
    have k3 := hk 3 (by decide)
    have k9 := hk 9 (by decide)
    have k10 := hk 10 (by decide)
    simp; omega)
  have mv : ∀ {j : Nat} {y : Nat}, j < 11 → y < g.next → A j ≠ y → moved A b9 b10 j ≠ y := fun {j y} hj hy h => by
    unfold moved
    split
    · omega
    · split
      · omega
      · exact h
  have nS := S.next
  have lo : ∀ {y}, y ∈ bx :: b3 :: ph :: bh.toList → y < g.next := fun {y} hy => by
    obtain ⟨vh, cs, n, _, sh, _⟩ := H.hh
    simp only [List.mem_cons] at hy
    rcases hy with rfl | rfl | rfl | hy
    · exact H.lx
    · exact H.s3.lt
    · exact H.lp
    · cases hb : bh with
      | none => rw [hb] at hy; simp at hy
      | some z => rw [hb] at hy; simp at hy; subst hy; exact (sh.blk _ hb).1
  refine ⟨?_, fun j hj hm => mv hj (lo hm) (fun e => H.AR j hj (e ▸ hm)) rfl, fr⟩
  exact
  { hp := H'
    q7 := ⟨P.q7.len, P.q7.sc, P.q7.eq, P.q7.nil, fun j hj => by
      obtain ⟨k1, k2, k3⟩ := P.q7.blk j hj
      exact ⟨Nat.lt_of_lt_of_le k1 nS, (fr j k1 (P.b7n j hj).2.2).trans k2, k3⟩⟩
    vb := fun j u hu => by
      obtain ⟨v1, v2, v3, v4⟩ := P.vb j u hu
      exact ⟨Nat.lt_of_lt_of_le v1 nS, (fr _ v1 v3).trans v2, fun k hk => mv hk v1 (v3 k hk), v4⟩
    vd := P.vd
    ti := fun j u hu => by
      obtain ⟨⟨sx, rest, a1, L⟩, a2, a3, a4⟩ := P.ti j u hu
      exact ⟨⟨sx, rest, by rw [List.getElem?_append_left (List.getElem?_eq_some_iff.1 a1).1]; exact a1, L⟩, a2, a3, a4⟩
    cov := P.cov, dis := P.dis
    b7n := fun j hj => by
      obtain ⟨c1, c2, c3⟩ := P.b7n j hj
      exact ⟨c1, c2, fun k hk => mv hk (P.q7.blk j hj).1 (c3 k hk)⟩
    len := P.len }
theorem plays14_loop {x0 : AV} {rows : List Act} (H0 : Hl g0 g0 A l T tg q3 q7 b3 b7 bh ph bx 0) (hlen : rows.length ≤ 60) (hl0 : lnL x0 = some (.int .i64 rows.length))
    (hx : ∀ (i : Nat) r, rows[i]? = some r → ∃ o, iaS 11 x0 (.int .i64 (i : Int)) = some (.ptr (some (bx, o))) ∧ ∀ g, g.get bx = g0.get bx → ldA 11 g (.ptr (some (bx, o))) = some (.agg r.row)) {v4 : AV} {ty : TypeId} (hty : True) :
    Ok (loopN (fun us g => k_law14_HeapPlays_b1 x0 (.ptr (some (A 0, 0))) (.ptr (some (ph, 0))) (us.getD 0 .bot) (us.getD 1 .bot) (us.getD 2 .bot) (us.getD 3 .bot) g) [v4, q3, q7, .int .i64 0] g0) fun r => r.1 = .exit 0 ∧ ∃ A' l' T' tg' q3' q7' b3' b7' bh' i', A' 0 = A 0 ∧ r.2.1 = [v4, q3', q7', .int .i64 rows.length] ∧ Hl g0 r.2.2 A' l' T' tg' q3' q7' b3' b7' bh' ph bx i' := by
  refine ok_loop (fun m vs g => ∃ (i : Nat) (A' : Nat → Nat) (l : PAl) (T : List Shp) (tg : List Tg) (q3 q7 : AV) (b3 : Nat) (b7 bh : Option Nat), A' 0 = A 0 ∧ vs = [v4, q3, q7, .int .i64 i] ∧ m + i = rows.length ∧ Hl g0 g A' l T tg q3 q7 b3 b7 bh ph bx i) ?_ (n := rows.length) (by omega)
    ⟨0, A, l, T, tg, q3, q7, b3, b7, bh, rfl, rfl, rfl, H0⟩
  rintro m vs g ⟨i, A', l, T, tg, q3, q7, b3, b7, bh, hA0, rfl, hm, H⟩
  rw [gd0, gd1, gd2, gd3]
  refine Ok.eq (y := k_law14_HeapPlays_b1 x0 (.ptr (some (A' 0, 0))) (.ptr (some (ph, 0))) v4 q3 q7 (.int .i64 (i : Int)) g) ?_ (by rw [hA0])
  by_cases hi : i < rows.length
  · have hlt : (i : Int) < rows.length := by omega
    obtain ⟨x, hr⟩ : ∃ r, rows[i]? = some r := ⟨_, List.getElem?_eq_getElem hi⟩
    obtain ⟨o, ix, hla⟩ := hx i x hr
    have la := hla g H.gx
    have hsc := suc64 i (by omega)
    have zrow : x.row.length = 11 := rfl
    refine Ok.eq ?_ (by simp -implicitDefEqProofs only [k_law14_HeapPlays_b1, hl0, bin_lss, hlt, decide_true, Option.bind_some, condE_true, ix, la] <;> rfl)
    refine ok_tmp (cs := x.row) (n := 11) rfl rfl rfl fun g1 s1 n1 p1 => ?_
    have H1 := H.keep s1
    have lop : ldS g1 (.ptr (some (g.next, 0))) = some (.int .i64 x.op) := by rw [ldS_at p1]; rfl
    have hA' := H.P.hp.lt
    have next : ∀ {g' : Heap} {A'' : Nat → Nat} {l' : PAl} {T' : List Shp} {tg' : List Tg} {q3' q7' : AV} {b3' : Nat} {b7' bh' : Option Nat}, A'' 0 = A 0 → Hl g0 g' A'' l' T' tg' q3' q7' b3' b7' bh' ph bx (i + 1) →
        Ok (k_law14_HeapPlays_j0 (.int .i64 (i : Int)) v4 q7' q3' g') fun r => (r.1 = .normal ∧ ∃ m', m' < m ∧ ∃ (i : Nat) (A' : Nat → Nat) (l : PAl) (T : List Shp) (tg : List Tg) (q3 q7 : AV) (b3 : Nat) (b7 bh : Option Nat), A' 0 = A 0 ∧ r.2.1 = [v4, q3, q7, .int .i64 i] ∧ m' + i = rows.length ∧ Hl g0 r.2.2 A' l T tg q3 q7 b3 b7 bh ph bx i) ∨
          (r.1 ≠ .normal ∧ (r.1 = .exit 0 ∧ ∃ A' l' T' tg' q3' q7' b3' b7' bh' i', A' 0 = A 0 ∧ r.2.1 = [v4, q3', q7', .int .i64 rows.length] ∧ Hl g0 r.2.2 A' l' T' tg' q3' q7' b3' b7' bh' ph bx i')) := by
      intro g' A'' l' T' tg' q3' q7' b3' b7' bh' hA'' H'
      exact (Ok.of (r := (.normal, [v4, q3', q7', .int .i64 ((i + 1 : Nat) : Int)], g')) (.inl ⟨rfl, m - 1, by omega, i + 1, A'', l', T', tg', q3', q7', b3', b7', bh', hA'', rfl, by omega, H'⟩)).eq (by
        simp -implicitDefEqProofs only [k_law14_HeapPlays_j0, bin_add, hsc, Option.bind_some])
    by_cases o1 : x.op < 0
    · exact (next hA0 H1.up).eq (by simp -implicitDefEqProofs only [faP_ptr, Nat.zero_add, Option.bind_some, lop, bin_lss, o1, decide_true, gdW_tf, gQ_false, pickP_bool, if_true, condE_true])
    by_cases o2 : 6 < x.op
    · exact (next hA0 H1.up).eq (by simp -implicitDefEqProofs only [faP_ptr, Nat.zero_add, Option.bind_some, lop, bin_lss, o1, decide_false, gdW_ff, gQ_true, cl_some, bin_gtr, o2, decide_true, pickP_bool, Bool.false_eq_true, if_false, condE_true])
    refine Ok.eq ?_ (by simp -implicitDefEqProofs only [faP_ptr, Nat.zero_add, Option.bind_some, lop, bin_lss, o1, decide_false, gdW_ff, gQ_true, cl_some, bin_gtr, o2, pickP_bool, Bool.false_eq_true, if_false, condE_false, eql_int] <;> rfl)
    by_cases o0 : x.op = 0
    · have d0 : decide (x.op = 0) = true := by simp [o0]
      have l1 : ∀ {g' : Heap}, g'.get g.next = some (.cells true x.row) → ldS g' (.ptr (some (g.next, 1))) = some (.int .i64 x.sh) ∧ ldS g' (.ptr (some (g.next, 2))) = some (.int .i64 x.n) := fun {g'} h => by
        constructor <;> rw [ldS_at h] <;> rfl
      obtain ⟨y1, y2⟩ := l1 p1
      have hq3 := H1.s3.lnL
      by_cases hb : x.sh < 0 ∨ (T.length : Int) ≤ x.sh ∨ x.n < 1 ∨ 64 < x.n
      · have mb := make_bad H1.P.hp hb
        refine Ok.eq (next hA0 H1.up) ?_
        by_cases c1 : x.sh < 0
        · simp -implicitDefEqProofs only [d0, condE_true, faP_ptr, Nat.zero_add, Option.bind_some, y1, y2, mb, cl_some, extractV_tup, e0, e1, bin_lss, c1, decide_true, gdW_tf, gQ_false, pickP_bool, if_true, neq_int, Bool.not_true, gdW_ff, gQ_true, Bool.false_eq_true, if_false, condE_false]
        by_cases c2 : (T.length : Int) ≤ x.sh
        · simp -implicitDefEqProofs only [d0, condE_true, faP_ptr, Nat.zero_add, Option.bind_some, y1, y2, mb, cl_some, extractV_tup, e0, e1, bin_lss, c1, decide_true, decide_false, gdW_ff, gQ_true, hq3, bin_geq, c2, gdW_tf, gQ_false, pickP_bool, if_true, neq_int, Bool.not_true, Bool.false_eq_true, if_false, condE_false]
        by_cases c3 : x.n < 1
        · simp -implicitDefEqProofs only [d0, condE_true, faP_ptr, Nat.zero_add, Option.bind_some, y1, y2, mb, cl_some, extractV_tup, e0, e1, bin_lss, c1, c3, decide_true, decide_false, gdW_ff, gQ_true, hq3, bin_geq, c2, gdW_tf, gQ_false, pickP_bool, if_true, neq_int, Bool.not_true, Bool.false_eq_true, if_false, condE_false]
        have c4 : 64 < x.n := by omega
        simp -implicitDefEqProofs only [d0, condE_true, faP_ptr, Nat.zero_add, Option.bind_some, y1, y2, mb, cl_some, extractV_tup, e0, e1, bin_lss, c1, c3, c4, bin_gtr, decide_true, decide_false, gdW_ff, gQ_true, hq3, bin_geq, c2, pickP_bool, if_true, neq_int, Bool.not_true, Bool.false_eq_true, if_false, condE_false]
      · obtain ⟨sx, hsx⟩ : ∃ sx : Nat, x.sh = (sx : Int) := ⟨x.sh.toNat, by omega⟩
        obtain ⟨s, hs⟩ : ∃ s, T[sx]? = some s := ⟨_, List.getElem?_eq_getElem (by omega)⟩
        have c1 : ¬ x.sh < 0 := by omega
        have c2 : ¬ (T.length : Int) ≤ x.sh := by omega
        have c3 : ¬ x.n < 1 := by omega
        have c4 : ¬ 64 < x.n := by omega
        have us := H1.us
        have tn := H1.tn
        have sp := H1.sp
        have mk1 := make_ok H1.P.hp hs (n := x.n) (by omega) (by omega) (by omega)
        rw [← hsx] at mk1
        refine Ok.eq ?_ (by simp -implicitDefEqProofs only [d0, condE_true, faP_ptr, Nat.zero_add, Option.bind_some, y1, y2] <;> rfl)
        refine ok_cl (mk1 _) ?_
        rintro _ g2 ⟨ad, l2, rfl, H2, s2, M⟩
        simp only at H2 s2
        have p2 : g2.get g.next = some (.cells true x.row) := (s2.get _ (by omega) (by
          have h5 := hA' 5 (by decide)
          have h7 := hA' 7 (by decide)
          have h8 := hA' 8 (by decide)
          simp; omega)).trans p1
        obtain ⟨z1, z2⟩ := l1 p2
        have ha : ¬ ad = 0 := by have := M.lo; omega
        have hgn : ∀ {y}, y ∈ bx :: b3 :: ph :: bh.toList → y < g.next := fun {y} hy => by
          obtain ⟨vh, cs, n, _, sh, _⟩ := H.hh
          simp only [List.mem_cons] at hy
          rcases hy with rfl | rfl | rfl | hy
          · exact H.lx
          · exact H.s3.lt
          · exact H.lp
          · cases hb : bh with
            | none => rw [hb] at hy; simp at hy
            | some z => rw [hb] at hy; simp at hy; subst hy; exact (sh.blk _ hb).1
        refine Ok.eq ?_ (by simp -implicitDefEqProofs only [extractV_tup, e0, e1, Option.bind_some, z1, z2, bin_lss, c1, c3, decide_false, gdW_ff, gQ_true, cl_some, hq3, bin_geq, c2, pickP_bool, Bool.false_eq_true, if_false, bin_gtr, c4, condE_false, neq_int, decide_true, Bool.not_true, eql_int, ha] <;> rfl)
        rw [hsx] at M
        exact hl_made H1 (by omega) p1 (by omega) (fun hm => by have := hgn hm; omega) (fun j hj e => by have := hA' j hj; omega) (fun e => by have := (H.P.q7.blk _ e).1; omega) hs hsx (by omega) (by omega) H2 s2 M
          (fun q7' b7' bh' g7 tg' _ H7 => next hA0 H7)
    have d0 : decide (x.op = 0) = false := by simp [o0]
    by_cases o6 : x.op = 6
    · have d6 : decide (x.op = 6) = true := by simp [o6]
      have l8 : ∀ {g' : Heap}, g'.get g.next = some (.cells true x.row) → ldA 3 g' (.ptr (some (g.next, 8))) = some (.agg x.S.row) ∧ ldS g' (.ptr (some (g.next, 8))) = some (.int .i64 x.S.kind) ∧ ldS g' (.ptr (some (g.next, 9))) = some (.int .i64 x.S.fields) ∧ ldS g' (.ptr (some (g.next, 10))) = some (.int .u64 x.S.map.toNat) := fun {g'} h => by
        refine ⟨by rw [ldA_at h]; rfl, ?_, ?_, ?_⟩ <;> rw [ldS_at h] <;> rfl
      have bS : bldS [(0, 1), (1, 1), (2, 1)] [(AV.int .i64 0), (AV.int .i64 0), (AV.int .u64 0)] [(0, .int .i64 x.S.kind), (1, .int .i64 x.S.fields), (2, .int .u64 x.S.map.toNat)] = some (.agg x.S.row) := rfl
      have Tn := H1.Tn
      refine Ok.eq ?_ (by simp -implicitDefEqProofs only [d0, condE_false, d6, Option.bind_some, condE_true, faP_ptr, Nat.zero_add, (l8 p1).1] <;> rfl)
      refine ok_cl (add_ok H1.P.hp x.S (by omega)) ?_
      rintro w g2 hw
      by_cases hgd : goodB x.S = false
      · rw [if_pos hgd] at hw
        obtain ⟨rfl, s2⟩ := hw
        simp only at s2
        have p2 := (s2.get _ (by omega) (by simp)).trans p1
        obtain ⟨w0, w1, w2, w3⟩ := l8 p2
        refine Ok.eq ?_ (by simp -implicitDefEqProofs only [extractV_tup, e0, e1, Option.bind_some, faP_ptr, Nat.zero_add, Nat.reduceAdd, w1, w2, w3, bS] <;> rfl)
        refine ok_cl (goodShape_ok x.S g2) ?_
        rintro _ g3 ⟨rfl, s3⟩
        simp only at s3
        exact (next hA0 ((H1.keep s2).keep s3).up).eq (by simp -implicitDefEqProofs only [hgd, un_not, Bool.not_false, Option.bind_some, condE_true, neq_int, decide_true, Bool.not_true, condE_false])
      · rw [if_neg hgd] at hw
        have hgd' : goodB x.S = true := by simpa using hgd
        have toff : ∀ k, k < 11 → A' k ≠ g.next := fun k hk => by have := hA' k hk; omega
        cases hf : firstIx T x.S T.length 0 with
        | some n =>
          rw [hf] at hw
          obtain ⟨rfl, s2⟩ := hw
          simp only at s2
          have p2 := (s2.get _ (by omega) (by simp)).trans p1
          obtain ⟨w0, w1, w2, w3⟩ := l8 p2
          refine Ok.eq ?_ (by simp -implicitDefEqProofs only [extractV_tup, e0, e1, Option.bind_some, faP_ptr, Nat.zero_add, Nat.reduceAdd, w1, w2, w3, bS] <;> rfl)
          refine ok_cl (goodShape_ok x.S g2) ?_
          rintro _ g3 ⟨rfl, s3⟩
          simp only at s3
          have H3 := (H1.keep s2).keep s3
          have p3 := (s3.get _ (by have := s2.next; omega) (by simp)).trans p2
          refine Ok.eq ?_ (by simp -implicitDefEqProofs only [hgd', un_not, Bool.not_true, Option.bind_some, condE_false] <;> rfl)
          refine ok_lp (ix_loop H3.s3 (by omega) p3) ?_
          rintro _ vs g3' ⟨rfl, hgg, hvs⟩
          simp only at hgg hvs
          subst hgg
          rw [hf] at hvs
          subst hvs
          have hnl := (List.getElem?_eq_some_iff.1 (firstIx_at hf).1).1
          have dn : decide ((n : Int) = (T.length : Int)) = false := by simp; omega
          exact (next hA0 H3.up).eq (by simp -implicitDefEqProofs only [if_true, thenK_normal, H3.s3.lnL, Option.bind_some, gd0, eql_int, dn, condE_false, k_law14_HeapPlays_j1, neq_int, decide_true, Bool.not_true, gdW_ff, gQ_true, cl_some, pickP_bool, Bool.false_eq_true, if_false])
        | none =>
          rw [hf] at hw
          obtain ⟨rfl, b9, b10, hb9, hb10, H2, s2⟩ := hw
          simp only at H2 s2
          obtain ⟨P2, AR2, fr⟩ := hl_added H1 hb9 hb10 H2 s2
          have p2 := (fr _ (by omega) toff).trans p1
          obtain ⟨w0, w1, w2, w3⟩ := l8 p2
          refine Ok.eq ?_ (by simp -implicitDefEqProofs only [extractV_tup, e0, e1, Option.bind_some, faP_ptr, Nat.zero_add, Nat.reduceAdd, w1, w2, w3, bS] <;> rfl)
          refine ok_cl (goodShape_ok x.S g2) ?_
          rintro _ g3 ⟨rfl, s3⟩
          simp only at s3
          have ARj : ∀ {y}, y ∈ bx :: b3 :: ph :: bh.toList → ∀ k, k < 11 → A' k ≠ y := fun {y} hy k hk e => H1.AR k hk (e ▸ hy)
          have n13 := s2.next
          have S3 : ShV g3 q3 b3 T := ⟨H1.s3.eq, ((s3.get _ (by have := H1.s3.lt; omega) (by simp)).trans (fr b3 H1.s3.lt (ARj (by simp)))).trans H1.s3.get, by have := H1.s3.lt; have := s3.next; omega⟩
          have P3 := P2.keep s3
          have p3 := (s3.get _ (by omega) (by simp)).trans p2
          refine Ok.eq ?_ (by simp -implicitDefEqProofs only [hgd', un_not, Bool.not_true, Option.bind_some, condE_false] <;> rfl)
          refine ok_lp (ix_loop S3 (by omega) p3) ?_
          rintro _ vs g3' ⟨rfl, hgg, hvs⟩
          simp only at hgg hvs
          subst hgg
          rw [hf] at hvs
          subst hvs
          obtain ⟨w30, _⟩ := l8 p3
          have bs1 : bsP 3 [(AV.int .i64 0), (AV.int .i64 0), (AV.int .u64 0)] 1 [(0, .agg x.S.row)] = some (.cells true x.S.row, fun i => .sl (some (i, 0)) 1 (.ex 1)) := bsP_one (t := .agg x.S.row) rfl rfl rfl
          have s4 : Same [] g3' (g3'.new (.cells true x.S.row)) := Same.new _ _
          have p4 : (g3'.new (.cells true x.S.row)).get g3'.next = some (.cells true x.S.row) := get_new_eq
          have n4 : (g3'.new (.cells true x.S.row)).next = g3'.next + 1 := rfl
          refine Ok.eq ?_ (by simp -implicitDefEqProofs only [if_true, thenK_normal, S3.lnL, Option.bind_some, gd0, eql_int, decide_true, condE_true, faP_ptr, Nat.zero_add, w30, bs1, mk_some] <;> rfl)
          generalize g3'.new (.cells true x.S.row) = g4 at *
          have S4 := S3.keep s4 (by simp)
          obtain ⟨q3', g5, ea, S5, s5, n5⟩ := S4.app p4 (by omega)
          have n34 := s3.next
          refine Ok.eq (next (g' := g5) (A'' := moved A' b9 b10) (l' := l) (T' := T ++ [x.S]) (tg' := tg) (q3' := q3') (q7' := q7) (b3' := g4.next) (b7' := b7) (bh' := bh) ?_ ?_) (by simp -implicitDefEqProofs only [ea, cl_some, k_law14_HeapPlays_j1, neq_int, decide_true, Bool.not_true, Option.bind_some, gdW_ff, gQ_true, gd0, pickP_bool, Bool.false_eq_true, if_false, condE_false])
          · rw [moved_ne (by decide) (by decide)]; exact hA0
          · have P4 := P3.keep s4
            have b3n : b3 ∈ bx :: b3 :: ph :: bh.toList := by simp
            have fr5 : ∀ j, j < g1.next → (∀ k, k < 11 → A' k ≠ j) → j ≠ b3 → g5.get j = g1.get j := fun j hj hk hne => by
              rw [s5.get _ (by omega) (by simp; exact hne), s4.get _ (by omega) (by simp), s3.get _ (by omega) (by simp), fr j hj hk]
            obtain ⟨vh, cs, nh, e1', e2', e3'⟩ := H1.hh
            have hlx := H1.lx
            have hlp := H1.lp
            have hl3 := H1.s3.lt
            have mb : ∀ {y}, bh = some y → y ∈ bx :: b3 :: ph :: bh.toList := fun {y} h => by rw [h]; simp
            exact
            { P :=
              { hp := P4.hp.mono s5 (fun j hj => by simp; exact fun e => AR2 j hj (by rw [e]; simp)) (by simp; exact H1.z3.symm)
                q7 := P4.q7.same s5 (fun j hj => by simp; exact fun e => (P4.b7n j hj).1 (by rw [e]; simp))
                vb := fun j u hu => by
                  obtain ⟨v1, v2, v3, v4, v5, v6⟩ := P4.vb j u hu
                  refine ⟨by omega, (s5.get _ v1 (by simp; exact fun e => v5 (by rw [e]; simp))).trans v2, v3, v4, ?_, v6⟩
                  have v1' := (H1.P.vb j u hu).1
                  simp only [List.mem_cons, not_or] at v5 ⊢
                  exact ⟨v5.1, by omega, v5.2.2.1, v5.2.2.2⟩
                vd := P4.vd, ti := P4.ti, cov := P4.cov, dis := P4.dis
                b7n := fun j hj => by
                  obtain ⟨c1, c2, c3⟩ := P4.b7n j hj
                  have := (H1.P.q7.blk j hj).1
                  simp only [List.mem_cons, not_or] at c1 ⊢
                  exact ⟨⟨c1.1, by omega, c1.2.2.1, c1.2.2.2⟩, c2, c3⟩
                len := P4.len }
              AR := fun j hj => by
                have h := AR2 j hj
                have := H2.lt j hj
                simp only [List.mem_cons, not_or] at h ⊢
                exact ⟨h.1, by omega, h.2.2.1, h.2.2.2⟩
              s3 := S5
              hh := ⟨vh, cs, nh, (fr5 ph hlp (ARj (by simp)) H1.d1.symm).trans e1', ⟨e2'.len, e2'.sc, e2'.eq, e2'.nil, fun j hj => by
                obtain ⟨k1, k2, k3⟩ := e2'.blk j hj
                exact ⟨by omega, (fr5 j k1 (ARj (mb hj)) (fun e => H1.d2 (by rw [hj, e]))).trans k2, k3⟩⟩, by omega⟩
              d1 := by omega
              d2 := fun e => by have := (e2'.blk _ e).1; omega
              d3 := H1.d3
              d4 := H1.d4
              d5 := by omega
              d6 := H1.d6
              z3 := by omega
              zp := H1.zp, zh := H1.zh
              lx := by omega
              gx := (fr5 bx hlx (ARj (by simp)) H1.d5).trans H1.gx
              lp := by omega
              us := H1.us, sp := H1.sp
              Tn := by simp; omega
              T0 := by simp
              tn := by have := H1.tn; omega }
    have d6 : decide (x.op = 6) = false := by simp [o6]
    have la11 : ldA 11 g1 (.ptr (some (g.next, 0))) = some (.agg x.row) := ldA_all p1 rfl
    refine Ok.eq ?_ (by simp -implicitDefEqProofs only [d0, condE_false, d6, Option.bind_some, la11] <;> rfl)
    refine ok_cl (played_ok H1.P H1.AR (x := x) (by omega)) ?_
    rintro v2 g2 D
    obtain ⟨hv, l2, tg2, H2⟩ := H1.done D
    simp only at hv H2
    subst hv
    exact (next hA0 H2.up).eq (by simp -implicitDefEqProofs only [un_not, Bool.not_true, Option.bind_some, condE_false])
  · have hlt : ¬ (i : Int) < rows.length := by omega
    obtain rfl : i = rows.length := by omega
    exact (Ok.of (r := (.exit 0, [v4, q3, q7, .int .i64 (rows.length : Int)], g)) (.inr ⟨by simp, rfl, A', l, T, tg, q3, q7, b3, b7, bh, _, hA0, rfl, H⟩)).eq (by simp -implicitDefEqProofs only [k_law14_HeapPlays_b1, hl0, bin_lss, hlt, decide_false, Option.bind_some, condE_false])
end
end Go.Ab.F

namespace Go.Ab.F
open Go Go.Ab
set_option linter.all false
set_option linter.all false
attribute [local congr] c_bind c_cl c_mk c_lp c_clC c_gQ c_gV c_condE c_thenK

/-! HeapPlays: what is there at the end; the law. -/
section
variable {g0 g : Heap} {A : Nat → Nat} {l : PAl} {T : List Shp} {tg : List Tg} {q3 q7 : AV} {b3 : Nat} {b7 bh : Option Nat} {ph bx i : Nat} {R : List Nat}
theorem end_loop (P : HpSt g A l T tg q7 b7 R) {v4 w3 w5 w6 : AV} :
    Ok (k_law14_HeapPlays_L2 (.ptr (some (A 0, 0))) [w3, w5, q7, w6] v4 (.int .i64 0) g) fun r => r.1 = .exit 5 ∧ HpAt r.2.2 A l T 0 := by
  have hlen := P.len
  refine ok_loop (fun m vs g' => ∃ n : Nat, vs = [v4, .int .i64 n] ∧ m + n = tg.length ∧ HpSt g' A l T tg q7 b7 R) ?_ (n := tg.length) (by omega) ⟨0, rfl, rfl, P⟩
  rintro m vs g' ⟨n, rfl, hm, P⟩
  rw [gd0, gd1]
  have hlv := P.q7.lnL
  by_cases hn : n < tg.length
  · have hlt : (n : Int) < tg.length := by omega
    obtain ⟨t, ht⟩ : ∃ t, tg[n]? = some t := ⟨_, List.getElem?_eq_getElem hn⟩
    obtain ⟨b, hix, hb, hld⟩ := P.ix ht
    obtain ⟨sx, hsx, hof⟩ := (P.ti n t ht).of P.hp.wf P.hp.tab.len P.hp.tab.good
    have l0 := hld (Same.refl [] g') 0 _ rfl
    rw [Nat.add_zero] at l0
    refine Ok.eq ?_ (by simp -implicitDefEqProofs only [k_law14_HeapPlays_b2, gd2, hlv, Option.bind_some, bin_lss, hlt, decide_true, condE_true, hix, faP_ptr, Nat.add_zero, l0] <;> rfl)
    refine ok_cl (of_ok P.hp t.ad) ?_
    rintro _ g1 ⟨rfl, s1⟩
    simp only at s1
    rw [hof]
    refine Ok.eq ?_ (by simp -implicitDefEqProofs only [ofV, extractV_tup, e0, e1, e2, Option.bind_some] <;> rfl)
    refine ok_two (c1 := hdC t.n t.s.kind sx) (c2 := t.s.row) (n := 3) rfl rfl rfl rfl rfl rfl fun g2 s2 n2 p1 p2 => ?_
    have ss := s1.trans s2
    have la := ldA_row p2
    have z0 : ldS g2 (.ptr (some (g1.next, 0 + 0))) = some (.int .i64 t.n) := by rw [ldS_at p1]; rfl
    have z1 : ldS g2 (.ptr (some (g1.next, 0 + 1))) = some (.int .i64 t.s.kind) := by rw [ldS_at p1]; rfl
    have y1 := hld ss 1 _ rfl
    have y4 := hld ss 4 _ rfl
    have P2 := P.keep ss
    have la' : ldA 3 g2 (.ptr (some (b, n * 6 + 1))) = some (.agg t.s.row) := by
      rw [ldA_at (P2.q7.blk b hb).2.1]
      have hs := tgC_at ht
      have hl := span_le hs
      rw [span_some _ _ _ hl] at hs
      rw [span_some _ _ _ (by omega)]
      have hs := Option.some.inj hs
      have h3 : ((tgC tg).drop (n * 6 + 1)).take 3 = ((((tgC tg).drop (n * 6)).take 6).drop 1).take 3 := by
        rw [List.drop_take, List.take_take, List.drop_drop]
        congr 1
      rw [h3, hs]; rfl
    have hsc := suc64 n (by omega)
    exact (Ok.of (r := (.normal, [v4, .int .i64 ((n + 1 : Nat) : Int)], g2)) (.inl ⟨rfl, m - 1, by omega, n + 1, rfl, by omega, P2⟩)).eq (by
      simp -implicitDefEqProofs only [un_not, Bool.not_true, Option.bind_some, gdW_ff, gV_true, la, gd2, hix, faP_ptr, la', keyL_eq, neq_row, decide_true, pickP_bool, Bool.false_eq_true, if_false, z0, y4, neq_int, z1, Nat.add_zero, y1, chk_nil, condE_false, bin_add, hsc])
  · have hlt : ¬ (n : Int) < tg.length := by omega
    exact (Ok.of (r := (.exit 5, [v4, .int .i64 (n : Int)], g')) (.inr ⟨by simp, rfl, P.hp⟩)).eq (by simp -implicitDefEqProofs only [k_law14_HeapPlays_b2, gd2, hlv, Option.bind_some, bin_lss, hlt, decide_false, condE_false])
theorem forced_eq {F : Int} (H : HpAt g A l T F) : k_heap_Heap_Forced (.ptr (some (A 0, 0))) g = some (.int .i64 F, g) := by
  obtain ⟨v, hv, _⟩ := H.hpb
  have l : ldS g (.ptr (some (A 0, 2))) = some (.int .i64 F) := by rw [ldS_at hv]; rfl
  simp -implicitDefEqProofs only [k_heap_Heap_Forced, nilV_ptr, Option.bind_some, faP_ptr, Nat.zero_add, l]
end
theorem ldA_cong {g g' : Heap} {b : Nat} (h : g.get b = g'.get b) (n o : Nat) : ldA n g (.ptr (some (b, o))) = ldA n g' (.ptr (some (b, o))) := by
  simp only [ldA, h]
theorem plays14_true {h : Heap} (hsub : Sub hQ1 h) (hn1 : 1 ≤ h.next) {x0 : AV} {rows : List Act} (hy : RwC h 11 x0 (rows.map Act.row)) :
    Ok (k_law14_HeapPlays x0 h) fun r => r.1 = .bool true := by
  have ht := tab0_sub hsub hn1
  have haw : k_law14_awake h = some (.bool true, h) := quiet_pos hsub
  have hl1 := hy.lnL
  rw [List.length_map] at hl1
  by_cases h1 : 60 < rows.length
  · have h1' : (60 : Int) < rows.length := by omega
    exact ok_val (v := .bool true) (g := h) (by simp -implicitDefEqProofs only [k_law14_HeapPlays, haw, cl_some, un_not, Bool.not_true, Option.bind_some, condE_false, hl1, bin_gtr, h1', decide_true, condE_true]) rfl
  have h1' : ¬ (60 : Int) < rows.length := by omega
  refine Ok.eq ?_ (by simp -implicitDefEqProofs only [k_law14_HeapPlays, haw, cl_some, un_not, Bool.not_true, Option.bind_some, condE_false, hl1, bin_gtr, h1', decide_false, shapes14] <;> rfl)
  have s0 : Same [] h (h.new (.cells true (shC sh14))) := Same.new _ _
  have p0 : (h.new (.cells true (shC sh14))).get h.next = some (.cells true (shC sh14)) := get_new_eq
  have n0 : (h.new (.cells true (shC sh14))).next = h.next + 1 := rfl
  refine ok_cl (hnew_ok (h := h.new (.cells true (shC sh14))) (N := 100) (T := sh14) (by decide) (by decide) (ht.same s0 (by simp)) p0 (Nat.lt_succ_self _) (by decide) (by decide) sh14_nd sh14_good) ?_
  rintro _ g1 ⟨A, rfl, H1, s1, hA⟩
  simp only at H1 s1
  rw [n0] at hA
  have bn : bldS [(0, 1)] [(AV.sl none 0 (.ex 0))] [] = some (.agg [.sl none 0 (.ex 0)]) := rfl
  have xn : bxP (.agg [.sl none 0 (.ex 0)]) = some (.cells true [.sl none 0 (.ex 0)], fun i => .ptr (some (i, 0))) := rfl
  have s2 : Same [] g1 (g1.new (.cells true [.sl none 0 (.ex 0)])) := Same.new _ _
  have p2 : (g1.new (.cells true [.sl none 0 (.ex 0)])).get g1.next = some (.cells true [.sl none 0 (.ex 0)]) := get_new_eq
  have n2 : (g1.new (.cells true [.sl none 0 (.ex 0)])).next = g1.next + 1 := rfl
  refine Ok.eq ?_ (by simp -implicitDefEqProofs only [extractV_tup, e0, e1, Option.bind_some, neq_int, decide_true, Bool.not_true, condE_false, bn, xn, mk_some] <;> rfl)
  generalize g1.new (.cells true [.sl none 0 (.ex 0)]) = g2 at *
  have H2 := H1.keep s2
  have lt1 := H1.lt
  have hA0 := hA 0 (by decide)
  have hlt0 := lt1 0 (by decide)
  have s02 := (s0.trans s1).trans s2
  obtain ⟨bx, hbx, hxr⟩ : ∃ bx, (bx < h.next) ∧ ∀ (i : Nat) r, rows[i]? = some r → ∃ o, iaS 11 x0 (.int .i64 (i : Int)) = some (.ptr (some (bx, o))) ∧ ldA 11 h (.ptr (some (bx, o))) = some (.agg r.row) := by
    cases hrows : rows with
    | nil => exact ⟨0, by omega, fun i r hr => by simp at hr⟩
    | cons r0 rest =>
      have key : ∀ (i : Nat) r, rows[i]? = some r → ∃ b o, b < h.next ∧ iaS 11 x0 (.int .i64 (i : Int)) = some (.ptr (some (b, o))) ∧ ldA 11 h (.ptr (some (b, o))) = some (.agg r.row) := fun i r hr => by
        obtain ⟨b, o, hb, hix, hla, _⟩ := hy.at (i := i) (r := r.row) (by rw [List.getElem?_map, hr]; rfl)
        exact ⟨b, o, hb, hix .i64, hla⟩
      obtain ⟨b, o, hb, hix, hla⟩ := key 0 r0 (by rw [hrows]; rfl)
      refine ⟨b, hb, fun i r hr => ?_⟩
      obtain ⟨b', o', hb', hix', hla'⟩ := key i r (by rw [hrows]; exact hr)
      have : b' = b := by
        obtain ⟨cs, hw, _⟩ := hy
        have hi := (List.getElem?_eq_some_iff.1 (show rows[i]? = some r by rw [hrows]; exact hr)).1
        have hi0 : 0 < rows.length := by omega
        rcases hw.eq with ⟨_, e⟩ | ⟨b1, o1, c, e, _⟩
        · simp at e; rw [e] at hi; simp at hi
        · rw [e, iaS_sl 11 _ _ _ _ _ ⟨by omega, by rw [List.length_map]; omega⟩] at hix hix'
          simp only [Option.some.injEq, AV.ptr.injEq, Prod.mk.injEq] at hix hix'
          omega
      subst this
      exact ⟨o', hix', hla'⟩
  have H0 : Hl g2 g2 A ⟨newA 100, List.replicate 100 false⟩ sh14 [] (.sl (some (h.next, 0)) 3 (.ex 3)) (.sl none 0 (.ex 0)) h.next none none g1.next bx 0 :=
    { P :=
      { hp := H2
        q7 := SlB.mt
        vb := fun i t hi => by simp at hi
        vd := fun i j t u hi => by simp at hi
        ti := fun i t hi => by simp at hi
        cov := fun ad had => absurd (find_new 100 ad) had
        dis := fun i j t u hi => by simp at hi
        b7n := fun i hi => by cases hi
        len := by simp }
      AR := fun j hj => by
        have := hA j hj
        have := lt1 j hj
        simp; omega
      s3 := ⟨⟨.ex 3, rfl, .inl rfl⟩, ((s1.trans s2).get _ (by omega) (by simp)).trans p0, by omega⟩
      hh := ⟨_, [], 0, p2, SlB.mt, Nat.le_refl _⟩
      d1 := by omega
      d2 := by simp
      d3 := by simp
      d4 := by omega
      d5 := by omega
      d6 := by simp
      z3 := by omega
      zp := by omega
      zh := by simp
      lx := by omega
      gx := rfl
      lp := by omega
      us := by show (newA 100).used ≤ 0; rw [used_new]; exact Nat.le_refl _
      sp := by show (List.replicate 100 _).length = 100; rw [List.length_replicate]
      Tn := by decide
      T0 := by decide
      tn := by simp }
  have lp := plays14_loop (x0 := x0) (rows := rows) (v4 := .bool false) (ty := 0) H0 (by omega) hl1 (fun i r hr => by
    obtain ⟨o, hix, hla⟩ := hxr i r hr
    exact ⟨o, hix, fun g hg => by rw [ldA_cong (hg.trans (s02.get _ hbx (by simp))) 11 o]; exact hla⟩) trivial
  refine ok_lp lp ?_
  rintro _ vs g3 ⟨rfl, A', l', T', tg', q3', q7', b3', b7', bh', i', hA', hvs, H3⟩
  simp only at hvs H3
  subst hvs
  rw [← hA']
  refine Ok.eq ?_ (by simp -implicitDefEqProofs only [if_true, thenK_normal, gd0] <;> rfl)
  refine ok_lp (end_loop H3.P) ?_
  rintro _ vs2 g4 ⟨rfl, H4⟩
  simp only at H4
  exact ok_val (v := .bool true) (g := g4) (by simp -implicitDefEqProofs only [if_true, thenK_normal, forced_eq H4, cl_some, eql_int, decide_true, Option.bind_some]) rfl

/-! ### The acts as they are handed in -/
theorem take1 {α : Type} {cs : List α} {a : α} (h : cs.take 1 = [a]) : cs = a :: cs.drop 1 := by
  cases cs with
  | nil => simp at h
  | cons b l => simp at h; subst h; rfl
theorem reps_int {h : Heap} {k : IntKind} {fs : List Ty} {xs : List D} {cs : List AV} (H : Reps h (.int k :: fs) xs cs) : ∃ n xs' cs', (Lit.int k n).wf = true ∧ cs = .int k n :: cs' ∧ Reps h fs xs' cs' := by
  cases xs with
  | nil => simp [Reps] at H
  | cons x xs =>
    simp only [Reps, Ty.size] at H
    obtain ⟨h1, h2⟩ := H
    cases x <;> simp only [Rep] at h1
    rename_i n
    exact ⟨n, xs, _, h1.2, take1 h1.1, h2⟩
theorem reps_bool {h : Heap} {fs : List Ty} {xs : List D} {cs : List AV} (H : Reps h (.bool :: fs) xs cs) : ∃ b xs' cs', cs = .bool b :: cs' ∧ Reps h fs xs' cs' := by
  cases xs with
  | nil => simp [Reps] at H
  | cons x xs =>
    simp only [Reps, Ty.size] at H
    obtain ⟨h1, h2⟩ := H
    cases x <;> simp only [Rep] at h1
    rename_i b
    exact ⟨b, xs, _, take1 h1, h2⟩
def actTy14 : Ty := .st [.int .i64, .int .i64, .int .i64, .int .i64, .int .i64, .int .i64, .bool, .bool, .st [.int .i64, .int .i64, .int .u64]]
theorem rep_act {h : Heap} {x : D} {r : List AV} (H : Rep h actTy14 x r) : ∃ a : Act, r = a.row := by
  cases x <;> simp only [actTy14, Rep] at H
  obtain ⟨a1, _, c1, _, f1, H1⟩ := reps_int H
  obtain ⟨a2, _, c2, _, f2, H2⟩ := reps_int H1
  obtain ⟨a3, _, c3, _, f3, H3⟩ := reps_int H2
  obtain ⟨a4, _, c4, _, f4, H4⟩ := reps_int H3
  obtain ⟨a5, _, c5, _, f5, H5⟩ := reps_int H4
  obtain ⟨a6, _, c6, _, f6, H6⟩ := reps_int H5
  obtain ⟨a7, _, c7, f7, H7⟩ := reps_bool H6
  obtain ⟨a8, ys, cs, f8, H⟩ := reps_bool H7
  clear H1 H2 H3 H4 H5 H6 H7
  subst f8; subst f7; subst f6; subst f5; subst f4; subst f3; subst f2; subst f1
  cases ys with
  | nil => simp [Reps] at H
  | cons y ys =>
    simp only [Reps] at H
    obtain ⟨H1, H2⟩ := H
    cases ys with
    | cons => simp [Reps] at H2
    | nil =>
      simp only [Reps] at H2
      have hsz : (Ty.st [.int .i64, .int .i64, .int .u64]).size = 3 := rfl
      rw [hsz] at H1 H2
      cases y <;> simp only [Rep] at H1
      obtain ⟨b1, _, d1, _, f1', K1⟩ := reps_int H1
      obtain ⟨b2, _, d2, _, f2', K2⟩ := reps_int K1
      obtain ⟨b3, zs, d3, w3, f3', K⟩ := reps_int K2
      clear H1 K1 K2
      cases zs with
      | cons => simp [Reps] at K
      | nil =>
        simp only [Reps] at K
        subst K; subst f3'; subst f2'
        have : cs = [.int .i64 b1, .int .i64 b2, .int .u64 b3] := by rw [← List.take_append_drop 3 cs, f1', H2]; rfl
        subst this
        refine ⟨⟨a1, a2, a3, a4, a5, a6, a7, a8, ⟨b1, b2, BitVec.ofInt 64 b3⟩⟩, ?_⟩
        unfold Act.row
        simp only
        rw [← u64_wf w3]
theorem rd_acts14 {h : Heap} {x : D} {vs : List AV} (H : Rep h (.sl actTy14) x vs) : ∃ rows : List Act, RwC h 11 (argAV (.sl actTy14) vs) (rows.map Act.row) := by
  obtain ⟨l, h1, h2⟩ := rd_rows H
  have : ∀ l : List (List AV), (∀ r ∈ l, ∃ y, Rep h actTy14 y r) → ∃ rows : List Act, l = rows.map Act.row := by
    intro l
    induction l with
    | nil => exact fun _ => ⟨[], rfl⟩
    | cons r l ih =>
      intro h
      obtain ⟨y, hy⟩ := h r (List.mem_cons_self ..)
      obtain ⟨a, ha⟩ := rep_act hy
      obtain ⟨rows, hr⟩ := ih fun r hr => h r (List.mem_cons_of_mem _ hr)
      exact ⟨a :: rows, by rw [ha, hr]; rfl⟩
  obtain ⟨rows, hr⟩ := this l h2
  refine ⟨rows, ?_⟩
  rw [← hr]; exact h1
end Go.Ab.F
