import Derived.Test.YtokefidnmopedaaQuFn
import Derived.Test.YtokefidnmopedaaIns
import Derived.Test.YtokefidnmopedaaLiv
import Derived.Test.YtokefidnmopedaaLft

namespace Go.Ab.F
open Go Go.Ab
set_option linter.all false
set_option linter.unusedSimpArgs false
attribute [local congr] c_bind c_cl c_mk c_lp c_clC c_gQ c_gV c_condE c_thenK

/-! ### The document's sets -/
theorem same_w (a : BitVec 64) : same (w64 a) (w64 a) = true := same_int _ _
theorem andn0 (a : BitVec 64) : a &&& ~~~ 0#64 = a := by
  apply BitVec.eq_of_getLsbD_eq
  intro j hj
  rw [BitVec.getLsbD_and, BitVec.getLsbD_not]
  simp only [BitVec.getLsbD_zero, hj, decide_true, Bool.not_false, Bool.and_true]
theorem bit9_eq (n : Int) (g : Heap) : k_ref9_bit (.int .i64 n) g = some (w64 (bitB n), g) := by
  by_cases c1 : n < 0
  · have e : bitB n = 0#64 := by unfold bitB; rw [if_neg (by omega)]
    rw [e]
    simp -implicitDefEqProofs only [k_ref9_bit, bin_lss, c1, decide_true, Option.bind_some, gdW_tf, gdW_tup, gQ_false, pickP_bool, if_true, condE_true]; rfl
  · by_cases c2 : (63 : Int) < n
    · have e : bitB n = 0#64 := by unfold bitB; rw [if_neg (by omega)]
      rw [e]
      simp -implicitDefEqProofs only [k_ref9_bit, bin_lss, bin_gtr, c1, c2, decide_true, decide_false, Option.bind_some, gdW_ff, gQ_true, cl_some, pickP_bool, Bool.false_eq_true, if_false, condE_true]; rfl
    · have e : bitB n = 1#64 <<< n.toNat := by unfold bitB; rw [if_pos (by omega)]
      rw [e]
      have h := shl_one n (by omega) (by omega)
      simp only [cvI_int, Option.bind_some] at h
      simp -implicitDefEqProofs only [k_ref9_bit, bin_lss, bin_gtr, c1, c2, decide_false, Option.bind_some, gdW_ff, gQ_true, cl_some, pickP_bool, Bool.false_eq_true, if_false, condE_false, cvI_int, h]
structure Sl9 (g : Heap) (b : Nat) (s : List (BitVec 64)) : Prop where
  blk : g.get b = some (.cells true (s.map w64))
  blt : b < g.next
theorem Sl9.mono {g g' : Heap} {b : Nat} {s : List (BitVec 64)} (H : Sl9 g b s) (e : Same [] g g') : Sl9 g' b s := ⟨by rw [e.get b H.blt (by simp)]; exact H.blk, Nat.lt_of_lt_of_le H.blt e.next⟩
theorem Sl9.ld {g : Heap} {b : Nat} {s : List (BitVec 64)} (H : Sl9 g b s) {n : Int} (h0 : 0 ≤ n) (h1 : n < s.length) : ldS g (.ptr (some (b, n.toNat))) = some (w64 (sAt s n)) := by
  have : n.toNat < s.length := by omega
  rw [ldS_at H.blk, List.getElem?_map, List.getElem?_eq_getElem this]
  simp [sAt, List.getElem?_eq_getElem this]
def out9 (s : List (BitVec 64)) (ws : List Wy) : BitVec 64 := ws.foldl (fun v w => v ||| (sAt s w.1 &&& ~~~ bitB w.2)) 0#64
theorem out9_ok {g : Heap} {b : Nat} {s : List (BitVec 64)} {wv : AV} {ws : List Wy} (S : Sl9 g b s) (W : RwC g 2 wv (ws.map row2)) (hw : ws.length ≤ 60) (hin : ∀ w ∈ ws, 0 ≤ w.1 ∧ w.1 < s.length) :
    Ok (k_ref9_Sets_L0 (.sl (some (b, 0)) s.length (.ex s.length)) wv (.int .u64 0) (.int .i64 0) g) fun r => r.1 = .exit 4 ∧ r.2.2 = g ∧ r.2.1.getD 0 .bot = w64 (out9 s ws) := by
  have hln := W.lnL
  rw [List.length_map] at hln
  refine ok_loop (fun k vs g' => ∃ i : Nat, vs = [w64 (out9 s (ws.take i)), .int .i64 i] ∧ k + i = ws.length ∧ g' = g) ?_ (n := ws.length) (by omega) ⟨0, rfl, rfl, rfl⟩
  rintro k vs g' ⟨i, rfl, hk, rfl⟩
  rw [gD0, gD1]
  by_cases hi : i < ws.length
  · obtain ⟨w, hwi⟩ : ∃ w, ws[i]? = some w := ⟨_, List.getElem?_eq_getElem hi⟩
    have hi' : (i : Int) < ws.length := by omega
    obtain ⟨b2, o2, hb2, hix, hla, hls⟩ := W.at (i := i) (r := row2 w) (by rw [List.getElem?_map, hwi]; rfl)
    have l0 : ldS g' (.ptr (some (b2, o2 + 0))) = some (.int .i64 w.1) := hls 0 _ rfl
    have l1 : ldS g' (.ptr (some (b2, o2 + 1))) = some (.int .i64 w.2) := hls 1 _ rfl
    obtain ⟨h0, h1⟩ := hin w (List.mem_of_getElem? hwi)
    have hsx := SwB.ix (s := s) (b := b) h0 h1
    have hld := S.ld h0 h1
    have hs : out9 s (ws.take (i + 1)) = out9 s (ws.take i) ||| (sAt s w.1 &&& ~~~ bitB w.2) := by
      unfold out9; rw [List.take_add_one, hwi, List.foldl_append]; rfl
    have c0 : ∀ (k : Nat) g, [g', g'][k]? = some g → ldS g (.ptr (some (b2, o2 + 0))) = some (.int .i64 w.1) := fun k g hk => by
      rcases k with _ | _ | k <;> simp at hk <;> subst hk <;> exact l0
    have c1 : ∀ (k : Nat) g, [g', g'][k]? = some g → ldS g (.ptr (some (b, w.1.toNat))) = some (w64 (sAt s w.1)) := fun k g hk => by
      rcases k with _ | _ | k <;> simp at hk <;> subst hk <;> exact hld
    refine (Ok.of (r := (Ex.normal, [w64 (out9 s (ws.take (i + 1))), AV.int .i64 ((i + 1 : Nat) : Int)], g')) (.inl ⟨rfl, k - 1, by omega, i + 1, rfl, by omega, rfl⟩)).eq ?_
    simp -implicitDefEqProofs only [k_ref9_Sets_b0, hln, bin_lss, hi', decide_true, Option.bind_some, condE_true, hix, faP_ptr, rdC_some (f := fun k => ldS k (.ptr (some (b2, o2 + 0)))) (h := g') l0, clC_some, hsx, rdC_some (f := fun k => ldS k (.ptr (some (b, w.1.toNat)))) (h := g') hld, l1, bit9_eq, cl_some, andNot_w, or_w, bin_add, suc64 i (by omega), hs]
    rw [chk_keep (same_w _) c1 (by simp), chk_keep (same_int _ _) c0 (by simp), chk_nil]
  · have hi' : ¬ (i : Int) < ws.length := by omega
    refine (Ok.of (r := (Ex.exit 4, [w64 (out9 s (ws.take i)), AV.int .i64 (i : Int)], g')) (.inr ⟨by simp, rfl, rfl, ?_⟩)).eq (by simp -implicitDefEqProofs only [k_ref9_Sets_b0, hln, bin_lss, hi', decide_false, Option.bind_some, condE_false])
    show w64 (out9 s (ws.take i)) = _
    rw [List.take_of_length_le (by omega)]
theorem bits_step {l : List Int} {i : Nat} {n : Int} (h : l[i]? = some n) : bitsB (l.take (i + 1)) = bitsB (l.take i) ||| bitB n := by
  unfold bitsB; rw [List.take_add_one, h, List.foldl_append]; rfl
theorem less9_ok {g : Heap} {v : AV} {l : List Int} (H : RdW g 1 v (wI l) l.length) (hl : l.length ≤ 1048576) (a : BitVec 64) :
    Ok (k_ref9_Sets_L1 v (w64 a) (.int .i64 0) g) fun r => r.1 = .exit 6 ∧ r.2.2 = g ∧ r.2.1.getD 0 .bot = w64 (a &&& ~~~ bitsB l) := by
  have hln := H.lnL
  refine ok_loop (fun k vs g' => ∃ i : Nat, vs = [w64 (a &&& ~~~ bitsB (l.take i)), .int .i64 i] ∧ k + i = l.length ∧ g' = g) ?_ (n := l.length) (by omega) ⟨0, by
    rw [List.take_zero]
    have : a &&& ~~~ bitsB [] = a := by
      exact andn0 a
    rw [this]; rfl, rfl, rfl⟩
  rintro k vs g' ⟨i, rfl, hk, rfl⟩
  rw [gD0, gD1]
  by_cases hi : i < l.length
  · obtain ⟨n, hn⟩ : ∃ n, l[i]? = some n := ⟨_, List.getElem?_eq_getElem hi⟩
    have hi' : (i : Int) < l.length := by omega
    obtain ⟨b, o, _, hix, hld⟩ := H.at (i := i) (x := .int .i64 n) (by simp [wI, hn])
    have hs : (a &&& ~~~ bitsB (l.take i)) &&& ~~~ bitB n = a &&& ~~~ bitsB (l.take (i + 1)) := by
      rw [bits_step hn]
      apply BitVec.eq_of_getLsbD_eq
      intro j hj
      simp only [BitVec.getLsbD_and, BitVec.getLsbD_not, BitVec.getLsbD_or, hj, decide_true, Bool.true_and, Bool.not_or, Bool.and_assoc]
    refine (Ok.of (r := (Ex.normal, [w64 (a &&& ~~~ bitsB (l.take (i + 1))), AV.int .i64 ((i + 1 : Nat) : Int)], g')) (.inl ⟨rfl, k - 1, by omega, i + 1, rfl, by omega, rfl⟩)).eq ?_
    simp -implicitDefEqProofs only [k_ref9_Sets_b1, hln, bin_lss, hi', decide_true, Option.bind_some, condE_true, hix, hld, bit9_eq, cl_some, andNot_w, hs, bin_add, suc64 i (by omega)]
  · have hi' : ¬ (i : Int) < l.length := by omega
    refine (Ok.of (r := (Ex.exit 6, [w64 (a &&& ~~~ bitsB (l.take i)), AV.int .i64 (i : Int)], g')) (.inr ⟨by simp, rfl, rfl, ?_⟩)).eq (by simp -implicitDefEqProofs only [k_ref9_Sets_b1, hln, bin_lss, hi', decide_false, Option.bind_some, condE_false])
    show w64 (a &&& ~~~ bitsB (l.take i)) = _
    rw [List.take_of_length_le (by omega)]
theorem more9_ok {g : Heap} {v : AV} {l : List Int} (H : RdW g 1 v (wI l) l.length) (hl : l.length ≤ 1048576) (a : BitVec 64) :
    Ok (k_ref9_Sets_L2 v (w64 a) (.int .i64 0) g) fun r => r.1 = .exit 8 ∧ r.2.2 = g ∧ r.2.1.getD 0 .bot = w64 (a ||| bitsB l) := by
  have hln := H.lnL
  refine ok_loop (fun k vs g' => ∃ i : Nat, vs = [w64 (a ||| bitsB (l.take i)), .int .i64 i] ∧ k + i = l.length ∧ g' = g) ?_ (n := l.length) (by omega) ⟨0, by
    rw [List.take_zero]
    have : a ||| bitsB [] = a := by
      show a ||| 0#64 = a
      rw [BitVec.or_zero]
    rw [this]; rfl, rfl, rfl⟩
  rintro k vs g' ⟨i, rfl, hk, rfl⟩
  rw [gD0, gD1]
  by_cases hi : i < l.length
  · obtain ⟨n, hn⟩ : ∃ n, l[i]? = some n := ⟨_, List.getElem?_eq_getElem hi⟩
    have hi' : (i : Int) < l.length := by omega
    obtain ⟨b, o, _, hix, hld⟩ := H.at (i := i) (x := .int .i64 n) (by simp [wI, hn])
    have hs : (a ||| bitsB (l.take i)) ||| bitB n = a ||| bitsB (l.take (i + 1)) := by rw [bits_step hn, BitVec.or_assoc]
    refine (Ok.of (r := (Ex.normal, [w64 (a ||| bitsB (l.take (i + 1))), AV.int .i64 ((i + 1 : Nat) : Int)], g')) (.inl ⟨rfl, k - 1, by omega, i + 1, rfl, by omega, rfl⟩)).eq ?_
    simp -implicitDefEqProofs only [k_ref9_Sets_b2, hln, bin_lss, hi', decide_true, Option.bind_some, condE_true, hix, hld, bit9_eq, cl_some, or_w, hs, bin_add, suc64 i (by omega)]
  · have hi' : ¬ (i : Int) < l.length := by omega
    refine (Ok.of (r := (Ex.exit 8, [w64 (a ||| bitsB (l.take i)), AV.int .i64 (i : Int)], g')) (.inr ⟨by simp, rfl, rfl, ?_⟩)).eq (by simp -implicitDefEqProofs only [k_ref9_Sets_b2, hln, bin_lss, hi', decide_false, Option.bind_some, condE_false])
    show w64 (a ||| bitsB (l.take i)) = _
    rw [List.take_of_length_le (by omega)]
/-- It is what live reckons. -/
theorem bitB_neg : bitB (-1) = 0#64 := by unfold bitB; rw [if_neg (by omega)]
theorem bitsB_one (n : Int) : bitsB [n] = bitB n := by
  show 0#64 ||| bitB n = bitB n
  rw [BitVec.zero_or]
theorem fold_filter {α β : Type} (g : α → β) (p : β → Bool) (F : β → BitVec 64) : ∀ (l : List α) (a : BitVec 64), ((l.map g).filter p).foldl (fun v w => v ||| F w) a = l.foldl (fun v x => v ||| (if p (g x) then F (g x) else 0#64)) a
  | [], a => rfl
  | x :: l, a => by
    rw [List.map_cons, List.filter_cons, List.foldl_cons]
    split
    · rw [List.foldl_cons, fold_filter g p F l]
    · rw [fold_filter g p F l, BitVec.or_zero]
theorem out9_eq {m : Md} {f : Fn} {s : List (BitVec 64)} {pc : Nat} {i : Ins} (hi : f.code[pc]? = some i) : out9 s (thereL m f pc i) = outL m f s pc i := by
  unfold outL
  by_cases o41 : i.op = 41
  · rw [if_pos o41]
    have e : waysL m pc i = (casesOf m i.a i.b).map wayOf := by simp only [waysL, o41, Int.reduceEq, if_true, if_false]
    unfold out9 thereL
    rw [e, fold_filter wayOf (fun p => !outB f p.1) (fun w => sAt s w.1 &&& ~~~ bitB w.2)]
    have : (fun (v : BitVec 64) (x : Cas) => v ||| (if (!outB f (wayOf x).1) = true then sAt s (wayOf x).1 &&& ~~~ bitB (wayOf x).2 else 0#64)) = fun v c => v ||| edgeC f s c := by
      funext v c
      unfold edgeC wayOf
      by_cases ho : outB f c.to = true
      · simp [ho]
      · simp only [ho, Bool.not_false, if_true, Bool.false_eq_true, if_false]
        by_cases hk : c.kind = 0
        · simp [hk, bitsB_one]
        · simp only [hk, if_false, bitB_neg, andn0]
    rw [this]
  · rw [if_neg o41]
    have hneg : ∀ w ∈ waysL m pc i, w.2 = -1 := by
      unfold waysL
      intro w hw
      by_cases c1 : i.op = 18
      · simp only [c1, if_true, List.mem_singleton] at hw; subst hw; rfl
      by_cases c2 : i.op = 19
      · simp only [c2, Int.reduceEq, if_true, if_false, List.mem_cons, List.not_mem_nil, or_false] at hw; rcases hw with rfl | rfl <;> rfl
      by_cases c3 : i.op = 22
      · simp only [c3, Int.reduceEq, if_true, if_false, List.not_mem_nil] at hw
      by_cases c4 : i.op = 44
      · simp only [c4, Int.reduceEq, if_true, if_false, List.not_mem_nil] at hw
      simp only [c1, c2, c3, c4, o41, if_false, List.mem_singleton] at hw; subst hw; rfl
    have hfl : followsL m f (pc : Int) = folL (thereL m f pc i) f.code.length := by
      rw [folL_eq]
      have : insAt f (pc : Int) = some i := by unfold insAt; rw [if_neg (by omega)]; exact hi
      simp only [followsL, this]
    have hmem : ∀ n, n ∈ followsL m f (pc : Int) ↔ ∃ w ∈ thereL m f pc i, w.1 = n := by
      intro n
      rw [hfl, folL_eq, inL_mem, ← waysL_fst]
      unfold thereL
      constructor
      · rintro ⟨h1, h2, h3⟩
        rw [List.mem_map] at h1
        obtain ⟨w, hw, rfl⟩ := h1
        refine ⟨w, ?_, rfl⟩
        rw [List.mem_filter]
        refine ⟨hw, ?_⟩
        simp only [outB, Bool.not_eq_true', Bool.or_eq_false_iff, decide_eq_false_iff_not]; omega
      · rintro ⟨w, hw, rfl⟩
        rw [List.mem_filter] at hw
        obtain ⟨h1, h2⟩ := hw
        simp only [outB, Bool.not_eq_true', Bool.or_eq_false_iff, decide_eq_false_iff_not] at h2
        refine ⟨by rw [List.mem_map]; exact ⟨w, h1, rfl⟩, by omega, by omega⟩
    unfold out9
    apply BitVec.eq_of_getLsbD_eq
    intro j hj
    rw [fold_or, fold_or]
    congr 1
    rw [Bool.eq_iff_iff, List.any_eq_true, List.any_eq_true]
    constructor
    · rintro ⟨w, hw, hb⟩
      have h2 : w.2 = -1 := hneg w (by unfold thereL at hw; exact (List.mem_filter.1 hw).1)
      rw [h2, bitB_neg, andn0] at hb
      exact ⟨w.1, (hmem _).2 ⟨w, hw, rfl⟩, hb⟩
    · rintro ⟨n, hn, hb⟩
      obtain ⟨w, hw, rfl⟩ := (hmem n).1 hn
      have h2 : w.2 = -1 := hneg w (by unfold thereL at hw; exact (List.mem_filter.1 hw).1)
      exact ⟨w, hw, by rw [h2, bitB_neg, andn0]; exact hb⟩
theorem gen9_eq {m : Md} {f : Fn} {s : List (BitVec 64)} {pc : Nat} {i : Ins} (hi : f.code[pc]? = some i) : (out9 s (thereL m f pc i) &&& ~~~ bitsB (writesL i)) ||| bitsB (readsL m i) = genL m f s pc i := by
  rw [out9_eq hi, genL, BitVec.or_comm]
end Go.Ab.F

namespace Go.Ab.F
open Go Go.Ab
set_option linter.all false
set_option linter.unusedSimpArgs false
attribute [local congr] c_bind c_cl c_mk c_lp c_clC c_gQ c_gV c_condE c_thenK

theorem pass9_ok {g0 g : Heap} {pf pm b : Nat} {m : Md} {f : Fn} {kv cv mv sv gv kv' cv' fv : AV} {s : List (BitVec 64)} (B : MdB g0 pm m sv gv kv' cv' fv) (F : FnB g0 pf f kv cv mv) (e : Same [] g0 g) (S : Sl9 g b s) (hb : g0.next ≤ b)
    (hc : m.cases.length ≤ 60) (hn : f.code.length ≤ 1048576) (hI : Inc m f s) (hL : Low m f s) :
    Ok (k_ref9_Sets_L3 (.ptr (some (pm, 0))) (.ptr (some (pf, 0))) (.sl (some (b, 0)) f.code.length (.ex f.code.length)) (.bool false) (.int .i64 0) g) fun r => r.1 = .exit 2 ∧ ∃ (c : Bool) (s' : List (BitVec 64)), r.2.1.getD 0 .bot = .bool c ∧ Same [] g0 r.2.2 ∧ Sl9 r.2.2 b s' ∧ Inc m f s' ∧ Low m f s' ∧ (c = true → left s' < left s) ∧ (c = false → s' = s ∧ Fix m f s) := by
  refine ok_loop (fun k vs g' => ∃ (c : Bool) (s' : List (BitVec 64)) (pc : Nat), vs = [.bool c, .int .i64 (pc : Int)] ∧ k + pc = f.code.length ∧ Same [] g0 g' ∧ Sl9 g' b s' ∧ Inc m f s' ∧ Low m f s' ∧ left s' ≤ left s ∧ (c = true → left s' < left s) ∧ (c = false → s' = s ∧ ∀ (q : Nat) i, q < pc → f.code[q]? = some i → s.getD q 0#64 = genL m f s q i)) ?_ (n := f.code.length) (by omega)
    ⟨false, s, 0, rfl, rfl, e, S, hI, hL, Nat.le_refl _, (fun h => by cases h), fun _ => ⟨rfl, fun q i h1 _ => by omega⟩⟩
  rintro k vs g' ⟨c, s', pc, rfl, hk, e', S', hI', hL', hle, ht, hf⟩
  rw [gD0, gD1]
  have F' := F.mono e'
  by_cases hp : pc < f.code.length
  · have hp' : (pc : Int) < f.code.length := by omega
    obtain ⟨i, hi⟩ : ∃ i, f.code[pc]? = some i := ⟨_, List.getElem?_eq_getElem hp⟩
    have B' := B.mono e'
    have hsl := hI'.1
    have hiw := F.wf (List.mem_of_getElem? hi)
    refine Ok.eq ?_ (by simp -implicitDefEqProofs only [k_ref9_Sets_b3, faP_ptr, F'.l5, F'.ln5, Option.bind_some, bin_lss, hp', decide_true, condE_true, B'.la, F'.la]; rfl)
    refine ok_cl (there9_ok B'.rd F'.rd pc hi hc) ?_
    rintro wv g1 ⟨e1, W⟩
    simp only at e1 W
    have hwl : (thereL m f pc i).length ≤ 60 := by
      have h1 := rawL_len hc pc i
      rw [← waysL_fst, List.length_map] at h1
      have h2 := List.length_filter_le (fun p : Wy => !outB f p.1) (waysL m pc i)
      unfold thereL; omega
    have hin : ∀ w ∈ thereL m f pc i, 0 ≤ w.1 ∧ w.1 < s'.length := fun w hw => by
      unfold thereL at hw
      have h2 := (List.mem_filter.1 hw).2
      simp only [outB, Bool.not_eq_true', Bool.or_eq_false_iff, decide_eq_false_iff_not] at h2
      omega
    have S1 := S'.mono e1
    have ho := out9_ok S1 W hwl hin
    rw [hsl] at ho
    refine ok_lp ho ?_
    rintro _ v1 g2 ⟨rfl, hg2, hv1⟩
    simp only at hg2 hv1
    subst hg2
    have e2 := e'.trans e1
    have F2 := F.mono e2
    obtain ⟨b2, o2, hix, hla, _⟩ := F2.code hi
    refine Ok.eq ?_ (by simp -implicitDefEqProofs only [if_true, thenK_normal, faP_ptr, F2.l5, Option.bind_some, hix, hla]; rfl)
    refine ok_cl (writes9_ok i) ?_
    intro v2 g3 L2
    simp only at L2
    rw [hv1]
    refine ok_lp (less9_ok L2.rd (by have := writesL_len i; omega) _) ?_
    rintro _ v3 g4 ⟨rfl, hg4, hv3⟩
    simp only at hg4 hv3
    subst hg4
    have e3 := e2.trans L2.same
    have F3 := F.mono e3
    have B3 := B.mono e3
    obtain ⟨b3, o3, hix3, hla3, _⟩ := F3.code hi
    refine Ok.eq ?_ (by simp -implicitDefEqProofs only [if_true, thenK_normal, faP_ptr, F3.l5, Option.bind_some, hix3, hla3, B3.la]; rfl)
    refine ok_cl (reads9_ok B3.rd i hiw hc) ?_
    intro v4 g5 L4
    simp only at L4
    rw [hv3]
    refine Ok.eq ?_ (by simp -implicitDefEqProofs only [chk_nil]; rfl)
    refine ok_lp (more9_ok L4.rd (by have := readsL_len (m := m) (i := i) hc; omega) _) ?_
    rintro _ v5 g6 ⟨rfl, hg6, hv5⟩
    simp only at hg6 hv5
    subst hg6
    rw [gen9_eq hi] at hv5
    have e5 := e3.trans L4.same
    have S5 := (S1.mono L2.same).mono L4.same
    have hpl : (pc : Int) < s'.length := by omega
    have hixb : iaS 1 (.sl (some (b, 0)) f.code.length (.ex f.code.length)) (.int .i64 (pc : Int)) = some (.ptr (some (b, pc))) := by
      have := SwB.ix (s := s') (b := b) (n := (pc : Int)) (by omega) hpl
      rw [hsl] at this; exact this
    have hld : ldS g6 (.ptr (some (b, pc))) = some (w64 (s'.getD pc 0#64)) := S5.ld (n := (pc : Int)) (by omega) hpl
    by_cases hv : genL m f s' pc i = s'.getD pc 0#64
    · refine (Ok.of (r := (Ex.normal, [AV.bool c, .int .i64 ((pc + 1 : Nat) : Int)], g6)) (.inl ⟨rfl, k - 1, by omega, c, s', pc + 1, rfl, by omega, e5, S5, hI', hL', hle, ht, fun hcf => ?_⟩)).eq (by
        simp -implicitDefEqProofs only [if_true, thenK_normal, hixb, hld, hv5, neq_w, hv, decide_true, Bool.not_true, condE_false, Option.bind_some, bin_add, suc64 pc (by omega)])
      obtain ⟨h1, h2⟩ := hf hcf
      subst h1
      refine ⟨rfl, fun q j hq hj => ?_⟩
      rcases (by omega : q < pc ∨ q = pc) with hlt | rfl
      · exact h2 q j hlt hj
      · rw [hi] at hj; cases hj; exact hv.symm
    · have hst : stP 1 g6 (.ptr (some (b, pc))) (w64 (genL m f s' pc i)) = some (.bot, g6.put b (some (.cells true ((s'.map w64).set pc (w64 (genL m f s' pc i)))))) := stP_one S5.blk (by rw [List.length_map]; omega) (sc_w _)
      have hset : (s'.map w64).set pc (w64 (genL m f s' pc i)) = (s'.set pc (genL m f s' pc i)).map w64 := by rw [List.map_set]
      have hltl : pc < s'.length := by omega
      have hleft := left_set hltl (hI'.2 pc i hi) (fun h => hv h.symm)
      have e6 : Same [] g0 (g6.put b (some (.cells true ((s'.map w64).set pc (w64 (genL m f s' pc i)))))) := e5.old (Same.put _ _ _) (fun j hj => .inr (by simp at hj; omega))
      have S6 : Sl9 (g6.put b (some (.cells true ((s'.map w64).set pc (w64 (genL m f s' pc i)))))) b (s'.set pc (genL m f s' pc i)) := ⟨by rw [get_put_eq, hset], S5.blt⟩
      refine (Ok.of (r := (Ex.normal, [AV.bool true, .int .i64 ((pc + 1 : Nat) : Int)], g6.put b (some (.cells true ((s'.map w64).set pc (w64 (genL m f s' pc i))))))) (.inl ⟨rfl, k - 1, by omega, true, s'.set pc (genL m f s' pc i), pc + 1, rfl, by omega, e6, S6, inc_set hI' hi, low_set hI' hL' hi, by omega, fun _ => by omega, fun h => by cases h⟩)).eq (by
        simp -implicitDefEqProofs only [if_true, thenK_normal, hixb, hld, hv5, neq_w, hv, decide_false, Bool.not_false, condE_true, Option.bind_some, hst, cl_some, bin_add, suc64 pc (by omega)])
  · have hp' : ¬ (pc : Int) < f.code.length := by omega
    refine (Ok.of (r := (Ex.exit 2, [AV.bool c, .int .i64 (pc : Int)], g')) (.inr ⟨by simp, rfl, c, s', rfl, e', S', hI', hL', ht, fun hcf => ?_⟩)).eq (by simp -implicitDefEqProofs only [k_ref9_Sets_b3, faP_ptr, F'.l5, F'.ln5, Option.bind_some, bin_lss, hp', decide_false, condE_false])
    obtain ⟨h1, h2⟩ := hf hcf
    exact ⟨h1, fun q j hj => h2 q j (by have := (List.getElem?_eq_some_iff.1 hj).1; omega) hj⟩
theorem sets9_ok {h : Heap} {v : AV} {r : List AV} {m : Md} {f : Fn} (H : MdRd h v m) (G : FnRd h r f) (hc : m.cases.length ≤ 60) (hn : f.code.length ≤ 1048576) : Ok (k_ref9_Sets v (.agg r) h) fun r => ∃ s, SetsR h r.2 r.1 m f s := by
  obtain ⟨kv, cv, mv, rfl, hbf, FB⟩ := G.box
  obtain ⟨sv, gv, cv0, cv', fv, rfl, hbx, B⟩ := H.box
  have s0 : Same [] h (h.new (.cells true [sv, gv, cv0, cv', fv, .int .i64 m.main])) := Same.new _ _
  have FB := FB _ s0
  generalize hg : h.new (.cells true [sv, gv, cv0, cv', fv, .int .i64 m.main]) = g at *
  have s1 : Same [] g (g.new (.cells true [.int .i64 f.pa, .int .i64 f.ca, .int .i64 f.sl, .int .i64 f.re, kv, cv, mv])) := Same.new _ _
  have B1 := B.mono s1
  generalize hg1 : g.new (.cells true [.int .i64 f.pa, .int .i64 f.ca, .int .i64 f.sl, .int .i64 f.re, kv, cv, mv]) = g1 at *
  have s2 : Same [] h g1 := s0.trans s1
  have hms : msP 1 8 [AV.int .u64 0] (.int .i64 (f.code.length : Int)) (.int .i64 (f.code.length : Int)) = some (.cells true ((List.replicate f.code.length 0#64).map w64), fun i => .sl (some (i, 0)) f.code.length (.ex f.code.length)) := by
    simp only [msP]
    rw [if_pos ⟨by omega, by omega, by omega, by omega, rfl⟩]
    simp only [Int.toNat_natCast, rep_w]
  generalize hz : List.replicate f.code.length 0#64 = z at *
  have hI : Inc m f z := hz ▸ inc_zero m f
  have hL : Low m f z := hz ▸ low_zero m f
  have sA : Same [] g1 (g1.new (.cells true (z.map w64))) := Same.new _ _
  have S3 : Sl9 (g1.new (.cells true (z.map w64))) g1.next z := ⟨get_new_eq, Nat.lt_succ_self _⟩
  generalize hgA : g1.new (.cells true (z.map w64)) = g3 at *
  refine Ok.eq ?_ (by simp -implicitDefEqProofs only [k_ref9_Sets, hbx, hbf, mk_some, hg, hg1, faP_ptr, FB.l5, FB.ln5, Option.bind_some, hms, hgA]; rfl)
  have hmu := left_le z
  have hzl : z.length ≤ 1048576 := by rw [hI.1]; exact hn
  refine ok_lp (P := fun r => r.1 = .exit 0 ∧ ∃ s, Same [] g1 r.2.2 ∧ Sl9 r.2.2 g1.next s ∧ Inc m f s ∧ Low m f s ∧ Fix m f s) ?_ ?_
  · refine ok_loop (fun k vs g' => ∃ (c : Bool) (s : List (BitVec 64)), vs = [.bool c] ∧ Same [] g1 g' ∧ Sl9 g' g1.next s ∧ Inc m f s ∧ Low m f s ∧ (c = true → k = left s + 1) ∧ (c = false → k = 0 ∧ Fix m f s)) ?_ (n := left z + 1)
      (by
        have : z.length * 18446744073709551615 ≤ 1048576 * 18446744073709551615 := Nat.mul_le_mul_right _ hzl
        omega) ⟨true, z, rfl, sA, S3, hI, hL, fun _ => rfl, fun h => by cases h⟩
    rintro k vs g' ⟨c, s, rfl, e', S', hI', hL', ht, hf⟩
    rw [gD0]
    cases c with
    | false =>
      refine (Ok.of (r := (Ex.exit 0, [AV.bool false], g')) (.inr ⟨by simp, rfl, s, e', S', hI', hL', (hf rfl).2⟩)).eq (by simp -implicitDefEqProofs only [k_ref9_Sets_b4, condE_false])
    | true =>
      have hk := ht rfl
      refine Ok.eq ?_ (by simp -implicitDefEqProofs only [k_ref9_Sets_b4, condE_true]; rfl)
      refine ok_lp (pass9_ok B1 FB e' S' (Nat.le_refl _) hc hn hI' hL') ?_
      rintro _ vs g4 ⟨rfl, c4, s4, hv, e4, S4, hI4, hL4, ht4, hf4⟩
      simp only at hv e4 S4
      cases c4 with
      | true =>
        refine (Ok.of (r := (Ex.normal, [AV.bool true], g4)) (.inl ⟨rfl, left s4 + 1, by have := ht4 rfl; omega, true, s4, rfl, e4, S4, hI4, hL4, fun _ => rfl, fun h => by cases h⟩)).eq (by simp -implicitDefEqProofs only [if_true, reduceCtorEq, if_false, hv])
      | false =>
        obtain ⟨h1, h2⟩ := hf4 rfl
        subst h1
        refine (Ok.of (r := (Ex.normal, [AV.bool false], g4)) (.inl ⟨rfl, 0, by omega, false, s4, rfl, e4, S4, hI4, hL4, (fun h => by cases h), fun _ => ⟨rfl, h2⟩⟩)).eq (by simp -implicitDefEqProofs only [if_true, reduceCtorEq, if_false, hv])
  · rintro _ vs g4 ⟨rfl, s, e4, S4, hI4, hL4, hF4⟩
    simp only at e4 S4
    have hl := hI4.1
    refine ok_val (v := .sl (some (g1.next, 0)) f.code.length (.ex f.code.length)) (g := g4) (by simp -implicitDefEqProofs only [if_true, thenK_normal]) ⟨s, s2.trans e4, ⟨g1.next, by rw [hl], s2.next, S4.blt, S4.blk⟩, hl, hF4, hL4⟩
/-- There is one such list. -/
theorem sets_one {m : Md} {f : Fn} {s t : List (BitVec 64)} (hs : s.length = f.code.length) (ht : t.length = f.code.length) (fs : Fix m f s) (ft : Fix m f t) (ls : Low m f s) (lt : Low m f t) : s = t := by
  have a := ls t fun pc i hi => by rw [ft pc i hi]; exact SubW.refl _
  have b := lt s fun pc i hi => by rw [fs pc i hi]; exact SubW.refl _
  apply List.ext_getElem (by omega)
  intro n h1 h2
  have := (a n).antisymm (b n)
  rw [List.getD_eq_getElem?_getD, List.getD_eq_getElem?_getD, List.getElem?_eq_getElem h1, List.getElem?_eq_getElem h2] at this
  exact this
theorem nums_ok {h : Heap} {a b : AV} {l : List (BitVec 64)} (A : RdW h 1 a (l.map w64) l.length) (B : RdW h 1 b (l.map w64) l.length) (hl : l.length ≤ 4611686018427387904) : Ok (k_law10_nums a b h) fun r => r = (.bool true, h) := by
  have la := A.lnL
  have lb := B.lnL
  refine Ok.eq ?_ (by simp -implicitDefEqProofs only [k_law10_nums, la, lb, Option.bind_some, neq_int, decide_true, Bool.not_true, condE_false]; rfl)
  refine ok_lp (P := fun r => r.1 = .exit 0 ∧ r.2.2 = h) ?_ ?_
  · refine ok_loop (fun k vs g' => ∃ j : Nat, vs = [.bool false, .int .i64 j] ∧ k + j = l.length ∧ g' = h) ?_ (n := l.length) (by omega) ⟨0, rfl, rfl, rfl⟩
    rintro k vs g' ⟨j, rfl, hk, rfl⟩
    rw [gD0, gD1]
    by_cases hj : j < l.length
    · have hj' : (j : Int) < l.length := by omega
      obtain ⟨x, hx⟩ : ∃ x, l[j]? = some x := ⟨_, List.getElem?_eq_getElem hj⟩
      obtain ⟨b1, o1, _, i1, l1⟩ := A.at (i := j) (x := w64 x) (by simp [hx])
      obtain ⟨b2, o2, _, i2, l2⟩ := B.at (i := j) (x := w64 x) (by simp [hx])
      exact (Ok.of (r := (.normal, [.bool false, .int .i64 ((j + 1 : Nat) : Int)], g')) (.inl ⟨rfl, k - 1, by omega, j + 1, rfl, by omega, rfl⟩)).eq (by
        simp -implicitDefEqProofs only [k_law10_nums_b0, la, bin_lss, hj', decide_true, Option.bind_some, condE_true, i1, i2, l1, l2, neq_w, Bool.not_true, chk_nil, condE_false, bin_add, suc64 j (by omega)])
    · have hj' : ¬ (j : Int) < l.length := by omega
      exact (Ok.of (r := (.exit 0, [.bool false, .int .i64 (j : Int)], g')) (.inr ⟨by simp, rfl, rfl⟩)).eq (by
        simp -implicitDefEqProofs only [k_law10_nums_b0, la, bin_lss, hj', decide_false, Option.bind_some, condE_false])
  · rintro _ vs g ⟨rfl, rfl⟩
    exact ok_val (v := .bool true) (g := g) (by simp -implicitDefEqProofs only [if_true, thenK_normal]) rfl
end Go.Ab.F

namespace Go.Ab.F
open Go Go.Ab
set_option linter.all false
set_option linter.unusedSimpArgs false
attribute [local congr] c_bind c_cl c_mk c_lp c_clC c_gQ c_gV c_condE c_thenK

/-! ### The document's maps -/
def isK (l : List Bool) (j : Nat) : Bool := l[j]? == some true
theorem kinds_get (l : List Bool) (j : Nat) (hj : j < 64) : ∀ i, i ≤ l.length → (kindsB (l.take i)).getLsbD j = (decide (j < i) && isK l j)
  | 0, _ => by simp [kindsB]
  | i + 1, h => by
    obtain ⟨x, hx⟩ : ∃ x, l[i]? = some x := ⟨_, List.getElem?_eq_getElem h⟩
    rw [kinds_step hx, BitVec.getLsbD_or, kinds_get l j hj i (by omega)]
    have hb : (if x = true then bitB (i : Int) else 0#64).getLsbD j = (x && decide (i = j)) := by
      cases x
      · simp
      · simp only [if_true, Bool.true_and]
        rw [bitB_get _ _ hj]
        simp only [Int.ofNat_inj]
    rw [hb]
    by_cases e : j = i
    · subst e
      have : isK l j = x := by unfold isK; rw [hx]; cases x <;> rfl
      simp [this]
    · have h1 : ¬ i = j := fun h => e h.symm
      have h2 : decide (j < i + 1) = decide (j < i) := by simp only [decide_eq_decide]; omega
      simp [h1, h2]
theorem isK_take (l : List Bool) (j : Nat) (hj : j < 64) : isK (l.take 64) j = isK l j := by unfold isK; rw [List.getElem?_take, if_pos hj]
theorem kinds_get64 (l : List Bool) (j : Nat) (hj : j < 64) : (kindsB (l.take 64)).getLsbD j = isK l j := by
  have h := kinds_get (l.take 64) j hj (l.take 64).length (Nat.le_refl _)
  rw [List.take_length, isK_take l j hj] at h
  rw [h]
  by_cases hl : j < (l.take 64).length
  · rw [decide_eq_true hl, Bool.true_and]
  · have : isK l j = false := by
      unfold isK
      rw [List.getElem?_eq_none (by rw [List.length_take] at hl; omega)]; rfl
    rw [this, Bool.and_false]
def maskK (l : List Bool) : Nat → BitVec 64
  | 0 => 18446744073709551615#64
  | k + 1 => if isK l k then maskK l k else maskK l k &&& ~~~ bitB (k : Int)
theorem maskK_get (l : List Bool) (j : Nat) (hj : j < 64) : ∀ k, (maskK l k).getLsbD j = (decide (k ≤ j) || isK l j)
  | 0 => by
    have : (18446744073709551615#64) = BitVec.allOnes 64 := by decide
    rw [maskK, this, BitVec.getLsbD_allOnes]; simp [hj]
  | k + 1 => by
    rw [maskK]
    by_cases hk : isK l k = true
    · rw [if_pos hk, maskK_get l j hj k]
      by_cases e : j = k
      · subst e; simp [hk]
      · have : decide (k ≤ j) = decide (k + 1 ≤ j) := by simp only [decide_eq_decide]; omega
        rw [this]
    · rw [if_neg hk, BitVec.getLsbD_and, maskK_get l j hj k, BitVec.getLsbD_not, bitB_get _ _ hj]
      simp only [Int.ofNat_inj, hj, decide_true, Bool.true_and]
      by_cases e : k = j
      · subst e
        have : isK l k = false := by simpa using hk
        simp [this]
      · have : decide (k ≤ j) = decide (k + 1 ≤ j) := by simp only [decide_eq_decide]; omega
        simp [e, this]
theorem mask_and (l : List Bool) (a : BitVec 64) : a &&& maskK l 64 = a &&& kindsB (l.take 64) := by
  apply BitVec.eq_of_getLsbD_eq
  intro j hj
  rw [BitVec.getLsbD_and, BitVec.getLsbD_and, maskK_get l j hj, kinds_get64 l j hj]
  have : ¬ 64 ≤ j := by omega
  simp [this]
theorem mask_zero (l : List Bool) (a : BitVec 64) : a &&& maskK l 0 = a := by
  apply BitVec.eq_of_getLsbD_eq
  intro j hj
  rw [BitVec.getLsbD_and, maskK_get l j hj]; simp
theorem maskI_ok {g0 g : Heap} {pf b : Nat} {f : Fn} {kv cv mv : AV} {L : List (BitVec 64)} {a : BitVec 64} {pc : Nat} (F : FnB g0 pf f kv cv mv) (e : Same [] g0 g) (S : Sl9 g b L) (hb : g0.next ≤ b) (ha : L[pc]? = some a) :
    Ok (k_ref9_Maps_L0 (.ptr (some (pf, 0))) (.sl (some (b, 0)) L.length (.ex L.length)) (.int .i64 (pc : Nat)) (.int .i64 0) g) fun r => r.1 = .exit 2 ∧ Same [] g0 r.2.2 ∧ Sl9 r.2.2 b (L.set pc (a &&& kindsB (f.kinds.take 64))) := by
  have hpc := (List.getElem?_eq_some_iff.1 ha).1
  have h0 : L.set pc (a &&& maskK f.kinds 0) = L := by
    rw [mask_zero]
    obtain ⟨_, h2⟩ := List.getElem?_eq_some_iff.1 ha
    rw [← h2, List.set_getElem_self]
  refine ok_loop (fun n vs g' => ∃ k : Nat, vs = [.int .i64 (k : Nat)] ∧ n + k = 64 ∧ Same [] g0 g' ∧ Sl9 g' b (L.set pc (a &&& maskK f.kinds k))) ?_ (n := 64) (by omega) ⟨0, rfl, rfl, e, by rw [h0]; exact S⟩
  rintro n vs g' ⟨k, rfl, hn, e', S'⟩
  rw [gD0]
  have F' := F.mono e'
  by_cases hk : k < 64
  · have hk' : (k : Int) < 64 := by omega
    have next : ∀ g2, Same [] g0 g2 → Sl9 g2 b (L.set pc (a &&& maskK f.kinds (k + 1))) → Ok (some (Ex.normal, [AV.int .i64 ((k + 1 : Nat) : Int)], g2)) fun r => (r.1 = Ex.normal ∧ ∃ m, m < n ∧ ∃ k : Nat, r.2.1 = [.int .i64 (k : Nat)] ∧ m + k = 64 ∧ Same [] g0 r.2.2 ∧ Sl9 r.2.2 b (L.set pc (a &&& maskK f.kinds k))) ∨ (r.1 ≠ .normal ∧ r.1 = .exit 2 ∧ Same [] g0 r.2.2 ∧ Sl9 r.2.2 b (L.set pc (a &&& kindsB (f.kinds.take 64)))) :=
      fun g2 e2 S2 => Ok.of (.inl ⟨rfl, n - 1, by omega, k + 1, rfl, by omega, e2, S2⟩)
    by_cases hK : isK f.kinds k = true
    · have hkx : f.kinds[k]? = some true := by simpa [isK] using hK
      have hkl := (List.getElem?_eq_some_iff.1 hkx).1
      have c1 : ¬ (f.kinds.length : Int) ≤ (k : Int) := by omega
      obtain ⟨b2, o2, _, hix, hld⟩ := F'.ks.at (i := k) (x := .bool true) (by rw [List.getElem?_map, hkx]; rfl)
      refine (next g' e' (by rw [maskK, if_pos hK]; exact S')).eq (by
        simp -implicitDefEqProofs only [k_ref9_Maps_b0, bin_lss, hk', decide_true, decide_false, Option.bind_some, condE_true, condE_false, faP_ptr, F'.l4, F'.ln4, bin_geq, c1, gdW_ff, gQ_true, cl_some, hix, hld, un_not, Bool.not_true, pickP_bool, Bool.false_eq_true, if_false, bin_add, suc64 k (by omega)])
    · have hm : maskK f.kinds (k + 1) = maskK f.kinds k &&& ~~~ bitB (k : Int) := by rw [maskK, if_neg hK]
      have hset : ∀ x, (L.set pc x)[pc]? = some x := fun x => by rw [List.getElem?_set_self hpc]
      have hsl : ∀ x, (L.set pc x).length = L.length := fun x => List.length_set
      have hixb : iaS 1 (.sl (some (b, 0)) L.length (.ex L.length)) (.int .i64 (pc : Nat)) = some (.ptr (some (b, pc))) := SwB.ix (s := L) (b := b) (n := (pc : Int)) (by omega) (by omega)
      have hl0 : ldS g' (.ptr (some (b, pc))) = some (w64 (a &&& maskK f.kinds k)) := by
        rw [ldS_at S'.blk, List.getElem?_map, hset]; rfl
      have hst : stP 1 g' (.ptr (some (b, pc))) (w64 ((a &&& maskK f.kinds k) &&& ~~~ bitB (k : Int))) = some (.bot, g'.put b (some (.cells true ((L.set pc (a &&& maskK f.kinds (k + 1))).map w64)))) := by
        rw [stP_one S'.blk (by simpa using hpc) (sc_w _), ← List.map_set, List.set_set, hm, BitVec.and_assoc]
      have e2 : Same [] g0 (g'.put b (some (.cells true ((L.set pc (a &&& maskK f.kinds (k + 1))).map w64)))) := e'.old (Same.put _ _ _) (fun j hj => .inr (by simp at hj; omega))
      have S2 : Sl9 (g'.put b (some (.cells true ((L.set pc (a &&& maskK f.kinds (k + 1))).map w64)))) b (L.set pc (a &&& maskK f.kinds (k + 1))) := ⟨get_put_eq, S'.blt⟩
      have go : k_ref9_Maps_b0 (.ptr (some (pf, 0))) (.sl (some (b, 0)) L.length (.ex L.length)) (.int .i64 (pc : Nat)) (.int .i64 (k : Nat)) g' = some (Ex.normal, [AV.int .i64 ((k + 1 : Nat) : Int)], g'.put b (some (.cells true ((L.set pc (a &&& maskK f.kinds (k + 1))).map w64)))) := by
        by_cases c1 : (f.kinds.length : Int) ≤ (k : Int)
        · simp -implicitDefEqProofs only [k_ref9_Maps_b0, bin_lss, hk', decide_true, Option.bind_some, condE_true, faP_ptr, F'.l4, F'.ln4, bin_geq, c1, gdW_tf, gdW_tup, gQ_false, pickP_bool, if_true, hixb, rdC_some (f := fun k => ldS k (.ptr (some (b, pc)))) (h := g') hl0, clC_some, bit9_eq, cl_some, andNot_w, hst, bin_add, suc64 k (by omega)]
          exact chk_two (same_w _) hl0 hl0
        · have hkf : f.kinds[k]? = some false := by
            obtain ⟨x, hx⟩ : ∃ x, f.kinds[k]? = some x := ⟨_, List.getElem?_eq_getElem (by omega)⟩
            cases x
            · exact hx
            · exact absurd (by simp [isK, hx]) hK
          obtain ⟨b2, o2, _, hix, hld⟩ := F'.ks.at (i := k) (x := .bool false) (by rw [List.getElem?_map, hkf]; rfl)
          simp -implicitDefEqProofs only [k_ref9_Maps_b0, bin_lss, hk', decide_true, decide_false, Option.bind_some, condE_true, faP_ptr, F'.l4, F'.ln4, bin_geq, c1, gdW_ff, gQ_true, cl_some, hix, hld, un_not, Bool.not_false, pickP_bool, Bool.false_eq_true, if_false, hixb, rdC_some (f := fun k => ldS k (.ptr (some (b, pc)))) (h := g') hl0, clC_some, bit9_eq, andNot_w, hst, bin_add, suc64 k (by omega)]
          exact chk_two (same_w _) hl0 hl0
      rw [go]
      exact next _ e2 S2
  · have hk' : ¬ (k : Int) < 64 := by omega
    have hk64 : k = 64 := by omega
    subst hk64
    rw [mask_and] at S'
    exact (Ok.of (r := (Ex.exit 2, [AV.int .i64 ((64 : Nat) : Int)], g')) (.inr ⟨by simp, rfl, e', S'⟩)).eq (by simp -implicitDefEqProofs only [k_ref9_Maps_b0, bin_lss, hk', decide_false, Option.bind_some, condE_false])
theorem maps9_ok {h : Heap} {v : AV} {r : List AV} {m : Md} {f : Fn} (H : MdRd h v m) (G : FnRd h r f) (hc : m.cases.length ≤ 60) (hn : f.code.length ≤ 1048576) : Ok (k_ref9_Maps v (.agg r) h) fun r => ∃ s, MapsR h r.2 r.1 m f s := by
  obtain ⟨kv, cv, mv, rfl, hbf, FB⟩ := G.box
  obtain ⟨sv, gv, cv0, cv', fv, rfl, hbx, B⟩ := H.box
  have s0 : Same [] h (h.new (.cells true [sv, gv, cv0, cv', fv, .int .i64 m.main])) := Same.new _ _
  have FB := FB _ s0
  generalize hg : h.new (.cells true [sv, gv, cv0, cv', fv, .int .i64 m.main]) = g at *
  have s1 : Same [] g (g.new (.cells true [.int .i64 f.pa, .int .i64 f.ca, .int .i64 f.sl, .int .i64 f.re, kv, cv, mv])) := Same.new _ _
  have B1 := B.mono s1
  generalize hg1 : g.new (.cells true [.int .i64 f.pa, .int .i64 f.ca, .int .i64 f.sl, .int .i64 f.re, kv, cv, mv]) = g1 at *
  have s2 : Same [] h g1 := s0.trans s1
  refine Ok.eq ?_ (by simp -implicitDefEqProofs only [k_ref9_Maps, hbx, hbf, mk_some, hg, hg1, B1.la, FB.la, Option.bind_some]; rfl)
  refine ok_cl (sets9_ok B1.rd FB.rd hc hn) ?_
  rintro v3 g3 ⟨s, S⟩
  simp only at S
  obtain ⟨b, rfl, hb1, hb2, hb3⟩ := S.eq
  have hls : lnL (.sl (some (b, 0)) s.length (.ex s.length)) = some (.int .i64 s.length) := by simp
  have hsl := S.len
  generalize hM : kindsB (f.kinds.take 64) = M
  refine ok_lp (P := fun r => r.1 = .exit 0 ∧ Same [] g1 r.2.2 ∧ Sl9 r.2.2 b (s.map fun x => x &&& M)) ?_ ?_
  · refine ok_loop (fun n vs g' => ∃ i : Nat, vs = [.int .i64 (i : Nat)] ∧ n + i = s.length ∧ Same [] g1 g' ∧ Sl9 g' b ((s.take i).map (fun x => x &&& M) ++ s.drop i)) ?_ (n := s.length) (by omega)
      ⟨0, rfl, rfl, S.same, by simpa using ⟨hb3, hb2⟩⟩
    rintro n vs g' ⟨i, rfl, hk, e', S'⟩
    rw [gD0]
    have hLl : ((s.take i).map (fun x => x &&& M) ++ s.drop i).length = s.length := by
      rw [List.length_append, List.length_map, List.length_take, List.length_drop]; omega
    by_cases hi : i < s.length
    · have hi' : (i : Int) < s.length := by omega
      obtain ⟨x, hx⟩ : ∃ x, s[i]? = some x := ⟨_, List.getElem?_eq_getElem hi⟩
      have hlen : ((s.take i).map fun x => x &&& M).length = i := by simp; omega
      have hdrop : s.drop i = x :: s.drop (i + 1) := by
        rw [List.drop_eq_getElem_cons hi]
        rw [List.getElem?_eq_getElem hi] at hx; cases hx; rfl
      have hat : ((s.take i).map (fun x => x &&& M) ++ s.drop i)[i]? = some x := by
        rw [List.getElem?_append_right (by omega), hlen, hdrop]; simp
      have hset : ((s.take i).map (fun x => x &&& M) ++ s.drop i).set i (x &&& M) = (s.take (i + 1)).map (fun x => x &&& M) ++ s.drop (i + 1) := by
        rw [List.set_append_right _ _ (by omega), hlen, hdrop, List.take_add_one, hx]
        simp
      refine Ok.eq ?_ (by simp -implicitDefEqProofs only [k_ref9_Maps_b1, hls, bin_lss, hi', decide_true, Option.bind_some, condE_true]; rfl)
      have hmi := maskI_ok FB e' S' hb1 hat
      rw [hM, hset, hLl] at hmi
      refine ok_lp hmi ?_
      rintro _ vs4 g4 ⟨rfl, e4, S4⟩
      simp only at e4 S4
      exact (Ok.of (r := (Ex.normal, [AV.int .i64 ((i + 1 : Nat) : Int)], g4)) (.inl ⟨rfl, n - 1, by omega, i + 1, rfl, by omega, e4, S4⟩)).eq (by
        simp -implicitDefEqProofs only [if_true, reduceCtorEq, if_false, thenK_normal, bin_add, suc64 i (by omega), Option.bind_some])
    · have hi' : ¬ (i : Int) < s.length := by omega
      refine (Ok.of (r := (Ex.exit 0, [AV.int .i64 (i : Int)], g')) (.inr ⟨by simp, rfl, e', ?_⟩)).eq (by simp -implicitDefEqProofs only [k_ref9_Maps_b1, hls, bin_lss, hi', decide_false, Option.bind_some, condE_false])
      rw [List.take_of_length_le (by omega), List.drop_eq_nil_of_le (by omega), List.append_nil] at S'
      exact S'
  · rintro _ vs g4 ⟨rfl, e4, S4⟩
    simp only at e4 S4
    exact ok_val (v := .sl (some (b, 0)) s.length (.ex s.length)) (g := g4) (by simp -implicitDefEqProofs only [if_true, thenK_normal]) ⟨s, s2.trans e4, ⟨b, rfl, Nat.le_trans s2.next hb1, S4.blt, by rw [hM]; exact S4.blk⟩, hsl, S.fix, S.low⟩
theorem rd_blk {h g : Heap} {b : Nat} {s : List (BitVec 64)} (hb : b < h.next) (hg : h.get b = some (.cells true (s.map w64))) (e : Same [] h g) : RdW g 1 (.sl (some (b, 0)) s.length (.ex s.length)) (s.map w64) s.length :=
  ⟨by simp, .inr ⟨b, 0, _, rfl, Nat.lt_of_lt_of_le hb e.next, fun _ => ⟨true, [], [], rfl, by rw [e.get b hb (by simp)]; simpa using hg⟩⟩⟩
theorem liveSets_ok {h : Heap} {v : AV} {r : List AV} {m : Md} {f : Fn} (H : MdRd h v m) (G : FnRd h r f) (hl : (1 + m.funcs.length) * 104 ≤ 2 ^ 47) (hq : ∀ g, Same [] h g → k_law10_awake g = some (.bool true, g)) :
    Ok (k_law10_LiveSets v (.agg r) h) fun r => r.1 = .bool true := by
  obtain ⟨kv', cv', mv', rfl, hbf, FB⟩ := G.box
  have H0 := H
  obtain ⟨sv, gv, kv, cv, fv, rfl, hbx, B⟩ := H.box
  have s0 : Same [] h (h.new (.cells true [sv, gv, kv, cv, fv, .int .i64 m.main])) := Same.new _ _
  have FB := FB _ s0
  have hget : (h.new (.cells true [sv, gv, kv, cv, fv, .int .i64 m.main])).get h.next = some (.cells true [sv, gv, kv, cv, fv, .int .i64 m.main]) := get_new_eq
  have hn1 : (h.new (.cells true [sv, gv, kv, cv, fv, .int .i64 m.main])).next = h.next + 1 := rfl
  generalize hg : h.new (.cells true [sv, gv, kv, cv, fv, .int .i64 m.main]) = g at *
  have s1 : Same [] g (g.new (.cells true [.int .i64 f.pa, .int .i64 f.ca, .int .i64 f.sl, .int .i64 f.re, kv', cv', mv'])) := Same.new _ _
  have B1 := B.mono s1
  have hget1 : (g.new (.cells true [.int .i64 f.pa, .int .i64 f.ca, .int .i64 f.sl, .int .i64 f.re, kv', cv', mv'])).get h.next = some (.cells true [sv, gv, kv, cv, fv, .int .i64 m.main]) := by rw [s1.get _ (by omega) (by simp)]; exact hget
  generalize hg1 : g.new (.cells true [.int .i64 f.pa, .int .i64 f.ca, .int .i64 f.sl, .int .i64 f.re, kv', cv', mv']) = g1 at *
  have sh2 : Same [] h g1 := s0.trans s1
  refine Ok.eq ?_ (by simp -implicitDefEqProofs only [k_law10_LiveSets, hbx, hbf, mk_some, hg, hg1, hq g1 sh2, cl_some, un_not, Option.bind_some, Bool.not_true, condE_false]; rfl)
  refine ok_front H0 G sh2 B1 FB (Nat.le_refl _) (by omega) hget1 hl fun g5 v5 s5 B5 F5 => ?_
  refine Ok.eq ?_ (by simp -implicitDefEqProofs only [B5.la, Option.bind_some]; rfl)
  refine ok_cl (big_ok B5.rd) ?_
  rintro _ g6 ⟨s6, bb, rfl, hsm⟩
  simp only at s6
  cases bb with
  | true => exact Ok.of (r := (AV.bool true, g6)) rfl
  | false =>
    have S := hsm rfl
    obtain ⟨_, hc, hfs, _⟩ := S
    obtain ⟨hf1, hf2, hf3⟩ := hfs 0 f rfl
    have hc : (frontM f m).cases.length ≤ 60 := hc
    have B6 := B5.mono s6
    have F6 := F5.mono s6
    generalize frontM f m = M at *
    refine Ok.eq ?_ (by simp -implicitDefEqProofs only [condE_false, B6.la, Option.bind_some]; rfl)
    refine ok_cl (module_ok B6.rd (hsm rfl)) ?_
    rintro w g8 ⟨s8, W⟩
    simp only at s8 W
    have W0 := W
    obtain ⟨sv', gv2, kv2, cv2, fv2, rfl, w1, w2, w3, w4, w5, _⟩ := W
    have hwsc : [sv', gv2, kv2, cv2, fv2, AV.int .i64 M.main].all scalar = true := by
      simp only [List.all_cons, List.all_nil, w1.sc, w2.sc, w3.sc, w4.sc, w5.sc, Bool.and_true, Bool.and_self]; rfl
    refine ok_tmp2 (cs := [sv', gv2, kv2, cv2, fv2, AV.int .i64 M.main]) (n := 6) (by rfl) (by rfl) hwsc fun _ g9 s9 n9 hg9 => ?_
    generalize hws : [sv', gv2, kv2, cv2, fv2, AV.int .i64 M.main] = ws at *
    have hwl : ws.length = 6 := by rw [← hws]; rfl
    have lw : ∀ g', Same [] g9 g' → ldA 6 g' (.ptr (some (g8.next, 0))) = some (.agg ws) := fun g' s => by
      rw [ldA_at (w := true) (vs := ws) (by rw [s.get _ (by omega) (by simp)]; exact hg9), span_some _ _ _ (by omega), List.drop_zero, List.take_of_length_le (by omega)]; rfl
    have F9 := (F6.mono s8).mono s9
    refine Ok.eq ?_ (by simp -implicitDefEqProofs only [F9.la, Option.bind_some]; rfl)
    refine ok_cl (func_ok F9.rd hf3 hf1 hf2) ?_
    rintro _ g10 ⟨s10, r', rfl, hr7, K⟩
    simp only at s10 K
    have R0 := K.now
    refine ok_tmp2 (cs := r') (n := 7) (by rfl) hr7 R0.sc fun _ g11 s11 n11 hg11 => ?_
    have lr : ∀ g', Same [] g11 g' → ldA 7 g' (.ptr (some (g10.next, 0))) = some (.agg r') := fun g' s => by
      rw [ldA_at (w := true) (vs := r') (by rw [s.get _ (by omega) (by simp)]; exact hg11), span_some _ _ _ (by omega), List.drop_zero, List.take_of_length_le (by omega)]; rfl
    have s911 : Same [] g9 g11 := s10.trans s11
    have s811 : Same [] g8 g11 := s9.trans s911
    have B11 := B6.mono (s8.trans s811)
    have F11 := F9.mono s911
    have W11 := W0.mono s811.next (fun j hj => s811.get j hj (by simp))
    have R11 := R0.mono s11.next (fun j hj => s11.get j hj (by simp))
    -- the sets
    refine Ok.eq ?_ (by simp -implicitDefEqProofs only [B11.la, F11.la, Option.bind_some]; rfl)
    refine ok_cl (sets_ok B11.rd F11.rd hc (by omega)) ?_
    rintro v1 g14 ⟨s, S⟩
    simp only at S
    have s14 := S.same
    obtain ⟨b, rfl, hb1, hb2, hb3⟩ := S.eq
    refine Ok.eq ?_ (by simp -implicitDefEqProofs only [rdC_some (f := fun k => ldA 6 k (.ptr (some (g8.next, 0)))) (h := g14) (lw _ (s911.trans s14)), rdC_some (f := fun k => ldA 7 k (.ptr (some (g10.next, 0)))) (h := g14) (lr _ s14), clC_some]; rfl)
    refine ok_cl (sets9_ok (W11.mono s14.next (fun j hj => s14.get j hj (by simp))) (R11.mono s14.next (fun j hj => s14.get j hj (by simp))) hc (by omega)) ?_
    rintro v2 g15 ⟨t, T⟩
    simp only at T
    have s15 := s14.trans T.same
    obtain ⟨b', rfl, hb1', hb2', hb3'⟩ := T.eq
    obtain rfl := sets_one S.len T.len S.fix T.fix S.low T.low
    have hsl := S.len
    refine ok_cl (nums_ok (rd_blk hb2 hb3 T.same) (rd_blk hb2' hb3' (Same.refl _ _)) (by omega)) ?_
    rintro _ _ ⟨⟩
    -- the maps
    have B15 := B11.mono s15
    have F15 := F11.mono s15
    refine Ok.eq ?_ (by simp -implicitDefEqProofs only [gdW_tt, gV_true, gQ_true, B15.la, F15.la, Option.bind_some, cl_id]; rfl)
    refine ok_cl (maps_ok B15.rd F15.rd hc (by omega)) ?_
    rintro v3 g16 ⟨s', S'⟩
    simp only at S'
    have s16 := s15.trans S'.same
    obtain ⟨c, rfl, hc1, hc2, hc3⟩ := S'.eq
    refine Ok.eq ?_ (by simp -implicitDefEqProofs only [rdC_some (f := fun k => ldA 6 k (.ptr (some (g8.next, 0)))) (h := g16) (lw _ (s911.trans s16)), rdC_some (f := fun k => ldA 7 k (.ptr (some (g10.next, 0)))) (h := g16) (lr _ s16), clC_some, cl_id]; rfl)
    refine ok_cl (maps9_ok (W11.mono s16.next (fun j hj => s16.get j hj (by simp))) (R11.mono s16.next (fun j hj => s16.get j hj (by simp))) hc (by omega)) ?_
    rintro v4 g17 ⟨t', T'⟩
    simp only at T'
    have s17 := s16.trans T'.same
    obtain ⟨c', rfl, hc1', hc2', hc3'⟩ := T'.eq
    obtain rfl := sets_one S'.len T'.len S'.fix T'.fix S'.low T'.low
    have hsl' := S'.len
    have A1 : RdW g17 1 (.sl (some (c, 0)) s'.length (.ex s'.length)) ((s'.map fun a => a &&& kindsB (f.kinds.take 64)).map w64) (s'.map fun a => a &&& kindsB (f.kinds.take 64)).length := by
      have h := rd_blk (s := s'.map fun a => a &&& kindsB (f.kinds.take 64)) hc2 hc3 T'.same
      rw [List.length_map] at h ⊢; exact h
    have A2 : RdW g17 1 (.sl (some (c', 0)) s'.length (.ex s'.length)) ((s'.map fun a => a &&& kindsB (f.kinds.take 64)).map w64) (s'.map fun a => a &&& kindsB (f.kinds.take 64)).length := by
      have h := rd_blk (s := s'.map fun a => a &&& kindsB (f.kinds.take 64)) hc2' hc3' (Same.refl _ _)
      rw [List.length_map] at h ⊢; exact h
    refine Ok.eq ?_ (by (try simp -implicitDefEqProofs only [cl_id]); rfl)
    refine ok_cl (nums_ok A1 A2 (by rw [List.length_map]; omega)) ?_
    rintro _ _ ⟨⟩
    have all : ∀ (k : Nat) g', [g11, g14, g15, g15, g16, g17, g17][k]? = some g' → Same [] g11 g' := fun k g' hk => by
      rcases k with _ | _ | _ | _ | _ | _ | _ | k <;> simp at hk <;> subst hk
      · exact Same.refl _ _
      all_goals assumption
    have c1 : ∀ (k : Nat) g', [g11, g14, g15, g15, g16, g17, g17][k]? = some g' → ldA 7 g' (.ptr (some (g10.next, 0))) = some (.agg r') := fun k g' hk => lr g' (all k g' hk)
    have c2 : ∀ (k : Nat) g', [g11, g14, g15, g15, g16, g17, g17][k]? = some g' → ldA 6 g' (.ptr (some (g8.next, 0))) = some (.agg ws) := fun k g' hk => lw g' (s911.trans (all k g' hk))
    refine Ok.eq ?_ (by simp -implicitDefEqProofs only [pickP_bool, if_true, Option.bind_some]; rfl)
    rw [chk_keep R0.samev c1 (by simp), chk_keep W0.samev c2 (by simp), chk_keep R0.samev c1 (by simp), chk_keep W0.samev c2 (by simp), chk_nil]
    exact Ok.of (r := (AV.bool true, g17)) rfl
end Go.Ab.F
