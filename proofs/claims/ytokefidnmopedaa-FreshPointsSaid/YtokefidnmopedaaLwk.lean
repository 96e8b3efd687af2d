import Derived.Test.YtokefidnmopedaaQuFn
import Derived.Test.YtokefidnmopedaaLiv

namespace Go.Ab.F
open Go Go.Ab
set_option linter.all false
set_option linter.unusedSimpArgs false
attribute [local congr] c_bind c_cl c_mk c_lp c_clC c_gQ c_gV c_condE c_thenK

/-! ### The law, plainly -/
theorem read_in {m : Md} {f : Fn} {s : List (BitVec 64)} (hF : Fix m f s) {pc : Nat} {i : Ins} (hi : f.code[pc]? = some i) {n : Int} (hn : n ∈ readsL m i) (h0 : 0 ≤ n) (h1 : n < 64) : (s.getD pc 0#64).getLsbD n.toNat = true := by
  rw [hF pc i hi, genL, BitVec.getLsbD_or, bitsB_get _ (by omega), show ((n.toNat : Nat) : Int) = n by omega]
  simp [hn]
theorem follow_in {m : Md} {f : Fn} {s : List (BitVec 64)} (hF : Fix m f s) {pc : Nat} {i : Ins} (hi : f.code[pc]? = some i) (ho : i.op ≠ 41) {n : Int} (hn : n ∈ followsL m f pc) {k : Nat} (hk : (sAt s n).getLsbD k = true) (hw : (bitsB (writesL i)).getLsbD k = false) : (s.getD pc 0#64).getLsbD k = true := by
  have hk64 : k < 64 := by
    rcases Nat.lt_or_ge k 64 with h | h
    · exact h
    · rw [BitVec.getLsbD_of_ge _ _ h] at hk; cases hk
  rw [hF pc i hi, genL, BitVec.getLsbD_or, BitVec.getLsbD_and, BitVec.getLsbD_not, hw]
  have : (outL m f s pc i).getLsbD k = true := by
    rw [outL, if_neg ho, fold_or]
    simp only [Bool.or_eq_true]
    exact .inr (List.any_eq_true.2 ⟨n, hn, hk⟩)
  simp [this, hk64]

/-! ### Words -/
theorem shr_w (a : BitVec 64) (n : Int) (h0 : 0 ≤ n) (h1 : n < 64) : binP .shr (w64 a) (.int .u64 n) = some (w64 (a >>> n.toNat)) := by
  exact shr_u64 a .u64 n h0
theorem one_w : AV.int .u64 1 = w64 1#64 := rfl
theorem zero_w : AV.int .u64 0 = w64 0#64 := rfl
theorem eql_w (a b : BitVec 64) : eqP (some (.int .u64)) none false .eql (w64 a) (w64 b) = some (.bool (decide (a = b))) := by
  unfold w64
  rw [eql_int]
  have : ((a.toNat : Int) = (b.toNat : Int)) ↔ a = b := ⟨fun h => BitVec.eq_of_toNat_eq (by omega), fun h => by rw [h]⟩
  simp [this]
theorem bit_zero (a : BitVec 64) (k : Nat) : decide (a >>> k &&& 1#64 = 0#64) = !a.getLsbD k := by
  cases h : a.getLsbD k with
  | true =>
    simp only [Bool.not_true, decide_eq_false_iff_not]
    intro e
    have := congrArg (fun x => x.getLsbD 0) e
    simp [h] at this
  | false =>
    simp only [Bool.not_false, decide_eq_true_eq]
    apply BitVec.eq_of_getLsbD_eq
    intro i hi
    rw [BitVec.getLsbD_and, BitVec.getLsbD_ushiftRight]
    by_cases h0 : i = 0
    · subst h0; simp [h]
    · have : (1#64).getLsbD i = false := by rw [BitVec.getLsbD_one]; simp [h0]
      rw [this]; simp
theorem cv_u64 (n : Int) (h0 : 0 ≤ n) (h1 : n < 64) : cvI .u64 (.int .i64 n) = some (.int .u64 n) := by
  rw [cvI_int, wrap_u64 h0 (by omega)]
/-- A mask of 16 bits. -/
theorem and_mask (t : Int) : ∃ u : Int, 0 ≤ u ∧ u ≤ 65535 ∧ binP .and (.int .i64 t) (.int .i64 65535) = some (.int .i64 u) := by
  have e : binP .and (.int .i64 t) (.int .i64 65535) = some (.int .i64 (IntKind.i64.wrap ((BitVec.ofInt 64 t &&& BitVec.ofInt 64 65535).toNat : Int))) := by
    rw [bin_int _ (by decide) (by decide)]; rfl
  have hle : (BitVec.ofInt 64 t &&& BitVec.ofInt 64 65535).toNat ≤ 65535 := by
    rw [BitVec.toNat_and]
    exact Nat.le_trans Nat.and_le_right (by decide)
  refine ⟨_, ?_, ?_, e⟩ <;> rw [wrap_i64 (by omega) (by omega)] <;> omega

/-- One list of slots, and what is read of it. -/
theorem reads_loop {g : Heap} {v sv : AV} {l : List Int} {s : List (BitVec 64)} {from_ b : Nat} {w : BitVec 64} {q : AV} (H : RdW g 1 v (wI l) l.length) (hl : l.length ≤ 1048576) (hfr : from_ < s.length)
    (hix : iaS 1 sv (.int .i64 (from_ : Int)) = some (.ptr (some (b, from_)))) (hld : ldS g (.ptr (some (b, from_))) = some (w64 (s.getD from_ 0#64)))
    (hok : ∀ n ∈ l, 0 ≤ n → n < 64 → w.getLsbD n.toNat = true ∨ (s.getD from_ 0#64).getLsbD n.toNat = true) :
    Ok (k_law10_LiveWalks_L0 (.int .i64 (from_ : Int)) sv (w64 w) v q (.int .i64 0) g) fun r => r.1 = .exit 2 ∧ r.2.2 = g ∧ r.2.1.getD 0 .bot = q := by
  refine ok_loop (fun k vs g' => ∃ i : Nat, vs = [q, .int .i64 i] ∧ k + i = l.length ∧ g' = g) ?_ (n := l.length) (by omega) ⟨0, rfl, rfl, rfl⟩
  rintro k vs g' ⟨i, rfl, hk, rfl⟩
  rw [gD0, gD1]
  by_cases hi : i < l.length
  · obtain ⟨n, hn⟩ : ∃ n, l[i]? = some n := ⟨_, List.getElem?_eq_getElem hi⟩
    have hi' : (i : Int) < l.length := by omega
    obtain ⟨b2, o, _, hx, hl2⟩ := H.at (i := i) (x := .int .i64 n) (by simp [wI, hn])
    have go : ∀ x, x = some (Ex.normal, [q, AV.int .i64 ((i + 1 : Nat) : Int)], g') → Ok x fun r => (r.1 = .normal ∧ ∃ k', k' < k ∧ ∃ i : Nat, r.2.1 = [q, .int .i64 i] ∧ k' + i = l.length ∧ r.2.2 = g') ∨ (r.1 ≠ .normal ∧ r.1 = .exit 2 ∧ r.2.2 = g' ∧ r.2.1.getD 0 .bot = q) := fun x hx => by
      subst hx; exact Ok.of (.inl ⟨rfl, k - 1, by omega, i + 1, rfl, by omega, rfl⟩)
    by_cases h0 : 0 ≤ n
    · by_cases h1 : n < 64
      · cases hb : w.getLsbD n.toNat with
        | true =>
          refine go _ ?_
          simp -implicitDefEqProofs only [k_law10_LiveWalks_b0, H.lnL, bin_lss, hi', decide_true, Option.bind_some, condE_true, hx, hl2, bin_geq, h0, h1, gdW_tt, gdW_ft, gdW_tup, gV_true, gV_false, pickP_bool, if_true, cv_u64 n h0 h1, shr_w w n h0 h1, one_w, zero_w, and_w, eql_w, bit_zero, hb, Bool.not_true, Bool.false_eq_true, if_false, chk_nil, condE_false, bin_add, suc64 i (by omega)]
        | false =>
          have hs := (hok n (List.mem_of_getElem? hn) h0 h1).resolve_left (by rw [hb]; simp)
          refine go _ ?_
          simp -implicitDefEqProofs only [k_law10_LiveWalks_b0, H.lnL, bin_lss, hi', decide_true, Option.bind_some, condE_true, hx, hl2, bin_geq, h0, h1, gdW_tt, gdW_ft, gdW_tup, gV_true, gV_false, pickP_bool, if_true, cv_u64 n h0 h1, shr_w _ n h0 h1, one_w, zero_w, and_w, eql_w, bit_zero, hb, hs, hix, hld, Bool.not_true, Bool.not_false, Bool.false_eq_true, if_false, chk_nil, condE_false, bin_add, suc64 i (by omega)]
      · refine go _ ?_
        simp -implicitDefEqProofs only [k_law10_LiveWalks_b0, H.lnL, bin_lss, hi', decide_true, decide_false, Option.bind_some, condE_true, hx, hl2, bin_geq, h0, h1, gdW_tt, gdW_ft, gdW_tup, gV_true, gV_false, pickP_bool, if_true, Bool.false_eq_true, if_false, chk_nil, condE_false, bin_add, suc64 i (by omega)]
    · refine go _ ?_
      simp -implicitDefEqProofs only [k_law10_LiveWalks_b0, H.lnL, bin_lss, hi', decide_true, decide_false, Option.bind_some, condE_true, hx, hl2, bin_geq, h0, gdW_tt, gdW_ft, gdW_tup, gV_true, gV_false, pickP_bool, if_true, Bool.false_eq_true, if_false, chk_nil, condE_false, bin_add, suc64 i (by omega)]
  · have hi' : ¬ (i : Int) < l.length := by omega
    exact (Ok.of (r := (Ex.exit 2, [q, AV.int .i64 (i : Int)], g')) (.inr ⟨by simp, rfl, rfl, rfl⟩)).eq (by simp -implicitDefEqProofs only [k_law10_LiveWalks_b0, H.lnL, bin_lss, hi', decide_false, Option.bind_some, condE_false])
theorem or_step {a : BitVec 64} {l : List Int} {i : Nat} {n : Int} (hn : l[i]? = some n) : (l.take (i + 1)).foldl (fun a n => a ||| bitB n) a = (l.take i).foldl (fun a n => a ||| bitB n) a ||| bitB n := by
  rw [List.take_add_one, hn, List.foldl_append]; rfl
theorem writes_loop {g : Heap} {v : AV} {l : List Int} {w : BitVec 64} (H : RdW g 1 v (wI l) l.length) (hl : l.length ≤ 1048576) :
    Ok (k_law10_LiveWalks_L1 v (w64 w) (.int .i64 0) g) fun r => r.1 = .exit 4 ∧ r.2.2 = g ∧ r.2.1.getD 0 .bot = w64 (l.foldl (fun a n => a ||| bitB n) w) := by
  refine ok_loop (fun k vs g' => ∃ i : Nat, vs = [w64 ((l.take i).foldl (fun a n => a ||| bitB n) w), .int .i64 i] ∧ k + i = l.length ∧ g' = g) ?_ (n := l.length) (by omega) ⟨0, rfl, rfl, rfl⟩
  rintro k vs g' ⟨i, rfl, hk, rfl⟩
  rw [gD0, gD1]
  by_cases hi : i < l.length
  · obtain ⟨n, hn⟩ : ∃ n, l[i]? = some n := ⟨_, List.getElem?_eq_getElem hi⟩
    have hi' : (i : Int) < l.length := by omega
    obtain ⟨b2, o, _, hx, hl2⟩ := H.at (i := i) (x := .int .i64 n) (by simp [wI, hn])
    have hs := or_step (a := w) hn
    refine (Ok.of (r := (Ex.normal, [w64 ((l.take (i + 1)).foldl (fun a n => a ||| bitB n) w), AV.int .i64 ((i + 1 : Nat) : Int)], g')) (.inl ⟨rfl, k - 1, by omega, i + 1, rfl, by omega, rfl⟩)).eq ?_
    by_cases h0 : 0 ≤ n
    · by_cases h1 : n < 64
      · have e := shl_one n h0 h1
        rw [cv_u64 n h0 h1, Option.bind_some] at e
        have hb : bitB n = 1#64 <<< n.toNat := by simp only [bitB, h0, h1, and_self, if_true]
        simp -implicitDefEqProofs only [k_law10_LiveWalks_b1, H.lnL, bin_lss, hi', decide_true, Option.bind_some, condE_true, hx, hl2, bin_geq, h0, h1, gdW_tt, gQ_true, cl_some, pickP_bool, if_true, cv_u64 n h0 h1, e, or_w, k_law10_LiveWalks_j0, bin_add, suc64 i (by omega), hs, hb]
      · have hb : bitB n = 0#64 := by simp only [bitB, h1, and_false, if_false]
        simp -implicitDefEqProofs only [k_law10_LiveWalks_b1, H.lnL, bin_lss, hi', decide_true, decide_false, Option.bind_some, condE_true, condE_false, hx, hl2, bin_geq, h0, h1, gdW_tt, gQ_true, cl_some, pickP_bool, if_true, k_law10_LiveWalks_j0, bin_add, suc64 i (by omega), hs, hb, BitVec.or_zero]
    · have hb : bitB n = 0#64 := by simp only [bitB, h0, false_and, if_false]
      simp -implicitDefEqProofs only [k_law10_LiveWalks_b1, H.lnL, bin_lss, hi', decide_true, decide_false, Option.bind_some, condE_true, condE_false, hx, hl2, bin_geq, h0, gdW_ft, gdW_tup, gQ_false, pickP_bool, Bool.false_eq_true, if_false, k_law10_LiveWalks_j0, bin_add, suc64 i (by omega), hs, hb, BitVec.or_zero]
  · have hi' : ¬ (i : Int) < l.length := by omega
    refine (Ok.of (r := (Ex.exit 4, [w64 ((l.take i).foldl (fun a n => a ||| bitB n) w), AV.int .i64 (i : Int)], g')) (.inr ⟨by simp, rfl, rfl, ?_⟩)).eq (by simp -implicitDefEqProofs only [k_law10_LiveWalks_b1, H.lnL, bin_lss, hi', decide_false, Option.bind_some, condE_false])
    show w64 ((l.take i).foldl (fun a n => a ||| bitB n) w) = _
    rw [List.take_of_length_le (by omega)]
theorem fold_bit (k : Nat) (hk : k < 64) (l : List Int) (w : BitVec 64) : (l.foldl (fun a n => a ||| bitB n) w).getLsbD k = (w.getLsbD k || (bitsB l).getLsbD k) := by
  rw [fold_or, bitsB, fold_or]; simp
end Go.Ab.F

namespace Go.Ab.F
open Go Go.Ab
set_option linter.all false
set_option linter.unusedSimpArgs false
attribute [local congr] c_bind c_cl c_mk c_lp c_clC c_gQ c_gV c_condE c_thenK

theorem followsL_len {m : Md} (hs : m.cases.length ≤ 60) (f : Fn) (pc : Int) : (followsL m f pc).length ≤ 60 := by
  unfold followsL
  split
  · have h1 := inL_len f (rawL m pc (by assumption))
    have h2 := rawL_len hs pc (by assumption)
    omega
  · simp
theorem followsL_mem {m : Md} {f : Fn} {pc n : Int} (h : n ∈ followsL m f pc) : 0 ≤ n ∧ n < f.code.length := by
  unfold followsL at h
  split at h
  · exact (inL_mem.1 h).2
  · simp at h
theorem wfI_nat {n : Nat} (h : n ≤ 9223372036854775807) : wfI (n : Int) := by
  unfold wfI Lit.wf
  simp only [Bool.and_eq_true, decide_eq_true_eq]
  have e1 : IntKind.i64.min = -9223372036854775808 := rfl
  have e2 : IntKind.i64.max = 9223372036854775807 := rfl
  omega

theorem walk_loop {g0 g : Heap} {p q from_ b : Nat} {m : Md} {f : Fn} {sv gv kv cv fv kv' cv' mv' x2 : AV} {s : List (BitVec 64)} {ts : List Int} (B : MdB g0 p m sv gv kv cv fv) (F : FnB g0 q f kv' cv' mv') (e : Same [] g0 g) (hc : m.cases.length ≤ 60) (hn : f.code.length ≤ 200)
    (T : RdW g0 1 x2 (wI ts) ts.length) (ht : ts.length ≤ 100) (hb : g.get b = some (.cells true (s.map w64))) (hbl : b < g.next) (hs : s.length = f.code.length) (hF : Fix m f s) (hfr : from_ < f.code.length) :
    Ok (k_law10_LiveWalks_L2 x2 (.int .i64 (from_ : Int)) (.ptr (some (p, 0))) (.ptr (some (q, 0))) (.sl (some (b, 0)) s.length (.ex s.length)) (.bool false) (.int .i64 (from_ : Int)) (w64 0#64) (.int .i64 0) g) fun r => r.1 = .exit 0 ∨ (r.1 = .ret ∧ r.2.1.getD 0 .bot = .bool true) := by
  refine ok_loop (fun k vs g' => ∃ (i pc : Nat) (w : BitVec 64) (x : AV), vs = [x, .int .i64 (pc : Int), w64 w, .int .i64 i] ∧ k + i = ts.length ∧ Same [] g g' ∧ pc < f.code.length ∧ ∀ j, (s.getD pc 0#64).getLsbD j = true → w.getLsbD j = true ∨ (s.getD from_ 0#64).getLsbD j = true) ?_ (n := ts.length) (by omega)
    ⟨0, from_, 0#64, _, rfl, rfl, Same.refl _ _, hfr, fun j h => .inr h⟩
  rintro k vs g' ⟨i, pc, w, x, rfl, hk, e', hpc, hinv⟩
  rw [gD0, gD1, gD2, gD3]
  have e0 := e.trans e'
  have T' := T.mono e0.next (fun j hj => e0.get j hj (by simp))
  by_cases hi : i < ts.length
  · obtain ⟨t, ht'⟩ : ∃ t, ts[i]? = some t := ⟨_, List.getElem?_eq_getElem hi⟩
    have hi' : (i : Int) < ts.length := by omega
    obtain ⟨ins, hins⟩ : ∃ ins, f.code[pc]? = some ins := ⟨_, List.getElem?_eq_getElem hpc⟩
    have B1 := B.mono e0
    have F1 := F.mono e0
    have hiw := F1.wf (List.mem_of_getElem? hins)
    obtain ⟨b1, o1, hix, hla, hls⟩ := F1.code hins
    refine Ok.eq ?_ (by simp -implicitDefEqProofs only [k_law10_LiveWalks_b2, T'.lnL, bin_lss, hi', decide_true, Option.bind_some, condE_true, B1.la, faP_ptr, F1.l5, hix, hla]; rfl)
    refine ok_cl (reads_ok B1.rd ins hiw hc) ?_
    intro v3 g3 h3
    simp only at h3
    have hrl := readsL_len (i := ins) hc
    have e3 := h3.same
    have hb3 : g3.get b = some (.cells true (s.map w64)) := by rw [(e'.trans e3).get b hbl (by simp)]; exact hb
    have hfs : from_ < s.length := by omega
    have hixs : iaS 1 (.sl (some (b, 0)) s.length (.ex s.length)) (.int .i64 (from_ : Int)) = some (.ptr (some (b, from_))) := by rw [iaS_sl 1 (b, 0) _ _ _ _ ⟨by omega, by omega⟩]; simp
    have hlds : ldS g3 (.ptr (some (b, from_))) = some (w64 (s.getD from_ 0#64)) := by
      rw [ldS_at hb3, List.getElem?_map, List.getElem?_eq_getElem hfs]; simp [List.getElem?_eq_getElem hfs]
    refine Ok.eq ?_ (by simp -implicitDefEqProofs only [chk_nil]; rfl)
    refine ok_lp (reads_loop (w := w) (q := x) h3.rd (by omega) hfs hixs hlds fun n hn' h0 h1 => hinv n.toNat (read_in hF hins hn' h0 h1)) ?_
    rintro _ vs g3' ⟨rfl, hg3, hv⟩
    simp only at hg3 hv
    subst hg3
    have B3 := B1.mono e3
    have F3 := F1.mono e3
    obtain ⟨b2, o2, hix2, hla2, _⟩ := F3.code hins
    refine Ok.eq ?_ (by simp -implicitDefEqProofs only [if_true, thenK_normal, faP_ptr, F3.l5, Option.bind_some, hix2, hla2]; rfl)
    refine ok_cl (writes_ok ins) ?_
    intro v4 g4 h4
    simp only at h4
    have hwl := writesL_len ins
    have e4 := h4.same
    refine ok_lp (writes_loop (w := w) h4.rd (by omega)) ?_
    rintro _ vs2 g4' ⟨rfl, hg4, hv2⟩
    simp only at hg4 hv2
    subst hg4
    have B4 := B3.mono e4
    have F4 := F3.mono e4
    refine Ok.eq ?_ (by simp -implicitDefEqProofs only [if_true, thenK_normal, B4.la, F4.la, Option.bind_some]; rfl)
    refine ok_cl (follows_ok B4.rd F4.rd (pc : Int) hc (wfI_nat (by omega))) ?_
    intro v5 g5 h5
    simp only at h5
    have hfl := followsL_len hc f (pc : Int)
    have e5 := h5.same
    have F5 := F4.mono e5
    obtain ⟨b3, o3, hix3, hla3, hls3⟩ := F5.code hins
    by_cases c1 : ((followsL m f (pc : Int)).length : Int) = 0
    · exact Ok.of (r := (Ex.ret, [AV.bool true, .int .i64 (pc : Int), vs2.getD 0 .bot, .int .i64 (i : Int)], g5)) (.inr ⟨by simp, .inr ⟨rfl, rfl⟩⟩) |>.eq (by
        simp -implicitDefEqProofs only [h5.lnL, Option.bind_some, eql_int, c1, decide_true, gdW_tf, gQ_false, pickP_bool, if_true, condE_true])
    by_cases c2 : ins.op = 41
    · exact Ok.of (r := (Ex.ret, [AV.bool true, .int .i64 (pc : Int), vs2.getD 0 .bot, .int .i64 (i : Int)], g5)) (.inr ⟨by simp, .inr ⟨rfl, rfl⟩⟩) |>.eq (by
        simp -implicitDefEqProofs only [h5.lnL, Option.bind_some, eql_int, c1, c2, decide_true, decide_false, gdW_ff, gQ_true, cl_some, faP_ptr, F5.l5, hix3, hls3, pickP_bool, Bool.false_eq_true, if_false, condE_true])
    obtain ⟨u, hu0, hu1, hmask⟩ := and_mask t
    obtain ⟨b6, o6, _, hix6, hld6⟩ := (T'.mono ((e3.trans e4).trans e5).next (fun j hj => ((e3.trans e4).trans e5).get j hj (by simp))).at (i := i) (x := .int .i64 t) (by simp [wI, ht'])
    have hl0 : 0 < (followsL m f (pc : Int)).length := by omega
    have hmod0 : 0 ≤ u.tmod ((followsL m f (pc : Int)).length : Int) := Int.tmod_nonneg _ hu0
    have hmod1 : u.tmod ((followsL m f (pc : Int)).length : Int) < ((followsL m f (pc : Int)).length : Int) := Int.tmod_lt_of_pos _ (by omega)
    generalize hmd : u.tmod ((followsL m f (pc : Int)).length : Int) = md at *
    obtain ⟨n, hn'⟩ : ∃ n, (followsL m f (pc : Int))[md.toNat]? = some n := ⟨_, List.getElem?_eq_getElem (by omega)⟩
    obtain ⟨b7, _, _, hix7, hld7⟩ := h5.at hn'
    have hix7 := hix7 .i64
    rw [show ((md.toNat : Nat) : Int) = md by omega] at hix7
    have hnm := List.mem_of_getElem? hn'
    obtain ⟨hn0, hn1⟩ := followsL_mem hnm
    have en : ((n.toNat : Nat) : Int) = n := by omega
    refine (Ok.of (r := (Ex.normal, [vs.getD 0 .bot, AV.int .i64 ((n.toNat : Nat) : Int), w64 ((writesL ins).foldl (fun a n => a ||| bitB n) w), AV.int .i64 ((i + 1 : Nat) : Int)], g5)) (.inl ⟨rfl, k - 1, by omega, i + 1, n.toNat, _, _, rfl, by omega, e'.trans ((e3.trans e4).trans e5), by omega, fun j hj => ?_⟩)).eq (by
      simp -implicitDefEqProofs only [h5.lnL, Option.bind_some, eql_int, c1, c2, decide_true, decide_false, gdW_ff, gQ_true, cl_some, faP_ptr, F5.l5, hix3, hls3, pickP_bool, Bool.false_eq_true, if_false, condE_false, hix6, hld6, hmask, bin_rem, hmd, hix7, hld7, bin_add, suc64 i (by omega), hv2, en])
    have hj64 : j < 64 := by
      rcases Nat.lt_or_ge j 64 with h | h
      · exact h
      · rw [BitVec.getLsbD_of_ge _ _ h] at hj; cases hj
    rw [fold_bit j hj64]
    cases hwb : (bitsB (writesL ins)).getLsbD j with
    | true => exact .inl (by simp)
    | false =>
      rcases hinv j (follow_in hF hins c2 hnm hj hwb) with h | h
      · exact .inl (by simp [h])
      · exact .inr h
  · have hi' : ¬ (i : Int) < ts.length := by omega
    exact (Ok.of (r := (Ex.exit 0, [x, .int .i64 (pc : Int), w64 w, .int .i64 (i : Int)], g')) (.inr ⟨by simp, .inl rfl⟩)).eq (by
      simp -implicitDefEqProofs only [k_law10_LiveWalks_b2, T'.lnL, bin_lss, hi', decide_false, Option.bind_some, condE_false])
theorem u0_w : AV.int .u64 0 = w64 0#64 := rfl
theorem liveWalks_ok {h : Heap} {v x2 : AV} {r : List AV} {m : Md} {f : Fn} {ts : List Int} (H : MdRd h v m) (G : FnRd h r f) (T : RdW h 1 x2 (wI ts) ts.length) (from_ : Int) (hl : (1 + m.funcs.length) * 104 ≤ 2 ^ 47) (hq : ∀ g, Same [] h g → k_law10_awake g = some (.bool true, g)) :
    Ok (k_law10_LiveWalks v (.agg r) x2 (.int .i64 from_) h) fun r => r.1 = .bool true := by
  obtain ⟨kv', cv', mv', rfl, hbf, FB⟩ := G.box
  have H0 := H
  obtain ⟨sv, gv, kv, cv, fv, rfl, hbx, B⟩ := H.box
  have s0 : Same [] h (h.new (.cells true [sv, gv, kv, cv, fv, .int .i64 m.main])) := Same.new _ _
  have FB := FB _ s0
  have hget : (h.new (.cells true [sv, gv, kv, cv, fv, .int .i64 m.main])).get h.next = some (.cells true [sv, gv, kv, cv, fv, .int .i64 m.main]) := get_new_eq
  have hn1 : (h.new (.cells true [sv, gv, kv, cv, fv, .int .i64 m.main])).next = h.next + 1 := rfl
  generalize hg : h.new (.cells true [sv, gv, kv, cv, fv, .int .i64 m.main]) = g at *
  have s1 : Same [] g (g.new (.cells true [.int .i64 f.pa, .int .i64 f.ca, .int .i64 f.sl, .int .i64 f.re, kv', cv', mv'])) := Same.new _ _
  have B1 := B.mono s1
  have hget1 : (g.new (.cells true [.int .i64 f.pa, .int .i64 f.ca, .int .i64 f.sl, .int .i64 f.re, kv', cv', mv'])).get h.next = some (.cells true [sv, gv, kv, cv, fv, .int .i64 m.main]) := by rw [s1.get _ (by omega) (by simp)]; exact hget
  generalize hg1 : g.new (.cells true [.int .i64 f.pa, .int .i64 f.ca, .int .i64 f.sl, .int .i64 f.re, kv', cv', mv']) = g1 at *
  have s2 : Same [] h g1 := s0.trans s1
  refine Ok.eq ?_ (by simp -implicitDefEqProofs only [k_law10_LiveWalks, hbx, hbf, mk_some, hg, hg1, hq g1 s2, cl_some, un_not, Option.bind_some, Bool.not_true, condE_false]; rfl)
  refine ok_front H0 G s2 B1 FB (Nat.le_refl _) (by omega) hget1 hl fun g5 v5 s5 B5 F5 => ?_
  refine Ok.eq ?_ (by simp -implicitDefEqProofs only [B5.la, Option.bind_some]; rfl)
  refine ok_cl (big_ok B5.rd) ?_
  rintro _ g6 ⟨s6, bb, rfl, hsm⟩
  simp only at s6
  have tt : ∀ x, x = some (AV.bool true, g6) → Ok x fun r => r.1 = .bool true := fun x hx => by subst hx; exact Ok.of (r := (AV.bool true, g6)) rfl
  cases bb with
  | true => exact tt _ (by simp -implicitDefEqProofs only [gdW_tf, gQ_false, pickP_bool, if_true, Option.bind_some, condE_true])
  | false =>
    obtain ⟨_, hc, hfs, _⟩ := hsm rfl
    have hfl := (hfs 0 f rfl).1
    have hc : m.cases.length ≤ 60 := hc
    have B6 := B5.mono s6
    have F6 := F5.mono s6
    have s56 := s5.trans s6
    have T6 := T.mono s56.next (fun j hj => s56.get j hj (by simp))
    by_cases c1 : (100 : Int) < ts.length
    · exact tt _ (by simp -implicitDefEqProofs only [gdW_ff, gQ_true, cl_some, T6.lnL, Option.bind_some, bin_gtr, c1, decide_true, gdW_tf, gQ_false, pickP_bool, Bool.false_eq_true, if_false, if_true, condE_true])
    by_cases c2 : from_ < 0
    · exact tt _ (by simp -implicitDefEqProofs only [gdW_ff, gQ_true, cl_some, T6.lnL, Option.bind_some, bin_gtr, bin_lss, c1, c2, decide_true, decide_false, gdW_tf, gQ_false, pickP_bool, Bool.false_eq_true, if_false, if_true, condE_true])
    by_cases c3 : (f.code.length : Int) ≤ from_
    · exact tt _ (by simp -implicitDefEqProofs only [gdW_ff, gQ_true, cl_some, T6.lnL, Option.bind_some, bin_gtr, bin_lss, bin_geq, faP_ptr, F6.l5, F6.ln5, c1, c2, c3, decide_true, decide_false, gdW_tf, gQ_false, pickP_bool, Bool.false_eq_true, if_false, if_true, condE_true])
    refine Ok.eq ?_ (by simp -implicitDefEqProofs only [gdW_ff, gQ_true, cl_some, T6.lnL, Option.bind_some, bin_gtr, bin_lss, bin_geq, faP_ptr, F6.l5, F6.ln5, c1, c2, c3, decide_false, pickP_bool, Bool.false_eq_true, if_false, condE_false, B6.la, F6.la]; rfl)
    refine ok_cl (sets_ok B6.rd F6.rd hc (by omega)) ?_
    rintro v7 g7 ⟨s, S⟩
    simp only at S
    obtain ⟨b, rfl, hb1, hb2, hb3⟩ := S.eq
    have s7 := S.same
    have F7 := F6.mono s7
    have hlen : ((s.length : Int) = f.code.length) := by rw [S.len]
    have hls : lnL (.sl (some (b, 0)) s.length (.ex s.length)) = some (.int .i64 s.length) := by simp
    have ef : ((from_.toNat : Nat) : Int) = from_ := by omega
    rw [← ef]
    refine Ok.eq ?_ (by simp -implicitDefEqProofs only [hls, faP_ptr, F7.l5, F7.ln5, Option.bind_some, neq_int, hlen, decide_true, Bool.not_true, condE_false, u0_w]; rfl)
    refine ok_lp (walk_loop B6 F6 s7 hc hfl T6 (by omega) hb3 hb2 S.len S.fix (by omega)) ?_
    rintro e vs g8 (rfl | ⟨rfl, hv⟩)
    · exact ok_val (v := .bool true) (g := g8) (by simp -implicitDefEqProofs only [if_true, thenK_normal]) rfl
    · exact ok_val (v := .bool true) (g := g8) (by simp only at hv; simp -implicitDefEqProofs only [reduceCtorEq, if_false, thenK_ret, endE_ret, hv]) rfl
end Go.Ab.F
