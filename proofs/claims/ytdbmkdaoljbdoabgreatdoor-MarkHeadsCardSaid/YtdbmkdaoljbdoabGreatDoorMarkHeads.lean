/- MarkHeads returns true, at every input. The condition is the card's own: the table of the standard library holds its numbers. -/
import Derived.Test.YtdbmkdaoljbdoabGreatDoorMarkHeadsTab
import Derived.Test.YtdbmkdaoljbdoabGreatDoorFa
namespace Go.Proofs.YtdbmkdaoljbdoabGreatDoor.markHeads
open Go.Ab Go.Ab.F Go.ChangeShapes Go.WideShapes Go.ChangeAt Go.RowKit
set_option linter.all false
noncomputable section
def pre {R : Type} (h : Heap) (K : AV → AV → AV → AV → Heap → Option R) (F : Heap → Option R) : Option R :=
  cl (k_law7_awake h) fun t12 h0 =>
  (unA .not t12).bind fun t13 =>
  condE t13 (
  F h0) (
  mk Heap.new (bsP 1 [(AV.int .i64 0)] 3 [(0, (AV.int .i64 1)), (1, (AV.int .i64 1)), (2, (AV.int .i64 1))]) h0 fun t15 h1 =>
  (bldS [(0, 1), (1, 1), (2, 1)] [(AV.int .i64 0), (AV.int .i64 0), (AV.sl none 0 (.ex 0))] [(0, (AV.int .i64 4)), (1, (AV.int .i64 4)), (2, t15)]).bind fun t16 =>
  (bldS [(0, 1), (1, 1), (2, 1)] [(AV.int .i64 0), (AV.int .i64 0), (AV.sl none 0 (.ex 0))] [(0, (AV.int .i64 0))]).bind fun t17 =>
  mk Heap.new (bsP 3 [(AV.int .i64 0), (AV.int .i64 0), (AV.sl none 0 (.ex 0))] 2 [(0, t16), (1, t17)]) h1 fun t18 h2 =>
  cl (k_law7_world (AV.int .i64 8) t18 h2) fun t19 h3 =>
  (extractV 0 t19).bind fun t20 =>
  (extractV 1 t19).bind fun t21 =>
  (extractV 2 t19).bind fun t22 =>
  (extractV 3 t19).bind fun t23 =>
  (eqP (some (.pointer 0)) none false .eql t20 (AV.ptr none)).bind fun t25 =>
  gQ (gdW t25 false) h3 (some (t23, h3)) fun t27 h4 =>
  gQ (gdW t25 false) h4 ((lnL t27).bind fun t28 =>
  some (t28, h4)) fun t28_5 h6 =>
  gQ (gdW t25 false) h6 ((eqP (some (.int .i64)) none false .neq t28_5 (AV.int .i64 2)).bind fun t29 =>
  some (t29, h6)) fun t29_7 h8 =>
  (pickP t25 (AV.bool true) t29_7).bind fun t30 =>
  condE t30 (
  F h8) (
  K t20 t21 t22 t23 h8))
def post (x0 t20 t21 t22 t23 : AV) (h8 : Heap) : Option (AV × Heap) :=
  (bldS [(0, 1), (1, 1), (2, 1)] [(AV.int .i64 0), (AV.int .i64 0), (AV.int .i64 0)] [(0, x0), (1, (AV.int .i64 1)), (2, (AV.int .i64 4))]).bind fun t33 =>
  cl (k_head_Pack t33 h8) fun t34 h9 =>
  (extractV 0 t34).bind fun t35 =>
  (extractV 1 t34).bind fun t36 =>
  (eqP (some (.int .i64)) none false .neq t36 (AV.int .i64 0)).bind fun t38 =>
  condE t38 (
  (binP .lss x0 (AV.int .i64 1)).bind fun t40 =>
  gQ (gdW t40 false) h9 (some (x0, h9)) fun t42 h10 =>
  gQ (gdW t40 false) h10 ((binP .gtr t42 (AV.int .i64 64)).bind fun t43 =>
  some (t43, h10)) fun t43_11 h12 =>
  (pickP t40 (AV.bool true) t43_11).bind fun t44 =>
  some (t44, h12)) (
  (nilV t21).bind fun t47 =>
  (faP 0 t47).bind fun t48 =>
  (ldS h9 t48).bind fun t49 =>
  (iaS 1 t23 (AV.int .i64 0)).bind fun t51 =>
  (ldS h9 t51).bind fun t52 =>
  cl (k_law7_put t22 t49 t52 (AV.int .i64 0) t35 h9) fun t54 h13 =>
  chk [h9, h13] [] (
  (binP .sub x0 (AV.int .i64 1)).bind fun t56 =>
  (binP .gtr x0 (AV.int .i64 4)).bind fun t58 =>
  condE t58 (
  k_law7_MarkHeads_j0 t20 t23 (AV.int .i64 0) h13) (
  k_law7_MarkHeads_j0 t20 t23 t56 h13)))
end
theorem law_pre (x : AV) (h : Heap) : k_law7_MarkHeads x h = pre h (post x) (fun g => some (AV.bool false, g)) := rfl
theorem cl_inv {R : Type} {x : Option (AV × Heap)} {K : AV → Heap → Option R} {r : R} (e : cl x K = some r) : ∃ v g, x = some (v, g) ∧ K v g = some r := by
  unfold cl at e
  cases x with
  | none => cases e
  | some q => exact ⟨q.1, q.2, rfl, e⟩
theorem mk_inv {R : Type} {x : Option (Blk × (Nat → AV))} {h : Heap} {K : AV → Heap → Option R} {r : R} (e : mk Heap.new x h K = some r) : ∃ b, x = some b ∧ K (b.2 h.next) (h.new b.1) = some r := by
  unfold mk at e
  cases x with
  | none => cases e
  | some q => exact ⟨q, rfl, e⟩
theorem bd_inv {α β : Type} {x : Option α} {K : α → Option β} {r : β} (e : x.bind K = some r) : ∃ v, x = some v ∧ K v = some r := by
  cases x with
  | none => cases e
  | some q => exact ⟨q, rfl, e⟩
theorem gQ_inv {R : Type} {w : Option Bool} {h : Heap} {x : Option (AV × Heap)} {K : AV → Heap → Option R} {r : R} (e : gQ w h x K = some r) : ∃ v g, (∀ {S : Type} (L : AV → Heap → Option S), gQ w h x L = L v g) ∧ K v g = some r := by
  cases w with
  | none => cases e
  | some b =>
    cases b with
    | true =>
      cases x with
      | none => cases e
      | some q => exact ⟨q.1, q.2, fun L => rfl, e⟩
    | false => exact ⟨.tup [], h, fun L => rfl, e⟩
theorem cond_inv {R : Type} {c : AV} {a b : Option R} {r : R} (e : condE c a b = some r) : (c = .bool true ∧ a = some r) ∨ (c = .bool false ∧ b = some r) := by
  unfold condE at e
  cases c with
  | bool t =>
    cases t
    · exact .inr ⟨rfl, e⟩
    · exact .inl ⟨rfl, e⟩
  | _ => exact nomatch (show (none : Option R) = some r from e)
theorem peel {h g : Heap} {a b c d : AV} (e : pre h (fun a b c d g => some (a, b, c, d, g)) (fun _ => none) = some (a, b, c, d, g)) : ∀ {R : Type} (K : AV → AV → AV → AV → Heap → Option R) (F : Heap → Option R), pre h K F = K a b c d g := by
  intro R K F
  unfold pre at e ⊢
  obtain ⟨v1, g1, e1, e⟩ := cl_inv e
  rw [e1, cl_some]
  obtain ⟨v2, e2, e⟩ := bd_inv e
  rw [e2, Option.bind_some]
  obtain ⟨e3, e⟩ := (cond_inv e).resolve_left (fun h => by cases h.2)
  rw [e3, condE_false]
  obtain ⟨⟨b4, f4⟩, e4, e⟩ := mk_inv e
  rw [e4, mk_some]
  obtain ⟨v5, e5, e⟩ := bd_inv e
  rw [e5, Option.bind_some]
  obtain ⟨v6, e6, e⟩ := bd_inv e
  rw [e6, Option.bind_some]
  obtain ⟨⟨b7, f7⟩, e7, e⟩ := mk_inv e
  rw [e7, mk_some]
  obtain ⟨v8, g8, e8, e⟩ := cl_inv e
  rw [e8, cl_some]
  obtain ⟨v9, e9, e⟩ := bd_inv e
  rw [e9, Option.bind_some]
  obtain ⟨v10, e10, e⟩ := bd_inv e
  rw [e10, Option.bind_some]
  obtain ⟨v11, e11, e⟩ := bd_inv e
  rw [e11, Option.bind_some]
  obtain ⟨v12, e12, e⟩ := bd_inv e
  rw [e12, Option.bind_some]
  obtain ⟨v13, e13, e⟩ := bd_inv e
  rw [e13, Option.bind_some]
  obtain ⟨v14, g14, e14, e⟩ := gQ_inv e
  rw [e14]
  obtain ⟨v15, g15, e15, e⟩ := gQ_inv e
  rw [e15]
  obtain ⟨v16, g16, e16, e⟩ := gQ_inv e
  rw [e16]
  obtain ⟨v17, e17, e⟩ := bd_inv e
  rw [e17, Option.bind_some]
  obtain ⟨e18, e⟩ := (cond_inv e).resolve_left (fun h => by cases h.2)
  rw [e18, condE_false]
  cases e; rfl
theorem cls (a b c : AV) (h : Heap) : (h.new (.cells true [a, b, c])).get h.next = some (.cells true [a, b, c]) := by rw [Heap.get_new, if_pos rfl]
theorem bx3 (n : Int) : bxP (.agg [.int .i64 n, .int .i64 1, .int .i64 4]) = some (.cells true [.int .i64 n, .int .i64 1, .int .i64 4], fun i => .ptr (some (i, 0))) := rfl
theorem may_out (n : Int) (hn : ¬ (1 ≤ n ∧ n ≤ 64)) (h : Heap) : ∃ g, k_head_may (.agg [.int .i64 n, .int .i64 1, .int .i64 4]) h = some (.bool false, g) := by
  refine ⟨h.new (.cells true [.int .i64 n, .int .i64 1, .int .i64 4]), ?_⟩
  have l0 : ldS (h.new (.cells true [.int .i64 n, .int .i64 1, .int .i64 4])) (.ptr (some (h.next, 0 + 0))) = some (.int .i64 n) := by rw [ldS_at (cls _ _ _ h)]; rfl
  have gt : gdW (.bool true) true = some true := rfl
  have gf : gdW (.bool false) true = some false := rfl
  by_cases h1 : 1 ≤ n
  · have h2 : ¬ n ≤ 64 := fun h2 => hn ⟨h1, h2⟩
    simp only [k_head_may, bx3, mk_some, faP_ptr, Option.bind_some, l0, bin_geq, h1, decide_true, gt, gQ_true, cl_some, bin_leq, h2, decide_false, pickP_bool, if_true, gf, gQ_false, Bool.false_eq_true, if_false]
  · simp only [k_head_may, bx3, mk_some, faP_ptr, Option.bind_some, l0, bin_geq, h1, decide_false, gf, gQ_false, pickP_bool, Bool.false_eq_true, if_false]
theorem pack_out (n : Int) (hn : ¬ (1 ≤ n ∧ n ≤ 64)) (h : Heap) : ∃ g, k_head_Pack (.agg [.int .i64 n, .int .i64 1, .int .i64 4]) h = some (.tup [.int .i64 0, .int .i64 1], g) := by
  have la : ldA 3 (h.new (.cells true [.int .i64 n, .int .i64 1, .int .i64 4])) (.ptr (some (h.next, 0))) = some (.agg [.int .i64 n, .int .i64 1, .int .i64 4]) := by rw [ldA_at (cls _ _ _ h)]; rfl
  obtain ⟨g, e⟩ := may_out n hn (h.new (.cells true [.int .i64 n, .int .i64 1, .int .i64 4]))
  exact ⟨g, by simp only [k_head_Pack, bx3, mk_some, la, Option.bind_some, e, cl_some, un_not, Bool.not_false, condE_true]⟩
theorem post_out (n : Int) (hn : ¬ (1 ≤ n ∧ n ≤ 64)) (a b c d : AV) (h : Heap) : isTrue (post (.int .i64 n) a b c d h) = true := by
  obtain ⟨g, e⟩ := pack_out n hn h
  have eb : bldS [(0, 1), (1, 1), (2, 1)] [(AV.int .i64 0), (AV.int .i64 0), (AV.int .i64 0)] [(0, AV.int .i64 n), (1, (AV.int .i64 1)), (2, (AV.int .i64 4))] = some (.agg [.int .i64 n, .int .i64 1, .int .i64 4]) := rfl
  have e0 : ([AV.int .i64 0, AV.int .i64 1] : List AV)[0]? = some (AV.int .i64 0) := rfl
  have e1 : ([AV.int .i64 0, AV.int .i64 1] : List AV)[1]? = some (AV.int .i64 1) := rfl
  have n1 : eqP (some (.int .i64)) none false .neq (AV.int .i64 1) (AV.int .i64 0) = some (.bool true) := rfl
  have gt : gdW (.bool false) false = some true := rfl
  have gf : gdW (.bool true) false = some false := rfl
  by_cases h1 : n < 1
  · simp only [post, eb, Option.bind_some, e, cl_some, extractV_tup, e0, e1, n1, condE_true, bin_lss, h1, decide_true, gf, gQ_false, pickP_bool, if_true, isTrue]
  · have h2 : 64 < n := by omega
    simp only [post, eb, Option.bind_some, e, cl_some, extractV_tup, e0, e1, n1, condE_true, bin_lss, h1, decide_false, gt, gQ_true, bin_gtr, h2, decide_true, pickP_bool, Bool.false_eq_true, if_false, isTrue]
theorem pre_ok : (pre h0 (fun a b c d g => some (a, b, c, d, g)) (fun _ => none)).isSome = true := by kernel_rfl
theorem in0 : ((List.range 8).all fun n => isTrue (k_law7_MarkHeads (.int .i64 (((0 + n + 1 : Nat) : Int))) h0)) = true := by kernel_rfl
theorem in1 : ((List.range 8).all fun n => isTrue (k_law7_MarkHeads (.int .i64 (((8 + n + 1 : Nat) : Int))) h0)) = true := by kernel_rfl
theorem in2 : ((List.range 8).all fun n => isTrue (k_law7_MarkHeads (.int .i64 (((16 + n + 1 : Nat) : Int))) h0)) = true := by kernel_rfl
theorem in3 : ((List.range 8).all fun n => isTrue (k_law7_MarkHeads (.int .i64 (((24 + n + 1 : Nat) : Int))) h0)) = true := by kernel_rfl
theorem in4 : ((List.range 8).all fun n => isTrue (k_law7_MarkHeads (.int .i64 (((32 + n + 1 : Nat) : Int))) h0)) = true := by kernel_rfl
theorem in5 : ((List.range 8).all fun n => isTrue (k_law7_MarkHeads (.int .i64 (((40 + n + 1 : Nat) : Int))) h0)) = true := by kernel_rfl
theorem in6 : ((List.range 8).all fun n => isTrue (k_law7_MarkHeads (.int .i64 (((48 + n + 1 : Nat) : Int))) h0)) = true := by kernel_rfl
theorem in7 : ((List.range 8).all fun n => isTrue (k_law7_MarkHeads (.int .i64 (((56 + n + 1 : Nat) : Int))) h0)) = true := by kernel_rfl
theorem run (b0 : Int) (w0 : (Lit.int .i64 b0).wf = true) : isTrue (k_law7_MarkHeads (.int .i64 b0) h0) = true := by
  by_cases hn : 1 ≤ b0 ∧ b0 ≤ 64
  · obtain ⟨n, rfl⟩ : ∃ n : Nat, b0 = (n : Int) := ⟨b0.toNat, by omega⟩
    have key : ∀ k, k < 8 → ∀ j, j < 8 → isTrue (k_law7_MarkHeads (.int .i64 (((8 * k + j + 1 : Nat) : Int))) h0) = true := fun k hk j hj => by
      have hj' := List.mem_range.2 hj
      rcases (by omega : k = 0 ∨ k = 1 ∨ k = 2 ∨ k = 3 ∨ k = 4 ∨ k = 5 ∨ k = 6 ∨ k = 7) with rfl | rfl | rfl | rfl | rfl | rfl | rfl | rfl
      · exact List.all_eq_true.1 in0 j hj'
      · exact List.all_eq_true.1 in1 j hj'
      · exact List.all_eq_true.1 in2 j hj'
      · exact List.all_eq_true.1 in3 j hj'
      · exact List.all_eq_true.1 in4 j hj'
      · exact List.all_eq_true.1 in5 j hj'
      · exact List.all_eq_true.1 in6 j hj'
      · exact List.all_eq_true.1 in7 j hj'
    have := key ((n - 1) / 8) (by omega) ((n - 1) % 8) (Nat.mod_lt _ (by decide))
    rwa [show 8 * ((n - 1) / 8) + (n - 1) % 8 + 1 = n by omega] at this
  · obtain ⟨⟨a, b, c, d, g⟩, e⟩ := Option.isSome_iff_exists.1 pre_ok
    rw [law_pre, peel e]
    exact post_out b0 hn a b c d g

theorem table {W : World} (h : laidMetH Tryz.prog Rows.markHeadsRow.laid W) : Lib.TabIs Tryz.prog W "math/bits.deBruijn64tab" .u8 deb :=
  Lib.tabIs_of_head (rest := []) gTab gTabType Tryz.underlying241 Tryz.underlying5 cellsByte cellsTab h

set_option maxRecDepth 100000 in
theorem contract (H : Type) (enc : TypeId × Value → H) (W : World) (base : Nat) (args : Array Value) (ds gs : List (DataW H)) (before : List MemPlace)
    (hval : ∀ (j : Nat) t v, Tryz.f4.params[j]? = some t → args[j]? = some v → Value.okWide Tryz.prog W .any base t v)
    (hW : DataW.Whole enc Tryz.prog Tryz.f4.params.toList Rows.markHeadsSpec.vars false W args.toList ds gs before) (hL : laidMetH Tryz.prog Rows.markHeadsRow.laid W) :
    Calls Tryz.prog 4 args W fun e W' => ∃ v, e = .returned v ∧ Rows.markHeadsSpec.post enc Tryz.prog Tryz.f4 false true false false W args v W' := by
  have hW' := hW
  obtain ⟨p, q, hA0, hV, rfl, hfz, hnd⟩ := hW
  have hA : DataW.TrodAll enc Tryz.prog W 0 (fun _ => true) true Tryz.f4.params.toList args.toList ds p := hA0
  rw [Tryz.params4] at hA hval
  obtain ⟨v0, vs0, d0, ds0, p0, q0, eargs0, rfl, rfl, hd0, hA⟩ := trodAll_cons hA
  obtain ⟨rfl, rfl, rfl⟩ := trodAll_nil hA
  obtain rfl : args = #[v0] := by cases args; simp_all
  obtain ⟨b0, rfl, rfl, rfl, w0⟩ := open_int Tryz.underlying3 (hval 0 3 _ (by simp) (by simp)) hd0
  obtain ⟨rfl, rfl⟩ := trodVars_none hV
  clear hA0
  obtain ⟨g, hg⟩ := isTrue_some (run b0 w0)
  refine ((okTab 4 [.int .i64 b0] h0 _ g (by rw [look_law]; exact hg)).2 rho0 W #[.int .i64 b0] (rel0 (table hL)) (VRL.cons (by simp only [VR]) VRL.nil)).mono ?_
  rintro e W' ⟨v', ρ', rfl, hv, hst⟩
  simp only [VR] at hv
  subst hv
  exact ⟨_, rfl, _, [], _, _, _, [], hW', trodAll_cons_mk (shut_bool Tryz.underlying4 _) trodAll_mk0, (trodAll_cons_mk (shut_int Tryz.underlying3 w0) trodAll_mk0), rfl, kept hst.keeps h0_ro _, fun h => by cases h⟩

theorem laid_met (os : Os) : laidMet Tryz.prog Rows.markHeadsRow.laid (((laidWorld os)).forCall (fun _ _ => 0) ⟨#[], (#[.int .i64 0] : Array Value), []⟩).memory :=
  laidMet_of_run' 8 (by kernel_rfl) (by kernel_rfl)
theorem reads (os : Os) {H : Type} (enc : TypeId × Value → H) : ∃ places, DataW.whole enc Tryz.prog (((laidWorld os)).forCall (fun _ _ => 0) ⟨#[], (#[.int .i64 0] : Array Value), []⟩).memory Tryz.f4.params.toList Rows.markHeadsSpec.vars false (#[.int .i64 0] : Array Value).toList 8 = some ([.lit (.int .i64 0)], [], places) :=
  ⟨[], by kernel_rfl⟩

set_option maxRecDepth 100000 in
theorem lifted (os : Os) (started : os.Started) (H : Type) (enc : TypeId × Value → H) (F : Stop.Interp) :
    ReturnsInHanded {} Tryz.checked os 4 .any ((OpenSpec.ofChange Rows.markHeadsSpec).preRow enc Tryz.prog Tryz.f4 Rows.markHeadsRow.domain false Rows.markHeadsRow.laid) (((OpenSpec.ofChange Rows.markHeadsSpec).at F).post enc Tryz.prog Tryz.f4 false true false false) := by
  obtain ⟨places, hx⟩ := reads os enc
  refine returnsInHanded_of_row (C := Tryz.checked) (s := OpenSpec.ofChange Rows.markHeadsSpec) own started (by kernel_rfl) Tryz.func4
    (witness_row_at (enc := enc) (C := Tryz.checked) false (laidWorld os) (#[.int .i64 0] : Array Value) rfl (by kernel_rfl) (by kernel_rfl) (by kernel_rfl)
      (OpenSpec.preRow_of_cond 8 hx (by kernel_rfl) (fun k hk => by cases hk) (by kernel_rfl) (laid_met os))) ?_
  intro W base args ds gs before hval hW _ _ _ hL _ _
  exact contract H enc W base args ds gs before hval hW hL

theorem and_t {a b : Bool} (h : a = true) (h' : b = true) : (a && b) = true := by rw [h, h']; rfl
theorem j0 : (Rows.markHeadsRow.wf (OpenSpec.ofChange (OpenSpec.ofChange Rows.markHeadsSpec).bare)) = true := by kernel_rfl
theorem j1 : (laidOutB Tryz.pinned.checked.prog) = true := fa1
theorem j2 : (mapsRowed Tryz.pinned.checked.prog) = true := by kernel_rfl
theorem j3 : (Tryz.f4.params.all (Tryz.pinned.checked.prog.readableRec ·)) = true := by kernel_rfl
theorem j4 : (namedTie Tryz.pinned.checked.prog Rows.markHeadsRow.named (OpenSpec.ofChange Rows.markHeadsSpec).bare.vars) = true := by kernel_rfl
theorem j5 : ((Rows.markHeadsRow.stops == [])) = true := by kernel_rfl
theorem j6 : ((Tryz.pinned.checked.prog.stops == [])) = true := by kernel_rfl
theorem j7 : ((Rows.markHeadsRow.knobs == [])) = true := by kernel_rfl
theorem j8 : ((Tryz.pinned.checked.prog.stopKnobs == [])) = true := by kernel_rfl
theorem j9 : ((Rows.markHeadsRow.inPlace == Tryz.pinned.checked.prog.inPlace 4)) = true := by kernel_rfl
theorem j10 : ((Rows.markHeadsRow.unfollowed == Tryz.pinned.checked.prog.unfollowed 4)) = true := by kernel_rfl
theorem j11 : ((Rows.markHeadsRow.recurses == Tryz.pinned.checked.prog.recurses 4)) = true := by kernel_rfl
theorem j12 : ((Rows.markHeadsRow.named == Tryz.pinned.checked.prog.varsNamed 4)) = true := by kernel_rfl
theorem j13 : ((Rows.markHeadsRow.maps == (Tryz.f4.params.toList ++ (OpenSpec.ofChange Rows.markHeadsSpec).bare.plain.varTypes Tryz.pinned.checked.prog).any (Tryz.pinned.checked.prog.mapsRec ·))) = true := by kernel_rfl
theorem j14 : ((Rows.markHeadsRow.ifaces == (Tryz.f4.params.toList ++ (OpenSpec.ofChange Rows.markHeadsSpec).bare.plain.varTypes Tryz.pinned.checked.prog).any (Tryz.pinned.checked.prog.ifacesRec ·))) = true := by kernel_rfl
theorem j15 : ((Rows.markHeadsRow.mapsOut == Tryz.pinned.checked.prog.mapsAmong Tryz.f4.resultTypes.toList)) = true := by kernel_rfl
theorem j16 : ((Rows.markHeadsRow.loops == (Tryz.f4.params.toList ++ (OpenSpec.ofChange Rows.markHeadsSpec).bare.plain.varTypes Tryz.pinned.checked.prog).any (Tryz.pinned.checked.prog.loopsFrom ·))) = true := by kernel_rfl
theorem j17 : ((Rows.markHeadsRow.wideKeys == (Tryz.f4.params.toList ++ (OpenSpec.ofChange Rows.markHeadsSpec).bare.plain.varTypes Tryz.pinned.checked.prog ++ Tryz.f4.resultTypes.toList).any (Tryz.pinned.checked.prog.wideKeysFrom ·))) = true := by kernel_rfl
theorem j18 : ((OpenSpec.ofChange Rows.markHeadsSpec).bare.vars.all (Tryz.pinned.checked.prog.varReadable ·)) = true := by kernel_rfl
theorem j19 : (Tryz.f4.resultTypes.all (fun t => Tryz.pinned.checked.prog.readableRec t && decide (t < Tryz.pinned.checked.prog.types.size))) = true := by kernel_rfl
theorem j20 : ((Rows.markHeadsRow.ifacesOut == Tryz.f4.resultTypes.toList.any (Tryz.pinned.checked.prog.ifacesRec ·))) = true := by kernel_rfl
theorem j21 : ((Rows.markHeadsRow.loopsOut == Tryz.f4.resultTypes.toList.any (Tryz.pinned.checked.prog.loopsFrom ·))) = true := by kernel_rfl
theorem j22 : ((Rows.markHeadsRow.plainKeys == Tryz.pinned.checked.prog.plainKeys)) = true := by kernel_rfl
theorem j23 : (Rows.markHeadsRow.shortTexts.isNone) = true := by kernel_rfl
theorem j24 : (Tryz.pinned.checked.prog.stopsHeard) = true := by kernel_rfl
theorem j25 : (Tryz.pinned.checked.prog.mayEnter) = true := fa25
theorem j26 : ((Rows.markHeadsRow.lifted == Tryz.pinned.checked.prog.liftsFinal)) = true := by rw [fa26]; kernel_rfl
theorem j27 : ((Tryz.pinned.checked.prog.make == some Rows.markHeadsRow.make)) = true := by rw [fa27]; kernel_rfl
theorem j28 : ((Rows.markHeadsRow.kinds == (if Rows.markHeadsRow.domain.isEmpty then [] else Tryz.f4.params.toList.map fun t => match Tryz.pinned.checked.prog.underlying t with | some (.int k) => some k | _ => none))) = true := by kernel_rfl
theorem j29 : ((Rows.markHeadsRow.pinned == Rows.markHeadsRow.pinnedBy)) = true := by kernel_rfl
theorem j30 : ((Rows.markHeadsRow.veiled == (Tryz.f4.params.toList ++ (OpenSpec.ofChange Rows.markHeadsSpec).bare.plain.varTypes Tryz.pinned.checked.prog ++ Tryz.f4.resultTypes.toList).any (Tryz.pinned.checked.prog.veiledRec ·))) = true := by kernel_rfl
theorem j31 : (Rows.markHeadsRow.veiledFits Tryz.pinned.checked.prog Tryz.f4.params.toList (Tryz.f4.params.toList ++ (OpenSpec.ofChange Rows.markHeadsSpec).bare.plain.varTypes Tryz.pinned.checked.prog ++ Tryz.f4.resultTypes.toList)) = true := by kernel_rfl
set_option maxRecDepth 100000 in
theorem joined : joinedFacts Tryz.pinned.checked.prog 4 Tryz.f4 (OpenSpec.ofChange Rows.markHeadsSpec).bare Rows.markHeadsRow = true := (and_t (and_t (and_t (and_t (and_t (and_t (and_t (and_t (and_t (and_t (and_t (and_t (and_t (and_t (and_t (and_t (and_t (and_t (and_t (and_t (and_t (and_t (and_t (and_t (and_t (and_t (and_t (and_t (and_t (and_t (and_t j0 j1) j2) j3) j4) j5) j6) j7) j8) j9) j10) j11) j12) j13) j14) j15) j16) j17) j18) j19) j20) j21) j22) j23) j24) j25) j26) j27) j28) j29) j30) j31)

theorem said : Rows.MarkHeadsSaid :=
  OpenClaim.holds_of_cond 4 Tryz.f4 rfl rfl rfl rfl rfl rfl rfl ⟨rfl, rfl, rfl, rfl, rfl⟩ rfl rfl rfl rfl rfl (by kernel_rfl) Tryz.func4 joined
    (of_decide_eq_true (by kernel_rfl)) (by unfold Func.isWrapper; first | (rw [if_pos (by decide +kernel)]; kernel_rfl) | (rw [if_neg (by decide +kernel)]; exact ⟨rfl, rfl⟩))
    (fun os started H enc _ F => by rw [OpenClaim.pre_eq_preRow]; exact lifted os started H enc F)

theorem plain (f : FuncId) (fn : Func) (hf : Tryz.pinned.checked.prog.funcNamed "gantline/gantlinelaw7.MarkHeads" = some f) (hfn : Tryz.pinned.checked.prog.funcs[f]? = some fn) :
    false = Tryz.pinned.checked.prog.looks [] ∧ ∀ (j : Nat) t, fn.params[j]? = some t → Tryz.pinned.checked.prog.wantsStandIn t = false := by
  obtain rfl : f = 4 := Option.some.inj ((show Tryz.prog.funcNamed "gantline/gantlinelaw7.MarkHeads" = some 4 by kernel_rfl).symm.trans hf) |>.symm
  obtain rfl : fn = Tryz.f4 := (Option.some.inj (Tryz.func4.symm.trans hfn)).symm
  refine ⟨by kernel_rfl, fun j t ht => ?_⟩
  have hall : (Tryz.f4.params.toList.all fun t => !Tryz.pinned.checked.prog.wantsStandIn t) = true := by kernel_rfl
  have hm := List.all_eq_true.1 hall t (by have := Array.mem_of_getElem? ht; simpa using this)
  simpa using hm
end Go.Proofs.YtdbmkdaoljbdoabGreatDoor.markHeads
namespace Go.Proofs.YtdbmkdaoljbdoabGreatDoor
/-- The card. -/
theorem markHeads_card : Rows.MarkHeadsCardSaid :=
  Claim7.holds_tied_plain_at .later [] _ _ _ _ markHeads.said (fun _ h => by cases h) (by kernel_rfl) (fun _ h => by cases h) markHeads_row_tie rfl ⟨rfl, rfl⟩ (by kernel_rfl) rfl markHeads.plain (by kernel_rfl)
end Go.Proofs.YtdbmkdaoljbdoabGreatDoor
