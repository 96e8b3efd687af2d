/- ArenaSweeps returns true, at every input. The condition is the card's own: the table of the standard library holds its numbers. -/
import Derived.Test.YtfenhliknhmihaaDoorShTab
import Derived.Test.YtfenhliknhmihaaDoorFa
import Derived.Test.YtfenhliknhmihaaDoorL4v
namespace Go.Proofs.YtfenhliknhmihaaDoor.arenaSweeps
open Go.Ab Go.Ab.F Go.ChangeShapes Go.WideShapes Go.ChangeAt Go.RowKit
set_option linter.all false
open Go.Proofs.YtfenhliknhmihaaDoor.sh
theorem look_law (b0 b1 b2 b3 : AV) (h : Heap) : lookT tab 6 [b0, b1, b2, b3] h = k_law4_ArenaSweeps b0 b1 b2 b3 h := by kernel_rfl
theorem aw : trueTab (k_law4_awake h0) = true := by kernel_rfl
theorem isTrue_ok {x : Option (AV × Heap)} (h : Ok x fun r => r.1 = .bool true) : isTrue x = true := by
  obtain ⟨⟨v, g⟩, rfl, e⟩ := h
  simp only at e
  subst e; rfl
theorem run (b0 : Int) (b1 : Int) (b2 : Int) (b3 : Int) (w0 : (Lit.int .i64 b0).wf = true) (w1 : (Lit.int .i64 b1).wf = true) (w2 : (Lit.int .u64 b2).wf = true) (w3 : (Lit.int .i64 b3).wf = true) : isTrue (k_law4_ArenaSweeps (.int .i64 b0) (.int .i64 b1) (.int .u64 b2) (.int .i64 b3) h0) = true := by
  have e : (AV.int .u64 b2) = .int .u64 (BitVec.ofInt 64 b2).toNat := u64_wf w2
  rw [e]
  exact isTrue_ok (sweeps_true aw b0 b1 b3 _)

theorem table {W : World} (h : laidMetH Tryd.prog Rows.arenaSweepsRow.laid W) : Lib.TabIs Tryd.prog W "math/bits.deBruijn64tab" .u8 deb :=
  Lib.tabIs_of_head (rest := []) gTab gTabType Tryd.underlying95 Tryd.underlying5 cellsByte cellsTab h

set_option maxRecDepth 100000 in
theorem contract (H : Type) (enc : TypeId × Value → H) (W : World) (base : Nat) (args : Array Value) (ds gs : List (DataW H)) (before : List MemPlace)
    (hval : ∀ (j : Nat) t v, Tryd.f6.params[j]? = some t → args[j]? = some v → Value.okWide Tryd.prog W .any base t v)
    (hW : DataW.Whole enc Tryd.prog Tryd.f6.params.toList Rows.arenaSweepsSpec.vars false W args.toList ds gs before) (hL : laidMetH Tryd.prog Rows.arenaSweepsRow.laid W) :
    Calls Tryd.prog 6 args W fun e W' => ∃ v, e = .returned v ∧ Rows.arenaSweepsSpec.post enc Tryd.prog Tryd.f6 false true false false W args v W' := by
  have hW' := hW
  obtain ⟨p, q, hA0, hV, rfl, hfz, hnd⟩ := hW
  have hA : DataW.TrodAll enc Tryd.prog W 0 (fun _ => true) true Tryd.f6.params.toList args.toList ds p := hA0
  rw [Tryd.params6] at hA hval
  obtain ⟨v0, vs0, d0, ds0, p0, q0, eargs0, rfl, rfl, hd0, hA⟩ := trodAll_cons hA
  obtain ⟨v1, vs1, d1, ds1, p1, q1, rfl, rfl, rfl, hd1, hA⟩ := trodAll_cons hA
  obtain ⟨v2, vs2, d2, ds2, p2, q2, rfl, rfl, rfl, hd2, hA⟩ := trodAll_cons hA
  obtain ⟨v3, vs3, d3, ds3, p3, q3, rfl, rfl, rfl, hd3, hA⟩ := trodAll_cons hA
  obtain ⟨rfl, rfl, rfl⟩ := trodAll_nil hA
  obtain rfl : args = #[v0, v1, v2, v3] := by cases args; simp_all
  obtain ⟨b0, rfl, rfl, rfl, w0⟩ := open_int Tryd.underlying3 (hval 0 3 _ (by simp) (by simp)) hd0
  obtain ⟨b1, rfl, rfl, rfl, w1⟩ := open_int Tryd.underlying3 (hval 1 3 _ (by simp) (by simp)) hd1
  obtain ⟨b2, rfl, rfl, rfl, w2⟩ := open_int Tryd.underlying52 (hval 2 52 _ (by simp) (by simp)) hd2
  obtain ⟨b3, rfl, rfl, rfl, w3⟩ := open_int Tryd.underlying2 (hval 3 2 _ (by simp) (by simp)) hd3
  obtain ⟨rfl, rfl⟩ := trodVars_none hV
  clear hA0
  obtain ⟨g, hg⟩ := isTrue_some (run b0 b1 b2 b3 w0 w1 w2 w3)
  refine ((okTab 6 [.int .i64 b0, .int .i64 b1, .int .u64 b2, .int .i64 b3] h0 _ g (by rw [look_law]; exact hg)).2 rho0 W #[.int .i64 b0, .int .i64 b1, .int .u64 b2, .int .i64 b3] (rel0 (table hL)) (VRL.cons (by simp only [VR]) (VRL.cons (by simp only [VR]) (VRL.cons (by simp only [VR]) (VRL.cons (by simp only [VR]) VRL.nil))))).mono ?_
  rintro e W' ⟨v', ρ', rfl, hv, hst⟩
  simp only [VR] at hv
  subst hv
  exact ⟨_, rfl, _, [], _, _, _, [], hW', trodAll_cons_mk (shut_bool Tryd.underlying4 _) trodAll_mk0, (trodAll_cons_mk (shut_int Tryd.underlying3 w0) (trodAll_cons_mk (shut_int Tryd.underlying3 w1) (trodAll_cons_mk (shut_int Tryd.underlying52 w2) (trodAll_cons_mk (shut_int Tryd.underlying2 w3) trodAll_mk0)))), rfl, kept hst.keeps h0_ro _, fun h => by cases h⟩

theorem laid_met (os : Os) : laidMet Tryd.prog Rows.arenaSweepsRow.laid (((laidWorld os)).forCall (fun _ _ => 0) ⟨#[], (#[.int .i64 0, .int .i64 0, .int .u64 0, .int .i64 0] : Array Value), []⟩).memory :=
  laidMet_of_run' 8 (by kernel_rfl) (by kernel_rfl)
theorem reads (os : Os) {H : Type} (enc : TypeId × Value → H) : ∃ places, DataW.whole enc Tryd.prog (((laidWorld os)).forCall (fun _ _ => 0) ⟨#[], (#[.int .i64 0, .int .i64 0, .int .u64 0, .int .i64 0] : Array Value), []⟩).memory Tryd.f6.params.toList Rows.arenaSweepsSpec.vars false (#[.int .i64 0, .int .i64 0, .int .u64 0, .int .i64 0] : Array Value).toList 8 = some ([.lit (.int .i64 0), .lit (.int .i64 0), .lit (.int .u64 0), .lit (.int .i64 0)], [], places) :=
  ⟨[], by kernel_rfl⟩

set_option maxRecDepth 100000 in
theorem lifted (os : Os) (started : os.Started) (H : Type) (enc : TypeId × Value → H) (F : Stop.Interp) :
    ReturnsInHanded {} Tryd.checked os 6 .any ((OpenSpec.ofChange Rows.arenaSweepsSpec).preRow enc Tryd.prog Tryd.f6 Rows.arenaSweepsRow.domain false Rows.arenaSweepsRow.laid) (((OpenSpec.ofChange Rows.arenaSweepsSpec).at F).post enc Tryd.prog Tryd.f6 false true false false) := by
  obtain ⟨places, hx⟩ := reads os enc
  refine returnsInHanded_of_row (C := Tryd.checked) (s := OpenSpec.ofChange Rows.arenaSweepsSpec) own started (by kernel_rfl) Tryd.func6
    (witness_row_at (enc := enc) (C := Tryd.checked) false (laidWorld os) (#[.int .i64 0, .int .i64 0, .int .u64 0, .int .i64 0] : Array Value) rfl (by kernel_rfl) (by kernel_rfl) (by kernel_rfl)
      (OpenSpec.preRow_of_cond 8 hx (by kernel_rfl) (fun k hk => by cases hk) (by kernel_rfl) (laid_met os))) ?_
  intro W base args ds gs before hval hW _ _ _ hL _ _
  exact contract H enc W base args ds gs before hval hW hL

theorem and_t {a b : Bool} (h : a = true) (h' : b = true) : (a && b) = true := by rw [h, h']; rfl
theorem j0 : (Rows.arenaSweepsRow.wf (OpenSpec.ofChange (OpenSpec.ofChange Rows.arenaSweepsSpec).bare)) = true := by kernel_rfl
theorem j1 : (laidOutB Tryd.pinned.checked.prog) = true := fa1
theorem j2 : (mapsRowed Tryd.pinned.checked.prog) = true := by kernel_rfl
theorem j3 : (Tryd.f6.params.all (Tryd.pinned.checked.prog.readableRec ·)) = true := by kernel_rfl
theorem j4 : (namedTie Tryd.pinned.checked.prog Rows.arenaSweepsRow.named (OpenSpec.ofChange Rows.arenaSweepsSpec).bare.vars) = true := by kernel_rfl
theorem j5 : ((Rows.arenaSweepsRow.stops == [])) = true := by kernel_rfl
theorem j6 : ((Tryd.pinned.checked.prog.stops == [])) = true := by kernel_rfl
theorem j7 : ((Rows.arenaSweepsRow.knobs == [])) = true := by kernel_rfl
theorem j8 : ((Tryd.pinned.checked.prog.stopKnobs == [])) = true := by kernel_rfl
theorem j9 : ((Rows.arenaSweepsRow.inPlace == Tryd.pinned.checked.prog.inPlace 6)) = true := by kernel_rfl
theorem j10 : ((Rows.arenaSweepsRow.unfollowed == Tryd.pinned.checked.prog.unfollowed 6)) = true := by kernel_rfl
theorem j11 : ((Rows.arenaSweepsRow.recurses == Tryd.pinned.checked.prog.recurses 6)) = true := by kernel_rfl
theorem j12 : ((Rows.arenaSweepsRow.named == Tryd.pinned.checked.prog.varsNamed 6)) = true := by kernel_rfl
theorem j13 : ((Rows.arenaSweepsRow.maps == (Tryd.f6.params.toList ++ (OpenSpec.ofChange Rows.arenaSweepsSpec).bare.plain.varTypes Tryd.pinned.checked.prog).any (Tryd.pinned.checked.prog.mapsRec ·))) = true := by kernel_rfl
theorem j14 : ((Rows.arenaSweepsRow.ifaces == (Tryd.f6.params.toList ++ (OpenSpec.ofChange Rows.arenaSweepsSpec).bare.plain.varTypes Tryd.pinned.checked.prog).any (Tryd.pinned.checked.prog.ifacesRec ·))) = true := by kernel_rfl
theorem j15 : ((Rows.arenaSweepsRow.mapsOut == Tryd.pinned.checked.prog.mapsAmong Tryd.f6.resultTypes.toList)) = true := by kernel_rfl
theorem j16 : ((Rows.arenaSweepsRow.loops == (Tryd.f6.params.toList ++ (OpenSpec.ofChange Rows.arenaSweepsSpec).bare.plain.varTypes Tryd.pinned.checked.prog).any (Tryd.pinned.checked.prog.loopsFrom ·))) = true := by kernel_rfl
theorem j17 : ((Rows.arenaSweepsRow.wideKeys == (Tryd.f6.params.toList ++ (OpenSpec.ofChange Rows.arenaSweepsSpec).bare.plain.varTypes Tryd.pinned.checked.prog ++ Tryd.f6.resultTypes.toList).any (Tryd.pinned.checked.prog.wideKeysFrom ·))) = true := by kernel_rfl
theorem j18 : ((OpenSpec.ofChange Rows.arenaSweepsSpec).bare.vars.all (Tryd.pinned.checked.prog.varReadable ·)) = true := by kernel_rfl
theorem j19 : (Tryd.f6.resultTypes.all (fun t => Tryd.pinned.checked.prog.readableRec t && decide (t < Tryd.pinned.checked.prog.types.size))) = true := by kernel_rfl
theorem j20 : ((Rows.arenaSweepsRow.ifacesOut == Tryd.f6.resultTypes.toList.any (Tryd.pinned.checked.prog.ifacesRec ·))) = true := by kernel_rfl
theorem j21 : ((Rows.arenaSweepsRow.loopsOut == Tryd.f6.resultTypes.toList.any (Tryd.pinned.checked.prog.loopsFrom ·))) = true := by kernel_rfl
theorem j22 : ((Rows.arenaSweepsRow.plainKeys == Tryd.pinned.checked.prog.plainKeys)) = true := by kernel_rfl
theorem j23 : (Rows.arenaSweepsRow.shortTexts.isNone) = true := by kernel_rfl
theorem j24 : (Tryd.pinned.checked.prog.stopsHeard) = true := by kernel_rfl
theorem j25 : (Tryd.pinned.checked.prog.mayEnter) = true := fa25
theorem j26 : ((Rows.arenaSweepsRow.lifted == Tryd.pinned.checked.prog.liftsFinal)) = true := by rw [fa26]; kernel_rfl
theorem j27 : ((Tryd.pinned.checked.prog.make == some Rows.arenaSweepsRow.make)) = true := by rw [fa27]; kernel_rfl
theorem j28 : ((Rows.arenaSweepsRow.kinds == (if Rows.arenaSweepsRow.domain.isEmpty then [] else Tryd.f6.params.toList.map fun t => match Tryd.pinned.checked.prog.underlying t with | some (.int k) => some k | _ => none))) = true := by kernel_rfl
theorem j29 : ((Rows.arenaSweepsRow.pinned == Rows.arenaSweepsRow.pinnedBy)) = true := by kernel_rfl
theorem j30 : ((Rows.arenaSweepsRow.veiled == (Tryd.f6.params.toList ++ (OpenSpec.ofChange Rows.arenaSweepsSpec).bare.plain.varTypes Tryd.pinned.checked.prog ++ Tryd.f6.resultTypes.toList).any (Tryd.pinned.checked.prog.veiledRec ·))) = true := by kernel_rfl
theorem j31 : (Rows.arenaSweepsRow.veiledFits Tryd.pinned.checked.prog Tryd.f6.params.toList (Tryd.f6.params.toList ++ (OpenSpec.ofChange Rows.arenaSweepsSpec).bare.plain.varTypes Tryd.pinned.checked.prog ++ Tryd.f6.resultTypes.toList)) = true := by kernel_rfl
set_option maxRecDepth 100000 in
theorem joined : joinedFacts Tryd.pinned.checked.prog 6 Tryd.f6 (OpenSpec.ofChange Rows.arenaSweepsSpec).bare Rows.arenaSweepsRow = true := (and_t (and_t (and_t (and_t (and_t (and_t (and_t (and_t (and_t (and_t (and_t (and_t (and_t (and_t (and_t (and_t (and_t (and_t (and_t (and_t (and_t (and_t (and_t (and_t (and_t (and_t (and_t (and_t (and_t (and_t (and_t j0 j1) j2) j3) j4) j5) j6) j7) j8) j9) j10) j11) j12) j13) j14) j15) j16) j17) j18) j19) j20) j21) j22) j23) j24) j25) j26) j27) j28) j29) j30) j31)

theorem said : Rows.ArenaSweepsSaid :=
  OpenClaim.holds_of_cond 6 Tryd.f6 rfl rfl rfl rfl rfl rfl rfl ⟨rfl, rfl, rfl, rfl, rfl⟩ rfl rfl rfl rfl rfl (by kernel_rfl) Tryd.func6 joined
    (of_decide_eq_true (by kernel_rfl)) (by unfold Func.isWrapper; first | (rw [if_pos (by decide +kernel)]; kernel_rfl) | (rw [if_neg (by decide +kernel)]; exact ⟨rfl, rfl⟩))
    (fun os started H enc _ F => by rw [OpenClaim.pre_eq_preRow]; exact lifted os started H enc F)

theorem plain (f : FuncId) (fn : Func) (hf : Tryd.pinned.checked.prog.funcNamed "gantline/gantlinelaw4.ArenaSweeps" = some f) (hfn : Tryd.pinned.checked.prog.funcs[f]? = some fn) :
    false = Tryd.pinned.checked.prog.looks [] ∧ ∀ (j : Nat) t, fn.params[j]? = some t → Tryd.pinned.checked.prog.wantsStandIn t = false := by
  obtain rfl : f = 6 := Option.some.inj ((show Tryd.prog.funcNamed "gantline/gantlinelaw4.ArenaSweeps" = some 6 by kernel_rfl).symm.trans hf) |>.symm
  obtain rfl : fn = Tryd.f6 := (Option.some.inj (Tryd.func6.symm.trans hfn)).symm
  refine ⟨by kernel_rfl, fun j t ht => ?_⟩
  have hall : (Tryd.f6.params.toList.all fun t => !Tryd.pinned.checked.prog.wantsStandIn t) = true := by kernel_rfl
  have hm := List.all_eq_true.1 hall t (by have := Array.mem_of_getElem? ht; simpa using this)
  simpa using hm
end Go.Proofs.YtfenhliknhmihaaDoor.arenaSweeps
namespace Go.Proofs.YtfenhliknhmihaaDoor
/-- The card. -/
theorem arenaSweeps_card : Rows.ArenaSweepsCardSaid :=
  Claim7.holds_tied_plain_at .later [] _ _ _ _ arenaSweeps.said (fun _ h => by cases h) (by kernel_rfl) (fun _ h => by cases h) arenaSweeps_row_tie rfl ⟨rfl, rfl⟩ (by kernel_rfl) rfl arenaSweeps.plain (by kernel_rfl)
end Go.Proofs.YtfenhliknhmihaaDoor
