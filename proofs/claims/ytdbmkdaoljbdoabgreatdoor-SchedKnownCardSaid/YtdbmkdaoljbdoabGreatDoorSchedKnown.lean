/- SchedKnown returns true. The condition is the card's own: the table of the standard library holds its numbers. -/
import Derived.Test.YtdbmkdaoljbdoabGreatDoorSchedKnownTab
import Derived.Test.YtdbmkdaoljbdoabGreatDoorFa
namespace Go.Proofs.YtdbmkdaoljbdoabGreatDoor.schedKnown
open Go.Ab Go.Ab.F Go.ChangeShapes Go.WideShapes Go.ChangeAt Go.RowKit
set_option linter.all false

theorem run : isTrue (k_law16_SchedKnown  h0) = true := by kernel_rfl

theorem table {W : World} (h : laidMetH Tryz.prog Rows.schedKnownRow.laid W) : Lib.TabIs Tryz.prog W "math/bits.deBruijn64tab" .u8 deb :=
  Lib.tabIs_of_head (rest := []) gTab gTabType Tryz.underlying241 Tryz.underlying5 cellsByte cellsTab h

set_option maxRecDepth 100000 in
theorem contract (H : Type) (enc : TypeId × Value → H) (W : World) (base : Nat) (args : Array Value) (ds gs : List (DataW H)) (before : List MemPlace)
    (hval : ∀ (j : Nat) t v, Tryz.f5.params[j]? = some t → args[j]? = some v → Value.okWide Tryz.prog W .any base t v)
    (hW : DataW.Whole enc Tryz.prog Tryz.f5.params.toList Rows.schedKnownSpec.vars false W args.toList ds gs before) (hL : laidMetH Tryz.prog Rows.schedKnownRow.laid W) :
    Calls Tryz.prog 5 args W fun e W' => ∃ v, e = .returned v ∧ Rows.schedKnownSpec.post enc Tryz.prog Tryz.f5 false true false false W args v W' := by
  have hW' := hW
  obtain ⟨p, q, hA0, hV, rfl, hfz, hnd⟩ := hW
  have hA : DataW.TrodAll enc Tryz.prog W 0 (fun _ => true) true Tryz.f5.params.toList args.toList ds p := hA0
  rw [Tryz.params5] at hA hval
  obtain ⟨hargs, rfl, rfl⟩ := trodAll_nil hA
  obtain rfl : args = #[] := by cases args; simp_all
  obtain ⟨rfl, rfl⟩ := trodVars_none hV
  clear hA0
  obtain ⟨g, hg⟩ := isTrue_some (run  )
  refine ((okTab 5 [] h0 _ g (by rw [look_law]; exact hg)).2 rho0 W #[] (rel0 (table hL)) VRL.nil).mono ?_
  rintro e W' ⟨v', ρ', rfl, hv, hst⟩
  simp only [VR] at hv
  subst hv
  exact ⟨_, rfl, _, [], _, _, _, [], hW', trodAll_cons_mk (shut_bool Tryz.underlying4 _) trodAll_mk0, trodAll_mk0, rfl, kept hst.keeps h0_ro _, fun h => by cases h⟩

theorem laid_met (os : Os) : laidMet Tryz.prog Rows.schedKnownRow.laid (((laidWorld os)).forCall (fun _ _ => 0) ⟨#[], (#[] : Array Value), []⟩).memory :=
  laidMet_of_run' 8 (by kernel_rfl) (by kernel_rfl)
theorem reads (os : Os) {H : Type} (enc : TypeId × Value → H) : ∃ places, DataW.whole enc Tryz.prog (((laidWorld os)).forCall (fun _ _ => 0) ⟨#[], (#[] : Array Value), []⟩).memory Tryz.f5.params.toList Rows.schedKnownSpec.vars false (#[] : Array Value).toList 8 = some ([], [], places) :=
  ⟨[], by kernel_rfl⟩

set_option maxRecDepth 100000 in
theorem lifted (os : Os) (started : os.Started) (H : Type) (enc : TypeId × Value → H) (F : Stop.Interp) :
    ReturnsInHanded {} Tryz.checked os 5 .any ((OpenSpec.ofChange Rows.schedKnownSpec).preRow enc Tryz.prog Tryz.f5 Rows.schedKnownRow.domain false Rows.schedKnownRow.laid) (((OpenSpec.ofChange Rows.schedKnownSpec).at F).post enc Tryz.prog Tryz.f5 false true false false) := by
  obtain ⟨places, hx⟩ := reads os enc
  refine returnsInHanded_of_row (C := Tryz.checked) (s := OpenSpec.ofChange Rows.schedKnownSpec) own started (by kernel_rfl) Tryz.func5
    (witness_row_at (enc := enc) (C := Tryz.checked) false (laidWorld os) (#[] : Array Value) rfl (by kernel_rfl) (by kernel_rfl) (by kernel_rfl)
      (OpenSpec.preRow_of_cond 8 hx (by kernel_rfl) (fun k hk => by cases hk) (by kernel_rfl) (laid_met os))) ?_
  intro W base args ds gs before hval hW _ _ _ hL _ _
  exact contract H enc W base args ds gs before hval hW hL

theorem and_t {a b : Bool} (h : a = true) (h' : b = true) : (a && b) = true := by rw [h, h']; rfl
theorem j0 : (Rows.schedKnownRow.wf (OpenSpec.ofChange (OpenSpec.ofChange Rows.schedKnownSpec).bare)) = true := by kernel_rfl
theorem j1 : (laidOutB Tryz.pinned.checked.prog) = true := fa1
theorem j2 : (mapsRowed Tryz.pinned.checked.prog) = true := by kernel_rfl
theorem j3 : (Tryz.f5.params.all (Tryz.pinned.checked.prog.readableRec ·)) = true := by kernel_rfl
theorem j4 : (namedTie Tryz.pinned.checked.prog Rows.schedKnownRow.named (OpenSpec.ofChange Rows.schedKnownSpec).bare.vars) = true := by kernel_rfl
theorem j5 : ((Rows.schedKnownRow.stops == [])) = true := by kernel_rfl
theorem j6 : ((Tryz.pinned.checked.prog.stops == [])) = true := by kernel_rfl
theorem j7 : ((Rows.schedKnownRow.knobs == [])) = true := by kernel_rfl
theorem j8 : ((Tryz.pinned.checked.prog.stopKnobs == [])) = true := by kernel_rfl
theorem j9 : ((Rows.schedKnownRow.inPlace == Tryz.pinned.checked.prog.inPlace 5)) = true := by kernel_rfl
theorem j10 : ((Rows.schedKnownRow.unfollowed == Tryz.pinned.checked.prog.unfollowed 5)) = true := by kernel_rfl
theorem j11 : ((Rows.schedKnownRow.recurses == Tryz.pinned.checked.prog.recurses 5)) = true := by kernel_rfl
theorem j12 : ((Rows.schedKnownRow.named == Tryz.pinned.checked.prog.varsNamed 5)) = true := by kernel_rfl
theorem j13 : ((Rows.schedKnownRow.maps == (Tryz.f5.params.toList ++ (OpenSpec.ofChange Rows.schedKnownSpec).bare.plain.varTypes Tryz.pinned.checked.prog).any (Tryz.pinned.checked.prog.mapsRec ·))) = true := by kernel_rfl
theorem j14 : ((Rows.schedKnownRow.ifaces == (Tryz.f5.params.toList ++ (OpenSpec.ofChange Rows.schedKnownSpec).bare.plain.varTypes Tryz.pinned.checked.prog).any (Tryz.pinned.checked.prog.ifacesRec ·))) = true := by kernel_rfl
theorem j15 : ((Rows.schedKnownRow.mapsOut == Tryz.pinned.checked.prog.mapsAmong Tryz.f5.resultTypes.toList)) = true := by kernel_rfl
theorem j16 : ((Rows.schedKnownRow.loops == (Tryz.f5.params.toList ++ (OpenSpec.ofChange Rows.schedKnownSpec).bare.plain.varTypes Tryz.pinned.checked.prog).any (Tryz.pinned.checked.prog.loopsFrom ·))) = true := by kernel_rfl
theorem j17 : ((Rows.schedKnownRow.wideKeys == (Tryz.f5.params.toList ++ (OpenSpec.ofChange Rows.schedKnownSpec).bare.plain.varTypes Tryz.pinned.checked.prog ++ Tryz.f5.resultTypes.toList).any (Tryz.pinned.checked.prog.wideKeysFrom ·))) = true := by kernel_rfl
theorem j18 : ((OpenSpec.ofChange Rows.schedKnownSpec).bare.vars.all (Tryz.pinned.checked.prog.varReadable ·)) = true := by kernel_rfl
theorem j19 : (Tryz.f5.resultTypes.all (fun t => Tryz.pinned.checked.prog.readableRec t && decide (t < Tryz.pinned.checked.prog.types.size))) = true := by kernel_rfl
theorem j20 : ((Rows.schedKnownRow.ifacesOut == Tryz.f5.resultTypes.toList.any (Tryz.pinned.checked.prog.ifacesRec ·))) = true := by kernel_rfl
theorem j21 : ((Rows.schedKnownRow.loopsOut == Tryz.f5.resultTypes.toList.any (Tryz.pinned.checked.prog.loopsFrom ·))) = true := by kernel_rfl
theorem j22 : ((Rows.schedKnownRow.plainKeys == Tryz.pinned.checked.prog.plainKeys)) = true := by kernel_rfl
theorem j23 : (Rows.schedKnownRow.shortTexts.isNone) = true := by kernel_rfl
theorem j24 : (Tryz.pinned.checked.prog.stopsHeard) = true := by kernel_rfl
theorem j25 : (Tryz.pinned.checked.prog.mayEnter) = true := fa25
theorem j26 : ((Rows.schedKnownRow.lifted == Tryz.pinned.checked.prog.liftsFinal)) = true := by rw [fa26]; kernel_rfl
theorem j27 : ((Tryz.pinned.checked.prog.make == some Rows.schedKnownRow.make)) = true := by rw [fa27]; kernel_rfl
theorem j28 : ((Rows.schedKnownRow.kinds == (if Rows.schedKnownRow.domain.isEmpty then [] else Tryz.f5.params.toList.map fun t => match Tryz.pinned.checked.prog.underlying t with | some (.int k) => some k | _ => none))) = true := by kernel_rfl
theorem j29 : ((Rows.schedKnownRow.pinned == Rows.schedKnownRow.pinnedBy)) = true := by kernel_rfl
theorem j30 : ((Rows.schedKnownRow.veiled == (Tryz.f5.params.toList ++ (OpenSpec.ofChange Rows.schedKnownSpec).bare.plain.varTypes Tryz.pinned.checked.prog ++ Tryz.f5.resultTypes.toList).any (Tryz.pinned.checked.prog.veiledRec ·))) = true := by kernel_rfl
theorem j31 : (Rows.schedKnownRow.veiledFits Tryz.pinned.checked.prog Tryz.f5.params.toList (Tryz.f5.params.toList ++ (OpenSpec.ofChange Rows.schedKnownSpec).bare.plain.varTypes Tryz.pinned.checked.prog ++ Tryz.f5.resultTypes.toList)) = true := by kernel_rfl
set_option maxRecDepth 100000 in
theorem joined : joinedFacts Tryz.pinned.checked.prog 5 Tryz.f5 (OpenSpec.ofChange Rows.schedKnownSpec).bare Rows.schedKnownRow = true := (and_t (and_t (and_t (and_t (and_t (and_t (and_t (and_t (and_t (and_t (and_t (and_t (and_t (and_t (and_t (and_t (and_t (and_t (and_t (and_t (and_t (and_t (and_t (and_t (and_t (and_t (and_t (and_t (and_t (and_t (and_t j0 j1) j2) j3) j4) j5) j6) j7) j8) j9) j10) j11) j12) j13) j14) j15) j16) j17) j18) j19) j20) j21) j22) j23) j24) j25) j26) j27) j28) j29) j30) j31)

theorem said : Rows.SchedKnownSaid :=
  OpenClaim.holds_of_cond 5 Tryz.f5 rfl rfl rfl rfl rfl rfl rfl ⟨rfl, rfl, rfl, rfl, rfl⟩ rfl rfl rfl rfl rfl (by kernel_rfl) Tryz.func5 joined
    (of_decide_eq_true (by kernel_rfl)) (by unfold Func.isWrapper; first | (rw [if_pos (by decide +kernel)]; kernel_rfl) | (rw [if_neg (by decide +kernel)]; exact ⟨rfl, rfl⟩))
    (fun os started H enc _ F => by rw [OpenClaim.pre_eq_preRow]; exact lifted os started H enc F)

theorem plain (f : FuncId) (fn : Func) (hf : Tryz.pinned.checked.prog.funcNamed "gantline/gantlinelaw16.SchedKnown" = some f) (hfn : Tryz.pinned.checked.prog.funcs[f]? = some fn) :
    false = Tryz.pinned.checked.prog.looks [] ∧ ∀ (j : Nat) t, fn.params[j]? = some t → Tryz.pinned.checked.prog.wantsStandIn t = false := by
  obtain rfl : f = 5 := Option.some.inj ((show Tryz.prog.funcNamed "gantline/gantlinelaw16.SchedKnown" = some 5 by kernel_rfl).symm.trans hf) |>.symm
  obtain rfl : fn = Tryz.f5 := (Option.some.inj (Tryz.func5.symm.trans hfn)).symm
  refine ⟨by kernel_rfl, fun j t ht => ?_⟩
  have hall : (Tryz.f5.params.toList.all fun t => !Tryz.pinned.checked.prog.wantsStandIn t) = true := by kernel_rfl
  have hm := List.all_eq_true.1 hall t (by have := Array.mem_of_getElem? ht; simpa using this)
  simpa using hm
end Go.Proofs.YtdbmkdaoljbdoabGreatDoor.schedKnown
namespace Go.Proofs.YtdbmkdaoljbdoabGreatDoor
/-- The card. -/
theorem schedKnown_card : Rows.SchedKnownCardSaid :=
  Claim7.holds_tied_plain_at .later [] _ _ _ _ schedKnown.said (fun _ h => by cases h) (by kernel_rfl) (fun _ h => by cases h) schedKnown_row_tie rfl ⟨rfl, rfl⟩ (by kernel_rfl) rfl schedKnown.plain (by kernel_rfl)
end Go.Proofs.YtdbmkdaoljbdoabGreatDoor
