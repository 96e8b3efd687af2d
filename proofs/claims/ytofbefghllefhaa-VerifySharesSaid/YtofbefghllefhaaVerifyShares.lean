/- VerifyShares returns true, at every input; no condition. -/
import Derived.Test.YtofbefghllefhaaVerifySharesTab
import Derived.Test.YtofbefghllefhaaFa
namespace Go.Proofs.Ytofbefghllefhaa.verifyShares
open Go.Ab Go.Ab.F Go.ChangeShapes Go.WideShapes Go.ChangeAt Go.RowKit
set_option linter.all false
theorem awake : isTrue (k_law12_awake h0) = true := by kernel_rfl
attribute [local congr] c_bind c_cl c_mk c_lp c_clC c_gQ c_gV c_condE c_thenK
theorem run (b0 : Int) (b1 : Bool) (w0 : (Lit.int .i64 b0).wf = true) : isTrue (k_law12_VerifyShares (.int .i64 b0) (.bool b1) h0) = true := by
  by_cases h1 : b0 < 0
  · obtain ⟨g, hg⟩ := isTrue_some awake
    simp [k_law12_VerifyShares, hg, h1, isTrue]
  · by_cases h2 : 2 < b0
    · obtain ⟨g, hg⟩ := isTrue_some awake
      simp [k_law12_VerifyShares, hg, h1, h2, isTrue]
    · rcases (by omega : b0 = 0 ∨ b0 = 1 ∨ b0 = 2) with rfl | rfl | rfl <;> cases b1 <;> kernel_rfl

set_option maxRecDepth 100000 in
theorem contract (H : Type) (enc : TypeId × Value → H) (W : World) (base : Nat) (args : Array Value) (ds gs : List (DataW H)) (before : List MemPlace)
    (hval : ∀ (j : Nat) t v, Try.f12.params[j]? = some t → args[j]? = some v → Value.okWide Try.prog W .any base t v)
    (hW : DataW.Whole enc Try.prog Try.f12.params.toList Rows.verifySharesSpec.vars false W args.toList ds gs before) :
    Calls Try.prog 12 args W fun e W' => ∃ v, e = .returned v ∧ Rows.verifySharesSpec.post enc Try.prog Try.f12 false true false false W args v W' := by
  have hW' := hW
  obtain ⟨p, q, hA0, hV, rfl, hfz, hnd⟩ := hW
  have hA : DataW.TrodAll enc Try.prog W 0 (fun _ => true) true Try.f12.params.toList args.toList ds p := hA0
  rw [Try.params12] at hA hval
  obtain ⟨v0, vs0, d0, ds0, p0, q0, eargs0, rfl, rfl, hd0, hA⟩ := trodAll_cons hA
  obtain ⟨v1, vs1, d1, ds1, p1, q1, rfl, rfl, rfl, hd1, hA⟩ := trodAll_cons hA
  obtain ⟨rfl, rfl, rfl⟩ := trodAll_nil hA
  obtain rfl : args = #[v0, v1] := by cases args; simp_all
  obtain ⟨b0, rfl, rfl, rfl, w0⟩ := open_int Try.underlying3 (hval 0 3 _ (by simp) (by simp)) hd0
  obtain ⟨b1, rfl, rfl, rfl⟩ := open_bool Try.underlying4 (hval 1 4 _ (by simp) (by simp)) hd1
  obtain ⟨rfl, rfl⟩ := trodVars_none hV
  clear hA0
  obtain ⟨g, hg⟩ := isTrue_some (run b0 b1 w0)
  refine ((okTab 12 [.int .i64 b0, .bool b1] h0 _ g (by rw [look_law]; exact hg)).2 rho0 W #[.int .i64 b0, .bool b1] (rel0 W) (VRL.cons (by simp only [VR]) (VRL.cons (by simp only [VR]) VRL.nil))).mono ?_
  rintro e W' ⟨v', ρ', rfl, hv, hst⟩
  simp only [VR] at hv
  subst hv
  exact ⟨_, rfl, _, [], _, _, _, [], hW', trodAll_cons_mk (shut_bool Try.underlying4 _) trodAll_mk0, (trodAll_cons_mk (shut_int Try.underlying3 w0) (trodAll_cons_mk (shut_bool Try.underlying4 _) trodAll_mk0)), rfl, kept hst.keeps h0_ro _, fun h => by cases h⟩

theorem laid_met (os : Os) : laidMet Try.prog Rows.verifySharesRow.laid (((World.holding Try.prog os ⟨#[], #[], []⟩)).forCall (fun _ _ => 0) ⟨#[], (#[.int .i64 0, .bool false] : Array Value), []⟩).memory :=
  laidMet_of_run' 8 (by kernel_rfl) (by kernel_rfl)
theorem reads (os : Os) {H : Type} (enc : TypeId × Value → H) : ∃ places, DataW.whole enc Try.prog (((World.holding Try.prog os ⟨#[], #[], []⟩)).forCall (fun _ _ => 0) ⟨#[], (#[.int .i64 0, .bool false] : Array Value), []⟩).memory Try.f12.params.toList Rows.verifySharesSpec.vars false (#[.int .i64 0, .bool false] : Array Value).toList 8 = some ([.lit (.int .i64 0), .lit (.bool false)], [], places) :=
  ⟨[], by kernel_rfl⟩

set_option maxRecDepth 100000 in
theorem lifted (os : Os) (started : os.Started) (H : Type) (enc : TypeId × Value → H) (F : Stop.Interp) :
    ReturnsInHanded {} Try.checked os 12 .any ((OpenSpec.ofChange Rows.verifySharesSpec).preRow enc Try.prog Try.f12 Rows.verifySharesRow.domain false Rows.verifySharesRow.laid) (((OpenSpec.ofChange Rows.verifySharesSpec).at F).post enc Try.prog Try.f12 false true false false) := by
  obtain ⟨places, hx⟩ := reads os enc
  refine returnsInHanded_of_row (C := Try.checked) (s := OpenSpec.ofChange Rows.verifySharesSpec) own started (by kernel_rfl) Try.func12
    (witness_row_at (enc := enc) (C := Try.checked) false (World.holding Try.prog os ⟨#[], #[], []⟩) (#[.int .i64 0, .bool false] : Array Value) rfl (by kernel_rfl) (by kernel_rfl) (by kernel_rfl)
      (OpenSpec.preRow_of_cond 8 hx (by kernel_rfl) (fun k hk => by cases hk) (by kernel_rfl) (laid_met os))) ?_
  intro W base args ds gs before hval hW _ _ _ hL _ _
  exact contract H enc W base args ds gs before hval hW

theorem and_t {a b : Bool} (h : a = true) (h' : b = true) : (a && b) = true := by rw [h, h']; rfl
theorem j0 : (Rows.verifySharesRow.wf (OpenSpec.ofChange (OpenSpec.ofChange Rows.verifySharesSpec).bare)) = true := by kernel_rfl
theorem j1 : (laidOutB Try.pinned.checked.prog) = true := fa1
theorem j2 : (mapsRowed Try.pinned.checked.prog) = true := by kernel_rfl
theorem j3 : (Try.f12.params.all (Try.pinned.checked.prog.readableRec ·)) = true := by kernel_rfl
theorem j4 : (namedTie Try.pinned.checked.prog Rows.verifySharesRow.named (OpenSpec.ofChange Rows.verifySharesSpec).bare.vars) = true := by kernel_rfl
theorem j5 : ((Rows.verifySharesRow.stops == [])) = true := by kernel_rfl
theorem j6 : ((Try.pinned.checked.prog.stops == [])) = true := by kernel_rfl
theorem j7 : ((Rows.verifySharesRow.knobs == [])) = true := by kernel_rfl
theorem j8 : ((Try.pinned.checked.prog.stopKnobs == [])) = true := by kernel_rfl
theorem j9 : ((Rows.verifySharesRow.inPlace == Try.pinned.checked.prog.inPlace 12)) = true := by kernel_rfl
theorem j10 : ((Rows.verifySharesRow.unfollowed == Try.pinned.checked.prog.unfollowed 12)) = true := by kernel_rfl
theorem j11 : ((Rows.verifySharesRow.recurses == Try.pinned.checked.prog.recurses 12)) = true := by kernel_rfl
theorem j12 : ((Rows.verifySharesRow.named == Try.pinned.checked.prog.varsNamed 12)) = true := by kernel_rfl
theorem j13 : ((Rows.verifySharesRow.maps == (Try.f12.params.toList ++ (OpenSpec.ofChange Rows.verifySharesSpec).bare.plain.varTypes Try.pinned.checked.prog).any (Try.pinned.checked.prog.mapsRec ·))) = true := by kernel_rfl
theorem j14 : ((Rows.verifySharesRow.ifaces == (Try.f12.params.toList ++ (OpenSpec.ofChange Rows.verifySharesSpec).bare.plain.varTypes Try.pinned.checked.prog).any (Try.pinned.checked.prog.ifacesRec ·))) = true := by kernel_rfl
theorem j15 : ((Rows.verifySharesRow.mapsOut == Try.pinned.checked.prog.mapsAmong Try.f12.resultTypes.toList)) = true := by kernel_rfl
theorem j16 : ((Rows.verifySharesRow.loops == (Try.f12.params.toList ++ (OpenSpec.ofChange Rows.verifySharesSpec).bare.plain.varTypes Try.pinned.checked.prog).any (Try.pinned.checked.prog.loopsFrom ·))) = true := by kernel_rfl
theorem j17 : ((Rows.verifySharesRow.wideKeys == (Try.f12.params.toList ++ (OpenSpec.ofChange Rows.verifySharesSpec).bare.plain.varTypes Try.pinned.checked.prog ++ Try.f12.resultTypes.toList).any (Try.pinned.checked.prog.wideKeysFrom ·))) = true := by kernel_rfl
theorem j18 : ((OpenSpec.ofChange Rows.verifySharesSpec).bare.vars.all (Try.pinned.checked.prog.varReadable ·)) = true := by kernel_rfl
theorem j19 : (Try.f12.resultTypes.all (fun t => Try.pinned.checked.prog.readableRec t && decide (t < Try.pinned.checked.prog.types.size))) = true := by kernel_rfl
theorem j20 : ((Rows.verifySharesRow.ifacesOut == Try.f12.resultTypes.toList.any (Try.pinned.checked.prog.ifacesRec ·))) = true := by kernel_rfl
theorem j21 : ((Rows.verifySharesRow.loopsOut == Try.f12.resultTypes.toList.any (Try.pinned.checked.prog.loopsFrom ·))) = true := by kernel_rfl
theorem j22 : ((Rows.verifySharesRow.plainKeys == Try.pinned.checked.prog.plainKeys)) = true := by kernel_rfl
theorem j23 : (Rows.verifySharesRow.shortTexts.isNone) = true := by kernel_rfl
theorem j24 : (Try.pinned.checked.prog.stopsHeard) = true := by kernel_rfl
theorem j25 : (Try.pinned.checked.prog.mayEnter) = true := fa25
theorem j26 : ((Rows.verifySharesRow.lifted == Try.pinned.checked.prog.liftsFinal)) = true := by rw [fa26]; kernel_rfl
theorem j27 : ((Try.pinned.checked.prog.make == some Rows.verifySharesRow.make)) = true := by rw [fa27]; kernel_rfl
theorem j28 : ((Rows.verifySharesRow.kinds == (if Rows.verifySharesRow.domain.isEmpty then [] else Try.f12.params.toList.map fun t => match Try.pinned.checked.prog.underlying t with | some (.int k) => some k | _ => none))) = true := by kernel_rfl
theorem j29 : ((Rows.verifySharesRow.pinned == Rows.verifySharesRow.pinnedBy)) = true := by kernel_rfl
theorem j30 : ((Rows.verifySharesRow.veiled == (Try.f12.params.toList ++ (OpenSpec.ofChange Rows.verifySharesSpec).bare.plain.varTypes Try.pinned.checked.prog ++ Try.f12.resultTypes.toList).any (Try.pinned.checked.prog.veiledRec ·))) = true := by kernel_rfl
theorem j31 : (Rows.verifySharesRow.veiledFits Try.pinned.checked.prog Try.f12.params.toList (Try.f12.params.toList ++ (OpenSpec.ofChange Rows.verifySharesSpec).bare.plain.varTypes Try.pinned.checked.prog ++ Try.f12.resultTypes.toList)) = true := by kernel_rfl
set_option maxRecDepth 100000 in
theorem joined : joinedFacts Try.pinned.checked.prog 12 Try.f12 (OpenSpec.ofChange Rows.verifySharesSpec).bare Rows.verifySharesRow = true := (and_t (and_t (and_t (and_t (and_t (and_t (and_t (and_t (and_t (and_t (and_t (and_t (and_t (and_t (and_t (and_t (and_t (and_t (and_t (and_t (and_t (and_t (and_t (and_t (and_t (and_t (and_t (and_t (and_t (and_t (and_t j0 j1) j2) j3) j4) j5) j6) j7) j8) j9) j10) j11) j12) j13) j14) j15) j16) j17) j18) j19) j20) j21) j22) j23) j24) j25) j26) j27) j28) j29) j30) j31)

theorem said : Rows.VerifySharesSaid :=
  OpenClaim.holds_of_cond 12 Try.f12 rfl rfl rfl rfl rfl rfl rfl ⟨rfl, rfl, rfl, rfl, rfl⟩ rfl rfl rfl rfl rfl (by kernel_rfl) Try.func12 joined
    (of_decide_eq_true (by kernel_rfl)) (by unfold Func.isWrapper; first | (rw [if_pos (by decide +kernel)]; kernel_rfl) | (rw [if_neg (by decide +kernel)]; exact ⟨rfl, rfl⟩))
    (fun os started H enc _ F => by rw [OpenClaim.pre_eq_preRow]; exact lifted os started H enc F)
end Go.Proofs.Ytofbefghllefhaa.verifyShares
namespace Go.Proofs.Ytofbefghllefhaa
/-- The row. -/
theorem verifyShares_holds : Rows.VerifySharesSaid := verifyShares.said
end Go.Proofs.Ytofbefghllefhaa
