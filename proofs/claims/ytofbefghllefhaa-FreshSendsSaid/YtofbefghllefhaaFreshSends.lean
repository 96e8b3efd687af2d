/- FreshSends returns true, at every input; no condition. -/
import Derived.Test.YtofbefghllefhaaFreshSendsTab
import Derived.Test.YtofbefghllefhaaFa
namespace Go.Proofs.Ytofbefghllefhaa.freshSends
open Go.Ab Go.Ab.F Go.ChangeShapes Go.WideShapes Go.ChangeAt Go.RowKit
set_option linter.all false
theorem awake : isTrue (k_law11_awake h0) = true := by kernel_rfl
attribute [local congr] c_bind c_cl c_mk c_lp c_clC c_gQ c_gV c_condE c_thenK
theorem run (b0 : Int) (b1 : Bool) (w0 : (Lit.int .i64 b0).wf = true) : isTrue (k_law11_FreshSends (.int .i64 b0) (.bool b1) h0) = true := by
  by_cases h1 : b0 < 0
  · obtain ⟨g, hg⟩ := isTrue_some awake
    simp [k_law11_FreshSends, hg, h1, isTrue]
  · by_cases h2 : 5 < b0
    · obtain ⟨g, hg⟩ := isTrue_some awake
      simp [k_law11_FreshSends, hg, h1, h2, isTrue]
    · rcases (by omega : b0 = 0 ∨ b0 = 1 ∨ b0 = 2 ∨ b0 = 3 ∨ b0 = 4 ∨ b0 = 5) with rfl | rfl | rfl | rfl | rfl | rfl <;> cases b1 <;> kernel_rfl

set_option maxRecDepth 100000 in
theorem contract (H : Type) (enc : TypeId × Value → H) (W : World) (base : Nat) (args : Array Value) (ds gs : List (DataW H)) (before : List MemPlace)
    (hval : ∀ (j : Nat) t v, Try.f10.params[j]? = some t → args[j]? = some v → Value.okWide Try.prog W .any base t v)
    (hW : DataW.Whole enc Try.prog Try.f10.params.toList Rows.freshSendsSpec.vars false W args.toList ds gs before) :
    Calls Try.prog 10 args W fun e W' => ∃ v, e = .returned v ∧ Rows.freshSendsSpec.post enc Try.prog Try.f10 false true false false W args v W' := by
  have hW' := hW
  obtain ⟨p, q, hA0, hV, rfl, hfz, hnd⟩ := hW
  have hA : DataW.TrodAll enc Try.prog W 0 (fun _ => true) true Try.f10.params.toList args.toList ds p := hA0
  rw [Try.params10] at hA hval
  obtain ⟨v0, vs0, d0, ds0, p0, q0, eargs0, rfl, rfl, hd0, hA⟩ := trodAll_cons hA
  obtain ⟨v1, vs1, d1, ds1, p1, q1, rfl, rfl, rfl, hd1, hA⟩ := trodAll_cons hA
  obtain ⟨rfl, rfl, rfl⟩ := trodAll_nil hA
  obtain rfl : args = #[v0, v1] := by cases args; simp_all
  obtain ⟨b0, rfl, rfl, rfl, w0⟩ := open_int Try.underlying3 (hval 0 3 _ (by simp) (by simp)) hd0
  obtain ⟨b1, rfl, rfl, rfl⟩ := open_bool Try.underlying4 (hval 1 4 _ (by simp) (by simp)) hd1
  obtain ⟨rfl, rfl⟩ := trodVars_none hV
  clear hA0
  obtain ⟨g, hg⟩ := isTrue_some (run b0 b1 w0)
  refine ((okTab 10 [.int .i64 b0, .bool b1] h0 _ g (by rw [look_law]; exact hg)).2 rho0 W #[.int .i64 b0, .bool b1] (rel0 W) (VRL.cons (by simp only [VR]) (VRL.cons (by simp only [VR]) VRL.nil))).mono ?_
  rintro e W' ⟨v', ρ', rfl, hv, hst⟩
  simp only [VR] at hv
  subst hv
  exact ⟨_, rfl, _, [], _, _, _, [], hW', trodAll_cons_mk (shut_bool Try.underlying4 _) trodAll_mk0, (trodAll_cons_mk (shut_int Try.underlying3 w0) (trodAll_cons_mk (shut_bool Try.underlying4 _) trodAll_mk0)), rfl, kept hst.keeps h0_ro _, fun h => by cases h⟩

theorem laid_met (os : Os) : laidMet Try.prog Rows.freshSendsRow.laid (((World.holding Try.prog os ⟨#[], #[], []⟩)).forCall (fun _ _ => 0) ⟨#[], (#[.int .i64 0, .bool false] : Array Value), []⟩).memory :=
  laidMet_of_run' 8 (by kernel_rfl) (by kernel_rfl)
theorem reads (os : Os) {H : Type} (enc : TypeId × Value → H) : ∃ places, DataW.whole enc Try.prog (((World.holding Try.prog os ⟨#[], #[], []⟩)).forCall (fun _ _ => 0) ⟨#[], (#[.int .i64 0, .bool false] : Array Value), []⟩).memory Try.f10.params.toList Rows.freshSendsSpec.vars false (#[.int .i64 0, .bool false] : Array Value).toList 8 = some ([.lit (.int .i64 0), .lit (.bool false)], [], places) :=
  ⟨[], by kernel_rfl⟩

set_option maxRecDepth 100000 in
theorem lifted (os : Os) (started : os.Started) (H : Type) (enc : TypeId × Value → H) (F : Stop.Interp) :
    ReturnsInHanded {} Try.checked os 10 .any ((OpenSpec.ofChange Rows.freshSendsSpec).preRow enc Try.prog Try.f10 Rows.freshSendsRow.domain false Rows.freshSendsRow.laid) (((OpenSpec.ofChange Rows.freshSendsSpec).at F).post enc Try.prog Try.f10 false true false false) := by
  obtain ⟨places, hx⟩ := reads os enc
  refine returnsInHanded_of_row (C := Try.checked) (s := OpenSpec.ofChange Rows.freshSendsSpec) own started (by kernel_rfl) Try.func10
    (witness_row_at (enc := enc) (C := Try.checked) false (World.holding Try.prog os ⟨#[], #[], []⟩) (#[.int .i64 0, .bool false] : Array Value) rfl (by kernel_rfl) (by kernel_rfl) (by kernel_rfl)
      (OpenSpec.preRow_of_cond 8 hx (by kernel_rfl) (fun k hk => by cases hk) (by kernel_rfl) (laid_met os))) ?_
  intro W base args ds gs before hval hW _ _ _ hL _ _
  exact contract H enc W base args ds gs before hval hW

theorem and_t {a b : Bool} (h : a = true) (h' : b = true) : (a && b) = true := by rw [h, h']; rfl
theorem j0 : (Rows.freshSendsRow.wf (OpenSpec.ofChange (OpenSpec.ofChange Rows.freshSendsSpec).bare)) = true := by kernel_rfl
theorem j1 : (laidOutB Try.pinned.checked.prog) = true := fa1
theorem j2 : (mapsRowed Try.pinned.checked.prog) = true := by kernel_rfl
theorem j3 : (Try.f10.params.all (Try.pinned.checked.prog.readableRec ·)) = true := by kernel_rfl
theorem j4 : (namedTie Try.pinned.checked.prog Rows.freshSendsRow.named (OpenSpec.ofChange Rows.freshSendsSpec).bare.vars) = true := by kernel_rfl
theorem j5 : ((Rows.freshSendsRow.stops == [])) = true := by kernel_rfl
theorem j6 : ((Try.pinned.checked.prog.stops == [])) = true := by kernel_rfl
theorem j7 : ((Rows.freshSendsRow.knobs == [])) = true := by kernel_rfl
theorem j8 : ((Try.pinned.checked.prog.stopKnobs == [])) = true := by kernel_rfl
theorem j9 : ((Rows.freshSendsRow.inPlace == Try.pinned.checked.prog.inPlace 10)) = true := by kernel_rfl
theorem j10 : ((Rows.freshSendsRow.unfollowed == Try.pinned.checked.prog.unfollowed 10)) = true := by kernel_rfl
theorem j11 : ((Rows.freshSendsRow.recurses == Try.pinned.checked.prog.recurses 10)) = true := by kernel_rfl
theorem j12 : ((Rows.freshSendsRow.named == Try.pinned.checked.prog.varsNamed 10)) = true := by kernel_rfl
theorem j13 : ((Rows.freshSendsRow.maps == (Try.f10.params.toList ++ (OpenSpec.ofChange Rows.freshSendsSpec).bare.plain.varTypes Try.pinned.checked.prog).any (Try.pinned.checked.prog.mapsRec ·))) = true := by kernel_rfl
theorem j14 : ((Rows.freshSendsRow.ifaces == (Try.f10.params.toList ++ (OpenSpec.ofChange Rows.freshSendsSpec).bare.plain.varTypes Try.pinned.checked.prog).any (Try.pinned.checked.prog.ifacesRec ·))) = true := by kernel_rfl
theorem j15 : ((Rows.freshSendsRow.mapsOut == Try.pinned.checked.prog.mapsAmong Try.f10.resultTypes.toList)) = true := by kernel_rfl
theorem j16 : ((Rows.freshSendsRow.loops == (Try.f10.params.toList ++ (OpenSpec.ofChange Rows.freshSendsSpec).bare.plain.varTypes Try.pinned.checked.prog).any (Try.pinned.checked.prog.loopsFrom ·))) = true := by kernel_rfl
theorem j17 : ((Rows.freshSendsRow.wideKeys == (Try.f10.params.toList ++ (OpenSpec.ofChange Rows.freshSendsSpec).bare.plain.varTypes Try.pinned.checked.prog ++ Try.f10.resultTypes.toList).any (Try.pinned.checked.prog.wideKeysFrom ·))) = true := by kernel_rfl
theorem j18 : ((OpenSpec.ofChange Rows.freshSendsSpec).bare.vars.all (Try.pinned.checked.prog.varReadable ·)) = true := by kernel_rfl
theorem j19 : (Try.f10.resultTypes.all (fun t => Try.pinned.checked.prog.readableRec t && decide (t < Try.pinned.checked.prog.types.size))) = true := by kernel_rfl
theorem j20 : ((Rows.freshSendsRow.ifacesOut == Try.f10.resultTypes.toList.any (Try.pinned.checked.prog.ifacesRec ·))) = true := by kernel_rfl
theorem j21 : ((Rows.freshSendsRow.loopsOut == Try.f10.resultTypes.toList.any (Try.pinned.checked.prog.loopsFrom ·))) = true := by kernel_rfl
theorem j22 : ((Rows.freshSendsRow.plainKeys == Try.pinned.checked.prog.plainKeys)) = true := by kernel_rfl
theorem j23 : (Rows.freshSendsRow.shortTexts.isNone) = true := by kernel_rfl
theorem j24 : (Try.pinned.checked.prog.stopsHeard) = true := by kernel_rfl
theorem j25 : (Try.pinned.checked.prog.mayEnter) = true := fa25
theorem j26 : ((Rows.freshSendsRow.lifted == Try.pinned.checked.prog.liftsFinal)) = true := by rw [fa26]; kernel_rfl
theorem j27 : ((Try.pinned.checked.prog.make == some Rows.freshSendsRow.make)) = true := by rw [fa27]; kernel_rfl
theorem j28 : ((Rows.freshSendsRow.kinds == (if Rows.freshSendsRow.domain.isEmpty then [] else Try.f10.params.toList.map fun t => match Try.pinned.checked.prog.underlying t with | some (.int k) => some k | _ => none))) = true := by kernel_rfl
theorem j29 : ((Rows.freshSendsRow.pinned == Rows.freshSendsRow.pinnedBy)) = true := by kernel_rfl
theorem j30 : ((Rows.freshSendsRow.veiled == (Try.f10.params.toList ++ (OpenSpec.ofChange Rows.freshSendsSpec).bare.plain.varTypes Try.pinned.checked.prog ++ Try.f10.resultTypes.toList).any (Try.pinned.checked.prog.veiledRec ·))) = true := by kernel_rfl
theorem j31 : (Rows.freshSendsRow.veiledFits Try.pinned.checked.prog Try.f10.params.toList (Try.f10.params.toList ++ (OpenSpec.ofChange Rows.freshSendsSpec).bare.plain.varTypes Try.pinned.checked.prog ++ Try.f10.resultTypes.toList)) = true := by kernel_rfl
set_option maxRecDepth 100000 in
theorem joined : joinedFacts Try.pinned.checked.prog 10 Try.f10 (OpenSpec.ofChange Rows.freshSendsSpec).bare Rows.freshSendsRow = true := (and_t (and_t (and_t (and_t (and_t (and_t (and_t (and_t (and_t (and_t (and_t (and_t (and_t (and_t (and_t (and_t (and_t (and_t (and_t (and_t (and_t (and_t (and_t (and_t (and_t (and_t (and_t (and_t (and_t (and_t (and_t j0 j1) j2) j3) j4) j5) j6) j7) j8) j9) j10) j11) j12) j13) j14) j15) j16) j17) j18) j19) j20) j21) j22) j23) j24) j25) j26) j27) j28) j29) j30) j31)

theorem said : Rows.FreshSendsSaid :=
  OpenClaim.holds_of_cond 10 Try.f10 rfl rfl rfl rfl rfl rfl rfl ⟨rfl, rfl, rfl, rfl, rfl⟩ rfl rfl rfl rfl rfl (by kernel_rfl) Try.func10 joined
    (of_decide_eq_true (by kernel_rfl)) (by unfold Func.isWrapper; first | (rw [if_pos (by decide +kernel)]; kernel_rfl) | (rw [if_neg (by decide +kernel)]; exact ⟨rfl, rfl⟩))
    (fun os started H enc _ F => by rw [OpenClaim.pre_eq_preRow]; exact lifted os started H enc F)
end Go.Proofs.Ytofbefghllefhaa.freshSends
namespace Go.Proofs.Ytofbefghllefhaa
/-- The row. -/
theorem freshSends_holds : Rows.FreshSendsSaid := freshSends.said
end Go.Proofs.Ytofbefghllefhaa
