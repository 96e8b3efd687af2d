/- FreshPoints returns true, at every input; no condition. -/
import Derived.Test.YtokefidnmopedaaQuTab
import Derived.Test.YtokefidnmopedaaFa
import Derived.Test.YtokefidnmopedaaFrs
import Derived.Test.YtokefidnmopedaaKit
namespace Go.Proofs.Ytokefidnmopedaa.freshPoints
open Go.Ab Go.Ab.F Go.ChangeShapes Go.WideShapes Go.ChangeAt Go.RowKit
set_option linter.all false
open Go.Proofs.Ytokefidnmopedaa.qu
def tys : List Ty := [(.st [(.sl (.st [(.int .i64), (.int .i64), (.int .u64)])), (.sl .bool), (.sl (.int .i64)), (.sl (.st [(.int .i64), (.int .i64), (.int .i64), (.int .i64)])), (.sl (.st [(.int .i64), (.int .i64), (.int .i64), (.int .i64), (.sl .bool), (.sl (.st [(.int .i64), (.int .i64), (.int .i64), (.int .i64), (.int .i64)])), (.sl (.int .u64))])), (.int .i64)]), (.st [(.int .i64), (.int .i64), (.int .i64), (.int .i64), (.sl .bool), (.sl (.st [(.int .i64), (.int .i64), (.int .i64), (.int .i64), (.int .i64)])), (.sl (.int .u64))])]
theorem look_law (avs : List AV) (h : Heap) : lookT tab 7 avs h = p2 k_law11_FreshPoints avs h := by kernel_rfl
theorem isTrue_ok {x : Option (AV × Heap)} (h : Ok x fun r => r.1 = .bool true) : isTrue x = true := by
  obtain ⟨⟨v, g⟩, rfl, e⟩ := h
  simp only at e
  subst e; rfl
theorem args_step {h : Heap} {τ : Ty} {τs : List Ty} {xs : List D} {avs : List AV} (ha : Args h (τ :: τs) xs avs) : ∃ x vs xs' avs', avs = argAV τ vs :: avs' ∧ Rep h τ x vs ∧ vs.length = τ.size ∧ Args h τs xs' avs' := by
  cases xs with
  | nil => cases avs <;> simp [Args] at ha
  | cons x xs =>
    cases avs with
    | nil => simp [Args] at ha
    | cons a avs =>
      simp only [Args] at ha
      obtain ⟨⟨vs, h1, h2, rfl⟩, h3⟩ := ha
      exact ⟨x, vs, xs, avs, rfl, h1, h2, h3⟩
theorem fns_len {h : Heap} {v : AV} {m : Md} (H : MdRd h v m) (hz : ∀ l p n c, v = .agg l → l[4]? = some (.sl p n c) → n * 104 ≤ 140737488351232) : (1 + m.funcs.length) * 104 ≤ 2 ^ 47 := by
  obtain ⟨sv, gv, kv, cv, fv, rfl, _, _, _, _, ⟨rows, ⟨cs, R, _⟩, hlen, _⟩, _⟩ := H
  rcases R.eq with ⟨_, h0⟩ | ⟨b, o, c, rfl, _⟩
  · rw [← hlen, h0]; decide
  · have := hz _ _ _ _ rfl rfl
    omega
theorem run (h : Heap) (xs : List D) (avs : List AV) (ha : Args h tys xs avs) (hs : Sub hQ0 h) (hn : 0 ≤ h.next) (hz : ∀ l p n c, avs[0]? = some (.agg l) → l[4]? = some (.sl p n c) → n * 104 ≤ 140737488351232) : isTrue (p2 k_law11_FreshPoints avs h) = true := by
  obtain ⟨x0, v0, xs, avs, rfl, r0, l0, ha⟩ := args_step ha
  obtain ⟨x1, v1, xs, avs, rfl, r1, l1, ha⟩ := args_step ha
  obtain rfl := ha.shut
  obtain ⟨m, H⟩ := rep_md l0 r0
  obtain ⟨f, e1, G⟩ := rep_fn' l1 r1
  have hlen := fns_len H fun l p n c e1 e2 => hz l p n c (by rw [← e1]; rfl) e2
  have e1' : argAV fnTy v1 = .agg v1 := e1
  exact isTrue_ok (freshPoints_ok H G hlen fun g s => quiet_pos fun i b hb => by cases hb)

set_option maxRecDepth 100000 in
theorem contract (H : Type) (enc : TypeId × Value → H) (W : World) (base : Nat) (args : Array Value) (ds gs : List (DataW H)) (before : List MemPlace)
    (hval : ∀ (j : Nat) t v, Try.f7.params[j]? = some t → args[j]? = some v → Value.okWide Try.prog W .any base t v)
    (hW : DataW.Whole enc Try.prog Try.f7.params.toList Rows.freshPointsSpec.vars false W args.toList ds gs before) (hz : (DataW.weightsEach Try.prog (Try.f7.params.toList ++ (OpenSpec.ofChange Rows.freshPointsSpec).bare.plain.varTypes Try.prog) (ds ++ gs)).all (· ≤ reachBytes) = true) :
    Calls Try.prog 7 args W fun e W' => ∃ v, e = .returned v ∧ Rows.freshPointsSpec.post enc Try.prog Try.f7 false true false false W args v W' := by
  have hW' := hW
  obtain ⟨p, q, hA, hV, rfl, hfz, hnd⟩ := hW
  obtain ⟨rfl, rfl⟩ := trodVars_none hV
  obtain ⟨ρ', h', xs, avs, e, ha, hv⟩ := args_of (base := base) tys Try.f7.params.toList args.toList ds p (by kernel_rfl) hA (fun j t v hj hv => hval j t v (by simpa using hj) (by simpa using hv)) rho0 h0 (rel0 W) h0_ro
  have hsub : Sub hQ0 h' := fun i b hi => by
    have hlt : i < h0.next := by cases hi
    rw [e.get i hlt]; exact hi
  have hbt : Try.prog.bytesOf 32 = 104 := by kernel_rfl
  have hzz : ∀ l p n c, avs[0]? = some (.agg l) → l[4]? = some (.sl p n c) → n * 104 ≤ 140737488351232 := fun l p n c h1 h2 => by
    have h3 := arg_len hA hz hv (j := 0) (t := 28) (by kernel_rfl) Try.underlying28 (k := 4) rfl Try.underlying26 (by kernel_rfl) h1 h2
    rw [hbt] at h3; exact h3
  obtain ⟨g, hg⟩ := isTrue_some (run h' xs avs ha hsub e.next hzz)
  obtain ⟨l1, l2⟩ := trodAll_len hA
  have l1 : ds.length = 2 := l1.trans (by kernel_rfl)
  have hlt : ∀ x ∈ p, x.block < W.heap.size := fun x hx => hA.lt x hx
  refine ((okTab 7 avs h' _ g (by rw [look_law]; exact hg)).2 ρ' W args e.rel hv).mono ?_
  rintro e' W' ⟨v', ρ'', rfl, hv', hst⟩
  simp only [VR] at hv'
  subst hv'
  have hb := trodAll_below fa1 (below_of hst.keeps e.ro) _ _ _ _ (by kernel_rfl) hA hlt
  rcases ds with _ | ⟨d0, _ | ⟨d1, _ | ⟨x, r⟩⟩⟩ <;> simp at l1
  exact ⟨_, rfl, _, [], _, _, _, [], hW', trodAll_cons_mk (shut_bool Try.underlying4 _) trodAll_mk0, hb, rfl, kept hst.keeps e.ro _, fun h => by cases h⟩

theorem laid_met (os : Os) : laidMet Try.prog Rows.freshPointsRow.laid (((World.holding Try.prog os ⟨#[], #[], []⟩)).forCall (fun _ _ => 0) ⟨#[], (#[.agg #[.slice none 0 0, .slice none 0 0, .slice none 0 0, .slice none 0 0, .slice none 0 0, .int .i64 0], .agg #[.int .i64 0, .int .i64 0, .int .i64 0, .int .i64 0, .slice none 0 0, .slice none 0 0, .slice none 0 0]] : Array Value), []⟩).memory :=
  laidMet_of_run' 8 (by kernel_rfl) (by kernel_rfl)
theorem reads (os : Os) {H : Type} (enc : TypeId × Value → H) : ∃ places, DataW.whole enc Try.prog (((World.holding Try.prog os ⟨#[], #[], []⟩)).forCall (fun _ _ => 0) ⟨#[], (#[.agg #[.slice none 0 0, .slice none 0 0, .slice none 0 0, .slice none 0 0, .slice none 0 0, .int .i64 0], .agg #[.int .i64 0, .int .i64 0, .int .i64 0, .int .i64 0, .slice none 0 0, .slice none 0 0, .slice none 0 0]] : Array Value), []⟩).memory Try.f7.params.toList Rows.freshPointsSpec.vars false (#[.agg #[.slice none 0 0, .slice none 0 0, .slice none 0 0, .slice none 0 0, .slice none 0 0, .int .i64 0], .agg #[.int .i64 0, .int .i64 0, .int .i64 0, .int .i64 0, .slice none 0 0, .slice none 0 0, .slice none 0 0]] : Array Value).toList 8 = some ([.agg [.nil, .nil, .nil, .nil, .nil, .lit (.int .i64 0)], .agg [.lit (.int .i64 0), .lit (.int .i64 0), .lit (.int .i64 0), .lit (.int .i64 0), .nil, .nil, .nil]], [], places) :=
  ⟨[], by kernel_rfl⟩

set_option maxRecDepth 100000 in
theorem lifted (os : Os) (started : os.Started) (H : Type) (enc : TypeId × Value → H) (F : Stop.Interp) :
    ReturnsInHanded {} Try.checked os 7 .any ((OpenSpec.ofChange Rows.freshPointsSpec).preRow enc Try.prog Try.f7 Rows.freshPointsRow.domain false Rows.freshPointsRow.laid) (((OpenSpec.ofChange Rows.freshPointsSpec).at F).post enc Try.prog Try.f7 false true false false) := by
  obtain ⟨places, hx⟩ := reads os enc
  refine returnsInHanded_of_row (C := Try.checked) (s := OpenSpec.ofChange Rows.freshPointsSpec) own started (by kernel_rfl) Try.func7
    (witness_row_at (enc := enc) (C := Try.checked) false (World.holding Try.prog os ⟨#[], #[], []⟩) (#[.agg #[.slice none 0 0, .slice none 0 0, .slice none 0 0, .slice none 0 0, .slice none 0 0, .int .i64 0], .agg #[.int .i64 0, .int .i64 0, .int .i64 0, .int .i64 0, .slice none 0 0, .slice none 0 0, .slice none 0 0]] : Array Value) rfl (by kernel_rfl) (by kernel_rfl) (by kernel_rfl)
      (OpenSpec.preRow_of_cond 8 hx (by kernel_rfl) (fun k hk => by cases hk) (by kernel_rfl) (laid_met os))) ?_
  intro W base args ds gs before hval hW _ _ hz hL _ _
  exact contract H enc W base args ds gs before hval hW hz

theorem and_t {a b : Bool} (h : a = true) (h' : b = true) : (a && b) = true := by rw [h, h']; rfl
theorem j0 : (Rows.freshPointsRow.wf (OpenSpec.ofChange (OpenSpec.ofChange Rows.freshPointsSpec).bare)) = true := by kernel_rfl
theorem j1 : (laidOutB Try.pinned.checked.prog) = true := fa1
theorem j2 : (mapsRowed Try.pinned.checked.prog) = true := by kernel_rfl
theorem j3 : (Try.f7.params.all (Try.pinned.checked.prog.readableRec ·)) = true := by kernel_rfl
theorem j4 : (namedTie Try.pinned.checked.prog Rows.freshPointsRow.named (OpenSpec.ofChange Rows.freshPointsSpec).bare.vars) = true := by kernel_rfl
theorem j5 : ((Rows.freshPointsRow.stops == [])) = true := by kernel_rfl
theorem j6 : ((Try.pinned.checked.prog.stops == [])) = true := by kernel_rfl
theorem j7 : ((Rows.freshPointsRow.knobs == [])) = true := by kernel_rfl
theorem j8 : ((Try.pinned.checked.prog.stopKnobs == [])) = true := by kernel_rfl
theorem j9 : ((Rows.freshPointsRow.inPlace == Try.pinned.checked.prog.inPlace 7)) = true := by kernel_rfl
theorem j10 : ((Rows.freshPointsRow.unfollowed == Try.pinned.checked.prog.unfollowed 7)) = true := by kernel_rfl
theorem j11 : ((Rows.freshPointsRow.recurses == Try.pinned.checked.prog.recurses 7)) = true := by kernel_rfl
theorem j12 : ((Rows.freshPointsRow.named == Try.pinned.checked.prog.varsNamed 7)) = true := by kernel_rfl
theorem j13 : ((Rows.freshPointsRow.maps == (Try.f7.params.toList ++ (OpenSpec.ofChange Rows.freshPointsSpec).bare.plain.varTypes Try.pinned.checked.prog).any (Try.pinned.checked.prog.mapsRec ·))) = true := by kernel_rfl
theorem j14 : ((Rows.freshPointsRow.ifaces == (Try.f7.params.toList ++ (OpenSpec.ofChange Rows.freshPointsSpec).bare.plain.varTypes Try.pinned.checked.prog).any (Try.pinned.checked.prog.ifacesRec ·))) = true := by kernel_rfl
theorem j15 : ((Rows.freshPointsRow.mapsOut == Try.pinned.checked.prog.mapsAmong Try.f7.resultTypes.toList)) = true := by kernel_rfl
theorem j16 : ((Rows.freshPointsRow.loops == (Try.f7.params.toList ++ (OpenSpec.ofChange Rows.freshPointsSpec).bare.plain.varTypes Try.pinned.checked.prog).any (Try.pinned.checked.prog.loopsFrom ·))) = true := by kernel_rfl
theorem j17 : ((Rows.freshPointsRow.wideKeys == (Try.f7.params.toList ++ (OpenSpec.ofChange Rows.freshPointsSpec).bare.plain.varTypes Try.pinned.checked.prog ++ Try.f7.resultTypes.toList).any (Try.pinned.checked.prog.wideKeysFrom ·))) = true := by kernel_rfl
theorem j18 : ((OpenSpec.ofChange Rows.freshPointsSpec).bare.vars.all (Try.pinned.checked.prog.varReadable ·)) = true := by kernel_rfl
theorem j19 : (Try.f7.resultTypes.all (fun t => Try.pinned.checked.prog.readableRec t && decide (t < Try.pinned.checked.prog.types.size))) = true := by kernel_rfl
theorem j20 : ((Rows.freshPointsRow.ifacesOut == Try.f7.resultTypes.toList.any (Try.pinned.checked.prog.ifacesRec ·))) = true := by kernel_rfl
theorem j21 : ((Rows.freshPointsRow.loopsOut == Try.f7.resultTypes.toList.any (Try.pinned.checked.prog.loopsFrom ·))) = true := by kernel_rfl
theorem j22 : ((Rows.freshPointsRow.plainKeys == Try.pinned.checked.prog.plainKeys)) = true := by kernel_rfl
theorem j23 : (Rows.freshPointsRow.shortTexts.isNone) = true := by kernel_rfl
theorem j24 : (Try.pinned.checked.prog.stopsHeard) = true := by kernel_rfl
theorem j25 : (Try.pinned.checked.prog.mayEnter) = true := fa25
theorem j26 : ((Rows.freshPointsRow.lifted == Try.pinned.checked.prog.liftsFinal)) = true := by rw [fa26]; kernel_rfl
theorem j27 : ((Try.pinned.checked.prog.make == some Rows.freshPointsRow.make)) = true := by rw [fa27]; kernel_rfl
theorem j28 : ((Rows.freshPointsRow.kinds == (if Rows.freshPointsRow.domain.isEmpty then [] else Try.f7.params.toList.map fun t => match Try.pinned.checked.prog.underlying t with | some (.int k) => some k | _ => none))) = true := by kernel_rfl
theorem j29 : ((Rows.freshPointsRow.pinned == Rows.freshPointsRow.pinnedBy)) = true := by kernel_rfl
theorem j30 : ((Rows.freshPointsRow.veiled == (Try.f7.params.toList ++ (OpenSpec.ofChange Rows.freshPointsSpec).bare.plain.varTypes Try.pinned.checked.prog ++ Try.f7.resultTypes.toList).any (Try.pinned.checked.prog.veiledRec ·))) = true := by kernel_rfl
theorem j31 : (Rows.freshPointsRow.veiledFits Try.pinned.checked.prog Try.f7.params.toList (Try.f7.params.toList ++ (OpenSpec.ofChange Rows.freshPointsSpec).bare.plain.varTypes Try.pinned.checked.prog ++ Try.f7.resultTypes.toList)) = true := by kernel_rfl
set_option maxRecDepth 100000 in
theorem joined : joinedFacts Try.pinned.checked.prog 7 Try.f7 (OpenSpec.ofChange Rows.freshPointsSpec).bare Rows.freshPointsRow = true := (and_t (and_t (and_t (and_t (and_t (and_t (and_t (and_t (and_t (and_t (and_t (and_t (and_t (and_t (and_t (and_t (and_t (and_t (and_t (and_t (and_t (and_t (and_t (and_t (and_t (and_t (and_t (and_t (and_t (and_t (and_t j0 j1) j2) j3) j4) j5) j6) j7) j8) j9) j10) j11) j12) j13) j14) j15) j16) j17) j18) j19) j20) j21) j22) j23) j24) j25) j26) j27) j28) j29) j30) j31)

theorem said : Rows.FreshPointsSaid :=
  OpenClaim.holds_of_cond 7 Try.f7 rfl rfl rfl rfl rfl rfl rfl ⟨rfl, rfl, rfl, rfl, rfl⟩ rfl rfl rfl rfl rfl (by kernel_rfl) Try.func7 joined
    (of_decide_eq_true (by kernel_rfl)) (by unfold Func.isWrapper; first | (rw [if_pos (by decide +kernel)]; kernel_rfl) | (rw [if_neg (by decide +kernel)]; exact ⟨rfl, rfl⟩))
    (fun os started H enc _ F => by rw [OpenClaim.pre_eq_preRow]; exact lifted os started H enc F)
end Go.Proofs.Ytokefidnmopedaa.freshPoints
namespace Go.Proofs.Ytokefidnmopedaa
/-- The row. -/
theorem freshPoints_holds : Rows.FreshPointsSaid := freshPoints.said
end Go.Proofs.Ytokefidnmopedaa
