/- LiveInstrs returns true, at every input; no condition. -/
import Derived.Test.YtokefidnmopedaaQuTab
import Derived.Test.YtokefidnmopedaaFa
import Derived.Test.YtokefidnmopedaaIns
import Derived.Test.YtokefidnmopedaaKit
namespace Go.Proofs.Ytokefidnmopedaa.liveInstrs
open Go.Ab Go.Ab.F Go.ChangeShapes Go.WideShapes Go.ChangeAt Go.RowKit
set_option linter.all false
open Go.Proofs.Ytokefidnmopedaa.qu
def tys : List Ty := [(.st [(.sl (.st [(.int .i64), (.int .i64), (.int .u64)])), (.sl .bool), (.sl (.int .i64)), (.sl (.st [(.int .i64), (.int .i64), (.int .i64), (.int .i64)])), (.sl (.st [(.int .i64), (.int .i64), (.int .i64), (.int .i64), (.sl .bool), (.sl (.st [(.int .i64), (.int .i64), (.int .i64), (.int .i64), (.int .i64)])), (.sl (.int .u64))])), (.int .i64)]), (.st [(.int .i64), (.int .i64), (.int .i64), (.int .i64), (.sl .bool), (.sl (.st [(.int .i64), (.int .i64), (.int .i64), (.int .i64), (.int .i64)])), (.sl (.int .u64))]), (.st [(.int .i64), (.int .i64), (.int .i64), (.int .i64), (.int .i64)]), (.int .i64)]
theorem look_law (avs : List AV) (h : Heap) : lookT tab 3 avs h = p4 k_law10_LiveInstrs avs h := by kernel_rfl
theorem isTrue_ok {x : Option (AV × Heap)} (h : Ok x fun r => r.1 = .bool true) : isTrue x = true := by
  obtain ⟨⟨v, g⟩, rfl, e⟩ := h
  simp only at e
  subst e; rfl
theorem args_step {h : Heap} {τ : Ty} {τs : List Ty} {xs : List D} {avs : List AV} (ha : Args h (τ :: τs) xs avs) : ∃ x vs xs' avs', avs = argAV τ vs :: avs' ∧ Rep h τ x vs ∧ vs.length = τ.size ∧ Args h τs xs' avs' := by
  cases xs with
  | nil => cases avs <;> simp [Args] at ha
  | cons x xs =>
    cases avs with
    | nil => simp [Args] at ha
    | cons a avs =>
      simp only [Args] at ha
      obtain ⟨⟨vs, h1, h2, rfl⟩, h3⟩ := ha
      exact ⟨x, vs, xs, avs, rfl, h1, h2, h3⟩
theorem fns_len {h : Heap} {v : AV} {m : Md} (H : MdRd h v m) (hz : ∀ l p n c, v = .agg l → l[4]? = some (.sl p n c) → n * 104 ≤ 140737488351232) : (1 + m.funcs.length) * 104 ≤ 2 ^ 47 := by
  obtain ⟨sv, gv, kv, cv, fv, rfl, _, _, _, _, ⟨rows, ⟨cs, R, _⟩, hlen, _⟩, _⟩ := H
  rcases R.eq with ⟨_, h0⟩ | ⟨b, o, c, rfl, _⟩
  · rw [← hlen, h0]; decide
  · have := hz _ _ _ _ rfl rfl
    omega
theorem run (h : Heap) (xs : List D) (avs : List AV) (ha : Args h tys xs avs) (hs : Sub hQ0 h) (hn : 0 ≤ h.next) (hz : ∀ l p n c, avs[0]? = some (.agg l) → l[4]? = some (.sl p n c) → n * 104 ≤ 140737488351232) : isTrue (p4 k_law10_LiveInstrs avs h) = true := by
  obtain ⟨x0, v0, xs, avs, rfl, r0, l0, ha⟩ := args_step ha
  obtain ⟨x1, v1, xs, avs, rfl, r1, l1, ha⟩ := args_step ha
  obtain ⟨x2, v2, xs, avs, rfl, r2, l2, ha⟩ := args_step ha
  obtain ⟨x3, v3, xs, avs, rfl, r3, l3, ha⟩ := args_step ha
  obtain rfl := ha.shut
  obtain ⟨m, H⟩ := rep_md l0 r0
  obtain ⟨f, e1, G⟩ := rep_fn' l1 r1
  obtain ⟨i, e2, hw⟩ := rep_ins' r2
  obtain ⟨n, e3, hn3⟩ := rd_int r3
  have hlen := fns_len H fun l p n c e1 e2 => hz l p n c (by rw [← e1]; rfl) e2
  have e2' : argAV (.st [(.int .i64), (.int .i64), (.int .i64), (.int .i64), (.int .i64)]) v2 = .agg i.row := e2
  rw [e3, e2']
  have e1' : argAV fnTy v1 = .agg v1 := e1
  exact isTrue_ok (liveInstrs_ok i n H G hw hn3 hlen fun g s => quiet_pos fun i b hb => by cases hb)

set_option maxRecDepth 100000 in
theorem contract (H : Type) (enc : TypeId × Value → H) (W : World) (base : Nat) (args : Array Value) (ds gs : List (DataW H)) (before : List MemPlace)
    (hval : ∀ (j : Nat) t v, Try.f3.params[j]? = some t → args[j]? = some v → Value.okWide Try.prog W .any base t v)
    (hW : DataW.Whole enc Try.prog Try.f3.params.toList Rows.liveInstrsSpec.vars false W args.toList ds gs before) (hz : (DataW.weightsEach Try.prog (Try.f3.params.toList ++ (OpenSpec.ofChange Rows.liveInstrsSpec).bare.plain.varTypes Try.prog) (ds ++ gs)).all (· ≤ reachBytes) = true) :
    Calls Try.prog 3 args W fun e W' => ∃ v, e = .returned v ∧ Rows.liveInstrsSpec.post enc Try.prog Try.f3 false true false false W args v W' := by
  have hW' := hW
  obtain ⟨p, q, hA, hV, rfl, hfz, hnd⟩ := hW
  obtain ⟨rfl, rfl⟩ := trodVars_none hV
  obtain ⟨ρ', h', xs, avs, e, ha, hv⟩ := args_of (base := base) tys Try.f3.params.toList args.toList ds p (by kernel_rfl) hA (fun j t v hj hv => hval j t v (by simpa using hj) (by simpa using hv)) rho0 h0 (rel0 W) h0_ro
  have hsub : Sub hQ0 h' := fun i b hi => by
    have hlt : i < h0.next := by cases hi
    rw [e.get i hlt]; exact hi
  have hbt : Try.prog.bytesOf 32 = 104 := by kernel_rfl
  have hzz : ∀ l p n c, avs[0]? = some (.agg l) → l[4]? = some (.sl p n c) → n * 104 ≤ 140737488351232 := fun l p n c h1 h2 => by
    have h3 := arg_len hA hz hv (j := 0) (t := 28) (by kernel_rfl) Try.underlying28 (k := 4) rfl Try.underlying26 (by kernel_rfl) h1 h2
    rw [hbt] at h3; exact h3
  obtain ⟨g, hg⟩ := isTrue_some (run h' xs avs ha hsub e.next hzz)
  obtain ⟨l1, l2⟩ := trodAll_len hA
  have l1 : ds.length = 4 := l1.trans (by kernel_rfl)
  have hlt : ∀ x ∈ p, x.block < W.heap.size := fun x hx => hA.lt x hx
  refine ((okTab 3 avs h' _ g (by rw [look_law]; exact hg)).2 ρ' W args e.rel hv).mono ?_
  rintro e' W' ⟨v', ρ'', rfl, hv', hst⟩
  simp only [VR] at hv'
  subst hv'
  have hb := trodAll_below fa1 (below_of hst.keeps e.ro) _ _ _ _ (by kernel_rfl) hA hlt
  rcases ds with _ | ⟨d0, _ | ⟨d1, _ | ⟨d2, _ | ⟨d3, _ | ⟨x, r⟩⟩⟩⟩⟩ <;> simp at l1
  exact ⟨_, rfl, _, [], _, _, _, [], hW', trodAll_cons_mk (shut_bool Try.underlying4 _) trodAll_mk0, hb, rfl, kept hst.keeps e.ro _, fun h => by cases h⟩

theorem laid_met (os : Os) : laidMet Try.prog Rows.liveInstrsRow.laid (((World.holding Try.prog os ⟨#[], #[], []⟩)).forCall (fun _ _ => 0) ⟨#[], (#[.agg #[.slice none 0 0, .slice none 0 0, .slice none 0 0, .slice none 0 0, .slice none 0 0, .int .i64 0], .agg #[.int .i64 0, .int .i64 0, .int .i64 0, .int .i64 0, .slice none 0 0, .slice none 0 0, .slice none 0 0], .agg #[.int .i64 0, .int .i64 0, .int .i64 0, .int .i64 0, .int .i64 0], .int .i64 0] : Array Value), []⟩).memory :=
  laidMet_of_run' 8 (by kernel_rfl) (by kernel_rfl)
theorem reads (os : Os) {H : Type} (enc : TypeId × Value → H) : ∃ places, DataW.whole enc Try.prog (((World.holding Try.prog os ⟨#[], #[], []⟩)).forCall (fun _ _ => 0) ⟨#[], (#[.agg #[.slice none 0 0, .slice none 0 0, .slice none 0 0, .slice none 0 0, .slice none 0 0, .int .i64 0], .agg #[.int .i64 0, .int .i64 0, .int .i64 0, .int .i64 0, .slice none 0 0, .slice none 0 0, .slice none 0 0], .agg #[.int .i64 0, .int .i64 0, .int .i64 0, .int .i64 0, .int .i64 0], .int .i64 0] : Array Value), []⟩).memory Try.f3.params.toList Rows.liveInstrsSpec.vars false (#[.agg #[.slice none 0 0, .slice none 0 0, .slice none 0 0, .slice none 0 0, .slice none 0 0, .int .i64 0], .agg #[.int .i64 0, .int .i64 0, .int .i64 0, .int .i64 0, .slice none 0 0, .slice none 0 0, .slice none 0 0], .agg #[.int .i64 0, .int .i64 0, .int .i64 0, .int .i64 0, .int .i64 0], .int .i64 0] : Array Value).toList 8 = some ([.agg [.nil, .nil, .nil, .nil, .nil, .lit (.int .i64 0)], .agg [.lit (.int .i64 0), .lit (.int .i64 0), .lit (.int .i64 0), .lit (.int .i64 0), .nil, .nil, .nil], .agg [.lit (.int .i64 0), .lit (.int .i64 0), .lit (.int .i64 0), .lit (.int .i64 0), .lit (.int .i64 0)], .lit (.int .i64 0)], [], places) :=
  ⟨[], by kernel_rfl⟩

set_option maxRecDepth 100000 in
theorem lifted (os : Os) (started : os.Started) (H : Type) (enc : TypeId × Value → H) (F : Stop.Interp) :
    ReturnsInHanded {} Try.checked os 3 .any ((OpenSpec.ofChange Rows.liveInstrsSpec).preRow enc Try.prog Try.f3 Rows.liveInstrsRow.domain false Rows.liveInstrsRow.laid) (((OpenSpec.ofChange Rows.liveInstrsSpec).at F).post enc Try.prog Try.f3 false true false false) := by
  obtain ⟨places, hx⟩ := reads os enc
  refine returnsInHanded_of_row (C := Try.checked) (s := OpenSpec.ofChange Rows.liveInstrsSpec) own started (by kernel_rfl) Try.func3
    (witness_row_at (enc := enc) (C := Try.checked) false (World.holding Try.prog os ⟨#[], #[], []⟩) (#[.agg #[.slice none 0 0, .slice none 0 0, .slice none 0 0, .slice none 0 0, .slice none 0 0, .int .i64 0], .agg #[.int .i64 0, .int .i64 0, .int .i64 0, .int .i64 0, .slice none 0 0, .slice none 0 0, .slice none 0 0], .agg #[.int .i64 0, .int .i64 0, .int .i64 0, .int .i64 0, .int .i64 0], .int .i64 0] : Array Value) rfl (by kernel_rfl) (by kernel_rfl) (by kernel_rfl)
      (OpenSpec.preRow_of_cond 8 hx (by kernel_rfl) (fun k hk => by cases hk) (by kernel_rfl) (laid_met os))) ?_
  intro W base args ds gs before hval hW _ _ hz hL _ _
  exact contract H enc W base args ds gs before hval hW hz

theorem and_t {a b : Bool} (h : a = true) (h' : b = true) : (a && b) = true := by rw [h, h']; rfl
theorem j0 : (Rows.liveInstrsRow.wf (OpenSpec.ofChange (OpenSpec.ofChange Rows.liveInstrsSpec).bare)) = true := by kernel_rfl
theorem j1 : (laidOutB Try.pinned.checked.prog) = true := fa1
theorem j2 : (mapsRowed Try.pinned.checked.prog) = true := by kernel_rfl
theorem j3 : (Try.f3.params.all (Try.pinned.checked.prog.readableRec ·)) = true := by kernel_rfl
theorem j4 : (namedTie Try.pinned.checked.prog Rows.liveInstrsRow.named (OpenSpec.ofChange Rows.liveInstrsSpec).bare.vars) = true := by kernel_rfl
theorem j5 : ((Rows.liveInstrsRow.stops == [])) = true := by kernel_rfl
theorem j6 : ((Try.pinned.checked.prog.stops == [])) = true := by kernel_rfl
theorem j7 : ((Rows.liveInstrsRow.knobs == [])) = true := by kernel_rfl
theorem j8 : ((Try.pinned.checked.prog.stopKnobs == [])) = true := by kernel_rfl
theorem j9 : ((Rows.liveInstrsRow.inPlace == Try.pinned.checked.prog.inPlace 3)) = true := by kernel_rfl
theorem j10 : ((Rows.liveInstrsRow.unfollowed == Try.pinned.checked.prog.unfollowed 3)) = true := by kernel_rfl
theorem j11 : ((Rows.liveInstrsRow.recurses == Try.pinned.checked.prog.recurses 3)) = true := by kernel_rfl
theorem j12 : ((Rows.liveInstrsRow.named == Try.pinned.checked.prog.varsNamed 3)) = true := by kernel_rfl
theorem j13 : ((Rows.liveInstrsRow.maps == (Try.f3.params.toList ++ (OpenSpec.ofChange Rows.liveInstrsSpec).bare.plain.varTypes Try.pinned.checked.prog).any (Try.pinned.checked.prog.mapsRec ·))) = true := by kernel_rfl
theorem j14 : ((Rows.liveInstrsRow.ifaces == (Try.f3.params.toList ++ (OpenSpec.ofChange Rows.liveInstrsSpec).bare.plain.varTypes Try.pinned.checked.prog).any (Try.pinned.checked.prog.ifacesRec ·))) = true := by kernel_rfl
theorem j15 : ((Rows.liveInstrsRow.mapsOut == Try.pinned.checked.prog.mapsAmong Try.f3.resultTypes.toList)) = true := by kernel_rfl
theorem j16 : ((Rows.liveInstrsRow.loops == (Try.f3.params.toList ++ (OpenSpec.ofChange Rows.liveInstrsSpec).bare.plain.varTypes Try.pinned.checked.prog).any (Try.pinned.checked.prog.loopsFrom ·))) = true := by kernel_rfl
theorem j17 : ((Rows.liveInstrsRow.wideKeys == (Try.f3.params.toList ++ (OpenSpec.ofChange Rows.liveInstrsSpec).bare.plain.varTypes Try.pinned.checked.prog ++ Try.f3.resultTypes.toList).any (Try.pinned.checked.prog.wideKeysFrom ·))) = true := by kernel_rfl
theorem j18 : ((OpenSpec.ofChange Rows.liveInstrsSpec).bare.vars.all (Try.pinned.checked.prog.varReadable ·)) = true := by kernel_rfl
theorem j19 : (Try.f3.resultTypes.all (fun t => Try.pinned.checked.prog.readableRec t && decide (t < Try.pinned.checked.prog.types.size))) = true := by kernel_rfl
theorem j20 : ((Rows.liveInstrsRow.ifacesOut == Try.f3.resultTypes.toList.any (Try.pinned.checked.prog.ifacesRec ·))) = true := by kernel_rfl
theorem j21 : ((Rows.liveInstrsRow.loopsOut == Try.f3.resultTypes.toList.any (Try.pinned.checked.prog.loopsFrom ·))) = true := by kernel_rfl
theorem j22 : ((Rows.liveInstrsRow.plainKeys == Try.pinned.checked.prog.plainKeys)) = true := by kernel_rfl
theorem j23 : (Rows.liveInstrsRow.shortTexts.isNone) = true := by kernel_rfl
theorem j24 : (Try.pinned.checked.prog.stopsHeard) = true := by kernel_rfl
theorem j25 : (Try.pinned.checked.prog.mayEnter) = true := fa25
theorem j26 : ((Rows.liveInstrsRow.lifted == Try.pinned.checked.prog.liftsFinal)) = true := by rw [fa26]; kernel_rfl
theorem j27 : ((Try.pinned.checked.prog.make == some Rows.liveInstrsRow.make)) = true := by rw [fa27]; kernel_rfl
theorem j28 : ((Rows.liveInstrsRow.kinds == (if Rows.liveInstrsRow.domain.isEmpty then [] else Try.f3.params.toList.map fun t => match Try.pinned.checked.prog.underlying t with | some (.int k) => some k | _ => none))) = true := by kernel_rfl
theorem j29 : ((Rows.liveInstrsRow.pinned == Rows.liveInstrsRow.pinnedBy)) = true := by kernel_rfl
theorem j30 : ((Rows.liveInstrsRow.veiled == (Try.f3.params.toList ++ (OpenSpec.ofChange Rows.liveInstrsSpec).bare.plain.varTypes Try.pinned.checked.prog ++ Try.f3.resultTypes.toList).any (Try.pinned.checked.prog.veiledRec ·))) = true := by kernel_rfl
theorem j31 : (Rows.liveInstrsRow.veiledFits Try.pinned.checked.prog Try.f3.params.toList (Try.f3.params.toList ++ (OpenSpec.ofChange Rows.liveInstrsSpec).bare.plain.varTypes Try.pinned.checked.prog ++ Try.f3.resultTypes.toList)) = true := by kernel_rfl
set_option maxRecDepth 100000 in
theorem joined : joinedFacts Try.pinned.checked.prog 3 Try.f3 (OpenSpec.ofChange Rows.liveInstrsSpec).bare Rows.liveInstrsRow = true := (and_t (and_t (and_t (and_t (and_t (and_t (and_t (and_t (and_t (and_t (and_t (and_t (and_t (and_t (and_t (and_t (and_t (and_t (and_t (and_t (and_t (and_t (and_t (and_t (and_t (and_t (and_t (and_t (and_t (and_t (and_t j0 j1) j2) j3) j4) j5) j6) j7) j8) j9) j10) j11) j12) j13) j14) j15) j16) j17) j18) j19) j20) j21) j22) j23) j24) j25) j26) j27) j28) j29) j30) j31)

theorem said : Rows.LiveInstrsSaid :=
  OpenClaim.holds_of_cond 3 Try.f3 rfl rfl rfl rfl rfl rfl rfl ⟨rfl, rfl, rfl, rfl, rfl⟩ rfl rfl rfl rfl rfl (by kernel_rfl) Try.func3 joined
    (of_decide_eq_true (by kernel_rfl)) (by unfold Func.isWrapper; first | (rw [if_pos (by decide +kernel)]; kernel_rfl) | (rw [if_neg (by decide +kernel)]; exact ⟨rfl, rfl⟩))
    (fun os started H enc _ F => by rw [OpenClaim.pre_eq_preRow]; exact lifted os started H enc F)
end Go.Proofs.Ytokefidnmopedaa.liveInstrs
namespace Go.Proofs.Ytokefidnmopedaa
/-- The row. -/
theorem liveInstrs_holds : Rows.LiveInstrsSaid := liveInstrs.said
end Go.Proofs.Ytokefidnmopedaa
