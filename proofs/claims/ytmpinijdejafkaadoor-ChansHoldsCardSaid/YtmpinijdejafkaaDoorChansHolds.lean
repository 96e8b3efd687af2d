/- ChansHolds returns true, at every input. The condition is the card's own: the table of the standard library holds its numbers. -/
import Derived.Test.YtmpinijdejafkaaDoorQuTab
import Derived.Test.YtmpinijdejafkaaDoorFa
import Derived.Test.YtmpinijdejafkaaDoorChh
import Derived.Test.YtmpinijdejafkaaDoorKit
namespace Go.Proofs.YtmpinijdejafkaaDoor.chansHolds
open Go.Ab Go.Ab.F Go.ChangeShapes Go.WideShapes Go.ChangeAt Go.RowKit
set_option linter.all false
open Go.Proofs.YtmpinijdejafkaaDoor.qu
def tys : List Ty := [(.int .i64), (.sl (.st [(.int .i64), (.int .i64), (.int .i64)]))]
theorem look_law (avs : List AV) (h : Heap) : lookT tab 8 avs h = p2 k_law15_ChansHolds avs h := by kernel_rfl
theorem isTrue_ok {x : Option (AV × Heap)} (h : Ok x fun r => r.1 = .bool true) : isTrue x = true := by
  obtain ⟨⟨v, g⟩, rfl, e⟩ := h
  simp only at e
  subst e; rfl
theorem run (h : Heap) (xs : List D) (avs : List AV) (ha : Args h tys xs avs) (hs : Sub hQ1 h) (hn : 1 ≤ h.next) : isTrue (p2 k_law15_ChansHolds avs h) = true := by
  obtain ⟨_, v0, _, _, rfl, r0, ha⟩ := ha.open
  obtain ⟨_, v1, _, _, rfl, r1, ha⟩ := ha.open
  obtain rfl := ha.shut
  obtain ⟨n, hn0, _⟩ := rd_int r0
  obtain ⟨rows, hr⟩ := rd_a3 r1
  rw [hn0]
  exact isTrue_ok (holds_true hs hn n hr)

theorem table {W : World} (h : laidMetH Tryd.prog Rows.chansHoldsRow.laid W) : Lib.TabIs Tryd.prog W "math/bits.deBruijn64tab" .u8 deb :=
  Lib.tabIs_of_head (rest := []) gTab gTabType Tryd.underlying180 Tryd.underlying5 cellsByte cellsTab h

set_option maxRecDepth 100000 in
theorem contract (H : Type) (enc : TypeId × Value → H) (W : World) (base : Nat) (args : Array Value) (ds gs : List (DataW H)) (before : List MemPlace)
    (hval : ∀ (j : Nat) t v, Tryd.f8.params[j]? = some t → args[j]? = some v → Value.okWide Tryd.prog W .any base t v)
    (hW : DataW.Whole enc Tryd.prog Tryd.f8.params.toList Rows.chansHoldsSpec.vars false W args.toList ds gs before) (hL : laidMetH Tryd.prog Rows.chansHoldsRow.laid W) :
    Calls Tryd.prog 8 args W fun e W' => ∃ v, e = .returned v ∧ Rows.chansHoldsSpec.post enc Tryd.prog Tryd.f8 false true false false W args v W' := by
  have hW' := hW
  obtain ⟨p, q, hA, hV, rfl, hfz, hnd⟩ := hW
  obtain ⟨rfl, rfl⟩ := trodVars_none hV
  obtain ⟨ρ', h', xs, avs, e, ha, hv⟩ := args_of (base := base) tys Tryd.f8.params.toList args.toList ds p (by kernel_rfl) hA (fun j t v hj hv => hval j t v (by simpa using hj) (by simpa using hv)) rho0 h0 (rel0 (table hL)) h0_ro
  have hsub : Sub hQ1 h' := fun i b hi => by
    have hlt : i < h0.next := (base1 oneGlobal).bnd i b hi
    rw [e.get i hlt]; exact hi
  obtain ⟨g, hg⟩ := isTrue_some (run h' xs avs ha hsub e.next)
  obtain ⟨l1, l2⟩ := trodAll_len hA
  have l1 : ds.length = 2 := l1.trans (by kernel_rfl)
  have hlt : ∀ x ∈ p, x.block < W.heap.size := fun x hx => hA.lt x hx
  refine ((okTab 8 avs h' _ g (by rw [look_law]; exact hg)).2 ρ' W args e.rel hv).mono ?_
  rintro e' W' ⟨v', ρ'', rfl, hv', hst⟩
  simp only [VR] at hv'
  subst hv'
  have hb := trodAll_below fa1 (below_of hst.keeps e.ro) _ _ _ _ (by kernel_rfl) hA hlt
  rcases ds with _ | ⟨d0, _ | ⟨d1, _ | ⟨x, r⟩⟩⟩ <;> simp at l1
  exact ⟨_, rfl, _, [], _, _, _, [], hW', trodAll_cons_mk (shut_bool Tryd.underlying4 _) trodAll_mk0, hb, rfl, kept hst.keeps e.ro _, fun h => by cases h⟩

theorem laid_met (os : Os) : laidMet Tryd.prog Rows.chansHoldsRow.laid (((laidWorld os)).forCall (fun _ _ => 0) ⟨#[], (#[.int .i64 0, .slice none 0 0] : Array Value), []⟩).memory :=
  laidMet_of_run' 8 (by kernel_rfl) (by kernel_rfl)
theorem reads (os : Os) {H : Type} (enc : TypeId × Value → H) : ∃ places, DataW.whole enc Tryd.prog (((laidWorld os)).forCall (fun _ _ => 0) ⟨#[], (#[.int .i64 0, .slice none 0 0] : Array Value), []⟩).memory Tryd.f8.params.toList Rows.chansHoldsSpec.vars false (#[.int .i64 0, .slice none 0 0] : Array Value).toList 8 = some ([.lit (.int .i64 0), .nil], [], places) :=
  ⟨[], by kernel_rfl⟩

set_option maxRecDepth 100000 in
theorem lifted (os : Os) (started : os.Started) (H : Type) (enc : TypeId × Value → H) (F : Stop.Interp) :
    ReturnsInHanded {} Tryd.checked os 8 .any ((OpenSpec.ofChange Rows.chansHoldsSpec).preRow enc Tryd.prog Tryd.f8 Rows.chansHoldsRow.domain false Rows.chansHoldsRow.laid) (((OpenSpec.ofChange Rows.chansHoldsSpec).at F).post enc Tryd.prog Tryd.f8 false true false false) := by
  obtain ⟨places, hx⟩ := reads os enc
  refine returnsInHanded_of_row (C := Tryd.checked) (s := OpenSpec.ofChange Rows.chansHoldsSpec) own started (by kernel_rfl) Tryd.func8
    (witness_row_at (enc := enc) (C := Tryd.checked) false (laidWorld os) (#[.int .i64 0, .slice none 0 0] : Array Value) rfl (by kernel_rfl) (by kernel_rfl) (by kernel_rfl)
      (OpenSpec.preRow_of_cond 8 hx (by kernel_rfl) (fun k hk => by cases hk) (by kernel_rfl) (laid_met os))) ?_
  intro W base args ds gs before hval hW _ _ hz hL _ _
  exact contract H enc W base args ds gs before hval hW hL

theorem and_t {a b : Bool} (h : a = true) (h' : b = true) : (a && b) = true := by rw [h, h']; rfl
theorem j0 : (Rows.chansHoldsRow.wf (OpenSpec.ofChange (OpenSpec.ofChange Rows.chansHoldsSpec).bare)) = true := by kernel_rfl
theorem j1 : (laidOutB Tryd.pinned.checked.prog) = true := fa1
theorem j2 : (mapsRowed Tryd.pinned.checked.prog) = true := by kernel_rfl
theorem j3 : (Tryd.f8.params.all (Tryd.pinned.checked.prog.readableRec ·)) = true := by kernel_rfl
theorem j4 : (namedTie Tryd.pinned.checked.prog Rows.chansHoldsRow.named (OpenSpec.ofChange Rows.chansHoldsSpec).bare.vars) = true := by kernel_rfl
theorem j5 : ((Rows.chansHoldsRow.stops == [])) = true := by kernel_rfl
theorem j6 : ((Tryd.pinned.checked.prog.stops == [])) = true := by kernel_rfl
theorem j7 : ((Rows.chansHoldsRow.knobs == [])) = true := by kernel_rfl
theorem j8 : ((Tryd.pinned.checked.prog.stopKnobs == [])) = true := by kernel_rfl
theorem j9 : ((Rows.chansHoldsRow.inPlace == Tryd.pinned.checked.prog.inPlace 8)) = true := by kernel_rfl
theorem j10 : ((Rows.chansHoldsRow.unfollowed == Tryd.pinned.checked.prog.unfollowed 8)) = true := by kernel_rfl
theorem j11 : ((Rows.chansHoldsRow.recurses == Tryd.pinned.checked.prog.recurses 8)) = true := by kernel_rfl
theorem j12 : ((Rows.chansHoldsRow.named == Tryd.pinned.checked.prog.varsNamed 8)) = true := by kernel_rfl
theorem j13 : ((Rows.chansHoldsRow.maps == (Tryd.f8.params.toList ++ (OpenSpec.ofChange Rows.chansHoldsSpec).bare.plain.varTypes Tryd.pinned.checked.prog).any (Tryd.pinned.checked.prog.mapsRec ·))) = true := by kernel_rfl
theorem j14 : ((Rows.chansHoldsRow.ifaces == (Tryd.f8.params.toList ++ (OpenSpec.ofChange Rows.chansHoldsSpec).bare.plain.varTypes Tryd.pinned.checked.prog).any (Tryd.pinned.checked.prog.ifacesRec ·))) = true := by kernel_rfl
theorem j15 : ((Rows.chansHoldsRow.mapsOut == Tryd.pinned.checked.prog.mapsAmong Tryd.f8.resultTypes.toList)) = true := by kernel_rfl
theorem j16 : ((Rows.chansHoldsRow.loops == (Tryd.f8.params.toList ++ (OpenSpec.ofChange Rows.chansHoldsSpec).bare.plain.varTypes Tryd.pinned.checked.prog).any (Tryd.pinned.checked.prog.loopsFrom ·))) = true := by kernel_rfl
theorem j17 : ((Rows.chansHoldsRow.wideKeys == (Tryd.f8.params.toList ++ (OpenSpec.ofChange Rows.chansHoldsSpec).bare.plain.varTypes Tryd.pinned.checked.prog ++ Tryd.f8.resultTypes.toList).any (Tryd.pinned.checked.prog.wideKeysFrom ·))) = true := by kernel_rfl
theorem j18 : ((OpenSpec.ofChange Rows.chansHoldsSpec).bare.vars.all (Tryd.pinned.checked.prog.varReadable ·)) = true := by kernel_rfl
theorem j19 : (Tryd.f8.resultTypes.all (fun t => Tryd.pinned.checked.prog.readableRec t && decide (t < Tryd.pinned.checked.prog.types.size))) = true := by kernel_rfl
theorem j20 : ((Rows.chansHoldsRow.ifacesOut == Tryd.f8.resultTypes.toList.any (Tryd.pinned.checked.prog.ifacesRec ·))) = true := by kernel_rfl
theorem j21 : ((Rows.chansHoldsRow.loopsOut == Tryd.f8.resultTypes.toList.any (Tryd.pinned.checked.prog.loopsFrom ·))) = true := by kernel_rfl
theorem j22 : ((Rows.chansHoldsRow.plainKeys == Tryd.pinned.checked.prog.plainKeys)) = true := by kernel_rfl
theorem j23 : (Rows.chansHoldsRow.shortTexts.isNone) = true := by kernel_rfl
theorem j24 : (Tryd.pinned.checked.prog.stopsHeard) = true := by kernel_rfl
theorem j25 : (Tryd.pinned.checked.prog.mayEnter) = true := fa25
theorem j26 : ((Rows.chansHoldsRow.lifted == Tryd.pinned.checked.prog.liftsFinal)) = true := by rw [fa26]; kernel_rfl
theorem j27 : ((Tryd.pinned.checked.prog.make == some Rows.chansHoldsRow.make)) = true := by rw [fa27]; kernel_rfl
theorem j28 : ((Rows.chansHoldsRow.kinds == (if Rows.chansHoldsRow.domain.isEmpty then [] else Tryd.f8.params.toList.map fun t => match Tryd.pinned.checked.prog.underlying t with | some (.int k) => some k | _ => none))) = true := by kernel_rfl
theorem j29 : ((Rows.chansHoldsRow.pinned == Rows.chansHoldsRow.pinnedBy)) = true := by kernel_rfl
theorem j30 : ((Rows.chansHoldsRow.veiled == (Tryd.f8.params.toList ++ (OpenSpec.ofChange Rows.chansHoldsSpec).bare.plain.varTypes Tryd.pinned.checked.prog ++ Tryd.f8.resultTypes.toList).any (Tryd.pinned.checked.prog.veiledRec ·))) = true := by kernel_rfl
theorem j31 : (Rows.chansHoldsRow.veiledFits Tryd.pinned.checked.prog Tryd.f8.params.toList (Tryd.f8.params.toList ++ (OpenSpec.ofChange Rows.chansHoldsSpec).bare.plain.varTypes Tryd.pinned.checked.prog ++ Tryd.f8.resultTypes.toList)) = true := by kernel_rfl
set_option maxRecDepth 100000 in
theorem joined : joinedFacts Tryd.pinned.checked.prog 8 Tryd.f8 (OpenSpec.ofChange Rows.chansHoldsSpec).bare Rows.chansHoldsRow = true := (and_t (and_t (and_t (and_t (and_t (and_t (and_t (and_t (and_t (and_t (and_t (and_t (and_t (and_t (and_t (and_t (and_t (and_t (and_t (and_t (and_t (and_t (and_t (and_t (and_t (and_t (and_t (and_t (and_t (and_t (and_t j0 j1) j2) j3) j4) j5) j6) j7) j8) j9) j10) j11) j12) j13) j14) j15) j16) j17) j18) j19) j20) j21) j22) j23) j24) j25) j26) j27) j28) j29) j30) j31)

theorem said : Rows.ChansHoldsSaid :=
  OpenClaim.holds_of_cond 8 Tryd.f8 rfl rfl rfl rfl rfl rfl rfl ⟨rfl, rfl, rfl, rfl, rfl⟩ rfl rfl rfl rfl rfl (by kernel_rfl) Tryd.func8 joined
    (of_decide_eq_true (by kernel_rfl)) (by unfold Func.isWrapper; first | (rw [if_pos (by decide +kernel)]; kernel_rfl) | (rw [if_neg (by decide +kernel)]; exact ⟨rfl, rfl⟩))
    (fun os started H enc _ F => by rw [OpenClaim.pre_eq_preRow]; exact lifted os started H enc F)

theorem plain (f : FuncId) (fn : Func) (hf : Tryd.pinned.checked.prog.funcNamed "gantline/gantlinelaw15.ChansHolds" = some f) (hfn : Tryd.pinned.checked.prog.funcs[f]? = some fn) :
    false = Tryd.pinned.checked.prog.looks [] ∧ ∀ (j : Nat) t, fn.params[j]? = some t → Tryd.pinned.checked.prog.wantsStandIn t = false := by
  obtain rfl : f = 8 := Option.some.inj ((show Tryd.prog.funcNamed "gantline/gantlinelaw15.ChansHolds" = some 8 by kernel_rfl).symm.trans hf) |>.symm
  obtain rfl : fn = Tryd.f8 := (Option.some.inj (Tryd.func8.symm.trans hfn)).symm
  refine ⟨by kernel_rfl, fun j t ht => ?_⟩
  have hall : (Tryd.f8.params.toList.all fun t => !Tryd.pinned.checked.prog.wantsStandIn t) = true := by kernel_rfl
  have hm := List.all_eq_true.1 hall t (by have := Array.mem_of_getElem? ht; simpa using this)
  simpa using hm
end Go.Proofs.YtmpinijdejafkaaDoor.chansHolds
namespace Go.Proofs.YtmpinijdejafkaaDoor
/-- The card. -/
theorem chansHolds_card : Rows.ChansHoldsCardSaid :=
  Claim7.holds_tied_plain_at .later [] _ _ _ _ chansHolds.said (fun _ h => by cases h) (by kernel_rfl) (fun _ h => by cases h) chansHolds_row_tie rfl ⟨rfl, rfl⟩ (by kernel_rfl) rfl chansHolds.plain (by kernel_rfl)
end Go.Proofs.YtmpinijdejafkaaDoor
