/- HeapForced returns true, at every input. The condition is the card's own: the table of the standard library holds its numbers. -/
import Derived.Test.YtmpinijdejafkaaDoorQuTab
import Derived.Test.YtmpinijdejafkaaDoorFa
import Derived.Test.YtmpinijdejafkaaDoorHfo
import Derived.Test.YtmpinijdejafkaaDoorKit
namespace Go.Proofs.YtmpinijdejafkaaDoor.heapForced
open Go.Ab Go.Ab.F Go.ChangeShapes Go.WideShapes Go.ChangeAt Go.RowKit
set_option linter.all false
open Go.Proofs.YtmpinijdejafkaaDoor.qu
def tys : List Ty := [(.int .i64), (.int .i64), (.int .i64)]
theorem look_law (avs : List AV) (h : Heap) : lookT tab 5 avs h = p3 k_law14_HeapForced avs h := by kernel_rfl
theorem isTrue_ok {x : Option (AV × Heap)} (h : Ok x fun r => r.1 = .bool true) : isTrue x = true := by
  obtain ⟨⟨v, g⟩, rfl, e⟩ := h
  simp only at e
  subst e; rfl
theorem run (h : Heap) (xs : List D) (avs : List AV) (ha : Args h tys xs avs) (hs : Sub hQ1 h) (hn : 1 ≤ h.next) : isTrue (p3 k_law14_HeapForced avs h) = true := by
  obtain ⟨_, v0, _, _, rfl, r0, ha⟩ := ha.open
  obtain ⟨_, v1, _, _, rfl, r1, ha⟩ := ha.open
  obtain ⟨_, v2, _, _, rfl, r2, ha⟩ := ha.open
  obtain rfl := ha.shut
  obtain ⟨n, hn0, _⟩ := rd_int r0
  obtain ⟨i, hi, _⟩ := rd_int r1
  obtain ⟨v, hv, _⟩ := rd_int r2
  rw [hn0, hi, hv]
  exact isTrue_ok (forced_true hs hn n i v)

theorem table {W : World} (h : laidMetH Tryd.prog Rows.heapForcedRow.laid W) : Lib.TabIs Tryd.prog W "math/bits.deBruijn64tab" .u8 deb :=
  Lib.tabIs_of_head (rest := []) gTab gTabType Tryd.underlying180 Tryd.underlying5 cellsByte cellsTab h

set_option maxRecDepth 100000 in
theorem contract (H : Type) (enc : TypeId × Value → H) (W : World) (base : Nat) (args : Array Value) (ds gs : List (DataW H)) (before : List MemPlace)
    (hval : ∀ (j : Nat) t v, Tryd.f5.params[j]? = some t → args[j]? = some v → Value.okWide Tryd.prog W .any base t v)
    (hW : DataW.Whole enc Tryd.prog Tryd.f5.params.toList Rows.heapForcedSpec.vars false W args.toList ds gs before) (hL : laidMetH Tryd.prog Rows.heapForcedRow.laid W) :
    Calls Tryd.prog 5 args W fun e W' => ∃ v, e = .returned v ∧ Rows.heapForcedSpec.post enc Tryd.prog Tryd.f5 false true false false W args v W' := by
  have hW' := hW
  obtain ⟨p, q, hA, hV, rfl, hfz, hnd⟩ := hW
  obtain ⟨rfl, rfl⟩ := trodVars_none hV
  obtain ⟨ρ', h', xs, avs, e, ha, hv⟩ := args_of (base := base) tys Tryd.f5.params.toList args.toList ds p (by kernel_rfl) hA (fun j t v hj hv => hval j t v (by simpa using hj) (by simpa using hv)) rho0 h0 (rel0 (table hL)) h0_ro
  have hsub : Sub hQ1 h' := fun i b hi => by
    have hlt : i < h0.next := (base1 oneGlobal).bnd i b hi
    rw [e.get i hlt]; exact hi
  obtain ⟨g, hg⟩ := isTrue_some (run h' xs avs ha hsub e.next)
  obtain ⟨l1, l2⟩ := trodAll_len hA
  have l1 : ds.length = 3 := l1.trans (by kernel_rfl)
  have hlt : ∀ x ∈ p, x.block < W.heap.size := fun x hx => hA.lt x hx
  refine ((okTab 5 avs h' _ g (by rw [look_law]; exact hg)).2 ρ' W args e.rel hv).mono ?_
  rintro e' W' ⟨v', ρ'', rfl, hv', hst⟩
  simp only [VR] at hv'
  subst hv'
  have hb := trodAll_below fa1 (below_of hst.keeps e.ro) _ _ _ _ (by kernel_rfl) hA hlt
  rcases ds with _ | ⟨d0, _ | ⟨d1, _ | ⟨d2, _ | ⟨x, r⟩⟩⟩⟩ <;> simp at l1
  exact ⟨_, rfl, _, [], _, _, _, [], hW', trodAll_cons_mk (shut_bool Tryd.underlying4 _) trodAll_mk0, hb, rfl, kept hst.keeps e.ro _, fun h => by cases h⟩

theorem laid_met (os : Os) : laidMet Tryd.prog Rows.heapForcedRow.laid (((laidWorld os)).forCall (fun _ _ => 0) ⟨#[], (#[.int .i64 0, .int .i64 0, .int .i64 0] : Array Value), []⟩).memory :=
  laidMet_of_run' 8 (by kernel_rfl) (by kernel_rfl)
theorem reads (os : Os) {H : Type} (enc : TypeId × Value → H) : ∃ places, DataW.whole enc Tryd.prog (((laidWorld os)).forCall (fun _ _ => 0) ⟨#[], (#[.int .i64 0, .int .i64 0, .int .i64 0] : Array Value), []⟩).memory Tryd.f5.params.toList Rows.heapForcedSpec.vars false (#[.int .i64 0, .int .i64 0, .int .i64 0] : Array Value).toList 8 = some ([.lit (.int .i64 0), .lit (.int .i64 0), .lit (.int .i64 0)], [], places) :=
  ⟨[], by kernel_rfl⟩

set_option maxRecDepth 100000 in
theorem lifted (os : Os) (started : os.Started) (H : Type) (enc : TypeId × Value → H) (F : Stop.Interp) :
    ReturnsInHanded {} Tryd.checked os 5 .any ((OpenSpec.ofChange Rows.heapForcedSpec).preRow enc Tryd.prog Tryd.f5 Rows.heapForcedRow.domain false Rows.heapForcedRow.laid) (((OpenSpec.ofChange Rows.heapForcedSpec).at F).post enc Tryd.prog Tryd.f5 false true false false) := by
  obtain ⟨places, hx⟩ := reads os enc
  refine returnsInHanded_of_row (C := Tryd.checked) (s := OpenSpec.ofChange Rows.heapForcedSpec) own started (by kernel_rfl) Tryd.func5
    (witness_row_at (enc := enc) (C := Tryd.checked) false (laidWorld os) (#[.int .i64 0, .int .i64 0, .int .i64 0] : Array Value) rfl (by kernel_rfl) (by kernel_rfl) (by kernel_rfl)
      (OpenSpec.preRow_of_cond 8 hx (by kernel_rfl) (fun k hk => by cases hk) (by kernel_rfl) (laid_met os))) ?_
  intro W base args ds gs before hval hW _ _ hz hL _ _
  exact contract H enc W base args ds gs before hval hW hL

theorem and_t {a b : Bool} (h : a = true) (h' : b = true) : (a && b) = true := by rw [h, h']; rfl
theorem j0 : (Rows.heapForcedRow.wf (OpenSpec.ofChange (OpenSpec.ofChange Rows.heapForcedSpec).bare)) = true := by kernel_rfl
theorem j1 : (laidOutB Tryd.pinned.checked.prog) = true := fa1
theorem j2 : (mapsRowed Tryd.pinned.checked.prog) = true := by kernel_rfl
theorem j3 : (Tryd.f5.params.all (Tryd.pinned.checked.prog.readableRec ·)) = true := by kernel_rfl
theorem j4 : (namedTie Tryd.pinned.checked.prog Rows.heapForcedRow.named (OpenSpec.ofChange Rows.heapForcedSpec).bare.vars) = true := by kernel_rfl
theorem j5 : ((Rows.heapForcedRow.stops == [])) = true := by kernel_rfl
theorem j6 : ((Tryd.pinned.checked.prog.stops == [])) = true := by kernel_rfl
theorem j7 : ((Rows.heapForcedRow.knobs == [])) = true := by kernel_rfl
theorem j8 : ((Tryd.pinned.checked.prog.stopKnobs == [])) = true := by kernel_rfl
theorem j9 : ((Rows.heapForcedRow.inPlace == Tryd.pinned.checked.prog.inPlace 5)) = true := by kernel_rfl
theorem j10 : ((Rows.heapForcedRow.unfollowed == Tryd.pinned.checked.prog.unfollowed 5)) = true := by kernel_rfl
theorem j11 : ((Rows.heapForcedRow.recurses == Tryd.pinned.checked.prog.recurses 5)) = true := by kernel_rfl
theorem j12 : ((Rows.heapForcedRow.named == Tryd.pinned.checked.prog.varsNamed 5)) = true := by kernel_rfl
theorem j13 : ((Rows.heapForcedRow.maps == (Tryd.f5.params.toList ++ (OpenSpec.ofChange Rows.heapForcedSpec).bare.plain.varTypes Tryd.pinned.checked.prog).any (Tryd.pinned.checked.prog.mapsRec ·))) = true := by kernel_rfl
theorem j14 : ((Rows.heapForcedRow.ifaces == (Tryd.f5.params.toList ++ (OpenSpec.ofChange Rows.heapForcedSpec).bare.plain.varTypes Tryd.pinned.checked.prog).any (Tryd.pinned.checked.prog.ifacesRec ·))) = true := by kernel_rfl
theorem j15 : ((Rows.heapForcedRow.mapsOut == Tryd.pinned.checked.prog.mapsAmong Tryd.f5.resultTypes.toList)) = true := by kernel_rfl
theorem j16 : ((Rows.heapForcedRow.loops == (Tryd.f5.params.toList ++ (OpenSpec.ofChange Rows.heapForcedSpec).bare.plain.varTypes Tryd.pinned.checked.prog).any (Tryd.pinned.checked.prog.loopsFrom ·))) = true := by kernel_rfl
theorem j17 : ((Rows.heapForcedRow.wideKeys == (Tryd.f5.params.toList ++ (OpenSpec.ofChange Rows.heapForcedSpec).bare.plain.varTypes Tryd.pinned.checked.prog ++ Tryd.f5.resultTypes.toList).any (Tryd.pinned.checked.prog.wideKeysFrom ·))) = true := by kernel_rfl
theorem j18 : ((OpenSpec.ofChange Rows.heapForcedSpec).bare.vars.all (Tryd.pinned.checked.prog.varReadable ·)) = true := by kernel_rfl
theorem j19 : (Tryd.f5.resultTypes.all (fun t => Tryd.pinned.checked.prog.readableRec t && decide (t < Tryd.pinned.checked.prog.types.size))) = true := by kernel_rfl
theorem j20 : ((Rows.heapForcedRow.ifacesOut == Tryd.f5.resultTypes.toList.any (Tryd.pinned.checked.prog.ifacesRec ·))) = true := by kernel_rfl
theorem j21 : ((Rows.heapForcedRow.loopsOut == Tryd.f5.resultTypes.toList.any (Tryd.pinned.checked.prog.loopsFrom ·))) = true := by kernel_rfl
theorem j22 : ((Rows.heapForcedRow.plainKeys == Tryd.pinned.checked.prog.plainKeys)) = true := by kernel_rfl
theorem j23 : (Rows.heapForcedRow.shortTexts.isNone) = true := by kernel_rfl
theorem j24 : (Tryd.pinned.checked.prog.stopsHeard) = true := by kernel_rfl
theorem j25 : (Tryd.pinned.checked.prog.mayEnter) = true := fa25
theorem j26 : ((Rows.heapForcedRow.lifted == Tryd.pinned.checked.prog.liftsFinal)) = true := by rw [fa26]; kernel_rfl
theorem j27 : ((Tryd.pinned.checked.prog.make == some Rows.heapForcedRow.make)) = true := by rw [fa27]; kernel_rfl
theorem j28 : ((Rows.heapForcedRow.kinds == (if Rows.heapForcedRow.domain.isEmpty then [] else Tryd.f5.params.toList.map fun t => match Tryd.pinned.checked.prog.underlying t with | some (.int k) => some k | _ => none))) = true := by kernel_rfl
theorem j29 : ((Rows.heapForcedRow.pinned == Rows.heapForcedRow.pinnedBy)) = true := by kernel_rfl
theorem j30 : ((Rows.heapForcedRow.veiled == (Tryd.f5.params.toList ++ (OpenSpec.ofChange Rows.heapForcedSpec).bare.plain.varTypes Tryd.pinned.checked.prog ++ Tryd.f5.resultTypes.toList).any (Tryd.pinned.checked.prog.veiledRec ·))) = true := by kernel_rfl
theorem j31 : (Rows.heapForcedRow.veiledFits Tryd.pinned.checked.prog Tryd.f5.params.toList (Tryd.f5.params.toList ++ (OpenSpec.ofChange Rows.heapForcedSpec).bare.plain.varTypes Tryd.pinned.checked.prog ++ Tryd.f5.resultTypes.toList)) = true := by kernel_rfl
set_option maxRecDepth 100000 in
theorem joined : joinedFacts Tryd.pinned.checked.prog 5 Tryd.f5 (OpenSpec.ofChange Rows.heapForcedSpec).bare Rows.heapForcedRow = true := (and_t (and_t (and_t (and_t (and_t (and_t (and_t (and_t (and_t (and_t (and_t (and_t (and_t (and_t (and_t (and_t (and_t (and_t (and_t (and_t (and_t (and_t (and_t (and_t (and_t (and_t (and_t (and_t (and_t (and_t (and_t j0 j1) j2) j3) j4) j5) j6) j7) j8) j9) j10) j11) j12) j13) j14) j15) j16) j17) j18) j19) j20) j21) j22) j23) j24) j25) j26) j27) j28) j29) j30) j31)

theorem said : Rows.HeapForcedSaid :=
  OpenClaim.holds_of_cond 5 Tryd.f5 rfl rfl rfl rfl rfl rfl rfl ⟨rfl, rfl, rfl, rfl, rfl⟩ rfl rfl rfl rfl rfl (by kernel_rfl) Tryd.func5 joined
    (of_decide_eq_true (by kernel_rfl)) (by unfold Func.isWrapper; first | (rw [if_pos (by decide +kernel)]; kernel_rfl) | (rw [if_neg (by decide +kernel)]; exact ⟨rfl, rfl⟩))
    (fun os started H enc _ F => by rw [OpenClaim.pre_eq_preRow]; exact lifted os started H enc F)

theorem plain (f : FuncId) (fn : Func) (hf : Tryd.pinned.checked.prog.funcNamed "gantline/gantlinelaw14.HeapForced" = some f) (hfn : Tryd.pinned.checked.prog.funcs[f]? = some fn) :
    false = Tryd.pinned.checked.prog.looks [] ∧ ∀ (j : Nat) t, fn.params[j]? = some t → Tryd.pinned.checked.prog.wantsStandIn t = false := by
  obtain rfl : f = 5 := Option.some.inj ((show Tryd.prog.funcNamed "gantline/gantlinelaw14.HeapForced" = some 5 by kernel_rfl).symm.trans hf) |>.symm
  obtain rfl : fn = Tryd.f5 := (Option.some.inj (Tryd.func5.symm.trans hfn)).symm
  refine ⟨by kernel_rfl, fun j t ht => ?_⟩
  have hall : (Tryd.f5.params.toList.all fun t => !Tryd.pinned.checked.prog.wantsStandIn t) = true := by kernel_rfl
  have hm := List.all_eq_true.1 hall t (by have := Array.mem_of_getElem? ht; simpa using this)
  simpa using hm
end Go.Proofs.YtmpinijdejafkaaDoor.heapForced
namespace Go.Proofs.YtmpinijdejafkaaDoor
/-- The card. -/
theorem heapForced_card : Rows.HeapForcedCardSaid :=
  Claim7.holds_tied_plain_at .later [] _ _ _ _ heapForced.said (fun _ h => by cases h) (by kernel_rfl) (fun _ h => by cases h) heapForced_row_tie rfl ⟨rfl, rfl⟩ (by kernel_rfl) rfl heapForced.plain (by kernel_rfl)
end Go.Proofs.YtmpinijdejafkaaDoor
