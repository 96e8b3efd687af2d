/- AllocKnown returns true: its tied card. The condition is the card's own: the table of the standard library holds its numbers. -/
import Derived.Test.YtfenhliknhmihaaDoorBase
namespace Go.Proofs.YtfenhliknhmihaaDoor.allocKnown
open Go.Ab Go.ChangeShapes Go.WideShapes Go.ChangeAt Go.RowKit

theorem run : isTrue (callF Tryd.prog noPrim ann 200 8 [] h0) = true := by kernel_rfl

theorem table {W : World} (h : laidMetH Tryd.prog Rows.allocKnownRow.laid W) : Lib.TabIs Tryd.prog W "math/bits.deBruijn64tab" .u8 deb :=
  Lib.tabIs_of_head (rest := []) gTab gTabType Tryd.underlying95 Tryd.underlying5 cellsByte cellsTab h

theorem contract (H : Type) (enc : TypeId × Value → H) (W : World) (args : Array Value) (ds gs : List (DataW H)) (before : List MemPlace)
    (hW : DataW.Whole enc Tryd.prog Tryd.f8.params.toList Rows.allocKnownSpec.vars false W args.toList ds gs before) (hL : laidMetH Tryd.prog Rows.allocKnownRow.laid W) :
    Calls Tryd.prog 8 args W fun e W' => ∃ v, e = .returned v ∧ Rows.allocKnownSpec.post enc Tryd.prog Tryd.f8 false true false false W args v W' := by
  have hW' := hW
  obtain ⟨p, q, hA0, hV, rfl, hfz, hnd⟩ := hW
  have hA : DataW.TrodAll enc Tryd.prog W 0 (fun _ => true) true Tryd.f8.params.toList args.toList ds p := hA0
  rw [Tryd.params8] at hA
  obtain ⟨hargs, rfl, rfl⟩ := trodAll_nil hA
  obtain ⟨rfl, rfl⟩ := trodVars_none hV
  obtain rfl : args = #[] := by cases args; simp_all
  clear hA0
  obtain ⟨g, hg⟩ := isTrue_some run
  refine ((sound 200 8 [] h0 _ g hg).2 rho0 W #[] (rel0 (table hL)) VRL.nil).mono ?_
  rintro e W' ⟨v', ρ', rfl, hv, hst⟩
  simp only [VR] at hv
  subst hv
  exact ⟨_, rfl, [], [], _, [], [], [], hW', trodAll_cons_mk (shut_bool Tryd.underlying4 _) trodAll_mk0, trodAll_mk0, rfl, kept hst.keeps h0_ro _, fun h => by cases h⟩

theorem laid_met (os : Os) : laidMet Tryd.prog Rows.allocKnownRow.laid ((laidWorld os).forCall (fun _ _ => 0) ⟨#[], #[], []⟩).memory :=
  laidMet_of_run' 8 (by kernel_rfl) (by kernel_rfl)
theorem reads (os : Os) {H : Type} (enc : TypeId × Value → H) : ∃ places, DataW.whole enc Tryd.prog ((laidWorld os).forCall (fun _ _ => 0) ⟨#[], #[], []⟩).memory Tryd.f8.params.toList Rows.allocKnownSpec.vars false (#[] : Array Value).toList 8 = some ([], [], places) :=
  ⟨[], by kernel_rfl⟩

set_option maxRecDepth 100000 in
theorem lifted (os : Os) (started : os.Started) (H : Type) (enc : TypeId × Value → H) (F : Stop.Interp) :
    ReturnsInHanded {} Tryd.checked os 8 .any ((OpenSpec.ofChange Rows.allocKnownSpec).preRow enc Tryd.prog Tryd.f8 Rows.allocKnownRow.domain false Rows.allocKnownRow.laid) (((OpenSpec.ofChange Rows.allocKnownSpec).at F).post enc Tryd.prog Tryd.f8 false true false false) := by
  obtain ⟨places, hx⟩ := reads os enc
  refine returnsInHanded_of_row (C := Tryd.checked) (s := OpenSpec.ofChange Rows.allocKnownSpec) own started (by kernel_rfl) Tryd.func8
    (witness_row_at (enc := enc) (C := Tryd.checked) false (laidWorld os) #[] rfl (by kernel_rfl) (by kernel_rfl) (by kernel_rfl)
      (OpenSpec.preRow_of_cond 8 hx (by kernel_rfl) (fun k hk => by cases hk) (by kernel_rfl) (laid_met os))) ?_
  intro W base args ds gs before hval hW _ _ _ hL _ _
  exact contract H enc W args ds gs before hW hL

theorem said : Rows.AllocKnownSaid :=
  OpenClaim.holds_of_cond 8 Tryd.f8 rfl rfl rfl rfl rfl rfl rfl ⟨rfl, rfl, rfl, rfl, rfl⟩ rfl rfl rfl rfl rfl (by kernel_rfl) Tryd.func8 (by kernel_rfl)
    (of_decide_eq_true (by kernel_rfl)) (by unfold Func.isWrapper; first | (rw [if_pos (by decide +kernel)]; kernel_rfl) | (rw [if_neg (by decide +kernel)]; exact ⟨rfl, rfl⟩))
    (fun os started H enc _ F => by rw [OpenClaim.pre_eq_preRow]; exact lifted os started H enc F)

theorem plain (f : FuncId) (fn : Func) (hf : Tryd.pinned.checked.prog.funcNamed "gantline/gantlinelaw5.AllocKnown" = some f) (hfn : Tryd.pinned.checked.prog.funcs[f]? = some fn) :
    false = Tryd.pinned.checked.prog.looks [] ∧ ∀ (j : Nat) t, fn.params[j]? = some t → Tryd.pinned.checked.prog.wantsStandIn t = false := by
  obtain rfl : f = 8 := Option.some.inj ((show Tryd.prog.funcNamed "gantline/gantlinelaw5.AllocKnown" = some 8 by kernel_rfl).symm.trans hf) |>.symm
  obtain rfl : fn = Tryd.f8 := (Option.some.inj (Tryd.func8.symm.trans hfn)).symm
  refine ⟨by kernel_rfl, fun j t ht => ?_⟩
  rw [Tryd.params8] at ht
  simp at ht
end Go.Proofs.YtfenhliknhmihaaDoor.allocKnown
namespace Go.Proofs.YtfenhliknhmihaaDoor
/-- The card. -/
theorem allocKnown_card : Rows.AllocKnownCardSaid :=
  Claim7.holds_tied_plain_at .later [] _ _ _ _ allocKnown.said (fun _ h => by cases h) (by kernel_rfl) (fun _ h => by cases h) allocKnown_row_tie rfl ⟨rfl, rfl⟩ (by kernel_rfl) rfl allocKnown.plain (by kernel_rfl)
end Go.Proofs.YtfenhliknhmihaaDoor
