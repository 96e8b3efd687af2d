/-
  DERIVED. GIVEN WITH THE SEED: THE CARDS: each row of YthhfnocfegapbaaGreatDoorRows.lean that lists a variable, with what it lists TIED to the program's text (the seventh form; the later family's looks); each row that meets fmt, with fmt's text TOLD by the authors' own Lean function (tested against real Go, not proved from fmt's source: count such statements apart). THE CARD IS WHAT COUNTS. Prove the row's statement (the work); the ties are given (YthhfnocfegapbaaGreatDoorTie.lean); close each card by the builder's one call (the guide's Derived/Test/ToyasCard.lean, 'card_holds'). Laid BY PROGRAM, IN A SANDBOX (cutbox-door.mjs). By AI agents, Wed Nov 11 2026. No macro, syntax, notation, axiom, sorry.
-/
import Derived.Test.YthhfnocfegapbaaGreatDoorRows
import GoSem.ClaimSeven
namespace Go.Proofs.YthhfnocfegapbaaGreatDoor
namespace Rows

/-- THE TIED CARD OF 'gantlinelaw7.MarkSteps'. -/
def markStepsCard : Claim7 := { stood := { row := markStepsRow, standIns := [], harness := (true, "cb6ef13c4371dbdd5ad56beeddd9d851caea5d64f50581ac162d9957042653a6"), looks := false }, kinds := [], alts := [], laidByText := true, laidKinds := [.data], laidTests := true, laidLooks := .later }
def MarkStepsCardSaid : Prop := Claim7.holds Tryz.pinned (.plain (OpenSpec.ofChange markStepsSpec)) markStepsCard

/-- THE TIED CARD OF 'gantlinelaw7.MarkAll'. -/
def markAllCard : Claim7 := { stood := { row := markAllRow, standIns := [], harness := (true, "cb6ef13c4371dbdd5ad56beeddd9d851caea5d64f50581ac162d9957042653a6"), looks := false }, kinds := [], alts := [], laidByText := true, laidKinds := [.data], laidTests := true, laidLooks := .later }
def MarkAllCardSaid : Prop := Claim7.holds Tryz.pinned (.plain (OpenSpec.ofChange markAllSpec)) markAllCard

/-- THE TIED CARD OF 'gantlinelaw7.MarkMore'. -/
def markMoreCard : Claim7 := { stood := { row := markMoreRow, standIns := [], harness := (true, "cb6ef13c4371dbdd5ad56beeddd9d851caea5d64f50581ac162d9957042653a6"), looks := false }, kinds := [], alts := [], laidByText := true, laidKinds := [.data], laidTests := true, laidLooks := .later }
def MarkMoreCardSaid : Prop := Claim7.holds Tryz.pinned (.plain (OpenSpec.ofChange markMoreSpec)) markMoreCard

/-- THE SECOND FORM's CARD OF 'gantlinelaw7.MarkSteps'. -/
def markStepsUptoCard : Claim7 := { stood := { row := markStepsUptoRow, standIns := [], harness := (true, "cb6ef13c4371dbdd5ad56beeddd9d851caea5d64f50581ac162d9957042653a6"), looks := false }, kinds := [], alts := [], laidByText := true, laidKinds := [.data], laidTests := true, laidLooks := .later }
def MarkStepsUptoCardSaid : Prop := Claim7.holds Tryz.pinned (.plain (OpenSpec.upto markStepsSpec)) markStepsUptoCard

/-- THE SECOND FORM's CARD OF 'gantlinelaw7.MarkAll'. -/
def markAllUptoCard : Claim7 := { stood := { row := markAllUptoRow, standIns := [], harness := (true, "cb6ef13c4371dbdd5ad56beeddd9d851caea5d64f50581ac162d9957042653a6"), looks := false }, kinds := [], alts := [], laidByText := true, laidKinds := [.data], laidTests := true, laidLooks := .later }
def MarkAllUptoCardSaid : Prop := Claim7.holds Tryz.pinned (.plain (OpenSpec.upto markAllSpec)) markAllUptoCard

/-- THE SECOND FORM's CARD OF 'gantlinelaw7.MarkMore'. -/
def markMoreUptoCard : Claim7 := { stood := { row := markMoreUptoRow, standIns := [], harness := (true, "cb6ef13c4371dbdd5ad56beeddd9d851caea5d64f50581ac162d9957042653a6"), looks := false }, kinds := [], alts := [], laidByText := true, laidKinds := [.data], laidTests := true, laidLooks := .later }
def MarkMoreUptoCardSaid : Prop := Claim7.holds Tryz.pinned (.plain (OpenSpec.upto markMoreSpec)) markMoreUptoCard
end Rows
end Go.Proofs.YthhfnocfegapbaaGreatDoor
