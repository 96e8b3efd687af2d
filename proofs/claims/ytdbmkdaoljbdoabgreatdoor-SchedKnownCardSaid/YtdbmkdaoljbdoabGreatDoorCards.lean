/-
  DERIVED. GIVEN WITH THE SEED: THE CARDS: each row of YtdbmkdaoljbdoabGreatDoorRows.lean that lists a variable, with what it lists TIED to the program's text (the seventh form; the later family's looks); each row that meets fmt, with fmt's text TOLD by the authors' own Lean function (tested against real Go, not proved from fmt's source: count such statements apart). THE CARD IS WHAT COUNTS. Prove the row's statement (the work); the ties are given (YtdbmkdaoljbdoabGreatDoorTie.lean); close each card by the builder's one call (the guide's Derived/Test/ToyasCard.lean, 'card_holds'). Laid BY PROGRAM, IN A SANDBOX (cutbox-door.mjs). By AI agents, Wed Nov 11 2026. No macro, syntax, notation, axiom, sorry.
-/
import Derived.Test.YtdbmkdaoljbdoabGreatDoorRows
import GoSem.ClaimSeven
namespace Go.Proofs.YtdbmkdaoljbdoabGreatDoor
namespace Rows

/-- THE TIED CARD OF 'gantlinelaw7.MarkKnown'. -/
def markKnownCard : Claim7 := { stood := { row := markKnownRow, standIns := [], harness := (true, "18c9f5ff669edb603034104bbdca3e9900075ae757dcf3f90defa7622b765863"), looks := false }, kinds := [], alts := [], laidByText := true, laidKinds := [.data], laidTests := true, laidLooks := .later }
def MarkKnownCardSaid : Prop := Claim7.holds Tryz.pinned (.plain (OpenSpec.ofChange markKnownSpec)) markKnownCard

/-- THE TIED CARD OF 'gantlinelaw7.MarkHeads'. -/
def markHeadsCard : Claim7 := { stood := { row := markHeadsRow, standIns := [], harness := (true, "18c9f5ff669edb603034104bbdca3e9900075ae757dcf3f90defa7622b765863"), looks := false }, kinds := [], alts := [], laidByText := true, laidKinds := [.data], laidTests := true, laidLooks := .later }
def MarkHeadsCardSaid : Prop := Claim7.holds Tryz.pinned (.plain (OpenSpec.ofChange markHeadsSpec)) markHeadsCard

/-- THE TIED CARD OF 'gantlinelaw16.SchedKnown'. -/
def schedKnownCard : Claim7 := { stood := { row := schedKnownRow, standIns := [], harness := (true, "18c9f5ff669edb603034104bbdca3e9900075ae757dcf3f90defa7622b765863"), looks := false }, kinds := [], alts := [], laidByText := true, laidKinds := [.data], laidTests := true, laidLooks := .later }
def SchedKnownCardSaid : Prop := Claim7.holds Tryz.pinned (.plain (OpenSpec.ofChange schedKnownSpec)) schedKnownCard

/-- THE SECOND FORM's CARD OF 'gantlinelaw7.MarkKnown'. -/
def markKnownUptoCard : Claim7 := { stood := { row := markKnownUptoRow, standIns := [], harness := (true, "18c9f5ff669edb603034104bbdca3e9900075ae757dcf3f90defa7622b765863"), looks := false }, kinds := [], alts := [], laidByText := true, laidKinds := [.data], laidTests := true, laidLooks := .later }
def MarkKnownUptoCardSaid : Prop := Claim7.holds Tryz.pinned (.plain (OpenSpec.upto markKnownSpec)) markKnownUptoCard

/-- THE SECOND FORM's CARD OF 'gantlinelaw7.MarkHeads'. -/
def markHeadsUptoCard : Claim7 := { stood := { row := markHeadsUptoRow, standIns := [], harness := (true, "18c9f5ff669edb603034104bbdca3e9900075ae757dcf3f90defa7622b765863"), looks := false }, kinds := [], alts := [], laidByText := true, laidKinds := [.data], laidTests := true, laidLooks := .later }
def MarkHeadsUptoCardSaid : Prop := Claim7.holds Tryz.pinned (.plain (OpenSpec.upto markHeadsSpec)) markHeadsUptoCard

/-- THE SECOND FORM's CARD OF 'gantlinelaw16.SchedKnown'. -/
def schedKnownUptoCard : Claim7 := { stood := { row := schedKnownUptoRow, standIns := [], harness := (true, "18c9f5ff669edb603034104bbdca3e9900075ae757dcf3f90defa7622b765863"), looks := false }, kinds := [], alts := [], laidByText := true, laidKinds := [.data], laidTests := true, laidLooks := .later }
def SchedKnownUptoCardSaid : Prop := Claim7.holds Tryz.pinned (.plain (OpenSpec.upto schedKnownSpec)) schedKnownUptoCard
end Rows
end Go.Proofs.YtdbmkdaoljbdoabGreatDoor
