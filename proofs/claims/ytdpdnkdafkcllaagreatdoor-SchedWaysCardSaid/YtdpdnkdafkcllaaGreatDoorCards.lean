/-
  DERIVED. GIVEN WITH THE SEED: THE CARDS: each row of YtdpdnkdafkcllaaGreatDoorRows.lean that lists a variable, with what it lists TIED to the program's text (the seventh form; the later family's looks); each row that meets fmt, with fmt's text TOLD by the authors' own Lean function (tested against real Go, not proved from fmt's source: count such statements apart). THE CARD IS WHAT COUNTS. Prove the row's statement (the work); the ties are given (YtdpdnkdafkcllaaGreatDoorTie.lean); close each card by the builder's one call (the guide's Derived/Test/ToyasCard.lean, 'card_holds'). Laid BY PROGRAM, IN A SANDBOX (cutbox-door.mjs). By AI agents, Wed Nov 11 2026. No macro, syntax, notation, axiom, sorry.
-/
import Derived.Test.YtdpdnkdafkcllaaGreatDoorRows
import GoSem.ClaimSeven
namespace Go.Proofs.YtdpdnkdafkcllaaGreatDoor
namespace Rows

/-- THE TIED CARD OF 'gantlinelaw16.SchedPairs'. -/
def schedPairsCard : Claim7 := { stood := { row := schedPairsRow, standIns := [], harness := (true, "1a01b777aa3a0825952b53870c52a4e2a5f92149248d8c83106fb77b8cd388db"), looks := false }, kinds := [], alts := [], laidByText := true, laidKinds := [.data], laidTests := true, laidLooks := .later }
def SchedPairsCardSaid : Prop := Claim7.holds Tryz.pinned (.plain (OpenSpec.ofChange schedPairsSpec)) schedPairsCard

/-- THE TIED CARD OF 'gantlinelaw16.SchedWays'. -/
def schedWaysCard : Claim7 := { stood := { row := schedWaysRow, standIns := [], harness := (true, "1a01b777aa3a0825952b53870c52a4e2a5f92149248d8c83106fb77b8cd388db"), looks := false }, kinds := [], alts := [], laidByText := true, laidKinds := [.data], laidTests := true, laidLooks := .later }
def SchedWaysCardSaid : Prop := Claim7.holds Tryz.pinned (.plain (OpenSpec.ofChange schedWaysSpec)) schedWaysCard

/-- THE SECOND FORM's CARD OF 'gantlinelaw16.SchedPairs'. -/
def schedPairsUptoCard : Claim7 := { stood := { row := schedPairsUptoRow, standIns := [], harness := (true, "1a01b777aa3a0825952b53870c52a4e2a5f92149248d8c83106fb77b8cd388db"), looks := false }, kinds := [], alts := [], laidByText := true, laidKinds := [.data], laidTests := true, laidLooks := .later }
def SchedPairsUptoCardSaid : Prop := Claim7.holds Tryz.pinned (.plain (OpenSpec.upto schedPairsSpec)) schedPairsUptoCard

/-- THE SECOND FORM's CARD OF 'gantlinelaw16.SchedWays'. -/
def schedWaysUptoCard : Claim7 := { stood := { row := schedWaysUptoRow, standIns := [], harness := (true, "1a01b777aa3a0825952b53870c52a4e2a5f92149248d8c83106fb77b8cd388db"), looks := false }, kinds := [], alts := [], laidByText := true, laidKinds := [.data], laidTests := true, laidLooks := .later }
def SchedWaysUptoCardSaid : Prop := Claim7.holds Tryz.pinned (.plain (OpenSpec.upto schedWaysSpec)) schedWaysUptoCard
end Rows
end Go.Proofs.YtdpdnkdafkcllaaGreatDoor
