/-
  DERIVED. GIVEN WITH THE SEED: THE CARDS: each row of YtbpocaemdabegaaGreatDoorRows.lean that lists a variable, with what it lists TIED to the program's text (the seventh form; the later family's looks); each row that meets fmt, with fmt's text TOLD by the authors' own Lean function (tested against real Go, not proved from fmt's source: count such statements apart). THE CARD IS WHAT COUNTS. Prove the row's statement (the work); the ties are given (YtbpocaemdabegaaGreatDoorTie.lean); close each card by the builder's one call (the guide's Derived/Test/ToyasCard.lean, 'card_holds'). Laid BY PROGRAM, IN A SANDBOX (cutbox-door.mjs). By AI agents, Wed Nov 11 2026. No macro, syntax, notation, axiom, sorry.
-/
import Derived.Test.YtbpocaemdabegaaGreatDoorRows
import GoSem.ClaimSeven
namespace Go.Proofs.YtbpocaemdabegaaGreatDoor
namespace Rows

/-- THE TIED CARD OF 'gantlinelaw14.HeapShades'. -/
def heapShadesCard : Claim7 := { stood := { row := heapShadesRow, standIns := [], harness := (true, "d368ea5324eba67fb1dee25a44545bc679fa910e12ad890e1930a53bdac8bebb"), looks := false }, kinds := [], alts := [], laidByText := true, laidKinds := [.data], laidTests := true, laidLooks := .later }
def HeapShadesCardSaid : Prop := Claim7.holds Tryz.pinned (.plain (OpenSpec.ofChange heapShadesSpec)) heapShadesCard

/-- THE TIED CARD OF 'gantlinelaw15.ChansShades'. -/
def chansShadesCard : Claim7 := { stood := { row := chansShadesRow, standIns := [], harness := (true, "d368ea5324eba67fb1dee25a44545bc679fa910e12ad890e1930a53bdac8bebb"), looks := false }, kinds := [], alts := [], laidByText := true, laidKinds := [.data], laidTests := true, laidLooks := .later }
def ChansShadesCardSaid : Prop := Claim7.holds Tryz.pinned (.plain (OpenSpec.ofChange chansShadesSpec)) chansShadesCard

/-- THE SECOND FORM's CARD OF 'gantlinelaw14.HeapShades'. -/
def heapShadesUptoCard : Claim7 := { stood := { row := heapShadesUptoRow, standIns := [], harness := (true, "d368ea5324eba67fb1dee25a44545bc679fa910e12ad890e1930a53bdac8bebb"), looks := false }, kinds := [], alts := [], laidByText := true, laidKinds := [.data], laidTests := true, laidLooks := .later }
def HeapShadesUptoCardSaid : Prop := Claim7.holds Tryz.pinned (.plain (OpenSpec.upto heapShadesSpec)) heapShadesUptoCard

/-- THE SECOND FORM's CARD OF 'gantlinelaw15.ChansShades'. -/
def chansShadesUptoCard : Claim7 := { stood := { row := chansShadesUptoRow, standIns := [], harness := (true, "d368ea5324eba67fb1dee25a44545bc679fa910e12ad890e1930a53bdac8bebb"), looks := false }, kinds := [], alts := [], laidByText := true, laidKinds := [.data], laidTests := true, laidLooks := .later }
def ChansShadesUptoCardSaid : Prop := Claim7.holds Tryz.pinned (.plain (OpenSpec.upto chansShadesSpec)) chansShadesUptoCard
end Rows
end Go.Proofs.YtbpocaemdabegaaGreatDoor
