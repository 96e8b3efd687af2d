/-
  DERIVED. GIVEN WITH THE SEED: THE CARDS: each row of YtdbmkdaoljbdoaaGreatDoorRows.lean that lists a variable, with what it lists TIED to the program's text (the seventh form; the later family's looks); each row that meets fmt, with fmt's text TOLD by the authors' own Lean function (tested against real Go, not proved from fmt's source: count such statements apart). THE CARD IS WHAT COUNTS. Prove the row's statement (the work); the ties are given (YtdbmkdaoljbdoaaGreatDoorTie.lean); close each card by the builder's one call (the guide's Derived/Test/ToyasCard.lean, 'card_holds'). Laid BY PROGRAM, IN A SANDBOX (cutbox-door.mjs). By AI agents, Wed Nov 11 2026. No macro, syntax, notation, axiom, sorry.
-/
import Derived.Test.YtdbmkdaoljbdoaaGreatDoorRows
import GoSem.ClaimSeven
namespace Go.Proofs.YtdbmkdaoljbdoaaGreatDoor
namespace Rows

/-- THE TIED CARD OF 'gantlinelaw14.HeapShades'. -/
def heapShadesCard : Claim7 := { stood := { row := heapShadesRow, standIns := [], harness := (true, "73b020f70e73b5fede2f9664cd1ec35f19f4ffaf02ae20c44ee7b0ca6bf8eb20"), looks := false }, kinds := [], alts := [], laidByText := true, laidKinds := [.data], laidTests := true, laidLooks := .later }
def HeapShadesCardSaid : Prop := Claim7.holds Tryz.pinned (.plain (OpenSpec.ofChange heapShadesSpec)) heapShadesCard

/-- THE SECOND FORM's CARD OF 'gantlinelaw14.HeapShades'. -/
def heapShadesUptoCard : Claim7 := { stood := { row := heapShadesUptoRow, standIns := [], harness := (true, "73b020f70e73b5fede2f9664cd1ec35f19f4ffaf02ae20c44ee7b0ca6bf8eb20"), looks := false }, kinds := [], alts := [], laidByText := true, laidKinds := [.data], laidTests := true, laidLooks := .later }
def HeapShadesUptoCardSaid : Prop := Claim7.holds Tryz.pinned (.plain (OpenSpec.upto heapShadesSpec)) heapShadesUptoCard
end Rows
end Go.Proofs.YtdbmkdaoljbdoaaGreatDoor
