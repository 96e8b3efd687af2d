/-
  DERIVED. GIVEN WITH THE SEED: THE CARDS: each row of YtdbmkdaoljbdoaaDoorRows.lean that lists a variable, with what it lists TIED to the program's text (the seventh form; the later family's looks); each row that meets fmt, with fmt's text TOLD by the authors' own Lean function (tested against real Go, not proved from fmt's source: count such statements apart). THE CARD IS WHAT COUNTS. Prove the row's statement (the work); the ties are given (YtdbmkdaoljbdoaaDoorTie.lean); close each card by the builder's one call (the guide's Derived/Test/ToyasCard.lean, 'card_holds'). Laid BY PROGRAM, IN A SANDBOX (cutbox-door.mjs). By AI agents, Wed Nov 11 2026. No macro, syntax, notation, axiom, sorry.
-/
import Derived.Test.YtdbmkdaoljbdoaaDoorRows
import GoSem.ClaimSeven
namespace Go.Proofs.YtdbmkdaoljbdoaaDoor
namespace Rows

/-- THE TIED CARD OF 'gantlinelaw14.HeapKnown'. -/
def heapKnownCard : Claim7 := { stood := { row := heapKnownRow, standIns := [], harness := (true, "681191147540b8ef3f1c7e8f3c37adf51fcb8a2db659e9be353593390a08e76b"), looks := false }, kinds := [], alts := [], laidByText := true, laidKinds := [.data], laidTests := true, laidLooks := .later }
def HeapKnownCardSaid : Prop := Claim7.holds Tryd.pinned (.plain (OpenSpec.ofChange heapKnownSpec)) heapKnownCard

/-- THE TIED CARD OF 'gantlinelaw14.HeapBounds'. -/
def heapBoundsCard : Claim7 := { stood := { row := heapBoundsRow, standIns := [], harness := (true, "681191147540b8ef3f1c7e8f3c37adf51fcb8a2db659e9be353593390a08e76b"), looks := false }, kinds := [], alts := [], laidByText := true, laidKinds := [.data], laidTests := true, laidLooks := .later }
def HeapBoundsCardSaid : Prop := Claim7.holds Tryd.pinned (.plain (OpenSpec.ofChange heapBoundsSpec)) heapBoundsCard

/-- THE SECOND FORM's CARD OF 'gantlinelaw14.HeapKnown'. -/
def heapKnownUptoCard : Claim7 := { stood := { row := heapKnownUptoRow, standIns := [], harness := (true, "681191147540b8ef3f1c7e8f3c37adf51fcb8a2db659e9be353593390a08e76b"), looks := false }, kinds := [], alts := [], laidByText := true, laidKinds := [.data], laidTests := true, laidLooks := .later }
def HeapKnownUptoCardSaid : Prop := Claim7.holds Tryd.pinned (.plain (OpenSpec.upto heapKnownSpec)) heapKnownUptoCard

/-- THE SECOND FORM's CARD OF 'gantlinelaw14.HeapBounds'. -/
def heapBoundsUptoCard : Claim7 := { stood := { row := heapBoundsUptoRow, standIns := [], harness := (true, "681191147540b8ef3f1c7e8f3c37adf51fcb8a2db659e9be353593390a08e76b"), looks := false }, kinds := [], alts := [], laidByText := true, laidKinds := [.data], laidTests := true, laidLooks := .later }
def HeapBoundsUptoCardSaid : Prop := Claim7.holds Tryd.pinned (.plain (OpenSpec.upto heapBoundsSpec)) heapBoundsUptoCard
end Rows
end Go.Proofs.YtdbmkdaoljbdoaaDoor
