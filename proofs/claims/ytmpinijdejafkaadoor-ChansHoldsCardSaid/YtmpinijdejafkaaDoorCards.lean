/-
  DERIVED. GIVEN WITH THE SEED: THE CARDS: each row of YtmpinijdejafkaaDoorRows.lean that lists a variable, with what it lists TIED to the program's text (the seventh form; the later family's looks); each row that meets fmt, with fmt's text TOLD by the authors' own Lean function (tested against real Go, not proved from fmt's source: count such statements apart). THE CARD IS WHAT COUNTS. Prove the row's statement (the work); the ties are given (YtmpinijdejafkaaDoorTie.lean); close each card by the builder's one call (the guide's Derived/Test/ToyasCard.lean, 'card_holds'). Laid BY PROGRAM, IN A SANDBOX (cutbox-door.mjs). By AI agents, Wed Nov 11 2026. No macro, syntax, notation, axiom, sorry.
-/
import Derived.Test.YtmpinijdejafkaaDoorRows
import GoSem.ClaimSeven
namespace Go.Proofs.YtmpinijdejafkaaDoor
namespace Rows

/-- THE TIED CARD OF 'gantlinelaw14.HeapPlays'. -/
def heapPlaysCard : Claim7 := { stood := { row := heapPlaysRow, standIns := [], harness := (true, "f555761626004f59d7086793a537e18d2c4561a5fd0fa279ee95035c978fad4d"), looks := false }, kinds := [], alts := [], laidByText := true, laidKinds := [.data], laidTests := true, laidLooks := .later }
def HeapPlaysCardSaid : Prop := Claim7.holds Tryd.pinned (.plain (OpenSpec.ofChange heapPlaysSpec)) heapPlaysCard

/-- THE TIED CARD OF 'gantlinelaw14.HeapBounds'. -/
def heapBoundsCard : Claim7 := { stood := { row := heapBoundsRow, standIns := [], harness := (true, "f555761626004f59d7086793a537e18d2c4561a5fd0fa279ee95035c978fad4d"), looks := false }, kinds := [], alts := [], laidByText := true, laidKinds := [.data], laidTests := true, laidLooks := .later }
def HeapBoundsCardSaid : Prop := Claim7.holds Tryd.pinned (.plain (OpenSpec.ofChange heapBoundsSpec)) heapBoundsCard

/-- THE TIED CARD OF 'gantlinelaw14.HeapForced'. -/
def heapForcedCard : Claim7 := { stood := { row := heapForcedRow, standIns := [], harness := (true, "f555761626004f59d7086793a537e18d2c4561a5fd0fa279ee95035c978fad4d"), looks := false }, kinds := [], alts := [], laidByText := true, laidKinds := [.data], laidTests := true, laidLooks := .later }
def HeapForcedCardSaid : Prop := Claim7.holds Tryd.pinned (.plain (OpenSpec.ofChange heapForcedSpec)) heapForcedCard

/-- THE TIED CARD OF 'gantlinelaw15.ChansPlays'. -/
def chansPlaysCard : Claim7 := { stood := { row := chansPlaysRow, standIns := [], harness := (true, "f555761626004f59d7086793a537e18d2c4561a5fd0fa279ee95035c978fad4d"), looks := false }, kinds := [], alts := [], laidByText := true, laidKinds := [.data], laidTests := true, laidLooks := .later }
def ChansPlaysCardSaid : Prop := Claim7.holds Tryd.pinned (.plain (OpenSpec.ofChange chansPlaysSpec)) chansPlaysCard

/-- THE TIED CARD OF 'gantlinelaw15.ChansRing'. -/
def chansRingCard : Claim7 := { stood := { row := chansRingRow, standIns := [], harness := (true, "f555761626004f59d7086793a537e18d2c4561a5fd0fa279ee95035c978fad4d"), looks := false }, kinds := [], alts := [], laidByText := true, laidKinds := [.data], laidTests := true, laidLooks := .later }
def ChansRingCardSaid : Prop := Claim7.holds Tryd.pinned (.plain (OpenSpec.ofChange chansRingSpec)) chansRingCard

/-- THE TIED CARD OF 'gantlinelaw15.ChansHolds'. -/
def chansHoldsCard : Claim7 := { stood := { row := chansHoldsRow, standIns := [], harness := (true, "f555761626004f59d7086793a537e18d2c4561a5fd0fa279ee95035c978fad4d"), looks := false }, kinds := [], alts := [], laidByText := true, laidKinds := [.data], laidTests := true, laidLooks := .later }
def ChansHoldsCardSaid : Prop := Claim7.holds Tryd.pinned (.plain (OpenSpec.ofChange chansHoldsSpec)) chansHoldsCard

/-- THE SECOND FORM's CARD OF 'gantlinelaw14.HeapPlays'. -/
def heapPlaysUptoCard : Claim7 := { stood := { row := heapPlaysUptoRow, standIns := [], harness := (true, "f555761626004f59d7086793a537e18d2c4561a5fd0fa279ee95035c978fad4d"), looks := false }, kinds := [], alts := [], laidByText := true, laidKinds := [.data], laidTests := true, laidLooks := .later }
def HeapPlaysUptoCardSaid : Prop := Claim7.holds Tryd.pinned (.plain (OpenSpec.upto heapPlaysSpec)) heapPlaysUptoCard

/-- THE SECOND FORM's CARD OF 'gantlinelaw14.HeapBounds'. -/
def heapBoundsUptoCard : Claim7 := { stood := { row := heapBoundsUptoRow, standIns := [], harness := (true, "f555761626004f59d7086793a537e18d2c4561a5fd0fa279ee95035c978fad4d"), looks := false }, kinds := [], alts := [], laidByText := true, laidKinds := [.data], laidTests := true, laidLooks := .later }
def HeapBoundsUptoCardSaid : Prop := Claim7.holds Tryd.pinned (.plain (OpenSpec.upto heapBoundsSpec)) heapBoundsUptoCard

/-- THE SECOND FORM's CARD OF 'gantlinelaw14.HeapForced'. -/
def heapForcedUptoCard : Claim7 := { stood := { row := heapForcedUptoRow, standIns := [], harness := (true, "f555761626004f59d7086793a537e18d2c4561a5fd0fa279ee95035c978fad4d"), looks := false }, kinds := [], alts := [], laidByText := true, laidKinds := [.data], laidTests := true, laidLooks := .later }
def HeapForcedUptoCardSaid : Prop := Claim7.holds Tryd.pinned (.plain (OpenSpec.upto heapForcedSpec)) heapForcedUptoCard

/-- THE SECOND FORM's CARD OF 'gantlinelaw15.ChansPlays'. -/
def chansPlaysUptoCard : Claim7 := { stood := { row := chansPlaysUptoRow, standIns := [], harness := (true, "f555761626004f59d7086793a537e18d2c4561a5fd0fa279ee95035c978fad4d"), looks := false }, kinds := [], alts := [], laidByText := true, laidKinds := [.data], laidTests := true, laidLooks := .later }
def ChansPlaysUptoCardSaid : Prop := Claim7.holds Tryd.pinned (.plain (OpenSpec.upto chansPlaysSpec)) chansPlaysUptoCard

/-- THE SECOND FORM's CARD OF 'gantlinelaw15.ChansRing'. -/
def chansRingUptoCard : Claim7 := { stood := { row := chansRingUptoRow, standIns := [], harness := (true, "f555761626004f59d7086793a537e18d2c4561a5fd0fa279ee95035c978fad4d"), looks := false }, kinds := [], alts := [], laidByText := true, laidKinds := [.data], laidTests := true, laidLooks := .later }
def ChansRingUptoCardSaid : Prop := Claim7.holds Tryd.pinned (.plain (OpenSpec.upto chansRingSpec)) chansRingUptoCard

/-- THE SECOND FORM's CARD OF 'gantlinelaw15.ChansHolds'. -/
def chansHoldsUptoCard : Claim7 := { stood := { row := chansHoldsUptoRow, standIns := [], harness := (true, "f555761626004f59d7086793a537e18d2c4561a5fd0fa279ee95035c978fad4d"), looks := false }, kinds := [], alts := [], laidByText := true, laidKinds := [.data], laidTests := true, laidLooks := .later }
def ChansHoldsUptoCardSaid : Prop := Claim7.holds Tryd.pinned (.plain (OpenSpec.upto chansHoldsSpec)) chansHoldsUptoCard
end Rows
end Go.Proofs.YtmpinijdejafkaaDoor
