/-
  DERIVED. GIVEN WITH THE SEED: THE CARDS: each row of YtogbfnmeinmpaaaDoorRows.lean that lists a variable, with what it lists TIED to the program's text (the seventh form; the later family's looks); each row that meets fmt, with fmt's text TOLD by the authors' own Lean function (tested against real Go, not proved from fmt's source: count such statements apart). THE CARD IS WHAT COUNTS. Prove the row's statement (the work); the ties are given (YtogbfnmeinmpaaaDoorTie.lean); close each card by the builder's one call (the guide's Derived/Test/ToyasCard.lean, 'card_holds'). Laid BY PROGRAM, IN A SANDBOX (cutbox-door.mjs). By AI agents, Wed Nov 11 2026. No macro, syntax, notation, axiom, sorry.
-/
import Derived.Test.YtogbfnmeinmpaaaDoorRows
import GoSem.ClaimSeven
namespace Go.Proofs.YtogbfnmeinmpaaaDoor
namespace Rows

/-- THE TIED CARD OF 'gantlinelaw4.ArenaKnown'. -/
def arenaKnownCard : Claim7 := { stood := { row := arenaKnownRow, standIns := [], harness := (true, "d1b7c3e62276f3ac113f221722dd14a54aa8a304225ef7f9f970a054dba0beb6"), looks := false }, kinds := [], alts := [], laidByText := true, laidKinds := [.data], laidTests := true, laidLooks := .later }
def ArenaKnownCardSaid : Prop := Claim7.holds Tryd.pinned (.plain (OpenSpec.ofChange arenaKnownSpec)) arenaKnownCard

/-- THE TIED CARD OF 'gantlinelaw4.ArenaPlays'. -/
def arenaPlaysCard : Claim7 := { stood := { row := arenaPlaysRow, standIns := [], harness := (true, "d1b7c3e62276f3ac113f221722dd14a54aa8a304225ef7f9f970a054dba0beb6"), looks := false }, kinds := [], alts := [], laidByText := true, laidKinds := [.data], laidTests := true, laidLooks := .later }
def ArenaPlaysCardSaid : Prop := Claim7.holds Tryd.pinned (.plain (OpenSpec.ofChange arenaPlaysSpec)) arenaPlaysCard

/-- THE TIED CARD OF 'gantlinelaw4.ArenaApart'. -/
def arenaApartCard : Claim7 := { stood := { row := arenaApartRow, standIns := [], harness := (true, "d1b7c3e62276f3ac113f221722dd14a54aa8a304225ef7f9f970a054dba0beb6"), looks := false }, kinds := [], alts := [], laidByText := true, laidKinds := [.data], laidTests := true, laidLooks := .later }
def ArenaApartCardSaid : Prop := Claim7.holds Tryd.pinned (.plain (OpenSpec.ofChange arenaApartSpec)) arenaApartCard

/-- THE TIED CARD OF 'gantlinelaw4.ArenaSweeps'. -/
def arenaSweepsCard : Claim7 := { stood := { row := arenaSweepsRow, standIns := [], harness := (true, "d1b7c3e62276f3ac113f221722dd14a54aa8a304225ef7f9f970a054dba0beb6"), looks := false }, kinds := [], alts := [], laidByText := true, laidKinds := [.data], laidTests := true, laidLooks := .later }
def ArenaSweepsCardSaid : Prop := Claim7.holds Tryd.pinned (.plain (OpenSpec.ofChange arenaSweepsSpec)) arenaSweepsCard

/-- THE TIED CARD OF 'gantlinelaw4.ArenaCopies'. -/
def arenaCopiesCard : Claim7 := { stood := { row := arenaCopiesRow, standIns := [], harness := (true, "d1b7c3e62276f3ac113f221722dd14a54aa8a304225ef7f9f970a054dba0beb6"), looks := false }, kinds := [], alts := [], laidByText := true, laidKinds := [.data], laidTests := true, laidLooks := .later }
def ArenaCopiesCardSaid : Prop := Claim7.holds Tryd.pinned (.plain (OpenSpec.ofChange arenaCopiesSpec)) arenaCopiesCard

/-- THE TIED CARD OF 'gantlinelaw5.AllocKnown'. -/
def allocKnownCard : Claim7 := { stood := { row := allocKnownRow, standIns := [], harness := (true, "d1b7c3e62276f3ac113f221722dd14a54aa8a304225ef7f9f970a054dba0beb6"), looks := false }, kinds := [], alts := [], laidByText := true, laidKinds := [.data], laidTests := true, laidLooks := .later }
def AllocKnownCardSaid : Prop := Claim7.holds Tryd.pinned (.plain (OpenSpec.ofChange allocKnownSpec)) allocKnownCard

/-- THE TIED CARD OF 'gantlinelaw5.AllocFull'. -/
def allocFullCard : Claim7 := { stood := { row := allocFullRow, standIns := [], harness := (true, "d1b7c3e62276f3ac113f221722dd14a54aa8a304225ef7f9f970a054dba0beb6"), looks := false }, kinds := [], alts := [], laidByText := true, laidKinds := [.data], laidTests := true, laidLooks := .later }
def AllocFullCardSaid : Prop := Claim7.holds Tryd.pinned (.plain (OpenSpec.ofChange allocFullSpec)) allocFullCard

/-- THE TIED CARD OF 'gantlinelaw5.AllocAgain'. -/
def allocAgainCard : Claim7 := { stood := { row := allocAgainRow, standIns := [], harness := (true, "d1b7c3e62276f3ac113f221722dd14a54aa8a304225ef7f9f970a054dba0beb6"), looks := false }, kinds := [], alts := [], laidByText := true, laidKinds := [.data], laidTests := true, laidLooks := .later }
def AllocAgainCardSaid : Prop := Claim7.holds Tryd.pinned (.plain (OpenSpec.ofChange allocAgainSpec)) allocAgainCard

/-- THE TIED CARD OF 'gantlinelaw5.AllocKeeps'. -/
def allocKeepsCard : Claim7 := { stood := { row := allocKeepsRow, standIns := [], harness := (true, "d1b7c3e62276f3ac113f221722dd14a54aa8a304225ef7f9f970a054dba0beb6"), looks := false }, kinds := [], alts := [], laidByText := true, laidKinds := [.data], laidTests := true, laidLooks := .later }
def AllocKeepsCardSaid : Prop := Claim7.holds Tryd.pinned (.plain (OpenSpec.ofChange allocKeepsSpec)) allocKeepsCard

/-- THE TIED CARD OF 'gantlinelaw8.CycleKnown'. -/
def cycleKnownCard : Claim7 := { stood := { row := cycleKnownRow, standIns := [], harness := (true, "d1b7c3e62276f3ac113f221722dd14a54aa8a304225ef7f9f970a054dba0beb6"), looks := false }, kinds := [], alts := [], laidByText := true, laidKinds := [.data], laidTests := true, laidLooks := .later }
def CycleKnownCardSaid : Prop := Claim7.holds Tryd.pinned (.plain (OpenSpec.ofChange cycleKnownSpec)) cycleKnownCard

/-- THE TIED CARD OF 'gantlinelaw14.HeapKnown'. -/
def heapKnownCard : Claim7 := { stood := { row := heapKnownRow, standIns := [], harness := (true, "d1b7c3e62276f3ac113f221722dd14a54aa8a304225ef7f9f970a054dba0beb6"), looks := false }, kinds := [], alts := [], laidByText := true, laidKinds := [.data], laidTests := true, laidLooks := .later }
def HeapKnownCardSaid : Prop := Claim7.holds Tryd.pinned (.plain (OpenSpec.ofChange heapKnownSpec)) heapKnownCard

/-- THE TIED CARD OF 'gantlinelaw14.HeapPlays'. -/
def heapPlaysCard : Claim7 := { stood := { row := heapPlaysRow, standIns := [], harness := (true, "d1b7c3e62276f3ac113f221722dd14a54aa8a304225ef7f9f970a054dba0beb6"), looks := false }, kinds := [], alts := [], laidByText := true, laidKinds := [.data], laidTests := true, laidLooks := .later }
def HeapPlaysCardSaid : Prop := Claim7.holds Tryd.pinned (.plain (OpenSpec.ofChange heapPlaysSpec)) heapPlaysCard

/-- THE TIED CARD OF 'gantlinelaw14.HeapBounds'. -/
def heapBoundsCard : Claim7 := { stood := { row := heapBoundsRow, standIns := [], harness := (true, "d1b7c3e62276f3ac113f221722dd14a54aa8a304225ef7f9f970a054dba0beb6"), looks := false }, kinds := [], alts := [], laidByText := true, laidKinds := [.data], laidTests := true, laidLooks := .later }
def HeapBoundsCardSaid : Prop := Claim7.holds Tryd.pinned (.plain (OpenSpec.ofChange heapBoundsSpec)) heapBoundsCard

/-- THE TIED CARD OF 'gantlinelaw14.HeapForced'. -/
def heapForcedCard : Claim7 := { stood := { row := heapForcedRow, standIns := [], harness := (true, "d1b7c3e62276f3ac113f221722dd14a54aa8a304225ef7f9f970a054dba0beb6"), looks := false }, kinds := [], alts := [], laidByText := true, laidKinds := [.data], laidTests := true, laidLooks := .later }
def HeapForcedCardSaid : Prop := Claim7.holds Tryd.pinned (.plain (OpenSpec.ofChange heapForcedSpec)) heapForcedCard

/-- THE TIED CARD OF 'gantlinelaw15.ChansKnown'. -/
def chansKnownCard : Claim7 := { stood := { row := chansKnownRow, standIns := [], harness := (true, "d1b7c3e62276f3ac113f221722dd14a54aa8a304225ef7f9f970a054dba0beb6"), looks := false }, kinds := [], alts := [], laidByText := true, laidKinds := [.data], laidTests := true, laidLooks := .later }
def ChansKnownCardSaid : Prop := Claim7.holds Tryd.pinned (.plain (OpenSpec.ofChange chansKnownSpec)) chansKnownCard

/-- THE TIED CARD OF 'gantlinelaw15.ChansPlays'. -/
def chansPlaysCard : Claim7 := { stood := { row := chansPlaysRow, standIns := [], harness := (true, "d1b7c3e62276f3ac113f221722dd14a54aa8a304225ef7f9f970a054dba0beb6"), looks := false }, kinds := [], alts := [], laidByText := true, laidKinds := [.data], laidTests := true, laidLooks := .later }
def ChansPlaysCardSaid : Prop := Claim7.holds Tryd.pinned (.plain (OpenSpec.ofChange chansPlaysSpec)) chansPlaysCard

/-- THE TIED CARD OF 'gantlinelaw15.ChansRing'. -/
def chansRingCard : Claim7 := { stood := { row := chansRingRow, standIns := [], harness := (true, "d1b7c3e62276f3ac113f221722dd14a54aa8a304225ef7f9f970a054dba0beb6"), looks := false }, kinds := [], alts := [], laidByText := true, laidKinds := [.data], laidTests := true, laidLooks := .later }
def ChansRingCardSaid : Prop := Claim7.holds Tryd.pinned (.plain (OpenSpec.ofChange chansRingSpec)) chansRingCard

/-- THE TIED CARD OF 'gantlinelaw15.ChansHolds'. -/
def chansHoldsCard : Claim7 := { stood := { row := chansHoldsRow, standIns := [], harness := (true, "d1b7c3e62276f3ac113f221722dd14a54aa8a304225ef7f9f970a054dba0beb6"), looks := false }, kinds := [], alts := [], laidByText := true, laidKinds := [.data], laidTests := true, laidLooks := .later }
def ChansHoldsCardSaid : Prop := Claim7.holds Tryd.pinned (.plain (OpenSpec.ofChange chansHoldsSpec)) chansHoldsCard

/-- THE SECOND FORM's CARD OF 'gantlinelaw4.ArenaKnown'. -/
def arenaKnownUptoCard : Claim7 := { stood := { row := arenaKnownUptoRow, standIns := [], harness := (true, "d1b7c3e62276f3ac113f221722dd14a54aa8a304225ef7f9f970a054dba0beb6"), looks := false }, kinds := [], alts := [], laidByText := true, laidKinds := [.data], laidTests := true, laidLooks := .later }
def ArenaKnownUptoCardSaid : Prop := Claim7.holds Tryd.pinned (.plain (OpenSpec.upto arenaKnownSpec)) arenaKnownUptoCard

/-- THE SECOND FORM's CARD OF 'gantlinelaw4.ArenaPlays'. -/
def arenaPlaysUptoCard : Claim7 := { stood := { row := arenaPlaysUptoRow, standIns := [], harness := (true, "d1b7c3e62276f3ac113f221722dd14a54aa8a304225ef7f9f970a054dba0beb6"), looks := false }, kinds := [], alts := [], laidByText := true, laidKinds := [.data], laidTests := true, laidLooks := .later }
def ArenaPlaysUptoCardSaid : Prop := Claim7.holds Tryd.pinned (.plain (OpenSpec.upto arenaPlaysSpec)) arenaPlaysUptoCard

/-- THE SECOND FORM's CARD OF 'gantlinelaw4.ArenaApart'. -/
def arenaApartUptoCard : Claim7 := { stood := { row := arenaApartUptoRow, standIns := [], harness := (true, "d1b7c3e62276f3ac113f221722dd14a54aa8a304225ef7f9f970a054dba0beb6"), looks := false }, kinds := [], alts := [], laidByText := true, laidKinds := [.data], laidTests := true, laidLooks := .later }
def ArenaApartUptoCardSaid : Prop := Claim7.holds Tryd.pinned (.plain (OpenSpec.upto arenaApartSpec)) arenaApartUptoCard

/-- THE SECOND FORM's CARD OF 'gantlinelaw4.ArenaSweeps'. -/
def arenaSweepsUptoCard : Claim7 := { stood := { row := arenaSweepsUptoRow, standIns := [], harness := (true, "d1b7c3e62276f3ac113f221722dd14a54aa8a304225ef7f9f970a054dba0beb6"), looks := false }, kinds := [], alts := [], laidByText := true, laidKinds := [.data], laidTests := true, laidLooks := .later }
def ArenaSweepsUptoCardSaid : Prop := Claim7.holds Tryd.pinned (.plain (OpenSpec.upto arenaSweepsSpec)) arenaSweepsUptoCard

/-- THE SECOND FORM's CARD OF 'gantlinelaw4.ArenaCopies'. -/
def arenaCopiesUptoCard : Claim7 := { stood := { row := arenaCopiesUptoRow, standIns := [], harness := (true, "d1b7c3e62276f3ac113f221722dd14a54aa8a304225ef7f9f970a054dba0beb6"), looks := false }, kinds := [], alts := [], laidByText := true, laidKinds := [.data], laidTests := true, laidLooks := .later }
def ArenaCopiesUptoCardSaid : Prop := Claim7.holds Tryd.pinned (.plain (OpenSpec.upto arenaCopiesSpec)) arenaCopiesUptoCard

/-- THE SECOND FORM's CARD OF 'gantlinelaw5.AllocKnown'. -/
def allocKnownUptoCard : Claim7 := { stood := { row := allocKnownUptoRow, standIns := [], harness := (true, "d1b7c3e62276f3ac113f221722dd14a54aa8a304225ef7f9f970a054dba0beb6"), looks := false }, kinds := [], alts := [], laidByText := true, laidKinds := [.data], laidTests := true, laidLooks := .later }
def AllocKnownUptoCardSaid : Prop := Claim7.holds Tryd.pinned (.plain (OpenSpec.upto allocKnownSpec)) allocKnownUptoCard

/-- THE SECOND FORM's CARD OF 'gantlinelaw5.AllocFull'. -/
def allocFullUptoCard : Claim7 := { stood := { row := allocFullUptoRow, standIns := [], harness := (true, "d1b7c3e62276f3ac113f221722dd14a54aa8a304225ef7f9f970a054dba0beb6"), looks := false }, kinds := [], alts := [], laidByText := true, laidKinds := [.data], laidTests := true, laidLooks := .later }
def AllocFullUptoCardSaid : Prop := Claim7.holds Tryd.pinned (.plain (OpenSpec.upto allocFullSpec)) allocFullUptoCard

/-- THE SECOND FORM's CARD OF 'gantlinelaw5.AllocAgain'. -/
def allocAgainUptoCard : Claim7 := { stood := { row := allocAgainUptoRow, standIns := [], harness := (true, "d1b7c3e62276f3ac113f221722dd14a54aa8a304225ef7f9f970a054dba0beb6"), looks := false }, kinds := [], alts := [], laidByText := true, laidKinds := [.data], laidTests := true, laidLooks := .later }
def AllocAgainUptoCardSaid : Prop := Claim7.holds Tryd.pinned (.plain (OpenSpec.upto allocAgainSpec)) allocAgainUptoCard

/-- THE SECOND FORM's CARD OF 'gantlinelaw5.AllocKeeps'. -/
def allocKeepsUptoCard : Claim7 := { stood := { row := allocKeepsUptoRow, standIns := [], harness := (true, "d1b7c3e62276f3ac113f221722dd14a54aa8a304225ef7f9f970a054dba0beb6"), looks := false }, kinds := [], alts := [], laidByText := true, laidKinds := [.data], laidTests := true, laidLooks := .later }
def AllocKeepsUptoCardSaid : Prop := Claim7.holds Tryd.pinned (.plain (OpenSpec.upto allocKeepsSpec)) allocKeepsUptoCard

/-- THE SECOND FORM's CARD OF 'gantlinelaw8.CycleKnown'. -/
def cycleKnownUptoCard : Claim7 := { stood := { row := cycleKnownUptoRow, standIns := [], harness := (true, "d1b7c3e62276f3ac113f221722dd14a54aa8a304225ef7f9f970a054dba0beb6"), looks := false }, kinds := [], alts := [], laidByText := true, laidKinds := [.data], laidTests := true, laidLooks := .later }
def CycleKnownUptoCardSaid : Prop := Claim7.holds Tryd.pinned (.plain (OpenSpec.upto cycleKnownSpec)) cycleKnownUptoCard

/-- THE SECOND FORM's CARD OF 'gantlinelaw14.HeapKnown'. -/
def heapKnownUptoCard : Claim7 := { stood := { row := heapKnownUptoRow, standIns := [], harness := (true, "d1b7c3e62276f3ac113f221722dd14a54aa8a304225ef7f9f970a054dba0beb6"), looks := false }, kinds := [], alts := [], laidByText := true, laidKinds := [.data], laidTests := true, laidLooks := .later }
def HeapKnownUptoCardSaid : Prop := Claim7.holds Tryd.pinned (.plain (OpenSpec.upto heapKnownSpec)) heapKnownUptoCard

/-- THE SECOND FORM's CARD OF 'gantlinelaw14.HeapPlays'. -/
def heapPlaysUptoCard : Claim7 := { stood := { row := heapPlaysUptoRow, standIns := [], harness := (true, "d1b7c3e62276f3ac113f221722dd14a54aa8a304225ef7f9f970a054dba0beb6"), looks := false }, kinds := [], alts := [], laidByText := true, laidKinds := [.data], laidTests := true, laidLooks := .later }
def HeapPlaysUptoCardSaid : Prop := Claim7.holds Tryd.pinned (.plain (OpenSpec.upto heapPlaysSpec)) heapPlaysUptoCard

/-- THE SECOND FORM's CARD OF 'gantlinelaw14.HeapBounds'. -/
def heapBoundsUptoCard : Claim7 := { stood := { row := heapBoundsUptoRow, standIns := [], harness := (true, "d1b7c3e62276f3ac113f221722dd14a54aa8a304225ef7f9f970a054dba0beb6"), looks := false }, kinds := [], alts := [], laidByText := true, laidKinds := [.data], laidTests := true, laidLooks := .later }
def HeapBoundsUptoCardSaid : Prop := Claim7.holds Tryd.pinned (.plain (OpenSpec.upto heapBoundsSpec)) heapBoundsUptoCard

/-- THE SECOND FORM's CARD OF 'gantlinelaw14.HeapForced'. -/
def heapForcedUptoCard : Claim7 := { stood := { row := heapForcedUptoRow, standIns := [], harness := (true, "d1b7c3e62276f3ac113f221722dd14a54aa8a304225ef7f9f970a054dba0beb6"), looks := false }, kinds := [], alts := [], laidByText := true, laidKinds := [.data], laidTests := true, laidLooks := .later }
def HeapForcedUptoCardSaid : Prop := Claim7.holds Tryd.pinned (.plain (OpenSpec.upto heapForcedSpec)) heapForcedUptoCard

/-- THE SECOND FORM's CARD OF 'gantlinelaw15.ChansKnown'. -/
def chansKnownUptoCard : Claim7 := { stood := { row := chansKnownUptoRow, standIns := [], harness := (true, "d1b7c3e62276f3ac113f221722dd14a54aa8a304225ef7f9f970a054dba0beb6"), looks := false }, kinds := [], alts := [], laidByText := true, laidKinds := [.data], laidTests := true, laidLooks := .later }
def ChansKnownUptoCardSaid : Prop := Claim7.holds Tryd.pinned (.plain (OpenSpec.upto chansKnownSpec)) chansKnownUptoCard

/-- THE SECOND FORM's CARD OF 'gantlinelaw15.ChansPlays'. -/
def chansPlaysUptoCard : Claim7 := { stood := { row := chansPlaysUptoRow, standIns := [], harness := (true, "d1b7c3e62276f3ac113f221722dd14a54aa8a304225ef7f9f970a054dba0beb6"), looks := false }, kinds := [], alts := [], laidByText := true, laidKinds := [.data], laidTests := true, laidLooks := .later }
def ChansPlaysUptoCardSaid : Prop := Claim7.holds Tryd.pinned (.plain (OpenSpec.upto chansPlaysSpec)) chansPlaysUptoCard

/-- THE SECOND FORM's CARD OF 'gantlinelaw15.ChansRing'. -/
def chansRingUptoCard : Claim7 := { stood := { row := chansRingUptoRow, standIns := [], harness := (true, "d1b7c3e62276f3ac113f221722dd14a54aa8a304225ef7f9f970a054dba0beb6"), looks := false }, kinds := [], alts := [], laidByText := true, laidKinds := [.data], laidTests := true, laidLooks := .later }
def ChansRingUptoCardSaid : Prop := Claim7.holds Tryd.pinned (.plain (OpenSpec.upto chansRingSpec)) chansRingUptoCard

/-- THE SECOND FORM's CARD OF 'gantlinelaw15.ChansHolds'. -/
def chansHoldsUptoCard : Claim7 := { stood := { row := chansHoldsUptoRow, standIns := [], harness := (true, "d1b7c3e62276f3ac113f221722dd14a54aa8a304225ef7f9f970a054dba0beb6"), looks := false }, kinds := [], alts := [], laidByText := true, laidKinds := [.data], laidTests := true, laidLooks := .later }
def ChansHoldsUptoCardSaid : Prop := Claim7.holds Tryd.pinned (.plain (OpenSpec.upto chansHoldsSpec)) chansHoldsUptoCard
end Rows
end Go.Proofs.YtogbfnmeinmpaaaDoor
