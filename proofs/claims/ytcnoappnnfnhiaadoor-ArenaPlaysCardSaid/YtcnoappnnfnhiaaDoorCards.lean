/-
  DERIVED. GIVEN WITH THE SEED: THE CARDS: each row of YtcnoappnnfnhiaaDoorRows.lean that lists a variable, with what it lists TIED to the program's text (the seventh form; the later family's looks); each row that meets fmt, with fmt's text TOLD by the authors' own Lean function (tested against real Go, not proved from fmt's source: count such statements apart). THE CARD IS WHAT COUNTS. Prove the row's statement (the work); the ties are given (YtcnoappnnfnhiaaDoorTie.lean); close each card by the builder's one call (the guide's Derived/Test/ToyasCard.lean, 'card_holds'). Laid BY PROGRAM, IN A SANDBOX (cutbox-door.mjs). By AI agents, Wed Nov 11 2026. No macro, syntax, notation, axiom, sorry.
-/
import Derived.Test.YtcnoappnnfnhiaaDoorRows
import GoSem.ClaimSeven
namespace Go.Proofs.YtcnoappnnfnhiaaDoor
namespace Rows

/-- THE TIED CARD OF 'gantlinelaw4.ArenaPlays'. -/
def arenaPlaysCard : Claim7 := { stood := { row := arenaPlaysRow, standIns := [], harness := (true, "e41fcb78a85f4e9bcb0bda6043bf63eafb511dcd9447c9333d87137b1396bab3"), looks := false }, kinds := [], alts := [], laidByText := true, laidKinds := [.data], laidTests := true, laidLooks := .later }
def ArenaPlaysCardSaid : Prop := Claim7.holds Tryd.pinned (.plain (OpenSpec.ofChange arenaPlaysSpec)) arenaPlaysCard

/-- THE SECOND FORM's CARD OF 'gantlinelaw4.ArenaPlays'. -/
def arenaPlaysUptoCard : Claim7 := { stood := { row := arenaPlaysUptoRow, standIns := [], harness := (true, "e41fcb78a85f4e9bcb0bda6043bf63eafb511dcd9447c9333d87137b1396bab3"), looks := false }, kinds := [], alts := [], laidByText := true, laidKinds := [.data], laidTests := true, laidLooks := .later }
def ArenaPlaysUptoCardSaid : Prop := Claim7.holds Tryd.pinned (.plain (OpenSpec.upto arenaPlaysSpec)) arenaPlaysUptoCard
end Rows
end Go.Proofs.YtcnoappnnfnhiaaDoor
