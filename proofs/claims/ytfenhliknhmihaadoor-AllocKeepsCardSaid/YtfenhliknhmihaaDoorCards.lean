/-
  DERIVED. GIVEN WITH THE SEED: THE CARDS: each row of YtfenhliknhmihaaDoorRows.lean that lists a variable, with what it lists TIED to the program's text (the seventh form; the later family's looks); each row that meets fmt, with fmt's text TOLD by the authors' own Lean function (tested against real Go, not proved from fmt's source: count such statements apart). THE CARD IS WHAT COUNTS. Prove the row's statement (the work); the ties are given (YtfenhliknhmihaaDoorTie.lean); close each card by the builder's one call (the guide's Derived/Test/ToyasCard.lean, 'card_holds'). Laid BY PROGRAM, IN A SANDBOX (cutbox-door.mjs). By AI agents, Wed Nov 11 2026. No macro, syntax, notation, axiom, sorry.
-/
import Derived.Test.YtfenhliknhmihaaDoorRows
import GoSem.ClaimSeven
namespace Go.Proofs.YtfenhliknhmihaaDoor
namespace Rows

/-- THE TIED CARD OF 'gantlinelaw4.ArenaKnown'. -/
def arenaKnownCard : Claim7 := { stood := { row := arenaKnownRow, standIns := [], harness := (true, "bf21f328a232288139457bf074be915d7cf456371ccfc36b4c8dda5c551233b0"), looks := false }, kinds := [], alts := [], laidByText := true, laidKinds := [.data], laidTests := true, laidLooks := .later }
def ArenaKnownCardSaid : Prop := Claim7.holds Tryd.pinned (.plain (OpenSpec.ofChange arenaKnownSpec)) arenaKnownCard

/-- THE TIED CARD OF 'gantlinelaw4.ArenaPlays'. -/
def arenaPlaysCard : Claim7 := { stood := { row := arenaPlaysRow, standIns := [], harness := (true, "bf21f328a232288139457bf074be915d7cf456371ccfc36b4c8dda5c551233b0"), looks := false }, kinds := [], alts := [], laidByText := true, laidKinds := [.data], laidTests := true, laidLooks := .later }
def ArenaPlaysCardSaid : Prop := Claim7.holds Tryd.pinned (.plain (OpenSpec.ofChange arenaPlaysSpec)) arenaPlaysCard

/-- THE TIED CARD OF 'gantlinelaw4.ArenaApart'. -/
def arenaApartCard : Claim7 := { stood := { row := arenaApartRow, standIns := [], harness := (true, "bf21f328a232288139457bf074be915d7cf456371ccfc36b4c8dda5c551233b0"), looks := false }, kinds := [], alts := [], laidByText := true, laidKinds := [.data], laidTests := true, laidLooks := .later }
def ArenaApartCardSaid : Prop := Claim7.holds Tryd.pinned (.plain (OpenSpec.ofChange arenaApartSpec)) arenaApartCard

/-- THE TIED CARD OF 'gantlinelaw4.ArenaSweeps'. -/
def arenaSweepsCard : Claim7 := { stood := { row := arenaSweepsRow, standIns := [], harness := (true, "bf21f328a232288139457bf074be915d7cf456371ccfc36b4c8dda5c551233b0"), looks := false }, kinds := [], alts := [], laidByText := true, laidKinds := [.data], laidTests := true, laidLooks := .later }
def ArenaSweepsCardSaid : Prop := Claim7.holds Tryd.pinned (.plain (OpenSpec.ofChange arenaSweepsSpec)) arenaSweepsCard

/-- THE TIED CARD OF 'gantlinelaw4.ArenaCopies'. -/
def arenaCopiesCard : Claim7 := { stood := { row := arenaCopiesRow, standIns := [], harness := (true, "bf21f328a232288139457bf074be915d7cf456371ccfc36b4c8dda5c551233b0"), looks := false }, kinds := [], alts := [], laidByText := true, laidKinds := [.data], laidTests := true, laidLooks := .later }
def ArenaCopiesCardSaid : Prop := Claim7.holds Tryd.pinned (.plain (OpenSpec.ofChange arenaCopiesSpec)) arenaCopiesCard

/-- THE TIED CARD OF 'gantlinelaw5.AllocKnown'. -/
def allocKnownCard : Claim7 := { stood := { row := allocKnownRow, standIns := [], harness := (true, "bf21f328a232288139457bf074be915d7cf456371ccfc36b4c8dda5c551233b0"), looks := false }, kinds := [], alts := [], laidByText := true, laidKinds := [.data], laidTests := true, laidLooks := .later }
def AllocKnownCardSaid : Prop := Claim7.holds Tryd.pinned (.plain (OpenSpec.ofChange allocKnownSpec)) allocKnownCard

/-- THE TIED CARD OF 'gantlinelaw5.AllocFull'. -/
def allocFullCard : Claim7 := { stood := { row := allocFullRow, standIns := [], harness := (true, "bf21f328a232288139457bf074be915d7cf456371ccfc36b4c8dda5c551233b0"), looks := false }, kinds := [], alts := [], laidByText := true, laidKinds := [.data], laidTests := true, laidLooks := .later }
def AllocFullCardSaid : Prop := Claim7.holds Tryd.pinned (.plain (OpenSpec.ofChange allocFullSpec)) allocFullCard

/-- THE TIED CARD OF 'gantlinelaw5.AllocAgain'. -/
def allocAgainCard : Claim7 := { stood := { row := allocAgainRow, standIns := [], harness := (true, "bf21f328a232288139457bf074be915d7cf456371ccfc36b4c8dda5c551233b0"), looks := false }, kinds := [], alts := [], laidByText := true, laidKinds := [.data], laidTests := true, laidLooks := .later }
def AllocAgainCardSaid : Prop := Claim7.holds Tryd.pinned (.plain (OpenSpec.ofChange allocAgainSpec)) allocAgainCard

/-- THE TIED CARD OF 'gantlinelaw5.AllocKeeps'. -/
def allocKeepsCard : Claim7 := { stood := { row := allocKeepsRow, standIns := [], harness := (true, "bf21f328a232288139457bf074be915d7cf456371ccfc36b4c8dda5c551233b0"), looks := false }, kinds := [], alts := [], laidByText := true, laidKinds := [.data], laidTests := true, laidLooks := .later }
def AllocKeepsCardSaid : Prop := Claim7.holds Tryd.pinned (.plain (OpenSpec.ofChange allocKeepsSpec)) allocKeepsCard

/-- THE SECOND FORM's CARD OF 'gantlinelaw4.ArenaKnown'. -/
def arenaKnownUptoCard : Claim7 := { stood := { row := arenaKnownUptoRow, standIns := [], harness := (true, "bf21f328a232288139457bf074be915d7cf456371ccfc36b4c8dda5c551233b0"), looks := false }, kinds := [], alts := [], laidByText := true, laidKinds := [.data], laidTests := true, laidLooks := .later }
def ArenaKnownUptoCardSaid : Prop := Claim7.holds Tryd.pinned (.plain (OpenSpec.upto arenaKnownSpec)) arenaKnownUptoCard

/-- THE SECOND FORM's CARD OF 'gantlinelaw4.ArenaPlays'. -/
def arenaPlaysUptoCard : Claim7 := { stood := { row := arenaPlaysUptoRow, standIns := [], harness := (true, "bf21f328a232288139457bf074be915d7cf456371ccfc36b4c8dda5c551233b0"), looks := false }, kinds := [], alts := [], laidByText := true, laidKinds := [.data], laidTests := true, laidLooks := .later }
def ArenaPlaysUptoCardSaid : Prop := Claim7.holds Tryd.pinned (.plain (OpenSpec.upto arenaPlaysSpec)) arenaPlaysUptoCard

/-- THE SECOND FORM's CARD OF 'gantlinelaw4.ArenaApart'. -/
def arenaApartUptoCard : Claim7 := { stood := { row := arenaApartUptoRow, standIns := [], harness := (true, "bf21f328a232288139457bf074be915d7cf456371ccfc36b4c8dda5c551233b0"), looks := false }, kinds := [], alts := [], laidByText := true, laidKinds := [.data], laidTests := true, laidLooks := .later }
def ArenaApartUptoCardSaid : Prop := Claim7.holds Tryd.pinned (.plain (OpenSpec.upto arenaApartSpec)) arenaApartUptoCard

/-- THE SECOND FORM's CARD OF 'gantlinelaw4.ArenaSweeps'. -/
def arenaSweepsUptoCard : Claim7 := { stood := { row := arenaSweepsUptoRow, standIns := [], harness := (true, "bf21f328a232288139457bf074be915d7cf456371ccfc36b4c8dda5c551233b0"), looks := false }, kinds := [], alts := [], laidByText := true, laidKinds := [.data], laidTests := true, laidLooks := .later }
def ArenaSweepsUptoCardSaid : Prop := Claim7.holds Tryd.pinned (.plain (OpenSpec.upto arenaSweepsSpec)) arenaSweepsUptoCard

/-- THE SECOND FORM's CARD OF 'gantlinelaw4.ArenaCopies'. -/
def arenaCopiesUptoCard : Claim7 := { stood := { row := arenaCopiesUptoRow, standIns := [], harness := (true, "bf21f328a232288139457bf074be915d7cf456371ccfc36b4c8dda5c551233b0"), looks := false }, kinds := [], alts := [], laidByText := true, laidKinds := [.data], laidTests := true, laidLooks := .later }
def ArenaCopiesUptoCardSaid : Prop := Claim7.holds Tryd.pinned (.plain (OpenSpec.upto arenaCopiesSpec)) arenaCopiesUptoCard

/-- THE SECOND FORM's CARD OF 'gantlinelaw5.AllocKnown'. -/
def allocKnownUptoCard : Claim7 := { stood := { row := allocKnownUptoRow, standIns := [], harness := (true, "bf21f328a232288139457bf074be915d7cf456371ccfc36b4c8dda5c551233b0"), looks := false }, kinds := [], alts := [], laidByText := true, laidKinds := [.data], laidTests := true, laidLooks := .later }
def AllocKnownUptoCardSaid : Prop := Claim7.holds Tryd.pinned (.plain (OpenSpec.upto allocKnownSpec)) allocKnownUptoCard

/-- THE SECOND FORM's CARD OF 'gantlinelaw5.AllocFull'. -/
def allocFullUptoCard : Claim7 := { stood := { row := allocFullUptoRow, standIns := [], harness := (true, "bf21f328a232288139457bf074be915d7cf456371ccfc36b4c8dda5c551233b0"), looks := false }, kinds := [], alts := [], laidByText := true, laidKinds := [.data], laidTests := true, laidLooks := .later }
def AllocFullUptoCardSaid : Prop := Claim7.holds Tryd.pinned (.plain (OpenSpec.upto allocFullSpec)) allocFullUptoCard

/-- THE SECOND FORM's CARD OF 'gantlinelaw5.AllocAgain'. -/
def allocAgainUptoCard : Claim7 := { stood := { row := allocAgainUptoRow, standIns := [], harness := (true, "bf21f328a232288139457bf074be915d7cf456371ccfc36b4c8dda5c551233b0"), looks := false }, kinds := [], alts := [], laidByText := true, laidKinds := [.data], laidTests := true, laidLooks := .later }
def AllocAgainUptoCardSaid : Prop := Claim7.holds Tryd.pinned (.plain (OpenSpec.upto allocAgainSpec)) allocAgainUptoCard

/-- THE SECOND FORM's CARD OF 'gantlinelaw5.AllocKeeps'. -/
def allocKeepsUptoCard : Claim7 := { stood := { row := allocKeepsUptoRow, standIns := [], harness := (true, "bf21f328a232288139457bf074be915d7cf456371ccfc36b4c8dda5c551233b0"), looks := false }, kinds := [], alts := [], laidByText := true, laidKinds := [.data], laidTests := true, laidLooks := .later }
def AllocKeepsUptoCardSaid : Prop := Claim7.holds Tryd.pinned (.plain (OpenSpec.upto allocKeepsSpec)) allocKeepsUptoCard
end Rows
end Go.Proofs.YtfenhliknhmihaaDoor
