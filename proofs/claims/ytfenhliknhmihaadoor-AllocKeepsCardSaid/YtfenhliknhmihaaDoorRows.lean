/-
  NARROWER THAN 'FOR EVERY INPUT', by the rows' own cells (each row's printed sentence says how): ArenaKnown: laid · ArenaPlays: laid · ArenaApart: laid · ArenaSweeps: laid · ArenaCopies: laid · AllocKnown: laid · AllocFull: laid · AllocAgain: laid · AllocKeeps: laid.
  DERIVED. THE GIVEN ROWS OF THIS SEAT. 9 by the template 'for every input the law returns true; each argument reads behind the call as it read before'; 0 by the template 'total and deterministic' (their statements: YtfenhliknhmihaaDoorTotals.lean).
  GIVEN WITH THE SEED: the statements are not yours to turn. If you find one false, say at which input.
  Laid BY PROGRAM, IN A SANDBOX (cutbox-rows.mjs): the forced cells as the released guide's own fill.sh prints them over the translation 04ef2d6c0a048db7… (all of the seat's roots in one cut). By AI agents, Wed Nov 11 2026. No macro, syntax, notation, axiom, sorry.
-/
import Derived.Test.YtfenhliknhmihaaDoorChecked
import GoSem.Claim
import GoSem.ClaimJoined
import GoSem.ClaimMapViews
import Derived.JoinedTies
import Derived.KernelRfl
namespace Go.Proofs.YtfenhliknhmihaaDoor
/- THE CELL 'sum', in the pinned program and in every row, IS THE sha256 OF THE DUMP (.gsa) THAT YtfenhliknhmihaaDoorProg.lean LOADS. Nothing in Lean hashes anything: it is a label: what it is worth is what the hold of that sum in a sandbox is worth. -/
noncomputable def Tryd.pinned : Pinned := { name := "ytfenhliknhmihaadoor", sum := "04ef2d6c0a048db7687874aa8a364f816804b6bb0cf9a62560fb20abc1664f8c", checked := Tryd.checked }
namespace Rows
def none {H : Type} : Left H := { results := [], args := [] }

/- WHAT THE LISTED PACKAGE-LEVEL VARIABLES READ AS WHEN THE CALL BEGINS. Each datum BY PROGRAM (the guide's laid-datum.mjs) off the statement by which the dump's own 'gosem.cut.vars' lays the variable. In a bare row this is a premise. The card (YtfenhliknhmihaaDoorCards.lean) ties it to the program's text. -/
def laid_math_bits_deBruijn64tab {H : Type} : DataW H := .agg [.lit (.int .u8 0), .lit (.int .u8 1), .lit (.int .u8 56), .lit (.int .u8 2), .lit (.int .u8 57), .lit (.int .u8 49), .lit (.int .u8 28), .lit (.int .u8 3), .lit (.int .u8 61), .lit (.int .u8 58), .lit (.int .u8 42), .lit (.int .u8 50), .lit (.int .u8 38), .lit (.int .u8 29), .lit (.int .u8 17), .lit (.int .u8 4), .lit (.int .u8 62), .lit (.int .u8 47), .lit (.int .u8 59), .lit (.int .u8 36), .lit (.int .u8 45), .lit (.int .u8 43), .lit (.int .u8 51), .lit (.int .u8 22), .lit (.int .u8 53), .lit (.int .u8 39), .lit (.int .u8 33), .lit (.int .u8 30), .lit (.int .u8 24), .lit (.int .u8 18), .lit (.int .u8 12), .lit (.int .u8 5), .lit (.int .u8 63), .lit (.int .u8 55), .lit (.int .u8 48), .lit (.int .u8 27), .lit (.int .u8 60), .lit (.int .u8 41), .lit (.int .u8 37), .lit (.int .u8 16), .lit (.int .u8 46), .lit (.int .u8 35), .lit (.int .u8 44), .lit (.int .u8 21), .lit (.int .u8 52), .lit (.int .u8 32), .lit (.int .u8 23), .lit (.int .u8 11), .lit (.int .u8 54), .lit (.int .u8 26), .lit (.int .u8 40), .lit (.int .u8 15), .lit (.int .u8 34), .lit (.int .u8 20), .lit (.int .u8 31), .lit (.int .u8 10), .lit (.int .u8 25), .lit (.int .u8 14), .lit (.int .u8 19), .lit (.int .u8 9), .lit (.int .u8 13), .lit (.int .u8 8), .lit (.int .u8 7), .lit (.int .u8 6)]

/-- 'gantlinelaw4.ArenaKnown': WHATEVER THE INPUT: true; the input reads as it did. -/
def arenaKnownSpec : ChangeSpec := { name := "arenaKnown", fn := fun _ => fun
  | [] => { results := [.lit (.bool true)], args := [] }
  | _ => none }
def arenaKnownRow : OpenClaim := { program := "ytfenhliknhmihaadoor", sum := "04ef2d6c0a048db7687874aa8a364f816804b6bb0cf9a62560fb20abc1664f8c", func := "gantline/gantlinelaw4.ArenaKnown", spec := "arenaKnown", named := ["math/bits.deBruijn64tab"], apart := false, laid := [("math/bits.deBruijn64tab", laid_math_bits_deBruijn64tab)] }
def ArenaKnownSaid : Prop := arenaKnownRow.holds Tryd.pinned (OpenSpec.ofChange arenaKnownSpec)

/-- ITS FALSE NEIGHBOUR: 'it returns false'. Refute it at one input. -/
def arenaKnownWrong : ChangeSpec := { name := "arenaKnown", fn := fun _ => fun
  | [] => { results := [.lit (.bool false)], args := [] }
  | _ => none }
def ArenaKnownWrongFalsely : Prop := arenaKnownRow.holds Tryd.pinned (OpenSpec.ofChange arenaKnownWrong)

/-- 'gantlinelaw4.ArenaPlays': WHATEVER THE INPUT: true; the input reads as it did. -/
def arenaPlaysSpec : ChangeSpec := { name := "arenaPlays", fn := fun _ => fun
  | [d1, d2] => { results := [.lit (.bool true)], args := [d1, d2] }
  | _ => none }
def arenaPlaysRow : OpenClaim := { program := "ytfenhliknhmihaadoor", sum := "04ef2d6c0a048db7687874aa8a364f816804b6bb0cf9a62560fb20abc1664f8c", func := "gantline/gantlinelaw4.ArenaPlays", spec := "arenaPlays", named := ["math/bits.deBruijn64tab"], apart := false, laid := [("math/bits.deBruijn64tab", laid_math_bits_deBruijn64tab)] }
def ArenaPlaysSaid : Prop := arenaPlaysRow.holds Tryd.pinned (OpenSpec.ofChange arenaPlaysSpec)

/-- ITS FALSE NEIGHBOUR: 'it returns false'. Refute it at one input. -/
def arenaPlaysWrong : ChangeSpec := { name := "arenaPlays", fn := fun _ => fun
  | [d1, d2] => { results := [.lit (.bool false)], args := [d1, d2] }
  | _ => none }
def ArenaPlaysWrongFalsely : Prop := arenaPlaysRow.holds Tryd.pinned (OpenSpec.ofChange arenaPlaysWrong)

/-- 'gantlinelaw4.ArenaApart': WHATEVER THE INPUT: true; the input reads as it did. -/
def arenaApartSpec : ChangeSpec := { name := "arenaApart", fn := fun _ => fun
  | [d1, d2] => { results := [.lit (.bool true)], args := [d1, d2] }
  | _ => none }
def arenaApartRow : OpenClaim := { program := "ytfenhliknhmihaadoor", sum := "04ef2d6c0a048db7687874aa8a364f816804b6bb0cf9a62560fb20abc1664f8c", func := "gantline/gantlinelaw4.ArenaApart", spec := "arenaApart", named := ["math/bits.deBruijn64tab"], apart := false, laid := [("math/bits.deBruijn64tab", laid_math_bits_deBruijn64tab)] }
def ArenaApartSaid : Prop := arenaApartRow.holds Tryd.pinned (OpenSpec.ofChange arenaApartSpec)

/-- ITS FALSE NEIGHBOUR: 'it returns false'. Refute it at one input. -/
def arenaApartWrong : ChangeSpec := { name := "arenaApart", fn := fun _ => fun
  | [d1, d2] => { results := [.lit (.bool false)], args := [d1, d2] }
  | _ => none }
def ArenaApartWrongFalsely : Prop := arenaApartRow.holds Tryd.pinned (OpenSpec.ofChange arenaApartWrong)

/-- 'gantlinelaw4.ArenaSweeps': WHATEVER THE INPUT: true; the input reads as it did. -/
def arenaSweepsSpec : ChangeSpec := { name := "arenaSweeps", fn := fun _ => fun
  | [d1, d2, d3, d4] => { results := [.lit (.bool true)], args := [d1, d2, d3, d4] }
  | _ => none }
def arenaSweepsRow : OpenClaim := { program := "ytfenhliknhmihaadoor", sum := "04ef2d6c0a048db7687874aa8a364f816804b6bb0cf9a62560fb20abc1664f8c", func := "gantline/gantlinelaw4.ArenaSweeps", spec := "arenaSweeps", named := ["math/bits.deBruijn64tab"], apart := false, laid := [("math/bits.deBruijn64tab", laid_math_bits_deBruijn64tab)] }
def ArenaSweepsSaid : Prop := arenaSweepsRow.holds Tryd.pinned (OpenSpec.ofChange arenaSweepsSpec)

/-- ITS FALSE NEIGHBOUR: 'it returns false'. Refute it at one input. -/
def arenaSweepsWrong : ChangeSpec := { name := "arenaSweeps", fn := fun _ => fun
  | [d1, d2, d3, d4] => { results := [.lit (.bool false)], args := [d1, d2, d3, d4] }
  | _ => none }
def ArenaSweepsWrongFalsely : Prop := arenaSweepsRow.holds Tryd.pinned (OpenSpec.ofChange arenaSweepsWrong)

/-- 'gantlinelaw4.ArenaCopies': WHATEVER THE INPUT: true; the input reads as it did. -/
def arenaCopiesSpec : ChangeSpec := { name := "arenaCopies", fn := fun _ => fun
  | [d1, d2] => { results := [.lit (.bool true)], args := [d1, d2] }
  | _ => none }
def arenaCopiesRow : OpenClaim := { program := "ytfenhliknhmihaadoor", sum := "04ef2d6c0a048db7687874aa8a364f816804b6bb0cf9a62560fb20abc1664f8c", func := "gantline/gantlinelaw4.ArenaCopies", spec := "arenaCopies", named := ["math/bits.deBruijn64tab"], apart := false, laid := [("math/bits.deBruijn64tab", laid_math_bits_deBruijn64tab)] }
def ArenaCopiesSaid : Prop := arenaCopiesRow.holds Tryd.pinned (OpenSpec.ofChange arenaCopiesSpec)

/-- ITS FALSE NEIGHBOUR: 'it returns false'. Refute it at one input. -/
def arenaCopiesWrong : ChangeSpec := { name := "arenaCopies", fn := fun _ => fun
  | [d1, d2] => { results := [.lit (.bool false)], args := [d1, d2] }
  | _ => none }
def ArenaCopiesWrongFalsely : Prop := arenaCopiesRow.holds Tryd.pinned (OpenSpec.ofChange arenaCopiesWrong)

/-- 'gantlinelaw5.AllocKnown': WHATEVER THE INPUT: true; the input reads as it did. -/
def allocKnownSpec : ChangeSpec := { name := "allocKnown", fn := fun _ => fun
  | [] => { results := [.lit (.bool true)], args := [] }
  | _ => none }
def allocKnownRow : OpenClaim := { program := "ytfenhliknhmihaadoor", sum := "04ef2d6c0a048db7687874aa8a364f816804b6bb0cf9a62560fb20abc1664f8c", func := "gantline/gantlinelaw5.AllocKnown", spec := "allocKnown", named := ["math/bits.deBruijn64tab"], apart := false, laid := [("math/bits.deBruijn64tab", laid_math_bits_deBruijn64tab)] }
def AllocKnownSaid : Prop := allocKnownRow.holds Tryd.pinned (OpenSpec.ofChange allocKnownSpec)

/-- ITS FALSE NEIGHBOUR: 'it returns false'. Refute it at one input. -/
def allocKnownWrong : ChangeSpec := { name := "allocKnown", fn := fun _ => fun
  | [] => { results := [.lit (.bool false)], args := [] }
  | _ => none }
def AllocKnownWrongFalsely : Prop := allocKnownRow.holds Tryd.pinned (OpenSpec.ofChange allocKnownWrong)

/-- 'gantlinelaw5.AllocFull': WHATEVER THE INPUT: true; the input reads as it did. -/
def allocFullSpec : ChangeSpec := { name := "allocFull", fn := fun _ => fun
  | [d1, d2, d3] => { results := [.lit (.bool true)], args := [d1, d2, d3] }
  | _ => none }
def allocFullRow : OpenClaim := { program := "ytfenhliknhmihaadoor", sum := "04ef2d6c0a048db7687874aa8a364f816804b6bb0cf9a62560fb20abc1664f8c", func := "gantline/gantlinelaw5.AllocFull", spec := "allocFull", named := ["math/bits.deBruijn64tab"], apart := false, laid := [("math/bits.deBruijn64tab", laid_math_bits_deBruijn64tab)] }
def AllocFullSaid : Prop := allocFullRow.holds Tryd.pinned (OpenSpec.ofChange allocFullSpec)

/-- ITS FALSE NEIGHBOUR: 'it returns false'. Refute it at one input. -/
def allocFullWrong : ChangeSpec := { name := "allocFull", fn := fun _ => fun
  | [d1, d2, d3] => { results := [.lit (.bool false)], args := [d1, d2, d3] }
  | _ => none }
def AllocFullWrongFalsely : Prop := allocFullRow.holds Tryd.pinned (OpenSpec.ofChange allocFullWrong)

/-- 'gantlinelaw5.AllocAgain': WHATEVER THE INPUT: true; the input reads as it did. -/
def allocAgainSpec : ChangeSpec := { name := "allocAgain", fn := fun _ => fun
  | [d1, d2] => { results := [.lit (.bool true)], args := [d1, d2] }
  | _ => none }
def allocAgainRow : OpenClaim := { program := "ytfenhliknhmihaadoor", sum := "04ef2d6c0a048db7687874aa8a364f816804b6bb0cf9a62560fb20abc1664f8c", func := "gantline/gantlinelaw5.AllocAgain", spec := "allocAgain", named := ["math/bits.deBruijn64tab"], apart := false, laid := [("math/bits.deBruijn64tab", laid_math_bits_deBruijn64tab)] }
def AllocAgainSaid : Prop := allocAgainRow.holds Tryd.pinned (OpenSpec.ofChange allocAgainSpec)

/-- ITS FALSE NEIGHBOUR: 'it returns false'. Refute it at one input. -/
def allocAgainWrong : ChangeSpec := { name := "allocAgain", fn := fun _ => fun
  | [d1, d2] => { results := [.lit (.bool false)], args := [d1, d2] }
  | _ => none }
def AllocAgainWrongFalsely : Prop := allocAgainRow.holds Tryd.pinned (OpenSpec.ofChange allocAgainWrong)

/-- 'gantlinelaw5.AllocKeeps': WHATEVER THE INPUT: true; the input reads as it did. -/
def allocKeepsSpec : ChangeSpec := { name := "allocKeeps", fn := fun _ => fun
  | [d1, d2, d3, d4] => { results := [.lit (.bool true)], args := [d1, d2, d3, d4] }
  | _ => none }
def allocKeepsRow : OpenClaim := { program := "ytfenhliknhmihaadoor", sum := "04ef2d6c0a048db7687874aa8a364f816804b6bb0cf9a62560fb20abc1664f8c", func := "gantline/gantlinelaw5.AllocKeeps", spec := "allocKeeps", named := ["math/bits.deBruijn64tab"], apart := false, laid := [("math/bits.deBruijn64tab", laid_math_bits_deBruijn64tab)] }
def AllocKeepsSaid : Prop := allocKeepsRow.holds Tryd.pinned (OpenSpec.ofChange allocKeepsSpec)

/-- ITS FALSE NEIGHBOUR: 'it returns false'. Refute it at one input. -/
def allocKeepsWrong : ChangeSpec := { name := "allocKeeps", fn := fun _ => fun
  | [d1, d2, d3, d4] => { results := [.lit (.bool false)], args := [d1, d2, d3, d4] }
  | _ => none }
def AllocKeepsWrongFalsely : Prop := allocKeepsRow.holds Tryd.pinned (OpenSpec.ofChange allocKeepsWrong)

/- THE SECOND FORM. 'bulk': how many values and letters a reading holds, each counted each time it is reached (what is shared counts as often as it is met; a slice's spare places count too). A statement '..UptoSaid' is the law's where the arguments, and the package variables that the reading takes, are together of bulk at most 1048576: NARROWER than '..Said'. Prove '..Said' where nothing that the law and all that it calls make is longer than what came in: it says more and counts as full. Else prove '..UptoSaid'. A law counts once. -/
mutual
def uptoBulk {H : Type} : DataW H → Nat
  | .lit (.string bytes) => bytes.length + 1
  | .lit _ => 1
  | .nil => 1
  | .ptr d => uptoBulk d + 1
  | .slice elems spare => uptoBulkAll elems + uptoBulkAll spare + 1
  | .agg parts => uptoBulkAll parts + 1
  | .iface _ d => uptoBulk d + 1
  | .map entries => uptoBulkEntries entries + 1
  | .held _ => 1
def uptoBulkAll {H : Type} : List (DataW H) → Nat
  | [] => 0
  | d :: r => uptoBulk d + uptoBulkAll r
def uptoBulkEntries {H : Type} : List (Lit × DataW H) → Nat
  | [] => 0
  | x :: r => uptoBulkEntry x + uptoBulkEntries r
def uptoBulkEntry {H : Type} : Lit × DataW H → Nat
  | (.string bytes, d) => bytes.length + uptoBulk d + 1
  | (_, d) => uptoBulk d + 1
 end
def uptoSmall : (H : Type) → List (DataW H) → Bool := fun _ ds => decide (uptoBulkAll ds ≤ 1048576)
def OpenSpec.upto (s : _root_.Go.ChangeSpec) : _root_.Go.OpenSpec := { _root_.Go.OpenSpec.ofChange s with cond := some uptoSmall }

/-- 'gantlinelaw4.ArenaKnown', WHERE WHAT IT READS IS OF BULK AT MOST 1048576: true; the input reads as it did. -/
def arenaKnownUptoRow : OpenClaim := { program := "ytfenhliknhmihaadoor", sum := "04ef2d6c0a048db7687874aa8a364f816804b6bb0cf9a62560fb20abc1664f8c", func := "gantline/gantlinelaw4.ArenaKnown", spec := "arenaKnown", named := ["math/bits.deBruijn64tab"], apart := false, laid := [("math/bits.deBruijn64tab", laid_math_bits_deBruijn64tab)], narrowed := true }
def ArenaKnownUptoSaid : Prop := arenaKnownUptoRow.holds Tryd.pinned (OpenSpec.upto arenaKnownSpec)

/-- 'gantlinelaw4.ArenaPlays', WHERE WHAT IT READS IS OF BULK AT MOST 1048576: true; the input reads as it did. -/
def arenaPlaysUptoRow : OpenClaim := { program := "ytfenhliknhmihaadoor", sum := "04ef2d6c0a048db7687874aa8a364f816804b6bb0cf9a62560fb20abc1664f8c", func := "gantline/gantlinelaw4.ArenaPlays", spec := "arenaPlays", named := ["math/bits.deBruijn64tab"], apart := false, laid := [("math/bits.deBruijn64tab", laid_math_bits_deBruijn64tab)], narrowed := true }
def ArenaPlaysUptoSaid : Prop := arenaPlaysUptoRow.holds Tryd.pinned (OpenSpec.upto arenaPlaysSpec)

/-- 'gantlinelaw4.ArenaApart', WHERE WHAT IT READS IS OF BULK AT MOST 1048576: true; the input reads as it did. -/
def arenaApartUptoRow : OpenClaim := { program := "ytfenhliknhmihaadoor", sum := "04ef2d6c0a048db7687874aa8a364f816804b6bb0cf9a62560fb20abc1664f8c", func := "gantline/gantlinelaw4.ArenaApart", spec := "arenaApart", named := ["math/bits.deBruijn64tab"], apart := false, laid := [("math/bits.deBruijn64tab", laid_math_bits_deBruijn64tab)], narrowed := true }
def ArenaApartUptoSaid : Prop := arenaApartUptoRow.holds Tryd.pinned (OpenSpec.upto arenaApartSpec)

/-- 'gantlinelaw4.ArenaSweeps', WHERE WHAT IT READS IS OF BULK AT MOST 1048576: true; the input reads as it did. -/
def arenaSweepsUptoRow : OpenClaim := { program := "ytfenhliknhmihaadoor", sum := "04ef2d6c0a048db7687874aa8a364f816804b6bb0cf9a62560fb20abc1664f8c", func := "gantline/gantlinelaw4.ArenaSweeps", spec := "arenaSweeps", named := ["math/bits.deBruijn64tab"], apart := false, laid := [("math/bits.deBruijn64tab", laid_math_bits_deBruijn64tab)], narrowed := true }
def ArenaSweepsUptoSaid : Prop := arenaSweepsUptoRow.holds Tryd.pinned (OpenSpec.upto arenaSweepsSpec)

/-- 'gantlinelaw4.ArenaCopies', WHERE WHAT IT READS IS OF BULK AT MOST 1048576: true; the input reads as it did. -/
def arenaCopiesUptoRow : OpenClaim := { program := "ytfenhliknhmihaadoor", sum := "04ef2d6c0a048db7687874aa8a364f816804b6bb0cf9a62560fb20abc1664f8c", func := "gantline/gantlinelaw4.ArenaCopies", spec := "arenaCopies", named := ["math/bits.deBruijn64tab"], apart := false, laid := [("math/bits.deBruijn64tab", laid_math_bits_deBruijn64tab)], narrowed := true }
def ArenaCopiesUptoSaid : Prop := arenaCopiesUptoRow.holds Tryd.pinned (OpenSpec.upto arenaCopiesSpec)

/-- 'gantlinelaw5.AllocKnown', WHERE WHAT IT READS IS OF BULK AT MOST 1048576: true; the input reads as it did. -/
def allocKnownUptoRow : OpenClaim := { program := "ytfenhliknhmihaadoor", sum := "04ef2d6c0a048db7687874aa8a364f816804b6bb0cf9a62560fb20abc1664f8c", func := "gantline/gantlinelaw5.AllocKnown", spec := "allocKnown", named := ["math/bits.deBruijn64tab"], apart := false, laid := [("math/bits.deBruijn64tab", laid_math_bits_deBruijn64tab)], narrowed := true }
def AllocKnownUptoSaid : Prop := allocKnownUptoRow.holds Tryd.pinned (OpenSpec.upto allocKnownSpec)

/-- 'gantlinelaw5.AllocFull', WHERE WHAT IT READS IS OF BULK AT MOST 1048576: true; the input reads as it did. -/
def allocFullUptoRow : OpenClaim := { program := "ytfenhliknhmihaadoor", sum := "04ef2d6c0a048db7687874aa8a364f816804b6bb0cf9a62560fb20abc1664f8c", func := "gantline/gantlinelaw5.AllocFull", spec := "allocFull", named := ["math/bits.deBruijn64tab"], apart := false, laid := [("math/bits.deBruijn64tab", laid_math_bits_deBruijn64tab)], narrowed := true }
def AllocFullUptoSaid : Prop := allocFullUptoRow.holds Tryd.pinned (OpenSpec.upto allocFullSpec)

/-- 'gantlinelaw5.AllocAgain', WHERE WHAT IT READS IS OF BULK AT MOST 1048576: true; the input reads as it did. -/
def allocAgainUptoRow : OpenClaim := { program := "ytfenhliknhmihaadoor", sum := "04ef2d6c0a048db7687874aa8a364f816804b6bb0cf9a62560fb20abc1664f8c", func := "gantline/gantlinelaw5.AllocAgain", spec := "allocAgain", named := ["math/bits.deBruijn64tab"], apart := false, laid := [("math/bits.deBruijn64tab", laid_math_bits_deBruijn64tab)], narrowed := true }
def AllocAgainUptoSaid : Prop := allocAgainUptoRow.holds Tryd.pinned (OpenSpec.upto allocAgainSpec)

/-- 'gantlinelaw5.AllocKeeps', WHERE WHAT IT READS IS OF BULK AT MOST 1048576: true; the input reads as it did. -/
def allocKeepsUptoRow : OpenClaim := { program := "ytfenhliknhmihaadoor", sum := "04ef2d6c0a048db7687874aa8a364f816804b6bb0cf9a62560fb20abc1664f8c", func := "gantline/gantlinelaw5.AllocKeeps", spec := "allocKeeps", named := ["math/bits.deBruijn64tab"], apart := false, laid := [("math/bits.deBruijn64tab", laid_math_bits_deBruijn64tab)], narrowed := true }
def AllocKeepsUptoSaid : Prop := allocKeepsUptoRow.holds Tryd.pinned (OpenSpec.upto allocKeepsSpec)

end Rows
end Go.Proofs.YtfenhliknhmihaaDoor
