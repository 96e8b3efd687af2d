/-
  No cell of these rows narrows 'for every input' (looked for: loops, veiled, ifaces, maps, wideKeys, modest, calm, conditions, laid).
  DERIVED. THE GIVEN ROWS OF THIS SEAT. 5 by the template 'for every input the law returns true; each argument reads behind the call as it read before'; 0 by the template 'total and deterministic' (their statements: YtokefidnmopedaaTotals.lean).
  GIVEN WITH THE SEED: the statements are not yours to turn. If you find one false, say at which input.
  Laid BY PROGRAM, IN A SANDBOX (cutbox-rows.mjs): the forced cells as the released guide's own fill.sh prints them over the translation 4b03caf2e7eb58af… (all of the seat's roots in one cut). By AI agents, Wed Nov 11 2026. No macro, syntax, notation, axiom, sorry.
-/
import Derived.Test.YtokefidnmopedaaChecked
import GoSem.Claim
import GoSem.ClaimJoined
import GoSem.ClaimMapViews
import Derived.JoinedTies
import Derived.KernelRfl
namespace Go.Proofs.Ytokefidnmopedaa
/- THE CELL 'sum', in the pinned program and in every row, IS THE sha256 OF THE DUMP (.gsa) THAT YtokefidnmopedaaProg.lean LOADS. Nothing in Lean hashes anything: it is a label: what it is worth is what the hold of that sum in a sandbox is worth. -/
noncomputable def Try.pinned : Pinned := { name := "ytokefidnmopedaa", sum := "4b03caf2e7eb58af94b7e36fa90b92333759bc3ea264da60f7bcc8d3a73b71e8", checked := Try.checked }
namespace Rows
def none {H : Type} : Left H := { results := [], args := [] }

/-- 'gantlinelaw10.LiveInstrs': WHATEVER THE INPUT: true; the input reads as it did. -/
def liveInstrsSpec : ChangeSpec := { name := "liveInstrs", fn := fun _ => fun
  | [d1, d2, d3, d4] => { results := [.lit (.bool true)], args := [d1, d2, d3, d4] }
  | _ => none }
def liveInstrsRow : OpenClaim := { program := "ytokefidnmopedaa", sum := "4b03caf2e7eb58af94b7e36fa90b92333759bc3ea264da60f7bcc8d3a73b71e8", func := "gantline/gantlinelaw10.LiveInstrs", spec := "liveInstrs", unfollowed := true, recurses := true, apart := false }
def LiveInstrsSaid : Prop := liveInstrsRow.holds Try.pinned (OpenSpec.ofChange liveInstrsSpec)

/-- ITS FALSE NEIGHBOUR: 'it returns false'. Refute it at one input. -/
def liveInstrsWrong : ChangeSpec := { name := "liveInstrs", fn := fun _ => fun
  | [d1, d2, d3, d4] => { results := [.lit (.bool false)], args := [d1, d2, d3, d4] }
  | _ => none }
def LiveInstrsWrongFalsely : Prop := liveInstrsRow.holds Try.pinned (OpenSpec.ofChange liveInstrsWrong)

/-- 'gantlinelaw10.LiveSets': WHATEVER THE INPUT: true; the input reads as it did. -/
def liveSetsSpec : ChangeSpec := { name := "liveSets", fn := fun _ => fun
  | [d1, d2] => { results := [.lit (.bool true)], args := [d1, d2] }
  | _ => none }
def liveSetsRow : OpenClaim := { program := "ytokefidnmopedaa", sum := "4b03caf2e7eb58af94b7e36fa90b92333759bc3ea264da60f7bcc8d3a73b71e8", func := "gantline/gantlinelaw10.LiveSets", spec := "liveSets", unfollowed := true, recurses := true, apart := false }
def LiveSetsSaid : Prop := liveSetsRow.holds Try.pinned (OpenSpec.ofChange liveSetsSpec)

/-- ITS FALSE NEIGHBOUR: 'it returns false'. Refute it at one input. -/
def liveSetsWrong : ChangeSpec := { name := "liveSets", fn := fun _ => fun
  | [d1, d2] => { results := [.lit (.bool false)], args := [d1, d2] }
  | _ => none }
def LiveSetsWrongFalsely : Prop := liveSetsRow.holds Try.pinned (OpenSpec.ofChange liveSetsWrong)

/-- 'gantlinelaw10.LiveWalks': WHATEVER THE INPUT: true; the input reads as it did. -/
def liveWalksSpec : ChangeSpec := { name := "liveWalks", fn := fun _ => fun
  | [d1, d2, d3, d4] => { results := [.lit (.bool true)], args := [d1, d2, d3, d4] }
  | _ => none }
def liveWalksRow : OpenClaim := { program := "ytokefidnmopedaa", sum := "4b03caf2e7eb58af94b7e36fa90b92333759bc3ea264da60f7bcc8d3a73b71e8", func := "gantline/gantlinelaw10.LiveWalks", spec := "liveWalks", unfollowed := true, recurses := true, apart := false }
def LiveWalksSaid : Prop := liveWalksRow.holds Try.pinned (OpenSpec.ofChange liveWalksSpec)

/-- ITS FALSE NEIGHBOUR: 'it returns false'. Refute it at one input. -/
def liveWalksWrong : ChangeSpec := { name := "liveWalks", fn := fun _ => fun
  | [d1, d2, d3, d4] => { results := [.lit (.bool false)], args := [d1, d2, d3, d4] }
  | _ => none }
def LiveWalksWrongFalsely : Prop := liveWalksRow.holds Try.pinned (OpenSpec.ofChange liveWalksWrong)

/-- 'gantlinelaw10.LiveFits': WHATEVER THE INPUT: true; the input reads as it did. -/
def liveFitsSpec : ChangeSpec := { name := "liveFits", fn := fun _ => fun
  | [d1, d2] => { results := [.lit (.bool true)], args := [d1, d2] }
  | _ => none }
def liveFitsRow : OpenClaim := { program := "ytokefidnmopedaa", sum := "4b03caf2e7eb58af94b7e36fa90b92333759bc3ea264da60f7bcc8d3a73b71e8", func := "gantline/gantlinelaw10.LiveFits", spec := "liveFits", unfollowed := true, recurses := true, apart := false }
def LiveFitsSaid : Prop := liveFitsRow.holds Try.pinned (OpenSpec.ofChange liveFitsSpec)

/-- ITS FALSE NEIGHBOUR: 'it returns false'. Refute it at one input. -/
def liveFitsWrong : ChangeSpec := { name := "liveFits", fn := fun _ => fun
  | [d1, d2] => { results := [.lit (.bool false)], args := [d1, d2] }
  | _ => none }
def LiveFitsWrongFalsely : Prop := liveFitsRow.holds Try.pinned (OpenSpec.ofChange liveFitsWrong)

/-- 'gantlinelaw11.FreshPoints': WHATEVER THE INPUT: true; the input reads as it did. -/
def freshPointsSpec : ChangeSpec := { name := "freshPoints", fn := fun _ => fun
  | [d1, d2] => { results := [.lit (.bool true)], args := [d1, d2] }
  | _ => none }
def freshPointsRow : OpenClaim := { program := "ytokefidnmopedaa", sum := "4b03caf2e7eb58af94b7e36fa90b92333759bc3ea264da60f7bcc8d3a73b71e8", func := "gantline/gantlinelaw11.FreshPoints", spec := "freshPoints", unfollowed := true, recurses := true, apart := false }
def FreshPointsSaid : Prop := freshPointsRow.holds Try.pinned (OpenSpec.ofChange freshPointsSpec)

/-- ITS FALSE NEIGHBOUR: 'it returns false'. Refute it at one input. -/
def freshPointsWrong : ChangeSpec := { name := "freshPoints", fn := fun _ => fun
  | [d1, d2] => { results := [.lit (.bool false)], args := [d1, d2] }
  | _ => none }
def FreshPointsWrongFalsely : Prop := freshPointsRow.holds Try.pinned (OpenSpec.ofChange freshPointsWrong)

/- THE SECOND FORM. 'bulk': how many values and letters a reading holds, each counted each time it is reached (what is shared counts as often as it is met; a slice's spare places count too). A statement '..UptoSaid' is the law's where the arguments, and the package variables that the reading takes, are together of bulk at most 1048576: NARROWER than '..Said'. Prove '..Said' where nothing that the law and all that it calls make is longer than what came in: it says more and counts as full. Else prove '..UptoSaid'. A law counts once. -/
mutual
def uptoBulk {H : Type} : DataW H → Nat
  | .lit (.string bytes) => bytes.length + 1
  | .lit _ => 1
  | .nil => 1
  | .ptr d => uptoBulk d + 1
  | .slice elems spare => uptoBulkAll elems + uptoBulkAll spare + 1
  | .agg parts => uptoBulkAll parts + 1
  | .iface _ d => uptoBulk d + 1
  | .map entries => uptoBulkEntries entries + 1
  | .held _ => 1
def uptoBulkAll {H : Type} : List (DataW H) → Nat
  | [] => 0
  | d :: r => uptoBulk d + uptoBulkAll r
def uptoBulkEntries {H : Type} : List (Lit × DataW H) → Nat
  | [] => 0
  | x :: r => uptoBulkEntry x + uptoBulkEntries r
def uptoBulkEntry {H : Type} : Lit × DataW H → Nat
  | (.string bytes, d) => bytes.length + uptoBulk d + 1
  | (_, d) => uptoBulk d + 1
 end
def uptoSmall : (H : Type) → List (DataW H) → Bool := fun _ ds => decide (uptoBulkAll ds ≤ 1048576)
def OpenSpec.upto (s : _root_.Go.ChangeSpec) : _root_.Go.OpenSpec := { _root_.Go.OpenSpec.ofChange s with cond := some uptoSmall }

/-- 'gantlinelaw10.LiveInstrs', WHERE WHAT IT READS IS OF BULK AT MOST 1048576: true; the input reads as it did. -/
def liveInstrsUptoRow : OpenClaim := { program := "ytokefidnmopedaa", sum := "4b03caf2e7eb58af94b7e36fa90b92333759bc3ea264da60f7bcc8d3a73b71e8", func := "gantline/gantlinelaw10.LiveInstrs", spec := "liveInstrs", unfollowed := true, recurses := true, apart := false, narrowed := true }
def LiveInstrsUptoSaid : Prop := liveInstrsUptoRow.holds Try.pinned (OpenSpec.upto liveInstrsSpec)

/-- 'gantlinelaw10.LiveSets', WHERE WHAT IT READS IS OF BULK AT MOST 1048576: true; the input reads as it did. -/
def liveSetsUptoRow : OpenClaim := { program := "ytokefidnmopedaa", sum := "4b03caf2e7eb58af94b7e36fa90b92333759bc3ea264da60f7bcc8d3a73b71e8", func := "gantline/gantlinelaw10.LiveSets", spec := "liveSets", unfollowed := true, recurses := true, apart := false, narrowed := true }
def LiveSetsUptoSaid : Prop := liveSetsUptoRow.holds Try.pinned (OpenSpec.upto liveSetsSpec)

/-- 'gantlinelaw10.LiveWalks', WHERE WHAT IT READS IS OF BULK AT MOST 1048576: true; the input reads as it did. -/
def liveWalksUptoRow : OpenClaim := { program := "ytokefidnmopedaa", sum := "4b03caf2e7eb58af94b7e36fa90b92333759bc3ea264da60f7bcc8d3a73b71e8", func := "gantline/gantlinelaw10.LiveWalks", spec := "liveWalks", unfollowed := true, recurses := true, apart := false, narrowed := true }
def LiveWalksUptoSaid : Prop := liveWalksUptoRow.holds Try.pinned (OpenSpec.upto liveWalksSpec)

/-- 'gantlinelaw10.LiveFits', WHERE WHAT IT READS IS OF BULK AT MOST 1048576: true; the input reads as it did. -/
def liveFitsUptoRow : OpenClaim := { program := "ytokefidnmopedaa", sum := "4b03caf2e7eb58af94b7e36fa90b92333759bc3ea264da60f7bcc8d3a73b71e8", func := "gantline/gantlinelaw10.LiveFits", spec := "liveFits", unfollowed := true, recurses := true, apart := false, narrowed := true }
def LiveFitsUptoSaid : Prop := liveFitsUptoRow.holds Try.pinned (OpenSpec.upto liveFitsSpec)

/-- 'gantlinelaw11.FreshPoints', WHERE WHAT IT READS IS OF BULK AT MOST 1048576: true; the input reads as it did. -/
def freshPointsUptoRow : OpenClaim := { program := "ytokefidnmopedaa", sum := "4b03caf2e7eb58af94b7e36fa90b92333759bc3ea264da60f7bcc8d3a73b71e8", func := "gantline/gantlinelaw11.FreshPoints", spec := "freshPoints", unfollowed := true, recurses := true, apart := false, narrowed := true }
def FreshPointsUptoSaid : Prop := freshPointsUptoRow.holds Try.pinned (OpenSpec.upto freshPointsSpec)

end Rows
end Go.Proofs.Ytokefidnmopedaa
