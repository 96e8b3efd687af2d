/-
  No cell of these rows narrows 'for every input' (looked for: loops, veiled, ifaces, maps, wideKeys, modest, calm, conditions, laid).
  DERIVED. THE GIVEN ROWS OF THIS SEAT. 10 by the template 'for every input the law returns true; each argument reads behind the call as it read before'; 0 by the template 'total and deterministic' (their statements: YtofbefghllefhaaTotals.lean).
  GIVEN WITH THE SEED: the statements are not yours to turn. If you find one false, say at which input.
  Laid BY PROGRAM, IN A SANDBOX (cutbox-rows.mjs): the forced cells as the released guide's own fill.sh prints them over the translation e6f5dd4383dafc57… (all of the seat's roots in one cut). By AI agents, Wed Nov 11 2026. No macro, syntax, notation, axiom, sorry.
-/
import Derived.Test.YtofbefghllefhaaChecked
import GoSem.Claim
import GoSem.ClaimJoined
import GoSem.ClaimMapViews
import Derived.JoinedTies
import Derived.KernelRfl
namespace Go.Proofs.Ytofbefghllefhaa
/- THE CELL 'sum', in the pinned program and in every row, IS THE sha256 OF THE DUMP (.gsa) THAT YtofbefghllefhaaProg.lean LOADS. Nothing in Lean hashes anything: it is a label: what it is worth is what the hold of that sum in a sandbox is worth. -/
noncomputable def Try.pinned : Pinned := { name := "ytofbefghllefhaa", sum := "e6f5dd4383dafc572dc0dea87ed3688fb8455362d77461a46cbe606d9c4ce117", checked := Try.checked }
namespace Rows
def none {H : Type} : Left H := { results := [], args := [] }

/-- 'gantlinelaw10.LiveKnown': WHATEVER THE INPUT: true; the input reads as it did. -/
def liveKnownSpec : ChangeSpec := { name := "liveKnown", fn := fun _ => fun
  | [] => { results := [.lit (.bool true)], args := [] }
  | _ => none }
def liveKnownRow : OpenClaim := { program := "ytofbefghllefhaa", sum := "e6f5dd4383dafc572dc0dea87ed3688fb8455362d77461a46cbe606d9c4ce117", func := "gantline/gantlinelaw10.LiveKnown", spec := "liveKnown", unfollowed := true, recurses := true, apart := false }
def LiveKnownSaid : Prop := liveKnownRow.holds Try.pinned (OpenSpec.ofChange liveKnownSpec)

/-- ITS FALSE NEIGHBOUR: 'it returns false'. Refute it at one input. -/
def liveKnownWrong : ChangeSpec := { name := "liveKnown", fn := fun _ => fun
  | [] => { results := [.lit (.bool false)], args := [] }
  | _ => none }
def LiveKnownWrongFalsely : Prop := liveKnownRow.holds Try.pinned (OpenSpec.ofChange liveKnownWrong)

/-- 'gantlinelaw10.LiveInstrs': WHATEVER THE INPUT: true; the input reads as it did. -/
def liveInstrsSpec : ChangeSpec := { name := "liveInstrs", fn := fun _ => fun
  | [d1, d2, d3, d4] => { results := [.lit (.bool true)], args := [d1, d2, d3, d4] }
  | _ => none }
def liveInstrsRow : OpenClaim := { program := "ytofbefghllefhaa", sum := "e6f5dd4383dafc572dc0dea87ed3688fb8455362d77461a46cbe606d9c4ce117", func := "gantline/gantlinelaw10.LiveInstrs", spec := "liveInstrs", unfollowed := true, recurses := true, apart := false }
def LiveInstrsSaid : Prop := liveInstrsRow.holds Try.pinned (OpenSpec.ofChange liveInstrsSpec)

/-- ITS FALSE NEIGHBOUR: 'it returns false'. Refute it at one input. -/
def liveInstrsWrong : ChangeSpec := { name := "liveInstrs", fn := fun _ => fun
  | [d1, d2, d3, d4] => { results := [.lit (.bool false)], args := [d1, d2, d3, d4] }
  | _ => none }
def LiveInstrsWrongFalsely : Prop := liveInstrsRow.holds Try.pinned (OpenSpec.ofChange liveInstrsWrong)

/-- 'gantlinelaw10.LiveSets': WHATEVER THE INPUT: true; the input reads as it did. -/
def liveSetsSpec : ChangeSpec := { name := "liveSets", fn := fun _ => fun
  | [d1, d2] => { results := [.lit (.bool true)], args := [d1, d2] }
  | _ => none }
def liveSetsRow : OpenClaim := { program := "ytofbefghllefhaa", sum := "e6f5dd4383dafc572dc0dea87ed3688fb8455362d77461a46cbe606d9c4ce117", func := "gantline/gantlinelaw10.LiveSets", spec := "liveSets", unfollowed := true, recurses := true, apart := false }
def LiveSetsSaid : Prop := liveSetsRow.holds Try.pinned (OpenSpec.ofChange liveSetsSpec)

/-- ITS FALSE NEIGHBOUR: 'it returns false'. Refute it at one input. -/
def liveSetsWrong : ChangeSpec := { name := "liveSets", fn := fun _ => fun
  | [d1, d2] => { results := [.lit (.bool false)], args := [d1, d2] }
  | _ => none }
def LiveSetsWrongFalsely : Prop := liveSetsRow.holds Try.pinned (OpenSpec.ofChange liveSetsWrong)

/-- 'gantlinelaw10.LiveWalks': WHATEVER THE INPUT: true; the input reads as it did. -/
def liveWalksSpec : ChangeSpec := { name := "liveWalks", fn := fun _ => fun
  | [d1, d2, d3, d4] => { results := [.lit (.bool true)], args := [d1, d2, d3, d4] }
  | _ => none }
def liveWalksRow : OpenClaim := { program := "ytofbefghllefhaa", sum := "e6f5dd4383dafc572dc0dea87ed3688fb8455362d77461a46cbe606d9c4ce117", func := "gantline/gantlinelaw10.LiveWalks", spec := "liveWalks", unfollowed := true, recurses := true, apart := false }
def LiveWalksSaid : Prop := liveWalksRow.holds Try.pinned (OpenSpec.ofChange liveWalksSpec)

/-- ITS FALSE NEIGHBOUR: 'it returns false'. Refute it at one input. -/
def liveWalksWrong : ChangeSpec := { name := "liveWalks", fn := fun _ => fun
  | [d1, d2, d3, d4] => { results := [.lit (.bool false)], args := [d1, d2, d3, d4] }
  | _ => none }
def LiveWalksWrongFalsely : Prop := liveWalksRow.holds Try.pinned (OpenSpec.ofChange liveWalksWrong)

/-- 'gantlinelaw10.LiveFits': WHATEVER THE INPUT: true; the input reads as it did. -/
def liveFitsSpec : ChangeSpec := { name := "liveFits", fn := fun _ => fun
  | [d1, d2] => { results := [.lit (.bool true)], args := [d1, d2] }
  | _ => none }
def liveFitsRow : OpenClaim := { program := "ytofbefghllefhaa", sum := "e6f5dd4383dafc572dc0dea87ed3688fb8455362d77461a46cbe606d9c4ce117", func := "gantline/gantlinelaw10.LiveFits", spec := "liveFits", unfollowed := true, recurses := true, apart := false }
def LiveFitsSaid : Prop := liveFitsRow.holds Try.pinned (OpenSpec.ofChange liveFitsSpec)

/-- ITS FALSE NEIGHBOUR: 'it returns false'. Refute it at one input. -/
def liveFitsWrong : ChangeSpec := { name := "liveFits", fn := fun _ => fun
  | [d1, d2] => { results := [.lit (.bool false)], args := [d1, d2] }
  | _ => none }
def LiveFitsWrongFalsely : Prop := liveFitsRow.holds Try.pinned (OpenSpec.ofChange liveFitsWrong)

/-- 'gantlinelaw11.FreshKnown': WHATEVER THE INPUT: true; the input reads as it did. -/
def freshKnownSpec : ChangeSpec := { name := "freshKnown", fn := fun _ => fun
  | [] => { results := [.lit (.bool true)], args := [] }
  | _ => none }
def freshKnownRow : OpenClaim := { program := "ytofbefghllefhaa", sum := "e6f5dd4383dafc572dc0dea87ed3688fb8455362d77461a46cbe606d9c4ce117", func := "gantline/gantlinelaw11.FreshKnown", spec := "freshKnown", unfollowed := true, recurses := true, apart := false }
def FreshKnownSaid : Prop := freshKnownRow.holds Try.pinned (OpenSpec.ofChange freshKnownSpec)

/-- ITS FALSE NEIGHBOUR: 'it returns false'. Refute it at one input. -/
def freshKnownWrong : ChangeSpec := { name := "freshKnown", fn := fun _ => fun
  | [] => { results := [.lit (.bool false)], args := [] }
  | _ => none }
def FreshKnownWrongFalsely : Prop := freshKnownRow.holds Try.pinned (OpenSpec.ofChange freshKnownWrong)

/-- 'gantlinelaw11.FreshPoints': WHATEVER THE INPUT: true; the input reads as it did. -/
def freshPointsSpec : ChangeSpec := { name := "freshPoints", fn := fun _ => fun
  | [d1, d2] => { results := [.lit (.bool true)], args := [d1, d2] }
  | _ => none }
def freshPointsRow : OpenClaim := { program := "ytofbefghllefhaa", sum := "e6f5dd4383dafc572dc0dea87ed3688fb8455362d77461a46cbe606d9c4ce117", func := "gantline/gantlinelaw11.FreshPoints", spec := "freshPoints", unfollowed := true, recurses := true, apart := false }
def FreshPointsSaid : Prop := freshPointsRow.holds Try.pinned (OpenSpec.ofChange freshPointsSpec)

/-- ITS FALSE NEIGHBOUR: 'it returns false'. Refute it at one input. -/
def freshPointsWrong : ChangeSpec := { name := "freshPoints", fn := fun _ => fun
  | [d1, d2] => { results := [.lit (.bool false)], args := [d1, d2] }
  | _ => none }
def FreshPointsWrongFalsely : Prop := freshPointsRow.holds Try.pinned (OpenSpec.ofChange freshPointsWrong)

/-- 'gantlinelaw11.FreshSends': WHATEVER THE INPUT: true; the input reads as it did. -/
def freshSendsSpec : ChangeSpec := { name := "freshSends", fn := fun _ => fun
  | [d1, d2] => { results := [.lit (.bool true)], args := [d1, d2] }
  | _ => none }
def freshSendsRow : OpenClaim := { program := "ytofbefghllefhaa", sum := "e6f5dd4383dafc572dc0dea87ed3688fb8455362d77461a46cbe606d9c4ce117", func := "gantline/gantlinelaw11.FreshSends", spec := "freshSends", unfollowed := true, recurses := true, apart := false }
def FreshSendsSaid : Prop := freshSendsRow.holds Try.pinned (OpenSpec.ofChange freshSendsSpec)

/-- ITS FALSE NEIGHBOUR: 'it returns false'. Refute it at one input. -/
def freshSendsWrong : ChangeSpec := { name := "freshSends", fn := fun _ => fun
  | [d1, d2] => { results := [.lit (.bool false)], args := [d1, d2] }
  | _ => none }
def FreshSendsWrongFalsely : Prop := freshSendsRow.holds Try.pinned (OpenSpec.ofChange freshSendsWrong)

/-- 'gantlinelaw12.VerifyKnown': WHATEVER THE INPUT: true; the input reads as it did. -/
def verifyKnownSpec : ChangeSpec := { name := "verifyKnown", fn := fun _ => fun
  | [] => { results := [.lit (.bool true)], args := [] }
  | _ => none }
def verifyKnownRow : OpenClaim := { program := "ytofbefghllefhaa", sum := "e6f5dd4383dafc572dc0dea87ed3688fb8455362d77461a46cbe606d9c4ce117", func := "gantline/gantlinelaw12.VerifyKnown", spec := "verifyKnown", unfollowed := true, recurses := true, apart := false }
def VerifyKnownSaid : Prop := verifyKnownRow.holds Try.pinned (OpenSpec.ofChange verifyKnownSpec)

/-- ITS FALSE NEIGHBOUR: 'it returns false'. Refute it at one input. -/
def verifyKnownWrong : ChangeSpec := { name := "verifyKnown", fn := fun _ => fun
  | [] => { results := [.lit (.bool false)], args := [] }
  | _ => none }
def VerifyKnownWrongFalsely : Prop := verifyKnownRow.holds Try.pinned (OpenSpec.ofChange verifyKnownWrong)

/-- 'gantlinelaw12.VerifyShares': WHATEVER THE INPUT: true; the input reads as it did. -/
def verifySharesSpec : ChangeSpec := { name := "verifyShares", fn := fun _ => fun
  | [d1, d2] => { results := [.lit (.bool true)], args := [d1, d2] }
  | _ => none }
def verifySharesRow : OpenClaim := { program := "ytofbefghllefhaa", sum := "e6f5dd4383dafc572dc0dea87ed3688fb8455362d77461a46cbe606d9c4ce117", func := "gantline/gantlinelaw12.VerifyShares", spec := "verifyShares", unfollowed := true, recurses := true, apart := false }
def VerifySharesSaid : Prop := verifySharesRow.holds Try.pinned (OpenSpec.ofChange verifySharesSpec)

/-- ITS FALSE NEIGHBOUR: 'it returns false'. Refute it at one input. -/
def verifySharesWrong : ChangeSpec := { name := "verifyShares", fn := fun _ => fun
  | [d1, d2] => { results := [.lit (.bool false)], args := [d1, d2] }
  | _ => none }
def VerifySharesWrongFalsely : Prop := verifySharesRow.holds Try.pinned (OpenSpec.ofChange verifySharesWrong)

/- THE SECOND FORM. 'bulk': how many values and letters a reading holds, each counted each time it is reached (what is shared counts as often as it is met; a slice's spare places count too). A statement '..UptoSaid' is the law's where the arguments, and the package variables that the reading takes, are together of bulk at most 1048576: NARROWER than '..Said'. Prove '..Said' where nothing that the law and all that it calls make is longer than what came in: it says more and counts as full. Else prove '..UptoSaid'. A law counts once. -/
mutual
def uptoBulk {H : Type} : DataW H → Nat
  | .lit (.string bytes) => bytes.length + 1
  | .lit _ => 1
  | .nil => 1
  | .ptr d => uptoBulk d + 1
  | .slice elems spare => uptoBulkAll elems + uptoBulkAll spare + 1
  | .agg parts => uptoBulkAll parts + 1
  | .iface _ d => uptoBulk d + 1
  | .map entries => uptoBulkEntries entries + 1
  | .held _ => 1
def uptoBulkAll {H : Type} : List (DataW H) → Nat
  | [] => 0
  | d :: r => uptoBulk d + uptoBulkAll r
def uptoBulkEntries {H : Type} : List (Lit × DataW H) → Nat
  | [] => 0
  | x :: r => uptoBulkEntry x + uptoBulkEntries r
def uptoBulkEntry {H : Type} : Lit × DataW H → Nat
  | (.string bytes, d) => bytes.length + uptoBulk d + 1
  | (_, d) => uptoBulk d + 1
 end
def uptoSmall : (H : Type) → List (DataW H) → Bool := fun _ ds => decide (uptoBulkAll ds ≤ 1048576)
def OpenSpec.upto (s : _root_.Go.ChangeSpec) : _root_.Go.OpenSpec := { _root_.Go.OpenSpec.ofChange s with cond := some uptoSmall }

/-- 'gantlinelaw10.LiveKnown', WHERE WHAT IT READS IS OF BULK AT MOST 1048576: true; the input reads as it did. -/
def liveKnownUptoRow : OpenClaim := { program := "ytofbefghllefhaa", sum := "e6f5dd4383dafc572dc0dea87ed3688fb8455362d77461a46cbe606d9c4ce117", func := "gantline/gantlinelaw10.LiveKnown", spec := "liveKnown", unfollowed := true, recurses := true, apart := false, narrowed := true }
def LiveKnownUptoSaid : Prop := liveKnownUptoRow.holds Try.pinned (OpenSpec.upto liveKnownSpec)

/-- 'gantlinelaw10.LiveInstrs', WHERE WHAT IT READS IS OF BULK AT MOST 1048576: true; the input reads as it did. -/
def liveInstrsUptoRow : OpenClaim := { program := "ytofbefghllefhaa", sum := "e6f5dd4383dafc572dc0dea87ed3688fb8455362d77461a46cbe606d9c4ce117", func := "gantline/gantlinelaw10.LiveInstrs", spec := "liveInstrs", unfollowed := true, recurses := true, apart := false, narrowed := true }
def LiveInstrsUptoSaid : Prop := liveInstrsUptoRow.holds Try.pinned (OpenSpec.upto liveInstrsSpec)

/-- 'gantlinelaw10.LiveSets', WHERE WHAT IT READS IS OF BULK AT MOST 1048576: true; the input reads as it did. -/
def liveSetsUptoRow : OpenClaim := { program := "ytofbefghllefhaa", sum := "e6f5dd4383dafc572dc0dea87ed3688fb8455362d77461a46cbe606d9c4ce117", func := "gantline/gantlinelaw10.LiveSets", spec := "liveSets", unfollowed := true, recurses := true, apart := false, narrowed := true }
def LiveSetsUptoSaid : Prop := liveSetsUptoRow.holds Try.pinned (OpenSpec.upto liveSetsSpec)

/-- 'gantlinelaw10.LiveWalks', WHERE WHAT IT READS IS OF BULK AT MOST 1048576: true; the input reads as it did. -/
def liveWalksUptoRow : OpenClaim := { program := "ytofbefghllefhaa", sum := "e6f5dd4383dafc572dc0dea87ed3688fb8455362d77461a46cbe606d9c4ce117", func := "gantline/gantlinelaw10.LiveWalks", spec := "liveWalks", unfollowed := true, recurses := true, apart := false, narrowed := true }
def LiveWalksUptoSaid : Prop := liveWalksUptoRow.holds Try.pinned (OpenSpec.upto liveWalksSpec)

/-- 'gantlinelaw10.LiveFits', WHERE WHAT IT READS IS OF BULK AT MOST 1048576: true; the input reads as it did. -/
def liveFitsUptoRow : OpenClaim := { program := "ytofbefghllefhaa", sum := "e6f5dd4383dafc572dc0dea87ed3688fb8455362d77461a46cbe606d9c4ce117", func := "gantline/gantlinelaw10.LiveFits", spec := "liveFits", unfollowed := true, recurses := true, apart := false, narrowed := true }
def LiveFitsUptoSaid : Prop := liveFitsUptoRow.holds Try.pinned (OpenSpec.upto liveFitsSpec)

/-- 'gantlinelaw11.FreshKnown', WHERE WHAT IT READS IS OF BULK AT MOST 1048576: true; the input reads as it did. -/
def freshKnownUptoRow : OpenClaim := { program := "ytofbefghllefhaa", sum := "e6f5dd4383dafc572dc0dea87ed3688fb8455362d77461a46cbe606d9c4ce117", func := "gantline/gantlinelaw11.FreshKnown", spec := "freshKnown", unfollowed := true, recurses := true, apart := false, narrowed := true }
def FreshKnownUptoSaid : Prop := freshKnownUptoRow.holds Try.pinned (OpenSpec.upto freshKnownSpec)

/-- 'gantlinelaw11.FreshPoints', WHERE WHAT IT READS IS OF BULK AT MOST 1048576: true; the input reads as it did. -/
def freshPointsUptoRow : OpenClaim := { program := "ytofbefghllefhaa", sum := "e6f5dd4383dafc572dc0dea87ed3688fb8455362d77461a46cbe606d9c4ce117", func := "gantline/gantlinelaw11.FreshPoints", spec := "freshPoints", unfollowed := true, recurses := true, apart := false, narrowed := true }
def FreshPointsUptoSaid : Prop := freshPointsUptoRow.holds Try.pinned (OpenSpec.upto freshPointsSpec)

/-- 'gantlinelaw11.FreshSends', WHERE WHAT IT READS IS OF BULK AT MOST 1048576: true; the input reads as it did. -/
def freshSendsUptoRow : OpenClaim := { program := "ytofbefghllefhaa", sum := "e6f5dd4383dafc572dc0dea87ed3688fb8455362d77461a46cbe606d9c4ce117", func := "gantline/gantlinelaw11.FreshSends", spec := "freshSends", unfollowed := true, recurses := true, apart := false, narrowed := true }
def FreshSendsUptoSaid : Prop := freshSendsUptoRow.holds Try.pinned (OpenSpec.upto freshSendsSpec)

/-- 'gantlinelaw12.VerifyKnown', WHERE WHAT IT READS IS OF BULK AT MOST 1048576: true; the input reads as it did. -/
def verifyKnownUptoRow : OpenClaim := { program := "ytofbefghllefhaa", sum := "e6f5dd4383dafc572dc0dea87ed3688fb8455362d77461a46cbe606d9c4ce117", func := "gantline/gantlinelaw12.VerifyKnown", spec := "verifyKnown", unfollowed := true, recurses := true, apart := false, narrowed := true }
def VerifyKnownUptoSaid : Prop := verifyKnownUptoRow.holds Try.pinned (OpenSpec.upto verifyKnownSpec)

/-- 'gantlinelaw12.VerifyShares', WHERE WHAT IT READS IS OF BULK AT MOST 1048576: true; the input reads as it did. -/
def verifySharesUptoRow : OpenClaim := { program := "ytofbefghllefhaa", sum := "e6f5dd4383dafc572dc0dea87ed3688fb8455362d77461a46cbe606d9c4ce117", func := "gantline/gantlinelaw12.VerifyShares", spec := "verifyShares", unfollowed := true, recurses := true, apart := false, narrowed := true }
def VerifySharesUptoSaid : Prop := verifySharesUptoRow.holds Try.pinned (OpenSpec.upto verifySharesSpec)

end Rows
end Go.Proofs.Ytofbefghllefhaa
