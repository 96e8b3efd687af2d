/-
  No cell of these rows narrows 'for every input' (looked for: loops, veiled, ifaces, maps, wideKeys, modest, calm, conditions, laid).
  DERIVED. THE GIVEN ROWS OF THIS SEAT. 8 by the template 'for every input the law returns true; each argument reads behind the call as it read before'; 0 by the template 'total and deterministic' (their statements: YtofbefghllefhaaGreatTotals.lean).
  GIVEN WITH THE SEED: the statements are not yours to turn. If you find one false, say at which input.
  Laid BY PROGRAM, IN A SANDBOX (cutbox-rows.mjs): the forced cells as the released guide's own fill.sh prints them over the translation 827a5e756ed9ae2e… (all of the seat's roots in one cut). By AI agents, Wed Nov 11 2026. No macro, syntax, notation, axiom, sorry.
-/
import Derived.Test.YtofbefghllefhaaGreatChecked
import GoSem.Claim
import GoSem.ClaimJoined
import GoSem.ClaimMapViews
import Derived.JoinedTies
import Derived.KernelRfl
namespace Go.Proofs.YtofbefghllefhaaGreat
/- THE CELL 'sum', in the pinned program and in every row, IS THE sha256 OF THE DUMP (.gsa) THAT YtofbefghllefhaaGreatProg.lean LOADS. Nothing in Lean hashes anything: it is a label: what it is worth is what the hold of that sum in a sandbox is worth. -/
noncomputable def Tryz.pinned : Pinned := { name := "ytofbefghllefhaagreat", sum := "827a5e756ed9ae2e271216a1bb2d4bb5329e11943779621b8785a139d7193597", checked := Tryz.checked }
namespace Rows
def none {H : Type} : Left H := { results := [], args := [] }

/-- 'gantlinelaw12.VerifySays': WHATEVER THE INPUT: true; the input reads as it did. -/
def verifySaysSpec : ChangeSpec := { name := "verifySays", fn := fun _ => fun
  | [d] => { results := [.lit (.bool true)], args := [d] }
  | _ => none }
def verifySaysRow : OpenClaim := { program := "ytofbefghllefhaagreat", sum := "827a5e756ed9ae2e271216a1bb2d4bb5329e11943779621b8785a139d7193597", func := "gantline/gantlinelaw12.VerifySays", spec := "verifySays", unfollowed := true, recurses := true, apart := false }
def VerifySaysSaid : Prop := verifySaysRow.holds Tryz.pinned (OpenSpec.ofChange verifySaysSpec)

/-- ITS FALSE NEIGHBOUR: 'it returns false'. Refute it at one input. -/
def verifySaysWrong : ChangeSpec := { name := "verifySays", fn := fun _ => fun
  | [d] => { results := [.lit (.bool false)], args := [d] }
  | _ => none }
def VerifySaysWrongFalsely : Prop := verifySaysRow.holds Tryz.pinned (OpenSpec.ofChange verifySaysWrong)

/-- 'gantlinelaw12.VerifyMaps': WHATEVER THE INPUT: true; the input reads as it did. -/
def verifyMapsSpec : ChangeSpec := { name := "verifyMaps", fn := fun _ => fun
  | [d1, d2, d3, d4] => { results := [.lit (.bool true)], args := [d1, d2, d3, d4] }
  | _ => none }
def verifyMapsRow : OpenClaim := { program := "ytofbefghllefhaagreat", sum := "827a5e756ed9ae2e271216a1bb2d4bb5329e11943779621b8785a139d7193597", func := "gantline/gantlinelaw12.VerifyMaps", spec := "verifyMaps", unfollowed := true, recurses := true, apart := false }
def VerifyMapsSaid : Prop := verifyMapsRow.holds Tryz.pinned (OpenSpec.ofChange verifyMapsSpec)

/-- ITS FALSE NEIGHBOUR: 'it returns false'. Refute it at one input. -/
def verifyMapsWrong : ChangeSpec := { name := "verifyMaps", fn := fun _ => fun
  | [d1, d2, d3, d4] => { results := [.lit (.bool false)], args := [d1, d2, d3, d4] }
  | _ => none }
def VerifyMapsWrongFalsely : Prop := verifyMapsRow.holds Tryz.pinned (OpenSpec.ofChange verifyMapsWrong)

/-- 'gantlinelaw12.VerifyParts': WHATEVER THE INPUT: true; the input reads as it did. -/
def verifyPartsSpec : ChangeSpec := { name := "verifyParts", fn := fun _ => fun
  | [d1, d2, d3] => { results := [.lit (.bool true)], args := [d1, d2, d3] }
  | _ => none }
def verifyPartsRow : OpenClaim := { program := "ytofbefghllefhaagreat", sum := "827a5e756ed9ae2e271216a1bb2d4bb5329e11943779621b8785a139d7193597", func := "gantline/gantlinelaw12.VerifyParts", spec := "verifyParts", unfollowed := true, recurses := true, apart := false }
def VerifyPartsSaid : Prop := verifyPartsRow.holds Tryz.pinned (OpenSpec.ofChange verifyPartsSpec)

/-- ITS FALSE NEIGHBOUR: 'it returns false'. Refute it at one input. -/
def verifyPartsWrong : ChangeSpec := { name := "verifyParts", fn := fun _ => fun
  | [d1, d2, d3] => { results := [.lit (.bool false)], args := [d1, d2, d3] }
  | _ => none }
def VerifyPartsWrongFalsely : Prop := verifyPartsRow.holds Tryz.pinned (OpenSpec.ofChange verifyPartsWrong)

/-- 'gantlinelaw12.VerifyCuts': WHATEVER THE INPUT: true; the input reads as it did. -/
def verifyCutsSpec : ChangeSpec := { name := "verifyCuts", fn := fun _ => fun
  | [d1, d2] => { results := [.lit (.bool true)], args := [d1, d2] }
  | _ => none }
def verifyCutsRow : OpenClaim := { program := "ytofbefghllefhaagreat", sum := "827a5e756ed9ae2e271216a1bb2d4bb5329e11943779621b8785a139d7193597", func := "gantline/gantlinelaw12.VerifyCuts", spec := "verifyCuts", unfollowed := true, recurses := true, apart := false }
def VerifyCutsSaid : Prop := verifyCutsRow.holds Tryz.pinned (OpenSpec.ofChange verifyCutsSpec)

/-- ITS FALSE NEIGHBOUR: 'it returns false'. Refute it at one input. -/
def verifyCutsWrong : ChangeSpec := { name := "verifyCuts", fn := fun _ => fun
  | [d1, d2] => { results := [.lit (.bool false)], args := [d1, d2] }
  | _ => none }
def VerifyCutsWrongFalsely : Prop := verifyCutsRow.holds Tryz.pinned (OpenSpec.ofChange verifyCutsWrong)

/-- 'gantlinelaw24.EmitKnown': WHATEVER THE INPUT: true; the input reads as it did. -/
def emitKnownSpec : ChangeSpec := { name := "emitKnown", fn := fun _ => fun
  | [] => { results := [.lit (.bool true)], args := [] }
  | _ => none }
def emitKnownRow : OpenClaim := { program := "ytofbefghllefhaagreat", sum := "827a5e756ed9ae2e271216a1bb2d4bb5329e11943779621b8785a139d7193597", func := "gantline/gantlinelaw24.EmitKnown", spec := "emitKnown", unfollowed := true, recurses := true, apart := false }
def EmitKnownSaid : Prop := emitKnownRow.holds Tryz.pinned (OpenSpec.ofChange emitKnownSpec)

/-- ITS FALSE NEIGHBOUR: 'it returns false'. Refute it at one input. -/
def emitKnownWrong : ChangeSpec := { name := "emitKnown", fn := fun _ => fun
  | [] => { results := [.lit (.bool false)], args := [] }
  | _ => none }
def EmitKnownWrongFalsely : Prop := emitKnownRow.holds Tryz.pinned (OpenSpec.ofChange emitKnownWrong)

/-- 'gantlinelaw24.EmitSteps': WHATEVER THE INPUT: true; the input reads as it did. -/
def emitStepsSpec : ChangeSpec := { name := "emitSteps", fn := fun _ => fun
  | [d] => { results := [.lit (.bool true)], args := [d] }
  | _ => none }
def emitStepsRow : OpenClaim := { program := "ytofbefghllefhaagreat", sum := "827a5e756ed9ae2e271216a1bb2d4bb5329e11943779621b8785a139d7193597", func := "gantline/gantlinelaw24.EmitSteps", spec := "emitSteps", unfollowed := true, recurses := true, apart := false }
def EmitStepsSaid : Prop := emitStepsRow.holds Tryz.pinned (OpenSpec.ofChange emitStepsSpec)

/-- ITS FALSE NEIGHBOUR: 'it returns false'. Refute it at one input. -/
def emitStepsWrong : ChangeSpec := { name := "emitSteps", fn := fun _ => fun
  | [d] => { results := [.lit (.bool false)], args := [d] }
  | _ => none }
def EmitStepsWrongFalsely : Prop := emitStepsRow.holds Tryz.pinned (OpenSpec.ofChange emitStepsWrong)

/-- 'gantlinelaw24.EmitCounts': WHATEVER THE INPUT: true; the input reads as it did. -/
def emitCountsSpec : ChangeSpec := { name := "emitCounts", fn := fun _ => fun
  | [d] => { results := [.lit (.bool true)], args := [d] }
  | _ => none }
def emitCountsRow : OpenClaim := { program := "ytofbefghllefhaagreat", sum := "827a5e756ed9ae2e271216a1bb2d4bb5329e11943779621b8785a139d7193597", func := "gantline/gantlinelaw24.EmitCounts", spec := "emitCounts", unfollowed := true, recurses := true, apart := false }
def EmitCountsSaid : Prop := emitCountsRow.holds Tryz.pinned (OpenSpec.ofChange emitCountsSpec)

/-- ITS FALSE NEIGHBOUR: 'it returns false'. Refute it at one input. -/
def emitCountsWrong : ChangeSpec := { name := "emitCounts", fn := fun _ => fun
  | [d] => { results := [.lit (.bool false)], args := [d] }
  | _ => none }
def EmitCountsWrongFalsely : Prop := emitCountsRow.holds Tryz.pinned (OpenSpec.ofChange emitCountsWrong)

/-- 'gantlinelaw24.EmitNew': WHATEVER THE INPUT: true; the input reads as it did. -/
def emitNewSpec : ChangeSpec := { name := "emitNew", fn := fun _ => fun
  | [d] => { results := [.lit (.bool true)], args := [d] }
  | _ => none }
def emitNewRow : OpenClaim := { program := "ytofbefghllefhaagreat", sum := "827a5e756ed9ae2e271216a1bb2d4bb5329e11943779621b8785a139d7193597", func := "gantline/gantlinelaw24.EmitNew", spec := "emitNew", unfollowed := true, recurses := true, apart := false }
def EmitNewSaid : Prop := emitNewRow.holds Tryz.pinned (OpenSpec.ofChange emitNewSpec)

/-- ITS FALSE NEIGHBOUR: 'it returns false'. Refute it at one input. -/
def emitNewWrong : ChangeSpec := { name := "emitNew", fn := fun _ => fun
  | [d] => { results := [.lit (.bool false)], args := [d] }
  | _ => none }
def EmitNewWrongFalsely : Prop := emitNewRow.holds Tryz.pinned (OpenSpec.ofChange emitNewWrong)

/- THE SECOND FORM. 'bulk': how many values and letters a reading holds, each counted each time it is reached (what is shared counts as often as it is met; a slice's spare places count too). A statement '..UptoSaid' is the law's where the arguments, and the package variables that the reading takes, are together of bulk at most 1048576: NARROWER than '..Said'. Prove '..Said' where nothing that the law and all that it calls make is longer than what came in: it says more and counts as full. Else prove '..UptoSaid'. A law counts once. -/
mutual
def uptoBulk {H : Type} : DataW H → Nat
  | .lit (.string bytes) => bytes.length + 1
  | .lit _ => 1
  | .nil => 1
  | .ptr d => uptoBulk d + 1
  | .slice elems spare => uptoBulkAll elems + uptoBulkAll spare + 1
  | .agg parts => uptoBulkAll parts + 1
  | .iface _ d => uptoBulk d + 1
  | .map entries => uptoBulkEntries entries + 1
  | .held _ => 1
def uptoBulkAll {H : Type} : List (DataW H) → Nat
  | [] => 0
  | d :: r => uptoBulk d + uptoBulkAll r
def uptoBulkEntries {H : Type} : List (Lit × DataW H) → Nat
  | [] => 0
  | x :: r => uptoBulkEntry x + uptoBulkEntries r
def uptoBulkEntry {H : Type} : Lit × DataW H → Nat
  | (.string bytes, d) => bytes.length + uptoBulk d + 1
  | (_, d) => uptoBulk d + 1
 end
def uptoSmall : (H : Type) → List (DataW H) → Bool := fun _ ds => decide (uptoBulkAll ds ≤ 1048576)
def OpenSpec.upto (s : _root_.Go.ChangeSpec) : _root_.Go.OpenSpec := { _root_.Go.OpenSpec.ofChange s with cond := some uptoSmall }

/-- 'gantlinelaw12.VerifySays', WHERE WHAT IT READS IS OF BULK AT MOST 1048576: true; the input reads as it did. -/
def verifySaysUptoRow : OpenClaim := { program := "ytofbefghllefhaagreat", sum := "827a5e756ed9ae2e271216a1bb2d4bb5329e11943779621b8785a139d7193597", func := "gantline/gantlinelaw12.VerifySays", spec := "verifySays", unfollowed := true, recurses := true, apart := false, narrowed := true }
def VerifySaysUptoSaid : Prop := verifySaysUptoRow.holds Tryz.pinned (OpenSpec.upto verifySaysSpec)

/-- 'gantlinelaw12.VerifyMaps', WHERE WHAT IT READS IS OF BULK AT MOST 1048576: true; the input reads as it did. -/
def verifyMapsUptoRow : OpenClaim := { program := "ytofbefghllefhaagreat", sum := "827a5e756ed9ae2e271216a1bb2d4bb5329e11943779621b8785a139d7193597", func := "gantline/gantlinelaw12.VerifyMaps", spec := "verifyMaps", unfollowed := true, recurses := true, apart := false, narrowed := true }
def VerifyMapsUptoSaid : Prop := verifyMapsUptoRow.holds Tryz.pinned (OpenSpec.upto verifyMapsSpec)

/-- 'gantlinelaw12.VerifyParts', WHERE WHAT IT READS IS OF BULK AT MOST 1048576: true; the input reads as it did. -/
def verifyPartsUptoRow : OpenClaim := { program := "ytofbefghllefhaagreat", sum := "827a5e756ed9ae2e271216a1bb2d4bb5329e11943779621b8785a139d7193597", func := "gantline/gantlinelaw12.VerifyParts", spec := "verifyParts", unfollowed := true, recurses := true, apart := false, narrowed := true }
def VerifyPartsUptoSaid : Prop := verifyPartsUptoRow.holds Tryz.pinned (OpenSpec.upto verifyPartsSpec)

/-- 'gantlinelaw12.VerifyCuts', WHERE WHAT IT READS IS OF BULK AT MOST 1048576: true; the input reads as it did. -/
def verifyCutsUptoRow : OpenClaim := { program := "ytofbefghllefhaagreat", sum := "827a5e756ed9ae2e271216a1bb2d4bb5329e11943779621b8785a139d7193597", func := "gantline/gantlinelaw12.VerifyCuts", spec := "verifyCuts", unfollowed := true, recurses := true, apart := false, narrowed := true }
def VerifyCutsUptoSaid : Prop := verifyCutsUptoRow.holds Tryz.pinned (OpenSpec.upto verifyCutsSpec)

/-- 'gantlinelaw24.EmitKnown', WHERE WHAT IT READS IS OF BULK AT MOST 1048576: true; the input reads as it did. -/
def emitKnownUptoRow : OpenClaim := { program := "ytofbefghllefhaagreat", sum := "827a5e756ed9ae2e271216a1bb2d4bb5329e11943779621b8785a139d7193597", func := "gantline/gantlinelaw24.EmitKnown", spec := "emitKnown", unfollowed := true, recurses := true, apart := false, narrowed := true }
def EmitKnownUptoSaid : Prop := emitKnownUptoRow.holds Tryz.pinned (OpenSpec.upto emitKnownSpec)

/-- 'gantlinelaw24.EmitSteps', WHERE WHAT IT READS IS OF BULK AT MOST 1048576: true; the input reads as it did. -/
def emitStepsUptoRow : OpenClaim := { program := "ytofbefghllefhaagreat", sum := "827a5e756ed9ae2e271216a1bb2d4bb5329e11943779621b8785a139d7193597", func := "gantline/gantlinelaw24.EmitSteps", spec := "emitSteps", unfollowed := true, recurses := true, apart := false, narrowed := true }
def EmitStepsUptoSaid : Prop := emitStepsUptoRow.holds Tryz.pinned (OpenSpec.upto emitStepsSpec)

/-- 'gantlinelaw24.EmitCounts', WHERE WHAT IT READS IS OF BULK AT MOST 1048576: true; the input reads as it did. -/
def emitCountsUptoRow : OpenClaim := { program := "ytofbefghllefhaagreat", sum := "827a5e756ed9ae2e271216a1bb2d4bb5329e11943779621b8785a139d7193597", func := "gantline/gantlinelaw24.EmitCounts", spec := "emitCounts", unfollowed := true, recurses := true, apart := false, narrowed := true }
def EmitCountsUptoSaid : Prop := emitCountsUptoRow.holds Tryz.pinned (OpenSpec.upto emitCountsSpec)

/-- 'gantlinelaw24.EmitNew', WHERE WHAT IT READS IS OF BULK AT MOST 1048576: true; the input reads as it did. -/
def emitNewUptoRow : OpenClaim := { program := "ytofbefghllefhaagreat", sum := "827a5e756ed9ae2e271216a1bb2d4bb5329e11943779621b8785a139d7193597", func := "gantline/gantlinelaw24.EmitNew", spec := "emitNew", unfollowed := true, recurses := true, apart := false, narrowed := true }
def EmitNewUptoSaid : Prop := emitNewUptoRow.holds Tryz.pinned (OpenSpec.upto emitNewSpec)

end Rows
end Go.Proofs.YtofbefghllefhaaGreat
