/-
  No cell of these rows narrows 'for every input' (looked for: loops, veiled, ifaces, maps, wideKeys, modest, calm, conditions, laid).
  DERIVED. THE GIVEN ROWS OF THIS SEAT. 4 by the template 'for every input the law returns true; each argument reads behind the call as it read before'; 0 by the template 'total and deterministic' (their statements: YtdmgkkcjnmmfmaaGreatTotals.lean).
  GIVEN WITH THE SEED: the statements are not yours to turn. If you find one false, say at which input.
  Laid BY PROGRAM, IN A SANDBOX (cutbox-rows.mjs): the forced cells as the released guide's own fill.sh prints them over the translation 9cccd538dbf7ec97… (all of the seat's roots in one cut). By AI agents, Wed Nov 11 2026. No macro, syntax, notation, axiom, sorry.
-/
import Derived.Test.YtdmgkkcjnmmfmaaGreatChecked
import GoSem.Claim
import GoSem.ClaimJoined
import GoSem.ClaimMapViews
import Derived.JoinedTies
import Derived.KernelRfl
namespace Go.Proofs.YtdmgkkcjnmmfmaaGreat
/- THE CELL 'sum', in the pinned program and in every row, IS THE sha256 OF THE DUMP (.gsa) THAT YtdmgkkcjnmmfmaaGreatProg.lean LOADS. Nothing in Lean hashes anything: it is a label: what it is worth is what the hold of that sum in a sandbox is worth. -/
noncomputable def Tryz.pinned : Pinned := { name := "ytdmgkkcjnmmfmaagreat", sum := "9cccd538dbf7ec9744f95bca3100e775e1f4c34a3c0d0aa990dd55253d9e3b22", checked := Tryz.checked }
namespace Rows
def none {H : Type} : Left H := { results := [], args := [] }

/-- 'gantlinelaw12.VerifySays': WHATEVER THE INPUT: true; the input reads as it did. -/
def verifySaysSpec : ChangeSpec := { name := "verifySays", fn := fun _ => fun
  | [d] => { results := [.lit (.bool true)], args := [d] }
  | _ => none }
def verifySaysRow : OpenClaim := { program := "ytdmgkkcjnmmfmaagreat", sum := "9cccd538dbf7ec9744f95bca3100e775e1f4c34a3c0d0aa990dd55253d9e3b22", func := "gantline/gantlinelaw12.VerifySays", spec := "verifySays", unfollowed := true, recurses := true, apart := false }
def VerifySaysSaid : Prop := verifySaysRow.holds Tryz.pinned (OpenSpec.ofChange verifySaysSpec)

/-- ITS FALSE NEIGHBOUR: 'it returns false'. Refute it at one input. -/
def verifySaysWrong : ChangeSpec := { name := "verifySays", fn := fun _ => fun
  | [d] => { results := [.lit (.bool false)], args := [d] }
  | _ => none }
def VerifySaysWrongFalsely : Prop := verifySaysRow.holds Tryz.pinned (OpenSpec.ofChange verifySaysWrong)

/-- 'gantlinelaw12.VerifyMaps': WHATEVER THE INPUT: true; the input reads as it did. -/
def verifyMapsSpec : ChangeSpec := { name := "verifyMaps", fn := fun _ => fun
  | [d1, d2, d3, d4] => { results := [.lit (.bool true)], args := [d1, d2, d3, d4] }
  | _ => none }
def verifyMapsRow : OpenClaim := { program := "ytdmgkkcjnmmfmaagreat", sum := "9cccd538dbf7ec9744f95bca3100e775e1f4c34a3c0d0aa990dd55253d9e3b22", func := "gantline/gantlinelaw12.VerifyMaps", spec := "verifyMaps", unfollowed := true, recurses := true, apart := false }
def VerifyMapsSaid : Prop := verifyMapsRow.holds Tryz.pinned (OpenSpec.ofChange verifyMapsSpec)

/-- ITS FALSE NEIGHBOUR: 'it returns false'. Refute it at one input. -/
def verifyMapsWrong : ChangeSpec := { name := "verifyMaps", fn := fun _ => fun
  | [d1, d2, d3, d4] => { results := [.lit (.bool false)], args := [d1, d2, d3, d4] }
  | _ => none }
def VerifyMapsWrongFalsely : Prop := verifyMapsRow.holds Tryz.pinned (OpenSpec.ofChange verifyMapsWrong)

/-- 'gantlinelaw12.VerifyParts': WHATEVER THE INPUT: true; the input reads as it did. -/
def verifyPartsSpec : ChangeSpec := { name := "verifyParts", fn := fun _ => fun
  | [d1, d2, d3] => { results := [.lit (.bool true)], args := [d1, d2, d3] }
  | _ => none }
def verifyPartsRow : OpenClaim := { program := "ytdmgkkcjnmmfmaagreat", sum := "9cccd538dbf7ec9744f95bca3100e775e1f4c34a3c0d0aa990dd55253d9e3b22", func := "gantline/gantlinelaw12.VerifyParts", spec := "verifyParts", unfollowed := true, recurses := true, apart := false }
def VerifyPartsSaid : Prop := verifyPartsRow.holds Tryz.pinned (OpenSpec.ofChange verifyPartsSpec)

/-- ITS FALSE NEIGHBOUR: 'it returns false'. Refute it at one input. -/
def verifyPartsWrong : ChangeSpec := { name := "verifyParts", fn := fun _ => fun
  | [d1, d2, d3] => { results := [.lit (.bool false)], args := [d1, d2, d3] }
  | _ => none }
def VerifyPartsWrongFalsely : Prop := verifyPartsRow.holds Tryz.pinned (OpenSpec.ofChange verifyPartsWrong)

/-- 'gantlinelaw12.VerifyCuts': WHATEVER THE INPUT: true; the input reads as it did. -/
def verifyCutsSpec : ChangeSpec := { name := "verifyCuts", fn := fun _ => fun
  | [d1, d2] => { results := [.lit (.bool true)], args := [d1, d2] }
  | _ => none }
def verifyCutsRow : OpenClaim := { program := "ytdmgkkcjnmmfmaagreat", sum := "9cccd538dbf7ec9744f95bca3100e775e1f4c34a3c0d0aa990dd55253d9e3b22", func := "gantline/gantlinelaw12.VerifyCuts", spec := "verifyCuts", unfollowed := true, recurses := true, apart := false }
def VerifyCutsSaid : Prop := verifyCutsRow.holds Tryz.pinned (OpenSpec.ofChange verifyCutsSpec)

/-- ITS FALSE NEIGHBOUR: 'it returns false'. Refute it at one input. -/
def verifyCutsWrong : ChangeSpec := { name := "verifyCuts", fn := fun _ => fun
  | [d1, d2] => { results := [.lit (.bool false)], args := [d1, d2] }
  | _ => none }
def VerifyCutsWrongFalsely : Prop := verifyCutsRow.holds Tryz.pinned (OpenSpec.ofChange verifyCutsWrong)

/- THE SECOND FORM. 'bulk': how many values and letters a reading holds, each counted each time it is reached (what is shared counts as often as it is met; a slice's spare places count too). A statement '..UptoSaid' is the law's where the arguments, and the package variables that the reading takes, are together of bulk at most 1048576: NARROWER than '..Said'. Prove '..Said' where nothing that the law and all that it calls make is longer than what came in: it says more and counts as full. Else prove '..UptoSaid'. A law counts once. -/
mutual
def uptoBulk {H : Type} : DataW H → Nat
  | .lit (.string bytes) => bytes.length + 1
  | .lit _ => 1
  | .nil => 1
  | .ptr d => uptoBulk d + 1
  | .slice elems spare => uptoBulkAll elems + uptoBulkAll spare + 1
  | .agg parts => uptoBulkAll parts + 1
  | .iface _ d => uptoBulk d + 1
  | .map entries => uptoBulkEntries entries + 1
  | .held _ => 1
def uptoBulkAll {H : Type} : List (DataW H) → Nat
  | [] => 0
  | d :: r => uptoBulk d + uptoBulkAll r
def uptoBulkEntries {H : Type} : List (Lit × DataW H) → Nat
  | [] => 0
  | x :: r => uptoBulkEntry x + uptoBulkEntries r
def uptoBulkEntry {H : Type} : Lit × DataW H → Nat
  | (.string bytes, d) => bytes.length + uptoBulk d + 1
  | (_, d) => uptoBulk d + 1
 end
def uptoSmall : (H : Type) → List (DataW H) → Bool := fun _ ds => decide (uptoBulkAll ds ≤ 1048576)
def OpenSpec.upto (s : _root_.Go.ChangeSpec) : _root_.Go.OpenSpec := { _root_.Go.OpenSpec.ofChange s with cond := some uptoSmall }

/-- 'gantlinelaw12.VerifySays', WHERE WHAT IT READS IS OF BULK AT MOST 1048576: true; the input reads as it did. -/
def verifySaysUptoRow : OpenClaim := { program := "ytdmgkkcjnmmfmaagreat", sum := "9cccd538dbf7ec9744f95bca3100e775e1f4c34a3c0d0aa990dd55253d9e3b22", func := "gantline/gantlinelaw12.VerifySays", spec := "verifySays", unfollowed := true, recurses := true, apart := false, narrowed := true }
def VerifySaysUptoSaid : Prop := verifySaysUptoRow.holds Tryz.pinned (OpenSpec.upto verifySaysSpec)

/-- 'gantlinelaw12.VerifyMaps', WHERE WHAT IT READS IS OF BULK AT MOST 1048576: true; the input reads as it did. -/
def verifyMapsUptoRow : OpenClaim := { program := "ytdmgkkcjnmmfmaagreat", sum := "9cccd538dbf7ec9744f95bca3100e775e1f4c34a3c0d0aa990dd55253d9e3b22", func := "gantline/gantlinelaw12.VerifyMaps", spec := "verifyMaps", unfollowed := true, recurses := true, apart := false, narrowed := true }
def VerifyMapsUptoSaid : Prop := verifyMapsUptoRow.holds Tryz.pinned (OpenSpec.upto verifyMapsSpec)

/-- 'gantlinelaw12.VerifyParts', WHERE WHAT IT READS IS OF BULK AT MOST 1048576: true; the input reads as it did. -/
def verifyPartsUptoRow : OpenClaim := { program := "ytdmgkkcjnmmfmaagreat", sum := "9cccd538dbf7ec9744f95bca3100e775e1f4c34a3c0d0aa990dd55253d9e3b22", func := "gantline/gantlinelaw12.VerifyParts", spec := "verifyParts", unfollowed := true, recurses := true, apart := false, narrowed := true }
def VerifyPartsUptoSaid : Prop := verifyPartsUptoRow.holds Tryz.pinned (OpenSpec.upto verifyPartsSpec)

/-- 'gantlinelaw12.VerifyCuts', WHERE WHAT IT READS IS OF BULK AT MOST 1048576: true; the input reads as it did. -/
def verifyCutsUptoRow : OpenClaim := { program := "ytdmgkkcjnmmfmaagreat", sum := "9cccd538dbf7ec9744f95bca3100e775e1f4c34a3c0d0aa990dd55253d9e3b22", func := "gantline/gantlinelaw12.VerifyCuts", spec := "verifyCuts", unfollowed := true, recurses := true, apart := false, narrowed := true }
def VerifyCutsUptoSaid : Prop := verifyCutsUptoRow.holds Tryz.pinned (OpenSpec.upto verifyCutsSpec)

end Rows
end Go.Proofs.YtdmgkkcjnmmfmaaGreat
