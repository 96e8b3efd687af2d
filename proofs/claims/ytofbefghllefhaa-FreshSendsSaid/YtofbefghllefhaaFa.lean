/- Facts on the seat's program that every row asks for. -/
import Derived.Test.YtofbefghllefhaaRows
import Derived.JoinedCond
namespace Go.Proofs.Ytofbefghllefhaa
open Go
set_option linter.all false
theorem fa1 : laidOutB Try.pinned.checked.prog = true := by kernel_rfl
theorem fa25 : Try.pinned.checked.prog.mayEnter = true := by kernel_rfl
theorem fa26 : Try.pinned.checked.prog.liftsFinal = Rows.freshSendsRow.lifted := by kernel_rfl
theorem fa27 : Try.pinned.checked.prog.make = some Rows.freshSendsRow.make := by kernel_rfl
end Go.Proofs.Ytofbefghllefhaa
