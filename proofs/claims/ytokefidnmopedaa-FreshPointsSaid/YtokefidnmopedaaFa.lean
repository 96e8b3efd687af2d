/- Facts on the seat's program that every row asks for. -/
import Derived.Test.YtokefidnmopedaaRows
import Derived.JoinedCond
namespace Go.Proofs.Ytokefidnmopedaa
open Go
set_option linter.all false
theorem fa1 : laidOutB Try.pinned.checked.prog = true := by kernel_rfl
theorem fa25 : Try.pinned.checked.prog.mayEnter = true := by kernel_rfl
theorem fa26 : Try.pinned.checked.prog.liftsFinal = Rows.liveWalksRow.lifted := by kernel_rfl
theorem fa27 : Try.pinned.checked.prog.make = some Rows.liveWalksRow.make := by kernel_rfl
end Go.Proofs.Ytokefidnmopedaa
