/- Facts on the seat's program that every row asks for. -/
import Derived.Test.YtmpinijdejafkaaDoorRows
import Derived.JoinedCond
namespace Go.Proofs.YtmpinijdejafkaaDoor
open Go
set_option linter.all false
theorem fa1 : laidOutB Tryd.pinned.checked.prog = true := by kernel_rfl
theorem fa25 : Tryd.pinned.checked.prog.mayEnter = true := by kernel_rfl
theorem fa26 : Tryd.pinned.checked.prog.liftsFinal = Rows.heapBoundsRow.lifted := by kernel_rfl
theorem fa27 : Tryd.pinned.checked.prog.make = some Rows.heapBoundsRow.make := by kernel_rfl
end Go.Proofs.YtmpinijdejafkaaDoor
