import Derived.Test.YtdmgkkcjnmmfmaaGreatRows
import Derived.JoinedCond
namespace Go.Proofs.YtdmgkkcjnmmfmaaGreat
open Go
set_option linter.all false
theorem fa1:laidOutB Tryz.pinned.checked.prog=true:=by kernel_rfl
theorem fa25:Tryz.pinned.checked.prog.mayEnter=true:=by kernel_rfl
theorem fa26:Tryz.pinned.checked.prog.liftsFinal=Rows.verifyPartsRow.lifted:=by kernel_rfl
theorem fa27:Tryz.pinned.checked.prog.make=some Rows.verifyPartsRow.make:=by kernel_rfl
end Go.Proofs.YtdmgkkcjnmmfmaaGreat
