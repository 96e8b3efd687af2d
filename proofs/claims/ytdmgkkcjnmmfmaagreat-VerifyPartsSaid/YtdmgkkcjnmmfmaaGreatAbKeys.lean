import Derived.Test.YtdmgkkcjnmmfmaaGreatAbSort
import Derived.Shelf.SlIterI.Nil
import Derived.Shelf.SortM.Plain
import Derived.Shelf.SortM.SortNone
namespace Go.Ab
open Go
set_option linter.all false
section
variable {P:Program}
open Go.RowKit in
open Go.RowKit in
section
open Go.RowKit Go.Maps Go.Sort Go.Shelf Go.Proofs
variable {ρ6 ρ7 ρS:Ren}
end
end
end Go.Ab
