/- Where slices.Sorted, maps.Keys, slices.Sort and what they call stand in this program. -/
import Derived.Test.YtokefidnmopedaaProg
import Derived.Shelf.SlLaysZI
import Derived.Shelf.SlLaysM
import Derived.KernelRfl
namespace Go.Proofs.Ytokefidnmopedaa
open Go Go.Shelf Go.Proofs
set_option linter.all false
theorem bears_of {P : Program} {f : FuncId} {B fn : Func} (h : P.funcs[f]? = some fn) (hn : (fn.name == "runtime.NumGoroutine") = false) (hb : fn = { B with name := fn.name }) : Bears P f B := ⟨fn.name, hn, h.trans (congrArg some hb)⟩
def sort40Ren : Ren := ⟨fun x => match x with | 5 => 40 | 8 => 57 | 7 => 56 | 19 => 75 | 20 => 76 | 10 => 66 | 11 => 67 | 12 => 68 | 13 => 69 | 14 => 70 | 15 => 71 | 16 => 72 | 17 => 73 | 18 => 74 | 30 => 77 | 31 => 78 | 32 => 79 | 33 => 80 | 34 => 81 | 35 => 82 | 40 => 83 | n => n, fun x => match x with | 23 => 50 | 25 => 3 | 3 => 3 | 32 => 63 | 22 => 50 | 0 => 0 | 44 => 122 | 46 => 62 | 4 => 4 | 36 => 114 | 35 => 113 | 41 => 119 | 5 => 5 | 9 => 9 | 53 => 124 | 57 => 128 | 63 => 130 | 64 => 131 | n => n, fun x => x⟩
theorem sort40Lays : SlLaysM.n5 Try.prog sort40Ren where
  mixed := by kernel_rfl
  f5 := bears_of Try.func40 (by kernel_rfl) (by kernel_rfl)
  f7 := bears_of Try.func56 (by kernel_rfl) (by kernel_rfl)
  f8 := Try.func57.trans (congrArg some (by kernel_rfl))
  f10 := bears_of Try.func66 (by kernel_rfl) (by kernel_rfl)
  f11 := bears_of Try.func67 (by kernel_rfl) (by kernel_rfl)
  f12 := bears_of Try.func68 (by kernel_rfl) (by kernel_rfl)
  f13 := bears_of Try.func69 (by kernel_rfl) (by kernel_rfl)
  f14 := bears_of Try.func70 (by kernel_rfl) (by kernel_rfl)
  f15 := bears_of Try.func71 (by kernel_rfl) (by kernel_rfl)
  f16 := bears_of Try.func72 (by kernel_rfl) (by kernel_rfl)
  f17 := bears_of Try.func73 (by kernel_rfl) (by kernel_rfl)
  f18 := bears_of Try.func74 (by kernel_rfl) (by kernel_rfl)
  f19 := Try.func75.trans (congrArg some (by kernel_rfl))
  f20 := Try.func76.trans (congrArg some (by kernel_rfl))
  f30 := bears_of Try.func77 (by kernel_rfl) (by kernel_rfl)
  f31 := Try.func78.trans (congrArg some (by kernel_rfl))
  f32 := Try.func79.trans (congrArg some (by kernel_rfl))
  f33 := bears_of Try.func80 (by kernel_rfl) (by kernel_rfl)
  f34 := bears_of Try.func81 (by kernel_rfl) (by kernel_rfl)
  f35 := bears_of Try.func82 (by kernel_rfl) (by kernel_rfl)
  f40 := bears_of Try.func83 (by kernel_rfl) (by kernel_rfl)
  t0 := Try.underlying0
  a0 := Try.isAgg0
  z0 := Try.sizeOf0
  v0 := Try.zeroValue0
  t3 := Try.underlying3
  a3 := Try.isAgg3
  z3 := Try.sizeOf3
  v3 := Try.zeroValue3
  t4 := Try.underlying4
  a4 := Try.isAgg4
  z4 := Try.sizeOf4
  v4 := Try.zeroValue4
  t5 := Try.underlying5
  a5 := Try.isAgg5
  z5 := Try.sizeOf5
  v5 := Try.zeroValue5
  t9 := Try.underlying9
  a9 := Try.isAgg9
  z9 := Try.sizeOf9
  v9 := Try.zeroValue9
  t22 := Try.underlying50
  a22 := Try.isAgg50
  z22 := Try.sizeOf50
  v22 := Try.zeroValue50
  t23 := Try.underlying50
  a23 := Try.isAgg50
  z23 := Try.sizeOf50
  v23 := Try.zeroValue50
  t25 := Try.underlying3
  a25 := Try.isAgg3
  z25 := Try.sizeOf3
  v25 := Try.zeroValue3
  t32 := Try.underlying63
  a32 := Try.isAgg63
  z32 := Try.sizeOf63
  v32 := Try.zeroValue63
  t35 := Try.underlying113
  a35 := Try.isAgg113
  z35 := Try.sizeOf113
  v35 := Try.zeroValue113
  t36 := Try.underlying114
  a36 := Try.isAgg114
  z36 := Try.sizeOf114
  v36 := Try.zeroValue114
  t41 := Try.underlying119
  a41 := Try.isAgg119
  z41 := Try.sizeOf119
  v41 := Try.zeroValue119
  t44 := Try.underlying122
  a44 := Try.isAgg122
  z44 := Try.sizeOf122
  v44 := Try.zeroValue122
  t46 := Try.underlying62
  a46 := Try.isAgg62
  z46 := Try.sizeOf62
  v46 := Try.zeroValue62
  t53 := Try.underlying124
  a53 := Try.isAgg124
  z53 := Try.sizeOf124
  v53 := Try.zeroValue124
  t57 := Try.underlying128
  a57 := Try.isAgg128
  z57 := Try.sizeOf128
  v57 := Try.zeroValue128
  t63 := Try.underlying130
  a63 := Try.isAgg130
  z63 := Try.sizeOf130
  v63 := Try.zeroValue130
  t64 := Try.underlying131
  a64 := Try.isAgg131
  z64 := Try.sizeOf131
  v64 := Try.zeroValue131
end Go.Proofs.Ytokefidnmopedaa
