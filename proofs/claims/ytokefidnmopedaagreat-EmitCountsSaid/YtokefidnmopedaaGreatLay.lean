/- Where slices.Sorted, maps.Keys, slices.Sort and what they call stand in this program. -/
import Derived.Test.YtokefidnmopedaaGreatProg
import Derived.Shelf.SlLaysZI
import Derived.Shelf.SlLaysM
import Derived.KernelRfl
namespace Go.Proofs.YtokefidnmopedaaGreat
open Go Go.Shelf Go.Proofs
set_option linter.all false
theorem bears_of {P : Program} {f : FuncId} {B fn : Func} (h : P.funcs[f]? = some fn) (hn : (fn.name == "runtime.NumGoroutine") = false) (hb : fn = { B with name := fn.name }) : Bears P f B := ⟨fn.name, hn, h.trans (congrArg some hb)⟩
def sort68Ren : Ren := ⟨fun x => match x with | 5 => 68 | 8 => 91 | 7 => 90 | 19 => 120 | 20 => 121 | 10 => 111 | 11 => 112 | 12 => 113 | 13 => 114 | 14 => 115 | 15 => 116 | 16 => 117 | 17 => 118 | 18 => 119 | 30 => 125 | 31 => 126 | 32 => 127 | 33 => 128 | 34 => 129 | 35 => 130 | 40 => 131 | n => n, fun x => match x with | 23 => 46 | 25 => 3 | 3 => 3 | 32 => 97 | 22 => 46 | 0 => 0 | 44 => 146 | 46 => 52 | 4 => 4 | 36 => 139 | 35 => 138 | 41 => 143 | 5 => 5 | 9 => 9 | 53 => 150 | 57 => 154 | 63 => 156 | 64 => 48 | n => n, fun x => x⟩
theorem sort68Lays : SlLaysM.n5 Tryz.prog sort68Ren where
  mixed := by kernel_rfl
  f5 := bears_of Tryz.func68 (by kernel_rfl) (by kernel_rfl)
  f7 := bears_of Tryz.func90 (by kernel_rfl) (by kernel_rfl)
  f8 := Tryz.func91.trans (congrArg some (by kernel_rfl))
  f10 := bears_of Tryz.func111 (by kernel_rfl) (by kernel_rfl)
  f11 := bears_of Tryz.func112 (by kernel_rfl) (by kernel_rfl)
  f12 := bears_of Tryz.func113 (by kernel_rfl) (by kernel_rfl)
  f13 := bears_of Tryz.func114 (by kernel_rfl) (by kernel_rfl)
  f14 := bears_of Tryz.func115 (by kernel_rfl) (by kernel_rfl)
  f15 := bears_of Tryz.func116 (by kernel_rfl) (by kernel_rfl)
  f16 := bears_of Tryz.func117 (by kernel_rfl) (by kernel_rfl)
  f17 := bears_of Tryz.func118 (by kernel_rfl) (by kernel_rfl)
  f18 := bears_of Tryz.func119 (by kernel_rfl) (by kernel_rfl)
  f19 := Tryz.func120.trans (congrArg some (by kernel_rfl))
  f20 := Tryz.func121.trans (congrArg some (by kernel_rfl))
  f30 := bears_of Tryz.func125 (by kernel_rfl) (by kernel_rfl)
  f31 := Tryz.func126.trans (congrArg some (by kernel_rfl))
  f32 := Tryz.func127.trans (congrArg some (by kernel_rfl))
  f33 := bears_of Tryz.func128 (by kernel_rfl) (by kernel_rfl)
  f34 := bears_of Tryz.func129 (by kernel_rfl) (by kernel_rfl)
  f35 := bears_of Tryz.func130 (by kernel_rfl) (by kernel_rfl)
  f40 := bears_of Tryz.func131 (by kernel_rfl) (by kernel_rfl)
  t0 := Tryz.underlying0
  a0 := Tryz.isAgg0
  z0 := Tryz.sizeOf0
  v0 := Tryz.zeroValue0
  t3 := Tryz.underlying3
  a3 := Tryz.isAgg3
  z3 := Tryz.sizeOf3
  v3 := Tryz.zeroValue3
  t4 := Tryz.underlying4
  a4 := Tryz.isAgg4
  z4 := Tryz.sizeOf4
  v4 := Tryz.zeroValue4
  t5 := Tryz.underlying5
  a5 := Tryz.isAgg5
  z5 := Tryz.sizeOf5
  v5 := Tryz.zeroValue5
  t9 := Tryz.underlying9
  a9 := Tryz.isAgg9
  z9 := Tryz.sizeOf9
  v9 := Tryz.zeroValue9
  t22 := Tryz.underlying46
  a22 := Tryz.isAgg46
  z22 := Tryz.sizeOf46
  v22 := Tryz.zeroValue46
  t23 := Tryz.underlying46
  a23 := Tryz.isAgg46
  z23 := Tryz.sizeOf46
  v23 := Tryz.zeroValue46
  t25 := Tryz.underlying3
  a25 := Tryz.isAgg3
  z25 := Tryz.sizeOf3
  v25 := Tryz.zeroValue3
  t32 := Tryz.underlying97
  a32 := Tryz.isAgg97
  z32 := Tryz.sizeOf97
  v32 := Tryz.zeroValue97
  t35 := Tryz.underlying138
  a35 := Tryz.isAgg138
  z35 := Tryz.sizeOf138
  v35 := Tryz.zeroValue138
  t36 := Tryz.underlying139
  a36 := Tryz.isAgg139
  z36 := Tryz.sizeOf139
  v36 := Tryz.zeroValue139
  t41 := Tryz.underlying143
  a41 := Tryz.isAgg143
  z41 := Tryz.sizeOf143
  v41 := Tryz.zeroValue143
  t44 := Tryz.underlying146
  a44 := Tryz.isAgg146
  z44 := Tryz.sizeOf146
  v44 := Tryz.zeroValue146
  t46 := Tryz.underlying52
  a46 := Tryz.isAgg52
  z46 := Tryz.sizeOf52
  v46 := Tryz.zeroValue52
  t53 := Tryz.underlying150
  a53 := Tryz.isAgg150
  z53 := Tryz.sizeOf150
  v53 := Tryz.zeroValue150
  t57 := Tryz.underlying154
  a57 := Tryz.isAgg154
  z57 := Tryz.sizeOf154
  v57 := Tryz.zeroValue154
  t63 := Tryz.underlying156
  a63 := Tryz.isAgg156
  z63 := Tryz.sizeOf156
  v63 := Tryz.zeroValue156
  t64 := Tryz.underlying48
  a64 := Tryz.isAgg48
  z64 := Tryz.sizeOf48
  v64 := Tryz.zeroValue48
end Go.Proofs.YtokefidnmopedaaGreat
