/- Where slices.Sorted, maps.Keys, slices.Sort and what they call stand in this program. -/
import Derived.Test.YthhfnocfegapbaaGreatDoorProg
import Derived.Shelf.SlLaysZI
import Derived.Shelf.SlLaysM
import Derived.KernelRfl
namespace Go.Proofs.YthhfnocfegapbaaGreatDoor
open Go Go.Shelf Go.Proofs
set_option linter.all false
theorem bears_of {P : Program} {f : FuncId} {B fn : Func} (h : P.funcs[f]? = some fn) (hn : (fn.name == "runtime.NumGoroutine") = false) (hb : fn = { B with name := fn.name }) : Bears P f B := ⟨fn.name, hn, h.trans (congrArg some hb)⟩
def keys52Ren : Ren := ⟨fun x => match x with | 7 => 52 | 10 => 80 | n => n, fun x => match x with | 23 => 99 | 26 => 2 | 3 => 4 | 28 => 102 | 0 => 0 | 27 => 101 | 33 => 36 | 4 => 4 | n => n, fun x => x⟩
theorem keys52Lays : SlLaysZI.n7 Tryz.prog keys52Ren where
  mixed := by kernel_rfl
  f7 := bears_of Tryz.func52 (by kernel_rfl) (by kernel_rfl)
  f10 := bears_of Tryz.func80 (by kernel_rfl) (by kernel_rfl)
  t0 := Tryz.underlying0
  a0 := Tryz.isAgg0
  z0 := Tryz.sizeOf0
  v0 := Tryz.zeroValue0
  t4 := Tryz.underlying4
  a4 := Tryz.isAgg4
  z4 := Tryz.sizeOf4
  v4 := Tryz.zeroValue4
  t23 := Tryz.underlying99
  a23 := Tryz.isAgg99
  z23 := Tryz.sizeOf99
  v23 := Tryz.zeroValue99
  t26 := Tryz.underlying2
  a26 := Tryz.isAgg2
  z26 := Tryz.sizeOf2
  v26 := Tryz.zeroValue2
  t27 := Tryz.underlying101
  a27 := Tryz.isAgg101
  z27 := Tryz.sizeOf101
  v27 := Tryz.zeroValue101
  t28 := Tryz.underlying102
  a28 := Tryz.isAgg102
  z28 := Tryz.sizeOf102
  v28 := Tryz.zeroValue102
  t33 := Tryz.underlying36
  a33 := Tryz.isAgg36
  z33 := Tryz.sizeOf36
  v33 := Tryz.zeroValue36
def sorted51Ren : Ren := ⟨fun x => match x with | 6 => 51 | 8 => 78 | 9 => 79 | 11 => 93 | 13 => 95 | 12 => 94 | 23 => 107 | 24 => 108 | 14 => 98 | 15 => 99 | 16 => 100 | 17 => 101 | 18 => 102 | 19 => 103 | 20 => 104 | 21 => 105 | 22 => 106 | 25 => 110 | 26 => 111 | 27 => 112 | 28 => 113 | 29 => 114 | 30 => 115 | 31 => 116 | n => n, fun x => match x with | 26 => 2 | 28 => 102 | 24 => 24 | 0 => 0 | 3 => 3 | 37 => 107 | 48 => 155 | 50 => 42 | 4 => 4 | 40 => 148 | 39 => 147 | 45 => 127 | 5 => 5 | 9 => 9 | 51 => 157 | 55 => 161 | 57 => 163 | 58 => 164 | 33 => 36 | n => n, fun x => x⟩
theorem sorted51Lays : SlLaysZI.n6 Tryz.prog sorted51Ren where
  mixed := by kernel_rfl
  f6 := bears_of Tryz.func51 (by kernel_rfl) (by kernel_rfl)
  f8 := bears_of Tryz.func78 (by kernel_rfl) (by kernel_rfl)
  f11 := bears_of Tryz.func93 (by kernel_rfl) (by kernel_rfl)
  t0 := Tryz.underlying0
  a0 := Tryz.isAgg0
  z0 := Tryz.sizeOf0
  v0 := Tryz.zeroValue0
  t24 := Tryz.underlying24
  a24 := Tryz.isAgg24
  z24 := Tryz.sizeOf24
  v24 := Tryz.zeroValue24
  t26 := Tryz.underlying2
  a26 := Tryz.isAgg2
  z26 := Tryz.sizeOf2
  v26 := Tryz.zeroValue2
  t28 := Tryz.underlying102
  a28 := Tryz.isAgg102
  z28 := Tryz.sizeOf102
  v28 := Tryz.zeroValue102
  i26 := by kernel_rfl
def sort79Ren : Ren := ⟨fun x => match x with | 5 => 79 | 8 => 95 | 7 => 94 | 19 => 107 | 20 => 108 | 10 => 98 | 11 => 99 | 12 => 100 | 13 => 101 | 14 => 102 | 15 => 103 | 16 => 104 | 17 => 105 | 18 => 106 | 30 => 110 | 31 => 111 | 32 => 112 | 33 => 113 | 34 => 114 | 35 => 115 | 40 => 116 | n => n, fun x => match x with | 23 => 24 | 25 => 2 | 3 => 3 | 32 => 107 | 22 => 24 | 0 => 0 | 44 => 155 | 46 => 42 | 4 => 4 | 36 => 148 | 35 => 147 | 41 => 127 | 5 => 5 | 9 => 9 | 53 => 157 | 57 => 161 | 63 => 163 | 64 => 164 | n => n, fun x => x⟩
theorem sort79Lays : SlLaysM.n5 Tryz.prog sort79Ren where
  mixed := by kernel_rfl
  f5 := bears_of Tryz.func79 (by kernel_rfl) (by kernel_rfl)
  f7 := bears_of Tryz.func94 (by kernel_rfl) (by kernel_rfl)
  f8 := Tryz.func95.trans (congrArg some (by kernel_rfl))
  f10 := bears_of Tryz.func98 (by kernel_rfl) (by kernel_rfl)
  f11 := bears_of Tryz.func99 (by kernel_rfl) (by kernel_rfl)
  f12 := bears_of Tryz.func100 (by kernel_rfl) (by kernel_rfl)
  f13 := bears_of Tryz.func101 (by kernel_rfl) (by kernel_rfl)
  f14 := bears_of Tryz.func102 (by kernel_rfl) (by kernel_rfl)
  f15 := bears_of Tryz.func103 (by kernel_rfl) (by kernel_rfl)
  f16 := bears_of Tryz.func104 (by kernel_rfl) (by kernel_rfl)
  f17 := bears_of Tryz.func105 (by kernel_rfl) (by kernel_rfl)
  f18 := bears_of Tryz.func106 (by kernel_rfl) (by kernel_rfl)
  f19 := Tryz.func107.trans (congrArg some (by kernel_rfl))
  f20 := Tryz.func108.trans (congrArg some (by kernel_rfl))
  f30 := bears_of Tryz.func110 (by kernel_rfl) (by kernel_rfl)
  f31 := Tryz.func111.trans (congrArg some (by kernel_rfl))
  f32 := Tryz.func112.trans (congrArg some (by kernel_rfl))
  f33 := bears_of Tryz.func113 (by kernel_rfl) (by kernel_rfl)
  f34 := bears_of Tryz.func114 (by kernel_rfl) (by kernel_rfl)
  f35 := bears_of Tryz.func115 (by kernel_rfl) (by kernel_rfl)
  f40 := bears_of Tryz.func116 (by kernel_rfl) (by kernel_rfl)
  t0 := Tryz.underlying0
  a0 := Tryz.isAgg0
  z0 := Tryz.sizeOf0
  v0 := Tryz.zeroValue0
  t3 := Tryz.underlying3
  a3 := Tryz.isAgg3
  z3 := Tryz.sizeOf3
  v3 := Tryz.zeroValue3
  t4 := Tryz.underlying4
  a4 := Tryz.isAgg4
  z4 := Tryz.sizeOf4
  v4 := Tryz.zeroValue4
  t5 := Tryz.underlying5
  a5 := Tryz.isAgg5
  z5 := Tryz.sizeOf5
  v5 := Tryz.zeroValue5
  t9 := Tryz.underlying9
  a9 := Tryz.isAgg9
  z9 := Tryz.sizeOf9
  v9 := Tryz.zeroValue9
  t22 := Tryz.underlying24
  a22 := Tryz.isAgg24
  z22 := Tryz.sizeOf24
  v22 := Tryz.zeroValue24
  t23 := Tryz.underlying24
  a23 := Tryz.isAgg24
  z23 := Tryz.sizeOf24
  v23 := Tryz.zeroValue24
  t25 := Tryz.underlying2
  a25 := Tryz.isAgg2
  z25 := Tryz.sizeOf2
  v25 := Tryz.zeroValue2
  t32 := Tryz.underlying107
  a32 := Tryz.isAgg107
  z32 := Tryz.sizeOf107
  v32 := Tryz.zeroValue107
  t35 := Tryz.underlying147
  a35 := Tryz.isAgg147
  z35 := Tryz.sizeOf147
  v35 := Tryz.zeroValue147
  t36 := Tryz.underlying148
  a36 := Tryz.isAgg148
  z36 := Tryz.sizeOf148
  v36 := Tryz.zeroValue148
  t41 := Tryz.underlying127
  a41 := Tryz.isAgg127
  z41 := Tryz.sizeOf127
  v41 := Tryz.zeroValue127
  t44 := Tryz.underlying155
  a44 := Tryz.isAgg155
  z44 := Tryz.sizeOf155
  v44 := Tryz.zeroValue155
  t46 := Tryz.underlying42
  a46 := Tryz.isAgg42
  z46 := Tryz.sizeOf42
  v46 := Tryz.zeroValue42
  t53 := Tryz.underlying157
  a53 := Tryz.isAgg157
  z53 := Tryz.sizeOf157
  v53 := Tryz.zeroValue157
  t57 := Tryz.underlying161
  a57 := Tryz.isAgg161
  z57 := Tryz.sizeOf161
  v57 := Tryz.zeroValue161
  t63 := Tryz.underlying163
  a63 := Tryz.isAgg163
  z63 := Tryz.sizeOf163
  v63 := Tryz.zeroValue163
  t64 := Tryz.underlying164
  a64 := Tryz.isAgg164
  z64 := Tryz.sizeOf164
  v64 := Tryz.zeroValue164
end Go.Proofs.YthhfnocfegapbaaGreatDoor
