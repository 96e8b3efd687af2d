/- Where slices.Sorted, maps.Keys, slices.Sort and what they call stand in this program. -/
import Derived.Test.YtdbmkdaoljbdoabGreatDoorProg
import Derived.Shelf.SlLaysZI
import Derived.Shelf.SlLaysM
import Derived.KernelRfl
namespace Go.Proofs.YtdbmkdaoljbdoabGreatDoor
open Go Go.Shelf Go.Proofs
set_option linter.all false
theorem bears_of {P : Program} {f : FuncId} {B fn : Func} (h : P.funcs[f]? = some fn) (hn : (fn.name == "runtime.NumGoroutine") = false) (hb : fn = { B with name := fn.name }) : Bears P f B := ⟨fn.name, hn, h.trans (congrArg some hb)⟩
def keys48Ren : Ren := ⟨fun x => match x with | 7 => 48 | 10 => 81 | n => n, fun x => match x with | 23 => 98 | 26 => 2 | 3 => 4 | 28 => 102 | 0 => 0 | 27 => 101 | 33 => 29 | 4 => 4 | n => n, fun x => x⟩
theorem keys48Lays : SlLaysZI.n7 Tryz.prog keys48Ren where
  mixed := by kernel_rfl
  f7 := bears_of Tryz.func48 (by kernel_rfl) (by kernel_rfl)
  f10 := bears_of Tryz.func81 (by kernel_rfl) (by kernel_rfl)
  t0 := Tryz.underlying0
  a0 := Tryz.isAgg0
  z0 := Tryz.sizeOf0
  v0 := Tryz.zeroValue0
  t4 := Tryz.underlying4
  a4 := Tryz.isAgg4
  z4 := Tryz.sizeOf4
  v4 := Tryz.zeroValue4
  t23 := Tryz.underlying98
  a23 := Tryz.isAgg98
  z23 := Tryz.sizeOf98
  v23 := Tryz.zeroValue98
  t26 := Tryz.underlying2
  a26 := Tryz.isAgg2
  z26 := Tryz.sizeOf2
  v26 := Tryz.zeroValue2
  t27 := Tryz.underlying101
  a27 := Tryz.isAgg101
  z27 := Tryz.sizeOf101
  v27 := Tryz.zeroValue101
  t28 := Tryz.underlying102
  a28 := Tryz.isAgg102
  z28 := Tryz.sizeOf102
  v28 := Tryz.zeroValue102
  t33 := Tryz.underlying29
  a33 := Tryz.isAgg29
  z33 := Tryz.sizeOf29
  v33 := Tryz.zeroValue29
def sorted47Ren : Ren := ⟨fun x => match x with | 6 => 47 | 8 => 79 | 9 => 80 | 11 => 108 | 13 => 110 | 12 => 109 | 23 => 136 | 24 => 137 | 14 => 127 | 15 => 128 | 16 => 129 | 17 => 130 | 18 => 131 | 19 => 132 | 20 => 133 | 21 => 134 | 22 => 135 | 25 => 156 | 26 => 157 | 27 => 158 | 28 => 159 | 29 => 160 | 30 => 161 | 31 => 175 | n => n, fun x => match x with | 26 => 2 | 28 => 102 | 24 => 26 | 0 => 0 | 3 => 3 | 37 => 169 | 48 => 228 | 50 => 63 | 4 => 4 | 40 => 221 | 39 => 220 | 45 => 158 | 5 => 5 | 9 => 9 | 51 => 242 | 55 => 246 | 57 => 256 | 58 => 257 | 33 => 29 | n => n, fun x => x⟩
theorem sorted47Lays : SlLaysZI.n6 Tryz.prog sorted47Ren where
  mixed := by kernel_rfl
  f6 := bears_of Tryz.func47 (by kernel_rfl) (by kernel_rfl)
  f8 := bears_of Tryz.func79 (by kernel_rfl) (by kernel_rfl)
  f11 := bears_of Tryz.func108 (by kernel_rfl) (by kernel_rfl)
  t0 := Tryz.underlying0
  a0 := Tryz.isAgg0
  z0 := Tryz.sizeOf0
  v0 := Tryz.zeroValue0
  t24 := Tryz.underlying26
  a24 := Tryz.isAgg26
  z24 := Tryz.sizeOf26
  v24 := Tryz.zeroValue26
  t26 := Tryz.underlying2
  a26 := Tryz.isAgg2
  z26 := Tryz.sizeOf2
  v26 := Tryz.zeroValue2
  t28 := Tryz.underlying102
  a28 := Tryz.isAgg102
  z28 := Tryz.sizeOf102
  v28 := Tryz.zeroValue102
  i26 := by kernel_rfl
def sort80Ren : Ren := ⟨fun x => match x with | 5 => 80 | 8 => 110 | 7 => 109 | 19 => 136 | 20 => 137 | 10 => 127 | 11 => 128 | 12 => 129 | 13 => 130 | 14 => 131 | 15 => 132 | 16 => 133 | 17 => 134 | 18 => 135 | 30 => 156 | 31 => 157 | 32 => 158 | 33 => 159 | 34 => 160 | 35 => 161 | 40 => 175 | n => n, fun x => match x with | 23 => 26 | 25 => 2 | 3 => 3 | 32 => 169 | 22 => 26 | 0 => 0 | 44 => 228 | 46 => 63 | 4 => 4 | 36 => 221 | 35 => 220 | 41 => 158 | 5 => 5 | 9 => 9 | 53 => 242 | 57 => 246 | 63 => 256 | 64 => 257 | n => n, fun x => x⟩
theorem sort80Lays : SlLaysM.n5 Tryz.prog sort80Ren where
  mixed := by kernel_rfl
  f5 := bears_of Tryz.func80 (by kernel_rfl) (by kernel_rfl)
  f7 := bears_of Tryz.func109 (by kernel_rfl) (by kernel_rfl)
  f8 := Tryz.func110.trans (congrArg some (by kernel_rfl))
  f10 := bears_of Tryz.func127 (by kernel_rfl) (by kernel_rfl)
  f11 := bears_of Tryz.func128 (by kernel_rfl) (by kernel_rfl)
  f12 := bears_of Tryz.func129 (by kernel_rfl) (by kernel_rfl)
  f13 := bears_of Tryz.func130 (by kernel_rfl) (by kernel_rfl)
  f14 := bears_of Tryz.func131 (by kernel_rfl) (by kernel_rfl)
  f15 := bears_of Tryz.func132 (by kernel_rfl) (by kernel_rfl)
  f16 := bears_of Tryz.func133 (by kernel_rfl) (by kernel_rfl)
  f17 := bears_of Tryz.func134 (by kernel_rfl) (by kernel_rfl)
  f18 := bears_of Tryz.func135 (by kernel_rfl) (by kernel_rfl)
  f19 := Tryz.func136.trans (congrArg some (by kernel_rfl))
  f20 := Tryz.func137.trans (congrArg some (by kernel_rfl))
  f30 := bears_of Tryz.func156 (by kernel_rfl) (by kernel_rfl)
  f31 := Tryz.func157.trans (congrArg some (by kernel_rfl))
  f32 := Tryz.func158.trans (congrArg some (by kernel_rfl))
  f33 := bears_of Tryz.func159 (by kernel_rfl) (by kernel_rfl)
  f34 := bears_of Tryz.func160 (by kernel_rfl) (by kernel_rfl)
  f35 := bears_of Tryz.func161 (by kernel_rfl) (by kernel_rfl)
  f40 := bears_of Tryz.func175 (by kernel_rfl) (by kernel_rfl)
  t0 := Tryz.underlying0
  a0 := Tryz.isAgg0
  z0 := Tryz.sizeOf0
  v0 := Tryz.zeroValue0
  t3 := Tryz.underlying3
  a3 := Tryz.isAgg3
  z3 := Tryz.sizeOf3
  v3 := Tryz.zeroValue3
  t4 := Tryz.underlying4
  a4 := Tryz.isAgg4
  z4 := Tryz.sizeOf4
  v4 := Tryz.zeroValue4
  t5 := Tryz.underlying5
  a5 := Tryz.isAgg5
  z5 := Tryz.sizeOf5
  v5 := Tryz.zeroValue5
  t9 := Tryz.underlying9
  a9 := Tryz.isAgg9
  z9 := Tryz.sizeOf9
  v9 := Tryz.zeroValue9
  t22 := Tryz.underlying26
  a22 := Tryz.isAgg26
  z22 := Tryz.sizeOf26
  v22 := Tryz.zeroValue26
  t23 := Tryz.underlying26
  a23 := Tryz.isAgg26
  z23 := Tryz.sizeOf26
  v23 := Tryz.zeroValue26
  t25 := Tryz.underlying2
  a25 := Tryz.isAgg2
  z25 := Tryz.sizeOf2
  v25 := Tryz.zeroValue2
  t32 := Tryz.underlying169
  a32 := Tryz.isAgg169
  z32 := Tryz.sizeOf169
  v32 := Tryz.zeroValue169
  t35 := Tryz.underlying220
  a35 := Tryz.isAgg220
  z35 := Tryz.sizeOf220
  v35 := Tryz.zeroValue220
  t36 := Tryz.underlying221
  a36 := Tryz.isAgg221
  z36 := Tryz.sizeOf221
  v36 := Tryz.zeroValue221
  t41 := Tryz.underlying158
  a41 := Tryz.isAgg158
  z41 := Tryz.sizeOf158
  v41 := Tryz.zeroValue158
  t44 := Tryz.underlying228
  a44 := Tryz.isAgg228
  z44 := Tryz.sizeOf228
  v44 := Tryz.zeroValue228
  t46 := Tryz.underlying63
  a46 := Tryz.isAgg63
  z46 := Tryz.sizeOf63
  v46 := Tryz.zeroValue63
  t53 := Tryz.underlying242
  a53 := Tryz.isAgg242
  z53 := Tryz.sizeOf242
  v53 := Tryz.zeroValue242
  t57 := Tryz.underlying246
  a57 := Tryz.isAgg246
  z57 := Tryz.sizeOf246
  v57 := Tryz.zeroValue246
  t63 := Tryz.underlying256
  a63 := Tryz.isAgg256
  z63 := Tryz.sizeOf256
  v63 := Tryz.zeroValue256
  t64 := Tryz.underlying257
  a64 := Tryz.isAgg257
  z64 := Tryz.sizeOf257
  v64 := Tryz.zeroValue257
end Go.Proofs.YtdbmkdaoljbdoabGreatDoor
