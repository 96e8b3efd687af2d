/- Where slices.Sorted, maps.Keys, slices.Sort and what they call stand in this program. -/
import Derived.Test.YtdbmkdaoljbdoabGreatDoorProg
import Derived.Shelf.SlLaysZI
import Derived.Shelf.SlLaysM
import Derived.KernelRfl
namespace Go.Proofs.YtdbmkdaoljbdoabGreatDoor
open Go Go.Shelf Go.Proofs
set_option linter.all false
theorem bears_of {P : Program} {f : FuncId} {B fn : Func} (h : P.funcs[f]? = some fn) (hn : (fn.name == "runtime.NumGoroutine") = false) (hb : fn = { B with name := fn.name }) : Bears P f B := ⟨fn.name, hn, h.trans (congrArg some hb)⟩
def keys61Ren : Ren := ⟨fun x => match x with | 7 => 61 | 10 => 97 | n => n, fun x => match x with | 23 => 127 | 26 => 3 | 3 => 61 | 28 => 142 | 0 => 0 | 27 => 141 | 33 => 47 | 4 => 4 | n => n, fun x => x⟩
theorem keys61Lays : SlLaysZI.n7 Tryz.prog keys61Ren where
  mixed := by kernel_rfl
  f7 := bears_of Tryz.func61 (by kernel_rfl) (by kernel_rfl)
  f10 := bears_of Tryz.func97 (by kernel_rfl) (by kernel_rfl)
  t0 := Tryz.underlying0
  a0 := Tryz.isAgg0
  z0 := Tryz.sizeOf0
  v0 := Tryz.zeroValue0
  t4 := Tryz.underlying4
  a4 := Tryz.isAgg4
  z4 := Tryz.sizeOf4
  v4 := Tryz.zeroValue4
  t23 := Tryz.underlying127
  a23 := Tryz.isAgg127
  z23 := Tryz.sizeOf127
  v23 := Tryz.zeroValue127
  t26 := Tryz.underlying3
  a26 := Tryz.isAgg3
  z26 := Tryz.sizeOf3
  v26 := Tryz.zeroValue3
  t27 := Tryz.underlying141
  a27 := Tryz.isAgg141
  z27 := Tryz.sizeOf141
  v27 := Tryz.zeroValue141
  t28 := Tryz.underlying142
  a28 := Tryz.isAgg142
  z28 := Tryz.sizeOf142
  v28 := Tryz.zeroValue142
  t33 := Tryz.underlying47
  a33 := Tryz.isAgg47
  z33 := Tryz.sizeOf47
  v33 := Tryz.zeroValue47
def sorted60Ren : Ren := ⟨fun x => match x with | 6 => 60 | 8 => 95 | 9 => 96 | 11 => 122 | 13 => 110 | 12 => 123 | 23 => 136 | 24 => 137 | 14 => 146 | 15 => 147 | 16 => 148 | 17 => 149 | 18 => 150 | 19 => 151 | 20 => 152 | 21 => 153 | 22 => 154 | 25 => 171 | 26 => 157 | 27 => 158 | 28 => 172 | 29 => 173 | 30 => 174 | 31 => 180 | n => n, fun x => match x with | 26 => 3 | 28 => 142 | 24 => 33 | 0 => 0 | 3 => 3 | 37 => 169 | 48 => 228 | 50 => 63 | 4 => 4 | 40 => 221 | 39 => 220 | 45 => 158 | 5 => 5 | 9 => 9 | 51 => 242 | 55 => 246 | 57 => 256 | 58 => 257 | 33 => 47 | n => n, fun x => x⟩
theorem sorted60Lays : SlLaysZI.n6 Tryz.prog sorted60Ren where
  mixed := by kernel_rfl
  f6 := bears_of Tryz.func60 (by kernel_rfl) (by kernel_rfl)
  f8 := bears_of Tryz.func95 (by kernel_rfl) (by kernel_rfl)
  f11 := bears_of Tryz.func122 (by kernel_rfl) (by kernel_rfl)
  t0 := Tryz.underlying0
  a0 := Tryz.isAgg0
  z0 := Tryz.sizeOf0
  v0 := Tryz.zeroValue0
  t24 := Tryz.underlying33
  a24 := Tryz.isAgg33
  z24 := Tryz.sizeOf33
  v24 := Tryz.zeroValue33
  t26 := Tryz.underlying3
  a26 := Tryz.isAgg3
  z26 := Tryz.sizeOf3
  v26 := Tryz.zeroValue3
  t28 := Tryz.underlying142
  a28 := Tryz.isAgg142
  z28 := Tryz.sizeOf142
  v28 := Tryz.zeroValue142
  i26 := by kernel_rfl
def sort96Ren : Ren := ⟨fun x => match x with | 5 => 96 | 8 => 110 | 7 => 123 | 19 => 136 | 20 => 137 | 10 => 146 | 11 => 147 | 12 => 148 | 13 => 149 | 14 => 150 | 15 => 151 | 16 => 152 | 17 => 153 | 18 => 154 | 30 => 171 | 31 => 157 | 32 => 158 | 33 => 172 | 34 => 173 | 35 => 174 | 40 => 180 | n => n, fun x => match x with | 23 => 33 | 25 => 3 | 3 => 3 | 32 => 169 | 22 => 33 | 0 => 0 | 44 => 228 | 46 => 63 | 4 => 4 | 36 => 221 | 35 => 220 | 41 => 158 | 5 => 5 | 9 => 9 | 53 => 242 | 57 => 246 | 63 => 256 | 64 => 257 | n => n, fun x => x⟩
theorem sort96Lays : SlLaysM.n5 Tryz.prog sort96Ren where
  mixed := by kernel_rfl
  f5 := bears_of Tryz.func96 (by kernel_rfl) (by kernel_rfl)
  f7 := bears_of Tryz.func123 (by kernel_rfl) (by kernel_rfl)
  f8 := Tryz.func110.trans (congrArg some (by kernel_rfl))
  f10 := bears_of Tryz.func146 (by kernel_rfl) (by kernel_rfl)
  f11 := bears_of Tryz.func147 (by kernel_rfl) (by kernel_rfl)
  f12 := bears_of Tryz.func148 (by kernel_rfl) (by kernel_rfl)
  f13 := bears_of Tryz.func149 (by kernel_rfl) (by kernel_rfl)
  f14 := bears_of Tryz.func150 (by kernel_rfl) (by kernel_rfl)
  f15 := bears_of Tryz.func151 (by kernel_rfl) (by kernel_rfl)
  f16 := bears_of Tryz.func152 (by kernel_rfl) (by kernel_rfl)
  f17 := bears_of Tryz.func153 (by kernel_rfl) (by kernel_rfl)
  f18 := bears_of Tryz.func154 (by kernel_rfl) (by kernel_rfl)
  f19 := Tryz.func136.trans (congrArg some (by kernel_rfl))
  f20 := Tryz.func137.trans (congrArg some (by kernel_rfl))
  f30 := bears_of Tryz.func171 (by kernel_rfl) (by kernel_rfl)
  f31 := Tryz.func157.trans (congrArg some (by kernel_rfl))
  f32 := Tryz.func158.trans (congrArg some (by kernel_rfl))
  f33 := bears_of Tryz.func172 (by kernel_rfl) (by kernel_rfl)
  f34 := bears_of Tryz.func173 (by kernel_rfl) (by kernel_rfl)
  f35 := bears_of Tryz.func174 (by kernel_rfl) (by kernel_rfl)
  f40 := bears_of Tryz.func180 (by kernel_rfl) (by kernel_rfl)
  t0 := Tryz.underlying0
  a0 := Tryz.isAgg0
  z0 := Tryz.sizeOf0
  v0 := Tryz.zeroValue0
  t3 := Tryz.underlying3
  a3 := Tryz.isAgg3
  z3 := Tryz.sizeOf3
  v3 := Tryz.zeroValue3
  t4 := Tryz.underlying4
  a4 := Tryz.isAgg4
  z4 := Tryz.sizeOf4
  v4 := Tryz.zeroValue4
  t5 := Tryz.underlying5
  a5 := Tryz.isAgg5
  z5 := Tryz.sizeOf5
  v5 := Tryz.zeroValue5
  t9 := Tryz.underlying9
  a9 := Tryz.isAgg9
  z9 := Tryz.sizeOf9
  v9 := Tryz.zeroValue9
  t22 := Tryz.underlying33
  a22 := Tryz.isAgg33
  z22 := Tryz.sizeOf33
  v22 := Tryz.zeroValue33
  t23 := Tryz.underlying33
  a23 := Tryz.isAgg33
  z23 := Tryz.sizeOf33
  v23 := Tryz.zeroValue33
  t25 := Tryz.underlying3
  a25 := Tryz.isAgg3
  z25 := Tryz.sizeOf3
  v25 := Tryz.zeroValue3
  t32 := Tryz.underlying169
  a32 := Tryz.isAgg169
  z32 := Tryz.sizeOf169
  v32 := Tryz.zeroValue169
  t35 := Tryz.underlying220
  a35 := Tryz.isAgg220
  z35 := Tryz.sizeOf220
  v35 := Tryz.zeroValue220
  t36 := Tryz.underlying221
  a36 := Tryz.isAgg221
  z36 := Tryz.sizeOf221
  v36 := Tryz.zeroValue221
  t41 := Tryz.underlying158
  a41 := Tryz.isAgg158
  z41 := Tryz.sizeOf158
  v41 := Tryz.zeroValue158
  t44 := Tryz.underlying228
  a44 := Tryz.isAgg228
  z44 := Tryz.sizeOf228
  v44 := Tryz.zeroValue228
  t46 := Tryz.underlying63
  a46 := Tryz.isAgg63
  z46 := Tryz.sizeOf63
  v46 := Tryz.zeroValue63
  t53 := Tryz.underlying242
  a53 := Tryz.isAgg242
  z53 := Tryz.sizeOf242
  v53 := Tryz.zeroValue242
  t57 := Tryz.underlying246
  a57 := Tryz.isAgg246
  z57 := Tryz.sizeOf246
  v57 := Tryz.zeroValue246
  t63 := Tryz.underlying256
  a63 := Tryz.isAgg256
  z63 := Tryz.sizeOf256
  v63 := Tryz.zeroValue256
  t64 := Tryz.underlying257
  a64 := Tryz.isAgg257
  z64 := Tryz.sizeOf257
  v64 := Tryz.zeroValue257
end Go.Proofs.YtdbmkdaoljbdoabGreatDoor
