import Derived.Test.YtdmgkkcjnmmfmaaGreatProg
import Derived.Shelf.SlLaysZI
import Derived.Shelf.SlLaysM
import Derived.KernelRfl
namespace Go.Proofs.YtdmgkkcjnmmfmaaGreat
open Go Go.Shelf Go.Proofs
set_option linter.all false
theorem DN {P:Program}{f:FuncId}{B fn:Func}(h:P.funcs[f]?=some fn)(hn:(fn.name == "runtime.NumGoroutine")=false) (hb:fn = { B with name:=fn.name }):Bears P f B:=⟨fn.name,hn,h.trans (congrArg some hb)⟩
def sort125Ren:Ren:=⟨fun x=>match x with | 5=>125 | 8=>145 | 7=>144 | 19=>162 | 20=>163 | 10=>153 | 11=>154 | 12=>155 | 13=>156 | 14=>157 | 15=>158 | 16=>159 | 17=>160 | 18=>161 | 30=>164 | 31=>165 | 32=>166 | 33=>167 | 34=>168 | 35=>169 | 40=>170 | n=>n,fun x=>match x with | 23=>102 | 25=>3 | 3=>3 | 32=>131 | 22=>102 | 0=>0 | 44=>211 | 46=>44 | 4=>4 | 36=>204 | 35=>203 | 41=>208 | 5=>5 | 9=>9 | 53=>213 | 57=>216 | 63=>218 | 64=>219 | n=>n,fun x=>x⟩
theorem sort125Lays:SlLaysM.n5 Tryz.prog sort125Ren where
 mixed:=by kernel_rfl
 f5:=DN Tryz.func125 (by kernel_rfl) (by kernel_rfl)
 f7:=DN Tryz.func144 (by kernel_rfl) (by kernel_rfl)
 f8:=Tryz.func145.trans (congrArg some (by kernel_rfl))
 f10:=DN Tryz.func153 (by kernel_rfl) (by kernel_rfl)
 f11:=DN Tryz.func154 (by kernel_rfl) (by kernel_rfl)
 f12:=DN Tryz.func155 (by kernel_rfl) (by kernel_rfl)
 f13:=DN Tryz.func156 (by kernel_rfl) (by kernel_rfl)
 f14:=DN Tryz.func157 (by kernel_rfl) (by kernel_rfl)
 f15:=DN Tryz.func158 (by kernel_rfl) (by kernel_rfl)
 f16:=DN Tryz.func159 (by kernel_rfl) (by kernel_rfl)
 f17:=DN Tryz.func160 (by kernel_rfl) (by kernel_rfl)
 f18:=DN Tryz.func161 (by kernel_rfl) (by kernel_rfl)
 f19:=Tryz.func162.trans (congrArg some (by kernel_rfl))
 f20:=Tryz.func163.trans (congrArg some (by kernel_rfl))
 f30:=DN Tryz.func164 (by kernel_rfl) (by kernel_rfl)
 f31:=Tryz.func165.trans (congrArg some (by kernel_rfl))
 f32:=Tryz.func166.trans (congrArg some (by kernel_rfl))
 f33:=DN Tryz.func167 (by kernel_rfl) (by kernel_rfl)
 f34:=DN Tryz.func168 (by kernel_rfl) (by kernel_rfl)
 f35:=DN Tryz.func169 (by kernel_rfl) (by kernel_rfl)
 f40:=DN Tryz.func170 (by kernel_rfl) (by kernel_rfl)
 t0:=Tryz.underlying0
 a0:=Tryz.isAgg0
 z0:=Tryz.sizeOf0
 v0:=Tryz.zeroValue0
 t3:=Tryz.underlying3
 a3:=Tryz.isAgg3
 z3:=Tryz.sizeOf3
 v3:=Tryz.zeroValue3
 t4:=Tryz.underlying4
 a4:=Tryz.isAgg4
 z4:=Tryz.sizeOf4
 v4:=Tryz.zeroValue4
 t5:=Tryz.underlying5
 a5:=Tryz.isAgg5
 z5:=Tryz.sizeOf5
 v5:=Tryz.zeroValue5
 t9:=Tryz.underlying9
 a9:=Tryz.isAgg9
 z9:=Tryz.sizeOf9
 v9:=Tryz.zeroValue9
 t22:=Tryz.underlying102
 a22:=Tryz.isAgg102
 z22:=Tryz.sizeOf102
 v22:=Tryz.zeroValue102
 t23:=Tryz.underlying102
 a23:=Tryz.isAgg102
 z23:=Tryz.sizeOf102
 v23:=Tryz.zeroValue102
 t25:=Tryz.underlying3
 a25:=Tryz.isAgg3
 z25:=Tryz.sizeOf3
 v25:=Tryz.zeroValue3
 t32:=Tryz.underlying131
 a32:=Tryz.isAgg131
 z32:=Tryz.sizeOf131
 v32:=Tryz.zeroValue131
 t35:=Tryz.underlying203
 a35:=Tryz.isAgg203
 z35:=Tryz.sizeOf203
 v35:=Tryz.zeroValue203
 t36:=Tryz.underlying204
 a36:=Tryz.isAgg204
 z36:=Tryz.sizeOf204
 v36:=Tryz.zeroValue204
 t41:=Tryz.underlying208
 a41:=Tryz.isAgg208
 z41:=Tryz.sizeOf208
 v41:=Tryz.zeroValue208
 t44:=Tryz.underlying211
 a44:=Tryz.isAgg211
 z44:=Tryz.sizeOf211
 v44:=Tryz.zeroValue211
 t46:=Tryz.underlying44
 a46:=Tryz.isAgg44
 z46:=Tryz.sizeOf44
 v46:=Tryz.zeroValue44
 t53:=Tryz.underlying213
 a53:=Tryz.isAgg213
 z53:=Tryz.sizeOf213
 v53:=Tryz.zeroValue213
 t57:=Tryz.underlying216
 a57:=Tryz.isAgg216
 z57:=Tryz.sizeOf216
 v57:=Tryz.zeroValue216
 t63:=Tryz.underlying218
 a63:=Tryz.isAgg218
 z63:=Tryz.sizeOf218
 v63:=Tryz.zeroValue218
 t64:=Tryz.underlying219
 a64:=Tryz.isAgg219
 z64:=Tryz.sizeOf219
 v64:=Tryz.zeroValue219
end Go.Proofs.YtdmgkkcjnmmfmaaGreat
