import Derived.Test.YtdmgkkcjnmmfmaaGreatAbW
namespace Go.Ab.V
open Go Go.Ab
noncomputable section
abbrev setK {R:Type}(x:AV)(l:List AV):Nat→(List AV→R)→R:=
 List.rec (motive:=fun _=>Nat→(List AV→R)→R) (fun _ K=>K []) (fun v l ih n K=>Nat.rec (K (x::l)) (fun m _=>ih m fun r=>K (v::r)) n) l
abbrev putFK {R:Type}(fr:Fr)(dst:Option Tmp)(v:AV)(K:Fr→R):R:=Option.rec (motive:=fun _=>R) (K fr) (fun d=>setK v fr d K) dst
section
variable (P:Program)(call:CallF)
def opsK {R:Type}(ops:Array Oper)(l:List Oper):Fr→Heap→(Fr→Heap→Option R)→Option R:=
 List.rec (motive:=fun _=>Fr→Heap→(Fr→Heap→Option R)→Option R) (fun fr h K=>K fr h)
  (fun o _ ih fr h K=>askK P call ops o fr h fun v h'=>putFK fr o.dst v fun fr=>ih fr h' K) l
def stepK {R:Type}(ops:Array Oper)(n0:Nat)(s:DStep)(ih:Fr→Heap→List Heap→List Asked→(Fr→Heap→Option R)→Option R)(fr:Fr)(h:Heap)(hs:List Heap)(cs:List Asked)(K:Fr→Heap→Option R):Option R:=
 match s with
 | .pur _ o=>askP P ops o fr fun v=>putFK fr o.dst v fun fr=>ih fr h hs cs K
 | .mak _ o k=>cl (askM P ops o fr (n0+k) h) fun v h'=>putFK fr o.dst v fun fr=>ih fr h' hs cs K
 | .red _ o cur lo hi=>
  bif cur && lo.beq hi then(askR P ops o fr h).bind fun v=>putFK fr o.dst v fun fr=>ih fr h hs cs K
  else clC (askC P ops o fr hs lo hi cs) fun v cs=>putFK fr o.dst v fun fr=>ih fr h hs cs K
 | .eff _ o=>askK P call ops o fr h fun v h'=>putFK fr o.dst v fun fr=>ih fr h' (hs ++ [h']) cs K
def runK {R:Type}(ops:Array Oper)(n0:Nat)(l:List DStep):Fr→Heap→List Heap→List Asked→(Fr→Heap→Option R)→Option R:=
 List.rec (motive:=fun _=>Fr→Heap→List Heap→List Asked→(Fr→Heap→Option R)→Option R) (fun fr h hs cs K=>chk hs cs (K fr h))
  (fun s _ ih=>stepK P call ops n0 s ih) l
def regionK {R:Type}(ops:Array Oper)(fr:Fr)(h:Heap)(K:Fr→Heap→Option R):Option R:=
 bif okD P ops then runK P call ops h.next (planD P ops) fr ⟨h.next+maks P ops,h.mem⟩ [⟨h.next+maks P ops,h.mem⟩] [] K else none
def execK (ann:Nat→List Nat)(c:Code) : {R:Type}→Nat→Fr→Heap→(Ex→Fr→Heap→Option R)→Option R:=
 @Code.rec (fun _=>{R:Type}→Nat→Fr→Heap→(Ex→Fr→Heap→Option R)→Option R)
  (fun {_} _ fr h K=>K .normal fr h)
  (fun _ ops draw {_} _ fr h K=>bif draw then regionK P call ops fr h (fun fr h=>K .normal fr h) else opsK P call ops ops.toList fr h (fun fr h=>K .normal fr h))
  (fun _ _ ia ib {_} p fr h K=>ia (2*p) fr h fun e fr h=>thenK e (ib (2*p+1) fr h K) fun e=>K e fr h)
  (fun c a b ia ib {_} p fr h K=>evK P fr c fun cv=>condE cv
   (ia (2*p) fr h (fun e fr' h'=>rebK (ann p) (maskL (writes a++writes b)) fr' fr 0 fun fr'=>K e fr' h'))
   (ib (2*p+1) fr h (fun e fr' h'=>rebK (ann p) (maskL (writes a++writes b)) fr' fr 0 fun fr'=>K e fr' h')))
  (fun id _ ic {_} p fr h K=>ic (2*p) fr h fun e fr h=>K (if e = .exit id then .normal else e) fr h)
  (fun c ic {_} p fr h K=>lp (loopN (fun vals h=>rebL (ann p) (maskL (writes c)) vals fr 0 fun fr=>ic (2*p) fr h fun e fr h=>some (e,(ann p).map (atF fr),h)) ((ann p).map (atF fr)) h) fun e vals h=>
   rebL (ann p) (maskL (writes c)) vals fr 0 fun fr=>K e fr h)
  (fun _ _ _ _ _ _ {_} _ _ _ _=>none) (fun id {_} _ fr h K=>K (.exit id) fr h) (fun _ _ {_} _ _ _ _=>none) (fun _ {_} _ fr h K=>K .normal fr h) (fun _ {_} _ _ _ _=>none)
  (fun {_} _ fr h K=>K .ret fr h) (fun _ {_} _ _ _ _=>none) c
def bodyK (ann:FuncId→Nat→List Nat)(f:FuncId)(args:List AV)(h:Heap):Option (AV × Heap):=
 match P.funcs[f]? with
 | none=>none
 | some fn=>
  match fn.body with
  | none=>none
  | some c=>execK P call (ann f) c 1 (args++List.replicate (fn.ntmps-args.length) .bot) h (endK P fn)
end
end
end Go.Ab.V
