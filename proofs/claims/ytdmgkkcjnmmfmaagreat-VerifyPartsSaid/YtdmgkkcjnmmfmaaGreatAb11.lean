import Derived.Test.YtdmgkkcjnmmfmaaGreatAb10
namespace Go.Ab
open Go
set_option linter.all false
section
variable {P:Program}{call:CallF}
theorem Mc {fr fr':Fr}:∀ {l:List Operand},(∀ x∈l,ev P fr x=ev P fr' x)→evs P fr l=evs P fr' l
 | [],_=>rfl
 | x::xs,h=>by simp only [evs,h x (.head _),Mc fun y hy=>h y (.tail _ hy)]
theorem Iy {fr fr':Fr}:∀ {l:List (Nat × Operand)},(∀ x∈l,ev P fr x.2=ev P fr' x.2)→evParts P fr l=evParts P fr' l
 | [],_=>rfl
 | (i,x)::xs,h=>by simp only [evParts,h (i,x) (.head _),Iy fun y hy=>h y (.tail _ hy)]
structure SameOp (P:Program)(o:Oper)(fr fr':Fr):Prop where
 pur:pureA P o fr=pureA P o fr'
 red:∀ h,readA P o fr h=readA P o fr' h
 mak:makeA P o fr=makeA P o fr'
 eff:∀ h,effA P o fr h=effA P o fr' h
 cal:callA P o fr=callA P o fr'
theorem sameOp {o:Oper}{fr fr':Fr}(h:∀ x∈o.op.operands,ev P fr x=ev P fr' x):SameOp P o fr fr':=by
 obtain⟨dst,op,type,pos,after,guard⟩:=o
 have parts:∀ ps:Array (Nat × Operand),(∀ x∈(ps.toList.map (·.2)).toArray,ev P fr x=ev P fr' x)→evParts P fr ps.toList=evParts P fr' ps.toList:=fun ps hp=>
  Iy fun p hm=>hp p.2 (by simp only [List.mem_toArray,List.mem_map];exact⟨p,hm,rfl⟩)
 have ars:∀ xs:Array Operand,(∀ x∈xs,ev P fr x=ev P fr' x)→evs P fr xs.toList=evs P fr' xs.toList:=fun xs hp=>Mc fun x hx=>hp x (by simpa using hx)
 cases op<;>simp only [Op.operands] at h
 case call c=>
  obtain⟨callee,args,ts⟩:=c
  simp only [Call.operands] at h
  have hargs:evs P fr args.toList=evs P fr' args.toList:=ars args fun x hx=>h x (Array.mem_append.2 (.inr hx))
  have h0:∀ x,args[0]?=some x→ev P fr x=ev P fr' x:=fun x hx=>h x (Array.mem_append.2 (.inr (Array.mem_of_getElem? hx)))
  have hbind:∀ {β:Type} (k:Operand→AV→Option β),((args[0]?).bind fun x=>(ev P fr x).bind fun a=>k x a)=((args[0]?).bind fun x=>(ev P fr' x).bind fun a=>k x a):=fun k=>by
   cases hx:args[0]? with
   | none=>rfl
   | some x=>simp only [Option.bind_some];rw [h0 x hx]
  cases callee with
  | value f=>
   have hf:=h f (by simp)
   exact⟨rfl,fun _=>rfl,rfl,fun _=>rfl,by simp only [callA,hf,hargs]⟩
  | invoke r m=>
   have hf:=h r (by simp)
   exact⟨rfl,fun _=>rfl,rfl,fun _=>rfl,by simp only [callA,hf,hargs]⟩
  | builtin b=>
   cases b<;>refine⟨?_,fun hh=>?_,?_,fun hh=>?_,?_⟩<;>first
    | rfl
    | (simp only [pureA,hargs];done)
    | (simp only [effA,hargs];done)
    | (simp only [pureA,readA];congr 1;funext t;exact hbind _)
 case build t ps=>exact⟨by simp only [pureA,parts ps (by simpa using h)],fun _=>rfl,rfl,fun _=>rfl,rfl⟩
 case buildSlice t n ps=>exact⟨rfl,fun _=>rfl,by simp only [makeA,parts ps (by simpa using h)],fun _=>rfl,rfl⟩
 case makeFunc fn first caps=>
  have h1:=ars first fun x hx=>h x (Array.mem_append.2 (.inl hx))
  have h2:=ars caps fun x hx=>h x (Array.mem_append.2 (.inr hx))
  cases fn<;>exact⟨by first | rfl | simp only [pureA,h1,h2],fun _=>rfl,rfl,fun _=>rfl,rfl⟩
 case slice t x lo hi mx=>
  have hx:=h x (by simp)
  have hlo:∀ v,lo=some v→ev P fr v=ev P fr' v:=fun v hv=>h v (by simp [hv])
  have hhi:∀ v,hi=some v→ev P fr v=ev P fr' v:=fun v hv=>h v (by simp [hv])
  have hmx:∀ v,mx=some v→ev P fr v=ev P fr' v:=fun v hv=>h v (by simp [hv])
  refine⟨?_,fun _=>rfl,rfl,fun _=>rfl,rfl⟩
  cases lo<;>cases hi<;>cases mx<;>simp only [pureA,hx]<;>(try rw [hlo _ rfl])<;>(try rw [hhi _ rfl])<;>(try rw [hmx _ rfl])
 case makeMap t r=>cases r<;>exact⟨rfl,fun _=>rfl,rfl,fun _=>rfl,rfl⟩
 all_goals
  refine⟨?_,fun hh=>?_,?_,fun hh=>?_,?_⟩<;>first
   | rfl
   | (simp only [pureA,readA,makeA,effA];simp_all;done)
   | (simp only [pureA,readA,makeA,effA];simp_all [h])
theorem Qu {fr fr':Fr}{x:Operand}(h:∀ t,x = .tmp t→fr.getD t .bot=fr'.getD t .bot):ev P fr x=ev P fr' x:=by
 cases x with
 | tmp t=>simp only [ev,Jg];rw [h t rfl]
 | _=>rfl
def Agree (ops:Array Oper)(o:Oper)(fr fr':Fr):Prop:=∀ t∈o.looksAt ops,fr.getD t .bot=fr'.getD t .bot
theorem Agree.ops {ops:Array Oper}{o:Oper}{fr fr':Fr}(h:Agree ops o fr fr'):SameOp P o fr fr':=
 sameOp fun x hx=>Qu fun t ht=>h t (List.mem_append_left _ (List.mem_filterMap.2 ⟨x,by simpa using hx,by rw [ht]⟩))
theorem Agree.wanted {ops:Array Oper}{o:Oper}{fr fr':Fr}(h:Agree ops o fr fr'):wantedA ops fr o=wantedA ops fr' o:=by
 unfold wantedA
 simp only [Jg]
 cases hg:o.guard with
 | none=>rfl
 | some gw=>
  obtain⟨j,w⟩:=gw
  simp only
  cases hd:(ops[j]?).bind (·.dst) with
  | none=>rfl
  | some d=>
   simp only
   rw [h d (by simp [Oper.looksAt,hg,hd])]
theorem Agree.opA {ops:Array Oper}{o:Oper}{fr fr':Fr}(h:Agree ops o fr fr')(hh:Heap):opA P call o fr hh=opA P call o fr' hh:=by
 have s:=h.ops (P:=P)
 unfold Go.Ab.opA
 split
 ·rw [s.pur]
 ·rw [s.red]
 ·rw [s.mak]
 ·rw [s.eff]
 ·rw [s.cal]
 ·rfl
end
end Go.Ab
