import Derived.Test.YtdmgkkcjnmmfmaaGreatAb9
namespace Go.Ab
open Go
set_option linter.all false
def Good (P:Program):Prop:=∀ (f:FuncId) (fn:Func),P.funcs[f]?=some fn→fn.name ≠ "runtime.NumGoroutine"
def CallOk (P:Program)(call:CallF):Prop:=∀ f args h v h',call f args h=some (v,h')→(∃ fn:Func,P.funcs[f]?=some fn∧fn.body.isSome=true)∧
 ∀ ρ w (args':Array Value),R P ρ h w→VRL ρ args args'.toList→Calls P f args' w fun e w'=>∃ v' ρ',e = .returned v'∧VR ρ' v v'∧Step P ρ h w ρ' h' w'
section
variable {P:Program}{ρ:Rho}{fr:Fr}{a:Act}{h:Heap}{w:World}{call:CallF}
theorem Jb (hG:Good P){f:FuncId}{fn:Func}(hf:P.funcs[f]?=some fn)(hb:fn.body.isSome=true)(args:Array Value)(w:World):(callFunc f args).run P w = .ok (.enter f args) w:=by
 have hb' : ¬ fn.body=none:=by cases h:fn.body<;>simp_all
 simp [callFunc,hf,hG f fn hf,hb']
theorem MP:∀ {l:List (TypeId × FuncId)} {t:TypeId} {f:FuncId},methL l t=some f→(t,f)∈l
 | [],_,_,h=>by cases h
 | (u,g)::l,t,f,h=>by
  rw [methL] at h
  by_cases hu:Nat.beq u t=true
  ·rw [hu,cond_true] at h
   have:u=t:=Nat.eq_of_beq_eq_true hu
   subst this
   cases h
   exact .head _
  ·rw [Bool.not_eq_true] at hu
   rw [hu,cond_false] at h
   exact .tail _ (MP h)
theorem NK {name:String}{t:TypeId}{f:FuncId}(h:methL (methList P name) t=some f):methOf P name t=some f:=by
 have hm:=MP h
 unfold methList at hm
 simp only [List.mem_filterMap,Option.map_eq_some_iff,Prod.mk.injEq] at hm
 obtain⟨_,_,_,ho,rfl,rfl⟩:=hm
 exact ho
theorem NE (hG:Good P)(hg:∀ g,g<P.globals.size→∃ c,ρ g=some (g,0,c))(hf:FR ρ fr a.tmps){o:Oper}{f:FuncId}{args:List AV}(hc:callA P o fr=some (f,args))
  (hfn:∃ fn:Func,P.funcs[f]?=some fn∧fn.body.isSome=true):∃ args':Array Value,VRL ρ args args'.toList∧∀ w,(execOp a.eval o).run P w = .ok (.enter f args') w:=by
 obtain⟨fn,hfn,hbody⟩:=hfn
 obtain⟨dst,op,type,pos,after,guard⟩:=o
 unfold callA at hc
 split at hc
 case h_1 fx cargs ts ho=>
  simp only at ho;subst ho
  simp only [Option.bind_eq_some_iff] at hc
  obtain⟨g,hgv,l,hl,hc⟩:=hc
  have hg':=BQ hg hf hgv
  have hl':=EE hg hf hl
  split at hc
  ·cases hc
   simp only [VR] at hg'
   obtain⟨x,y,e,hx,hy⟩:=hg'
   refine⟨x++cargs.map a.eval++y,by simpa using (hx.append hl').append hy,fun w=>?_⟩
   simp only [execOp,resolve,e,Deferred.ofValue,Sem.run_bind,Sem.run_pure,Result.andThen_ok,invoke,Jb hG hfn hbody]
  ·cases hc
 case h_2 r name cargs ts ho=>
  simp only at ho;subst ho
  simp only [Option.bind_eq_some_iff] at hc
  obtain⟨g,hgv,l,hl,hc⟩:=hc
  have hg':=BQ hg hf hgv
  have hl':=EE hg hf hl
  unfold ivP at hc
  split at hc
  ·rename_i t v
   simp only [Option.bind_eq_some_iff] at hc
   obtain⟨f',hmeth,hc⟩:=hc
   have hmeth:=NK hmeth
   unfold methOf at hmeth
   simp only [Option.bind_eq_some_iff] at hmeth
   obtain⟨i,hi,m,hm,hmeth⟩:=hmeth
   split at hmeth
   ·rename_i f'' el hpath hfunc hund
    cases hmeth
    cases hc
    simp only [VR] at hg'
    obtain⟨y,e,hy⟩:=hg'
    refine⟨#[y]++cargs.map a.eval,by simpa using VRL.cons hy hl',fun w=>?_⟩
    have hmeth:(method (P.types.size+Made.depth) t y name).run P w = .ok (f,y) w:=by
     have hpos:0<Made.depth:=by decide
     have:∃ k,P.types.size+Made.depth=k+1:=⟨P.types.size+Made.depth - 1,by omega⟩
     obtain⟨k,hk⟩:=this
     rw [hk]
     simp [method,typeInfo,hi,hm,hpath,hfunc,follow,receiverAt,run_underlying hund,Place.get]
    have h0:(#[Value.iface t y]++cargs.map a.eval)[0]?=some (.iface t y):=by simp [Array.getElem?_append]
    have h1:(#[Value.iface t y]++cargs.map a.eval).extract 1 (#[Value.iface t y]++cargs.map a.eval).size=cargs.map a.eval:=by
     apply Array.toList_inj.1
     simp [List.take_of_length_le]
    simp only [execOp,resolve,e,Sem.run_bind,Sem.run_pure,Result.andThen_ok,invoke,h0,h1,callMethod,run_program,hmeth,Jb hG hfn hbody]
   ·cases hmeth
  ·cases hc
 case h_3=>cases hc
theorem Gr (a:Act)(dst:Option Tmp)(v:Value):(a.put dst v).defers=a.defers:=by cases dst<;>rfl
theorem MW (hG:Good P)(hcall:CallOk P call)(hr:R P ρ h w)(hf:FR ρ fr a.tmps){o:Oper}{v:AV}{h':Heap}(ho:opA P call o fr h=some (v,h')){K:Act→World→Prop}{Q:Exit→Act→World→Prop}
  (hK:∀ ρ' w' v',Step P ρ h w ρ' h' w'→VR ρ' v v'→K (a.put o.dst v') w'):o.wp P a w K Q:=by
 unfold Oper.wp
 unfold opA at ho
 split at ho
 ·simp only [Option.map_eq_some_iff] at ho
  obtain⟨u,hu,e⟩:=ho
  cases e
  obtain⟨v',hv,hy⟩:=KG hr.glob hf hu
  rw [hy w]
  exact hK ρ w v' (Step.refl hr) hv
 ·simp only [Option.map_eq_some_iff] at ho
  obtain⟨u,hu,e⟩:=ho
  cases e
  obtain⟨v',hv,hy⟩:=KC hr hf hu
  rw [hy]
  exact hK ρ w v' (Step.refl hr) hv
 ·simp only [Option.map_eq_some_iff] at ho
  obtain⟨⟨b,f⟩,hm,e⟩:=ho
  cases e
  have hnone:ρ h.next=none:=by
   cases e:ρ h.next with
   | none=>rfl
   | some y=>exact absurd (hr.bnd _ _ e) (Nat.lt_irrefl _)
  obtain⟨obj,v',x,hrun,hb,hv,_⟩:=KR hr hf hm hnone
  rw [hrun]
  exact hK _ _ v' (Step.alloc hr obj b x hb) hv
 ·obtain⟨w',ρ',hrun,hst⟩:=OX hr hf ho
  rcases hrun with⟨v',hrun,hv⟩ | ⟨hrun,rfl⟩
  ·rw [hrun];exact hK _ _ v' hst hv
  ·rw [hrun];exact hK _ _ undef hst (by simp only [VR])
 ·simp only [Option.bind_eq_some_iff] at ho
  obtain⟨⟨f,args⟩,hc,ho⟩:=ho
  obtain⟨hfn,hcalls⟩:=hcall f args h v h' ho
  obtain⟨args',hargs,hrun⟩:=NE hG hr.glob hf hc hfn
  rw [hrun w]
  refine(hcalls ρ w args' hr hargs).mono ?_
  rintro e w' ⟨v',ρ',rfl,hv,hst⟩
  exact hK _ _ v' hst hv
 ·cases ho
theorem Ip {ops:Array Oper}(hf:FR ρ fr a.tmps){o:Oper}{want:Bool}(hw:wantedA ops fr o=some want):Region.wanted o (yielded ops a.tmps)=want:=by
 unfold wantedA at hw
 simp only [Jg] at hw
 unfold Region.wanted
 split at hw
 ·rename_i hg;cases hw;rw [hg]
 ·rename_i j wt hg
  rw [hg]
  simp only
  split at hw
  ·cases hw
  ·rename_i d hd
   have hs:=hf.2 d
   unfold yielded
   rw [hd]
   simp only [Option.bind_some]
   split at hw
   ·rename_i b hb
    cases hw
    rw [hb] at hs
    simp only [VR] at hs
    have:a.tmps[d]?=some (.bool b):=by
     cases hx:a.tmps[d]? with
     | none=>simp [Array.getD_eq_getD_getElem?,hx,undef] at hs
     | some u=>simp [Array.getD_eq_getD_getElem?,hx] at hs;rw [hs]
    rw [this]
    rfl
   ·rename_i hb
    cases hw
    rw [hb] at hs
    simp only [VR] at hs
    obtain⟨cs,hs,hcs⟩:=hs
    cases hx:a.tmps[d]? with
    | none=>rfl
    | some u=>simp [Array.getD_eq_getD_getElem?,hx] at hs;subst hs;rfl
   ·cases hw
theorem VR.undef:VR ρ (.tup []) Go.undef:=by simp only [VR];exact⟨#[],rfl,VRL.nil⟩
theorem JC (hG:Good P)(hcall:CallOk P call){ops:Array Oper}{Q:Exit→Act→World→Prop}:∀ (l:List Oper) {ρ:Rho} {fr fr':Fr} {a:Act} {h h':Heap} {w:World},opsA P call ops l fr h=some (fr',h')→R P ρ h w→FR ρ fr a.tmps→
  (∀ ρ' w' a',Step P ρ h w ρ' h' w'→FR ρ' fr' a'.tmps→a'.defers=a.defers→Q .normal a' w')→wpList P ops Q l a w
 | [],ρ,fr,fr',a,h,h',w,ho,hr,hf,hQ=>by
  simp only [opsA,Option.some.injEq,Prod.mk.injEq] at ho
  obtain⟨rfl,rfl⟩:=ho
  exact hQ ρ w a (Step.refl hr) hf rfl
 | o::rest,ρ,fr,fr',a,h,h',w,ho,hr,hf,hQ=>by
  simp only [opsA,Option.bind_eq_some_iff] at ho
  obtain⟨want,hw,⟨v,h₁⟩,hop,ho⟩:=ho
  have hwant:=Ip hf hw
  simp only [wpList]
  cases want
  ·rw [if_neg (by rw [hwant];simp)]
   simp only [Bool.false_eq_true,if_false,Option.some.injEq,Prod.mk.injEq] at hop
   obtain⟨rfl,rfl⟩:=hop
   exact JC hG hcall rest ho hr (hf.put VR.undef o.dst) fun ρ' w' a' hs hf' hd=>hQ ρ' w' a' hs hf' (by rw [hd,Gr])
  ·rw [if_pos hwant]
   simp only [if_true] at hop
   refine .inl (MW hG hcall hr hf hop fun ρ' w' v' hs hv=>?_)
   exact JC hG hcall rest ho hs.rel ((hf.mono hs.le).put hv o.dst) fun ρ'' w'' a'' hs' hf' hd=>hQ ρ'' w'' a'' (hs.trans hs') hf' (by rw [hd,Gr])
end
end Go.Ab
