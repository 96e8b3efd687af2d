import Derived.Test.YtdmgkkcjnmmfmaaGreatAb4
namespace Go.Ab
open Go
set_option linter.all false
section
variable {P:Program}{ρ:Rho}{fr:Fr}{a:Act}
theorem Ic (hg:∀ g,g<P.globals.size→∃ c,ρ g=some (g,0,c))(hf:FR ρ fr a.tmps){x:Option Operand}{v:Option AV}
  (h:(match x with | some y=>(ev P fr y).map some | none=>some none)=some v):OR ρ v (x.map a.eval):=by
 cases x with
 | none=>simp only [Option.some.injEq] at h;subst h;simp [OR]
 | some y=>simp only [Option.map_eq_some_iff] at h;obtain⟨u,hu,rfl⟩:=h;simp only [OR,Option.map_some];exact⟨_,rfl,BQ hg hf hu⟩
theorem VRL.one {l:List Value}{x:AV}(h:VRL ρ [x] l):∃ x',l = [x']∧VR ρ x x':=by
 simp only [VRL] at h;obtain⟨v,vs,rfl,h1,rfl⟩:=h;exact⟨v,rfl,h1⟩
theorem VRL.two {l:List Value}{x y:AV}(h:VRL ρ [x,y] l):∃ x' y',l = [x',y']∧VR ρ x x'∧VR ρ y y':=by
 simp only [VRL] at h;obtain⟨v,vs,rfl,h1,u,us,rfl,h2,rfl⟩:=h;exact⟨v,u,rfl,h1,h2⟩
theorem HM {args:Array Operand}{x' y':Value}(h:args.toList.map a.eval = [x',y']):args.map a.eval = #[x',y']:=by
 apply Array.toList_inj.1;simpa using h
theorem Iw {args:Array Operand}{x':Value}(h:args.toList.map a.eval = [x']):args.map a.eval = #[x']:=by
 apply Array.toList_inj.1;simpa using h
def Yields0 (P:Program)(o:Oper)(a:Act)(v':Value):Prop:=∀ w,(execOp a.eval o).run P w = .ok (.value v') w
theorem KG (hg:∀ g,g<P.globals.size→∃ c,ρ g=some (g,0,c))(hf:FR ρ fr a.tmps){o:Oper}{v:AV}(h:pureA P o fr=some v) :
  ∃ v',VR ρ v v'∧Yields0 P o a v':=by
 obtain⟨dst,op,type,pos,after,guard⟩:=o
 unfold Yields0
 unfold pureA at h
 split at h
 case h_1 x ho=>simp only at ho;subst ho;exact⟨_,BQ hg hf h,fun w=>rfl⟩
 case h_2 x ho=>simp only at ho;subst ho;exact⟨_,BQ hg hf h,fun w=>rfl⟩
 case h_3 c x y ho=>
  simp only at ho;subst ho
  simp only [Option.bind_eq_some_iff] at h
  obtain⟨cv,hc,t,ht,h⟩:=h
  have hc':=BQ hg hf hc
  cases cv<;>simp only [asBool,reduceCtorEq,Option.some.injEq] at ht
  subst ht
  simp only [VR] at hc'
  rename_i t
  cases t
  ·exact⟨_,BQ hg hf h,fun w=>by simp [execOp,hc',Go.asBool]⟩
  ·exact⟨_,BQ hg hf h,fun w=>by simp [execOp,hc',Go.asBool]⟩
 case h_4 t parts ho=>
  simp only at ho;subst ho
  simp only [Option.bind_eq_some_iff] at h
  obtain⟨ps,hps,h⟩:=h
  obtain⟨h1,h2⟩:=HB hg hf hps
  obtain⟨v',hv,hr⟩:=Me (parts':=parts.map fun(i,x)=>(i,a.eval x)) h (by rw [h1];simp) (by simpa [Function.comp_def] using h2)
  exact⟨v',hv,fun w=>by simp [execOp,hr w]⟩
 case h_5 x ho=>
  simp only at ho;subst ho
  simp only [Option.bind_eq_some_iff] at h
  obtain⟨u,hu,h⟩:=h
  have hu':=BQ hg hf hu
  split at h
  ·cases h
   have hu2:=hu'
   simp only [VR] at hu'
   obtain⟨β,b,c,hρ,e⟩:=hu'
   exact⟨a.eval x,hu2,fun w=>by simp [execOp,e]⟩
  ·cases h
   have hu2:=hu'
   simp only [VR] at hu'
   obtain⟨a',c',e,_⟩:=hu'
   exact⟨a.eval x,hu2,fun w=>by simp [execOp,e]⟩
  ·cases h
   have hu2:=hu'
   simp only [VR] at hu'
   obtain⟨y,e,_⟩:=hu'
   exact⟨a.eval x,hu2,fun w=>by simp [execOp,e]⟩
  ·cases h
 case h_6 bop t x y ty ho=>
  simp only at ho;subst ho
  simp only [Option.bind_eq_some_iff] at h
  obtain⟨u,hu,z,hz,h⟩:=h
  split at h
  ·cases h
  ·rename_i hno
   have hu':=BQ hg hf hu
   have hz':=BQ hg hf hz
   obtain⟨v',hv,hr⟩:=OV h hu' hz'
   refine⟨v',hv,fun w=>?_⟩
   have hub:u≠.bot:=by
    rintro rfl
    unfold binA at h
    split at h<;>first
     | (simp only [Option.map_eq_some_iff] at h;obtain⟨b,hb,_⟩:=h;unfold eqA at hb;split at hb<;>simp_all)
     | simp_all
   have hguard:(eqGuard bop t x y (a.eval x) (a.eval y)).run P w = .ok () w:=by
    by_cases hop:bop = .eql∨bop = .neq
    ·refine My ?_ ?_ w
     ·rintro⟨e,_⟩
      refine hu'.not_nilIface hub ?_ e
      rintro rfl
      rcases hop with rfl | rfl<;>exact hno rfl
     ·intro l m e _
      rw [e] at hu'
      obtain⟨l',rfl⟩:=hu'.agg_inv hub
      rcases hop with rfl | rfl<;>simpa [guardA] using hno
    ·simp only [not_or] at hop
     cases bop<;>first | rfl | (exact absurd rfl hop.1) | (exact absurd rfl hop.2)
   simp [execOp,hguard,hr w]
 case h_7 uop t x ho=>
  simp only at ho;subst ho
  simp only [Option.bind_eq_some_iff] at h
  obtain⟨u,hu,h⟩:=h
  obtain⟨v',hv,hr⟩:=Ow (P:=P) h (BQ hg hf hu)
  exact⟨v',hv,fun w=>by simp [execOp,hr w]⟩
 case h_8 src dt x ho=>
  simp only at ho;subst ho
  simp only [Option.bind_eq_some_iff] at h
  obtain⟨u,hu,h⟩:=h
  have hu':=BQ hg hf hu
  split at h
  ·rename_i ds k kk n hs hd
   cases h
   simp only [VR] at hu'
   refine⟨_,by simp only [VR];rfl,fun w=>?_⟩
   simp only [execOp,convert,Sem.run_bind,run_underlying hs,run_underlying hd,Result.andThen_ok,hu',Conv.intToInt,Sem.run_pure]
  ·rename_i ds s hs hd
   cases h
   simp only [VR] at hu'
   refine⟨_,by simp only [VR];rfl,fun w=>?_⟩
   simp only [execOp,convert,Sem.run_bind,run_underlying hs,run_underlying hd,Result.andThen_ok,hu',Sem.run_pure]
  ·cases h
 case h_9 t x ho=>
  simp only at ho;subst ho
  simp only [Option.bind_eq_some_iff] at h
  obtain⟨u,hu,h⟩:=h
  have hu':=BQ hg hf hu
  split at h
  ·rename_i hc
   have h:=Option.some.inj h
   subst h
   refine⟨.iface t (a.eval x),by simp only [VR];exact⟨_,rfl,hu'⟩,fun w=>?_⟩
   have:(Instr.makeInterface t (a.eval x)).run P w = .ok (.iface t (a.eval x)) w:=run_makeInterface w t _ (by
    unfold concreteA at hc
    unfold Program.concrete
    cases hd:P.underlying t with
    | none=>simp [hd] at hc
    | some d=>rw [hd] at hc;cases d<;>first | rfl | cases hc)
   simp [execOp,this]
  ·cases h
 case h_10 f first caps ho=>
  simp only at ho;subst ho
  simp only [Option.bind_eq_some_iff,Option.map_eq_some_iff] at h
  obtain⟨l,hl,c,hc,rfl⟩:=h
  refine⟨.func (.func f) (first.map a.eval) (caps.map a.eval),by simp only [VR];exact⟨_,_,rfl,by simpa using EE hg hf hl,by simpa using EE hg hf hc⟩,fun w=>?_⟩
  simp [execOp,Instr.makeFunc]
 case h_11 t x lo hi mx ho=>
  simp only at ho;subst ho
  simp only [Option.bind_eq_some_iff] at h
  obtain⟨u,hu,l,hl,hh,hhi,m,hm,h⟩:=h
  have hu':=BQ hg hf hu
  have rl:=Ic hg hf hl
  have rh:=Ic hg hf hhi
  have rm:=Ic hg hf hm
  split at h
  ·rename_i e p len cap hd
   simp only [Option.bind_eq_some_iff] at h
   obtain⟨n,hn,h⟩:=h
   obtain⟨v',hv,hr⟩:=Le hd hn h hu' rl rh rm
   exact⟨v',hv,fun w=>by simp [execOp,hr w]⟩
  ·rename_i e p len sz hd
   simp only [Option.bind_eq_some_iff] at h
   obtain⟨n,hn,h⟩:=h
   obtain⟨v',hv,hr⟩:=LW hd hn h hu' rl rh rm
   exact⟨v',hv,fun w=>by simp [execOp,hr w]⟩
  ·rename_i s hd
   split at h
   ·cases h
   ·simp only [Option.bind_eq_some_iff] at h
    obtain⟨h₁,hh1,l₁,hl1,h⟩:=h
    have h:=Option.some.inj h
    subst h
    simp only [VR] at hu'
    have hm0:mx.map a.eval=none:=by simpa [OR] using rm
    refine⟨.string ⟨⟨(s.take h₁).drop l₁⟩⟩,by simp only [VR],fun w=>?_⟩
    have hb:=(Ms (P:=P) (Nat.le_refl _) hh1 hl1 rl rh false w).2
    have hsz:(ByteArray.mk ⟨s⟩).size=s.length:=rfl
    simp only [execOp,Instr.sliceAt,Instr.slice,Sem.run_bind,run_underlying hd,Result.andThen_ok,hu',hm0,Option.isSome_none,Bool.false_eq_true,if_false,hsz,hb,Sem.run_pure,Hp]
  ·cases h
 case h_12 s x f ho=>
  simp only at ho;subst ho
  simp only [Option.bind_eq_some_iff] at h
  obtain⟨u,hu,h⟩:=h
  split at h
  ·rename_i fs p hd
   simp only [Option.bind_eq_some_iff] at h
   obtain⟨fd,hfd,n,hn,h⟩:=h
   split at h
   ·cases h
   ·rename_i h0
    have h:=Option.some.inj h
    subst h
    obtain⟨v',hv,hr⟩:=KF hd hfd hn h0 (BQ hg hf hu)
    exact⟨v',hv,fun w=>by simp [execOp,hr w]⟩
  ·cases h
 case h_13 t x f ho=>
  simp only at ho;subst ho
  simp only [Option.bind_eq_some_iff] at h
  obtain⟨u,hu,h⟩:=h
  have hu':=BQ hg hf hu
  split at h
  ·rename_i fs cs hd
   simp only [Option.bind_eq_some_iff] at h
   obtain⟨fd,hfd,h⟩:=h
   simp only [VR] at hu'
   obtain⟨acs,e,hc⟩:=hu'
   obtain⟨v',hv,hr⟩:=J7 hc h
   refine⟨v',hv,fun w=>?_⟩
   simp only [execOp,Instr.field,Sem.run_bind,run_underlying hd,Result.andThen_ok,hfd,e,asAgg,Sem.run_pure,hr w]
  ·cases h
 case h_14 t x ix ho=>
  simp only at ho;subst ho
  simp only [Option.bind_eq_some_iff] at h
  obtain⟨u,hu,i,hi,h⟩:=h
  have hu':=BQ hg hf hu
  have hi':=BQ hg hf hi
  split at h
  ·rename_i e p len c k n hd
   split at h
   ·rename_i hc
    simp only [Option.bind_eq_some_iff] at h
    obtain⟨s,hs,h⟩:=h
    have h:=Option.some.inj h
    subst h
    simp only [VR] at hi'
    obtain⟨v',hv,hr⟩:=MA (k:=k) hd hc hs hu'
    exact⟨v',hv,fun w=>by simp [execOp,hi',hr w]⟩
   ·cases h
  ·rename_i len e p k n hd
   split at h
   ·rename_i hc
    simp only [Option.bind_eq_some_iff] at h
    obtain⟨s,hs,h⟩:=h
    have h:=Option.some.inj h
    subst h
    simp only [VR] at hi'
    obtain⟨v',hv,hr⟩:=MG (k:=k) hd hc hs hu'
    exact⟨v',hv,fun w=>by simp [execOp,hi',hr w]⟩
   ·cases h
  ·cases h
 case h_15 t x ix ho=>
  simp only at ho;subst ho
  simp only [Option.bind_eq_some_iff] at h
  obtain⟨u,hu,i,hi,h⟩:=h
  have hu':=BQ hg hf hu
  have hi':=BQ hg hf hi
  split at h
  ·rename_i len e cs k n hd
   split at h
   ·rename_i hc
    simp only [Option.bind_eq_some_iff] at h
    obtain⟨s,hs,h⟩:=h
    simp only [VR] at hi' hu'
    obtain⟨acs,ea,hcs⟩:=hu'
    obtain⟨v',hv,hr⟩:=J7 hcs h
    refine⟨v',hv,fun w=>?_⟩
    simp only [execOp,Instr.index,hi',ea,asIntOf,Sem.run_bind,Sem.run_pure,run_underlying hd,Result.andThen_ok]
    rw [if_pos hc]
    simp [DU hs,hr w]
   ·cases h
  ·rename_i s k n hd
   split at h
   ·rename_i hc
    simp only [Option.map_eq_some_iff] at h
    obtain⟨b,hb,rfl⟩:=h
    simp only [VR] at hi' hu'
    refine⟨.int .u8 b.toNat,by simp only [VR],fun w=>?_⟩
    have hbb:(ByteArray.mk ⟨s⟩)[n.toNat]?=some b:=by
     obtain⟨hlt,hbe⟩:=List.getElem?_eq_some_iff.1 hb
     rw [ByteArray.getElem?_lt' _ _ (show n.toNat<(ByteArray.mk ⟨s⟩).size from hlt)]
     exact congrArg some hbe
    simp only [execOp,Instr.index,hi',hu',asIntOf,Sem.run_bind,Sem.run_pure,run_underlying hd,Result.andThen_ok]
    rw [if_pos hc,hbb]
    simp
   ·cases h
  ·cases h
 case h_16 t ix ho=>
  simp only at ho;subst ho
  simp only [Option.bind_eq_some_iff] at h
  obtain⟨u,hu,h⟩:=h
  have hu':=BQ hg hf hu
  split at h
  ·simp only [VR] at hu'
   obtain⟨cs,e,hc⟩:=hu'
   obtain⟨v',hv,hr⟩:=hc.get _ _ h
   have hv':cs[ix]?=some v':=by simpa using hv
   exact⟨v',hr,fun w=>by simp [execOp,e,Instr.extract,hv']⟩
  ·cases h
 case h_17 args ts ho=>
  simp only at ho;subst ho
  simp only [Option.bind_eq_some_iff] at h
  obtain⟨t,ht,x,hx,u,hu,h⟩:=h
  have hu':=BQ hg hf hu
  have hax:(args.map a.eval)[0]?=some (a.eval x):=by simp [hx]
  split at h
  ·rename_i s hd
   cases h
   simp only [VR] at hu'
   refine⟨_,by simp only [VR];rfl,fun w=>?_⟩
   simp only [execOp,resolve,invoke,builtin,Sem.run_bind,Sem.run_pure,Result.andThen_ok,Builtin.len_,ht,hax,run_underlying hd,hu',goInt]
   rfl
  ·rename_i n e hd
   cases h
   refine⟨_,by simp only [VR];rfl,fun w=>?_⟩
   simp only [execOp,resolve,invoke,builtin,Sem.run_bind,Sem.run_pure,Result.andThen_ok,Builtin.len_,ht,hax,run_underlying hd,goInt]
  ·rename_i e p n c hd
   cases h
   refine⟨.int .i64 n,by simp only [VR],fun w=>?_⟩
   have key:∃ ad cap,a.eval x = .slice ad n cap:=by
    cases p with
    | none=>simp only [VR] at hu';obtain⟨rfl,_,e⟩:=hu';exact⟨_,_,e⟩
    | some p=>cases c with
     | ex c=>simp only [VR] at hu';obtain⟨_,_,_,_,e⟩:=hu';exact⟨_,_,e⟩
     | un c=>simp only [VR] at hu';obtain⟨_,_,_,_,_,_,e,_⟩:=hu';exact⟨_,_,e⟩
   obtain⟨ad,cap,e⟩:=key
   simp only [execOp,resolve,invoke,builtin,Sem.run_bind,Sem.run_pure,Result.andThen_ok,Builtin.len_,ht,hax,run_underlying hd,e,goInt]
  ·cases h
 case h_18 args ts ho=>
  simp only at ho;subst ho
  simp only [Option.bind_eq_some_iff] at h
  obtain⟨l,hl,h⟩:=h
  have hl':=EE hg hf hl
  split at h
  ·rename_i k x k' y
   cases h
   obtain⟨x',y',e,hx,hy⟩:=hl'.two
   simp only [VR] at hx hy;subst hx;subst hy
   refine⟨_,by simp only [VR];rfl,fun w=>?_⟩
   simp only [execOp,resolve,invoke,builtin,Sem.run_bind,Sem.run_pure,Result.andThen_ok,HM e,Builtin.min_]
   simp [Builtin.min2]
  ·cases h
 case h_19 args ts ho=>
  simp only at ho;subst ho
  simp only [Option.bind_eq_some_iff] at h
  obtain⟨l,hl,h⟩:=h
  have hl':=EE hg hf hl
  split at h
  ·rename_i k x k' y
   cases h
   obtain⟨x',y',e,hx,hy⟩:=hl'.two
   simp only [VR] at hx hy;subst hx;subst hy
   refine⟨_,by simp only [VR];rfl,fun w=>?_⟩
   simp only [execOp,resolve,invoke,builtin,Sem.run_bind,Sem.run_pure,Result.andThen_ok,HM e,Builtin.max_]
   simp [Builtin.max2]
  ·cases h
 case h_20=>cases h
end
end Go.Ab
