import Derived.Test.YtdmgkkcjnmmfmaaGreatAb11g
namespace Go.Ab
open Go
set_option linter.all false
section
variable {P:Program}{call:CallF}
theorem Em (outs ws:List Nat)(vals:List AV):∀ (fr:Fr) (s₀ s:Nat),(rebuild outs ws vals s₀ fr).length=fr.length∧
  (rebuild outs ws vals s₀ fr)[s]?=(fr[s]?).map fun v=>if ws.contains (s₀+s) then(match outs.idxOf? (s₀+s) with | some k=>vals.getD k .bot | none=>.bot) else v
 | [],s₀,s=>by simp [rebuild]
 | v::rest,s₀,s=>by
  obtain⟨h1,h2⟩:=Em outs ws vals rest (s₀+1) (s - 1)
  refine⟨by simp [rebuild,(Em outs ws vals rest (s₀+1) 0).1],?_⟩
  cases s with
  | zero=>simp only [rebuild,List.getElem?_cons_zero,Option.map_some,Nat.add_zero];rfl
  | succ s=>simp only [rebuild,List.getElem?_cons_succ];have:=(Em outs ws vals rest (s₀+1) s).2;rw [this];simp only [Nat.add_right_comm,Nat.add_assoc,Nat.add_comm 1 s]
def Writes (ws:List Nat)(fr fr':Fr):Prop:=fr'.length=fr.length∧∀ s,s∉ws→fr'[s]?=fr[s]?
theorem Writes.refl (ws:List Nat)(fr:Fr):Writes ws fr fr:=⟨rfl,fun _ _=>rfl⟩
theorem Writes.trans {ws:List Nat}{a b c:Fr}(h:Writes ws a b)(h':Writes ws b c):Writes ws a c:=⟨h'.1.trans h.1,fun s hs=>(h'.2 s hs).trans (h.2 s hs)⟩
theorem Writes.mono {ws ws':List Nat}{a b:Fr}(h:Writes ws a b)(hs:∀ s,s∈ws→s∈ws'):Writes ws' a b:=⟨h.1,fun s hn=>h.2 s fun hm=>hn (hs s hm)⟩
theorem Writes.put {ws:List Nat}{fr fr':Fr}{dst:Option Tmp}(v:AV)(hd:∀ d,dst=some d→d∈ws)(h:Writes ws (putA fr dst v) fr'):Writes ws fr fr':=by
 cases dst with
 | none=>exact h
 | some d=>
  refine⟨h.1.trans (by simp [putA,GT]),fun s hs=>(h.2 s hs).trans ?_⟩
  have hne:d≠s:=fun e=>hs (e ▸ hd d rfl)
  simp [putA,GT,List.getElem?_set,hne]
theorem Ga {outs ws:List Nat}{vals:List AV}{fr:Fr}:Writes ws fr (rebuild outs ws vals 0 fr):=
 ⟨(Em outs ws vals fr 0 0).1,fun s hs=>by
  rw [(Em outs ws vals fr 0 s).2]
  simp only [Nat.zero_add]
  have:ws.contains s=false:=by simpa using hs
  rw [this]
  cases fr[s]?<;>rfl⟩
theorem Kn {ops:Array Oper}{ws:List Nat}:∀ {l:List Oper} {fr fr':Fr} {h h':Heap},(∀ o∈l,∀ d,o.dst=some d→d∈ws)→opsA P call ops l fr h=some (fr',h')→Writes ws fr fr'
 | [],fr,fr',h,h',_,ho=>by
  simp only [opsA,Option.some.injEq,Prod.mk.injEq] at ho
  obtain⟨rfl,_⟩:=ho
  exact Writes.refl _ _
 | o::rest,fr,fr',h,h',hd,ho=>by
  simp only [opsA,Option.bind_eq_some_iff] at ho
  obtain⟨want,hw,⟨v,h₁⟩,hop,ho⟩:=ho
  exact Writes.put v (hd o (.head _)) (Kn (fun p hp=>hd p (.tail _ hp)) ho)
theorem KD:∀ {l:List Nat} {s k:Nat},l.idxOf? s=some k→l[k]?=some s
 | [],s,k,h=>by simp at h
 | x::l,s,k,h=>by
  rw [List.idxOf?_cons] at h
  split at h
  ·rename_i he;cases h;simpa using he
  ·simp only [Option.map_eq_some_iff] at h
   obtain⟨j,hj,rfl⟩:=h
   simpa using KD hj
theorem FR.rebuild {ρ:Rho}{outs ws:List Nat}{fr fr':Fr}{tm:Array Value}(hw:Writes ws fr fr')(hf:FR ρ fr' tm):FR ρ (rebuild outs ws (outs.map (fr'.getD · .bot)) 0 fr) tm:=by
 refine⟨(Em _ _ _ fr 0 0).1.trans (hw.1.symm.trans hf.1),fun s=>?_⟩
 have hs:=hf.2 s
 simp only [List.getD_eq_getElem?_getD] at hs ⊢
 rw [(Em _ _ _ fr 0 s).2]
 simp only [Nat.zero_add]
 cases hx:fr[s]? with
 | none=>simp [VR]
 | some v=>
  simp only [Option.map_some,Option.getD_some]
  by_cases hc:ws.contains s=true
  ·rw [if_pos hc]
   split
   ·rename_i k hk
    have:outs[k]?=some s:=KD hk
    simpa [List.getElem?_map,this] using hs
   ·simp only [VR]
  ·rw [if_neg hc]
   have hns:s∉ws:=by simpa using hc
   have:=hw.2 s hns
   rw [hx] at this
   rw [this] at hs
   simpa using hs
def exitOf:Ex→Exit
 | .normal=>.normal
 | .exit id=>.exit id
 | .ret=>.ret
def LoopArr (P:Program)(c:Code)(Q:Exit→Act→World→Prop)(a:Act)(w:World):Prop:=
 ∀ (b:Frame) (k:List Item) (cs:List Frame),∃ e a' w',Q e a' w'∧Arrives P (lone (b.at a (.code c :: .inLoop c::k)) cs w) b k cs e a' w'
theorem LoopArr.loop {c:Code}{Q:Exit→Act→World→Prop}{a:Act}{w:World}(h:LoopArr P c Q a w):(Code.loop c).wp P Q a w:=fun b k cs=>
 let ⟨e,a',w',hq,harr⟩:=h b k cs
 ⟨e,a',w',hq,.of_steps (.one step_loop) harr⟩
theorem LoopArr.round {c:Code}{Q:Exit→Act→World→Prop}{a:Act}{w:World}(h:c.wp P (Exit.then (fun a' w'=>LoopArr P c Q a' w') Q) a w):LoopArr P c Q a w:=by
 intro b k cs
 obtain⟨e,a₁,w₁,hq,harr⟩:=h b (.inLoop c::k) cs
 cases e with
 | normal=>
  obtain⟨e₂,a₂,w₂,hq₂,harr₂⟩:=hq b k cs
  exact⟨e₂,a₂,w₂,hq₂,.of_steps (Steps.trans harr (.one step_inLoop)) harr₂⟩
 | exit id=>exact⟨_,a₁,w₁,hq,.pass (x:=.inLoop c) rfl (fun _ _=>.inl (by simp)) harr⟩
 | goto l=>exact⟨_,a₁,w₁,hq,.pass (x:=.inLoop c) rfl (fun _ _=>.inl (by simp)) harr⟩
 | ret=>exact⟨_,a₁,w₁,hq,.pass (x:=.inLoop c) rfl (fun _ _=>.inl (by simp)) harr⟩
 | panic ch=>exact⟨_,a₁,w₁,hq,.pass (x:=.inLoop c) rfl (fun _ _=>.inl (by simp)) harr⟩
 | outgrown=>exact⟨_,a₁,w₁,hq,.pass (x:=.inLoop c) rfl (fun _ _=>.inl (by simp)) harr⟩
theorem OQ {Q:Exit→Act→World→Prop}{c:Code}{outs ws:List Nat}{fr:Fr}{F:List AV→Heap→OutV}{d₀:List Deferred}
  (round:∀ vals h e vals' h' ρ w a,F vals h=some (e,vals',h')→R P ρ h w→FR ρ (rebuild outs ws vals 0 fr) a.tmps→a.defers=d₀→
   ∀ Q':Exit→Act→World→Prop,(∀ ρ' w' a',Step P ρ h w ρ' h' w'→FR ρ' (rebuild outs ws vals' 0 fr) a'.tmps→a'.defers=d₀→Q' (exitOf e) a' w')→c.wp P Q' a w) :
  ∀ (k:Nat) (vals:List AV) (h:Heap) (e:Ex) (vals':List AV) (h':Heap),iter k F vals h=some (e,vals',h')→∀ ρ w a,R P ρ h w→FR ρ (rebuild outs ws vals 0 fr) a.tmps→a.defers=d₀→
   (∀ ρ' w' a',Step P ρ h w ρ' h' w'→FR ρ' (rebuild outs ws vals' 0 fr) a'.tmps→a'.defers=d₀→Q (exitOf e) a' w')→LoopArr P c Q a w:=by
 intro k
 induction k with
 | zero=>intro vals h e vals' h' hi;simp [iter] at hi
 | succ k ih=>
  intro vals h e vals' h' hi ρ w a hr hf hd hQ
  simp only [iter,Option.bind_eq_some_iff] at hi
  obtain⟨⟨e₁,vals₁,h₁⟩,hF,hi⟩:=hi
  refine LoopArr.round (round vals h e₁ vals₁ h₁ ρ w a hF hr hf hd _ fun ρ' w' a' hst hf' hd'=>?_)
  cases e₁ with
  | normal=>
   simp only [exitOf,Exit.then]
   exact ih vals₁ h₁ e vals' h' hi ρ' w' a' hst.rel hf' hd' fun ρ'' w'' a'' hst' hf'' hd''=>hQ ρ'' w'' a'' (hst.trans hst') hf'' hd''
  | exit id=>
   simp only [Option.some.injEq,Prod.mk.injEq] at hi
   obtain⟨rfl,rfl,rfl⟩:=hi
   exact hQ ρ' w' a' hst hf' hd'
  | ret=>
   simp only [Option.some.injEq,Prod.mk.injEq] at hi
   obtain⟨rfl,rfl,rfl⟩:=hi
   exact hQ ρ' w' a' hst hf' hd'
theorem FI {k:Nat}{ann:Nat→List Nat}:∀ {c:Code} {p:Nat} {fr fr':Fr} {h h':Heap} {e:Ex},exec P call k ann p c fr h=some (e,fr',h')→Writes (writes c) fr fr'
 | .skip,p,fr,fr',h,h',e,hx=>by simp only [exec,Option.some.injEq,Prod.mk.injEq] at hx;obtain⟨_,rfl,_⟩:=hx;exact Writes.refl _ _
 | .region id ops draw,p,fr,fr',h,h',e,hx=>by
  simp only [exec,Option.map_eq_some_iff] at hx
  obtain⟨⟨fr₁,h₁⟩,hx,hy⟩:=hx
  cases hy
  have hmem:∀ o∈ops.toList,∀ d,o.dst=some d→d∈writes (.region id ops draw):=fun o ho d hd=>List.mem_filterMap.2 ⟨o,ho,hd⟩
  cases draw
  ·exact Kn hmem hx
  ·exact K0 hmem hx
 | .seq a b,p,fr,fr',h,h',e,hx=>by
  simp only [exec,Option.bind_eq_some_iff] at hx
  obtain⟨⟨e₁,fr₁,h₁⟩,hx,hy⟩:=hx
  have h1:=(FI hx).mono (ws':=writes (.seq a b)) fun s hs=>List.mem_append.2 (.inl hs)
  cases e₁ with
  | normal=>exact h1.trans ((FI hy).mono fun s hs=>List.mem_append.2 (.inr hs))
  | exit id=>simp only [Option.some.injEq,Prod.mk.injEq] at hy;obtain⟨_,rfl,_⟩:=hy;exact h1
  | ret=>simp only [Option.some.injEq,Prod.mk.injEq] at hy;obtain⟨_,rfl,_⟩:=hy;exact h1
 | .cond c a b,p,fr,fr',h,h',e,hx=>by
  simp only [exec,Option.bind_eq_some_iff] at hx
  obtain⟨cv,_,t,_,⟨e₁,vals,h₁⟩,_,hy⟩:=hx
  simp only [Option.some.injEq,Prod.mk.injEq] at hy
  obtain⟨_,rfl,_⟩:=hy
  exact Ga
 | .block id c,p,fr,fr',h,h',e,hx=>by
  simp only [exec,Option.bind_eq_some_iff] at hx
  obtain⟨⟨e₁,fr₁,h₁⟩,hx,hy⟩:=hx
  simp only [Option.some.injEq,Prod.mk.injEq] at hy
  obtain⟨_,rfl,_⟩:=hy
  exact FI (c:=c) hx
 | .loop c,p,fr,fr',h,h',e,hx=>by
  simp only [exec,Option.bind_eq_some_iff] at hx
  obtain⟨⟨e₁,vals,h₁⟩,_,hy⟩:=hx
  simp only [Option.some.injEq,Prod.mk.injEq] at hy
  obtain⟨_,rfl,_⟩:=hy
  exact Ga
 | .exit id,p,fr,fr',h,h',e,hx=>by simp only [exec,Option.some.injEq,Prod.mk.injEq] at hx;obtain⟨_,rfl,_⟩:=hx;exact Writes.refl _ _
 | .ret,p,fr,fr',h,h',e,hx=>by simp only [exec,Option.some.injEq,Prod.mk.injEq] at hx;obtain⟨_,rfl,_⟩:=hx;exact Writes.refl _ _
 | .scope c,p,fr,fr',h,h',e,hx=>by simp [exec] at hx
 | .label l,p,fr,fr',h,h',e,hx=>by simp only [exec,Option.some.injEq,Prod.mk.injEq] at hx;obtain⟨_,rfl,_⟩:=hx;exact Writes.refl _ _
 | .rangeFunc ..,p,fr,fr',h,h',e,hx=>by simp [exec] at hx
 | .goto l,p,fr,fr',h,h',e,hx=>by simp [exec] at hx
 | .refuse s,p,fr,fr',h,h',e,hx=>by simp [exec] at hx
theorem FC (hG:Good P)(hm:P.follows .mixedOrders=true)(hcall:CallOk P call){k:Nat}{ann:Nat→List Nat}:∀ {c:Code} {p:Nat} {fr fr':Fr} {h h':Heap} {e:Ex},exec P call k ann p c fr h=some (e,fr',h')→
  ∀ {ρ:Rho} {w:World} {a:Act} {Q:Exit→Act→World→Prop},R P ρ h w→FR ρ fr a.tmps→
  (∀ ρ' w' a',Step P ρ h w ρ' h' w'→FR ρ' fr' a'.tmps→a'.defers=a.defers→Q (exitOf e) a' w')→c.wp P Q a w
 | .skip,p,fr,fr',h,h',e,hx,ρ,w,a,Q,hr,hf,hQ=>by
  simp only [exec,Option.some.injEq,Prod.mk.injEq] at hx;obtain⟨rfl,rfl,rfl⟩:=hx
  exact wp_skip (hQ ρ w a (Step.refl hr) hf rfl)
 | .region id ops draw,p,fr,fr',h,h',e,hx,ρ,w,a,Q,hr,hf,hQ=>by
  simp only [exec,Option.map_eq_some_iff] at hx
  obtain⟨⟨fr₁,h₁⟩,hx,hy⟩:=hx
  cases hy
  cases draw
  ·exact wp_region_list (JC hG hcall ops.toList hx hr hf hQ)
  ·exact MK hG hm hcall hx hr hf hQ
 | .seq x y,p,fr,fr',h,h',e,hx,ρ,w,a,Q,hr,hf,hQ=>by
  simp only [exec,Option.bind_eq_some_iff] at hx
  obtain⟨⟨e₁,fr₁,h₁⟩,hx,hy⟩:=hx
  refine wp_seq (FC hG hm hcall hx hr hf fun ρ' w' a' hst hf' hd'=>?_)
  cases e₁ with
  | normal=>
   simp only [exitOf,Exit.then]
   exact FC hG hm hcall hy hst.rel hf' fun ρ'' w'' a'' hst' hf'' hd''=>hQ ρ'' w'' a'' (hst.trans hst') hf'' (hd''.trans hd')
  | exit id=>
   simp only [Option.some.injEq,Prod.mk.injEq] at hy
   obtain⟨rfl,rfl,rfl⟩:=hy
   exact hQ ρ' w' a' hst hf' hd'
  | ret=>
   simp only [Option.some.injEq,Prod.mk.injEq] at hy
   obtain⟨rfl,rfl,rfl⟩:=hy
   exact hQ ρ' w' a' hst hf' hd'
 | .cond c x y,p,fr,fr',h,h',e,hx,ρ,w,a,Q,hr,hf,hQ=>by
  simp only [exec,Option.bind_eq_some_iff] at hx
  obtain⟨cv,hc,t,ht,⟨e₁,vals,h₁⟩,hx,hy⟩:=hx
  simp only [Option.some.injEq,Prod.mk.injEq] at hy
  obtain⟨rfl,rfl,rfl⟩:=hy
  have hc':=BQ hr.glob hf hc
  cases cv<;>simp only [asBool,reduceCtorEq,Option.some.injEq] at ht
  subst ht
  rename_i t
  simp only [VR] at hc'
  simp only [outOf,NG,Option.map_eq_some_iff] at hx
  obtain⟨⟨e₂,fr₂,h₂⟩,hx,hz⟩:=hx
  simp only [Prod.mk.injEq] at hz
  obtain⟨rfl,rfl,rfl⟩:=hz
  refine wp_cond hc' ?_
  cases t
  ·simp only [Bool.false_eq_true,if_false] at hx ⊢
   exact FC hG hm hcall hx hr hf fun ρ' w' a' hst hf' hd'=>hQ ρ' w' a' hst (FR.rebuild ((FI hx).mono fun s hs=>List.mem_append.2 (.inr hs)) hf') hd'
  ·simp only [if_true] at hx ⊢
   exact FC hG hm hcall hx hr hf fun ρ' w' a' hst hf' hd'=>hQ ρ' w' a' hst (FR.rebuild ((FI hx).mono fun s hs=>List.mem_append.2 (.inl hs)) hf') hd'
 | .block id c,p,fr,fr',h,h',e,hx,ρ,w,a,Q,hr,hf,hQ=>by
  simp only [exec,Option.bind_eq_some_iff] at hx
  obtain⟨⟨e₁,fr₁,h₁⟩,hx,hy⟩:=hx
  simp only [Option.some.injEq,Prod.mk.injEq] at hy
  obtain⟨rfl,rfl,rfl⟩:=hy
  refine wp_block (FC hG hm hcall hx hr hf fun ρ' w' a' hst hf' hd'=>?_)
  have:=hQ ρ' w' a' hst hf' hd'
  cases e₁ with
  | normal=>simpa [exitOf,Exit.inBlock] using this
  | exit id'=>
   by_cases hid:id'=id
   ·simpa [exitOf,Exit.inBlock,hid] using this
   ·simpa [exitOf,Exit.inBlock,hid] using this
  | ret=>simpa [exitOf,Exit.inBlock] using this
 | .loop c,p,fr,fr',h,h',e,hx,ρ,w,a,Q,hr,hf,hQ=>by
  simp only [exec,Option.bind_eq_some_iff] at hx
  obtain⟨⟨e₁,vals,h₁⟩,hx,hy⟩:=hx
  simp only [Option.some.injEq,Prod.mk.injEq] at hy
  obtain⟨rfl,rfl,rfl⟩:=hy
  refine(OQ (outs:=ann p) (ws:=writes c) (fr:=fr) (d₀:=a.defers) ?_ k _ h _ _ _ hx ρ w a hr (by rw [NG];exact FR.rebuild (Writes.refl _ _) hf) rfl hQ).loop
  intro vals h e vals' h' ρ w a' hF hr hf hd Q' hQ'
  simp only [outOf,NG,Option.map_eq_some_iff] at hF
  obtain⟨⟨e₂,fr₂,h₂⟩,hF,hz⟩:=hF
  simp only [Prod.mk.injEq] at hz
  obtain⟨rfl,rfl,rfl⟩:=hz
  refine FC hG hm hcall hF hr hf fun ρ' w' a'' hst hf' hd'=>hQ' ρ' w' a'' hst ?_ (hd'.trans hd)
  exact FR.rebuild ((Ga (outs:=ann p) (ws:=writes c) (vals:=vals) (fr:=fr)).trans (FI hF)) hf'
 | .exit id,p,fr,fr',h,h',e,hx,ρ,w,a,Q,hr,hf,hQ=>by
  simp only [exec,Option.some.injEq,Prod.mk.injEq] at hx;obtain⟨rfl,rfl,rfl⟩:=hx
  exact wp_exit (hQ ρ w a (Step.refl hr) hf rfl)
 | .ret,p,fr,fr',h,h',e,hx,ρ,w,a,Q,hr,hf,hQ=>by
  simp only [exec,Option.some.injEq,Prod.mk.injEq] at hx;obtain⟨rfl,rfl,rfl⟩:=hx
  exact wp_ret (hQ ρ w a (Step.refl hr) hf rfl)
 | .scope c,p,fr,fr',h,h',e,hx,ρ,w,a,Q,hr,hf,hQ=>by simp [exec] at hx
 | .label l,p,fr,fr',h,h',e,hx,ρ,w,a,Q,hr,hf,hQ=>by
  simp only [exec,Option.some.injEq,Prod.mk.injEq] at hx;obtain⟨rfl,rfl,rfl⟩:=hx
  exact wp_label (hQ ρ w a (Step.refl hr) hf rfl)
 | .rangeFunc ..,p,fr,fr',h,h',e,hx,ρ,w,a,Q,hr,hf,hQ=>by simp [exec] at hx
 | .goto l,p,fr,fr',h,h',e,hx,ρ,w,a,Q,hr,hf,hQ=>by simp [exec] at hx
 | .refuse s,p,fr,fr',h,h',e,hx,ρ,w,a,Q,hr,hf,hQ=>by simp [exec] at hx
theorem II {ρ:Rho}{fr:Fr}{a:Act}{h:Heap}{w:World}(hr:R P ρ h w)(hf:FR ρ fr a.tmps):∀ {rs:List ResultVar} {l:List AV},resultsA P fr h rs=some l→
  ∃ vs:List Value,(rs.mapM fun(r:ResultVar)=>(match r with
   | .tmp t=>pure (a.tmps.getD t undef)
   | .cell b t=>do loadVar t (← asAddr (a.tmps.getD b undef)):Sem Value)).run P w = .ok vs w∧VRL ρ l vs
 | [],l,hx=>by simp only [resultsA,Option.some.injEq] at hx;subst hx;exact⟨[],rfl,VRL.nil⟩
 | r::rs,l,hx=>by
  simp only [resultsA,Option.bind_eq_some_iff,Option.map_eq_some_iff] at hx
  obtain⟨v,hv,l',hl,rfl⟩:=hx
  obtain⟨vs,h1,h2⟩:=II hr hf hl
  cases r with
  | tmp t=>
   simp only [resultA,Jg,Option.some.injEq] at hv
   subst hv
   refine⟨a.tmps.getD t undef::vs,?_,VRL.cons (hf.2 t) h2⟩
   simp only [List.mapM_cons,Sem.run_bind,Sem.run_pure,Result.andThen_ok,h1]
  | cell b t=>
   simp only [resultA,Jg] at hv
   split at hv
   ·rename_i p hb
    have hb':=hf.2 b
    rw [hb] at hb'
    obtain⟨ad,v',e,hvv,hload⟩:=JV hr hv hb'
    refine⟨v'::vs,?_,VRL.cons hvv h2⟩
    have ha:(Go.asAddr (a.tmps.getD b undef)).run P w = .ok ad w:=by rw [e];rfl
    simp only [List.mapM_cons,Sem.run_bind,ha,Sem.run_pure,Result.andThen_ok,hload,h1]
   ·cases hv
theorem N9 {ρ:Rho}{l:List AV}{vs:List Value}(h:VRL ρ l vs):VR ρ (oneA l) (if hs:vs.toArray.size=1 then vs.toArray[0] else .tuple vs.toArray):=by
 have hl:=h.length
 cases l with
 | nil=>simp only [VRL] at h;subst h;simp only [oneA,VR];exact⟨#[],rfl,VRL.nil⟩
 | cons x xs=>
  cases xs with
  | nil=>
   obtain⟨x',rfl,hx⟩:=h.one
   simpa [oneA] using hx
  | cons y ys=>
   have : ¬ vs.toArray.size=1:=by simp at hl ⊢;omega
   rw [dif_neg this]
   simp only [oneA,VR]
   exact⟨_,rfl,h⟩
end
end Go.Ab
