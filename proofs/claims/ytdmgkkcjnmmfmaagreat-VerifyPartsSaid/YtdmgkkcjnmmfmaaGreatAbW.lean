import Derived.Test.YtdmgkkcjnmmfmaaGreatAbK
namespace Go.Ab
open Go
set_option linter.all false
noncomputable section
section
variable (P:Program)(call:CallF)
theorem Ln {F G:List AV→Heap→OutV}(hs:∀ vs h r,F vs h=some r→G vs h=some r):∀ {k:Nat} {vs:List AV} {h:Heap} {r:Ex × List AV × Heap},iter k F vs h=some r→iter k G vs h=some r
 | 0,_,_,_,he=>by simp [iter] at he
 | k+1,vs,h,r,he=>by
  rw [iter] at he ⊢
  simp only [Option.bind_eq_some_iff] at he ⊢
  obtain⟨⟨e,vs',h'⟩,h1,h2⟩:=he
  refine⟨(e,vs',h'),hs _ _ _ h1,?_⟩
  cases e
  ·exact Ln hs h2
  ·exact h2
  ·exact h2
theorem Hz {outs:List Nat}{x y:Out}(hs:∀ r,x=some r→y=some r):∀ r,outOf outs x=some r→outOf outs y=some r:=by
 intro r hr
 unfold outOf at hr ⊢
 simp only [Option.map_eq_some_iff] at hr ⊢
 obtain⟨a,ha,hb⟩:=hr
 exact⟨a,hs a ha,hb⟩
theorem E0 {k m:Nat}(hkm:k≤m)(ann:Nat→List Nat):∀ (c:Code) (p:Nat) (fr:Fr) (h:Heap) (r:Ex × Fr × Heap),exec P call k ann p c fr h=some r→exec P call m ann p c fr h=some r
 | .skip,p,fr,h,r,he=>by rw [exec] at he ⊢;exact he
 | .region ..,p,fr,h,r,he=>by rw [exec] at he ⊢;exact he
 | .seq a b,p,fr,h,r,he=>by
  rw [exec] at he ⊢
  simp only [Option.bind_eq_some_iff] at he ⊢
  obtain⟨⟨e,fr',h'⟩,h1,h2⟩:=he
  refine⟨_,E0 hkm ann a _ _ _ _ h1,?_⟩
  cases e
  ·exact E0 hkm ann b _ _ _ _ h2
  ·exact h2
  ·exact h2
 | .cond c a b,p,fr,h,r,he=>by
  rw [exec] at he ⊢
  simp only [Option.bind_eq_some_iff] at he ⊢
  obtain⟨cv,h1,t,h2,v,h3,h4⟩:=he
  refine⟨cv,h1,t,h2,v,?_,h4⟩
  cases t
  ·exact Hz (E0 hkm ann b _ _ _) _ h3
  ·exact Hz (E0 hkm ann a _ _ _) _ h3
 | .block id c,p,fr,h,r,he=>by
  rw [exec] at he ⊢
  simp only [Option.bind_eq_some_iff] at he ⊢
  obtain⟨v,h1,h2⟩:=he
  exact⟨v,E0 hkm ann c _ _ _ _ h1,h2⟩
 | .loop c,p,fr,h,r,he=>by
  rw [exec] at he ⊢
  simp only [Option.bind_eq_some_iff] at he ⊢
  obtain⟨v,h1,h2⟩:=he
  exact⟨v,NB (Ln (fun vs h r=>Hz (E0 hkm ann c _ _ _) r) h1) hkm,h2⟩
 | .rangeFunc ..,p,fr,h,r,he=>by rw [exec] at he;cases he;all_goals (intros;simp_all)
 | .exit id,p,fr,h,r,he=>by rw [exec] at he ⊢;exact he
 | .scope c,p,fr,h,r,he=>by rw [exec] at he;cases he;all_goals (intros;simp_all)
 | .label l,p,fr,h,r,he=>by rw [exec] at he ⊢;exact he
 | .goto l,p,fr,h,r,he=>by rw [exec] at he;cases he;all_goals (intros;simp_all)
 | .ret,p,fr,h,r,he=>by rw [exec] at he ⊢;exact he
 | .refuse w,p,fr,h,r,he=>by rw [exec] at he;cases he;all_goals (intros;simp_all)
theorem M3 {F:List AV→Heap→OutV}{G:Nat→List AV→Heap→OutV}(hG:∀ k m vs h r,k≤m→G k vs h=some r→G m vs h=some r)(hs:∀ vs h r,F vs h=some r→∃ k,G k vs h=some r) :
  ∀ {n:Nat} {vs:List AV} {h:Heap} {r:Ex × List AV × Heap},iter n F vs h=some r→∃ k,iter k (G k) vs h=some r
 | 0,_,_,_,he=>by simp [iter] at he
 | n+1,vs,h,r,he=>by
  rw [iter] at he
  simp only [Option.bind_eq_some_iff] at he
  obtain⟨⟨e,vs',h'⟩,h1,h2⟩:=he
  obtain⟨k,hk⟩:=hs _ _ _ h1
  have stop:e≠.normal→some (e,vs',h')=some r→∃ k,iter k (G k) vs h=some r:=by
   intro hne hr
   refine⟨k+1,?_⟩
   rw [iter,hG k (k+1) _ _ _ (by omega) hk,Option.bind_some]
   cases e
   ·exact absurd rfl hne
   ·exact hr
   ·exact hr
  cases e
  ·obtain⟨k',hk'⟩:=M3 hG hs (show iter n F vs' h'=some r from h2)
   refine⟨k+k'+1,?_⟩
   rw [iter,hG k (k+k'+1) _ _ _ (by omega) hk,Option.bind_some]
   exact NB (Ln (fun vs h r=>hG k' (k+k'+1) vs h r (by omega)) hk') (by omega)
  ·exact stop (by simp) h2
  ·exact stop (by simp) h2
theorem FA (ann:Nat→List Nat):∀ (c:Code) (p:Nat) (fr:Fr) (h:Heap) (r:Ex × Fr × Heap),execW P call ann p c fr h=some r→∃ k,exec P call k ann p c fr h=some r
 | .skip,p,fr,h,r,he=>⟨0,by rw [execW] at he;rw [exec];exact he⟩
 | .region ..,p,fr,h,r,he=>⟨0,by rw [execW] at he;rw [exec];exact he⟩
 | .seq a b,p,fr,h,r,he=>by
  rw [execW] at he
  simp only [Option.bind_eq_some_iff] at he
  obtain⟨⟨e,fr',h'⟩,h1,h2⟩:=he
  obtain⟨k,hk⟩:=FA ann a _ _ _ _ h1
  cases e
  ·obtain⟨k',hk'⟩:=FA ann b _ _ _ _ h2
   refine⟨k+k',?_⟩
   rw [exec]
   simp only [Option.bind_eq_some_iff]
   exact⟨_,E0 P call (by omega) ann a _ _ _ _ hk,E0 P call (by omega) ann b _ _ _ _ hk'⟩
  ·refine⟨k,?_⟩
   rw [exec]
   simp only [Option.bind_eq_some_iff]
   exact⟨_,hk,h2⟩
  ·refine⟨k,?_⟩
   rw [exec]
   simp only [Option.bind_eq_some_iff]
   exact⟨_,hk,h2⟩
 | .cond c a b,p,fr,h,r,he=>by
  rw [execW] at he
  simp only [Option.bind_eq_some_iff] at he
  obtain⟨cv,h1,t,h2,v,h3,h4⟩:=he
  have key:∃ k,outOf (ann p) (if t then exec P call k ann (2*p) a fr h else exec P call k ann (2*p+1) b fr h)=some v:=by
   unfold outOf at h3 ⊢
   simp only [Option.map_eq_some_iff] at h3 ⊢
   obtain⟨x,hx,hy⟩:=h3
   cases t
   ·obtain⟨k,hk⟩:=FA ann b _ _ _ _ hx;exact⟨k,x,hk,hy⟩
   ·obtain⟨k,hk⟩:=FA ann a _ _ _ _ hx;exact⟨k,x,hk,hy⟩
  obtain⟨k,hk⟩:=key
  refine⟨k,?_⟩
  rw [exec]
  simp only [Option.bind_eq_some_iff]
  exact⟨cv,h1,t,h2,v,hk,h4⟩
 | .block id c,p,fr,h,r,he=>by
  rw [execW] at he
  simp only [Option.bind_eq_some_iff] at he
  obtain⟨v,h1,h2⟩:=he
  obtain⟨k,hk⟩:=FA ann c _ _ _ _ h1
  refine⟨k,?_⟩
  rw [exec]
  simp only [Option.bind_eq_some_iff]
  exact⟨v,hk,h2⟩
 | .loop c,p,fr,h,r,he=>by
  rw [execW] at he
  simp only [Option.bind_eq_some_iff] at he
  obtain⟨v,h1,h2⟩:=he
  obtain⟨n,hn⟩:∃ n,iter n _ _ _=some v:=⟨_,h1⟩
  obtain⟨k,hk⟩:=M3 (G:=fun k vals h=>outOf (ann p) (exec P call k ann (2*p) c (rebuild (ann p) (writes c) vals 0 fr) h))
   (fun k m vs h r hkm=>Hz (E0 P call hkm ann c _ _ _) r) (fun vs h r hr=>by
    unfold outOf at hr
    simp only [Option.map_eq_some_iff] at hr
    obtain⟨x,hx,hy⟩:=hr
    obtain⟨k,hk⟩:=FA ann c _ _ _ _ hx
    exact⟨k,by unfold outOf;rw [hk];exact congrArg some hy⟩) hn
  refine⟨k,?_⟩
  rw [exec]
  simp only [Option.bind_eq_some_iff]
  exact⟨v,hk,h2⟩
 | .rangeFunc ..,p,fr,h,r,he=>by rw [execW] at he;cases he;all_goals (intros;simp_all)
 | .exit id,p,fr,h,r,he=>⟨0,by rw [execW] at he;rw [exec];exact he⟩
 | .scope c,p,fr,h,r,he=>by rw [execW] at he;cases he;all_goals (intros;simp_all)
 | .label l,p,fr,h,r,he=>⟨0,by rw [execW] at he;rw [exec];exact he⟩
 | .goto l,p,fr,h,r,he=>by rw [execW] at he;cases he;all_goals (intros;simp_all)
 | .ret,p,fr,h,r,he=>⟨0,by rw [execW] at he;rw [exec];exact he⟩
 | .refuse w,p,fr,h,r,he=>by rw [execW] at he;cases he;all_goals (intros;simp_all)
def resK {R:Type}(fr:Fr)(h:Heap)(l:List ResultVar):(List AV→Option R)→Option R:=
 List.rec (motive:=fun _=>(List AV→Option R)→Option R) (fun K=>K []) (fun r _ ih K=>(resultA P fr h r).bind fun v=>ih fun vs=>K (v::vs)) l
theorem M9 {R:Type}(fr:Fr)(h:Heap):∀ (l:List ResultVar) (K:List AV→Option R),resK P fr h l K=(resultsA P fr h l).bind K
 | [],K=>rfl
 | r::l,K=>by
  show(resultA P fr h r).bind (fun v=>resK P fr h l fun vs=>K (v::vs))=_
  rw [resultsA]
  simp only [M9 fr h l,Option.bind_assoc,Option.bind_map,Function.comp_def]
def endK (fn:Func)(e:Ex)(fr:Fr)(h:Heap):Option (AV × Heap):=endE e (resK P fr h fn.results.toList fun l=>some (oneA l,h))
def bodyK (ann:FuncId→Nat→List Nat)(f:FuncId)(args:List AV)(h:Heap):Option (AV × Heap):=
 match P.funcs[f]? with
 | none=>none
 | some fn=>
  match fn.body with
  | none=>none
  | some c=>execK P call (ann f) c 1 (args++List.replicate (fn.ntmps-args.length) .bot) h (endK P fn)
theorem OO {ann:FuncId→Nat→List Nat}{f:FuncId}{args:List AV}{h:Heap}{r:AV × Heap}(hb:bodyK P call ann f args h=some r):∃ k,bodyA P call k ann f args h=some r:=by
 have hb:∃ fn,P.funcs[f]?=some fn∧∃ c,fn.body=some c∧execK P call (ann f) c 1 (args++List.replicate (fn.ntmps-args.length) .bot) h (endK P fn)=some r:=by
  unfold bodyK at hb
  split at hb
  ·cases hb
  ·rename_i fn hfn
   split at hb
   ·cases hb
   ·rename_i c hc
    exact⟨fn,hfn,c,hc,hb⟩
 obtain⟨fn,hfn,c,hc,hb⟩:=hb
 rw [HI] at hb
 simp only [Option.bind_eq_some_iff] at hb
 obtain⟨⟨e,fr,h'⟩,hx,hb⟩:=hb
 obtain⟨k,hk⟩:=FA P call (ann f) c _ _ _ _ hx
 refine⟨k,?_⟩
 unfold bodyA
 simp only [Option.bind_eq_some_iff]
 refine⟨fn,hfn,c,hc,_,hk,?_⟩
 unfold endK endE at hb
 cases e
 ·simp only [M9] at hb
  simp only [Option.bind_eq_some_iff] at hb
  obtain⟨l,hl,hb⟩:=hb
  simp only [hl,Option.map_some];exact hb
 ·cases hb
 ·simp only [M9] at hb
  simp only [Option.bind_eq_some_iff] at hb
  obtain⟨l,hl,hb⟩:=hb
  simp only [hl,Option.map_some];exact hb
end
section
variable {P:Program}{call:CallF}
theorem NP (hG:Good P)(hm:P.follows .mixedOrders=true)(hcall:CallOk P call){k:Nat}{ann:FuncId→Nat→List Nat}{f:FuncId}{args:List AV}{h:Heap}{v:AV}{h':Heap}(hc:bodyA P call k ann f args h=some (v,h')) :
  (∃ fn:Func,P.funcs[f]?=some fn∧fn.body.isSome=true)∧
  ∀ ρ w (args':Array Value),R P ρ h w→VRL ρ args args'.toList→Calls P f args' w fun e w'=>∃ v' ρ',e = .returned v'∧VR ρ' v v'∧Step P ρ h w ρ' h' w':=by
 simp only [bodyA,Option.bind_eq_some_iff] at hc
 obtain⟨fn,hfn,c,hb,⟨e,fr,h₁⟩,hx,hc⟩:=hc
 refine⟨⟨fn,hfn,by rw [hb];rfl⟩,fun ρ w args' hr hargs=>calls_of_wp hfn hb ?_⟩
 have hal:=hargs.length
 have hf:FR ρ (args++List.replicate (fn.ntmps-args.length) .bot) (args'++Array.replicate (fn.ntmps-args'.size) undef):=by
  refine⟨by simp at hal ⊢;omega,fun s=>?_⟩
  simp only [List.getD_eq_getElem?_getD,Array.getD_eq_getD_getElem?]
  by_cases hs:s<args.length
  ·rw [List.getElem?_append_left hs,Array.getElem?_append_left (by simp at hal;omega)]
   obtain⟨u,hu,hv⟩:=hargs.get s args[s] (List.getElem?_eq_getElem hs)
   have:args'[s]?=some u:=by simpa using hu
   simp [List.getElem?_eq_getElem hs,this,hv]
  ·rw [List.getElem?_append_right (by omega)]
   have:((List.replicate (fn.ntmps-args.length) AV.bot)[s-args.length]?).getD .bot = .bot:=by
    rw [List.getElem?_replicate];split<;>rfl
   rw [this];simp only [VR]
 have fin:∀ ρ' w' (a':Act),Step P ρ h w ρ' h₁ w'→FR ρ' fr a'.tmps→a'.defers = []→(resultsA P fr h₁ fn.results.toList).map (fun l=>(oneA l,h₁))=some (v,h')→
   a'.defers = []∧∃ v',(results fn a'.tmps).run P w' = .ok v' w'∧∃ v'' ρ'',Ending.returned v' = .returned v''∧VR ρ'' v v''∧Step P ρ h w ρ'' h' w':=by
  intro ρ' w' a' hst hf' hd hres
  simp only [Option.map_eq_some_iff] at hres
  obtain⟨l,hl,he⟩:=hres
  cases he
  obtain⟨vs,h1,h2⟩:=II hst.rel hf' hl
  refine⟨hd,_,?_,_,ρ',rfl,N9 h2,hst⟩
  simp only [results,Sem.run_bind,Array.mapM_eq_mapM_toList,Sem.run_map]
  exact(congrArg (fun r:Result (List Value)=>(r.andThen fun a w'=>Result.ok a.toArray w').andThen fun a w'=>(pure (if h:a.size=1 then a[0] else .tuple a):Sem Value).run P w') h1).trans rfl
 refine FC hG hm hcall hx hr hf fun ρ' w' a' hst hf' hd=>?_
 cases e with
 | normal=>exact fin ρ' w' a' hst hf' hd hc
 | exit id=>simp at hc
 | ret=>exact fin ρ' w' a' hst hf' hd hc
abbrev Prim:=List AV→Heap→Option (AV × Heap)
abbrev Tab:=List (FuncId × Prim)
abbrev lookT (L:Tab):CallF:=List.rec (motive:=fun _=>CallF) (fun _ _ _=>none) (fun e _ ih f args h=>bif Nat.beq e.1 f then e.2 args h else ih f args h) L
theorem Pn:CallOk P (lookT []):=fun f args h v h' hc=>by cases hc
theorem Ag (hG:Good P)(hm:P.follows .mixedOrders=true){L:Tab}(hL:CallOk P (lookT L)){f:FuncId}{g:Prim}{ann:FuncId→Nat→List Nat}
  (hg:∀ args h r,g args h=some r→bodyK P (lookT L) ann f args h=some r):CallOk P (lookT ((f,g)::L)):=by
 intro f' args h v h' hc
 change (bif Nat.beq f f' then g args h else lookT L f' args h)=some (v,h') at hc
 by_cases hf:Nat.beq f f'=true
 ·rw [hf,cond_true] at hc
  have hf:f=f':=Nat.eq_of_beq_eq_true hf
  subst hf
  obtain⟨k,hk⟩:=OO P (lookT L) (hg _ _ _ hc)
  exact NP hG hm hL hk
 ·rw [Bool.not_eq_true] at hf
  rw [hf,cond_false] at hc
  exact hL f' args h v h' hc
abbrev p0 (F:Heap→Option (AV × Heap)):Prim | [],h=>F h | _,_=>none
abbrev p1 (F:AV→Heap→Option (AV × Heap)):Prim | [a],h=>F a h | _,_=>none
abbrev p2 (F:AV→AV→Heap→Option (AV × Heap)):Prim | [a,b],h=>F a b h | _,_=>none
abbrev p3 (F:AV→AV→AV→Heap→Option (AV × Heap)):Prim | [a,b,c],h=>F a b c h | _,_=>none
abbrev p4 (F:AV→AV→AV→AV→Heap→Option (AV × Heap)):Prim | [a,b,c,d],h=>F a b c d h | _,_=>none
abbrev p5 (F:AV→AV→AV→AV→AV→Heap→Option (AV × Heap)):Prim | [a,b,c,d,e],h=>F a b c d e h | _,_=>none
variable {B:Prim}
theorem Sm {F}(hF:∀ h,F h=B [] h):∀ args h r,p0 F args h=some r→B args h=some r:=by
 intro args h r hr;unfold p0 at hr;split at hr
 ·rw [← hF];exact hr
 ·cases hr
theorem C0 {F}(hF:∀ a h,F a h=B [a] h):∀ args h r,p1 F args h=some r→B args h=some r:=by
 intro args h r hr;unfold p1 at hr;split at hr
 ·rw [← hF];exact hr
 ·cases hr
theorem Cz {F}(hF:∀ a b h,F a b h=B [a,b] h):∀ args h r,p2 F args h=some r→B args h=some r:=by
 intro args h r hr;unfold p2 at hr;split at hr
 ·rw [← hF];exact hr
 ·cases hr
theorem KY {F}(hF:∀ a b c h,F a b c h=B [a,b,c] h):∀ args h r,p3 F args h=some r→B args h=some r:=by
 intro args h r hr;unfold p3 at hr;split at hr
 ·rw [← hF];exact hr
 ·cases hr
theorem Sx {F}(hF:∀ a b c d h,F a b c d h=B [a,b,c,d] h):∀ args h r,p4 F args h=some r→B args h=some r:=by
 intro args h r hr;unfold p4 at hr;split at hr
 ·rw [← hF];exact hr
 ·cases hr
theorem TM {F}(hF:∀ a b c d e h,F a b c d e h=B [a,b,c,d,e] h):∀ args h r,p5 F args h=some r→B args h=some r:=by
 intro args h r hr;unfold p5 at hr;split at hr
 ·rw [← hF];exact hr
 ·cases hr
end
end
end Go.Ab
