import Derived.Test.YtdmgkkcjnmmfmaaGreatAb8
namespace Go.Ab
open Go
set_option linter.all false
section
variable {P:Program}{ρ:Rho}{fr:Fr}{a:Act}{h:Heap}{w:World}
theorem GD (hr:R P ρ h w){i:Nat}{es es':List (AV × AV)}(hb:h.get i=some (.mp es)){β b c:Nat}(hρ:ρ i=some (β,b,c)){ents ents':Array MapEntry}{clock clock':Nat}(hw:w.heap[β]?=some (.map ents clock))(he:ER ρ es' ents'.toList)(hbo:Born ents' clock') :
  Step P ρ h w ρ (h.put i (some (.mp es'))) { w with heap:=w.heap.setIfInBounds β (.map ents' clock') }:=by
 obtain⟨h1,h2⟩:=MapKept.heap_set (o':=.map ents' clock') hw
 exact Step.put (w':={ w with heap:=w.heap.setIfInBounds β (.map ents' clock') }) (b':=.mp es') hr hb rfl hρ (fun γ hγ=>h2 γ hγ) (by simp) rfl rfl rfl ⟨β,b,c,ents',clock',hρ,h1,he,hbo⟩
theorem ER.append {ρ:Rho}:∀ {es fs:List (AV × AV)} {l m:List MapEntry},ER ρ es l→ER ρ fs m→ER ρ (es++fs) (l++m)
 | [],fs,l,m,h,h'=>by simp only [ER] at h;subst h;exact h'
 | e::es,fs,l,m,h,h'=>by obtain⟨x,xs,rfl,h1,h2,h3⟩:=h;exact⟨x,xs++m,rfl,h1,h2,h3.append h'⟩
theorem Jf {d:TypeDesc}{k v:AV}{k' v':Value}(hk:VR ρ k k')(hv:VR ρ v v'):∀ {es es':List (AV × AV)} {l:List MapEntry},putMap d k v es=some es'→ER ρ es l→∀ i clock,
  (Instr.findNow d k' l i=some none∧ER ρ es' (l ++ [{ key:=k',val:=v',born:=clock }]))∨
  ∃ j u,Instr.findNow d k' l i=some (some (i+j,u))∧(∃ e,l[j]?=some e∧Instr.sameNow d k' e.key=some true)∧ER ρ es' (l.modify j fun e=>{ e with key:=k',val:=v' })
 | [],es',l,h,he,i,clock=>by
  simp only [ER] at he;subst he
  simp only [putMap,Option.some.injEq] at h;subst h
  exact .inl ⟨rfl,⟨_,[],rfl,hk,hv,rfl⟩⟩
 | (x,y)::es,es',l,h,he,i,clock=>by
  simp only [ER] at he
  obtain⟨e,l',rfl,h1,h2,h3⟩:=he
  simp only [putMap,Option.bind_eq_some_iff] at h
  obtain⟨b,hb,h⟩:=h
  have hn:=NS hb hk h1
  cases b
  ·simp only [Bool.false_eq_true,if_false,Option.map_eq_some_iff] at h
   obtain⟨m,hm,rfl⟩:=h
   rcases Jf hk hv hm h3 (i+1) clock with⟨g1,g2⟩ | ⟨j,u,g1,⟨e',g2,g3⟩,g4⟩
   ·exact .inl ⟨by simp [Instr.findNow,hn,g1],⟨e,_,rfl,h1,h2,g2⟩⟩
   ·exact .inr ⟨j+1,u,by simp [Instr.findNow,hn,g1];omega,⟨e',by simpa using g2,g3⟩,by simp only [List.modify_succ_cons];exact⟨e,_,rfl,h1,h2,g4⟩⟩
  ·simp only [if_true,Option.some.injEq] at h
   subst h
   exact .inr ⟨0,e.val,by simp [Instr.findNow,hn],⟨e,rfl,hn⟩,by simp only [List.modify_zero_cons];exact⟨_,l',rfl,hk,hv,h3⟩⟩
theorem JU {d:TypeDesc}{k:AV}{k':Value}(hk:VR ρ k k'):∀ {es es':List (AV × AV)} {l:List MapEntry},delMap d k es=some es'→ER ρ es l→∀ i,
  (Instr.findNow d k' l i=some none∧ER ρ es' l)∨∃ j u,Instr.findNow d k' l i=some (some (i+j,u))∧j<l.length∧ER ρ es' (l.eraseIdx j)
 | [],es',l,h,he,i=>by
  simp only [ER] at he;subst he
  simp only [delMap,Option.some.injEq] at h;subst h
  exact .inl ⟨rfl,rfl⟩
 | (x,y)::es,es',l,h,he,i=>by
  simp only [ER] at he
  obtain⟨e,l',rfl,h1,h2,h3⟩:=he
  simp only [delMap,Option.bind_eq_some_iff] at h
  obtain⟨b,hb,h⟩:=h
  have hn:=NS hb hk h1
  cases b
  ·simp only [Bool.false_eq_true,if_false,Option.map_eq_some_iff] at h
   obtain⟨m,hm,rfl⟩:=h
   rcases JU hk hm h3 (i+1) with⟨g1,g2⟩ | ⟨j,u,g1,g2,g3⟩
   ·exact .inl ⟨by simp [Instr.findNow,hn,g1],⟨e,_,rfl,h1,h2,g2⟩⟩
   ·exact .inr ⟨j+1,u,by simp [Instr.findNow,hn,g1];omega,by simp;omega,by simp only [List.eraseIdx_cons_succ];exact⟨e,_,rfl,h1,h2,g3⟩⟩
  ·simp only [if_true,Option.some.injEq] at h
   subst h
   exact .inr ⟨0,e.val,by simp [Instr.findNow,hn],by simp,by simpa using h3⟩
theorem Lr {d:TypeDesc}{k x:Value}(hk:MapKept.IsKey d k)(h:Instr.sameNow d k x=some true):x=k:=by
 cases d<;>cases k<;>simp only [MapKept.IsKey] at hk<;>cases x<;>simp [Instr.sameNow] at h
 ·exact congrArg Value.bool h.symm
 ·obtain⟨rfl,rfl⟩:=h;rfl
 ·rename_i s s'
  have:s.toList=s'.toList:=by simpa [beq_toListBytes] using h
  rw [ByteArray.toList_eq,ByteArray.toList_eq] at this
  have:s=s':=by
   obtain⟨⟨l⟩⟩:=s
   obtain⟨⟨m⟩⟩:=s'
   simpa using this
  rw [this]
theorem LF {t:TypeId}{k v:AV}{k' v':Value}(hk:VR ρ k k')(hv:VR ρ v v')(w:World):∀ {es es':List (AV × AV)} {l:List MapEntry},putG (eqS P t) k v es=some es'→ER ρ es l→∀ i clock,
  ((Instr.findAsking t k' l i).run P w = .ok none w∧ER ρ es' (l ++ [{ key:=k',val:=v',born:=clock }]))∨
  ∃ j u,(Instr.findAsking t k' l i).run P w = .ok (some (i+j,u)) w∧(∃ e,l[j]?=some e∧VR ρ k e.key)∧ER ρ es' (l.modify j fun e=>{ e with key:=k',val:=v' })
 | [],es',l,h,he,i,clock=>by
  simp only [ER] at he;subst he
  simp only [putG,Option.some.injEq] at h;subst h
  exact .inl ⟨by simp [Instr.findAsking],⟨_,[],rfl,hk,hv,rfl⟩⟩
 | (x,y)::es,es',l,h,he,i,clock=>by
  simp only [ER] at he
  obtain⟨e,l',rfl,h1,h2,h3⟩:=he
  simp only [putG,Option.bind_eq_some_iff] at h
  obtain⟨b,hb,h⟩:=h
  obtain⟨hn,hsame⟩:=J1 hb hk h1 w
  cases b
  ·simp only [Bool.false_eq_true,if_false,Option.map_eq_some_iff] at h
   obtain⟨m,hm,rfl⟩:=h
   rcases LF hk hv w hm h3 (i+1) clock with⟨g1,g2⟩ | ⟨j,u,g1,⟨e',g2,g3⟩,g4⟩
   ·exact .inl ⟨by simp [Instr.findAsking,hn,g1],⟨e,_,rfl,h1,h2,g2⟩⟩
   ·exact .inr ⟨j+1,u,by simp [Instr.findAsking,hn,g1];omega,⟨e',by simpa using g2,g3⟩,by simp only [List.modify_succ_cons];exact⟨e,_,rfl,h1,h2,g4⟩⟩
  ·simp only [if_true,Option.some.injEq] at h
   subst h
   exact .inr ⟨0,e.val,by simp [Instr.findAsking,hn],⟨e,rfl,hsame rfl ▸ h1⟩,by simp only [List.modify_zero_cons];exact⟨_,l',rfl,hk,hv,h3⟩⟩
theorem K6 {t:TypeId}{k:AV}{k':Value}(hk:VR ρ k k')(w:World):∀ {es es':List (AV × AV)} {l:List MapEntry},delG (eqS P t) k es=some es'→ER ρ es l→∀ i,
  ((Instr.findAsking t k' l i).run P w = .ok none w∧ER ρ es' l)∨∃ j u,(Instr.findAsking t k' l i).run P w = .ok (some (i+j,u)) w∧j<l.length∧ER ρ es' (l.eraseIdx j)
 | [],es',l,h,he,i=>by
  simp only [ER] at he;subst he
  simp only [delG,Option.some.injEq] at h;subst h
  exact .inl ⟨by simp [Instr.findAsking],rfl⟩
 | (x,y)::es,es',l,h,he,i=>by
  simp only [ER] at he
  obtain⟨e,l',rfl,h1,h2,h3⟩:=he
  simp only [delG,Option.bind_eq_some_iff] at h
  obtain⟨b,hb,h⟩:=h
  have hn:=(J1 hb hk h1 w).1
  cases b
  ·simp only [Bool.false_eq_true,if_false,Option.map_eq_some_iff] at h
   obtain⟨m,hm,rfl⟩:=h
   rcases K6 hk w hm h3 (i+1) with⟨g1,g2⟩ | ⟨j,u,g1,g2,g3⟩
   ·exact .inl ⟨by simp [Instr.findAsking,hn,g1],⟨e,_,rfl,h1,h2,g2⟩⟩
   ·exact .inr ⟨j+1,u,by simp [Instr.findAsking,hn,g1];omega,by simp;omega,by simp only [List.eraseIdx_cons_succ];exact⟨e,_,rfl,h1,h2,g3⟩⟩
  ·simp only [if_true,Option.some.injEq] at h
   subst h
   exact .inr ⟨0,e.val,by simp [Instr.findAsking,hn],by simp,by simpa using h3⟩
theorem ON {t:TypeId}{k v:AV}{k' v':Value}(hk:VR ρ k k')(hv:VR ρ v v')(w:World){es es':List (AV × AV)}{l:List MapEntry}(h:putK P t k v es=some es')(he:ER ρ es l)(clock:Nat) :
  (∀ e,(Instr.checkKey e 10000 t k').run P w = .ok () w)∧
  (((Instr.findKey t k' l).run P w = .ok none w∧ER ρ es' (l ++ [{ key:=k',val:=v',born:=clock }]))∨
  ∃ j u,(Instr.findKey t k' l).run P w = .ok (some (j,u)) w∧(∃ e,l[j]?=some e∧(Instr.keyThatStays e.key k').run P w = .ok k' w)∧ER ρ es' (l.modify j fun e=>{ e with key:=k',val:=v' })):=by
 unfold putK at h
 split at h
 ·rename_i d hd
  simp only [Option.bind_eq_some_iff] at h
  obtain⟨u,hkind,h⟩:=h
  have hkey:=IZ hkind hk
  have hkt:=JL hd
  refine⟨fun e=>MapKept.run_checkKey hkt hkey _ 9999,?_⟩
  rcases Jf hk hv h he 0 clock with⟨g1,g2⟩ | ⟨j,u,g1,⟨e',g2,g3⟩,g4⟩
  ·exact .inl ⟨MapKept.run_findKey hkt g1,g2⟩
  ·have hkk:=Lr hkey g3
   refine .inr ⟨j,u,by rw [MapKept.run_findKey hkt g1,Nat.zero_add],⟨e',g2,?_⟩,g4⟩
   rw [hkk];exact MapKept.run_keyThatStays (P:=P) (w:=w) hkey
 ·split at h
  ·rename_i hs
   obtain⟨fs,cs,hu,rfl,hf,hm⟩:=Ik hs
   refine⟨fun e=>HF hs hk e w,?_⟩
   rcases LF hk hv w h he 0 clock with⟨g1,g2⟩ | ⟨j,u,g1,⟨e',g2,g3⟩,g4⟩
   ·exact .inl ⟨by rw [Ea hu];exact g1,g2⟩
   ·refine .inr ⟨j,u,by rw [Ea hu,g1,Nat.zero_add],⟨e',g2,?_⟩,g4⟩
    simp only [VR] at g3 hk
    obtain⟨xs,e1,hx⟩:=g3
    obtain⟨ys,rfl,hy⟩:=hk
    have e2:xs=ys:=Array.ext' (Mf hf hx hy)
    rw [e1,e2]
    have hb:Instr.sameBits 10000 (.agg ys) (.agg ys)=true:=by
     show Instr.sameBits (9999+1) (.agg ys) (.agg ys)=true
     simp only [Instr.sameBits,beq_self_eq_true,Bool.true_and]
     exact Ja hf hy 9999
    simp [Instr.keyThatStays,hb]
  ·cases h
theorem OT {t:TypeId}{k:AV}{k':Value}(hk:VR ρ k k')(w:World){es es':List (AV × AV)}{l:List MapEntry}(h:delK P t k es=some es')(he:ER ρ es l) :
  (∀ e,(Instr.checkKey e 10000 t k').run P w = .ok () w)∧
  (((Instr.findKey t k' l).run P w = .ok none w∧ER ρ es' l)∨∃ j u,(Instr.findKey t k' l).run P w = .ok (some (j,u)) w∧j<l.length∧ER ρ es' (l.eraseIdx j)):=by
 unfold delK at h
 split at h
 ·rename_i d hd
  simp only [Option.bind_eq_some_iff] at h
  obtain⟨u,hkind,h⟩:=h
  have hkey:=IZ hkind hk
  have hkt:=JL hd
  refine⟨fun e=>MapKept.run_checkKey hkt hkey _ 9999,?_⟩
  rcases JU hk h he 0 with⟨g1,g2⟩ | ⟨j,u,g1,g2,g3⟩
  ·exact .inl ⟨MapKept.run_findKey hkt g1,g2⟩
  ·exact .inr ⟨j,u,by rw [MapKept.run_findKey hkt g1,Nat.zero_add],g2,g3⟩
 ·split at h
  ·rename_i hs
   obtain⟨fs,cs,hu,rfl,hf,hm⟩:=Ik hs
   refine⟨fun e=>HF hs hk e w,?_⟩
   rcases K6 hk w h he 0 with⟨g1,g2⟩ | ⟨j,u,g1,g2,g3⟩
   ·exact .inl ⟨by rw [Ea hu];exact g1,g2⟩
   ·exact .inr ⟨j,u,by rw [Ea hu,g1,Nat.zero_add],g2,g3⟩
  ·cases h
theorem OX (hr:R P ρ h w)(hf:FR ρ fr a.tmps){o:Oper}{v:AV}{h':Heap}(he:effA P o fr h=some (v,h')) :
  ∃ w' ρ',((∃ v',(execOp a.eval o).run P w = .ok (.value v') w'∧VR ρ' v v')∨((execOp a.eval o).run P w = .ok .skip w'∧v = .bot))∧Step P ρ h w ρ' h' w':=by
 have hg:=hr.glob
 obtain⟨dst,op,type,pos,after,guard⟩:=o
 unfold effA at he
 split at he
 case h_1 t x y ho=>
  simp only at ho;subst ho
  simp only [Option.bind_eq_some_iff] at he
  obtain⟨u,hu,z,hz,n,hn,he⟩:=he
  split at he
  ·cases he
  ·rename_i hlen
   have hlen:z.cells.length=n:=by simpa using hlen
   split at he
   ·rename_i p
    simp only [Option.map_eq_some_iff] at he
    obtain⟨h₁,hst,e⟩:=he
    cases e
    have hsc:z.cells.all scalar=true:=by
     unfold storeN at hst
     split at hst
     ·assumption
     ·cases hst
    have hz':=(BQ hg hf hz).cells hsc
    have hu':=BQ hg hf hu
    simp only [VR] at hu'
    obtain⟨β,b,c,hρ,e⟩:=hu'
    obtain⟨w',r1,r2⟩:=FQ (P:=P) hr hst hρ hz'
    have hsize:(a.eval y).cells.size=n:=by have:=hz'.length;simp at this;omega
    refine⟨w',ρ,.inr ⟨?_,rfl⟩,r2⟩
    have hsv:(storeVar t ⟨β,b+p.2,none⟩ (a.eval y)).run P w = .ok () w':=by
     simp only [storeVar,Sem.run_bind,DU hn,Result.andThen_ok,hsize,ne_eq,not_true_eq_false,if_false,Sem.run_pure]
     exact r1
    simp [execOp,Instr.storeAt,e,Instr.sureAddr,hsv]
   ·cases he
 case h_2 args ts ho=>
  simp only at ho;subst ho
  simp only [Option.bind_eq_some_iff] at he
  obtain⟨t,ht,u,hu,l,hl,e,hel,n,hn,by_,hby,z,hz,he⟩:=he
  split at he
  ·cases he
  ·rename_i hno
   simp only [not_or,Decidable.not_not] at hno
   have hl':=EE hg hf hl
   split at he
   ·cases he
   ·rename_i du s x hni hdu
    obtain⟨s',x',e1,hs,hx⟩:=hl'.two
    obtain⟨v',w',ρ',r1,r2,r3⟩:=Lb (P:=P) (ty:=type) hr ht hu (HJ hel) hdu hni hn hby hz hno.1 hno.2.1 hno.2.2 he hs hx
    refine⟨w',ρ',.inl ⟨v',?_,r3⟩,r2⟩
    simp only [execOp,resolve,invoke,builtin,Sem.run_bind,Sem.run_pure,Result.andThen_ok,HM e1,r1]
   ·cases he
 case h_3 args ts ho=>
  simp only at ho;subst ho
  simp only [Option.bind_eq_some_iff] at he
  obtain⟨t,ht,l,hl,he⟩:=he
  have hl':=EE hg hf hl
  split at he
  ·rename_i kt e hd
   cases he
   obtain⟨x',e1,hx⟩:=hl'.one
   simp only [VR] at hx;subst hx
   refine⟨w,ρ,.inl ⟨.tuple #[],?_,by simp only [VR];exact⟨_,rfl,VRL.nil⟩⟩,Step.refl hr⟩
   simp only [execOp,resolve,invoke,builtin,Sem.run_bind,Sem.run_pure,Result.andThen_ok,Iw e1,Builtin.clear_,ht]
   simp [run_underlying hd]
  ·rename_i kt e i hd
   split at he
   ·rename_i es hb
    cases he
    obtain⟨x',e1,hx⟩:=hl'.one
    simp only [VR] at hx
    obtain⟨β,b,c,hρ,rfl⟩:=hx
    obtain⟨ents,clock,m1,m2,m3⟩:=hr.map' hb hρ
    refine⟨_,ρ,.inl ⟨.tuple #[],?_,by simp only [VR];exact⟨_,rfl,VRL.nil⟩⟩,GD (ents':=#[]) (clock':=clock) hr hb hρ m1 rfl (Born.nil _)⟩
    simp only [execOp,resolve,invoke,builtin,Sem.run_bind,Sem.run_pure,Result.andThen_ok,Iw e1,Builtin.clear_,ht]
    simp [run_underlying hd,MapKept.run_getObj_map m1,MapKept.run_setObj_map _ m1]
   ·cases he
  ·rename_i e n c hd
   cases he
   obtain⟨x',e1,hx⟩:=hl'.one
   simp only [VR] at hx
   obtain⟨_,_,rfl⟩:=hx
   refine⟨w,ρ,.inl ⟨.tuple #[],?_,by simp only [VR];exact⟨_,rfl,VRL.nil⟩⟩,Step.refl hr⟩
   simp only [execOp,resolve,invoke,builtin,Sem.run_bind,Sem.run_pure,Result.andThen_ok,Iw e1,Builtin.clear_,ht]
   simp [run_underlying hd]
  ·rename_i e p n c hd
   obtain⟨x',e1,hx⟩:=hl'.one
   split at he
   ·rename_i hn0
    subst hn0
    cases he
    have hform:∃ ad cap,x' = .slice ad 0 cap:=by
     cases c with
     | ex c=>simp only [VR] at hx;obtain⟨_,_,_,_,e⟩:=hx;exact⟨_,_,e⟩
     | un c=>simp only [VR] at hx;obtain⟨_,_,_,_,_,_,e,_⟩:=hx;exact⟨_,_,e⟩
    obtain⟨ad,cap,rfl⟩:=hform
    refine⟨w,ρ,.inl ⟨.tuple #[],?_,by simp only [VR];exact⟨_,rfl,VRL.nil⟩⟩,Step.refl hr⟩
    simp only [execOp,resolve,invoke,builtin,Sem.run_bind,Sem.run_pure,Result.andThen_ok,Iw e1,Builtin.clear_,ht]
    cases ad<;>simp [run_underlying hd]
   ·rename_i hn0
    simp only [Option.bind_eq_some_iff] at he
    obtain⟨z,hz,s,hs,he⟩:=he
    split at he
    ·cases he
    ·rename_i hzl
     have hzl:z.cells.length=s:=by simpa using hzl
     simp only [Option.map_eq_some_iff] at he
     obtain⟨h₁,hst,ee⟩:=he
     cases ee
     obtain⟨inf,zv,hinfo,hzero,_,_,hzc⟩:=En (ρ:=ρ) hz
     have hform:∃ β b c' cap,ρ p.1=some (β,b,c')∧x' = .slice (some ⟨β,b+p.2,none⟩) n cap:=by
      cases c with
      | ex cap=>simp only [VR] at hx;obtain⟨β,b,c',hρ,e⟩:=hx;exact⟨β,b,c',cap,hρ,e⟩
      | un sz=>
       simp only [VR] at hx
       obtain⟨β,b,c',cap,ad,hρ,e,hle,_,had⟩:=hx
       obtain rfl:=had.resolve_left (by omega)
       exact⟨β,b,c',cap,hρ,e⟩
     obtain⟨β,b,c',cap,hρ,rfl⟩:=hform
     have hzs:zv.cells.size=z.cells.length:=by have:=hzc.length;simp at this;omega
     obtain⟨w',r1,r2⟩:=FQ (P:=P) hr hst hρ (KM hzc n (n*zv.cells.size) (by rw [hzs]))
     refine⟨w',ρ,.inl ⟨.tuple #[],?_,by simp only [VR];exact⟨_,rfl,VRL.nil⟩⟩,r2⟩
     have hz0:(zeroValue e).run P w = .ok zv w:=by simp [zeroValue,typeInfo,hinfo,hzero]
     have hst':(storeCells ⟨β,b+p.2,none⟩ (Builtin.zeroCells zv.cells n).toList).run P w = .ok () w':=r1
     simp only [execOp,resolve,invoke,builtin,Sem.run_bind,Sem.run_pure,Result.andThen_ok,Iw e1,Builtin.clear_,ht]
     cases n with
     | zero=>exact absurd rfl hn0
     | succ n=>simp [run_underlying hd,hz0,hst']
  ·cases he
 case h_4 args ts ho=>
  simp only at ho;subst ho
  simp only [Option.bind_eq_some_iff] at he
  obtain⟨t,ht,l,hl,e,hel,s,hs,he⟩:=he
  have hl':=EE hg hf hl
  split at he
  ·rename_i base dl c x
   simp only [Option.bind_eq_some_iff] at he
   obtain⟨n,hn,he⟩:=he
   obtain⟨d',x',e1,hd,hx⟩:=hl'.two
   have hlen:(Builtin.lenOf x').run P w = .ok n w:=by
    unfold countA at hn
    split at hn
    ·rename_i p m cc
     cases hn
     cases p with
     | none=>simp only [VR] at hx;obtain⟨rfl,_,rfl⟩:=hx;rfl
     | some p=>cases cc with
      | ex cc=>simp only [VR] at hx;obtain⟨_,_,_,_,rfl⟩:=hx;rfl
      | un cc=>simp only [VR] at hx;obtain⟨_,_,_,_,_,_,rfl,_⟩:=hx;rfl
    ·cases hn;simp only [VR] at hx;subst hx;rfl
    ·cases hn
   have hes:=DU hs w
   have hdu:=run_underlying (HJ hel) w
   by_cases hm0:Nat.min n dl=0
   ·rw [if_pos hm0] at he
    cases he
    have hfc:(Builtin.firstCells s (Nat.min n dl) x').run P w = .ok #[] w:=by
     rw [hm0]
     unfold countA at hn
     split at hn
     ·rename_i p m cc
      cases p with
      | none=>simp only [VR] at hx;obtain⟨_,_,rfl⟩:=hx;simp [Builtin.firstCells]
      | some p=>cases cc with
       | ex cc=>simp only [VR] at hx;obtain⟨_,_,_,_,rfl⟩:=hx;simp [Builtin.firstCells,loadCells,loadCellsFrom]
       | un cc=>simp only [VR] at hx;obtain⟨_,_,_,_,_,_,rfl,_⟩:=hx;simp [Builtin.firstCells,loadCells,loadCellsFrom]
     ·simp only [VR] at hx;subst hx;simp [Builtin.firstCells]
     ·cases hn
    have hform:∃ ad cap,d' = .slice ad dl cap:=by
     cases base with
     | none=>simp only [VR] at hd;obtain⟨rfl,_,rfl⟩:=hd;exact⟨_,_,rfl⟩
     | some p=>cases c with
      | ex c=>simp only [VR] at hd;obtain⟨_,_,_,_,e⟩:=hd;exact⟨_,_,e⟩
      | un c=>simp only [VR] at hd;obtain⟨_,_,_,_,_,_,e,_⟩:=hd;exact⟨_,_,e⟩
    obtain⟨ad,cap,rfl⟩:=hform
    refine⟨w,ρ,.inl ⟨.int .i64 0,?_,by simp only [VR]⟩,Step.refl hr⟩
    have hcp:(Builtin.copy_ ts type #[.slice ad dl cap,x']).run P w = .ok (.int .i64 0) w:=by
     rw [hm0] at hfc
     cases ad<;>simp [Builtin.copy_,ht,hdu,hlen,hes,hfc,goInt,storeCells,hm0]
    simp only [execOp,resolve,invoke,builtin,Sem.run_bind,Sem.run_pure,Result.andThen_ok,HM e1,hcp]
   ·rw [if_neg hm0] at he
    simp only [Option.bind_eq_some_iff] at he
    obtain⟨cs,hcs,he⟩:=he
    have hle1:Nat.min n dl≤n:=Nat.min_le_left _ _
    have hle2:Nat.min n dl≤dl:=Nat.min_le_right _ _
    have hcells:∃ us:Array Value,(Builtin.firstCells s (Nat.min n dl) x').run P w = .ok us w∧VRL ρ cs us.toList:=by
     split at hcs
     ·rename_i p m cc
      simp only [countA,Option.some.injEq] at hn
      subst hn
      cases cc with
      | ex cc=>
       simp only [VR] at hx;obtain⟨β,b,c',hρ,rfl⟩:=hx
       obtain⟨us,u1,u2⟩:=Cr (P:=P) hr hcs hρ
       exact⟨us,by simpa [Builtin.firstCells] using u1,u2⟩
      | un cc=>
       simp only [VR] at hx;obtain⟨β,b,c',cap,ad,hρ,rfl,hle,_,had⟩:=hx
       obtain rfl:=had.resolve_left (by omega)
       obtain⟨us,u1,u2⟩:=Cr (P:=P) hr hcs hρ
       exact⟨us,by simpa [Builtin.firstCells] using u1,u2⟩
     ·rename_i bs
      split at hcs
      ·cases hcs
       simp only [VR] at hx
       subst hx
       refine⟨((ByteArray.mk ⟨bs⟩).extract 0 (Nat.min n dl)).data.map fun b=>.int .u8 b.toNat,by simp [Builtin.firstCells],?_⟩
       rw [Hp]
       simp only [List.drop_zero]
       refine VRL.of_get (by simp) fun k v hk=>?_
       simp only [List.getElem?_map,Option.map_eq_some_iff] at hk
       obtain⟨u,hu,rfl⟩:=hk
       refine⟨.int .u8 u.toNat,?_,by simp only [VR]⟩
       simp only [Array.toList_map,List.getElem?_map,hu,Option.map_some]
      ·cases hcs
     ·cases hcs
    obtain⟨us,u1,u2⟩:=hcells
    split at he
    ·rename_i p
     simp only [Option.map_eq_some_iff] at he
     obtain⟨h₁,hst,ee⟩:=he
     cases ee
     have hform:∃ β b c' cap,ρ p.1=some (β,b,c')∧d' = .slice (some ⟨β,b+p.2,none⟩) dl cap:=by
      cases c with
      | ex cap=>simp only [VR] at hd;obtain⟨β,b,c',hρ,e⟩:=hd;exact⟨β,b,c',cap,hρ,e⟩
      | un sz=>
       simp only [VR] at hd
       obtain⟨β,b,c',cap,ad,hρ,e,hle,_,had⟩:=hd
       obtain rfl:=had.resolve_left (by omega)
       exact⟨β,b,c',cap,hρ,e⟩
     obtain⟨β,b,c',cap,hρ,rfl⟩:=hform
     obtain⟨w',r1,r2⟩:=FQ (P:=P) hr hst hρ u2
     refine⟨w',ρ,.inl ⟨.int .i64 (Nat.min n dl),?_,by simp only [VR]⟩,r2⟩
     have hcp:(Builtin.copy_ ts type #[.slice (some ⟨β,b+p.2,none⟩) dl cap,x']).run P w = .ok (.int .i64 (Nat.min n dl)) w':=by
      simp [Builtin.copy_,ht,hdu,hlen,hes,u1,r1,goInt]
     simp only [execOp,resolve,invoke,builtin,Sem.run_bind,Sem.run_pure,Result.andThen_ok,HM e1,hcp]
    ·cases he
  ·cases he
 case h_5 t m k x ho=>
  simp only at ho;subst ho
  simp only [Option.bind_eq_some_iff] at he
  obtain⟨mv,hmv,kv,hkv,vv,hvv,he⟩:=he
  have hm':=BQ hg hf hmv
  have hk':=BQ hg hf hkv
  have hv':=BQ hg hf hvv
  split at he
  ·rename_i kt et i hd
   split at he
   ·rename_i es hb
    simp only [Option.map_eq_some_iff] at he
    obtain⟨es',hp,ee⟩:=he
    cases ee
    simp only [VR] at hm'
    obtain⟨β,b,c,hρ,em⟩:=hm'
    obtain⟨ents,clock,m1,m2,m3⟩:=hr.map' hb hρ
    obtain⟨hck',hres⟩:=ON hk' hv' w hp m2 clock
    have hck:=hck' false
    rcases hres with⟨g1,g2⟩ | ⟨j,u,g1,⟨e',g2,g3⟩,g4⟩
    ·refine⟨_,ρ,.inr ⟨?_,rfl⟩,GD (ents':=ents.push { key:=a.eval k,val:=a.eval x,born:=clock }) (clock':=clock+1) hr hb hρ m1 (by simpa using g2) (m3.push _ _)⟩
     simp [execOp,Instr.mapUpdate,run_underlying hd,em,MapKept.run_getObj_map m1,hck,g1,MapKept.run_setObj_map _ m1]
    ·have hej:ents[j]?=some e':=by simpa using g2
     refine⟨_,ρ,.inr ⟨?_,rfl⟩,GD (ents':=ents.modify j fun e=>{ e with key:=a.eval k,val:=a.eval x }) (clock':=clock) hr hb hρ m1 (by simpa using g4) (m3.modify _ _ _)⟩
     simp [execOp,Instr.mapUpdate,run_underlying hd,em,MapKept.run_getObj_map m1,hck,g1,hej,g3,MapKept.run_setObj_map _ m1]
   ·cases he
  ·cases he
 case h_6 args ts ho=>
  simp only at ho;subst ho
  simp only [Option.bind_eq_some_iff] at he
  obtain⟨t,ht,l,hl,he⟩:=he
  have hl':=EE hg hf hl
  split at he
  ·rename_i kt et i k hd
   split at he
   ·rename_i es hb
    simp only [Option.map_eq_some_iff] at he
    obtain⟨es',hp,ee⟩:=he
    cases ee
    obtain⟨m',k',e1,hm',hk'⟩:=hl'.two
    simp only [VR] at hm'
    obtain⟨β,b,c,hρ,em⟩:=hm'
    subst em
    obtain⟨ents,clock,m1,m2,m3⟩:=hr.map' hb hρ
    obtain⟨hck',hres⟩:=OT hk' w hp m2
    have hck:=hck' ents.isEmpty
    rcases hres with⟨g1,g2⟩ | ⟨j,u,g1,g2,g3⟩
    ·refine⟨_,ρ,.inl ⟨.tuple #[],?_,by simp only [VR];exact⟨_,rfl,VRL.nil⟩⟩,GD (ents':=ents) (clock':=clock) hr hb hρ m1 g2 m3⟩
     simp only [execOp,resolve,invoke,builtin,Sem.run_bind,Sem.run_pure,Result.andThen_ok,HM e1,Builtin.delete_,ht]
     simp [run_underlying hd,MapKept.run_getObj_map m1,hck,g1,MapKept.run_setObj_map _ m1]
    ·refine⟨_,ρ,.inl ⟨.tuple #[],?_,by simp only [VR];exact⟨_,rfl,VRL.nil⟩⟩,GD (ents':=ents.eraseIdxIfInBounds j) (clock':=clock) hr hb hρ m1 (by
      have hj:j<ents.size:=by simpa using g2
      simp only [Array.eraseIdxIfInBounds,dif_pos hj,Array.toList_eraseIdx]
      exact g3) (m3.erase _)⟩
     simp only [execOp,resolve,invoke,builtin,Sem.run_bind,Sem.run_pure,Result.andThen_ok,HM e1,Builtin.delete_,ht]
     simp [run_underlying hd,MapKept.run_getObj_map m1,hck,g1,MapKept.run_setObj_map _ m1]
   ·cases he
  ·cases he
 case h_7=>cases he
end
end Go.Ab
