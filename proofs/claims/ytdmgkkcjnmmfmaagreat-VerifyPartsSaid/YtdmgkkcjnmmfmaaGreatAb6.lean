import Derived.Test.YtdmgkkcjnmmfmaaGreatAb5
import Derived.MapKept
import Derived.Laws.Cells
import Derived.Laws.MakeOwn
namespace Go.Ab
open Go
set_option linter.all false
section
variable {P:Program}{ρ:Rho}{fr:Fr}{a:Act}{h:Heap}{w:World}
theorem R.cell (hr:R P ρ h w){i:Nat}{wr:Bool}{vs:List AV}(hb:h.get i=some (.cells wr vs)){β b c:Nat}(hρ:ρ i=some (β,b,c)) :
  (∀ k v,vs[k]?=some v→∃ u,w.cell? ⟨β,b+k,none⟩=some u∧VR ρ v u)∧b+vs.length≤c:=by
 obtain⟨β',b',c',cs,e,fz,h1,h2,h3,h4,h5,h6⟩:=hr.blk i _ hb
 rw [hρ] at h1;cases h1
 refine⟨fun k v hk=>?_,h4⟩
 obtain⟨u,hu,hv⟩:=h5 k v hk
 exact⟨u,by simp [World.cell?,h2,hu],hv⟩
theorem Cr (hr:R P ρ h w){p:Nat × Nat}{n:Nat}{l:List AV}(hl:loadN h p n=some l){β b c:Nat}(hρ:ρ p.1=some (β,b,c)) :
  ∃ cs:Array Value,(loadCells ⟨β,b+p.2,none⟩ n).run P w = .ok cs w∧VRL ρ l cs.toList:=by
 unfold loadN at hl
 split at hl
 ·rename_i wr vs hb
  obtain⟨h1,h2,h3⟩:=HA ((Cc _ _ _).symm.trans hl)
  obtain⟨hc,hlen⟩:=hr.cell hb hρ
  have key:∀ j,j<n→∃ u,w.cell? ⟨β,b+p.2+j,none⟩=some u∧∀ v,l[j]?=some v→VR ρ v u:=fun j hj=>by
   have hlt:p.2+j<vs.length:=by omega
   obtain⟨u,hu,hv⟩:=hc (p.2+j) vs[p.2+j] (List.getElem?_eq_getElem hlt)
   refine⟨u,by rw [Nat.add_assoc];exact hu,fun v hv'=>?_⟩
   rw [h3 j hj,List.getElem?_eq_getElem hlt] at hv'
   cases hv';exact hv
  let f:Nat→Value:=fun j=>if hj:j<n then(key j hj).choose else default
  refine⟨_,run_loadCells w ⟨β,b+p.2,none⟩ n f fun j hj=>?_,VRL.of_get (by simp [h1]) fun j v hj=>?_⟩
  ·rw [Gh]
   simp only [f,hj,dif_pos]
   exact(key j hj).choose_spec.1
  ·have hjn:j<n:=by have:=(List.getElem?_eq_some_iff.1 hj).1;omega
   refine⟨f j,by simp [hjn],?_⟩
   simp only [f,hjn,dif_pos]
   exact(key j hjn).choose_spec.2 v hj
 ·cases hl
theorem JV (hr:R P ρ h w){t:TypeId}{p:Nat × Nat}{v:AV}(hl:loadAt P h t p=some v){x':Value}(hx:VR ρ (.ptr (some p)) x') :
  ∃ ad v',x' = .pointer (some ad)∧VR ρ v v'∧(loadVar t ad).run P w = .ok v' w:=by
 simp only [VR] at hx
 obtain⟨β,b,c,hρ,rfl⟩:=hx
 unfold loadAt at hl
 split at hl
 ·rename_i wr vs hb
  simp only [partA,Option.bind_eq_some_iff] at hl
  obtain⟨dd,hdd,hl⟩:=hl
  have hu:(P.underlying t).isSome:=by rw [hdd];rfl
  split at hl
  ·rename_i ha
   simp only [Option.bind_eq_some_iff,Option.map_eq_some_iff] at hl
   obtain⟨n,hn,l,hl,rfl⟩:=hl
   obtain⟨cs,hrun,hv⟩:=Cr (h:=h) (p:=p) hr (by unfold loadN;rw [hb];exact hl) hρ
   exact⟨_,.agg cs,rfl,by simp only [VR];exact⟨_,rfl,hv⟩,by simp [loadVar,E9 t w hu,ha,DU hn,hrun]⟩
  ·rename_i ha
   obtain⟨u,hu',hv⟩:=(hr.cell hb hρ).1 _ _ ((Nz _ _).symm.trans hl)
   exact⟨_,u,rfl,hv,by simp [loadVar,E9 t w hu,ha,hu']⟩
 ·cases hl
theorem R.map (hr:R P ρ h w){i:Nat}{es:List (AV × AV)}(hb:h.get i=some (.mp es)){β b c:Nat}(hρ:ρ i=some (β,b,c)) :
  ∃ ents clock,w.heap[β]?=some (.map ents clock)∧ER ρ es ents.toList:=by
 obtain⟨β',b',c',ents,clock,h1,h2,h3,_⟩:=hr.blk i _ hb
 rw [hρ] at h1;cases h1
 exact⟨ents,clock,h2,h3⟩
theorem R.map' (hr:R P ρ h w){i:Nat}{es:List (AV × AV)}(hb:h.get i=some (.mp es)){β b c:Nat}(hρ:ρ i=some (β,b,c)) :
  ∃ ents clock,w.heap[β]?=some (.map ents clock)∧ER ρ es ents.toList∧Born ents clock:=by
 obtain⟨β',b',c',ents,clock,h1,h2,h3,h4⟩:=hr.blk i _ hb
 rw [hρ] at h1;cases h1
 exact⟨ents,clock,h2,h3,h4⟩
theorem JL {t:TypeId}{d:TypeDesc}(hk:keyTy P t=some d):P.underlying t=some d:=by
 unfold keyTy at hk
 split at hk<;>(first | (rename_i hu;cases hk;exact hu) | cases hk)
theorem IZ {d:TypeDesc}{k:AV}{u:Unit}(h:kindOk d k=some u){k':Value}(hk:VR ρ k k'):MapKept.IsKey d k':=by
 unfold kindOk at h
 split at h
 ·simp only [VR] at hk;subst hk;trivial
 ·split at h
  ·rename_i e;simp only [VR] at hk;subst hk;exact e
  ·cases h
 ·simp only [VR] at hk;subst hk;trivial
 ·cases h
theorem NS {d:TypeDesc}{x y:AV}{b:Bool}(h:eqT d x y=some b){x' y':Value}(hx:VR ρ x x')(hy:VR ρ y y'):Instr.sameNow d x' y'=some b:=by
 unfold eqT at h
 split at h
 ·cases h;simp only [VR] at hx hy;subst hx;subst hy;rfl
 ·split at h
  ·rename_i hk;cases h;simp only [VR] at hx hy;subst hx;subst hy;simp [Instr.sameNow,hk]
  ·cases h
 ·cases h;simp only [VR] at hx hy;subst hx;subst hy;simp [Instr.sameNow,beq_toListBytes,ByteArray.toList_mk]
 ·cases h
def Found (ρ:Rho)(f:Option AV)(g:Option (Nat × Value)):Prop:=
 match f with
 | none=>g=none
 | some v=>∃ j u,g=some (j,u)∧VR ρ v u
theorem J5 {d:TypeDesc}{k:AV}{k':Value}(hk:VR ρ k k'):∀ {es:List (AV × AV)} {l:List MapEntry} {f:Option AV},findA d k es=some f→ER ρ es l→∀ i,
  ∃ g,Instr.findNow d k' l i=some g∧Found ρ f g
 | [],l,f,h,he,i=>by simp only [ER] at he;subst he;simp only [findA,Option.some.injEq] at h;subst h;exact⟨none,rfl,rfl⟩
 | (x,y)::es,l,f,h,he,i=>by
  simp only [ER] at he
  obtain⟨e,l',rfl,h1,h2,h3⟩:=he
  simp only [findA,Option.bind_eq_some_iff] at h
  obtain⟨b,hb,h⟩:=h
  have hn:=NS hb hk h1
  cases b
  ·simp only [Bool.false_eq_true,if_false] at h
   obtain⟨g,hg,hr⟩:=J5 hk h h3 (i+1)
   exact⟨g,by simp [Instr.findNow,hn,hg],hr⟩
  ·simp only [if_true,Option.some.injEq] at h
   subst h
   exact⟨some (i,e.val),by simp [Instr.findNow,hn],_,_,rfl,h2⟩
theorem ER.length {ρ:Rho}:∀ {es:List (AV × AV)} {l:List MapEntry},ER ρ es l→es.length=l.length
 | [],_,h=>by simp only [ER] at h;subst h;rfl
 | e::es,_,h=>by obtain⟨x,xs,rfl,_,_,h3⟩:=h;simp [h3.length]
theorem Qf {ρ ρ':Rho}{a:AV}(hf:flatV a=true){v v':Value}(h:VR ρ a v)(h':VR ρ' a v'):v=v':=by
 cases a<;>simp [flatV] at hf<;>(simp only [VR] at h h';rw [h,h'])
theorem Mf {ρ ρ':Rho}:∀ {l:List AV} {vs vs':List Value},l.all flatV=true→VRL ρ l vs→VRL ρ' l vs'→vs=vs'
 | [],vs,vs',_,h,h'=>by simp only [VRL] at h h';rw [h,h']
 | a::l,vs,vs',hf,h,h'=>by
  simp only [List.all_cons,Bool.and_eq_true] at hf
  simp only [VRL] at h h'
  obtain⟨v,us,rfl,h1,h2⟩:=h
  obtain⟨v',us',rfl,h1',h2'⟩:=h'
  rw [Qf hf.1 h1 h1',Mf hf.2 h2 h2']
theorem Lw {ρ:Rho}{a:AV}(hf:flatV a=true){v:Value}(h:VR ρ a v)(n:Nat):Instr.sameBits n v v=true:=by
 cases a<;>simp [flatV] at hf<;>(simp only [VR] at h;subst h;cases n<;>simp [Instr.sameBits,beq_toListBytes])
theorem Ja {ρ:Rho}:∀ {l:List AV} {vs:List Value},l.all flatV=true→VRL ρ l vs→∀ n,((vs.zip vs).all fun(x,y)=>Instr.sameBits n x y)=true
 | [],vs,_,h,n=>by simp only [VRL] at h;subst h;rfl
 | a::l,vs,hf,h,n=>by
  simp only [List.all_cons,Bool.and_eq_true] at hf
  simp only [VRL] at h
  obtain⟨v,us,rfl,h1,h2⟩:=h
  simp only [List.zip_cons_cons,List.all_cons,Lw hf.1 h1 n,Bool.true_and]
  exact Ja hf.2 h2 n
theorem Ik {t:TypeId}{k:AV}(h:keyS P t k=true):∃ fs cs,P.underlying t=some (.struct fs)∧k = .agg cs∧cs.all flatV=true∧keyFields P fs.toList cs=true:=by
 unfold keyS at h
 split at h
 ·rename_i fs cs hu
  simp only [Bool.and_eq_true] at h
  exact⟨fs,cs,hu,rfl,h.1,h.2⟩
 ·cases h
theorem Ij {cs:List AV}:∀ {fs:List Field},keyFields P fs cs=true→∀ f∈fs,f.name ≠ "_" → keyField (P.underlying f.type) cs[f.offset]?=true
 | [],_,f,hf,_=>by cases hf
 | g::fs,h,f,hf,hn=>by
  simp only [keyFields,Bool.and_eq_true] at h
  cases hf with
  | head=>rw [if_pos hn] at h;exact h.1
  | tail _ hf=>exact Ij h.2 f hf hn
theorem MF {t:TypeId}{v:Option AV}(h:keyField (P.underlying t) v=true):∃ d a,P.underlying t=some d∧v=some a∧isAggA P t=false∧∀ {ρ:Rho} {u:Value},VR ρ a u→MapKept.IsKey d u:=by
 unfold keyField at h
 split at h
 ·rename_i b e;exact⟨_,_,e,rfl,by simp [isAggA,e],fun h=>by simp only [VR] at h;subst h;trivial⟩
 ·rename_i k k' n e;exact⟨_,_,e,rfl,by simp [isAggA,e],fun h'=>by simp only [VR] at h';subst h';exact(of_decide_eq_true h:k'=k)⟩
 ·rename_i s e;exact⟨_,_,e,rfl,by simp [isAggA,e],fun h=>by simp only [VR] at h;subst h;trivial⟩
 ·cases h
theorem HF {t:TypeId}{k:AV}(h:keyS P t k=true){k':Value}(hk:VR ρ k k')(e:Bool)(w:World):(Instr.checkKey e 10000 t k').run P w = .ok () w:=by
 obtain⟨fs,cs,hu,rfl,hf,hm⟩:=Ik h
 simp only [VR] at hk
 obtain⟨xs,rfl,hx⟩:=hk
 rw [show 10000=9999+1 from rfl,Instr.checkKey]
 simp only [Sem.run_bind,run_underlying hu,Result.andThen_ok]
 rw [← Array.forIn_toList]
 have each:∀ f∈fs.toList,f.name ≠ "_" → keyField (P.underlying f.type) cs[f.offset]?=true:=Ij hm
 generalize fs.toList=L at each
 induction L with
 | nil=>simp
 | cons f L ih=>
  by_cases hn:f.name = "_"
  ·simp only [List.forIn_cons,hn,ne_eq,not_true_eq_false,if_false,Sem.run_bind,Sem.run_pure,Result.andThen_ok]
   exact ih fun g hg=>each g (.tail _ hg)
  ·obtain⟨d,a,h1,h2,h3,h4⟩:=MF (each f (.head _) hn)
   obtain⟨u,hu1,hu2⟩:=hx.get _ _ h2
   have ex:xs[f.offset]?=some u:=by simpa using hu1
   have hus:(P.underlying f.type).isSome:=by rw [h1];rfl
   have px:(part f.type xs f.offset).run P w = .ok u w:=by simp [part,E9 f.type w hus,h3,ex]
   have p2:(Instr.checkKey e 9999 f.type u).run P w = .ok () w:=MapKept.run_checkKey h1 (h4 hu2) _ 9998
   simp only [List.forIn_cons,Sem.run_bind,hn,ne_eq,not_false_eq_true,if_true,Result.andThen_ok,px,p2,Sem.run_pure]
   exact ih fun g hg=>each g (.tail _ hg)
theorem Mr {a b:AV}(h:sameS a b=true):a=b:=by
 cases a<;>cases b<;>simp_all [sameS]
theorem Mw:∀ {a b:List AV},sameL a b=true→a=b
 | [],[],_=>rfl
 | a::as,b::bs,h=>by
  simp only [sameL,Bool.and_eq_true] at h
  rw [Mr h.1,Mw h.2]
 | [],_::_,h=>by simp [sameL] at h
 | _::_,[],h=>by simp [sameL] at h
theorem QP {a b:AV}(h:same a b=true):a=b:=by
 unfold same at h
 split at h
 ·rw [Mw h]
 ·exact Mr h
theorem J1 {t:TypeId}{k x:AV}{b:Bool}(h:eqS P t k x=some b){k' x':Value}(hk:VR ρ k k')(hx:VR ρ x x')(w:World):(Op.equal t k' x').run P w = .ok b w∧(b=true→k=x):=by
 unfold eqS at h
 simp only [Option.bind_eq_some_iff] at h
 obtain⟨c,hc,h⟩:=h
 have:=KP hc hk hx w
 cases c
 ·simp only [Bool.false_eq_true,if_false,Option.some.injEq] at h;subst h
  exact⟨this,fun h=>by cases h⟩
 ·simp only [if_true] at h
  split at h
  ·rename_i hs;cases h;exact⟨this,fun _=>QP hs⟩
  ·cases h
theorem KZ {t:TypeId}{k:AV}{k':Value}(hk:VR ρ k k')(w:World):∀ {es:List (AV × AV)} {l:List MapEntry} {f:Option AV},findG (eqS P t) k es=some f→ER ρ es l→∀ i,
  ∃ g,(Instr.findAsking t k' l i).run P w = .ok g w∧Found ρ f g
 | [],l,f,h,he,i=>by simp only [ER] at he;subst he;simp only [findG,Option.some.injEq] at h;subst h;exact⟨none,by simp [Instr.findAsking],rfl⟩
 | (x,y)::es,l,f,h,he,i=>by
  simp only [ER] at he
  obtain⟨e,l',rfl,h1,h2,h3⟩:=he
  simp only [findG,Option.bind_eq_some_iff] at h
  obtain⟨b,hb,h⟩:=h
  have hn:=(J1 hb hk h1 w).1
  cases b
  ·simp only [Bool.false_eq_true,if_false] at h
   obtain⟨g,hg,hr⟩:=KZ hk w h h3 (i+1)
   exact⟨g,by simp [Instr.findAsking,hn,hg],hr⟩
  ·simp only [if_true,Option.some.injEq] at h
   subst h
   exact⟨some (i,e.val),by simp [Instr.findAsking,hn],_,_,rfl,h2⟩
theorem Ea {t:TypeId}{fs:Array Field}(hu:P.underlying t=some (.struct fs))(k:Value)(l:List MapEntry)(w:World):(Instr.findKey t k l).run P w=(Instr.findAsking t k l).run P w:=by
 cases l with
 | nil=>simp [Instr.findKey,run_underlying hu,Instr.findNow,Instr.findAsking]
 | cons e l=>simp [Instr.findKey,run_underlying hu,Instr.findNow,Instr.sameNow]
theorem KL {t:TypeId}{k:AV}{k':Value}(hk:VR ρ k k')(w:World){es:List (AV × AV)}{l:List MapEntry}{f:Option AV}(h:findK P t k es=some f)(he:ER ρ es l) :
  (∀ e,(Instr.checkKey e 10000 t k').run P w = .ok () w)∧∃ g,(Instr.findKey t k' l).run P w = .ok g w∧Found ρ f g:=by
 unfold findK at h
 split at h
 ·rename_i d hd
  simp only [Option.bind_eq_some_iff] at h
  obtain⟨u,hkind,h⟩:=h
  have hkey:=IZ hkind hk
  have hkt:=JL hd
  obtain⟨g,hg1,hg2⟩:=J5 hk h he 0
  exact⟨fun e=>MapKept.run_checkKey hkt hkey _ 9999,g,MapKept.run_findKey hkt hg1,hg2⟩
 ·split at h
  ·rename_i hs
   obtain⟨fs,cs,hu,_⟩:=Ik hs
   obtain⟨g,hg1,hg2⟩:=KZ hk w h he 0
   exact⟨fun e=>HF hs hk e w,g,by rw [Ea hu];exact hg1,hg2⟩
  ·cases h
theorem KC (hr:R P ρ h w)(hf:FR ρ fr a.tmps){o:Oper}{v:AV}(hv:readA P o fr h=some v) :
  ∃ v',VR ρ v v'∧(execOp a.eval o).run P w = .ok (.value v') w:=by
 have hg:=hr.glob
 obtain⟨dst,op,type,pos,after,guard⟩:=o
 unfold readA at hv
 split at hv
 case h_1 t x ho=>
  simp only at ho;subst ho
  simp only [Option.bind_eq_some_iff] at hv
  obtain⟨u,hu,hv⟩:=hv
  split at hv
  ·rename_i p
   obtain⟨ad,v',e,hr',hl⟩:=JV hr hv (BQ hg hf hu)
   exact⟨v',hr',by simp [execOp,Instr.loadAt,e,Instr.sureAddr,hl]⟩
  ·cases hv
 case h_2 t x ix ok ho=>
  simp only at ho;subst ho
  simp only [Option.bind_eq_some_iff] at hv
  obtain⟨u,hu,k,hk,hv⟩:=hv
  have hu':=BQ hg hf hu
  have hk':=BQ hg hf hk
  split at hv
  ·rename_i kt e r hd
   simp only [Option.bind_eq_some_iff] at hv
   obtain⟨f,hff,⟨val,b⟩,hval,hv⟩:=hv
   have hv:=Option.some.inj hv
   have hz:f=none→∃ zv,VR ρ val zv∧b=false∧(zeroValue e).run P w = .ok zv w:=by
    rintro rfl
    simp only [Option.map_eq_some_iff] at hval
    obtain⟨z,hz,hzz⟩:=hval
    cases hzz
    obtain⟨i,zv,hinfo,hzero,hvz,_⟩:=En (ρ:=ρ) hz
    exact⟨zv,hvz,rfl,by simp [zeroValue,typeInfo,hinfo,hzero]⟩
   have hs:∀ v,f=some v→v=val∧b=true:=by
    rintro v rfl
    simp only [Option.some.injEq,Prod.mk.injEq] at hval
    exact⟨hval.1,hval.2.symm⟩
   have hlook:∃ val',VR ρ val val'∧(Instr.lookup t (a.eval x) (a.eval ix) ok).run P w = .ok (if ok then .tuple #[val',.bool b] else val') w:=by
    cases r with
    | none=>
     simp only at hff
     simp only [VR] at hu'
     obtain⟨hck',g,hg1,hg2⟩:=KL (ρ:=ρ) (l:=[]) hk' w hff rfl
     have hf0:f=none:=by
      unfold findK at hff
      split at hff
      ·simp only [Option.bind_eq_some_iff] at hff
       obtain⟨_,_,hff⟩:=hff
       cases hff;rfl
      ·split at hff
       ·cases hff;rfl
       ·cases hff
     obtain⟨zv,h1,rfl,h2⟩:=hz hf0
     subst hf0
     simp only [Found] at hg2
     subst hg2
     have hck:=hck' (#[]:Array MapEntry).isEmpty
     have hfk:(Instr.findKey kt (a.eval ix) (#[]:Array MapEntry).toList).run P w = .ok none w:=hg1
     exact⟨zv,h1,by simp only [Instr.lookup,Sem.run_bind,run_underlying hd,Result.andThen_ok,hu',Sem.run_pure,hck,hfk,h2]⟩
    | some i=>
     simp only at hff
     split at hff
     ·rename_i es hb
      simp only [VR] at hu'
      obtain⟨β,b',c,hρ,e⟩:=hu'
      obtain⟨ents,clock,h1,h2⟩:=hr.map hb hρ
      obtain⟨hck',g,hfk,hg2⟩:=KL hk' w hff h2
      have hck:=hck' ents.isEmpty
      cases f with
      | none=>
       obtain⟨zv,h3,rfl,h4⟩:=hz rfl
       simp only [Found] at hg2
       subst hg2
       exact⟨zv,h3,by simp only [Instr.lookup,Sem.run_bind,run_underlying hd,Result.andThen_ok,e,MapKept.run_getObj_map h1,Sem.run_pure,hck,hfk,h4]⟩
      | some v=>
       obtain⟨rfl,rfl⟩:=hs v rfl
       simp only [Found] at hg2
       obtain⟨j,u,rfl,hvu⟩:=hg2
       exact⟨u,hvu,by simp only [Instr.lookup,Sem.run_bind,run_underlying hd,Result.andThen_ok,e,MapKept.run_getObj_map h1,Sem.run_pure,hck,hfk]⟩
     ·cases hff
   obtain⟨val',hvv,hrun⟩:=hlook
   refine⟨if ok then .tuple #[val',.bool b] else val',?_,by simp [execOp,hrun]⟩
   subst hv
   cases ok
   ·exact hvv
   ·simp only [if_true,VR];exact⟨_,rfl,VRL.cons hvv (VRL.cons (by simp only [VR]) VRL.nil)⟩
  ·cases hv
 case h_3 args ts ho=>
  simp only at ho;subst ho
  simp only [Option.bind_eq_some_iff] at hv
  obtain⟨t,ht,x,hx,u,hu,hv⟩:=hv
  have hu':=BQ hg hf hu
  have hax:(args.map a.eval)[0]?=some (a.eval x):=by simp [hx]
  split at hv
  ·rename_i kt e hd
   cases hv
   simp only [VR] at hu'
   refine⟨_,by simp only [VR];rfl,?_⟩
   simp only [execOp,resolve,invoke,builtin,Sem.run_bind,Sem.run_pure,Result.andThen_ok,Builtin.len_,ht,hax,run_underlying hd,hu',goInt]
  ·rename_i kt e i hd
   split at hv
   ·rename_i es hb
    cases hv
    simp only [VR] at hu'
    obtain⟨β,b',c,hρ,e⟩:=hu'
    obtain⟨ents,clock,h1,h2⟩:=hr.map hb hρ
    refine⟨.int .i64 es.length,by simp only [VR],?_⟩
    have hlen:es.length=ents.size:=by have:=h2.length;simpa using this
    simp only [execOp,resolve,invoke,builtin,Sem.run_bind,Sem.run_pure,Result.andThen_ok,Builtin.len_,ht,hax,run_underlying hd,e,MapKept.run_getObj_map h1,goInt,hlen]
   ·cases hv
  ·cases hv
 case h_4=>cases hv
theorem I8 {α:Type}(l:List α):∀ n,(rep l n).length=n*l.length
 | 0=>by simp [rep]
 | n+1=>by simp [rep,I8 l n,Nat.succ_mul];omega
theorem O4 {α:Type}(l:List α)(hl:0<l.length):∀ n k,k<n*l.length→(rep l n)[k]?=l[k % l.length]?
 | 0,k,h=>by simp at h
 | n+1,k,h=>by
  simp only [rep]
  by_cases hk:k<l.length
  ·rw [List.getElem?_append_left hk,Nat.mod_eq_of_lt hk]
  ·rw [List.getElem?_append_right (by omega),O4 l hl n (k-l.length) (by rw [Nat.succ_mul] at h;omega)]
   congr 1
   rw [Nat.mod_eq_sub_mod (by omega:k≥l.length)]
theorem BR.fresh {ρ':Rho}{i:Nat}{cs:List AV}{acs:Array Value}{e:TypeId}(hle:ρ.le ρ')(hc:VRL ρ cs acs.toList){w:World}(hρ:ρ' i=some (w.heap.size,0,acs.size)):BR ρ' (w.alloc (.cells acs e)) i (.cells true cs):=by
 refine⟨w.heap.size,0,acs.size,acs,e,(0,0),hρ,heap_alloc_new w _,rfl,?_,fun k v hk=>?_,fun o _=>by simp⟩
 ·have:=hc.length;simp at this;omega
 ·obtain⟨u,hu,hv⟩:=hc.get k v hk
  exact⟨u,by simpa using hu,hv.mono hle⟩
end
end Go.Ab
