import Derived.Test.YtdmgkkcjnmmfmaaGreatAb1
import Derived.Laws.StructEq
import Derived.Laws.Tables
import Derived.Laws.Slices
import Derived.Laws.Build
namespace Go.Ab
open Go
set_option linter.all false
section
variable {P:Program}{ρ:Rho}
theorem H7 {α:Type}:∀ {l:List α} {o:Nat} {xs l':List α},splice l o xs=some l'→
  l'.length=l.length∧o+xs.length≤l.length∧∀ k,l'[k]?=if o≤k∧k<o+xs.length then xs[k-o]? else l[k]?
 | l,0,[],l',h=>by
  cases l<;>(simp only [splice,Option.some.injEq] at h;subst h;exact⟨rfl,by simp,fun k=>by rw [if_neg (by simp)]⟩)
 | [],0,x::xs,l',h=>by simp [splice] at h
 | [],o+1,xs,l',h=>by simp [splice] at h
 | v::vs,0,x::xs,l',h=>by
  simp only [splice,Option.map_eq_some_iff] at h
  obtain⟨m,hm,rfl⟩:=h
  obtain⟨h1,h2,h3⟩:=H7 hm
  refine⟨by simp [h1],by simp at h2 ⊢;omega,fun k=>?_⟩
  cases k with
  | zero=>simp
  | succ k=>simp [h3 k]
 | v::vs,o+1,xs,l',h=>by
  simp only [splice,Option.map_eq_some_iff] at h
  obtain⟨m,hm,rfl⟩:=h
  obtain⟨h1,h2,h3⟩:=H7 hm
  refine⟨by simp [h1],by simp;omega,fun k=>?_⟩
  cases k with
  | zero=>simp
  | succ k=>
   simp only [List.getElem?_cons_succ,h3 k]
   by_cases hc:o≤k∧k<o+xs.length
   ·rw [if_pos hc,if_pos (by omega)];congr 1;omega
   ·rw [if_neg hc,if_neg (by omega)]
theorem HA {α:Type}:∀ {l:List α} {o n:Nat} {l':List α},span l o n=some l'→
  l'.length=n∧o+n≤l.length∧∀ k,k<n→l'[k]?=l[o+k]?
 | l,0,0,l',h=>by
  cases l<;>(simp only [span,Option.some.injEq] at h;subst h;exact⟨rfl,by simp,fun k hk=>by omega⟩)
 | [],0,n+1,l',h=>by simp [span] at h
 | [],o+1,n,l',h=>by simp [span] at h
 | v::vs,0,n+1,l',h=>by
  simp only [span,Option.map_eq_some_iff] at h
  obtain⟨m,hm,rfl⟩:=h
  obtain⟨h1,h2,h3⟩:=HA hm
  refine⟨by simp [h1],by simp;omega,fun k hk=>?_⟩
  cases k with
  | zero=>simp
  | succ k=>have:=h3 k (by omega);rw [Nat.zero_add] at this;simp [this]
 | v::vs,o+1,n,l',h=>by
  simp only [span] at h
  obtain⟨h1,h2,h3⟩:=HA h
  refine⟨h1,by simp;omega,fun k hk=>?_⟩
  rw [h3 k hk,Nat.add_right_comm];simp
theorem MZ:∀ (vs:List Value) (off j:Nat) (cs:Array Value),
  ((vs.zipIdx j).foldl (fun(cs:Array Value) (x:Value × Nat)=>cs.setIfInBounds (off+x.2) x.1) cs).size=cs.size∧
  ∀ k,((vs.zipIdx j).foldl (fun(cs:Array Value) (x:Value × Nat)=>cs.setIfInBounds (off+x.2) x.1) cs)[k]?=if off+j≤k∧k<off+j+vs.length∧k<cs.size then vs[k-(off+j)]? else cs[k]?
 | [],off,j,cs=>⟨rfl,fun k=>by rw [if_neg (by simp;omega)];rfl⟩
 | v::vs,off,j,cs=>by
  simp only [List.zipIdx_cons,List.foldl_cons]
  obtain⟨h1,h2⟩:=MZ vs off (j+1) (cs.setIfInBounds (off+j) v)
  refine⟨by rw [h1];simp,fun k=>?_⟩
  rw [h2 k]
  simp only [Array.size_setIfInBounds,Array.getElem?_setIfInBounds,List.length_cons]
  by_cases e:k=off+j
  ·subst e
   by_cases hs:off+j<cs.size
   ·rw [if_neg (by omega),if_pos rfl,if_pos hs,if_pos (by omega)];simp
   ·rw [if_neg (by omega),if_pos rfl,if_neg hs,if_neg (by omega)];simp;omega
  ·have e2 : ¬ off+j=k:=fun h=>e h.symm
   simp only [e2,if_false]
   by_cases hc:off+(j+1)≤k∧k<off+(j+1)+vs.length∧k<cs.size
   ·rw [if_pos hc,if_pos (by omega)]
    have:k-(off+j)=(k-(off+(j+1)))+1:=by omega
    rw [this];simp
   ·rw [if_neg hc,if_neg (by omega)]
theorem H6 {place place':Nat→Option (Nat × Nat)}(hp:∀ i,place' i=place i):∀ {parts:List (Nat × AV)} {parts':List (Nat × Value)} {cs cs':List AV} {acs:Array Value},
  fillA place cs parts=some cs'→VRL ρ cs acs.toList→parts.map (·.1)=parts'.map (·.1)→VRL ρ (parts.map (·.2)) (parts'.map (·.2))→
  ∃ acs',Instr.fill place' acs parts'=some acs'∧VRL ρ cs' acs'.toList
 | [],parts',cs,cs',acs,h,hc,hi,hv=>by
  simp only [fillA,Option.some.injEq] at h;subst h
  cases parts' with
  | nil=>exact⟨acs,rfl,hc⟩
  | cons _ _=>simp at hi
 | (i,v)::rest,[],cs,cs',acs,h,hc,hi,hv=>by simp at hi
 | (i,v)::rest,(i',v')::rest',cs,cs',acs,h,hc,hi,hv=>by
  simp only [List.map_cons,List.cons.injEq] at hi
  obtain⟨rfl,hi⟩:=hi
  simp only [List.map_cons,VRL] at hv
  obtain⟨u,us,he,hu,hus⟩:=hv
  simp only [List.cons.injEq] at he
  obtain⟨rfl,rfl⟩:=he
  simp only [fillA,Option.bind_eq_some_iff] at h
  obtain⟨⟨off,size⟩,hpl,h⟩:=h
  simp only at h
  split at h
  ·cases h
  ·rename_i hno
   simp only [not_or,Decidable.not_not,Bool.not_eq_false] at hno
   obtain⟨hlen,hsc⟩:=hno
   simp only [Option.bind_eq_some_iff] at h
   obtain⟨m,hm,h⟩:=h
   have hcells:=hu.cells hsc
   have hcl:=hcells.length
   obtain⟨s1,s2,s3⟩:=H7 hm
   have hcsl:=hc.length
   simp only [Instr.fill,hp,hpl]
   rw [if_neg (by simp at hcl hcsl ⊢;omega)]
   obtain⟨f1,f2⟩:=MZ v'.cells.toList off 0 acs
   refine H6 hp h (VRL.of_get ?_ fun k a hk=>?_) hi hus
   ·rw [s1,hcsl]
    rw [← Array.foldl_toList,Array.toList_zipIdx]
    simp [f1]
   ·rw [s3] at hk
    rw [← Array.foldl_toList,Array.toList_zipIdx]
    simp only [Array.getElem?_toList]
    rw [f2 k]
    simp only [Nat.add_zero]
    by_cases hc1:off≤k∧k<off+v.cells.length
    ·rw [if_pos hc1] at hk
     rw [if_pos (by simp at hcsl hcl ⊢;omega)]
     exact hcells.get _ _ hk
    ·rw [if_neg hc1] at hk
     rw [if_neg (by simp at hcl ⊢;omega)]
     obtain⟨u,hu,hr⟩:=hc.get k a hk
     exact⟨u,by simpa using hu,hr⟩
theorem En {t:TypeId}{z:AV}(h:zeroA P t=some z):∃ i zv,P.info? t=some i∧i.zero=some zv∧VR ρ z zv∧z.cells.all scalar=true∧VRL ρ z.cells zv.cells.toList:=by
 simp only [zeroA,Option.bind_eq_some_iff] at h
 obtain⟨i,hi,zv,hz,a,ha,h⟩:=h
 split at h
 ·rename_i hs
  cases h
  have:=LJ ρ ha
  exact⟨i,zv,hi,hz,this,hs,this.cells hs⟩
 ·cases h
theorem Gy {t:TypeId}{n:Nat}(h:sizeA P t=some n):∃ i,P.info? t=some i∧i.size=n:=by
 simpa [sizeA,Option.map_eq_some_iff] using h
theorem DU {t:TypeId}{n:Nat}(h:sizeA P t=some n)(w:World):(sizeOf t).run P w = .ok n w:=by
 obtain⟨i,hi,rfl⟩:=Gy h
 simp [sizeOf,typeInfo,hi]
theorem HJ {t e:TypeId}(h:elemA P t=some e):P.underlying t=some (.slice e):=by
 unfold elemA at h
 split at h
 ·rename_i x hx;cases h;exact hx
 ·cases h
theorem E9 (t:TypeId)(w:World)(h:(P.underlying t).isSome):(isAgg t).run P w = .ok (isAggA P t) w:=by
 obtain⟨d,hd⟩:=Option.isSome_iff_exists.1 h
 unfold isAggA
 rw [hd]
 cases d<;>simp [isAgg,run_underlying hd]
theorem J7 {t:TypeId}{cs:List AV}{acs:Array Value}(hc:VRL ρ cs acs.toList){off:Nat}{v:AV}(h:partA P t cs off=some v) :
  ∃ v',VR ρ v v'∧∀ w,(part t acs off).run P w = .ok v' w:=by
 simp only [partA,Option.bind_eq_some_iff] at h
 obtain⟨dd,hdd,h⟩:=h
 have hu:(P.underlying t).isSome:=by rw [hdd];rfl
 split at h
 ·rename_i ha
  simp only [Option.bind_eq_some_iff,Option.map_eq_some_iff] at h
  obtain⟨n,hn,l,hl,rfl⟩:=h
  obtain⟨h1,h2,h3⟩:=HA ((Cc _ _ _).symm.trans hl)
  refine⟨.agg (acs.extract off (off+n)),?_,fun w=>?_⟩
  ·simp only [VR]
   refine⟨_,rfl,VRL.of_get ?_ fun k a hk=>?_⟩
   ·have:=hc.length;simp at this ⊢;omega
   ·have hkn:k<n:=by have:=(List.getElem?_eq_some_iff.1 hk).1;omega
    rw [h3 k hkn] at hk
    obtain⟨u,hu,hr⟩:=hc.get _ _ hk
    refine⟨u,?_,hr⟩
    simp only [Array.getElem?_toList] at hu ⊢
    rw [Array.getElem?_extract,if_pos (by have:=(Array.getElem?_eq_some_iff.1 hu).1;omega)]
    exact hu
  ·simp [part,E9 t w hu,ha,DU hn]
 ·rename_i ha
  obtain⟨u,hu',hr⟩:=hc.get _ _ ((Nz _ _).symm.trans h)
  refine⟨u,hr,fun w=>?_⟩
  have:acs[off]?=some u:=by simpa using hu'
  simp [part,E9 t w hu,ha,this]
theorem HB {fr:Fr}{a:Act}(hg:∀ g,g<P.globals.size→∃ c,ρ g=some (g,0,c))(hf:FR ρ fr a.tmps):∀ {xs:List (Nat × Operand)} {l:List (Nat × AV)},evParts P fr xs=some l→
  l.map (·.1)=xs.map (·.1)∧VRL ρ (l.map (·.2)) (xs.map fun x=>a.eval x.2)
 | [],l,h=>by simp only [evParts,Option.some.injEq] at h;subst h;exact⟨rfl,VRL.nil⟩
 | (i,x)::xs,l,h=>by
  simp only [evParts,Option.bind_eq_some_iff,Option.map_eq_some_iff] at h
  obtain⟨v,hv,l',hl,rfl⟩:=h
  obtain⟨h1,h2⟩:=HB hg hf hl
  exact⟨by simp [h1],VRL.cons (BQ hg hf hv) h2⟩
theorem KN:∀ {fs:List Field} {ps:List (Nat × Nat)},placesA P fs=some ps→fs.mapM (fun f=>(P.info? f.type).map fun i=>(f.offset,i.size))=some ps
 | [],ps,h=>by simp only [placesA,Option.some.injEq] at h;subst h;rfl
 | f::fs,ps,h=>by
  simp only [placesA,Option.bind_eq_some_iff,Option.map_eq_some_iff] at h
  obtain⟨n,hn,ps',hps,rfl⟩:=h
  obtain⟨i,hi,rfl⟩:=Gy hn
  simp [List.mapM_cons,hi,KN hps]
theorem Me {t:TypeId}{parts:List (Nat × AV)}{parts':Array (Nat × Value)}{v:AV}(h:buildA P t parts=some v)
  (hi:parts.map (·.1)=parts'.toList.map (·.1)) (hv:VRL ρ (parts.map (·.2)) (parts'.toList.map (·.2))) :
  ∃ v',VR ρ v v'∧∀ w,(Instr.build t parts').run P w = .ok v' w:=by
 simp only [buildA,Option.bind_eq_some_iff] at h
 obtain⟨z,hz,h⟩:=h
 obtain⟨i,zv,hinfo,hzero,_,_,hcells⟩:=En (ρ:=ρ) hz
 cases hu:P.underlying t with
 | none=>simp [hu] at h
 | some d=>
  rw [hu] at h
  cases d with
  | struct fs=>
   simp only [Option.bind_eq_some_iff,Option.map_eq_some_iff] at h
   obtain⟨ps,hps,cs,hcs,rfl⟩:=h
   obtain⟨acs',hf,hr⟩:=H6 (place':=(ps.toArray[·]?)) (fun i=>by simp) hcs hcells hi hv
   refine⟨.agg acs',by simp only [VR];exact⟨_,rfl,hr⟩,fun w=>run_build w t parts' acs' ?_⟩
   simp only [Program.built,hinfo,hu,hzero,KN hps]
   exact hf
  | array n e=>
   simp only [Option.bind_eq_some_iff,Option.map_eq_some_iff] at h
   obtain⟨m,hm,cs,hcs,rfl⟩:=h
   obtain⟨ie,hie,rfl⟩:=Gy hm
   obtain⟨acs',hf,hr⟩:=H6 (place':=fun i=>some (i*ie.size,ie.size)) (fun i=>rfl) hcs hcells hi hv
   refine⟨.agg acs',by simp only [VR];exact⟨_,rfl,hr⟩,fun w=>run_build w t parts' acs' ?_⟩
   simp only [Program.built,hinfo,hu,hzero,hie]
   exact hf
  | _=>simp at h
end
end Go.Ab
