import Derived.Test.YtdmgkkcjnmmfmaaGreatAb11c
namespace Go.Ab
open Go
set_option linter.all false
section
variable {P:Program}{call:CallF}{ops:Array Oper}
theorem GP (b:Array Nat):∀ (l pend:List (Oper × Nat)),(lateOrder P b l pend).Perm (l++pend)
 | [],pend=>.refl _
 | (o,j)::rest,pend=>by
  simp only [lateOrder]
  split
  ·refine(GP b rest _).trans ?_
   rw [← List.append_assoc]
   exact List.perm_append_comm
  ·refine(List.Perm.append_left _ (List.Perm.cons _ (GP b rest _))).trans ?_
   refine List.perm_middle.trans (List.Perm.cons _ ?_)
   refine(List.perm_append_comm_assoc _ _ _).trans (List.Perm.append_left rest ?_)
   exact List.filter_append_perm (fun x:Oper × Nat=>(b.getD j 0).testBit x.2) pend
def stepFor (P:Program)(ops:Array Oper)(b:Array Nat)(l:List (Oper × Nat))(o:Oper)(i:Nat)(cur:Bool):DStep:=
 if isMak P o then .mak i o (makNo P ops i)
 else if isRed P o then .red i o cur (loA P b l i) (hiA P b l i)
 else if isEff P o then .eff i o else .pur i o
theorem Hc (b:Array Nat)(l:List (Oper × Nat)):∀ (L:List (Oper × Nat)) (made:List Nat),(planFrom P ops b l L made).length=L.length∧
  ∀ (k:Nat) (o:Oper) (i:Nat),L[k]?=some (o,i)→∃ cur,(planFrom P ops b l L made)[k]?=some (stepFor P ops b l o i cur)∧
   (cur=true→(∀ j∈made,(b.getD i 0).testBit j=true)∧∀ (m:Nat) (p:Oper) (j:Nat),m<k→L[m]?=some (p,j)→isMak P p=true→(b.getD i 0).testBit j=true)
 | [],made=>⟨rfl,fun k o i h=>by simp at h⟩
 | (q,n)::L,made=>by
  simp only [planFrom]
  by_cases hm:isMak P q=true
  ·rw [if_pos hm]
   obtain⟨h1,h2⟩:=Hc b l L (n::made)
   refine⟨by simp [h1],fun k o i hk=>?_⟩
   cases k with
   | zero=>
    simp only [List.getElem?_cons_zero,Option.some.injEq,Prod.mk.injEq] at hk
    obtain⟨rfl,rfl⟩:=hk
    exact⟨false,by simp [stepFor,hm],fun h=>by cases h⟩
   | succ k=>
    simp only [List.getElem?_cons_succ] at hk
    obtain⟨cur,a1,a2⟩:=h2 k o i hk
    refine⟨cur,by simpa using a1,fun hc=>?_⟩
    obtain⟨b1,b2⟩:=a2 hc
    refine⟨fun j hj=>b1 j (.tail _ hj),fun m p j hmk hm' hp=>?_⟩
    cases m with
    | zero=>
     simp only [List.getElem?_cons_zero,Option.some.injEq,Prod.mk.injEq] at hm'
     obtain⟨rfl,rfl⟩:=hm'
     exact b1 _ (.head _)
    | succ m=>exact b2 m p j (by omega) (by simpa using hm') hp
  ·rw [if_neg hm]
   obtain⟨h1,h2⟩:=Hc b l L made
   refine⟨by simp [h1],fun k o i hk=>?_⟩
   cases k with
   | zero=>
    simp only [List.getElem?_cons_zero,Option.some.injEq,Prod.mk.injEq] at hk
    obtain⟨rfl,rfl⟩:=hk
    refine⟨made.all fun j=>(b.getD n 0).testBit j,by simp [stepFor,hm],fun hc=>⟨fun j hj=>List.all_eq_true.1 hc j hj,fun m p j hmk _ _=>by omega⟩⟩
   | succ k=>
    simp only [List.getElem?_cons_succ] at hk
    obtain⟨cur,a1,a2⟩:=h2 k o i hk
    refine⟨cur,by simpa using a1,fun hc=>?_⟩
    obtain⟨b1,b2⟩:=a2 hc
    refine⟨b1,fun m p j hmk hm' hp=>?_⟩
    cases m with
    | zero=>
     simp only [List.getElem?_cons_zero,Option.some.injEq,Prod.mk.injEq] at hm'
     obtain⟨rfl,rfl⟩:=hm'
     exact absurd hp hm
    | succ m=>exact b2 m p j (by omega) (by simpa using hm') hp
theorem IX (b:Array Nat):∀ (L:List (Oper × Nat)) (made:List Nat),lateOk P b L made=true→∀ (k:Nat) (o:Oper) (j:Nat),L[k]?=some (o,j)→isEff P o=true→isMak P o=false→
  (∀ i∈made,(b.getD j 0).testBit i=true)∧∀ (m:Nat) (p:Oper) (i:Nat),m<k→L[m]?=some (p,i)→isMak P p=true→(b.getD j 0).testBit i=true
 | [],made,_,k,o,j,hk,_,_=>by simp at hk
 | (q,n)::L,made,h,k,o,j,hk,he,hm=>by
  simp only [lateOk] at h
  split at h
  ·rename_i hq
   cases k with
   | zero=>
    simp only [List.getElem?_cons_zero,Option.some.injEq,Prod.mk.injEq] at hk
    obtain⟨rfl,rfl⟩:=hk
    rw [hm] at hq;cases hq
   | succ k=>
    obtain⟨b1,b2⟩:=IX b L (n::made) h k o j (by simpa using hk) he hm
    refine⟨fun i hi=>b1 i (.tail _ hi),fun m p i hmk hm' hp=>?_⟩
    cases m with
    | zero=>
     simp only [List.getElem?_cons_zero,Option.some.injEq,Prod.mk.injEq] at hm'
     obtain⟨rfl,rfl⟩:=hm'
     exact b1 _ (.head _)
    | succ m=>exact b2 m p i (by omega) (by simpa using hm') hp
  ·rename_i hq
   simp only [Bool.and_eq_true,Bool.or_eq_true,Bool.not_eq_true',List.all_eq_true] at h
   cases k with
   | zero=>
    simp only [List.getElem?_cons_zero,Option.some.injEq,Prod.mk.injEq] at hk
    obtain⟨rfl,rfl⟩:=hk
    refine⟨fun i hi=>?_,fun m p i hmk _ _=>by omega⟩
    rcases h.1 with h' | h'
    ·rw [he] at h';cases h'
    ·exact h' i hi
   | succ k=>
    obtain⟨b1,b2⟩:=IX b L made h.2 k o j (by simpa using hk) he hm
    refine⟨b1,fun m p i hmk hm' hp=>?_⟩
    cases m with
    | zero=>
     simp only [List.getElem?_cons_zero,Option.some.injEq,Prod.mk.injEq] at hm'
     obtain⟨rfl,rfl⟩:=hm'
     exact absurd hp hq
    | succ m=>exact b2 m p i (by omega) (by simpa using hm') hp
structure St where
 fr:Fr
 h:Heap
 hs:List Heap
 cs:List (Oper × Fr × AV × Nat × Nat)
def StepD (P:Program)(call:CallF)(ops:Array Oper)(n0:Nat):DStep→St→Bool→AV→St→Prop
 | .pur _ o,s,want,v,s'=>wantedA ops s.fr o=some want∧(want=true→pureA P o s.fr=some v)∧(want=false→v = .tup [])∧s'=⟨putA s.fr o.dst v,s.h,s.hs,s.cs⟩
 | .mak _ o k,s,want,v,s'=>wantedA ops s.fr o=some want∧
   (want=true→∃ b f,makeA P o s.fr=some (b,f)∧v=f (n0+k)∧s'=⟨putA s.fr o.dst v,s.h.put (n0+k) (some b),s.hs,s.cs⟩)∧
   (want=false→v = .tup []∧s'=⟨putA s.fr o.dst v,s.h,s.hs,s.cs⟩)
 | .red _ o cur lo hi,s,want,v,s'=>wantedA ops s.fr o=some want∧
   (want=true→(cur=true∧lo=hi∧readA P o s.fr s.h=some v∧s'=⟨putA s.fr o.dst v,s.h,s.hs,s.cs⟩)∨s'=⟨putA s.fr o.dst v,s.h,s.hs,(o,s.fr,v,lo,hi)::s.cs⟩)∧
   (want=false→v = .tup []∧s'=⟨putA s.fr o.dst v,s.h,s.hs,s.cs⟩)
 | .eff _ o,s,want,v,s'=>wantedA ops s.fr o=some want∧∃ h',(want=true→opA P call o s.fr s.h=some (v,h'))∧(want=false→v = .tup []∧h'=s.h)∧
   s'=⟨putA s.fr o.dst v,h',s.hs ++ [h'],s.cs⟩
theorem KU {n0:Nat}:∀ (plan:List DStep) (st:St) {fr':Fr} {h':Heap},runD P call ops n0 plan st.fr st.h st.hs st.cs=some (fr',h')→
  ∃ (s:Nat→St) (wt:Nat→Bool) (v:Nat→AV),s 0=st∧(∀ k d,plan[k]?=some d→StepD P call ops n0 d (s k) (wt k) (v k) (s (k+1)))∧
   checkD P (s plan.length).hs (s plan.length).cs=true∧(s plan.length).fr=fr'∧(s plan.length).h=h'
 | [],st,fr',h',hx=>by
  simp only [runD] at hx
  split at hx
  ·rename_i hc
   cases hx
   exact⟨fun _=>st,fun _=>false,fun _=>.bot,rfl,fun k d hk=>by simp at hk,hc,rfl,rfl⟩
  ·cases hx
 | d::rest,st,fr',h',hx=>by
  have done:∀ (st':St) (want:Bool) (u:AV),StepD P call ops n0 d st want u st'→runD P call ops n0 rest st'.fr st'.h st'.hs st'.cs=some (fr',h')→
    ∃ (s:Nat→St) (wt:Nat→Bool) (v:Nat→AV),s 0=st∧(∀ k e,(d::rest)[k]?=some e→StepD P call ops n0 e (s k) (wt k) (v k) (s (k+1)))∧
     checkD P (s (d::rest).length).hs (s (d::rest).length).cs=true∧(s (d::rest).length).fr=fr'∧(s (d::rest).length).h=h':=fun st' want u hs hx'=>by
   obtain⟨s,wt,v,h0,h1,h2,h3,h4⟩:=KU rest st' hx'
   refine⟨fun k=>match k with | 0=>st | k+1=>s k,fun k=>match k with | 0=>want | k+1=>wt k,fun k=>match k with | 0=>u | k+1=>v k,rfl,fun k e hk=>?_,h2,h3,h4⟩
   cases k with
   | zero=>
    simp only [List.getElem?_cons_zero,Option.some.injEq] at hk
    subst hk
    simp only [h0]
    exact hs
   | succ k=>exact h1 k e (by simpa using hk)
  cases d with
  | pur i o=>
   simp only [runD,Option.bind_eq_some_iff] at hx
   obtain⟨want,hw,v,hv,hx⟩:=hx
   refine done ⟨putA st.fr o.dst v,st.h,st.hs,st.cs⟩ want v ⟨hw,fun h=>?_,fun h=>?_,rfl⟩ hx
   ·subst h;simpa using hv
   ·subst h;simp at hv;exact hv.symm
  | mak i o k=>
   simp only [runD,Option.bind_eq_some_iff] at hx
   obtain⟨want,hw,⟨v,h₁⟩,hv,hx⟩:=hx
   refine done ⟨putA st.fr o.dst v,h₁,st.hs,st.cs⟩ want v ⟨hw,fun h=>?_,fun h=>?_⟩ hx
   ·subst h
    simp only [if_true,Option.map_eq_some_iff,Prod.mk.injEq] at hv
    obtain⟨⟨b,f⟩,hm,rfl,rfl⟩:=hv
    exact⟨b,f,hm,rfl,rfl⟩
   ·subst h;simp at hv;exact⟨hv.1.symm,by rw [← hv.2]⟩
  | red i o cur lo hi=>
   simp only [runD,Option.bind_eq_some_iff] at hx
   obtain⟨want,hw,hx⟩:=hx
   split at hx
   ·rename_i hc
    simp only [Bool.and_eq_true] at hc
    simp only [Option.bind_eq_some_iff] at hx
    obtain⟨v,hv,hx⟩:=hx
    refine done ⟨putA st.fr o.dst v,st.h,st.hs,st.cs⟩ want v ⟨hw,fun h=>?_,fun h=>?_⟩ hx
    ·subst h;exact .inl ⟨hc.1,Nat.eq_of_beq_eq_true hc.2,by simpa using hv,rfl⟩
    ·subst h;simp at hv;exact⟨hv.symm,rfl⟩
   ·simp only [Option.bind_eq_some_iff] at hx
    obtain⟨⟨v,cs'⟩,hv,hx⟩:=hx
    refine done ⟨putA st.fr o.dst v,st.h,st.hs,cs'⟩ want v ⟨hw,fun h=>?_,fun h=>?_⟩ hx
    ·subst h
     simp only [if_true,Option.bind_eq_some_iff,Option.map_eq_some_iff,Prod.mk.injEq] at hv
     obtain⟨h₀,_,u,_,rfl,rfl⟩:=hv
     exact .inr rfl
    ·subst h;simp at hv;exact⟨hv.1.symm,by rw [← hv.2]⟩
  | eff i o=>
   simp only [runD,Option.bind_eq_some_iff] at hx
   obtain⟨want,hw,⟨v,h₁⟩,hv,hx⟩:=hx
   refine done ⟨putA st.fr o.dst v,h₁,st.hs ++ [h₁],st.cs⟩ want v ⟨hw,h₁,fun h=>?_,fun h=>?_,rfl⟩ hx
   ·subst h;simpa using hv
   ·subst h;simp at hv;exact⟨hv.1.symm,hv.2.symm⟩
theorem KH {hs:List Heap}:∀ {cs:List (Oper × Fr × AV × Nat × Nat)},checkD P hs cs=true→∀ o fr v lo hi,(o,fr,v,lo,hi)∈cs→∀ c,lo≤c→c≤hi→∃ h u,hs[c]?=some h∧readA P o fr h=some u∧same u v=true
 | [],_,o,fr,v,lo,hi,hm=>by cases hm
 | (p,fp,vp,lp,hp)::cs,h,o,fr,v,lo,hi,hm=>by
  simp only [checkD,Bool.and_eq_true,List.all_eq_true] at h
  intro c h1 h2
  rcases List.mem_cons.1 hm with e | hm
  ·simp only [Prod.mk.injEq] at e
   obtain⟨rfl,rfl,rfl,rfl,rfl⟩:=e
   have:=h.1 (c-lo) (List.mem_range.2 (by omega))
   rw [show lo+(c-lo)=c by omega] at this
   split at this
   ·rename_i g hg
    split at this
    ·rename_i u hu
     exact⟨g,u,hg,hu,this⟩
    ·cases this
   ·cases this
  ·exact KH h.2 o fr v lo hi hm c h1 h2
theorem Nk {a b:AV}(h:sameS a b=true):a=b:=by
 cases a<;>cases b<;>simp_all [sameS]
theorem Nn:∀ {a b:List AV},sameL a b=true→a=b
 | [],[],_=>rfl
 | a::as,b::bs,h=>by
  simp only [sameL,Bool.and_eq_true] at h
  rw [Nk h.1,Nn h.2]
 | [],_::_,h=>by simp [sameL] at h
 | _::_,[],h=>by simp [sameL] at h
theorem Qx {a b:AV}(h:same a b=true):a=b:=by
 unfold same at h
 split at h
 ·rw [Nn h]
 ·exact Nk h
end
end Go.Ab
