import Derived.Test.YtdmgkkcjnmmfmaaGreatAb11f
namespace Go.Ab
open Go
set_option linter.all false
section
variable {P:Program}{call:CallF}{ops:Array Oper}
theorem K0 {ws:List Nat}{fr fr':Fr}{h h':Heap}(hd:∀ o∈ops.toList,∀ d,o.dst=some d→d∈ws)(ho:regionD P call ops fr h=some (fr',h')) :
  fr'.length=fr.length∧∀ t,t∉ws→fr'[t]?=fr[t]?:=by
 obtain⟨L,s,wt,v,pl,e0,_,e1,_⟩:=Plan.make ho
 have key:∀ k,k≤L.length→(s k).fr.length=fr.length∧∀ t,t∉ws→(s k).fr[t]?=fr[t]?:=by
  intro k
  induction k with
  | zero=>intro _;rw [e0];exact⟨rfl,fun _ _=>rfl⟩
  | succ k ih=>
   intro hk
   obtain⟨h1,h2⟩:=ih (by omega)
   obtain⟨⟨o,i⟩,hL⟩:∃ x,L[k]?=some x:=⟨L[k],List.getElem?_eq_getElem (by omega)⟩
   rw [pl.step_fr hL]
   have hmem:o∈ops.toList:=by
    have:=Array.mem_of_getElem? (pl.of hL)
    simpa using this
   cases hdst:o.dst with
   | none=>exact⟨h1,h2⟩
   | some d=>
    refine⟨by simpa [putA,GT] using h1,fun t ht=>?_⟩
    have hne:d≠t:=fun e=>ht (e ▸ hd o hmem d hdst)
    rw [← h2 t ht]
    simp [putA,GT,List.getElem?_set,hne]
 obtain⟨h1,h2⟩:=key L.length (Nat.le_refl _)
 rw [e1] at h1 h2
 exact⟨h1,h2⟩
variable {n0:Nat}{L:List (Oper × Nat)}{s:Nat→St}{wt:Nat→Bool}{v:Nat→AV}
variable {ρ₀:Rho}{h₀:Heap}{w₀:World}{d₀:List Deferred}{S:Nat→Bool}{ρ:Rho}{X:Heap}{w:World}{a:Act}
theorem Plan.unwanted (pl:Plan P call ops n0 L s wt v){k:Nat}{o:Oper}{i:Nat}(h:L[k]?=some (o,i))(hw:wt k=false):v k = .tup []∧(isEff P o=true→(s (k+1)).h=(s k).h):=by
 obtain⟨cur,_,hs⟩:=pl.step k o i h
 unfold stepFor at hs
 split at hs
 ·obtain⟨_,_,h2⟩:=hs;exact⟨(h2 hw).1,fun _=>by rw [(h2 hw).2]⟩
 ·split at hs
  ·obtain⟨_,_,h2⟩:=hs;exact⟨(h2 hw).1,fun _=>by rw [(h2 hw).2]⟩
  ·split at hs
   ·obtain⟨_,h',_,h2,e⟩:=hs
    exact⟨(h2 hw).1,fun _=>by rw [e];exact(h2 hw).2⟩
   ·obtain⟨_,_,h2,e⟩:=hs;exact⟨h2 hw,fun _=>by rw [e]⟩
theorem Inv.op (hG:Good P)(hcall:CallOk P call)(pl:Plan P call ops n0 L s wt v)(hn0:h₀.next≤n0)(iv:Inv P ops n0 L s wt v ρ₀ h₀ w₀ d₀ S ρ X w a){i:Nat}{o:Oper}(ho:ops[i]?=some o)(hS:S i=false)
  (he:∀ e∈o.after,Region.binds .any e=true→S e.on=true) {K:Act→World→Prop} {Q:Exit→Act→World→Prop}
  (hK:∀ ρ' X' w' a',Inv P ops n0 L s wt v ρ₀ h₀ w₀ d₀ (fun j=>S j||j == i) ρ' X' w' a'→K a' w'):wpOp P ops Q i K a w:=by
 obtain⟨k,hL,hk⟩:=pl.pos ho
 have hl:=iv.legit pl ho hS he
 have hlp:=pl.legit hL
 obtain⟨frX,hsl,hfr⟩:=id iv.fr
 have hag:Agree ops o (s k).fr frX:=hlp.agree pl.dr ho hl (pl.slots k (by omega)) hsl
 have hwant:=pl.wanted hL
 rw [hag.wanted] at hwant
 have hw:=Ip hfr hwant
 have hsame:=hag.ops (P:=P)
 have effcnt:isEff P o=true→cnt P ops (upto L k)=cnt P ops S:=fun hef=>by rw [hlp.eff pl.dr ho hef,hl.eff pl.dr ho hef]
 have effmade:isEff P o=true→∀ (m:Nat) (p:Oper) (j:Nat),m<k→L[m]?=some (p,j)→isMak P p=true→S j=true:=fun hef m p j hmk hm hp=>
  hl.bef j (pl.late k o i hL hef (by unfold isEff at hef;unfold isMak;cases hk:kindA P o<;>simp_all) m p j hmk hm hp)
 unfold wpOp
 rw [ho]
 simp only
 cases hwk:wt k with
 | false=>
  rw [if_neg (by rw [hw,hwk];simp)]
  obtain⟨hv,hh⟩:=pl.unwanted hL hwk
  have hu:VR ρ (v k) undef:=by rw [hv];exact VR.undef
  by_cases hef:isEff P o=true
  ·obtain⟨hsub,hn,_⟩:=iv.sub pl (by omega) (effcnt hef) (effmade hef)
   refine hK _ _ _ _ (iv.eff pl hL hl he hef (Step.refl iv.st.rel) (by rw [hh hef];exact hn) (fun x b _ h=>h) (fun x hx=>?_) (fun x _ h=>by rw [hh hef];exact h) hu)
   rw [hh hef]
   cases hg:(s k).h.get x with
   | none=>
    rcases hx with hx | hx
    ·exact absurd hg hx
    ·exact hx
   | some b=>exact hsub x b hg
  ·refine hK _ _ _ _ (iv.keep pl hL hl he (by simpa using hef) (fun x e b hown=>?_) hu)
   obtain⟨m,p,f,hm,_,hm3,_⟩:=hown
   have:=pl.uniq hL hm;subst this
   rw [hwk] at hm3;cases hm3
 | true=>
  rw [if_pos (by rw [hw,hwk])]
  left
  obtain⟨cur,hcur,hst⟩:=pl.step k o i hL
  unfold stepFor at hst
  by_cases hmk:isMak P o=true
  ·rw [if_pos hmk] at hst
   obtain⟨_,h1,_⟩:=hst
   obtain⟨b,f,hm,hv,_⟩:=h1 hwk
   have hown:Own P ops n0 L s wt (n0+makNo P ops i) i (cnt P ops (upto L k)) b:=⟨k,o,f,hL,hmk,hwk,hm,rfl,rfl⟩
   have hm':makeA P o frX=some (b,f):=by rw [← hsame.mak];exact hm
   obtain⟨obj,v',x,hrun,hb,hv',_⟩:=KR iv.st.rel hfr hm' (iv.new _ _ _ _ hown hl.out)
   unfold Oper.wp
   rw [hrun]
   exact hK _ _ _ _ (iv.mak pl hn0 hL hl he hmk hown hb (by rw [hv];exact hv'))
  ·have hno:∀ x e b,¬ Own P ops n0 L s wt x i e b:=fun x e b hown=>by
    obtain⟨m,p,f,hm,hm2,_⟩:=hown
    have:=pl.uniq hL hm;subst this
    rw [hL] at hm;cases hm
    exact hmk hm2
   rw [if_neg hmk] at hst
   by_cases hr:isRed P o=true
   ·rw [if_pos hr] at hst
    have hne:isEff P o=false:=by unfold isRed at hr;unfold isEff;cases hk:kindA P o<;>simp_all
    obtain⟨_,h1,_⟩:=hst
    have key:∃ G:Heap,(∀ x b,G.get x=some b→X.get x=some b)∧X.next≤G.next∧readA P o frX G=some (v k):=by
     rcases h1 hwk with⟨hc,heq,hrd,_⟩ | e
     ·have hcnt:cnt P ops (upto L k)=cnt P ops S:=by
       have a1:=hl.lo (P:=P);have a2:=hl.hi (P:=P);have b1:=hlp.lo (P:=P);have b2:=hlp.hi (P:=P)
       omega
      obtain⟨hsub,hn,_⟩:=iv.sub pl (by omega) hcnt fun m p j hmk' hm hp=>hl.bef j (hcur hc m p j hmk' hm hp)
      exact⟨(s k).h,hsub,by rw [hn];exact Nat.le_refl _,by rw [← hsame.red];exact hrd⟩
     ·have hin:(o,(s k).fr,v k,loA P (Region.before ops) ops.toList.zipIdx i,hiA P (Region.before ops) ops.toList.zipIdx i)∈(s L.length).cs:=
       (pl.grows (k:=k+1) L.length (by omega) (Nat.le_refl _)).2 _ (by rw [e];exact .head _)
      obtain⟨g,u,hg,hrd,hsm⟩:=KH pl.check _ _ _ _ _ hin (cnt P ops S) hl.lo hl.hi
      have hu:=Qx hsm
      subst hu
      have hgg:hp L s (cnt P ops S)=g:=pl.hp_at (Nat.le_refl _) hg
      refine⟨g,fun x b hx=>?_,by rw [iv.next,hgg];exact Nat.le_refl _,by rw [← hsame.red];exact hrd⟩
      rw [← hgg] at hx
      rw [iv.rest x (fun j e b' ho' _ hle=>by rw [iv.free x j e b' ho' hle] at hx;cases hx)]
      exact hx
    obtain⟨G,hsub,hn,hrd⟩:=key
    obtain⟨v',hv',hrun⟩:=KC (iv.st.rel.fewer hn hsub) hfr hrd
    unfold Oper.wp
    rw [hrun]
    exact hK _ _ _ _ (iv.keep pl hL hl he hne hno hv')
   ·rw [if_neg hr] at hst
    by_cases hef:isEff P o=true
    ·rw [if_pos hef] at hst
     obtain⟨_,h',h1,_,e⟩:=hst
     have hop:opA P call o frX (s k).h=some (v k,h'):=by rw [← hag.opA];exact h1 hwk
     obtain⟨hsub,hn,_⟩:=iv.sub pl (by omega) (effcnt hef) (effmade hef)
     refine MW hG hcall (iv.st.rel.fewer (by rw [hn];exact Nat.le_refl _) hsub) hfr hop fun ρ' w' v' hs hv'=>?_
     obtain⟨X',a1,a2,a3,a4⟩:=hs.frame iv.st.rel hn hsub
     exact hK _ _ _ _ (iv.eff pl hL hl he hef a4 (by rw [e];exact a1) a2 (by rw [e];exact a3) (by rw [e];exact hs.gone) hv')
    ·rw [if_neg hef] at hst
     obtain⟨_,h1,_,_⟩:=hst
     obtain⟨v',hv',hy⟩:=KG iv.st.rel.glob hfr (show pureA P o frX=some (v k) by rw [← hsame.pur];exact h1 hwk)
     unfold Oper.wp
     rw [hy w]
     exact hK _ _ _ _ (iv.keep pl hL hl he (by simpa using hef) hno hv')
theorem KO {α:Type}{p q:α→Bool}:∀ {l:List α} {x:α},x∈l→p x=true→q x=false→(∀ y∈l,q y=true→p y=true)→(l.filter q).length<(l.filter p).length
 | y::l,x,hx,hp,hq,h=>by
  have hle:=Eh (p:=q) (q:=p) (l:=l) fun z hz=>h z (.tail _ hz)
  simp only [List.filter_cons]
  rcases List.mem_cons.1 hx with rfl | hx
  ·rw [if_pos hp,if_neg (by rw [hq];simp)];simp;omega
  ·have ih:=KO hx hp hq fun z hz=>h z (.tail _ hz)
   by_cases hqy:q y=true
   ·rw [if_pos hqy,if_pos (h y (.head _) hqy)];simp;exact ih
   ·rw [if_neg hqy]
    split
    ·simp;omega
    ·exact ih
def unlisted (ops:Array Oper)(S:Nat→Bool):Nat:=((List.range ops.size).filter fun j=>!S j).length
theorem O5 (hG:Good P)(hcall:CallOk P call)(pl:Plan P call ops n0 L s wt v)(hn0:h₀.next≤n0){Q:Exit→Act→World→Prop}
  (hQ:∀ S ρ X w a,Inv P ops n0 L s wt v ρ₀ h₀ w₀ d₀ S ρ X w a→(∀ j,j<ops.size→S j=true)→Q .normal a w) :
  ∀ (fuel:Nat) (listed:Array Bool) (ρ:Rho) (X:Heap) (w:World) (a:Act),listed.size=ops.size→Inv P ops n0 L s wt v ρ₀ h₀ w₀ d₀ (fun j=>listed.getD j false) ρ X w a→
   unlisted ops (fun j=>listed.getD j false)≤fuel→wpAny P .any ops Q fuel listed a w:=by
 have getD2:∀ (listed:Array Bool) (j:Nat),j<listed.size→listed.getD j true=listed.getD j false:=fun listed j hj=>by
  simp [Array.getD_eq_getD_getElem?,hj]
 have done:∀ (listed:Array Bool),listed.size=ops.size→Back ops→Region.ready .any ops listed = []→∀ j,j<ops.size→listed.getD j false=true:=fun listed hsz hb hr=>by
  intro j
  induction j using Nat.strongRecOn with
  | _ j ih=>
   intro hj
   cases e:listed.getD j false with
   | true=>rfl
   | false=>
    have:j∈Region.ready .any ops listed:=mem_ready.2 ⟨by rw [getD2 listed j (by omega)];exact e,ops[j],Array.getElem?_eq_getElem hj,fun e' he' hbi=>by
     have hlt:=hb j ops[j] (Array.getElem?_eq_getElem hj) e' he' hbi
     exact ih e'.on hlt (by omega)⟩
    rw [hr] at this;cases this
 intro fuel
 induction fuel with
 | zero=>
  intro listed ρ X w a hsz iv hun
  have hall:∀ j,j<ops.size→listed.getD j false=true:=fun j hj=>by
   have h0:(List.range ops.size).filter (fun j=>!listed.getD j false) = []:=List.eq_nil_of_length_eq_zero (Nat.le_zero.1 hun)
   have:=List.filter_eq_nil_iff.1 h0 j (List.mem_range.2 hj)
   simpa using this
  refine⟨?_,hQ _ ρ X w a iv hall⟩
  cases hr:Region.ready .any ops listed with
  | nil=>rfl
  | cons i rest=>
   have hi:i∈Region.ready .any ops listed:=by rw [hr];exact .head _
   obtain⟨h1,o,ho,_⟩:=mem_ready.1 hi
   have hlt:i<ops.size:=(Array.getElem?_eq_some_iff.1 ho).1
   rw [getD2 listed i (by omega),hall i hlt] at h1;cases h1
 | succ fuel ih=>
  intro listed ρ X w a hsz iv hun
  refine⟨fun hr=>hQ _ ρ X w a iv (done listed hsz pl.dr.back hr),fun i hi=>?_⟩
  obtain⟨h1,o,ho,h2⟩:=mem_ready.1 hi
  have hlt:i<ops.size:=(Array.getElem?_eq_some_iff.1 ho).1
  rw [getD2 listed i (by omega)] at h1
  have hset:(fun j=>(listed.setIfInBounds i true).getD j false)=fun j=>listed.getD j false||j == i:=by
   funext j
   simp only [Array.getD_eq_getD_getElem?,Array.getElem?_setIfInBounds]
   by_cases e:i=j
   ·subst e;simp [show i<listed.size by omega]
   ·have:(j == i)=false:=by simpa using fun h=>e h.symm
    simp [e,this]
  refine iv.op hG hcall pl hn0 ho h1 h2 fun ρ' X' w' a' iv'=>ih _ ρ' X' w' a' (by simpa using hsz) (by rw [hset];exact iv') ?_
  rw [hset]
  have:=KO (l:=List.range ops.size) (p:=fun j=>!listed.getD j false) (q:=fun j=>!(listed.getD j false||j == i)) (x:=i) (List.mem_range.2 hlt) (by simp [h1]) (by simp) (fun y _ hy=>by simp at hy ⊢;exact hy.1)
  exact Nat.lt_succ_iff.1 (Nat.lt_of_lt_of_le this hun)
theorem MK (hG:Good P)(hm:P.follows .mixedOrders=true)(hcall:CallOk P call){id:Nat}{ρ:Rho}{fr fr':Fr}{a:Act}{h h':Heap}{w:World}{Q:Exit→Act→World→Prop}
  (hx:regionD P call ops fr h=some (fr',h')) (hr:R P ρ h w) (hf:FR ρ fr a.tmps)
  (hQ:∀ ρ' w' a',Step P ρ h w ρ' h' w'→FR ρ' fr' a'.tmps→a'.defers=a.defers→Q .normal a' w'):(Code.region id ops true).wp P Q a w:=by
 obtain⟨L,s,wt,v,pl,e0,e1,e2,e3⟩:=Plan.make hx
 have hz:(fun j=>(Array.replicate ops.size false).getD j false)=fun _=>false:=by
  funext j
  simp only [Array.getD_eq_getD_getElem?,Array.getElem?_replicate]
  split<;>rfl
 have hc0:cnt P ops (fun _=>false)=0:=by unfold cnt;simp
 have hH0:hp L s 0=(s 0).h:=pl.hp_at (k:=0) (by omega) (by rw [pl.one];rfl)
 have fresh:∀ x,h.next≤x→h.get x=none:=fun x hle=>by
  cases hg:h.get x with
  | none=>rfl
  | some b=>
   obtain⟨β,y,hy,_⟩:=(hr.blk x b hg).at
   have:=hr.bnd x _ hy;omega
 have hst0:Step P ρ h w ρ ⟨h.next+maks P ops,h.mem⟩ w.drew:=by
  have st:=Step.drew hr
  exact⟨st.rel.fewer (by simp) fun i b hb=>hb,st.le,st.keeps,by simp,st.gone,st.fresh,st.grow⟩
 refine wp_region_any hm (O5 (ρ₀:=ρ) (h₀:=h) (w₀:=w) (d₀:=a.defers) hG hcall pl (Nat.le_refl _) (fun S ρ' X w' a' iv hall=>?_) ops.size _ ρ ⟨h.next+maks P ops,h.mem⟩ w.drew a (by simp) ?_ ?_)
 ·have hS:∀ j,S j=true↔upto L L.length j=true:=fun j=>by
   constructor
   ·intro hj
    have hlt:=iv.rng j hj
    obtain⟨m,hm',hmlt⟩:=pl.pos (i:=j) (o:=ops[j]) (Array.getElem?_eq_getElem hlt)
    exact Df.2 ⟨m,_,hmlt,hm'⟩
   ·intro hj
    obtain⟨m,o,_,hm'⟩:=Df.1 hj
    exact hall j (Array.getElem?_eq_some_iff.1 (pl.of hm')).1
  have hSe:S=upto L L.length:=funext fun j=>Bool.eq_iff_iff.2 (hS j)
  obtain⟨frX,hsl,hfr⟩:=iv.fr
  rw [hSe] at hsl
  have hfe:frX=fr':=by rw [← e2];exact hsl.same (pl.slots L.length (Nat.le_refl _))
  obtain⟨p1,p2,p3⟩:=pl.heap L.length (Nat.le_refl _)
  rw [← hSe] at p1 p2 p3
  rw [e3] at p1 p2 p3
  refine hQ ρ' w' a' (iv.st.like (by rw [p1,iv.next]) fun x=>?_) (by rw [← hfe];exact hfr) iv.defers
  by_cases hex:∃ i e b,Own P ops h.next L s wt x i e b∧S i=true∧cnt P ops S≤e
  ·obtain⟨i,e,b,hw,hi,hle⟩:=hex
   have hee:e=cnt P ops S:=by
    have hw2:=hw
    obtain⟨m,_,_,hm',_,_,_,_,he'⟩:=hw2
    have hmlt:=(List.getElem?_eq_some_iff.1 hm').1
    have:=Lu (P:=P) (ops:=ops) (S:=upto L m) (S':=S) fun j hj=>by rw [hSe];exact J2 (by omega) hj
    omega
   rw [p2 x i e b hw hi hee,iv.own x i e b hw hi hle]
  ·rw [p3 x fun i e b hw hi he=>hex ⟨i,e,b,hw,hi,by omega⟩,iv.rest x fun i e b hw hi hle=>hex ⟨i,e,b,hw,hi,hle⟩]
 ·rw [hz]
  refine⟨fun j o hj=>by simp at hj,fun i hi=>by simp at hi,hst0,⟨fr,?_,hf⟩,?_,by simp,fun x i e b _ hi=>by simp at hi,fun x _=>?_,fun x i e b hw _=>?_,fun x i e b hw _=>?_,rfl⟩
  ·rw [e0]
   refine⟨rfl,fun t _=>?_⟩
   have:lastW ops (fun _=>false) t=none:=by
    cases e:lastW ops (fun _=>false) t with
    | none=>rfl
    | some m=>have:=(LE e).1;cases this
   rw [this]
  ·rw [hc0,hH0,e1]
  ·rw [hc0,hH0,e1]
  ·rw [hc0,hH0,e1]
   exact fresh x (hw.range pl).1
  ·cases hρ:ρ x with
   | none=>rfl
   | some y=>have:=hr.bnd x y hρ;have:=(hw.range pl).1;omega
 ·unfold unlisted
  exact Nat.le_trans (List.length_filter_le _ _) (by simp)
end
end Go.Ab
