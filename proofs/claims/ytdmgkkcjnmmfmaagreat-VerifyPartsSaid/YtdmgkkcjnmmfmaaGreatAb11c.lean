import Derived.Test.YtdmgkkcjnmmfmaaGreatAb11b
namespace Go.Ab
open Go
set_option linter.all false
section
variable {P:Program}{call:CallF}{ops:Array Oper}
theorem JK {o:Oper}{i:Nat}:(o,i)∈ops.toList.zipIdx↔ops[i]?=some o:=by
 rw [List.mem_zipIdx_iff_getElem?];simp
theorem M0:(ops.toList.zipIdx.map (·.2)).Nodup:=by
 have:ops.toList.zipIdx.map (·.2)=List.range' 0 ops.toList.length:=by
  rw [← List.zipIdx_map_snd 0 ops.toList]
 rw [this];exact List.nodup_range'
def cnt (P:Program)(ops:Array Oper)(S:Nat→Bool):Nat:=(ops.toList.zipIdx.filter fun(o,j)=>isEff P o && S j).length
theorem Eh {α:Type}{p q:α→Bool}:∀ {l:List α},(∀ x∈l,p x=true→q x=true)→(l.filter p).length≤(l.filter q).length
 | [],_=>Nat.le_refl _
 | x::l,h=>by
  have ih:=Eh (p:=p) (q:=q) (l:=l) fun y hy=>h y (.tail _ hy)
  have hx:=h x (.head _)
  simp only [List.filter_cons]
  by_cases hp:p x=true
  ·rw [if_pos hp,if_pos (hx hp)];simp;exact ih
  ·rw [if_neg hp]
   split
   ·simp;omega
   ·exact ih
theorem LA {S:Nat→Bool}{o:Oper}{i:Nat}(hS:S i=false):∀ {l:List (Oper × Nat)},(l.map (·.2)).Nodup→(o,i)∈l→
  (l.filter fun(o,j)=>isEff P o && (S j||j == i)).length=(l.filter fun(o,j)=>isEff P o && S j).length+(if isEff P o then 1 else 0)
 | [],_,hm=>by cases hm
 | (p,j)::l,hn,hm=>by
  simp only [List.map_cons,List.nodup_cons] at hn
  by_cases hji:j=i
  ·subst hji
   have hpo:(o,j)=(p,j):=by
    rcases List.mem_cons.1 hm with h | h
    ·exact h
    ·exact absurd (List.mem_map.2 ⟨_,h,rfl⟩) hn.1
   cases hpo
   have hrest:(l.filter fun(o,k)=>isEff P o && (S k||k == j))=l.filter fun(o,k)=>isEff P o && S k:=by
    refine List.filter_congr fun x hx=>?_
    obtain⟨q,k⟩:=x
    have hk:(k == j)=false:=beq_eq_false_iff_ne.2 fun e=>hn.1 (e ▸ List.mem_map.2 ⟨_,hx,rfl⟩)
    simp only [hk,Bool.or_false]
   simp only [List.filter_cons,hrest,hS]
   cases he:isEff P o<;>simp
  ·have hm':(o,i)∈l:=by
    rcases List.mem_cons.1 hm with h | h
    ·cases h;exact absurd rfl hji
    ·exact h
   have ih:=LA hS hn.2 hm'
   have hb:(j == i)=false:=by simpa using hji
   simp only [List.filter_cons,hb,Bool.or_false]
   cases he:(isEff P p && S j)<;>simp [ih]
   omega
theorem JE {S:Nat→Bool}{o:Oper}{i:Nat}(hi:ops[i]?=some o)(hS:S i=false):cnt P ops (fun j=>S j||j == i)=cnt P ops S+(if isEff P o then 1 else 0):=
 LA hS M0 (JK.2 hi)
structure Legit (ops:Array Oper)(S:Nat→Bool)(i:Nat):Prop where
 bef:∀ j,Bef ops j i→S j=true
 aft:∀ j,S j=true→¬ Bef ops i j
 out:S i=false
theorem Hk {ok:Nat→Nat→Oper→Oper→Bool}:∀ {l:List (Oper × Nat)},pairsOk ok l=true→∀ {a b:Nat} {o p:Oper} {i j:Nat},a<b→l[a]?=some (o,i)→l[b]?=some (p,j)→ok i j o p=true
 | [],_,a,b,o,p,i,j,_,ha,_=>by simp at ha
 | (q,k)::l,h,a,b,o,p,i,j,hab,ha,hb=>by
  simp only [pairsOk,Bool.and_eq_true,List.all_eq_true] at h
  cases b with
  | zero=>omega
  | succ b=>
   simp only [List.getElem?_cons_succ] at hb
   cases a with
   | zero=>
    simp only [List.getElem?_cons_zero,Option.some.injEq,Prod.mk.injEq] at ha
    obtain⟨rfl,rfl⟩:=ha
    exact h.1 _ (List.mem_of_getElem? hb)
   | succ a=>
    simp only [List.getElem?_cons_succ] at ha
    exact Hk h.2 (by omega) ha hb
structure DrawOk (P:Program)(ops:Array Oper):Prop where
 back:Back ops
 good:∀ (i:Nat) (o:Oper),ops[i]?=some o→isBad P o=false
 pair:∀ (i j:Nat) (o p:Oper),i<j→ops[i]?=some o→ops[j]?=some p→(Bef ops i j∨o.apart ops p=true)∧(isEff P o=true→isEff P p=true→Bef ops i j)
theorem NU (h:drawOk P ops=true):DrawOk P ops:=by
 unfold drawOk at h
 simp only [Bool.and_eq_true,List.all_eq_true] at h
 obtain⟨h1,h2⟩:=h
 have at1:=fun(i:Nat) (o:Oper) (ho:ops[i]?=some o)=>h1 (o,i) (JK.2 ho)
 refine⟨fun j o ho e he hb=>?_,fun i o ho=>?_,fun i j o p hij ho hp=>?_⟩
 ·have:=(at1 j o ho).1.2
  simp only [Array.all_eq_true_iff_forall_mem] at this
  have:=this e he
  simpa [hb] using this
 ·have:=(at1 i o ho).1.1
  simpa using this
 ·have:=Hk h2 (o:=o) (p:=p) (i:=i) (j:=j) hij (by simpa [List.getElem?_zipIdx] using ho) (by simpa [List.getElem?_zipIdx] using hp)
  simp only [Bool.and_eq_true,Bool.or_eq_true,Bool.not_eq_true',Bool.and_eq_false_iff] at this
  refine⟨this.1,fun he hf=>?_⟩
  rcases this.2 with(h | h) | h
  ·rw [he] at h;cases h
  ·rw [hf] at h;cases h
  ·exact h
theorem Legit.lo {S:Nat→Bool}{i:Nat}(hl:Legit ops S i):loA P (Region.before ops) ops.toList.zipIdx i≤cnt P ops S:=by
 unfold loA cnt
 refine Eh fun x _ hx=>?_
 obtain⟨o,j⟩:=x
 simp only [Bool.and_eq_true] at hx ⊢
 exact⟨hx.1,hl.bef j hx.2⟩
theorem Legit.hi {S:Nat→Bool}{i:Nat}(hl:Legit ops S i):cnt P ops S≤hiA P (Region.before ops) ops.toList.zipIdx i:=by
 unfold hiA cnt
 refine Eh fun x _ hx=>?_
 obtain⟨o,j⟩:=x
 simp only [Bool.and_eq_true,Bool.not_eq_true'] at hx ⊢
 exact⟨hx.1,by have:=hl.aft j hx.2;simpa [Bef] using this⟩
theorem Legit.eff {S:Nat→Bool}{i:Nat}{o:Oper}(hd:DrawOk P ops)(hl:Legit ops S i)(ho:ops[i]?=some o)(he:isEff P o=true):cnt P ops S=loA P (Region.before ops) ops.toList.zipIdx i:=by
 refine Nat.le_antisymm ?_ hl.lo
 unfold loA cnt
 refine Eh fun x hx hx'=>?_
 obtain⟨p,j⟩:=x
 simp only [Bool.and_eq_true] at hx' ⊢
 refine⟨hx'.1,?_⟩
 have hp:=JK.1 hx
 rcases Nat.lt_trichotomy j i with h | h | h
 ·exact(hd.pair j i p o h hp ho).2 hx'.1 he
 ·subst h;have:=hx'.2;rw [hl.out] at this;cases this
 ·exact absurd ((hd.pair i j o p h ho hp).2 he hx'.1) (hl.aft j hx'.2)
def SlotInv (ops:Array Oper)(val:Nat→AV)(fr₀:Fr)(S:Nat→Bool)(fr:Fr):Prop:=
 fr.length=fr₀.length∧∀ s,s<fr₀.length→fr.getD s .bot=match lastW ops S s with | some m=>val m | none=>fr₀.getD s .bot
theorem Ph {i:Nat}{o:Oper}(h:ops[i]?=some o):(ops[i]?).bind (·.dst)=o.dst:=by rw [h];rfl
theorem SlotInv.put {val:Nat→AV}{fr₀ fr:Fr}{S:Nat→Bool}{i:Nat}{o:Oper}(hd:DrawOk P ops)(ho:ops[i]?=some o)(hl:Legit ops S i)(h:SlotInv ops val fr₀ S fr) :
  SlotInv ops val fr₀ (fun j=>S j||j == i) (putA fr o.dst (val i)):=by
 have hsize:i<ops.size:=(Array.getElem?_eq_some_iff.1 ho).1
 have hlt:∀ s,∀ j,S j=true→(ops[j]?).bind (·.dst)=some s→(ops[i]?).bind (·.dst)=some s→j<i:=fun s j hj hjs his=>by
  rcases Nat.lt_trichotomy j i with h | h | h
  ·exact h
  ·subst h;rw [hl.out] at hj;cases hj
  ·cases hp:ops[j]? with
   | none=>simp [hp] at hjs
   | some p=>
    rw [hp] at hjs
    rw [Ph ho] at his
    rcases (hd.pair i j o p h ho hp).1 with hb | hb
    ·exact absurd hb (hl.aft j hj)
    ·exact absurd hjs ((Oper.apart_spec hb).2.1 s his)
 refine⟨?_,fun s hs=>?_⟩
 ·rw [← h.1];cases o.dst<;>simp [putA,GT]
 ·rw [PY hsize (hlt s),Ph ho]
  cases hdst:o.dst with
  | none=>simp only [putA,reduceCtorEq,if_false];exact h.2 s hs
  | some d=>
   by_cases e:d=s
   ·subst e
    have:d<fr.length:=by rw [h.1];exact hs
    simp [putA,GT,List.getD_eq_getElem?_getD,List.getElem?_set,this]
   ·simp only [putA,GT,Option.some.injEq,e,if_false]
    rw [← h.2 s hs]
    simp [List.getD_eq_getElem?_getD,List.getElem?_set,e]
theorem Legit.sees {S:Nat→Bool}{i j t:Nat}{o:Oper}(hd:DrawOk P ops)(ho:ops[i]?=some o)(hl:Legit ops S i)(ht:t∈o.looksAt ops)(hj:(ops[j]?).bind (·.dst)=some t):S j=decide (j<i):=by
 cases hp:ops[j]? with
 | none=>simp [hp] at hj
 | some p=>
  rw [Ph hp] at hj
  rcases Nat.lt_trichotomy j i with h | h | h
  ·rw [decide_eq_true h]
   rcases (hd.pair j i p o h hp ho).1 with hb | hb
   ·exact hl.bef j hb
   ·exact absurd ht ((Oper.apart_spec hb).1 t hj)
  ·subst h;rw [hl.out];simp
  ·have hn : ¬ j<i:=by omega
   rw [decide_eq_false hn]
   rcases (hd.pair i j o p h ho hp).1 with hb | hb
   ·cases hs:S j with
    | false=>rfl
    | true=>exact absurd hb (hl.aft j hs)
   ·exact absurd ht ((Oper.apart_spec hb).2.2 t hj)
theorem Legit.agree {val:Nat→AV}{fr₀ fr fr':Fr}{S S':Nat→Bool}{i:Nat}{o:Oper}(hd:DrawOk P ops)(ho:ops[i]?=some o)(hl:Legit ops S i)(hl':Legit ops S' i)
  (h:SlotInv ops val fr₀ S fr) (h':SlotInv ops val fr₀ S' fr'):Agree ops o fr fr':=by
 intro t ht
 by_cases hlt:t<fr₀.length
 ·rw [h.2 t hlt,h'.2 t hlt,KJ (Y:=S') fun j _ hj=>(hl.sees hd ho ht hj).trans (hl'.sees hd ho ht hj).symm]
 ·have e:fr.length≤t:=by rw [h.1];exact Nat.le_of_not_lt hlt
  have e':fr'.length≤t:=by rw [h'.1];exact Nat.le_of_not_lt hlt
  simp [List.getD_eq_getElem?_getD,e,e']
theorem SlotInv.same {val:Nat→AV}{fr₀ fr fr':Fr}{S:Nat→Bool}(h:SlotInv ops val fr₀ S fr)(h':SlotInv ops val fr₀ S fr'):fr=fr':=by
 refine List.ext_getElem? fun s=>?_
 by_cases hs:s<fr₀.length
 ·have e:=(h.2 s hs).trans (h'.2 s hs).symm
  have e1:s<fr.length:=by rw [h.1];exact hs
  have e2:s<fr'.length:=by rw [h'.1];exact hs
  simpa [List.getD_eq_getElem?_getD,e1,e2] using e
 ·rw [List.getElem?_eq_none (by rw [h.1];omega),List.getElem?_eq_none (by rw [h'.1];omega)]
end
end Go.Ab
