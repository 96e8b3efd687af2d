import Derived.Test.YtdmgkkcjnmmfmaaGreatAb11
namespace Go.Ab
open Go
set_option linter.all false
theorem Pk (acc:Array Nat)(i:Nat):∀ (es:List Edge) (s:Nat),
  ((es.foldl (fun s e=>if Region.binds .any e then s ||| 2 ^ e.on ||| acc.getD e.on 0 else s) s).testBit i=true)→
  s.testBit i=true∨∃ e∈es,Region.binds .any e=true∧(i=e.on∨(acc.getD e.on 0).testBit i=true)
 | [],s,h=>.inl h
 | e::es,s,h=>by
  simp only [List.foldl_cons] at h
  rcases Pk acc i es _ h with h | ⟨e',he',h1,h2⟩
  ·split at h
   ·rename_i hb
    simp only [Nat.testBit_or,Bool.or_eq_true,Nat.testBit_two_pow,decide_eq_true_eq] at h
    rcases h with(h | h) | h
    ·exact .inl h
    ·exact .inr ⟨e,.head _,hb,.inl h.symm⟩
    ·exact .inr ⟨e,.head _,hb,.inr h⟩
   ·exact .inl h
  ·exact .inr ⟨e',.tail _ he',h1,h2⟩
theorem KA (F:Array Nat→Oper→Array Nat)(row:Array Nat→Oper→Nat)(hF:∀ acc o,F acc o=acc.push (row acc o)):∀ (l:List Oper) (acc:Array Nat),
  (l.foldl F acc).size=acc.size+l.length∧(∀ j,j<acc.size→(l.foldl F acc).getD j 0=acc.getD j 0)∧
  ∀ k o,l[k]?=some o→∃ acc':Array Nat,acc'.size=acc.size+k∧(l.foldl F acc).getD (acc.size+k) 0=row acc' o∧∀ j,j<acc.size+k→acc'.getD j 0=(l.foldl F acc).getD j 0
 | [],acc=>⟨rfl,fun _ _=>rfl,fun k o h=>by simp at h⟩
 | o::l,acc=>by
  simp only [List.foldl_cons,hF]
  obtain⟨h1,h2,h3⟩:=KA F row hF l (acc.push (row acc o))
  simp only [Array.size_push] at h1 h2 h3
  have hold:∀ j,j<acc.size→(acc.push (row acc o)).getD j 0=acc.getD j 0:=fun j hj=>by
   simp [Array.getD_eq_getD_getElem?,Array.getElem?_push,Nat.ne_of_lt hj]
  refine⟨by rw [h1];simp;omega,fun j hj=>(h2 j (by omega)).trans (hold j hj),fun k p hp=>?_⟩
  cases k with
  | zero=>
   simp only [List.getElem?_cons_zero,Option.some.injEq] at hp
   subst hp
   refine⟨acc,by simp,?_,fun j hj=>?_⟩
   ·rw [Nat.add_zero,h2 acc.size (by omega)]
    simp [Array.getD_eq_getD_getElem?]
   ·rw [Nat.add_zero] at hj
    rw [h2 j (by omega),hold j hj]
  | succ k=>
   simp only [List.getElem?_cons_succ] at hp
   obtain⟨acc',a1,a2,a3⟩:=h3 k p hp
   refine⟨acc',by rw [a1];omega,by rw [← a2];congr 1;omega,fun j hj=>a3 j (by omega)⟩
def Bef (ops:Array Oper)(i j:Nat):Prop:=((Region.before ops).getD j 0).testBit i=true
theorem Bef.edge {ops:Array Oper}{i j:Nat}(h:Bef ops i j):∃ o,ops[j]?=some o∧∃ e∈o.after,Region.binds .any e=true∧(i=e.on∨(e.on<j∧Bef ops i e.on)):=by
 unfold Bef at h ⊢
 unfold Region.before at h ⊢
 rw [← Array.foldl_toList] at h ⊢
 obtain⟨h1,h2,h3⟩:=KA (fun acc o=>acc.push (o.after.foldl (fun s e=>if Region.binds .any e then s ||| 2 ^ e.on ||| acc.getD e.on 0 else s) 0)) (fun acc o=>o.after.foldl (fun s e=>if Region.binds .any e then s ||| 2 ^ e.on ||| acc.getD e.on 0 else s) 0) (fun _ _=>rfl) ops.toList #[]
 simp only [List.size_toArray,List.length_nil,Nat.zero_add] at h1 h3
 cases ho:ops[j]? with
 | none=>
  have hge:ops.size≤j:=Array.getElem?_eq_none_iff.1 ho
  rw [Array.getD_eq_getD_getElem?,Array.getElem?_eq_none (by rw [h1];simpa using hge)] at h
  simp at h
 | some o=>
  obtain⟨acc',a1,a2,a3⟩:=h3 j o (by simpa using ho)
  rw [a2] at h
  rw [← Array.foldl_toList] at h
  rcases Pk acc' i _ _ h with h | ⟨e,he,hb,hi⟩
  ·simp at h
  ·refine⟨o,rfl,e,by simpa using he,hb,?_⟩
   rcases hi with hi | hi
   ·exact .inl hi
   ·by_cases hlt:e.on<j
    ·refine .inr ⟨hlt,?_⟩
     rw [← a3 e.on hlt];exact hi
    ·rw [Array.getD_eq_getD_getElem?,Array.getElem?_eq_none (by omega)] at hi
     simp at hi
def Back (ops:Array Oper):Prop:=∀ j o,ops[j]?=some o→∀ e∈o.after,Region.binds .any e=true→e.on<j
theorem Bef.lt {ops:Array Oper}(hb:Back ops):∀ (j:Nat) {i:Nat},Bef ops i j→i<j:=by
 intro j
 induction j using Nat.strongRecOn with
 | _ j ih=>
  intro i h
  obtain⟨o,ho,e,he,hbi,hi⟩:=h.edge
  have:=hb j o ho e he hbi
  rcases hi with rfl | ⟨_,hi⟩
  ·exact this
  ·exact Nat.lt_trans (ih e.on this hi) this
def Down (ops:Array Oper)(S:Nat→Prop):Prop:=∀ j o,S j→ops[j]?=some o→∀ e∈o.after,Region.binds .any e=true→S e.on
theorem Down.bef {ops:Array Oper}{S:Nat→Prop}(hd:Down ops S)(hb:Back ops):∀ (j:Nat) {i:Nat},Bef ops i j→(∀ o,ops[j]?=some o→∀ e∈o.after,Region.binds .any e=true→S e.on)→S i:=by
 intro j
 induction j using Nat.strongRecOn with
 | _ j ih=>
  intro i h hS
  obtain⟨o,ho,e,he,hbi,hi⟩:=h.edge
  have hlt:=hb j o ho e he hbi
  have hSe:=hS o ho e he hbi
  rcases hi with rfl | ⟨_,hi⟩
  ·exact hSe
  ·exact ih e.on hlt hi fun p hp e' he' hb'=>hd e.on p hSe hp e' he' hb'
def wrote (ops:Array Oper)(X:Nat→Bool)(s:Nat)(j:Nat):Bool:=X j && (((ops[j]?).bind (·.dst)) == some s)
def lastW (ops:Array Oper)(X:Nat→Bool)(s:Nat):Option Nat:=((List.range ops.size).filter (wrote ops X s)).getLast?
theorem KJ {ops:Array Oper}{X Y:Nat→Bool}{s:Nat}(h:∀ j,j<ops.size→(ops[j]?).bind (·.dst)=some s→X j=Y j):lastW ops X s=lastW ops Y s:=by
 unfold lastW
 congr 1
 refine List.filter_congr fun j hj=>?_
 simp only [List.mem_range] at hj
 unfold wrote
 by_cases hd:(ops[j]?).bind (·.dst)=some s
 ·rw [h j hj hd]
 ·have:(((ops[j]?).bind (·.dst)) == some s)=false:=by simpa using hd
  rw [this];simp
theorem PY {ops:Array Oper}{X:Nat→Bool}{s i:Nat}(hi:i<ops.size)(hlt:∀ j,X j=true→(ops[j]?).bind (·.dst)=some s→(ops[i]?).bind (·.dst)=some s→j<i) :
  lastW ops (fun j=>X j||j == i) s=if (ops[i]?).bind (·.dst)=some s then some i else lastW ops X s:=by
 by_cases hd:(ops[i]?).bind (·.dst)=some s
 ·rw [if_pos hd]
  unfold lastW
  have hsplit:List.range ops.size=List.range (i+1)++(List.range' (i+1) (ops.size-(i+1))):=by
   obtain⟨d,hd'⟩:∃ d,ops.size=(i+1)+d:=⟨ops.size-(i+1),by omega⟩
   rw [hd',List.range_eq_range',List.range_eq_range',← List.range'_append_1,Nat.zero_add]
   congr 2
   omega
  rw [hsplit,List.filter_append]
  have hnil:(List.range' (i+1) (ops.size-(i+1))).filter (wrote ops (fun j=>X j||j == i) s) = []:=by
   refine List.filter_eq_nil_iff.2 fun j hj=>?_
   simp only [List.mem_range'_1] at hj
   unfold wrote
   simp only [Bool.and_eq_true,Bool.or_eq_true,beq_iff_eq,not_and]
   intro hX hds
   rcases hX with hX | hX
   ·have:=hlt j hX hds hd;omega
   ·omega
  rw [hnil,List.append_nil,List.range_succ,List.filter_append]
  have hone : [i].filter (wrote ops (fun j=>X j||j == i) s) = [i]:=by simp [wrote,hd]
  rw [hone]
  simp
 ·rw [if_neg hd]
  refine KJ fun j _ hj=>?_
  by_cases e:j=i
  ·subst e;exact absurd hj hd
  ·simp [e]
theorem LE {ops:Array Oper}{X:Nat→Bool}{s m:Nat}(h:lastW ops X s=some m):X m=true∧(ops[m]?).bind (·.dst)=some s:=by
 have:=List.mem_of_getLast? h
 simp only [List.mem_filter,wrote,Bool.and_eq_true,beq_iff_eq] at this
 exact this.2
end Go.Ab
