import Derived.Test.YtdmgkkcjnmmfmaaGreatAb11d
namespace Go.Ab
open Go
set_option linter.all false
section
variable {P:Program}{call:CallF}{ops:Array Oper}
structure Plan (P:Program)(call:CallF)(ops:Array Oper)(n0:Nat)(L:List (Oper × Nat))(s:Nat→St)(wt:Nat→Bool)(v:Nat→AV):Prop where
 dr:DrawOk P ops
 perm:L.Perm ops.toList.zipIdx
 lin:∀ (a b:Nat) (o p:Oper) (i j:Nat),a<b→L[a]?=some (o,i)→L[b]?=some (p,j)→¬ Bef ops j i
 late:∀ (k:Nat) (o:Oper) (j:Nat),L[k]?=some (o,j)→isEff P o=true→isMak P o=false→∀ m p i,m<k→L[m]?=some (p,i)→isMak P p=true→Bef ops i j
 step:∀ (k:Nat) (o:Oper) (i:Nat),L[k]?=some (o,i)→∃ cur,(cur=true→∀ m p j,m<k→L[m]?=some (p,j)→isMak P p=true→Bef ops j i)∧
  StepD P call ops n0 (stepFor P ops (Region.before ops) ops.toList.zipIdx o i cur) (s k) (wt k) (v k) (s (k+1))
 check:checkD P (s L.length).hs (s L.length).cs=true
 one:(s 0).hs = [(s 0).h]
variable {n0:Nat}{L:List (Oper × Nat)}{s:Nat→St}{wt:Nat→Bool}{v:Nat→AV}
theorem Plan.make {fr fr':Fr}{h h':Heap}(hx:regionD P call ops fr h=some (fr',h')):∃ L s wt v,Plan P call ops h.next L s wt v∧(s 0).fr=fr∧(s 0).h=⟨h.next+maks P ops,h.mem⟩∧
  (s L.length).fr=fr'∧(s L.length).h=h':=by
 unfold regionD at hx
 split at hx
 ·rename_i hc
  simp only [Bool.and_eq_true] at hc
  obtain⟨⟨h1,h2⟩,h3⟩:=hc
  obtain⟨s,wt,v,e0,e1,e2,e3,e4⟩:=KU (planD P ops) ⟨fr,⟨h.next+maks P ops,h.mem⟩,[⟨h.next+maks P ops,h.mem⟩],[]⟩ hx
  have hpl:=Hc (P:=P) (ops:=ops) (Region.before ops) ops.toList.zipIdx (lateOrder P (Region.before ops) ops.toList.zipIdx []) []
  have hlen:(planD P ops).length=(lateOrder P (Region.before ops) ops.toList.zipIdx []).length:=hpl.1
  rw [hlen] at e2 e3 e4
  refine⟨lateOrder P (Region.before ops) ops.toList.zipIdx [],s,wt,v,⟨NU h1,by simpa using GP (P:=P) (Region.before ops) ops.toList.zipIdx [],?_,?_,?_,e2,by rw [e0]⟩,by rw [e0],by rw [e0],e3,e4⟩
  ·intro a b o p i j hab ha hb hbef
   have:=Hk h3 hab ha hb
   simp only [Bool.not_eq_true'] at this
   unfold Bef at hbef
   rw [this] at hbef;cases hbef
  ·intro k o j hk he hm m p i hmk hm' hp
   exact(IX _ _ [] h2 k o j hk he hm).2 m p i hmk hm' hp
  ·intro k o i hk
   obtain⟨cur,a1,a2⟩:=hpl.2 k o i hk
   exact⟨cur,fun hc m p j hmk hm hp=>(a2 hc).2 m p j hmk hm hp,e1 k _ a1⟩
 ·cases hx
theorem Plan.of (pl:Plan P call ops n0 L s wt v){k:Nat}{o:Oper}{i:Nat}(h:L[k]?=some (o,i)):ops[i]?=some o:=
 JK.1 (pl.perm.mem_iff.1 (List.mem_of_getElem? h))
theorem Plan.pos (pl:Plan P call ops n0 L s wt v){o:Oper}{i:Nat}(h:ops[i]?=some o):∃ k,L[k]?=some (o,i)∧k<L.length:=by
 obtain⟨k,hk⟩:=List.getElem?_of_mem (pl.perm.mem_iff.2 (JK.2 h))
 exact⟨k,hk,(List.getElem?_eq_some_iff.1 hk).1⟩
theorem Plan.nodup (pl:Plan P call ops n0 L s wt v):(L.map (·.2)).Nodup:=(pl.perm.map (·.2)).nodup_iff.2 M0
theorem Km {α:Type}:∀ {l:List α},l.Nodup→∀ {a b:Nat} {x:α},l[a]?=some x→l[b]?=some x→a=b
 | [],_,a,b,x,h,_=>by simp at h
 | y::l,hn,a,b,x,ha,hb=>by
  rw [List.nodup_cons] at hn
  cases a<;>cases b
  ·rfl
  ·simp only [List.getElem?_cons_zero,List.getElem?_cons_succ,Option.some.injEq] at ha hb
   subst ha;exact absurd (List.mem_of_getElem? hb) hn.1
  ·simp only [List.getElem?_cons_zero,List.getElem?_cons_succ,Option.some.injEq] at ha hb
   subst hb;exact absurd (List.mem_of_getElem? ha) hn.1
  ·simp only [List.getElem?_cons_succ] at ha hb
   rw [Km hn.2 ha hb]
theorem Plan.uniq (pl:Plan P call ops n0 L s wt v){k m:Nat}{o p:Oper}{i:Nat}(h:L[k]?=some (o,i))(h':L[m]?=some (p,i)):k=m:=
 Km pl.nodup (x:=i) (by simp [List.getElem?_map,h]) (by simp [List.getElem?_map,h'])
def upto (L:List (Oper × Nat))(k:Nat):Nat→Bool:=fun j=>(L.take k).any fun x=>x.2 == j
theorem Df {k j:Nat}:upto L k j=true↔∃ m o,m<k∧L[m]?=some (o,j):=by
 unfold upto
 simp only [List.any_eq_true,beq_iff_eq]
 constructor
 ·rintro⟨⟨o,i⟩,hm,rfl⟩
  obtain⟨m,hm⟩:=List.getElem?_of_mem hm
  rw [List.getElem?_take] at hm
  split at hm
  ·rename_i h;exact⟨m,o,h,hm⟩
  ·cases hm
 ·rintro⟨m,o,h,hm⟩
  exact⟨(o,j),List.mem_of_getElem? (i:=m) (by rw [List.getElem?_take,if_pos h];exact hm),rfl⟩
theorem D5 {k:Nat}{o:Oper}{i:Nat}(h:L[k]?=some (o,i)):upto L (k+1)=fun j=>upto L k j||j == i:=by
 funext j
 rw [Bool.eq_iff_iff]
 simp only [Bool.or_eq_true,beq_iff_eq,Df]
 constructor
 ·rintro⟨m,p,hm,hp⟩
  by_cases e:m=k
  ·subst e;rw [h] at hp;cases hp;exact .inr rfl
  ·exact .inl ⟨m,p,by omega,hp⟩
 ·rintro(⟨m,p,hm,hp⟩ | rfl)
  ·exact⟨m,p,by omega,hp⟩
  ·exact⟨k,o,by omega,h⟩
theorem Plan.out (pl:Plan P call ops n0 L s wt v){k:Nat}{o:Oper}{i:Nat}(h:L[k]?=some (o,i)):upto L k i=false:=by
 cases e:upto L k i with
 | false=>rfl
 | true=>
  obtain⟨m,p,hm,hp⟩:=Df.1 e
  have:=pl.uniq h hp;omega
theorem Plan.legit (pl:Plan P call ops n0 L s wt v){k:Nat}{o:Oper}{i:Nat}(h:L[k]?=some (o,i)):Legit ops (upto L k) i:=by
 refine⟨fun j hb=>?_,fun j hj hb=>?_,pl.out h⟩
 ·have hlt:=hb.lt pl.dr.back
  have hi:i<ops.size:=(Array.getElem?_eq_some_iff.1 (pl.of h)).1
  obtain⟨m,hm,_⟩:=pl.pos (i:=j) (o:=ops[j]) (Array.getElem?_eq_getElem (by omega))
  rcases Nat.lt_trichotomy m k with e | e | e
  ·exact Df.2 ⟨m,_,e,hm⟩
  ·subst e;rw [h] at hm;cases hm;omega
  ·exact absurd hb (pl.lin k m _ _ _ _ e h hm)
 ·obtain⟨m,p,hm,hp⟩:=Df.1 hj
  exact pl.lin m k _ _ _ _ hm hp h hb
def valAt (L:List (Oper × Nat))(v:Nat→AV)(i:Nat):AV:=v ((L.map (·.2)).idxOf i)
theorem Plan.val (pl:Plan P call ops n0 L s wt v){k:Nat}{o:Oper}{i:Nat}(h:L[k]?=some (o,i)):valAt L v i=v k:=by
 unfold valAt
 have hm:(L.map (·.2))[k]?=some i:=by simp [List.getElem?_map,h]
 have hmem:i∈L.map (·.2):=List.mem_of_getElem? hm
 have hlt:=List.idxOf_lt_length_of_mem hmem
 have:(L.map (·.2))[(L.map (·.2)).idxOf i]?=some i:=by
  rw [List.getElem?_eq_getElem hlt,List.getElem_idxOf hlt]
 rw [Km pl.nodup this hm]
theorem Plan.step_fr (pl:Plan P call ops n0 L s wt v){k:Nat}{o:Oper}{i:Nat}(h:L[k]?=some (o,i)):(s (k+1)).fr=putA (s k).fr o.dst (v k):=by
 obtain⟨cur,_,hs⟩:=pl.step k o i h
 unfold stepFor at hs
 split at hs
 ·obtain⟨_,h1,h2⟩:=hs
  cases hw:wt k with
  | true=>obtain⟨b,f,_,_,e⟩:=h1 hw;rw [e]
  | false=>obtain⟨_,e⟩:=h2 hw;rw [e]
 ·split at hs
  ·obtain⟨_,h1,h2⟩:=hs
   cases hw:wt k with
   | true=>rcases h1 hw with⟨_,_,_,e⟩ | e<;>rw [e]
   | false=>obtain⟨_,e⟩:=h2 hw;rw [e]
  ·split at hs
   ·obtain⟨_,h',_,_,e⟩:=hs;rw [e]
   ·obtain⟨_,_,_,e⟩:=hs;rw [e]
theorem Plan.wanted (pl:Plan P call ops n0 L s wt v){k:Nat}{o:Oper}{i:Nat}(h:L[k]?=some (o,i)):wantedA ops (s k).fr o=some (wt k):=by
 obtain⟨cur,_,hs⟩:=pl.step k o i h
 unfold stepFor at hs
 split at hs
 ·exact hs.1
 ·split at hs
  ·exact hs.1
  ·split at hs<;>exact hs.1
theorem Plan.slots (pl:Plan P call ops n0 L s wt v):∀ k,k≤L.length→SlotInv ops (valAt L v) (s 0).fr (upto L k) (s k).fr:=by
 intro k
 induction k with
 | zero=>
  intro _
  refine⟨rfl,fun t _=>?_⟩
  have:lastW ops (upto L 0) t=none:=by
   cases e:lastW ops (upto L 0) t with
   | none=>rfl
   | some m=>have:=(LE e).1;obtain⟨_,_,h,_⟩:=Df.1 this;omega
  rw [this]
 | succ k ih=>
  intro hk
  obtain⟨⟨o,i⟩,hL⟩:∃ x,L[k]?=some x:=⟨L[k],List.getElem?_eq_getElem (by omega)⟩
  have:=(ih (by omega)).put pl.dr (pl.of hL) (pl.legit hL)
  rw [pl.val hL] at this
  rw [D5 hL,pl.step_fr hL]
  exact this
theorem Plan.step_hs (pl:Plan P call ops n0 L s wt v){k:Nat}{o:Oper}{i:Nat}(h:L[k]?=some (o,i)) :
  (s (k+1)).hs=(if isEff P o then(s k).hs ++ [(s (k+1)).h] else(s k).hs)∧(∀ x∈(s k).cs,x∈(s (k+1)).cs):=by
 obtain⟨cur,_,hs⟩:=pl.step k o i h
 unfold stepFor at hs
 by_cases hm:isMak P o=true
 ·have he:isEff P o=false:=by
   unfold isMak at hm;unfold isEff;cases hk:kindA P o<;>simp_all
  rw [if_pos hm] at hs
  rw [he]
  obtain⟨_,h1,h2⟩:=hs
  cases hw:wt k with
  | true=>obtain⟨b,f,_,_,e⟩:=h1 hw;rw [e];exact⟨rfl,fun x hx=>hx⟩
  | false=>obtain⟨_,e⟩:=h2 hw;rw [e];exact⟨rfl,fun x hx=>hx⟩
 ·rw [if_neg hm] at hs
  by_cases hr:isRed P o=true
  ·have he:isEff P o=false:=by
    unfold isRed at hr;unfold isEff;cases hk:kindA P o<;>simp_all
   rw [if_pos hr] at hs
   rw [he]
   obtain⟨_,h1,h2⟩:=hs
   cases hw:wt k with
   | true=>
    rcases h1 hw with⟨_,_,_,e⟩ | e<;>rw [e]
    ·exact⟨rfl,fun x hx=>hx⟩
    ·exact⟨rfl,fun x hx=>.tail _ hx⟩
   | false=>obtain⟨_,e⟩:=h2 hw;rw [e];exact⟨rfl,fun x hx=>hx⟩
  ·rw [if_neg hr] at hs
   by_cases he:isEff P o=true
   ·rw [if_pos he] at hs
    obtain⟨_,h',_,_,e⟩:=hs
    rw [e,if_pos he];exact⟨rfl,fun x hx=>hx⟩
   ·rw [if_neg he] at hs
    obtain⟨_,_,_,e⟩:=hs
    rw [e,if_neg he];exact⟨rfl,fun x hx=>hx⟩
theorem Plan.length (pl:Plan P call ops n0 L s wt v):∀ k,k≤L.length→(s k).hs.length=cnt P ops (upto L k)+1:=by
 intro k
 induction k with
 | zero=>
  intro _
  have:cnt P ops (upto L 0)=0:=by
   unfold cnt upto
   simp
  rw [this,pl.one];rfl
 | succ k ih=>
  intro hk
  obtain⟨⟨o,i⟩,hL⟩:∃ x,L[k]?=some x:=⟨L[k],List.getElem?_eq_getElem (by omega)⟩
  have:=ih (by omega)
  rw [D5 hL,JE (pl.of hL) (pl.out hL),(pl.step_hs hL).1]
  split
  ·simp [this]
  ·simpa using this
theorem Plan.grows (pl : Plan P call ops n0 L s wt v) {k : Nat} : ∀ m, k ≤ m → m ≤ L.length → (s k).hs <+: (s m).hs ∧ ∀ x ∈ (s k).cs, x ∈ (s m).cs := by
  intro m
  induction m with
  | zero => intro h _; have : k = 0 := by omega
            subst this; exact ⟨List.prefix_refl _, fun x hx => hx⟩
  | succ m ih =>
    intro hk hm
    by_cases e : k = m + 1
    · subst e; exact ⟨List.prefix_refl _, fun x hx => hx⟩
    · obtain ⟨h1, h2⟩ := ih (by omega) (by omega)
      obtain ⟨⟨o, i⟩, hL⟩ : ∃ x, L[m]? = some x := ⟨L[m], List.getElem?_eq_getElem (by omega)⟩
      obtain ⟨a1, a2⟩ := pl.step_hs hL
      refine ⟨h1.trans ?_, fun x hx => a2 x (h2 x hx)⟩
      rw [a1]
      split
      · exact List.prefix_append _ _
      · exact List.prefix_refl _
def hp (L:List (Oper × Nat))(s:Nat→St)(c:Nat):Heap:=((s L.length).hs[c]?).getD ⟨0,.nil⟩
theorem Plan.hp_at (pl:Plan P call ops n0 L s wt v){k c:Nat}{g:Heap}(hk:k≤L.length)(h:(s k).hs[c]?=some g):hp L s c=g:=by
 obtain⟨t,ht⟩:=(pl.grows L.length hk (Nat.le_refl _)).1
 unfold hp
 have hlt:=(List.getElem?_eq_some_iff.1 h).1
 rw [← ht,List.getElem?_append_left hlt,h];rfl
theorem LU {i j:Nat}{o:Oper}(hi:ops[i]?=some o)(hm:isMak P o=true)(hij:i<j):makNo P ops i<makNo P ops j:=by
 unfold makNo
 have h1:(ops.toList.take (i+1)).filter (isMak P)=(ops.toList.take i).filter (isMak P) ++ [o]:=by
  rw [List.take_succ]
  have:ops.toList[i]?=some o:=by simpa using hi
  rw [this]
  simp [List.filter_append,hm]
 have h2:((ops.toList.take (i+1)).filter (isMak P)).length≤((ops.toList.take j).filter (isMak P)).length:=
  ((List.take_sublist_take_left (show i+1≤j by omega)).filter _).length_le
 rw [h1] at h2
 simp at h2
 omega
theorem OE {i:Nat}{o:Oper}(hi:ops[i]?=some o)(hm:isMak P o=true):makNo P ops i<maks P ops:=by
 have h:=LU hi hm (j:=ops.size) (Array.getElem?_eq_some_iff.1 hi).1
 unfold makNo at h ⊢
 unfold maks
 rwa [List.take_of_length_le (l:=ops.toList) (i:=ops.size) (by simp)] at h
def Own (P:Program)(ops:Array Oper)(n0:Nat)(L:List (Oper × Nat))(s:Nat→St)(wt:Nat→Bool)(x i e:Nat)(b:Blk):Prop:=
 ∃ k o f,L[k]?=some (o,i)∧isMak P o=true∧wt k=true∧makeA P o (s k).fr=some (b,f)∧x=n0+makNo P ops i∧e=cnt P ops (upto L k)
theorem Own.uniq (pl:Plan P call ops n0 L s wt v){x i e i' e':Nat}{b b':Blk}(h:Own P ops n0 L s wt x i e b)(h':Own P ops n0 L s wt x i' e' b'):i=i'∧e=e'∧b=b':=by
 obtain⟨k,o,f,h1,h2,h3,h4,h5,h6⟩:=h
 obtain⟨k',o',f',h1',h2',h3',h4',h5',h6'⟩:=h'
 have hi:i=i':=by
  rcases Nat.lt_trichotomy i i' with e | e | e
  ·have:=LU (pl.of h1) h2 e;omega
  ·exact e
  ·have:=LU (pl.of h1') h2' e;omega
 subst hi
 have hk:=pl.uniq h1 h1'
 subst hk
 rw [h1] at h1'
 cases h1'
 rw [h4] at h4'
 cases h4'
 exact⟨rfl,h6.trans h6'.symm,rfl⟩
theorem Own.range (pl:Plan P call ops n0 L s wt v){x i e:Nat}{b:Blk}(h:Own P ops n0 L s wt x i e b):n0≤x∧x<n0+maks P ops:=by
 obtain⟨k,o,f,h1,h2,h3,h4,h5,h6⟩:=h
 have:=OE (pl.of h1) h2
 omega
theorem J2 {k m:Nat}(h:k≤m){j:Nat}(hj:upto L k j=true):upto L m j=true:=by
 obtain⟨a,o,ha,hL⟩:=Df.1 hj
 exact Df.2 ⟨a,o,by omega,hL⟩
theorem Lu {S S':Nat→Bool}(h:∀ j,S j=true→S' j=true):cnt P ops S≤cnt P ops S':=by
 unfold cnt
 refine Eh fun x _ hx=>?_
 obtain⟨o,j⟩:=x
 simp only [Bool.and_eq_true] at hx ⊢
 exact⟨hx.1,h j hx.2⟩
theorem Plan.heap (pl:Plan P call ops n0 L s wt v):∀ k,k≤L.length→(s k).h.next=(hp L s (cnt P ops (upto L k))).next∧
  (∀ x i e b,Own P ops n0 L s wt x i e b→upto L k i=true→e=cnt P ops (upto L k)→(s k).h.get x=some b)∧
  (∀ x,(∀ i e b,Own P ops n0 L s wt x i e b→upto L k i=true→e=cnt P ops (upto L k)→False)→(s k).h.get x=(hp L s (cnt P ops (upto L k))).get x):=by
 intro k
 induction k with
 | zero=>
  intro h0
  have hc:cnt P ops (upto L 0)=0:=by unfold cnt upto;simp
  have:hp L s 0=(s 0).h:=pl.hp_at h0 (by rw [pl.one];rfl)
  rw [hc,this]
  refine⟨rfl,fun x i e b _ hu _=>?_,fun x _=>rfl⟩
  obtain⟨_,_,h,_⟩:=Df.1 hu;omega
 | succ k ih=>
  intro hk
  obtain⟨⟨o,i⟩,hL⟩:∃ x,L[k]?=some x:=⟨L[k],List.getElem?_eq_getElem (by omega)⟩
  obtain⟨n1,n2,n3⟩:=ih (by omega)
  have hcnt:=JE (P:=P) (pl.of hL) (pl.out hL)
  rw [← D5 hL] at hcnt
  by_cases he:isEff P o=true
  ·have hmk:isMak P o=false:=by
    unfold isEff at he;unfold isMak;cases hk:kindA P o<;>simp_all
   rw [if_pos he] at hcnt
   have hh:hp L s (cnt P ops (upto L (k+1)))=(s (k+1)).h:=by
    refine pl.hp_at hk ?_
    rw [(pl.step_hs hL).1,if_pos he,hcnt,← pl.length k (by omega)]
    simp
   rw [hh]
   refine⟨rfl,fun x j e b ho hu hee=>?_,fun x _=>rfl⟩
   exfalso
   obtain⟨m,p,f,h1,h2,h3,h4,h5,h6⟩:=ho
   obtain⟨m',p',hm',hp'⟩:=Df.1 hu
   have:=pl.uniq h1 hp'
   subst this
   have:m≠k:=fun e=>by subst e;rw [hL] at h1;cases h1;rw [hmk] at h2;cases h2
   have:=Lu (P:=P) (ops:=ops) (S:=upto L m) (S':=upto L k) fun j hj=>J2 (by omega) hj
   omega
  ·rw [if_neg he] at hcnt
   have hcnt:cnt P ops (upto L (k+1))=cnt P ops (upto L k):=by omega
   rw [hcnt]
   have hst:=pl.step k o i hL
   obtain⟨cur,_,hst⟩:=hst
   unfold stepFor at hst
   by_cases hmk:isMak P o=true
   ·rw [if_pos hmk] at hst
    obtain⟨_,h1,h2⟩:=hst
    cases hw:wt k with
    | true=>
     obtain⟨b,f,hm,hv,e⟩:=h1 hw
     have hown:Own P ops n0 L s wt (n0+makNo P ops i) i (cnt P ops (upto L k)) b:=⟨k,o,f,hL,hmk,hw,hm,rfl,rfl⟩
     rw [e]
     refine⟨n1,fun x j e' b' ho hu hee=>?_,fun x hno=>?_⟩
     ·simp only [Heap.get_put]
      by_cases ex:x=n0+makNo P ops i
      ·subst ex
       rw [if_pos rfl,(hown.uniq pl ho).2.2]
      ·rw [if_neg ex]
       refine n2 x j e' b' ho ?_ hee
       rw [D5 hL] at hu
       simp only [Bool.or_eq_true,beq_iff_eq] at hu
       rcases hu with hu | rfl
       ·exact hu
       ·obtain⟨_,_,_,_,_,_,_,hx,_⟩:=ho;exact absurd hx ex
     ·simp only [Heap.get_put]
      have ex:x≠n0+makNo P ops i:=fun ex=>by
       subst ex
       exact hno i _ b hown (by rw [D5 hL];simp) rfl
      rw [if_neg ex]
      exact n3 x fun j e' b' ho hu hee=>hno j e' b' ho (by rw [D5 hL];simp [hu]) hee
    | false=>
     obtain⟨_,e⟩:=h2 hw
     rw [e]
     refine⟨n1,fun x j e' b' ho hu hee=>?_,fun x hno=>n3 x fun j e' b' ho hu hee=>hno j e' b' ho (by rw [D5 hL];simp [hu]) hee⟩
     refine n2 x j e' b' ho ?_ hee
     rw [D5 hL] at hu
     simp only [Bool.or_eq_true,beq_iff_eq] at hu
     rcases hu with hu | rfl
     ·exact hu
     ·obtain⟨m,_,_,hm1,_,hm3,_⟩:=ho
      have:=pl.uniq hL hm1;subst this;rw [hw] at hm3;cases hm3
   ·have hsame:(s (k+1)).h=(s k).h:=by
     rw [if_neg hmk] at hst
     split at hst
     ·obtain⟨_,h1,h2⟩:=hst
      cases hw:wt k with
      | true=>rcases h1 hw with⟨_,_,_,e⟩ | e<;>rw [e]
      | false=>obtain⟨_,e⟩:=h2 hw;rw [e]
     ·obtain⟨_,_,_,e⟩:=hst;rw [e]
    rw [hsame]
    refine⟨n1,fun x j e' b' ho hu hee=>?_,fun x hno=>n3 x fun j e' b' ho hu hee=>hno j e' b' ho (by rw [D5 hL];simp [hu]) hee⟩
    refine n2 x j e' b' ho ?_ hee
    rw [D5 hL] at hu
    simp only [Bool.or_eq_true,beq_iff_eq] at hu
    rcases hu with hu | rfl
    ·exact hu
    ·obtain⟨m,_,_,hm1,hm2,_⟩:=ho
     have:=pl.uniq hL hm1;subst this;rw [hL] at hm1;cases hm1;exact absurd hm2 hmk
end
end Go.Ab
