import Derived.Test.YtdmgkkcjnmmfmaaGreatAb11e
namespace Go.Ab
open Go
set_option linter.all false
theorem LN (G X G':Heap):∀ n:Nat,∃ X':Heap,X'.next=G'.next∧∀ x,X'.get x=if x<n∧(G.get x).isNone=true∧(X.get x).isSome=true then X.get x else G'.get x
 | 0=>⟨G',rfl,fun x=>by simp⟩
 | n+1=>by
  obtain⟨Y,h1,h2⟩:=LN G X G' n
  by_cases hc:(G.get n).isNone=true∧(X.get n).isSome=true
  ·refine⟨Y.put n (X.get n),h1,fun x=>?_⟩
   rw [Heap.get_put]
   by_cases e:x=n
   ·subst e;rw [if_pos rfl,if_pos ⟨by omega,hc⟩]
   ·rw [if_neg e,h2]
    have:(x<n+1)↔(x<n):=by omega
    simp only [this]
  ·refine⟨Y,h1,fun x=>?_⟩
   rw [h2]
   by_cases e:x=n
   ·subst e;rw [if_neg (fun h=>hc h.2),if_neg (fun h=>hc h.2)]
   ·have:(x<n+1)↔(x<n):=by omega
    simp only [this]
section
variable {P:Program}{call:CallF}{ops:Array Oper}
theorem Step.frame {ρ ρ':Rho}{G G' X:Heap}{w w':World}(s:Step P ρ G w ρ' G' w')(hX:R P ρ X w)(hn:X.next=G.next)(hsub:∀ x b,G.get x=some b→X.get x=some b) :
  ∃ X',X'.next=G'.next∧(∀ x b,G.get x=none→X.get x=some b→X'.get x=some b)∧(∀ x,(G.get x≠none∨X.get x=none)→X'.get x=G'.get x)∧Step P ρ X w ρ' X' w':=by
 obtain⟨X',hn',hget⟩:=LN G X G' X.next
 have c1:∀ x b,G.get x=none→X.get x=some b→X'.get x=some b:=fun x b hg hx=>by
  obtain⟨β,y,hy,_⟩:=(hX.blk x b hx).at
  rw [hget,if_pos ⟨hX.bnd _ _ hy,by simp [hg],by simp [hx]⟩,hx]
 have c2:∀ x,(G.get x≠none∨X.get x=none)→X'.get x=G'.get x:=fun x hx=>by
  rw [hget,if_neg]
  rintro⟨_,h1,h2⟩
  rcases hx with hx | hx
  ·exact hx (by simpa using h1)
  ·rw [hx] at h2;cases h2
 have split:∀ i b,X'.get i=some b→(G.get i=none∧X.get i=some b)∨((G.get i≠none∨X.get i=none)∧G'.get i=some b):=fun i b hb=>by
  cases hg:G.get i with
  | none=>
   cases hx:X.get i with
   | none=>exact .inr ⟨.inr rfl,by rw [← c2 i (.inr hx)];exact hb⟩
   | some b'=>rw [c1 i b' hg hx] at hb;exact .inl ⟨rfl,hb⟩
  | some b'=>exact .inr ⟨.inl (by simp),by rw [← c2 i (.inl (by simp [hg]))];exact hb⟩
 have at_old:∀ i b β x,X.get i=some b→ρ' i=some (β,x)→ρ i=some (β,x)∧β<w.heap.size:=fun i b β x hb hx=>by
  obtain⟨β',x',h1,h2⟩:=(hX.blk i b hb).at
  have:=s.le _ _ h1
  rw [hx] at this
  cases this
  exact⟨h1,h2⟩
 refine⟨X',hn',c1,c2,⟨⟨fun i b hb=>?_,fun i j b b' β x x' hne hi hj hρi hρj=>?_,fun i x hx=>by rw [hn'];exact s.rel.bnd i x hx,s.rel.glob⟩,s.le,⟨s.keeps.size,fun β hβ hno=>s.keeps.old β hβ fun i b x hb hw=>hno i b x (hsub i b hb) hw,s.keeps.tape,s.keeps.os,s.keeps.output⟩,
  by rw [hn,hn'];exact s.next,fun i hi hnone=>?_,fun i x hx hn0=>by rw [hn];exact s.fresh i x hx hn0,fun i b β x hb hx hβ=>?_⟩⟩
 ·rcases split i b hb with⟨hg,hx⟩ | ⟨_,hb'⟩
  ·refine((hX.blk i b hx).mono s.le).same fun β y hy=>?_
   obtain⟨hy',hβ⟩:=at_old i b β y hx hy
   refine s.keeps.old β hβ fun j b' z hj hw hz=>?_
   have hne:j≠i:=fun e=>by subst e;rw [hg] at hj;cases hj
   have:=(hX.inj j i b' b β z y hne (hsub j b' hj) hx hz hy').1
   rw [hw] at this;cases this
  ·exact s.rel.blk i b hb'
 ·have cross:∀ i j b b' x x',G.get i=none→X.get i=some b→G'.get j=some b'→ρ' i=some (β,x)→ρ' j=some (β,x')→b.wr=false∧b'.wr=false:=fun i j b b' x x' hg hx hj hρi hρj=>by
   obtain⟨hρ0,hβ⟩:=at_old i b β x hx hρi
   obtain⟨k,b'',x'',hk,hρk,hwr⟩:=s.grow j b' β x' hj hρj hβ
   have hne:i≠k:=fun e=>by subst e;rw [hg] at hk;cases hk
   have:=hX.inj i k b b'' β x x'' hne hx (hsub k b'' hk) hρ0 hρk
   refine⟨this.1,?_⟩
   cases hb:b'.wr with
   | false=>rfl
   | true=>rw [hwr hb] at this;cases this.2
  rcases split i b hi with⟨hg,hx⟩ | ⟨_,hi'⟩
  ·rcases split j b' hj with⟨hg',hx'⟩ | ⟨_,hj'⟩
   ·exact hX.inj i j b b' β x x' hne hx hx' (at_old i b β x hx hρi).1 (at_old j b' β x' hx' hρj).1
   ·exact cross i j b b' x x' hg hx hj' hρi hρj
  ·rcases split j b' hj with⟨hg',hx'⟩ | ⟨_,hj'⟩
   ·have:=cross j i b' b x' x hg' hx' hi' hρj hρi
    exact⟨this.2,this.1⟩
   ·exact s.rel.inj i j b b' β x x' hne hi' hj' hρi hρj
 ·have hg:G.get i=none:=by
   cases hg:G.get i with
   | none=>rfl
   | some b=>rw [hsub i b hg] at hnone;cases hnone
  rw [c2 i (.inr hnone)]
  exact s.gone i (by rw [← hn];exact hi) hg
 ·rcases split i b hb with⟨hg,hx'⟩ | ⟨_,hb'⟩
  ·exact⟨i,b,x,hx',(at_old i b β x hx' hx).1,id⟩
  ·obtain⟨k,b'',x'',hk,hρk,hwr⟩:=s.grow i b β x hb' hx hβ
   exact⟨k,b'',x'',hsub k b'' hk,hρk,hwr⟩
theorem Step.like {ρ ρ':Rho}{h h' h'':Heap}{w w':World}(s:Step P ρ h w ρ' h' w')(hn:h''.next=h'.next)(hg:∀ x,h''.get x=h'.get x):Step P ρ h w ρ' h'' w':=
 ⟨s.rel.fewer (by rw [hn];exact Nat.le_refl _) fun i b hb=>by rw [← hg];exact hb,s.le,s.keeps,by rw [hn];exact s.next,fun i hi h=>by rw [hg];exact s.gone i hi h,s.fresh,
  fun i b β x hb=>s.grow i b β x (by rw [← hg];exact hb)⟩
variable {n0:Nat}{L:List (Oper × Nat)}{s:Nat→St}{wt:Nat→Bool}{v:Nat→AV}
theorem Plan.hp_eff (pl:Plan P call ops n0 L s wt v){k:Nat}{o:Oper}{i:Nat}(hL:L[k]?=some (o,i))(he:isEff P o=true):hp L s (cnt P ops (upto L k)+1)=(s (k+1)).h:=by
 have hk:=(List.getElem?_eq_some_iff.1 hL).1
 refine pl.hp_at (k:=k+1) (by omega) ?_
 rw [(pl.step_hs hL).1,if_pos he,← pl.length k (by omega)]
 simp
structure Inv (P:Program)(ops:Array Oper)(n0:Nat)(L:List (Oper × Nat))(s:Nat→St)(wt:Nat→Bool)(v:Nat→AV)(ρ₀:Rho)(h₀:Heap)(w₀:World)(d₀:List Deferred)
  (S:Nat→Bool) (ρ:Rho) (X:Heap) (w:World) (a:Act):Prop where
 down:Down ops (fun j=>S j=true)
 rng:∀ i,S i=true→i<ops.size
 st:Step P ρ₀ h₀ w₀ ρ X w
 fr:∃ frX,SlotInv ops (valAt L v) (s 0).fr S frX∧FR ρ frX a.tmps
 next:X.next=(hp L s (cnt P ops S)).next
 room:n0+maks P ops≤X.next
 own:∀ x i e b,Own P ops n0 L s wt x i e b→S i=true→cnt P ops S≤e→X.get x=some b
 rest:∀ x,(∀ i e b,Own P ops n0 L s wt x i e b→S i=true→cnt P ops S≤e→False)→X.get x=(hp L s (cnt P ops S)).get x
 free:∀ x i e b,Own P ops n0 L s wt x i e b→cnt P ops S≤e→(hp L s (cnt P ops S)).get x=none
 new:∀ x i e b,Own P ops n0 L s wt x i e b→S i=false→ρ x=none
 defers:a.defers=d₀
variable {ρ₀:Rho}{h₀:Heap}{w₀:World}{d₀:List Deferred}{S:Nat→Bool}{ρ:Rho}{X:Heap}{w:World}{a:Act}
theorem Inv.legit (pl:Plan P call ops n0 L s wt v)(iv:Inv P ops n0 L s wt v ρ₀ h₀ w₀ d₀ S ρ X w a){i:Nat}{o:Oper}(ho:ops[i]?=some o)(hS:S i=false)
  (he:∀ e∈o.after,Region.binds .any e=true→S e.on=true):Legit ops S i:=by
 refine⟨fun j hb=>?_,fun j hj hb=>?_,hS⟩
 ·exact iv.down.bef pl.dr.back i hb fun p hp=>by rw [ho] at hp;cases hp;exact he
 ·have:=iv.down.bef pl.dr.back j hb fun p hp e hem hbi=>iv.down j p hj hp e hem hbi
  rw [hS] at this;cases this
theorem Inv.sub (pl:Plan P call ops n0 L s wt v)(iv:Inv P ops n0 L s wt v ρ₀ h₀ w₀ d₀ S ρ X w a){k:Nat}(hk:k≤L.length)(hc:cnt P ops (upto L k)=cnt P ops S)
  (hb:∀ m p j,m<k→L[m]?=some (p,j)→isMak P p=true→S j=true):(∀ x b,(s k).h.get x=some b→X.get x=some b)∧X.next=(s k).h.next∧
   (∀ x i e b,Own P ops n0 L s wt x i e b→upto L k i=true→e=cnt P ops S→X.get x=some b):=by
 obtain⟨h1,h2,h3⟩:=pl.heap k hk
 rw [hc] at h1 h2 h3
 have made:∀ x i e b,Own P ops n0 L s wt x i e b→upto L k i=true→S i=true:=fun x i e b ho hu=>by
  obtain⟨m,p,f,hm,hmk,_⟩:=ho
  obtain⟨m',p',hlt,hm'⟩:=Df.1 hu
  have:=pl.uniq hm hm';subst this
  exact hb m p i hlt hm hmk
 have fl:∀ x i e b,Own P ops n0 L s wt x i e b→upto L k i=true→e=cnt P ops S→X.get x=some b:=fun x i e b ho hu he=>iv.own x i e b ho (made x i e b ho hu) (by omega)
 refine⟨fun x b hx=>?_,by rw [iv.next,h1],fl⟩
 by_cases hex:∃ i e b',Own P ops n0 L s wt x i e b'∧upto L k i=true∧e=cnt P ops S
 ·obtain⟨i,e,b',ho,hu,he⟩:=hex
  have:=h2 x i e b' ho hu he
  rw [this] at hx;cases hx
  exact fl x i e _ ho hu he
 ·have hx':=h3 x fun i e b' ho hu he=>hex ⟨i,e,b',ho,hu,he⟩
  rw [hx'] at hx
  rw [iv.rest x fun i e b' ho _ hle=>by rw [iv.free x i e b' ho hle] at hx;cases hx]
  exact hx
theorem Inv.down_add (iv:Inv P ops n0 L s wt v ρ₀ h₀ w₀ d₀ S ρ X w a){i:Nat}{o:Oper}(ho:ops[i]?=some o)(he:∀ e∈o.after,Region.binds .any e=true→S e.on=true) :
  Down ops (fun j=>(S j||j == i)=true):=by
 intro j p hj hp e hem hb
 simp only [Bool.or_eq_true,beq_iff_eq] at hj ⊢
 rcases hj with hj | rfl
 ·exact .inl (iv.down j p hj hp e hem hb)
 ·rw [ho] at hp;cases hp
  exact .inl (he e hem hb)
theorem Inv.rng_add (iv:Inv P ops n0 L s wt v ρ₀ h₀ w₀ d₀ S ρ X w a){i:Nat}{o:Oper}(ho:ops[i]?=some o):∀ j,(S j||j == i)=true→j<ops.size:=fun j hj=>by
 simp only [Bool.or_eq_true,beq_iff_eq] at hj
 rcases hj with hj | rfl
 ·exact iv.rng j hj
 ·exact(Array.getElem?_eq_some_iff.1 ho).1
theorem Inv.fr_add (pl:Plan P call ops n0 L s wt v)(iv:Inv P ops n0 L s wt v ρ₀ h₀ w₀ d₀ S ρ X w a){k i:Nat}{o:Oper}(hL:L[k]?=some (o,i))(hl:Legit ops S i){ρ':Rho}(hle:ρ.le ρ'){u:Value}(hu:VR ρ' (v k) u) :
  ∃ frX,SlotInv ops (valAt L v) (s 0).fr (fun j=>S j||j == i) frX∧FR ρ' frX (a.put o.dst u).tmps:=by
 obtain⟨frX,h1,h2⟩:=iv.fr
 refine⟨putA frX o.dst (v k),?_,(h2.mono hle).put hu o.dst⟩
 have:=h1.put pl.dr (pl.of hL) hl
 rw [pl.val hL] at this
 exact this
theorem Inv.keep (pl:Plan P call ops n0 L s wt v)(iv:Inv P ops n0 L s wt v ρ₀ h₀ w₀ d₀ S ρ X w a){k i:Nat}{o:Oper}(hL:L[k]?=some (o,i))(hl:Legit ops S i)
  (he:∀ e∈o.after,Region.binds .any e=true→S e.on=true) (hne:isEff P o=false) (hno:∀ x e b,¬ Own P ops n0 L s wt x i e b) {u:Value} (hu:VR ρ (v k) u) :
  Inv P ops n0 L s wt v ρ₀ h₀ w₀ d₀ (fun j=>S j||j == i) ρ X w (a.put o.dst u):=by
 have ho:=pl.of hL
 have hc:cnt P ops (fun j=>S j||j == i)=cnt P ops S:=by rw [JE ho hl.out,hne];simp
 have hS:∀ x j e b,Own P ops n0 L s wt x j e b→(S j||j == i)=true→S j=true:=fun x j e b hw hj=>by
  simp only [Bool.or_eq_true,beq_iff_eq] at hj
  rcases hj with hj | rfl
  ·exact hj
  ·exact absurd hw (hno x e b)
 refine⟨iv.down_add ho he,iv.rng_add ho,iv.st,iv.fr_add pl hL hl (Rho.le_refl _) hu,by rw [hc];exact iv.next,iv.room,fun x j e b hw hj hle=>?_,fun x h=>?_,fun x j e b hw hle=>?_,fun x j e b hw hj=>?_,by rw [Gr];exact iv.defers⟩
 ·rw [hc] at hle;exact iv.own x j e b hw (hS x j e b hw hj) hle
 ·rw [hc];exact iv.rest x fun j e b hw hj hle=>h j e b hw (by simp [hj]) (by rw [hc];exact hle)
 ·rw [hc] at hle ⊢;exact iv.free x j e b hw hle
 ·simp only [Bool.or_eq_false_iff] at hj;exact iv.new x j e b hw hj.1
theorem Inv.eff (pl:Plan P call ops n0 L s wt v)(iv:Inv P ops n0 L s wt v ρ₀ h₀ w₀ d₀ S ρ X w a){k i:Nat}{o:Oper}(hL:L[k]?=some (o,i))(hl:Legit ops S i)
  (he:∀ e∈o.after,Region.binds .any e=true→S e.on=true) (hef:isEff P o=true) {ρ':Rho} {X':Heap} {w':World} (hst:Step P ρ X w ρ' X' w')
  (hn:X'.next=(s (k+1)).h.next)
  (c1:∀ x b,(s k).h.get x=none→X.get x=some b→X'.get x=some b) (c2:∀ x,((s k).h.get x≠none∨X.get x=none)→X'.get x=(s (k+1)).h.get x)
  (gone:∀ x,x<(s k).h.next→(s k).h.get x=none→(s (k+1)).h.get x=none)
  {u:Value} (hu:VR ρ' (v k) u) :
  Inv P ops n0 L s wt v ρ₀ h₀ w₀ d₀ (fun j=>S j||j == i) ρ' X' w' (a.put o.dst u):=by
 have ho:=pl.of hL
 have hk:=(List.getElem?_eq_some_iff.1 hL).1
 have hmk:isMak P o=false:=by
  unfold isEff at hef;unfold isMak;cases hk:kindA P o<;>simp_all
 have hcn:cnt P ops (upto L k)=cnt P ops S:=by rw [(pl.legit hL).eff pl.dr ho hef,hl.eff pl.dr ho hef]
 have hc:cnt P ops (fun j=>S j||j == i)=cnt P ops S+1:=by rw [JE ho hl.out,hef];simp
 have hH:hp L s (cnt P ops S+1)=(s (k+1)).h:=by rw [← hcn];exact pl.hp_eff hL hef
 have hnot:∀ x j e b,Own P ops n0 L s wt x j e b→j≠i:=fun x j e b hw e'=>by
  subst e'
  obtain⟨m,p,f,hm,hmm,_⟩:=hw
  have:=pl.uniq hL hm;subst this
  rw [hL] at hm;cases hm
  rw [hmk] at hmm;cases hmm
 obtain⟨p1,p2,p3⟩:=pl.heap k (by omega)
 rw [hcn] at p1 p2 p3
 -- own blocks of this stretch are made
 have early:∀ x j e b,Own P ops n0 L s wt x j e b→e=cnt P ops S→upto L k j=true:=fun x j e b hw hee=>by
  obtain⟨m,p,f,h1,h2,h3,h4,h5,h6⟩:=hw
  refine Df.2 ⟨m,p,?_,h1⟩
  rcases Nat.lt_trichotomy m k with hlt | heq | hgt
  ·exact hlt
  ·subst heq;rw [hL] at h1;cases h1;rw [hmk] at h2;cases h2
  ·have:=Lu (P:=P) (ops:=ops) (S:=upto L (k+1)) (S':=upto L m) fun j hj=>J2 (by omega) hj
   rw [D5 hL,JE ho (pl.out hL),hef,hcn] at this
   simp only [if_true] at this
   omega
 have later:∀ x j e b,Own P ops n0 L s wt x j e b→cnt P ops S+1≤e→(s k).h.get x=none:=fun x j e b hw hle=>by
  rw [p3 x fun j' e' b' hw' _ he'=>by have:=(hw.uniq pl hw').2.1;omega]
  exact iv.free x j e b hw (by omega)
 refine⟨iv.down_add ho he,iv.rng_add ho,iv.st.trans hst,iv.fr_add pl hL hl hst.le hu,by rw [hc,hH];exact hn,Nat.le_trans iv.room hst.next,fun x j e b hw hj hle=>?_,fun x h=>?_,fun x j e b hw hle=>?_,fun x j e b hw hj=>?_,by rw [Gr];exact iv.defers⟩
 ·rw [hc] at hle
  simp only [Bool.or_eq_true,beq_iff_eq] at hj
  rcases hj with hj | rfl
  ·exact c1 x b (later x j e b hw hle) (iv.own x j e b hw hj (by omega))
  ·exact absurd rfl (hnot x j e b hw)
 ·rw [hc,hH]
  refine c2 x ?_
  by_cases hex:∃ j e b,Own P ops n0 L s wt x j e b∧S j=true∧cnt P ops S≤e
  ·obtain⟨j,e,b,hw,hj,hle⟩:=hex
   have hee:e=cnt P ops S:=by
    rcases Nat.lt_or_ge (cnt P ops S) e with h' | h'
    ·exact absurd (h j e b hw (by simp [hj]) (by rw [hc];omega)) id
    ·omega
   left
   rw [p2 x j e b hw (early x j e b hw hee) hee]
   simp
  ·have hX:=iv.rest x fun j e b hw hj hle=>hex ⟨j,e,b,hw,hj,hle⟩
   have hG:=p3 x fun j e b hw hu hee=>by
    obtain⟨m,p,f,h1,h2,h3⟩:=id hw
    obtain⟨m',p',hlt,hm'⟩:=Df.1 hu
    have:=pl.uniq h1 hm';subst this
    exact hex ⟨j,e,b,hw,hl.bef j (pl.late k o i hL hef hmk m p j hlt h1 h2),by omega⟩
   cases hg:(s k).h.get x with
   | none=>right;rw [hX,← hG,hg]
   | some b=>left;simp
 ·rw [hc] at hle ⊢
  rw [hH]
  have hr:=hw.range pl
  exact gone x (by rw [p1,← iv.next];have:=iv.room;omega) (later x j e b hw hle)
 ·simp only [Bool.or_eq_false_iff] at hj
  have hr:=hw.range pl
  have hρ:=iv.new x j e b hw hj.1
  cases hx:ρ' x with
  | none=>rfl
  | some y=>have:=hst.fresh x y hx hρ;have:=iv.room;omega
theorem Inv.mak (pl:Plan P call ops n0 L s wt v)(iv:Inv P ops n0 L s wt v ρ₀ h₀ w₀ d₀ S ρ X w a)(hn0:h₀.next≤n0){k i:Nat}{o:Oper}(hL:L[k]?=some (o,i))(hl:Legit ops S i)
  (he:∀ e∈o.after,Region.binds .any e=true→S e.on=true) (hmk:isMak P o=true) {x:Nat} {b:Blk} (hw:Own P ops n0 L s wt x i (cnt P ops (upto L k)) b) {obj:Obj} {y:Nat × Nat}
  (hb:BR (fun j=>if j=x then some (w.heap.size,y) else ρ j) (w.alloc obj) x b) {u:Value} (hu:VR (fun j=>if j=x then some (w.heap.size,y) else ρ j) (v k) u) :
  Inv P ops n0 L s wt v ρ₀ h₀ w₀ d₀ (fun j=>S j||j == i) (fun j=>if j=x then some (w.heap.size,y) else ρ j) (X.put x (some b)) (w.alloc obj) (a.put o.dst u):=by
 have ho:=pl.of hL
 have hne:isEff P o=false:=by
  unfold isMak at hmk;unfold isEff;cases hk:kindA P o<;>simp_all
 have hc:cnt P ops (fun j=>S j||j == i)=cnt P ops S:=by rw [JE ho hl.out,hne];simp
 have hρ:ρ x=none:=iv.new x i _ b hw hl.out
 have hr:=hw.range pl
 have hroom:=iv.room
 have hle0:cnt P ops S≤cnt P ops (upto L k):=by
  unfold cnt
  refine Eh fun z hz hx=>?_
  obtain⟨p,j⟩:=z
  simp only [Bool.and_eq_true] at hx ⊢
  refine⟨hx.1,?_⟩
  have hp:=JK.1 hz
  obtain⟨m,hm,_⟩:=pl.pos hp
  have hpm:isMak P p=false:=by
   have:=hx.1
   unfold isEff at this;unfold isMak;cases hk:kindA P p<;>simp_all
  rcases Nat.lt_trichotomy m k with h | h | h
  ·exact Df.2 ⟨m,p,h,hm⟩
  ·subst h;rw [hL] at hm;cases hm;rw [hmk] at hpm;cases hpm
  ·exact absurd (pl.late m p j hm hx.1 hpm k o i h hL hmk) (hl.aft j hx.2)
 have hle:ρ.le (fun j=>if j=x then some (w.heap.size,y) else ρ j):=fun j z hz=>by
  by_cases e:j=x
  ·subst e;rw [hρ] at hz;cases hz
  ·simp only [e,if_false];exact hz
 refine⟨iv.down_add ho he,iv.rng_add ho,iv.st.alloc_at x (by omega) hρ (X.put x (some b)) (Nat.le_refl _) (show x<X.next by omega) obj b y (fun j=>Heap.get_put X x j (some b)) hb,iv.fr_add pl hL hl hle hu,by rw [hc];exact iv.next,iv.room,fun z j e b' hw' hj hle'=>?_,fun z h=>?_,fun z j e b' hw' hle'=>?_,fun z j e b' hw' hj=>?_,by rw [Gr];exact iv.defers⟩
 ·rw [hc] at hle'
  rw [Heap.get_put]
  by_cases ez:z=x
  ·subst ez;rw [if_pos rfl,(hw.uniq pl hw').2.2]
  ·rw [if_neg ez]
   simp only [Bool.or_eq_true,beq_iff_eq] at hj
   rcases hj with hj | rfl
   ·exact iv.own z j e b' hw' hj hle'
   ·obtain⟨_,_,_,_,_,_,_,hz,_⟩:=hw'
    obtain⟨_,_,_,_,_,_,_,hx,_⟩:=hw
    exact absurd (hz.trans hx.symm) ez
 ·rw [Heap.get_put,hc]
  have ez:z≠x:=fun ez=>by
   subst ez
   exact h i _ b hw (by simp) (by rw [hc];exact hle0)
  rw [if_neg ez]
  exact iv.rest z fun j e b' hw' hj hle'=>h j e b' hw' (by simp [hj]) (by rw [hc];exact hle')
 ·rw [hc] at hle' ⊢;exact iv.free z j e b' hw' hle'
 ·simp only [Bool.or_eq_false_iff,beq_eq_false_iff_ne] at hj
  have ez:z≠x:=fun ez=>by
   subst ez
   exact hj.2 (hw'.uniq pl hw).1
  simp only [ez,if_false]
  exact iv.new z j e b' hw' hj.1
end
end Go.Ab
