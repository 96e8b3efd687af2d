import Derived.Test.YtdpdnkdafkcllaaGreatDoorArn
namespace Go.Ab.F
open Go Go.Ab
set_option linter.all false
structure En where
 s:Int
 q:Nat
 c:Int
def En.ad (e:En):Int:=e.s * 64+e.q*wordsOf e.c
theorem clr_in {l:List Int}{o n i:Nat}(hl:o+n≤l.length)(h1:o≤i)(h2:i<o+n):(clr l o n)[i]?=some 0:=by
 unfold clr
 rw [List.append_assoc,List.getElem?_append_right (by simp;omega),List.getElem?_append_left (by simp;omega),List.getElem?_replicate]
 simp only [List.length_take]
 rw [if_pos (by omega)]
def Placed (a:PAr)(e:En):Prop:=a.has e.s∧(a.at e.s).cls=e.c∧(e.q:Int)<placesOf e.c∧(a.at e.s).tk.getLsbD e.q=true
def ArFi (a:PAr):Prop:=∀ n,a.has n→(a.at n).cls = -1∨(0≤(a.at n).cls∧(a.at n).cls≤5∧∀ j,pls (a.at n).cls≤j→(a.at n).tk.getLsbD j=false)
theorem take_err {a:PAr}{n:Int}(hn:a.has n){c:Int}(hc:0≤c∧c≤5)(ha:(a.at n).cls=c){j:Nat}(hj:j<pls c)(hb:(a.at n).tk.getLsbD j=false)(hbd:∀ j,pls c≤j→(a.at n).tk.getLsbD j=false)(hfi:ArFi a) :
  (a.take n).2.1=0∧ArFi (a.take n).2.2∧(a.take n).2.2.sp.length=a.sp.length:=by
 obtain⟨P0,P1,P2,W1,W2,_⟩:=pls_eq hc
 have hf:=first0_lt (b:=(a.at n).tk) (q:=j) (by omega) hb
 unfold PAr.take
 rw [if_neg (by rw [cls_at hn,ha];omega),ha,if_neg (by omega)]
 refine⟨rfl,fun m hm=>?_,a.setS_len _ _⟩
 have hm':a.has m:=(a.setS_has n m _).1 hm
 by_cases e:m=n
 ·subst e
  right
  show 0≤((a.setS m _).at m).cls∧((a.setS m _).at m).cls≤5∧∀ j,pls ((a.setS m _).at m).cls≤j→((a.setS m _).at m).tk.getLsbD j=false
  rw [PAr.setS_at _ hn]
  refine⟨hc.1,hc.2,fun k hk=>?_⟩
  have hk':pls c≤k:=hk
  have hne : ¬ k=first0 (a.at m).tk:=by omega
  show((a.at m).tk ||| bitOf (first0 (a.at m).tk)).getLsbD k=false
  rw [BitVec.getLsbD_or,hbd k hk',bit_get _ k (by omega)];simp [hne]
 ·show((a.setS n _).at m).cls = -1∨(0≤((a.setS n _).at m).cls∧((a.setS n _).at m).cls≤5∧∀ j,pls ((a.setS n _).at m).cls≤j→((a.setS n _).at m).tk.getLsbD j=false)
  rw [PAr.setS_ne _ hn hm' e]
  exact hfi m hm'
def roomAt (a:PAr)(c n:Int):Prop:=a.cls n=c∧a.taken n≠fullB c
theorem roomAt_bit {a:PAr}{c n:Int}(hc:0≤c∧c≤5)(h:roomAt a c n)(hfi:ArFi a):a.has n∧(a.at n).cls=c∧(∃ j,j<pls c∧(a.at n).tk.getLsbD j=false)∧∀ j,pls c≤j→(a.at n).tk.getLsbD j=false:=by
 obtain⟨P0,P1,P2,W1,W2,_⟩:=pls_eq hc
 obtain⟨h1,h2⟩:=h
 obtain⟨hn,he⟩:=cls_has (a:=a) (n:=n) (by omega)
 have hcl:(a.at n).cls=c:=by rw [← he,h1]
 have ht:a.taken n=(a.at n).tk:=by unfold PAr.taken;rw [if_neg (by omega)]
 rw [ht] at h2
 have hbd:∀ j,pls c≤j→(a.at n).tk.getLsbD j=false:=by
  rcases hfi n hn with h | h
  ·omega
  ·rw [hcl] at h;exact h.2.2
 refine⟨hn,hcl,?_,hbd⟩
 apply Classical.byContradiction
 intro hno
 apply h2
 apply BitVec.eq_of_getLsbD_eq
 intro j hj
 rw [full_bits hc j hj]
 by_cases hjp:j<pls c
 ·cases hb:(a.at n).tk.getLsbD j with
  | true=>simp [hjp]
  | false=>exact absurd ⟨j,hjp,hb⟩ hno
 ·rw [hbd j (by omega)];simp [hjp]
structure Fi (l:PAl):Prop where
 un:∀ i:Nat,(l.un[i]?).getD false=false
 ar:ArFi l.ar
 len:l.un.length=l.ar.sp.length
instance (a:PAr) (c n:Int):Decidable (roomAt a c n):=by unfold roomAt;infer_instance
theorem scan1_fi {l:PAl}(H:Fi l){c:Int}(hc:0≤c∧c≤5):∀ (k n:Nat),
  ((∀ m:Nat,n≤m→m<n+k→¬ roomAt l.ar c m)∧PAl.scan1 c k n l=(none,l))∨
  (∃ m:Nat,n≤m∧m<n+k∧roomAt l.ar c m∧PAl.scan1 c k n l=(some ((l.ar.take m).1,(l.ar.take m).2.1),⟨(l.ar.take m).2.2,l.un⟩))
 | 0,n=>.inl ⟨fun m h1 h2=>by omega,rfl⟩
 | k+1,n=>by
  have hat:l.at1 c n=l:=by unfold PAl.at1;rw [if_neg (by rw [H.un n];decide)]
  have rest : ¬ roomAt l.ar c n→PAl.scan1 c (k+1) n l=PAl.scan1 c k (n+1) l:=by
   intro hr
   rw [PAl.scan1]
   by_cases h1:l.ar.cls n≠c
   ·rw [if_pos h1]
   ·rw [if_neg h1,hat,if_neg (show ¬ (l.ar.cls n=c∧l.ar.taken n≠fullB c) from hr)]
  by_cases hr:roomAt l.ar c n
  ·right
   refine⟨n,Nat.le_refl _,by omega,hr,?_⟩
   rw [PAl.scan1,if_neg (fun h=>h hr.1),hat,if_pos (show l.ar.cls n=c∧l.ar.taken n≠fullB c from hr)]
  ·rw [rest hr]
   rcases scan1_fi H hc k (n+1) with⟨h1,h2⟩ | ⟨m,h1,h2,h3,h4⟩
   ·refine .inl ⟨fun m hm hm'=>?_,h2⟩
    by_cases e:m=n
    ·subst e;exact hr
    ·exact h1 m (by omega) (by omega)
   ·exact .inr ⟨m,by omega,by omega,h3,h4⟩
theorem scan2_fi {l:PAl}(c:Int):∀ (k n:Nat),
  ((∀ m:Nat,n≤m→m<n+k→¬ l.ar.cls m = -1)∧PAl.scan2 c k n l=(none,l))∨
  (∃ m:Nat,n≤m∧m<n+k∧l.ar.cls m = -1∧PAl.scan2 c k n l=(some (l.beginU m c).1,(l.beginU m c).2))
 | 0,n=>.inl ⟨fun m h1 h2=>by omega,rfl⟩
 | k+1,n=>by
  by_cases hr:l.ar.cls n = -1
  ·exact .inr ⟨n,Nat.le_refl _,by omega,hr,by rw [PAl.scan2,if_pos hr]⟩
  ·rw [PAl.scan2,if_neg hr]
   rcases scan2_fi c k (n+1) with⟨h1,h2⟩ | ⟨m,h1,h2,h3,h4⟩
   ·refine .inl ⟨fun m hm hm'=>?_,h2⟩
    by_cases e:m=n
    ·subst e;exact hr
    ·exact h1 m (by omega) (by omega)
   ·exact .inr ⟨m,by omega,by omega,h3,h4⟩
theorem scan3_fi {l:PAl}(H:Fi l)(c:Int):∀ (k n:Nat),PAl.scan3 c k n l=(none,l)
 | 0,n=>rfl
 | k+1,n=>by rw [PAl.scan3,if_neg (by rw [H.un n];decide)];exact scan3_fi H c k (n+1)
theorem begin_fi {l:PAl}(H:Fi l){c:Int}(hc:0≤c∧c≤5){m:Nat}(hm:l.ar.has m)(h1:l.ar.cls m = -1):(l.beginU m c).1.2=0∧Fi (l.beginU m c).2∧(l.beginU m c).2.ar.sp.length=l.ar.sp.length:=by
 obtain⟨P0,P1,P2,W1,W2,_⟩:=pls_eq hc
 have hcl:(l.ar.at m).cls = -1:=by rw [← cls_at hm];exact h1
 have hset:l.ar.set m c=(0,l.ar.setS m ⟨c,0,0⟩):=by
  unfold PAr.set
  rw [if_neg (fun h=>h.elim (fun h=>h hm) (fun h=>by omega)),if_neg (fun h=>h hcl)]
 have hat:=PAr.setS_at ⟨c,0,0⟩ hm
 have hfi:ArFi (l.ar.setS m ⟨c,0,0⟩):=fun n hn=>by
  have hn':=(l.ar.setS_has m n _).1 hn
  by_cases e:n=m
  ·subst e;rw [hat];right;exact⟨hc.1,hc.2,fun j _=>by simp⟩
  ·rw [PAr.setS_ne _ hm hn' e];exact H.ar n hn'
 obtain⟨t1,t2,t3⟩:=take_err (a:=l.ar.setS m ⟨c,0,0⟩) ((l.ar.setS_has m m _).2 hm) hc (by rw [hat]) (j:=0) (by omega) (by rw [hat];simp) (fun j _=>by rw [hat];simp) hfi
 have e1:(l.beginU m c).1.2=((l.ar.setS m ⟨c,0,0⟩).take m).2.1:=by unfold PAl.beginU;rw [hset]
 have e2:(l.beginU m c).2=⟨((l.ar.setS m ⟨c,0,0⟩).take m).2.2,l.un.set m false⟩:=by unfold PAl.beginU;rw [hset]
 rw [e1,e2]
 refine⟨t1,⟨fun i=>?_,t2,?_⟩,by rw [t3,l.ar.setS_len]⟩
 ·show((l.un.set m false)[i]?).getD false=false
  by_cases e:m=i
  ·subst e
   by_cases hl:m<l.un.length
   ·rw [List.getElem?_set_self hl];rfl
   ·rw [List.getElem?_eq_none (by simp;omega)];rfl
  ·rw [List.getElem?_set_ne e];exact H.un i
 ·show(l.un.set m false).length=_
  rw [List.length_set,t3,l.ar.setS_len];exact H.len
def room (l:PAl)(c:Int):Prop:=∃ s:Nat,1≤s∧s<l.un.length∧(l.ar.cls s = -1∨roomAt l.ar c s)
theorem take_fi {l:PAl}(H:Fi l)(n:Int):Fi (l.take n).2∧(l.take n).2.ar.sp.length=l.ar.sp.length∧(classOf n = -1→(l.take n).1.2=1)∧(classOf n≠-1→((l.take n).1.2=0↔room l (classOf n))):=by
 unfold PAl.take
 by_cases h1:classOf n = -1
 ·rw [if_pos h1];exact⟨H,rfl,fun _=>rfl,fun h=>absurd h1 h⟩
 rw [if_neg h1]
 have hc:0≤classOf n∧classOf n≤5:=by
  rcases classOf_range n with h | h
  ·exact absurd h h1
  ·exact⟨h.1,h.2.1⟩
 generalize classOf n=c at *
 have hlen:=H.len
 rcases scan1_fi H hc l.un.length 0 with⟨a1,a2⟩ | ⟨m,b1,b2,b3,b4⟩
 ·rw [a2]
  simp only
  unfold PAl.more
  rcases scan2_fi (l:=l) c (l.un.length - 1) 1 with⟨c1,c2⟩ | ⟨m,d1,d2,d3,d4⟩
  ·rw [c2]
   simp only
   unfold PAl.more2
   rw [scan3_fi H]
   refine⟨H,rfl,fun h=>absurd h h1,fun _=>⟨fun h=>by simp at h,fun⟨s,s1,s2,s3⟩=>?_⟩⟩
   rcases s3 with s3 | s3
   ·exact absurd s3 (c1 s s1 (by omega))
   ·exact absurd s3 (a1 s (by omega) (by omega))
  ·rw [d4]
   simp only
   have hm:l.ar.has m:=⟨by omega,by omega⟩
   obtain⟨e1,e2,e3⟩:=begin_fi H hc hm d3
   exact⟨e2,e3,fun h=>absurd h h1,fun _=>⟨fun _=>⟨m,by omega,by omega,.inl d3⟩,fun _=>e1⟩⟩
 ·rw [b4]
  simp only
  obtain⟨hn,hcl,⟨j,hj,hb⟩,hbd⟩:=roomAt_bit hc b3 H.ar
  obtain⟨t1,t2,t3⟩:=take_err hn hc hcl hj hb hbd H.ar
  refine⟨⟨H.un,t2,by show l.un.length=_;rw [t3];exact hlen⟩,t3,fun h=>absurd h h1,fun _=>⟨fun _=>⟨m,?_,by omega,.inr b3⟩,fun _=>t1⟩⟩
  have:=hn.1;omega
theorem fi_new (N:Nat):Fi ⟨newA N,List.replicate N false⟩:=by
 refine⟨fun i=>?_,fun n hn=>?_,by show(List.replicate N false).length=(List.replicate N _).length;simp⟩
 ·by_cases h:i<N
  ·simp [h]
  ·simp [h]
 ·left
  have h2:=hn.2
  have:(newA N).sp.length=N:=by show(List.replicate N _).length=N;simp
  rw [this] at h2
  have h1:=hn.1
  unfold PAr.at newA
  simp only
  rw [List.getElem?_replicate,if_pos (by omega)];rfl
structure Wf (a:PAr):Prop where
 len:a.ws.length=a.sp.length * 64
 hi:a.sp.length≤512
 fi:ArFi a
theorem placed_rm {a:PAr}{e:En}(H:Wf a)(h:Placed a e):0≤e.c∧e.c≤5∧2≤wordsOf e.c∧wordsOf e.c≤64∧e.q < 32∧1≤e.s∧e.s<a.sp.length∧e.s * 64≤e.ad∧e.ad+wordsOf e.c≤e.s * 64+64∧64≤e.ad∧e.ad < 32768∧e.ad+wordsOf e.c≤a.ws.length:=by
 obtain⟨h1,h2,h3,h4⟩:=h
 have hw:=wp_cases e.c e.q (by omega) h3
 have hp:=pls_eq (c:=e.c) ⟨by omega,by omega⟩
 have:=h1.1
 have h2':=h1.2
 have hl:=H.len
 have hi:=H.hi
 have hq0:(0:Int)≤e.q*wordsOf e.c:=Int.mul_nonneg (by omega) (by omega)
 unfold En.ad
 exact⟨by omega,by omega,by omega,by omega,by omega,by omega,by omega,by omega,by omega,by omega,by omega,by omega⟩
theorem placed_find' {a:PAr}{e:En}(H:Wf a)(h:Placed a e):a.find e.ad=some (e.s,e.q):=by
 obtain⟨h1,h2,h3,h4⟩:=h
 have:=find_at (a:=a) (by have:=H.hi;omega) h1 (q:=e.q) (by rw [h2];exact h3)
 rw [h2,h4] at this
 exact this
theorem find_en {a:PAr}{ad n:Int}{q:Nat}(h:a.find ad=some (n,q)):(⟨n,q,(a.at n).cls⟩:En).ad=ad∧Placed a ⟨n,q,(a.at n).cls⟩:=by
 obtain⟨h1,h2,h3,h4,h5,h6,h7⟩:=find_some h
 exact⟨h5.symm,h1,rfl,h3,h4⟩
theorem placed_far {a:PAr}{e f:En}(H:Wf a)(he:Placed a e)(hf:Placed a f)(h:e.ad≠f.ad):e.ad+wordsOf e.c≤f.ad∨f.ad+wordsOf f.c≤e.ad:=by
 have r1:=placed_rm H he
 have r2:=placed_rm H hf
 by_cases hs:e.s=f.s
 ·have hc:e.c=f.c:=by rw [← he.2.1,← hf.2.1,hs]
  have hq:e.q≠f.q:=fun hq=>h (by unfold En.ad;rw [hs,hq,hc])
  unfold En.ad
  rw [hs,hc]
  rcases Nat.lt_or_gt_of_ne hq with hlt | hgt
  ·left
   have:=Int.mul_le_mul_of_nonneg_right (show(e.q:Int)+1≤f.q by omega) (show 0≤wordsOf f.c by omega)
   rw [Int.add_mul] at this;omega
  ·right
   have:=Int.mul_le_mul_of_nonneg_right (show(f.q:Int)+1≤e.q by omega) (show 0≤wordsOf f.c by omega)
   rw [Int.add_mul] at this;omega
 ·omega
structure Lies (a:PAr)(ad:Int)(ws:List Int):Prop where
 en:∃ e:En,e.ad=ad∧Placed a e∧(ws.length:Int)=wordsOf e.c
 wd:∀ i,i<ws.length→a.ws[ad.toNat+i]?=ws[i]?
theorem Lies.find {a:PAr}{ad:Int}{ws:List Int}(L:Lies a ad ws)(H:Wf a):∃ n q,a.find ad=some (n,q):=by
 obtain⟨e,rfl,hp,_⟩:=L.en
 exact⟨_,_,placed_find' H hp⟩
theorem Lies.pos {a:PAr}{ad:Int}{ws:List Int}(L:Lies a ad ws)(H:Wf a):64≤ad∧ad < 32768∧2≤ws.length∧ws.length≤64:=by
 obtain⟨e,rfl,hp,hl⟩:=L.en
 have:=placed_rm H hp
 exact⟨by omega,by omega,by omega,by omega⟩
theorem Lies.word {a:PAr}{ad:Int}{ws:List Int}(L:Lies a ad ws)(H:Wf a)(k:Int):a.word ad k=if 0≤k∧k<ws.length then some (ad+k).toNat else none:=by
 obtain⟨e,rfl,hp,hl⟩:=L.en
 unfold PAr.word
 rw [placed_find' H hp]
 simp only
 rw [hp.2.1,← hl]
theorem word_no {a:PAr}{ad:Int}(h:a.find ad=none)(k:Int):a.word ad k=none:=by
 unfold PAr.word;rw [h]
theorem Lies.read {a:PAr}{ad:Int}{ws:List Int}(L:Lies a ad ws)(H:Wf a)(k:Int):a.read ad k=if 0≤k∧k<ws.length then((ws[k.toNat]?).getD 0,0) else(0,1):=by
 have hp:=L.pos H
 by_cases h:0≤k∧k<ws.length
 ·rw [if_pos h,read_some (i:=(ad+k).toNat) (by rw [L.word H,if_pos h])]
  have:=L.wd k.toNat (by omega)
  rw [show(ad+k).toNat=ad.toNat+k.toNat by omega,this]
 ·rw [if_neg h,read_none (by rw [L.word H,if_neg h])]
theorem read_no {a:PAr}{ad:Int}(h:a.find ad=none)(k:Int):a.read ad k=(0,1):=read_none (word_no h k)
theorem placed_sp {a b:PAr}(h:b.sp=a.sp)(e:En):Placed b e↔Placed a e:=by unfold Placed PAr.has PAr.at;rw [h]
theorem find_sp {a b:PAr}(h:b.sp=a.sp)(ad:Int):b.find ad=a.find ad:=by
 obtain⟨w1,s1⟩:=a
 obtain⟨w2,s2⟩:=b
 simp only at h
 subst h;rfl
theorem cls_sp {a b:PAr}(h:b.sp=a.sp)(n:Int):b.cls n=a.cls n:=by
 obtain⟨w1,s1⟩:=a
 obtain⟨w2,s2⟩:=b
 simp only at h
 subst h;rfl
theorem Lies.write {a:PAr}{ad:Int}{ws:List Int}(L:Lies a ad ws)(H:Wf a){k:Int}(h:0≤k∧k<ws.length)(v:Int) :
  ∃ b,a.write ad k v=(0,b)∧Wf b∧b.sp=a.sp∧Lies b ad (ws.set k.toNat v)∧∀ ad' ws',ad'≠ad→Lies a ad' ws'→Lies b ad' ws':=by
 have hp:=L.pos H
 refine⟨⟨a.ws.set (ad+k).toNat v,a.sp⟩,write_some (by rw [L.word H,if_pos h]),⟨by simp only [List.length_set];exact H.len,H.hi,H.fi⟩,rfl,⟨?_,?_⟩,fun ad' ws' hne L'=>⟨?_,?_⟩⟩
 ·obtain⟨e,h1,h2,h3⟩:=L.en
  exact⟨e,h1,(placed_sp (b:=⟨_,a.sp⟩) rfl e).2 h2,by rw [List.length_set];exact h3⟩
 ·intro i hi
  rw [List.length_set] at hi
  have hw:=L.wd i hi
  obtain⟨e,h1,h2,h3⟩:=L.en
  have hr:=placed_rm H h2
  by_cases e':i=k.toNat
  ·subst e'
   rw [List.getElem?_set_self hi,show(ad+k).toNat=ad.toNat+k.toNat by omega,List.getElem?_set_self (by rw [h1] at hr;omega)]
  ·rw [List.getElem?_set_ne (by omega),List.getElem?_set_ne (by omega)];exact hw
 ·obtain⟨e,h1,h2,h3⟩:=L'.en
  exact⟨e,h1,(placed_sp (b:=⟨_,a.sp⟩) rfl e).2 h2,h3⟩
 ·intro i hi
  obtain⟨e,h1,h2,h3⟩:=L'.en
  obtain⟨f,f1,f2,f3⟩:=L.en
  have hp':=L'.pos H
  have hfar:=placed_far H h2 f2 (by rw [h1,f1];exact hne)
  rw [h1,f1] at hfar
  show(a.ws.set (ad+k).toNat v)[ad'.toNat+i]?=_
  rw [List.getElem?_set_ne (by omega)];exact L'.wd i hi
def PAr.isM (a:PAr)(ad:Int):Bool:=match a.find ad with | some (n,q)=>(a.at n).md.getLsbD q | none=>false
theorem room_bit {a:PAr}{c n:Int}(hc:0≤c∧c≤5)(h:roomAt a c n)(H:ArFi a):(first0 (a.at n).tk:Int)<placesOf c∧(a.at n).tk.getLsbD (first0 (a.at n).tk)=false∧a.has n∧(a.at n).cls=c:=by
 obtain⟨hn,hcl,⟨j,hj,hb⟩,hbd⟩:=roomAt_bit hc h H
 obtain⟨P0,P1,P2,_⟩:=pls_eq hc
 have:=first0_lt (b:=(a.at n).tk) (q:=j) (by omega) hb
 exact⟨by omega,this.2,hn,hcl⟩
structure Stay (a b:PAr)(ad:Int):Prop where
 find:∀ ad',ad'≠ad→b.find ad'=a.find ad'
 lies:∀ ad' ws,Lies a ad' ws→Lies b ad' ws
 isM:∀ ad',ad'≠ad→b.isM ad'=a.isM ad'
 len:b.sp.length=a.sp.length
theorem Stay.trans {a b c:PAr}{ad:Int}(h:Stay a b ad)(k:Stay b c ad):Stay a c ad:=
 ⟨fun x hx=>(k.find x hx).trans (h.find x hx),fun x ws l=>k.lies x ws (h.lies x ws l),fun x hx=>(k.isM x hx).trans (h.isM x hx),k.len.trans h.len⟩
theorem take_lies {a:PAr}{c n:Int}(H:Wf a)(hc:0≤c∧c≤5)(h:roomAt a c n) :
  ∃ ad b,a.take n=(ad,0,b)∧Wf b∧a.find ad=none∧64≤ad∧ad < 32768∧Lies b ad (List.replicate (wordsOf c).toNat 0)∧b.isM ad=false∧Stay a b ad∧(∀ m,b.cls m=a.cls m):=by
 obtain⟨hq,hfree,hn,hcl⟩:=room_bit hc h H.fi
 obtain⟨P0,P1,P2,W1,W2,_⟩:=pls_eq hc
 obtain⟨_,_,⟨j,hj,hb⟩,hbd⟩:=roomAt_bit hc h H.fi
 have hte:=take_err hn hc hcl hj hb hbd H.fi
 have hwp:=wp_cases c (first0 (a.at n).tk) (by omega) hq
 unfold PAr.take at hte ⊢
 rw [if_neg (by rw [cls_at hn,hcl];omega),hcl,if_neg (by omega)] at hte ⊢
 generalize hqq:first0 (a.at n).tk=q at *
 have b1:=hn.1
 have b2:=hn.2
 have hN:=H.hi
 have hwl:=H.len
 have hq0:(0:Int)≤q*wordsOf c:=Int.mul_nonneg (by omega) (by omega)
 have hat:=PAr.setS_at ⟨c,(a.at n).tk ||| bitOf q,(a.at n).md &&& ~~~ bitOf q⟩ hn
 have hne:∀ m,a.has m→m≠n→(a.setS n ⟨c,(a.at n).tk ||| bitOf q,(a.at n).md &&& ~~~ bitOf q⟩).at m=a.at m:=fun m hm h=>PAr.setS_ne _ hn hm h
 have hcls:=fun m=>a.setS_cls (m:=m) ⟨c,(a.at n).tk ||| bitOf q,(a.at n).md &&& ~~~ bitOf q⟩ hn
 have hslen:=a.setS_len n ⟨c,(a.at n).tk ||| bitOf q,(a.at n).md &&& ~~~ bitOf q⟩
 have hhas:=fun m=>a.setS_has n m ⟨c,(a.at n).tk ||| bitOf q,(a.at n).md &&& ~~~ bitOf q⟩
 generalize hb':(⟨clr a.ws (n * 64+q*wordsOf c).toNat (wordsOf c).toNat,(a.setS n ⟨c,(a.at n).tk ||| bitOf q,(a.at n).md &&& ~~~ bitOf q⟩).sp⟩:PAr)=b at *
 have bsp:b.sp=(a.setS n ⟨c,(a.at n).tk ||| bitOf q,(a.at n).md &&& ~~~ bitOf q⟩).sp:=by rw [← hb']
 have bw:b.ws=clr a.ws (n * 64+q*wordsOf c).toNat (wordsOf c).toNat:=by rw [← hb']
 have bat:∀ m,b.at m=(a.setS n ⟨c,(a.at n).tk ||| bitOf q,(a.at n).md &&& ~~~ bitOf q⟩).at m:=fun m=>congrArg (fun l:List PSp=>(l[m.toNat]?).getD ⟨-1,0,0⟩) bsp
 have bl:b.sp.length=a.sp.length:=by rw [bsp];exact hslen
 have bhas:∀ m,b.has m↔a.has m:=fun m=>by unfold PAr.has;rw [bl]
 have bcls:∀ m,b.cls m=a.cls m:=fun m=>by
  have e:b.cls m=(a.setS n ⟨c,(a.at n).tk ||| bitOf q,(a.at n).md &&& ~~~ bitOf q⟩).cls m:=cls_sp bsp m
  rw [e,hcls m]
  by_cases hm:m=n
  ·rw [if_pos hm,hm,cls_at hn,hcl]
  ·rw [if_neg hm]
 have hwf:Wf b:=⟨by rw [bw,bl,clr_length (by omega)];exact hwl,by rw [bl];exact hN,hte.2.1⟩
 have hnone:a.find (n * 64+q*wordsOf c)=none:=by
  have:=find_at (a:=a) (by omega) hn (q:=q) (by rw [hcl];exact hq)
  rw [hcl,hfree] at this;exact this
 have hpl:∀ f:En,Placed a f→Placed b f:=by
  rintro f ⟨f1,f2,f3,f4⟩
  refine⟨(bhas _).2 f1,?_,f3,?_⟩
  ·by_cases hfs:f.s=n
   ·rw [hfs,bat,hat];show c=f.c;rw [← f2,hfs,hcl]
   ·rw [bat,hne f.s f1 hfs];exact f2
  ·by_cases hfs:f.s=n
   ·rw [hfs,bat,hat]
    show((a.at n).tk ||| bitOf q).getLsbD f.q=true
    rw [BitVec.getLsbD_or,← hfs,f4];rfl
   ·rw [bat,hne f.s f1 hfs];exact f4
 have hback:∀ f:En,Placed b f→f.ad≠n * 64+q*wordsOf c→Placed a f:=by
  rintro f ⟨f1,f2,f3,f4⟩ hfa
  have f1':=(bhas _).1 f1
  by_cases hfs:f.s=n
  ·have hfc:f.c=c:=by rw [← f2,hfs,bat,hat]
   have hfq : ¬ f.q=q:=fun e=>hfa (by unfold En.ad;rw [hfs,e,hfc])
   rw [hfs,bat,hat] at f4
   have hfw:=wp_cases f.c f.q (by omega) f3
   have hp32:=(pls_eq (c:=f.c) ⟨by omega,by omega⟩)
   have f4':((a.at n).tk ||| bitOf q).getLsbD f.q=true:=f4
   rw [BitVec.getLsbD_or,bit_get q f.q (by omega)] at f4'
   simp only [hfq,decide_false,Bool.or_false] at f4'
   exact⟨f1',by rw [hfs,hcl,hfc],f3,by rw [hfs];exact f4'⟩
  ·rw [bat,hne f.s f1' hfs] at f2 f4
   exact⟨f1',f2,f3,f4⟩
 have hnew:Placed b ⟨n,q,c⟩:=⟨(bhas n).2 hn,by rw [bat,hat],hq,by
  rw [bat,hat]
  show((a.at n).tk ||| bitOf q).getLsbD q=true
  rw [BitVec.getLsbD_or,bit_get q q (by omega)];simp⟩
 have hfind:∀ ad',ad'≠n * 64+q*wordsOf c→b.find ad'=a.find ad':=by
  intro ad' hne'
  cases hf:a.find ad' with
  | some x=>
   obtain⟨m,k⟩:=x
   obtain⟨g1,g2⟩:=find_en hf
   have:=placed_find' hwf (hpl _ g2)
   rw [g1] at this;exact this
  | none=>
   cases hg:b.find ad' with
   | none=>rfl
   | some x=>
    obtain⟨m,k⟩:=x
    obtain⟨g1,g2⟩:=find_en hg
    have:=placed_find' H (hback _ g2 (by rw [g1];exact hne'))
    rw [g1,hf] at this;cases this
 refine⟨n * 64+q*wordsOf c,b,rfl,hwf,hnone,by omega,by omega,⟨⟨⟨n,q,c⟩,rfl,hnew,by simp only [List.length_replicate];omega⟩,fun i hi=>?_⟩,?_,⟨hfind,fun ad' ws L=>⟨?_,fun i hi=>?_⟩,fun ad' hne'=>?_,bl⟩,bcls⟩
 ·rw [List.length_replicate] at hi
  rw [bw,clr_in (by omega) (by omega) (by omega),List.getElem?_replicate,if_pos hi]
 ·unfold PAr.isM
  have:=placed_find' hwf hnew
  have e:(⟨n,q,c⟩:En).ad=n * 64+q*wordsOf c:=rfl
  rw [e] at this
  rw [this]
  simp only
  rw [bat,hat]
  show((a.at n).md &&& ~~~ bitOf q).getLsbD q=false
  rw [BitVec.getLsbD_and,BitVec.getLsbD_not,bit_get q q (by omega)];simp
 ·obtain⟨f,f1,f2,f3⟩:=L.en
  exact⟨f,f1,hpl f f2,f3⟩
 ·obtain⟨f,f1,f2,f3⟩:=L.en
  have hfa:f.ad≠n * 64+q*wordsOf c:=fun e=>by
   have:=placed_find' H f2
   rw [e,hnone] at this;cases this
  have hfar:=placed_far hwf (hpl f f2) hnew hfa
  have hr:=placed_rm H f2
  have e:(⟨n,q,c⟩:En).ad=n * 64+q*wordsOf c:=rfl
  have ec:(⟨n,q,c⟩:En).c=c:=rfl
  rw [e,ec,f1] at hfar
  rw [f1] at hr
  rw [bw,clr_get (by omega) (by omega)];exact L.wd i hi
 ·unfold PAr.isM
  rw [hfind ad' hne']
  cases hf:a.find ad' with
  | none=>rfl
  | some x=>
   obtain⟨m,k⟩:=x
   simp only
   obtain⟨g1,g2⟩:=find_en hf
   by_cases hm:m=n
   ·subst hm
    have hk : ¬ k=q:=fun e=>hne' (by rw [← g1,e];unfold En.ad;simp only [hcl])
    have hk64:=(placed_rm H g2).2.2.2.2.1
    simp only at hk64
    have hk':k < 64:=by omega
    rw [bat,hat]
    show((a.at m).md &&& ~~~ bitOf q).getLsbD k=_
    rw [BitVec.getLsbD_and,BitVec.getLsbD_not,bit_get q k (by omega)]
    simp [hk,hk']
   ·rw [bat,hne m g2.1 hm]
theorem set_lies {a:PAr}{c n:Int}(H:Wf a)(hc:0≤c∧c≤5)(hn:a.has n)(h:a.cls n = -1)(ad:Int) :
  ∃ b,a.set n c=(0,b)∧Wf b∧Stay a b ad∧(∀ m,b.cls m=if m=n then c else a.cls m)∧roomAt b c n∧b.find ad=a.find ad∧b.isM ad=a.isM ad:=by
 obtain⟨P0,P1,P2,W1,W2,_⟩:=pls_eq hc
 have hcl:(a.at n).cls = -1:=by rw [← cls_at hn];exact h
 have hset:a.set n c=(0,a.setS n ⟨c,0,0⟩):=by
  unfold PAr.set
  rw [if_neg (fun h=>h.elim (fun h=>h hn) (fun h=>by omega)),if_neg (fun h=>h hcl)]
 have hat:=PAr.setS_at ⟨c,0,0⟩ hn
 have hcls:=fun m=>a.setS_cls (m:=m) ⟨c,0,0⟩ hn
 have hl:=a.setS_len n ⟨c,0,0⟩
 have hhas:=fun m=>a.setS_has n m ⟨c,0,0⟩
 have hne:∀ m,a.has m→m≠n→(a.setS n ⟨c,0,0⟩).at m=a.at m:=fun m hm h=>PAr.setS_ne _ hn hm h
 have hws:=PAr.setS_ws a n ⟨c,0,0⟩
 generalize hb:a.setS n ⟨c,0,0⟩=b at *
 have hwf:Wf b:=⟨by rw [hl,hws];exact H.len,by rw [hl];exact H.hi,fun m hm=>by
  have hm':=(hhas m).1 hm
  by_cases e:m=n
  ·rw [e,hat];right;exact⟨hc.1,hc.2,fun j _=>by simp⟩
  ·rw [hne m hm' e];exact H.fi m hm'⟩
 have hpl:∀ f:En,Placed b f↔Placed a f:=by
  intro f
  by_cases hfs:f.s=n
  ·constructor
   ·rintro⟨f1,f2,f3,f4⟩
    rw [hfs,hat] at f4;simp at f4
   ·intro hp
    have:=placed_rm H hp
    have e:=hp.2.1
    rw [hfs,hcl] at e;omega
  ·constructor
   ·rintro⟨f1,f2,f3,f4⟩
    have f1':=(hhas _).1 f1
    rw [hne _ f1' hfs] at f2 f4
    exact⟨f1',f2,f3,f4⟩
   ·rintro⟨f1,f2,f3,f4⟩
    refine⟨(hhas _).2 f1,?_,f3,?_⟩<;>rw [hne _ f1 hfs]<;>assumption
 have hfind:∀ ad',b.find ad'=a.find ad':=by
  intro ad'
  cases hf:a.find ad' with
  | some x=>
   obtain⟨m,k⟩:=x
   obtain⟨g1,g2⟩:=find_en hf
   have:=placed_find' hwf ((hpl _).2 g2)
   rw [g1] at this;exact this
  | none=>
   cases hg:b.find ad' with
   | none=>rfl
   | some x=>
    obtain⟨m,k⟩:=x
    obtain⟨g1,g2⟩:=find_en hg
    have:=placed_find' H ((hpl _).1 g2)
    rw [g1,hf] at this;cases this
 have hisM:∀ ad',b.isM ad'=a.isM ad':=by
  intro ad'
  unfold PAr.isM
  rw [hfind ad']
  cases hf:a.find ad' with
  | none=>rfl
  | some x=>
   obtain⟨m,k⟩:=x
   simp only
   obtain⟨g1,g2⟩:=find_en hf
   have:m≠n:=fun e=>by
    have h1:=placed_rm H g2
    have h2:=g2.2.1
    simp only at h2 h1
    rw [e,hcl] at h1;omega
   rw [hne m g2.1 this]
 refine⟨b,hset,hwf,⟨fun x _=>hfind x,fun ad' ws L=>⟨?_,fun i hi=>?_⟩,fun x _=>hisM x,hl⟩,fun m=>?_,⟨?_,?_⟩,hfind ad,hisM ad⟩
 ·obtain⟨f,f1,f2,f3⟩:=L.en
  exact⟨f,f1,(hpl f).2 f2,f3⟩
 ·rw [hws];exact L.wd i hi
 ·rw [hcls m]
 ·rw [hcls n,if_pos rfl]
 ·unfold PAr.taken
  rw [hcls n,if_pos rfl,if_neg (by show ¬ c = -1;omega),hat]
  intro e
  have:=full_bits hc 0 (by omega)
  rw [← e] at this
  simp at this;omega
def PAr.used (a:PAr):Nat:=cnt (fun i=>decide (¬ a.cls i = -1)) a.sp.length
theorem used_same {a b:PAr}(h:∀ m,b.cls m=a.cls m)(hl:b.sp.length=a.sp.length):b.used=a.used:=by
 unfold PAr.used;rw [hl]
 exact cnt_congr fun i _=>by rw [h]
theorem used_one {a b:PAr}{n:Nat}{c:Int}(h:∀ m,b.cls m=if m=n then c else a.cls m)(hl:b.sp.length=a.sp.length):b.used≤a.used+1:=by
 unfold PAr.used;rw [hl]
 have:∀ N,cnt (fun i=>decide (¬ b.cls i = -1)) N≤cnt (fun i=>decide (¬ a.cls i = -1)) N+(if n<N then 1 else 0):=by
  intro N
  induction N with
  | zero=>simp [cnt]
  | succ N ih=>
   rw [cnt,cnt]
   by_cases e:N=n
   ·subst e
    rw [if_pos (by omega)]
    rw [if_neg (by omega)] at ih
    have h1:=Bool.toNat_le (decide (¬ b.cls N = -1))
    omega
   ·have e1:b.cls N=a.cls N:=by rw [h];rw [if_neg (by omega)]
    simp only [e1]
    by_cases h2:n<N
    ·rw [if_pos h2] at ih;rw [if_pos (by omega)];omega
    ·rw [if_neg h2] at ih;rw [if_neg (by omega)];omega
 have:=this a.sp.length
 split at this<;>omega
theorem cnt_full {f:Nat→Bool}:∀ N,(∀ i,i<N→1≤i→f i=true)→N - 1≤cnt f N
 | 0,_=>by simp
 | N+1,h=>by
  have ih:=cnt_full N fun i hi h1=>h i (by omega) h1
  rw [cnt]
  by_cases h0:1≤N
  ·rw [h N (by omega) h0];show N+1 - 1≤cnt f N+1;omega
  ·omega
theorem room_used {l:PAl}(H:Fi l){c:Int}(hu:l.ar.used+1<l.ar.sp.length):room l c:=by
 apply Classical.byContradiction
 intro hno
 have hall:∀ i:Nat,i<l.ar.sp.length→1≤i→decide (¬ l.ar.cls i = -1)=true:=by
  intro i hi h1
  rw [decide_eq_true_eq]
  intro e
  exact hno ⟨i,h1,by rw [H.len];exact hi,.inl e⟩
 have:=cnt_full (f:=fun i:Nat=>decide (¬ l.ar.cls i = -1)) _ hall
 unfold PAr.used at hu
 omega
theorem atake_lies {l:PAl}(H:Fi l)(W:Wf l.ar){n:Int}(hcl:classOf n≠-1)(hr:room l (classOf n)) :
  ∃ ad l',l.take n=((ad,0),l')∧Fi l'∧Wf l'.ar∧l.ar.find ad=none∧64≤ad∧ad < 32768∧Lies l'.ar ad (List.replicate (wordsOf (classOf n)).toNat 0)∧l'.ar.isM ad=false∧Stay l.ar l'.ar ad∧l'.ar.used≤l.ar.used+1∧l'.un.length=l.un.length:=by
 have hfi:=take_fi H n
 unfold PAl.take at hfi ⊢
 rw [if_neg hcl] at hfi ⊢
 have hc:0≤classOf n∧classOf n≤5:=by
  rcases classOf_range n with h | h
  ·exact absurd h hcl
  ·exact⟨h.1,h.2.1⟩
 generalize classOf n=c at *
 have hlen:=H.len
 rcases scan1_fi H hc l.un.length 0 with⟨a1,a2⟩ | ⟨m,b1,b2,b3,b4⟩
 ·rw [a2] at hfi ⊢
  simp only at hfi ⊢
  unfold PAl.more at hfi ⊢
  rcases scan2_fi (l:=l) c (l.un.length - 1) 1 with⟨c1,c2⟩ | ⟨m,d1,d2,d3,d4⟩
  ·exfalso
   obtain⟨s,s1,s2,s3⟩:=hr
   rcases s3 with s3 | s3
   ·exact absurd s3 (c1 s s1 (by omega))
   ·exact absurd s3 (a1 s (by omega) (by omega))
  ·rw [d4] at hfi ⊢
   simp only at hfi ⊢
   have hm:l.ar.has m:=⟨by omega,by omega⟩
   obtain⟨b,e1,e2,e3,e4,e5,e6,e7⟩:=set_lies W hc hm d3 0
   obtain⟨ad,b',t1,t2,t3,t4,t5,t6,t7,t8,t9⟩:=take_lies e2 hc e5
   obtain⟨b2,e1',e2',e3',e4',e5',e6',e7'⟩:=set_lies W hc hm d3 ad
   have hbb:b2=b:=by rw [e1] at e1';cases e1';rfl
   subst hbb
   have hb1:(l.beginU m c).1=(ad,0):=by unfold PAl.beginU;rw [e1];simp only;rw [t1]
   have hb2:(l.beginU m c).2=⟨b',l.un.set m false⟩:=by unfold PAl.beginU;rw [e1];simp only;rw [t1]
   rw [hb1,hb2] at hfi ⊢
   refine⟨ad,_,rfl,hfi.1,t2,by rw [← e6',t3],t4,t5,t6,t7,e3'.trans t8,?_,by simp⟩
   have u1:=used_same t9 t8.len
   have u2:=used_one e4' e3'.len
   simp only at u1 u2 ⊢
   omega
 ·rw [b4] at hfi ⊢
  simp only at hfi ⊢
  obtain⟨ad,b',t1,t2,t3,t4,t5,t6,t7,t8,t9⟩:=take_lies W hc b3
  rw [t1] at hfi ⊢
  refine⟨ad,_,rfl,hfi.1,t2,t3,t4,t5,t6,t7,t8,?_,rfl⟩
  have u1:=used_same t9 t8.len
  simp only at u1 ⊢
  omega
theorem wf_new (N:Nat)(h:N≤512):Wf (newA N):=⟨by simp [newA],by simpa [newA] using h,(fi_new N).ar⟩
theorem used_new (N:Nat):(newA N).used=0:=by
 unfold PAr.used
 rw [cnt_zero]
 intro j hj
 have:(newA N).cls j = -1:=by
  unfold PAr.cls
  split
  ·unfold PAr.at newA
   simp only
   by_cases hlt:j<N
   ·simp [hlt]
   ·simp [hlt]
  ·rfl
 simp [this]
end Go.Ab.F
