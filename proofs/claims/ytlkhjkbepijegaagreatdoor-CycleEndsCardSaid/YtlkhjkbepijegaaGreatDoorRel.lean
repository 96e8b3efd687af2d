import Derived.Test.YtlkhjkbepijegaaGreatDoorRfa
namespace Go.Ab.F
open Go Go.Ab
set_option linter.all false
set_option linter.all false
structure Rel (a:PAr)(cls:List Int)(L:List Tm):Prop where
 wf:Wf a
 md:∀ n,a.has n→∀ j,(a.at n).md.getLsbD j=true→(a.at n).tk.getLsbD j=true
 len:cls.length=a.sp.length
 cl:∀ i:Nat,i<a.sp.length→cls[i]?=some (a.cls i)
 so:L.Pairwise fun t u=>t.ad<u.ad
 mem:∀ t∈L,Lies a t.ad t.W∧t.mkd=a.isM t.ad
 all:∀ ad x,a.find ad=some x→∃ t∈L,t.ad=ad
theorem find_pl {a:PAr}{ad n:Int}{q:Nat}(h:a.find ad=some (n,q)):n=spanOf ad∧0≤placeOf ad (a.cls n)∧q=(placeOf ad (a.cls n)).toNat:=by
 have h1:=(find_some h).2.1
 subst h1
 unfold PAr.find at h
 split at h
 ·cases h
 ·rename_i hne
  injection h with h;injection h with h1 h2
  exact⟨rfl,by omega,h2.symm⟩
theorem Rel.found {a:PAr}{cls:List Int}{L:List Tm}(R:Rel a cls L){t:Tm}(ht:t∈L):∃ n q,a.find t.ad=some (n,q):=(R.mem t ht).1.find R.wf
theorem Rel.ix {a:PAr}{cls:List Int}{L:List Tm}(R:Rel a cls L)(ad:Int):findIx ad L 0=none↔a.find ad=none:=by
 constructor
 ·intro h
  cases hf:a.find ad with
  | none=>rfl
  | some x=>
   obtain⟨t,ht,e⟩:=R.all ad x hf
   exact absurd e (findIx_no h t ht)
 ·intro h
  cases hf:findIx ad L 0 with
  | none=>rfl
  | some m=>
   obtain⟨t,_,ht,e⟩:=findIx_at hf
   obtain⟨n,q,h2⟩:=R.found (List.mem_of_getElem? ht)
   rw [e,h] at h2;cases h2
theorem Rel.ixs {a:PAr}{cls:List Int}{L:List Tm}(R:Rel a cls L){ad:Int}{m:Nat}(h:findIx ad L 0=some m):∃ t,L[m]?=some t∧t.ad=ad∧Lies a ad t.W∧t.mkd=a.isM ad:=by
 obtain⟨t,_,ht,e⟩:=findIx_at h
 rw [Nat.sub_zero] at ht
 have:=R.mem t (List.mem_of_getElem? ht)
 rw [e] at this
 exact⟨t,ht,e,this.1,this.2⟩
theorem Rel.places {a:PAr}{cls:List Int}{L:List Tm}(R:Rel a cls L){n:Int}{t:Tm}(ht:t∈L)(hs:spanOf t.ad=n):a.has n∧a.cls n=(a.at n).cls∧0≤placeOf t.ad (a.cls n)∧(placeOf t.ad (a.cls n)).toNat<pls (a.cls n)∧0≤a.cls n∧a.cls n≤5∧(a.at n).tk.getLsbD (placeOf t.ad (a.cls n)).toNat=true∧t.mkd=(a.at n).md.getLsbD (placeOf t.ad (a.cls n)).toNat∧t.ad=adOf n (a.cls n) (placeOf t.ad (a.cls n)).toNat:=by
 obtain⟨m,q,hf⟩:=R.found ht
 obtain⟨p1,p2,p3⟩:=find_pl hf
 obtain⟨f1,f2,f3,f4,f5,f6,f7⟩:=find_some hf
 rw [hs] at p1
 subst p1
 have hc:a.cls m=(a.at m).cls:=cls_at f1
 have hp:=pls_eq (c:=(a.at m).cls) ⟨f6,f7⟩
 have hm:=(R.mem t ht).2
 unfold PAr.isM at hm
 rw [hf] at hm
 rw [← p3,hc]
 rw [hc] at p2
 exact⟨f1,rfl,p2,by omega,f6,f7,f4,hm,f5⟩
set_option linter.all false
theorem isM_of {a:PAr}{ad n:Int}{q:Nat}(h:a.find ad=some (n,q)):a.isM ad=(a.at n).md.getLsbD q:=by unfold PAr.isM;rw [h]
theorem rel_new (N:Nat)(h:N≤512):Rel (newA N) (List.replicate N (-1)) [] where
 wf:=⟨by simp [newA],by simpa [newA] using h,fun n hn=>.inl (by
  unfold PAr.at newA
  simp only [List.getElem?_replicate]
  split<;>rfl)⟩
 md:=fun n hn j hj=>by
  unfold PAr.at newA at hj
  simp only [List.getElem?_replicate] at hj
  split at hj<;>simp at hj
 len:=by simp [newA]
 cl:=fun i hi=>by
  have hi':i<N:=by simpa [newA] using hi
  have:(newA N).cls i = -1:=by
   unfold PAr.cls PAr.at newA
   simp only [List.getElem?_replicate]
   split
   ·split<;>rfl
   ·rfl
  rw [this,List.getElem?_replicate,if_pos hi']
 so:=List.Pairwise.nil
 mem:=fun t ht=>by simp at ht
 all:=fun ad x hx=>by
  exfalso
  have:(newA N).find ad=none:=by
   apply find_none
   unfold PAr.cls PAr.at newA
   simp only [List.getElem?_replicate]
   split
   ·split<;>rfl
   ·rfl
  rw [this] at hx;cases hx
structure SameTk (a b:PAr):Prop where
 ws:b.ws=a.ws
 len:b.sp.length=a.sp.length
 cls:∀ n,a.has n→(b.at n).cls=(a.at n).cls
 tk:∀ n,a.has n→(b.at n).tk=(a.at n).tk
namespace SameTk
variable {a b:PAr}(S:SameTk a b)
include S
theorem has (n:Int):b.has n↔a.has n:=by unfold PAr.has;rw [S.len]
theorem clsE (n:Int):b.cls n=a.cls n:=by
 unfold PAr.cls
 by_cases h:a.has n
 ·rw [if_pos h,if_pos ((S.has n).2 h),S.cls n h]
 ·rw [if_neg h,if_neg (fun h'=>h ((S.has n).1 h'))]
theorem find (ad:Int):b.find ad=a.find ad:=by
 unfold PAr.find
 rw [S.clsE]
 by_cases h:a.has (spanOf ad)
 ·rw [S.tk _ h]
 ·have:a.cls (spanOf ad) = -1:=by unfold PAr.cls;rw [if_neg h]
  have hp:placeOf ad (-1) = -1:=by unfold placeOf;rw [if_pos (.inl rfl)]
  rw [this,hp,if_pos (.inl (by decide)),if_pos (.inl (by decide))]
theorem placed (e:En):Placed b e↔Placed a e:=by
 unfold Placed
 constructor
 ·rintro⟨h1,h2,h3,h4⟩
  have h1':=(S.has _).1 h1
  rw [S.cls _ h1'] at h2;rw [S.tk _ h1'] at h4
  exact⟨h1',h2,h3,h4⟩
 ·rintro⟨h1,h2,h3,h4⟩
  exact⟨(S.has _).2 h1,by rw [S.cls _ h1];exact h2,h3,by rw [S.tk _ h1];exact h4⟩
theorem lies {ad:Int}{W:List Int}(h:Lies a ad W):Lies b ad W:=by
 obtain⟨e,h1,h2,h3⟩:=h.en
 exact⟨⟨e,h1,(S.placed e).2 h2,h3⟩,fun i hi=>by rw [S.ws];exact h.wd i hi⟩
theorem wf (W:Wf a):Wf b:=⟨by rw [S.ws,S.len];exact W.len,by rw [S.len];exact W.hi,fun n hn=>by
 have hn':=(S.has n).1 hn
 rw [S.cls n hn',S.tk n hn'];exact W.fi n hn'⟩
end SameTk
theorem clear_at (a:PAr)(n:Int)(hn:a.has n):(a.clear).at n=⟨(a.at n).cls,(a.at n).tk,0⟩:=by
 have h:=PAr.at_some hn
 unfold PAr.clear
 show(((a.sp.map fun x:PSp=>(⟨x.cls,x.tk,0⟩:PSp))[n.toNat]?).getD ⟨-1,0,0⟩)=_
 rw [List.getElem?_map,h];rfl
theorem rel_clear {a:PAr}{cls:List Int}{L:List Tm}(R:Rel a cls L):Rel a.clear cls (rclear L):=by
 have S:SameTk a a.clear:=⟨rfl,by simp [PAr.clear],fun n hn=>by rw [clear_at a n hn],fun n hn=>by rw [clear_at a n hn]⟩
 refine⟨S.wf R.wf,fun n hn j hj=>?_,by rw [S.len];exact R.len,fun i hi=>by rw [S.clsE];exact R.cl i (by rw [← S.len];exact hi),?_,fun t ht=>?_,fun ad x hx=>?_⟩
 ·rw [clear_at a n ((S.has n).1 hn)] at hj;simp at hj
 ·unfold rclear;rw [List.pairwise_map];exact R.so
 ·unfold rclear at ht
  rw [List.mem_map] at ht
  obtain⟨u,hu,rfl⟩:=ht
  obtain⟨m1,m2⟩:=R.mem u hu
  obtain⟨n,q,hf⟩:=R.found hu
  refine⟨S.lies m1,?_⟩
  rw [isM_of (by rw [S.find];exact hf),clear_at a n (find_some hf).1];simp
 ·rw [S.find] at hx
  obtain⟨t,ht,e⟩:=R.all ad x hx
  exact⟨_,List.mem_map.2 ⟨t,ht,rfl⟩,e⟩
theorem set_so {L:List Tm}{i:Nat}{t u:Tm}(ht:L[i]?=some t)(e:u.ad=t.ad)(h:L.Pairwise fun t u=>t.ad<u.ad):(L.set i u).Pairwise fun t u=>t.ad<u.ad:=by
 have hm:(L.set i u).map Tm.ad=L.map Tm.ad:=by
  rw [List.map_set]
  apply List.ext_getElem?
  intro p
  by_cases ep:i=p
  ·subst ep
   rw [List.getElem?_set_self (by simpa using (List.getElem?_eq_some_iff.1 ht).1),List.getElem?_map,ht,e];rfl
  ·rw [List.getElem?_set_ne ep]
 rw [← List.pairwise_map (R:=fun a b:Int=>a<b)] at h ⊢
 rw [hm];exact h
theorem so_inj {L:List Tm}(h:L.Pairwise fun t u=>t.ad<u.ad){i j:Nat}{t u:Tm}(ht:L[i]?=some t)(hu:L[j]?=some u)(e:t.ad=u.ad):i=j:=by
 rw [List.pairwise_iff_getElem] at h
 obtain⟨h1,rfl⟩:=List.getElem?_eq_some_iff.1 ht
 obtain⟨h2,rfl⟩:=List.getElem?_eq_some_iff.1 hu
 rcases Nat.lt_trichotomy i j with hlt | rfl | hgt
 ·have:=h i j h1 h2 hlt;omega
 ·rfl
 ·have:=h j i h2 h1 hgt;omega
theorem rel_mark {a:PAr}{cls:List Int}{L:List Tm}(R:Rel a cls L)(ad:Int):(rmark ad L).1=(a.mark ad).1∧Rel (a.mark ad).2 cls (rmark ad L).2:=by
 unfold rmark
 cases hf:findIx ad L 0 with
 | none=>
  have h:=(R.ix ad).1 hf
  unfold PAr.mark
  rw [h];exact⟨rfl,R⟩
 | some i=>
  obtain⟨t,ht,e,hl,hm⟩:=R.ixs hf
  obtain⟨n,q,hfd⟩:=hl.find R.wf
  unfold PAr.mark
  simp only [ht]
  rw [hfd]
  rw [isM_of hfd] at hm
  simp only
  rw [← hm]
  cases hmk:t.mkd with
  | true=>exact⟨rfl,R⟩
  | false=>
   refine⟨rfl,?_⟩
   simp only [Bool.false_eq_true,if_false]
   obtain⟨f1,f2,f3,f4,f5,f6,f7⟩:=find_some hfd
   obtain⟨P0,P1,P2,_⟩:=pls_eq (c:=(a.at n).cls) ⟨f6,f7⟩
   have hat:=PAr.setS_at ⟨(a.at n).cls,(a.at n).tk,(a.at n).md ||| bitOf q⟩ f1
   have S:SameTk a (a.setS n ⟨(a.at n).cls,(a.at n).tk,(a.at n).md ||| bitOf q⟩):=⟨rfl,a.setS_len _ _,fun m hm=>by
    by_cases e:m=n
    ·subst e;rw [hat]
    ·rw [PAr.setS_ne _ f1 hm e],fun m hm=>by
    by_cases e:m=n
    ·subst e;rw [hat]
    ·rw [PAr.setS_ne _ f1 hm e]⟩
   generalize hb:a.setS n ⟨(a.at n).cls,(a.at n).tk,(a.at n).md ||| bitOf q⟩=b at *
   have hmd:∀ m,a.has m→∀ j,j < 64→(b.at m).md.getLsbD j=((a.at m).md.getLsbD j||(decide (m=n) && decide (j=q))):=fun m hm j hj=>by
    by_cases e:m=n
    ·subst e
     rw [hat]
     show((a.at m).md ||| bitOf q).getLsbD j=_
     rw [BitVec.getLsbD_or,bit_get q j (by omega)];simp
    ·rw [← hb,PAr.setS_ne _ f1 hm e];simp [e]
   refine⟨S.wf R.wf,fun m hm j hj=>?_,by rw [S.len];exact R.len,fun i hi=>by rw [S.clsE];exact R.cl i (by rw [← S.len];exact hi),set_so ht rfl R.so,fun u hu=>?_,fun ad' x hx=>?_⟩
   ·have hm':=(S.has m).1 hm
    have hj64:j < 64:=by
     apply Classical.byContradiction
     intro h
     rw [BitVec.getLsbD_of_ge _ _ (by omega)] at hj;cases hj
    rw [hmd m hm' j hj64] at hj
    rw [S.tk m hm']
    cases h1:(a.at m).md.getLsbD j with
    | true=>exact R.md m hm' j h1
    | false=>
     rw [h1] at hj
     simp at hj
     rw [hj.1,hj.2];exact f4
   ·have hil:=(List.getElem?_eq_some_iff.1 ht).1
    obtain⟨p,hp,hpu⟩:=List.getElem_of_mem hu
    have hpu':(L.set i { t with mkd:=true })[p]?=some u:=List.getElem?_eq_some_iff.2 ⟨hp,hpu⟩
    by_cases ep:i=p
    ·subst ep
     rw [List.getElem?_set_self hil] at hpu'
     cases hpu'
     rw [e]
     refine⟨S.lies hl,?_⟩
     rw [isM_of (by rw [S.find];exact hfd),hmd n f1 q (by omega)];simp
    ·rw [List.getElem?_set_ne ep] at hpu'
     have hul:=List.mem_of_getElem? hpu'
     obtain⟨m1,m2⟩:=R.mem u hul
     refine⟨S.lies m1,?_⟩
     obtain⟨n2,q2,hf2⟩:=R.found hul
     obtain⟨g1,g2,g3,g4,g5,g6,g7⟩:=find_some hf2
     obtain⟨Q0,Q1,Q2,_⟩:=pls_eq (c:=(a.at n2).cls) ⟨g6,g7⟩
     rw [isM_of hf2] at m2
     rw [isM_of (by rw [S.find];exact hf2),hmd n2 g1 q2 (by omega),m2]
     have:(decide (n2=n) && decide (q2=q))=false:=by
      rw [Bool.and_eq_false_iff,decide_eq_false_iff_not,decide_eq_false_iff_not,← Classical.not_and_iff_not_or_not]
      rintro⟨h1,h2⟩
      subst h1;subst h2
      exact ep (so_inj R.so ht hpu' (by rw [e,f5,g5]))
     rw [this,Bool.or_false]
   ·rw [S.find] at hx
    obtain⟨u,hu,e'⟩:=R.all ad' x hx
    obtain⟨p,hp,hpu⟩:=List.getElem_of_mem hu
    by_cases ep:i=p
    ·subst ep
     have:u=t:=by rw [List.getElem?_eq_getElem hp] at ht;rw [← hpu];exact Option.some.inj ht
     subst this
     exact⟨{ u with mkd:=true },List.mem_iff_getElem?.2 ⟨i,List.getElem?_set_self hp⟩,e'⟩
    ·exact⟨u,List.mem_iff_getElem?.2 ⟨p,by rw [List.getElem?_set_ne ep,List.getElem?_eq_getElem hp,hpu]⟩,e'⟩
set_option linter.all false
theorem cls_rng {a:PAr}{n:Int}(h:Wf a)(hc:a.cls n≠-1):a.has n∧a.cls n=(a.at n).cls∧0≤a.cls n∧a.cls n≤5:=by
 obtain⟨h1,h2⟩:=cls_has hc
 have:=h.fi n h1
 exact⟨h1,h2,by omega,by omega⟩
theorem at_sp {a b:PAr}(h:b.sp=a.sp)(n:Int):b.at n=a.at n:=by unfold PAr.at;rw [h]
theorem rel_set {a:PAr}{cls:List Int}{L:List Tm}(R:Rel a cls L){n:Nat}{c:Int}(hn:a.has n)(hc:0≤c∧c≤5)(h:a.cls n = -1) :
  ∃ b,a.set n c=(0,b)∧Rel b (cls.set n c) L:=by
 obtain⟨b,h1,h2,h3,h4,_,h6,h7⟩:=set_lies R.wf hc hn h 0
 have hf:∀ ad,b.find ad=a.find ad:=fun ad=>by
  by_cases e:ad=0
  ·rw [e];exact h6
  ·exact h3.find ad e
 have hm:∀ ad,b.isM ad=a.isM ad:=fun ad=>by
  by_cases e:ad=0
  ·rw [e];exact h7
  ·exact h3.isM ad e
 have hb:b=a.setS n ⟨c,0,0⟩:=by
  obtain⟨_,_,_,W1,_⟩:=pls_eq hc
  have hcl:(a.at n).cls = -1:=by rw [← cls_at hn];exact h
  unfold PAr.set at h1
  rw [if_neg (fun h=>h.elim (fun h=>h hn) (fun h=>by omega)),if_neg (fun h=>h hcl)] at h1
  exact(congrArg Prod.snd h1).symm
 have nl:=hn.2
 refine⟨b,h1,h2,fun m hm' j hj=>?_,by rw [List.length_set,h3.len];exact R.len,fun i hi=>?_,R.so,fun t ht=>?_,fun ad x hx=>?_⟩
 ·rw [hb] at hm' hj ⊢
  have hm:=(a.setS_has n m _).1 hm'
  by_cases e:m=n
  ·subst e;rw [PAr.setS_at _ hn] at hj;simp at hj
  ·rw [PAr.setS_ne _ hn hm e] at hj ⊢;exact R.md m hm j hj
 ·rw [h4]
  rw [h3.len] at hi
  by_cases e:i=n
  ·subst e
   rw [List.getElem?_set_self (by rw [R.len];exact hi),if_pos rfl]
  ·rw [List.getElem?_set_ne (fun e'=>e e'.symm),R.cl i hi,if_neg (by omega)]
 ·exact⟨h3.lies _ _ (R.mem t ht).1,by rw [hm];exact(R.mem t ht).2⟩
 ·exact R.all ad x (by rw [← hf];exact hx)
theorem free_of {a:PAr}{cls:List Int}{L:List Tm}(R:Rel a cls L){n:Int}{c:Int}(hn:a.has n)(hcl:(a.at n).cls=c){j:Nat}(hc:0≤c∧c≤5)(hj:j<pls c):(findIx (adOf n c j) L 0=none↔(a.at n).tk.getLsbD j=false):=by
 obtain⟨P0,P1,P2,_⟩:=pls_eq hc
 have:=find_at (a:=a) R.wf.hi hn (q:=j) (by rw [hcl];omega)
 rw [hcl] at this
 rw [R.ix,show adOf n c j=n * 64+j*wordsOf c from rfl,this]
 cases (a.at n).tk.getLsbD j<;>simp
theorem rel_take_no {a:PAr}{cls:List Int}{L:List Tm}(R:Rel a cls L){n:Int}(hc:a.cls n≠-1)(h:∀ q,q<pls (a.cls n)→findIx (adOf n (a.cls n) q) L 0≠none):a.take n=(0,5,a):=by
 obtain⟨hn,he,c0,c5⟩:=cls_rng R.wf hc
 obtain⟨P0,P1,P2,_⟩:=pls_eq (c:=a.cls n) ⟨c0,c5⟩
 unfold PAr.take
 rw [if_neg hc,if_pos]
 rw [← he]
 rcases first0_spec (a.at n).tk with⟨h1,_⟩ | ⟨h1,h2,_⟩
 ·omega
 ·apply Classical.byContradiction
  intro hlt
  exact h (first0 (a.at n).tk) (by omega) ((free_of R hn he.symm ⟨c0,c5⟩ (by omega)).2 h2)
theorem rel_take {a:PAr}{cls:List Int}{L:List Tm}(R:Rel a cls L){n:Int}(hc:a.cls n≠-1){q k:Nat}(hq:Fst L n (a.cls n) q)(hk:Cut L (adOf n (a.cls n) q) k)(wb:Nat) :
  ∃ b,a.take n=(adOf n (a.cls n) q,0,b)∧adOf n (a.cls n) q≠0∧Rel b cls (insT L k ⟨adOf n (a.cls n) q,List.replicate (wordsOf (a.cls n)).toNat 0,false,wb⟩):=by
 obtain⟨hn,he,c0,c5⟩:=cls_rng R.wf hc
 obtain⟨P0,P1,P2,W1,W2,_⟩:=pls_eq (c:=a.cls n) ⟨c0,c5⟩
 have hfr:=(free_of R hn he.symm ⟨c0,c5⟩ hq.lt).1 hq.no
 have hql:=hq.lt
 have hfq:first0 (a.at n).tk=q:=by
  rcases first0_spec (a.at n).tk with⟨h1,h2⟩ | ⟨h1,h2,h3⟩
  ·rw [h2 q (by omega)] at hfr;cases hfr
  ·rcases Nat.lt_trichotomy (first0 (a.at n).tk) q with hlt | heq | hgt
   ·exact absurd ((free_of R hn he.symm ⟨c0,c5⟩ (by omega)).2 h2) (hq.lo _ hlt)
   ·exact heq
   ·rw [h3 q hgt] at hfr;cases hfr
 have hroom:roomAt a (a.cls n) n:=⟨rfl,fun e=>by
  have:=full_bits (c:=a.cls n) ⟨c0,c5⟩ q (by omega)
  rw [← e] at this
  unfold PAr.taken at this
  rw [if_neg hc,hfr] at this
  simp at this;omega⟩
 obtain⟨ad,b,h1,h2,h3,h4,h5,h6,h7,h8,h9⟩:=take_lies R.wf ⟨c0,c5⟩ hroom
 have hb:ad=adOf n (a.cls n) q∧b.sp=(a.setS n ⟨(a.at n).cls,(a.at n).tk ||| bitOf q,(a.at n).md &&& ~~~ bitOf q⟩).sp:=by
  unfold PAr.take at h1
  rw [if_neg hc,if_neg (by rw [← he,hfq];omega),← he,hfq] at h1
  injection h1 with e1 e2
  injection e2 with e3 e4
  rw [← e1,← e4]
  exact⟨rfl,by rw [he]⟩
 obtain⟨rfl,hsp⟩:=hb
 have hno:∀ u∈L,u.ad≠adOf n (a.cls n) q:=fun u hu e=>by
  obtain⟨m,p,hf⟩:=R.found hu
  rw [e,h3] at hf;cases hf
 refine⟨b,h1,by omega,h2,fun m hm j hj=>?_,by rw [h8.len];exact R.len,fun i hi=>by rw [h9];exact R.cl i (by rw [← h8.len];exact hi),?_,fun u hu=>?_,fun ad' x hx=>?_⟩
 ·have hbm:b.at m=(a.setS n ⟨(a.at n).cls,(a.at n).tk ||| bitOf q,(a.at n).md &&& ~~~ bitOf q⟩).at m:=at_sp hsp m
  have hm':a.has m:=by
   have hl:=h8.len
   exact⟨hm.1,by rw [← hl];exact hm.2⟩
  rw [hbm] at hj ⊢
  by_cases e:m=n
  ·subst e
   rw [PAr.setS_at _ hn] at hj ⊢
   have hj':((a.at m).md &&& ~~~ bitOf q).getLsbD j=true:=hj
   show((a.at m).tk ||| bitOf q).getLsbD j=true
   rw [BitVec.getLsbD_and,Bool.and_eq_true] at hj'
   rw [BitVec.getLsbD_or,R.md m hm' j hj'.1];rfl
  ·rw [PAr.setS_ne _ hn hm' e] at hj ⊢
   exact R.md m hm' j hj
 ·have hso:=R.so
  rw [← List.take_append_drop k L,List.pairwise_append] at hso
  unfold insT
  rw [List.pairwise_append]
  have hlow:∀ u∈L.take k,u.ad<adOf n (a.cls n) q:=fun u hu=>by
   obtain⟨j,hj,e⟩:=List.getElem_of_mem hu
   rw [List.length_take] at hj
   exact hk.lo j u (by omega) (by rw [List.getElem_take] at e;rw [← e];exact List.getElem?_eq_getElem (by omega))
  have hhigh:∀ u∈L.drop k,adOf n (a.cls n) q<u.ad:=fun u hu=>by
   cases hd:L.drop k with
   | nil=>rw [hd] at hu;simp at hu
   | cons w D=>
    have hw:L[k]?=some w:=by
     have:(L.drop k)[0]?=some w:=by rw [hd];rfl
     rw [List.getElem?_drop] at this;simpa using this
    have hw1:=hk.hi w hw
    have hw2:=hno w (List.mem_of_getElem? hw)
    rw [hd] at hu
    rcases List.mem_cons.1 hu with rfl | hu
    ·omega
    ·have:=hso.2.1
     rw [hd,List.pairwise_cons] at this
     have:=this.1 u hu
     omega
  refine⟨hso.1,List.pairwise_cons.2 ⟨hhigh,hso.2.1⟩,fun u hu w hw=>?_⟩
  rcases List.mem_cons.1 hw with rfl | hw
  ·exact hlow u hu
  ·exact hso.2.2 u hu w hw
 ·unfold insT at hu
  rw [List.mem_append,List.mem_cons] at hu
  have:u∈L∨u=⟨adOf n (a.cls n) q,List.replicate (wordsOf (a.cls n)).toNat 0,false,wb⟩:=by
   rcases hu with hu | hu | hu
   ·exact .inl (List.mem_of_mem_take hu)
   ·exact .inr hu
   ·exact .inl (List.mem_of_mem_drop hu)
  rcases this with hu | rfl
  ·exact⟨h8.lies _ _ (R.mem u hu).1,by rw [h8.isM _ (hno u hu)];exact(R.mem u hu).2⟩
  ·exact⟨h6,h7.symm⟩
 ·unfold insT
  by_cases e:ad'=adOf n (a.cls n) q
  ·exact⟨_,List.mem_append_right _ (List.mem_cons_self ..),e.symm⟩
  ·rw [h8.find _ e] at hx
   obtain⟨u,hu,eu⟩:=R.all ad' x hx
   refine⟨u,?_,eu⟩
   rw [← List.take_append_drop k L,List.mem_append] at hu
   rw [List.mem_append,List.mem_cons]
   rcases hu with hu | hu
   ·exact .inl hu
   ·exact .inr (.inr hu)
theorem rel_write {a:PAr}{cls:List Int}{L:List Tm}(R:Rel a cls L){i:Nat}{t:Tm}(ht:L[i]?=some t){k:Int}(hk:0≤k∧k<t.W.length)(v:Int) :
  ∃ b,a.write t.ad k v=(0,b)∧Rel b cls (L.set i { t with W:=t.W.set k.toNat v }):=by
 have hm:=R.mem t (List.mem_of_getElem? ht)
 have hil:=(List.getElem?_eq_some_iff.1 ht).1
 obtain⟨b,h1,h2,h3,h4,h5⟩:=hm.1.write R.wf hk v
 have hl:b.sp.length=a.sp.length:=by rw [h3]
 refine⟨b,h1,h2,fun m hm' j hj=>?_,by rw [hl];exact R.len,fun i' hi=>by rw [cls_sp h3];exact R.cl i' (by rw [← hl];exact hi),set_so ht rfl R.so,fun u hu=>?_,fun ad' x hx=>?_⟩
 ·rw [at_sp h3] at hj ⊢
  exact R.md m ⟨hm'.1,by rw [← hl];exact hm'.2⟩ j hj
 ·obtain⟨p,hp,hpu⟩:=List.getElem_of_mem hu
  have hpu':(L.set i { t with W:=t.W.set k.toNat v })[p]?=some u:=List.getElem?_eq_some_iff.2 ⟨hp,hpu⟩
  by_cases ep:i=p
  ·subst ep
   rw [List.getElem?_set_self hil] at hpu'
   cases hpu'
   exact⟨h4,by rw [isM_sp h3];exact hm.2⟩
  ·rw [List.getElem?_set_ne ep] at hpu'
   have hul:=List.mem_of_getElem? hpu'
   exact⟨h5 _ _ (fun e=>ep (so_inj R.so ht hpu' e.symm)) (R.mem u hul).1,by rw [isM_sp h3];exact(R.mem u hul).2⟩
 ·rw [find_sp h3] at hx
  obtain⟨u,hu,e'⟩:=R.all ad' x hx
  obtain⟨p,hp,hpu⟩:=List.getElem_of_mem hu
  by_cases ep:i=p
  ·subst ep
   have:u=t:=by rw [List.getElem?_eq_getElem hp] at ht;rw [← hpu];exact Option.some.inj ht
   subst this
   exact⟨{ u with W:=u.W.set k.toNat v },List.mem_iff_getElem?.2 ⟨i,List.getElem?_set_self hp⟩,e'⟩
  ·exact⟨u,List.mem_iff_getElem?.2 ⟨p,by rw [List.getElem?_set_ne ep,List.getElem?_eq_getElem hp,hpu]⟩,e'⟩
set_option linter.all false
theorem cnt_ins (k:Nat)(g:Nat→Bool)(hg:g k=false):∀ n,cnt (fun j=>decide (k=j)||g j) n=cnt g n+(decide (k<n)).toNat
 | 0=>by simp [cnt]
 | n+1=>by
  rw [cnt,cnt_ins k g hg n,cnt]
  rcases Nat.lt_trichotomy k n with h | h | h
  ·have h1 : ¬ k=n:=by omega
   simp [h,h1,show k<n+1 by omega];omega
  ·subst h;simp [hg]
  ·have h1 : ¬ k=n:=by omega
   simp [h1,show ¬ k<n by omega,show ¬ k<n+1 by omega]
theorem cnt_list {f:Tm→Nat}{N:Nat}:∀ (D:List Tm),(∀ t∈D,f t<N)→(D.Pairwise fun t u=>f t≠f u)→cnt (fun j=>D.any fun t=>decide (f t=j)) N=D.length
 | [],_,_=>cnt_zero.2 fun j _=>rfl
 | t::D,h,hp=>by
  rw [List.pairwise_cons] at hp
  have:=cnt_ins (f t) (fun j=>D.any fun u=>decide (f u=j)) (by rw [List.any_eq_false];intro u hu;simp;exact fun e=>hp.1 u hu e.symm) N
  have h1:=h t (by simp)
  rw [cnt_list D (fun u hu=>h u (List.mem_cons_of_mem _ hu)) hp.2] at this
  simp only [List.any_cons,List.length_cons]
  rw [this];simp [h1]
section
variable {a:PAr}{cls:List Int}{L:List Tm}(R:Rel a cls L){n:Int}(hc:a.cls n≠-1)
include R hc
theorem Rel.key {j:Nat}(hb:(a.at n).tk.getLsbD j=true):∃ t∈L,spanOf t.ad=n∧(placeOf t.ad (a.cls n)).toNat=j:=by
 obtain⟨hn,he,c0,c5⟩:=cls_rng R.wf hc
 have hfi:=R.wf.fi n hn
 rw [← he] at hfi
 rcases hfi with h | ⟨c0,c5,hbd⟩
 ·exact absurd h hc
 obtain⟨P0,P1,P2,W1,W2,_⟩:=pls_eq (c:=a.cls n) ⟨c0,c5⟩
 have hj:j<pls (a.cls n):=by
  apply Classical.byContradiction
  intro h
  rw [hbd j (by omega)] at hb;cases hb
 have hl:=R.wf.hi
 have hfnd:=find_at (a:=a) (by omega) hn (q:=j) (by rw [← he];omega)
 rw [hb,if_pos rfl,← he] at hfnd
 obtain⟨t,ht,e⟩:=R.all _ _ hfnd
 have b1':=hn.1
 have b2':=hn.2
 have hwp:=wp_cases (a.cls n) j (by omega) (by omega)
 refine⟨t,ht,?_,?_⟩
 ·rw [e]
  exact spanOf_at ⟨by omega,by omega⟩ (Int.mul_nonneg (by omega) (by omega)) (by omega)
 ·rw [e,placeOf_at ⟨by omega,by omega⟩ (by omega)];omega
theorem Rel.left:leftC n.toNat L=0↔(a.at n).tk &&& (a.at n).md=0:=by
 obtain⟨hn,he,c0,c5⟩:=cls_rng R.wf hc
 have hn1:=hn.1
 have hnn:((n.toNat:Nat):Int)=n:=by omega
 unfold leftC
 rw [List.length_eq_zero_iff,List.filter_eq_nil_iff]
 constructor
 ·intro h
  apply BitVec.eq_of_getLsbD_eq
  intro j hj
  rw [BitVec.getLsbD_and]
  cases h1:(a.at n).tk.getLsbD j with
  | false=>simp
  | true=>
   cases h2:(a.at n).md.getLsbD j with
   | false=>simp
   | true=>
    exfalso
    obtain⟨t,ht,e1,e2⟩:=R.key hc h1
    have h8:=(R.places ht e1).2.2.2.2.2.2.2.1
    rw [e2,h2] at h8
    apply h t ht
    simp [stays,hnn,e1,h8]
 ·intro h t ht hs
  simp only [stays,hnn,Bool.and_eq_true,decide_eq_true_eq] at hs
  obtain⟨_,_,_,_,_,_,h7,h8,_⟩:=R.places ht hs.1
  have:((a.at n).tk &&& (a.at n).md).getLsbD (placeOf t.ad (a.cls n)).toNat=true:=by rw [BitVec.getLsbD_and,h7,← h8,hs.2];rfl
  rw [h] at this
  simp at this
theorem Rel.dead:ones ((a.at n).tk &&& ~~~ (a.at n).md)=deadC n.toNat L:=by
 obtain⟨hn,he,c0,c5⟩:=cls_rng R.wf hc
 have hn1:=hn.1
 have hnn:((n.toNat:Nat):Int)=n:=by omega
 obtain⟨P0,P1,P2,_⟩:=pls_eq (c:=a.cls n) ⟨c0,c5⟩
 have hd:∀ t,t∈L.filter (fun t=>!live n.toNat t)↔t∈L∧spanOf t.ad=n∧t.mkd=false:=fun t=>by
  rw [List.mem_filter];simp [live,hnn]
 unfold deadC
 rw [← cnt_list (f:=fun t=>(placeOf t.ad (a.cls n)).toNat) (N:=64) (L.filter fun t=>!live n.toNat t)]
 ·unfold ones
  apply cnt_congr
  intro j hj
  rw [BitVec.getLsbD_and,BitVec.getLsbD_not]
  simp only [hj,decide_true,Bool.true_and]
  rw [Bool.eq_iff_iff,List.any_eq_true]
  constructor
  ·intro h
   rw [Bool.and_eq_true,Bool.not_eq_true'] at h
   obtain⟨t,ht,e1,e2⟩:=R.key hc h.1
   have h8:=(R.places ht e1).2.2.2.2.2.2.2.1
   rw [e2,h.2] at h8
   exact⟨t,(hd t).2 ⟨ht,e1,h8⟩,by simpa using e2⟩
  ·rintro⟨t,ht,e⟩
   obtain⟨h1,h2,h3⟩:=(hd t).1 ht
   have e:(placeOf t.ad (a.cls n)).toNat=j:=by simpa using e
   obtain⟨_,_,_,_,_,_,h7,h8,_⟩:=R.places h1 h2
   rw [e] at h7 h8
   rw [h7,← h8,h3];rfl
 ·intro t ht
  obtain⟨h1,h2,h3⟩:=(hd t).1 ht
  have:=(R.places h1 h2).2.2.2.1
  show(placeOf t.ad (a.cls n)).toNat < 64
  omega
 ·refine(R.so.sublist List.filter_sublist).imp_of_mem ?_
  intro t u ht hu hlt e
  obtain⟨h1,h2,_⟩:=(hd t).1 ht
  obtain⟨g1,g2,_⟩:=(hd u).1 hu
  have e1:=(R.places h1 h2).2.2.2.2.2.2.2.2
  have e2:=(R.places g1 g2).2.2.2.2.2.2.2.2
  have e:(placeOf t.ad (a.cls n)).toNat=(placeOf u.ad (a.cls n)).toNat:=e
  rw [e] at e1
  omega
theorem rel_sweep:(a.sweep n).1=deadC n.toNat L∧Rel (a.sweep n).2 (rswC n.toNat cls L) (rswL n.toNat L):=by
 obtain⟨hn,he,c0,c5⟩:=cls_rng R.wf hc
 have hn1:=hn.1
 have hn2:=hn.2
 have hnn:((n.toNat:Nat):Int)=n:=by omega
 have hleft:=R.left hc
 unfold PAr.sweep
 rw [if_neg hc]
 refine⟨R.dead hc,?_⟩
 simp only
 generalize hx:(if (a.at n).tk &&& (a.at n).md=0 then(⟨-1,0,0⟩:PSp) else⟨(a.at n).cls,(a.at n).tk &&& (a.at n).md,(a.at n).md⟩)=x
 have hat:=PAr.setS_at x hn
 have hcls:=fun m=>a.setS_cls (m:=m) x hn
 have hlen:=a.setS_len n x
 have hhas:=fun m=>a.setS_has n m x
 have hne:∀ m,a.has m→m≠n→(a.setS n x).at m=a.at m:=fun m hm h=>PAr.setS_ne _ hn hm h
 have hws:=PAr.setS_ws a n x
 generalize a.setS n x=b at *
 -- what the span is now
 have hxc:(leftC n.toNat L=0→x.cls = -1)∧(leftC n.toNat L≠0→x.cls=a.cls n):=by
  rw [← hx]
  constructor
  ·intro h;rw [if_pos (hleft.1 h)]
  ·intro h;rw [if_neg (fun e=>h (hleft.2 e))];exact he.symm
 have hxt:∀ j,x.tk.getLsbD j=((a.at n).tk.getLsbD j && (a.at n).md.getLsbD j):=fun j=>by
  rw [← hx]
  split
  ·rename_i h
   rw [← BitVec.getLsbD_and,h]
  ·show((a.at n).tk &&& (a.at n).md).getLsbD j=_
   rw [BitVec.getLsbD_and]
 have hxm:∀ j,x.md.getLsbD j=true→(a.at n).md.getLsbD j=true:=fun j h=>by
  rw [← hx] at h
  split at h
  ·simp at h
  ·exact h
 have hpl:∀ e:En,Placed b e↔Placed a e∧(e.s=n→(a.at n).md.getLsbD e.q=true):=by
  intro e
  by_cases hs:e.s=n
  ·constructor
   ·rintro⟨h1,h2,h3,h4⟩
    rw [hs,hat] at h2 h4
    rw [hxt,Bool.and_eq_true] at h4
    have hz:leftC n.toNat L≠0:=fun h=>by
     rw [hxc.1 h] at h2
     rw [← h2] at h3
     have:placesOf (-1)=0:=by decide
     omega
    exact⟨⟨by rw [hs];exact hn,by rw [hs,← he,← h2,hxc.2 hz],h3,by rw [hs];exact h4.1⟩,fun _=>h4.2⟩
   ·rintro⟨⟨h1,h2,h3,h4⟩,h5⟩
    have h5:=h5 hs
    rw [hs] at h2 h4
    have hz:leftC n.toNat L≠0:=fun h=>by
     have h6:((a.at n).tk &&& (a.at n).md).getLsbD e.q=true:=by rw [BitVec.getLsbD_and,h4,h5];rfl
     rw [hleft.1 h] at h6
     simp at h6
    exact⟨(hhas _).2 h1,by rw [hs,hat,hxc.2 hz,he];exact h2,h3,by rw [hs,hat,hxt,h4,h5];rfl⟩
  ·constructor
   ·rintro⟨h1,h2,h3,h4⟩
    have h1':=(hhas _).1 h1
    rw [hne _ h1' hs] at h2 h4
    exact⟨⟨h1',h2,h3,h4⟩,fun h=>absurd h hs⟩
   ·rintro⟨⟨h1,h2,h3,h4⟩,_⟩
    exact⟨(hhas _).2 h1,by rw [hne _ h1 hs];exact h2,h3,by rw [hne _ h1 hs];exact h4⟩
 have hwf:Wf b:=⟨by rw [hlen,hws];exact R.wf.len,by rw [hlen];exact R.wf.hi,fun m hm=>by
  have hm':=(hhas m).1 hm
  by_cases e:m=n
  ·subst e
   rw [hat]
   by_cases hz:leftC m.toNat L=0
   ·exact .inl (hxc.1 hz)
   ·right
    rw [hxc.2 hz]
    refine⟨c0,c5,fun j hj=>?_⟩
    rw [hxt]
    have:=R.wf.fi m hn
    rw [← he] at this
    rcases this with h | ⟨_,_,h⟩
    ·exact absurd h hc
    ·rw [h j hj];rfl
  ·rw [hne m hm' e];exact R.wf.fi m hm'⟩
 have hfb:∀ {ad:Int} {m:Int} {q:Nat},a.find ad=some (m,q)→(m=n→(a.at n).md.getLsbD q=true)→b.find ad=some (m,q):=fun hf h=>by
  obtain⟨g1,g2⟩:=find_en hf
  have:=placed_find' hwf ((hpl _).2 ⟨g2,h⟩)
  rw [g1] at this;exact this
 have hfa:∀ {ad:Int} {m:Int} {q:Nat},b.find ad=some (m,q)→a.find ad=some (m,q)∧(m=n→(a.at n).md.getLsbD q=true):=fun hf=>by
  obtain⟨g1,g2⟩:=find_en hf
  obtain⟨g3,g4⟩:=(hpl _).1 g2
  have:=placed_find' R.wf g3
  rw [g1] at this;exact⟨this,g4⟩
 refine⟨hwf,fun m hm j hj=>?_,?_,fun i hi=>?_,R.so.sublist List.filter_sublist,fun t ht=>?_,fun ad y hy=>?_⟩
 ·have hm':=(hhas m).1 hm
  by_cases e:m=n
  ·subst e
   rw [hat] at hj ⊢
   have:=hxm j hj
   rw [hxt,this,R.md m hn j this];rfl
  ·rw [hne m hm' e] at hj ⊢
   exact R.md m hm' j hj
 ·unfold rswC
  split
  ·rw [List.length_set,hlen];exact R.len
  ·rw [hlen];exact R.len
 ·rw [hlen] at hi
  rw [hcls]
  unfold rswC
  by_cases e:(i:Int)=n
  ·rw [if_pos e]
   have ei:i=n.toNat:=by omega
   by_cases hz:leftC n.toNat L=0
   ·rw [if_pos hz,hxc.1 hz,ei,List.getElem?_set_self (by rw [R.len];omega)]
   ·rw [if_neg hz,hxc.2 hz,R.cl i hi,e]
  ·rw [if_neg e]
   have ei : ¬ n.toNat=i:=by omega
   split
   ·rw [List.getElem?_set_ne ei,R.cl i hi]
   ·rw [R.cl i hi]
 ·unfold rswL at ht
  rw [List.mem_filter] at ht
  obtain⟨hL,hlv⟩:=ht
  obtain⟨m1,m2⟩:=R.mem t hL
  obtain⟨m,q,hf⟩:=R.found hL
  have hmd:m=n→(a.at n).md.getLsbD q=true:=fun e=>by
   subst e
   have hs:=(find_some hf).2.1
   rw [← isM_of hf,← m2]
   simpa [live,hnn,← hs] using hlv
  have hfb':=hfb hf hmd
  refine⟨?_,?_⟩
  ·obtain⟨e,h1,h2,h3⟩:=m1.en
   have:=placed_find' R.wf h2
   rw [h1,hf] at this
   injection this with this
   injection this with e1 e2
   exact⟨⟨e,h1,(hpl e).2 ⟨h2,fun hs=>by rw [← e2];exact hmd (by rw [e1];exact hs)⟩,h3⟩,fun i hi=>by rw [hws];exact m1.wd i hi⟩
  ·rw [m2,isM_of hf,isM_of hfb']
   by_cases e:m=n
   ·subst e
    rw [hat]
    have hz:leftC m.toNat L≠0:=fun h=>by
     have h6:((a.at m).tk &&& (a.at m).md).getLsbD q=true:=by rw [BitVec.getLsbD_and,hmd rfl,(find_some hf).2.2.2.1];rfl
     rw [hleft.1 h] at h6
     simp at h6
    rw [← hx,if_neg (fun e=>hz (hleft.2 e))]
   ·rw [hne m (find_some hf).1 e]
 ·obtain⟨m,q⟩:=y
  obtain⟨h1,h2⟩:=hfa hy
  obtain⟨t,ht,e⟩:=R.all ad _ h1
  refine⟨t,?_,e⟩
  unfold rswL
  rw [List.mem_filter]
  refine⟨ht,?_⟩
  unfold live
  rw [hnn]
  have m2:=(R.mem t ht).2
  rw [e,isM_of h1] at m2
  by_cases hs:spanOf t.ad=n
  ·have:m=n:=by rw [← hs,e];exact(find_some h1).2.1
   subst this
   rw [m2,h2 rfl];simp
  ·simp [hs]
end
set_option linter.all false
theorem clear_same (a:PAr):SameTk a a.clear:=⟨rfl,by simp [PAr.clear],fun n hn=>by rw [clear_at a n hn],fun n hn=>by rw [clear_at a n hn]⟩
theorem mark_no {a:PAr}{ad:Int}(h:a.find ad=none):a.mark ad=(false,a):=by unfold PAr.mark;rw [h]
theorem mark_was {a:PAr}{ad n:Int}{q:Nat}(h:a.find ad=some (n,q))(hm:(a.at n).md.getLsbD q=true):a.mark ad=(false,a):=by unfold PAr.mark;rw [h];simp [hm]
theorem mark_new {a:PAr}{ad n:Int}{q:Nat}(h:a.find ad=some (n,q))(hm:(a.at n).md.getLsbD q=false):a.mark ad=(true,a.setS n ⟨(a.at n).cls,(a.at n).tk,(a.at n).md ||| bitOf q⟩):=by unfold PAr.mark;rw [h];simp [hm]
theorem setM_same {a:PAr}{n:Int}(hn:a.has n)(m:BitVec 64):SameTk a (a.setS n ⟨(a.at n).cls,(a.at n).tk,m⟩):=by
 have hat:=PAr.setS_at ⟨(a.at n).cls,(a.at n).tk,m⟩ hn
 exact⟨rfl,a.setS_len _ _,fun k hk=>by
  by_cases e:k=n
  ·subst e;rw [hat]
  ·rw [PAr.setS_ne _ hn hk e],fun k hk=>by
  by_cases e:k=n
  ·subst e;rw [hat]
  ·rw [PAr.setS_ne _ hn hk e]⟩
theorem SameTk.refl (a:PAr):SameTk a a:=⟨rfl,rfl,fun _ _=>rfl,fun _ _=>rfl⟩
theorem SameTk.trans {a b c:PAr}(S:SameTk a b)(U:SameTk b c):SameTk a c:=
 ⟨U.ws.trans S.ws,U.len.trans S.len,fun n hn=>(U.cls n ((S.has n).2 hn)).trans (S.cls n hn),fun n hn=>(U.tk n ((S.has n).2 hn)).trans (S.tk n hn)⟩
theorem mark_same (a:PAr)(ad:Int):SameTk a (a.mark ad).2:=by
 cases hf:a.find ad with
 | none=>rw [mark_no hf];exact SameTk.refl a
 | some x=>
  obtain⟨n,q⟩:=x
  cases hm:(a.at n).md.getLsbD q with
  | true=>rw [mark_was hf hm];exact SameTk.refl a
  | false=>rw [mark_new hf hm];exact setM_same (find_some hf).1 _
theorem mark_isM {a:PAr}(H:Wf a)(ad:Int):((a.mark ad).1=true↔(a.find ad≠none∧a.isM ad=false))∧∀ x,(a.mark ad).2.isM x=true↔a.isM x=true∨(x=ad∧a.find ad≠none):=by
 cases hf:a.find ad with
 | none=>
  rw [mark_no hf]
  exact⟨by simp,fun x=>by simp⟩
 | some y=>
  obtain⟨n,q⟩:=y
  obtain⟨f1,f2,f3,f4,f5,f6,f7⟩:=find_some hf
  obtain⟨P0,P1,P2,_⟩:=pls_eq (c:=(a.at n).cls) ⟨f6,f7⟩
  cases hm:(a.at n).md.getLsbD q with
  | true=>
   rw [mark_was hf hm]
   refine⟨by rw [isM_of hf,hm];simp,fun x=>⟨.inl,fun h=>?_⟩⟩
   rcases h with h | ⟨rfl,_⟩
   ·exact h
   ·show a.isM x=true
    rw [isM_of hf,hm]
  | false=>
   have S:=setM_same f1 ((a.at n).md ||| bitOf q)
   rw [mark_new hf hm]
   refine⟨by rw [isM_of hf,hm];simp,fun x=>?_⟩
   simp only
   have hat:=PAr.setS_at ⟨(a.at n).cls,(a.at n).tk,(a.at n).md ||| bitOf q⟩ f1
   cases hx:a.find x with
   | none=>
    have h1:a.isM x=false:=by unfold PAr.isM;rw [hx]
    have h2:(a.setS n ⟨(a.at n).cls,(a.at n).tk,(a.at n).md ||| bitOf q⟩).isM x=false:=by unfold PAr.isM;rw [S.find,hx]
    rw [h1,h2]
    have:x≠ad:=fun e=>by rw [e,hf] at hx;cases hx
    simp [this]
   | some z=>
    obtain⟨m,k⟩:=z
    obtain⟨g1,g2,g3,g4,g5,g6,g7⟩:=find_some hx
    obtain⟨Q0,Q1,Q2,_⟩:=pls_eq (c:=(a.at m).cls) ⟨g6,g7⟩
    rw [isM_of hx,isM_of (by rw [S.find];exact hx)]
    by_cases e:m=n
    ·subst e
     rw [hat]
     show((a.at m).md ||| bitOf q).getLsbD k=true↔_
     rw [BitVec.getLsbD_or,bit_get q k (by omega)]
     have hkq:k=q↔x=ad:=⟨fun h=>by rw [g5,f5,h],fun h=>by
      rw [h,hf] at hx
      injection hx with hx
      injection hx with _ h2
      exact h2.symm⟩
     by_cases h:k=q
     ·simp [h,hkq.1 h]
     ·have:x≠ad:=fun e=>h (hkq.2 e)
      simp [h,this]
    ·rw [PAr.setS_ne _ f1 g1 e]
     have:x≠ad:=fun e'=>by
      rw [e',hf] at hx
      injection hx with hx
      injection hx with h1 _
      exact e h1.symm
     simp [this]
end Go.Ab.F
