import Derived.Test.YtlkhjkbepijegaaGreatDoorArn
import Derived.Test.YtlkhjkbepijegaaGreatDoorKit
import Derived.Test.YtlkhjkbepijegaaGreatDoorQuFn
import Derived.KernelRfl
namespace Go.Ab.F
open Go Go.Ab
set_option linter.all false
attribute [local congr] c_bind c_cl c_mk c_lp c_clC c_gQ c_gV c_condE c_thenK
theorem rnew_ok {h:Heap}(N:Nat)(hN:N≤2 ^ 20) :
  Ok (Cl (.int .i64 N) h) fun r=>r.1 = .ptr (some (h.next,0))∧Same [] h r.2∧h.next<r.2.next∧∃ b v,r.2.get h.next=some (.cells true [v,.sl none 0 (.ex 0)])∧SlB r.2 b 1 v (wsC (List.replicate N (-1))) N∧∀ j,b=some j→h.next<j:=by
 have hb:bldS [(0,1),(1,1)] [AV.sl none 0 (.ex 0),AV.sl none 0 (.ex 0)] []=some (.agg [AV.sl none 0 (.ex 0),AV.sl none 0 (.ex 0)]):=rfl
 have hx:bxP (.agg [AV.sl none 0 (.ex 0),AV.sl none 0 (.ex 0)])=some (.cells true [AV.sl none 0 (.ex 0),AV.sl none 0 (.ex 0)],fun i=>.ptr (some (i,0))):=rfl
 refine Ok.eq ?_ (by simp -implicitDefEqProofs only [Cl,hb,Option.bind_some,hx,mk_some];rfl)
 generalize hr:h.next=r0
 have g0:(h.new (.cells true [AV.sl none 0 (.ex 0),AV.sl none 0 (.ex 0)])).get r0=some (.cells true [AV.sl none 0 (.ex 0),AV.sl none 0 (.ex 0)]):=by rw [← hr];exact get_new_eq
 have n0:(h.new (.cells true [AV.sl none 0 (.ex 0),AV.sl none 0 (.ex 0)])).next=r0+1:=by rw [← hr];rfl
 have s0:Same [] h (h.new (.cells true [AV.sl none 0 (.ex 0),AV.sl none 0 (.ex 0)])):=Same.new _ _
 generalize h.new (.cells true [AV.sl none 0 (.ex 0),AV.sl none 0 (.ex 0)])=h1 at *
 have lp0:Ok (Dv (.int .i64 N) (.ptr (some (r0,0))) (.int .i64 0) h1) fun r=>r.1 = .exit 0∧Same [] h r.2.2∧r0<r.2.2.next∧∃ b v,r.2.2.get r0=some (.cells true [v,.sl none 0 (.ex 0)])∧SlB r.2.2 b 1 v (wsC (List.replicate N (-1))) N∧∀ j,b=some j→r0<j:=by
  refine ok_loop (fun m vs g=>∃ (i:Nat) (b:Option Nat) (v:AV),vs = [.int .i64 i]∧m+i=N∧Same [] h g∧r0<g.next∧g.get r0=some (.cells true [v,.sl none 0 (.ex 0)])∧SlB g b 1 v (wsC (List.replicate i (-1))) i∧∀ j,b=some j→r0<j) ?_ (n:=N) (by omega)
   ⟨0,none,_,rfl,rfl,s0,by omega,g0,SlB.mt,fun j hj=>by cases hj⟩
  rintro m vs g ⟨i,b,v,rfl,hm,hs,hrn,hg,hv,hb⟩
  rw [gd0]
  by_cases hi:i<N
  ·have hlt:(i:Int)<N:=by omega
   have hld:ldS g (.ptr (some (r0,0)))=some v:=by rw [ldS_at hg];rfl
   refine Ok.eq ?_ (by simp -implicitDefEqProofs only [C4,bin_lss,hlt,decide_true,Option.bind_some,condE_true,nilV_ptr,faP_ptr,Nat.zero_add,hld];rfl)
   refine app1 hv rfl rfl rfl (by decide) (by omega) fun v' g' hv' hs' hn'=>?_
   have hg':g'.get r0=some (.cells true [v,.sl none 0 (.ex 0)]):=by
    rw [hs'.get r0 hrn (by
     cases b with
     | none=>simp
     | some x=>have:=hb x rfl;simp;omega)];exact hg
   have hsc:scalar v'=true:=by rw [hv'.eq];rfl
   have hst:stP 1 g' (.ptr (some (r0,0))) v'=some (.bot,g'.put r0 (some (.cells true [v',.sl none 0 (.ex 0)]))):=stP_one hg' (by simp) hsc
   refine(Ok.of (r:=(.normal,[.int .i64 ((i+1:Nat):Int)],g'.put r0 (some (.cells true [v',.sl none 0 (.ex 0)])))) ?_).eq (by
    simp -implicitDefEqProofs only [nilV_ptr,Option.bind_some,faP_ptr,Nat.zero_add,hst,cl_some,bin_add,suc64 i (by omega)])
   left
   have e:wsC (List.replicate i (-1))++(AV.int .i64 (-1)).cells=wsC (List.replicate (i+1) (-1)):=by rw [List.replicate_succ'];simp [wsC,AV.cells]
   rw [e] at hv'
   refine⟨rfl,m - 1,by omega,i+1,_,v',rfl,by omega,?_,by show r0<g'.next;omega,get_put_eq,hv'.same (Same.put _ _ _) (fun j hj=>by cases hj;simp;omega),fun j hj=>by cases hj;omega⟩
   refine(hs.old hs' fun j hj=>?_).old (Same.put _ _ _) (by simp;omega)
   cases b with
   | none=>simp at hj
   | some x=>have:=hb x rfl;simp at hj;right;omega
  ·have hlt : ¬ (i:Int)<N:=by omega
   obtain rfl:i=N:=by omega
   refine(Ok.of (r:=(.exit 0,[.int .i64 (i:Int)],g)) ?_).eq (by simp -implicitDefEqProofs only [C4,bin_lss,hlt,decide_false,Option.bind_some,condE_false])
   exact .inr ⟨by simp,rfl,hs,hrn,b,v,hg,hv,hb⟩
 refine ok_lp lp0 ?_
 rintro _ vs g ⟨rfl,h1,h2,h3⟩
 exact ok_val (v:=.ptr (some (r0,0))) (g:=g) (by simp -implicitDefEqProofs only [if_true,thenK_normal]) ⟨rfl,h1,h2,h3⟩
section
variable {q u p w s:Nat}
end
theorem rplaces_ok (c:Int)(h:Heap):Ok (B5 (.int .i64 c) h) fun r=>r.1 = .int .i64 (placesOf c)∧Same [] h r.2:=by
 rcases cls_cases c with hc | ⟨_,h2,h3⟩
 ·have h1 : ¬ c < 0:=by omega
  have h2 : ¬ 5<c:=by omega
  refine Ok.eq ?_ (by simp -implicitDefEqProofs only [B5,bin_lss,h1,decide_false,Option.bind_some,gdW_ff,gQ_true,bin_gtr,h2,cl_some,pickP_bool,Bool.false_eq_true,if_false,condE_false];rfl)
  refine ok_cl (rwords_ok c h) ?_
  rintro _ g ⟨rfl,s⟩
  refine ok_val (v:=.int .i64 (placesOf c)) (g:=g) ?_ ⟨rfl,s⟩
  rcases hc with rfl | rfl | rfl | rfl | rfl | rfl<;>rfl
 ·by_cases h1:c < 0
  ·exact ok_val (v:=.int .i64 0) (g:=h) (by simp -implicitDefEqProofs [B5,h1]) ⟨by rw [h2],Same.refl _ _⟩
  ·have h4:5<c:=by omega
   exact ok_val (v:=.int .i64 0) (g:=h) (by simp -implicitDefEqProofs [B5,h1,h4]) ⟨by rw [h2],Same.refl _ _⟩
section
variable {q u p w s:Nat}
end
theorem rclass_ok (n:Int)(h:Heap):Ok (DN (.int .i64 n) h) fun r=>r.1 = .int .i64 (classOf n)∧Same [] h r.2:=by
 have lp0:Ok (E6 (.int .i64 n) (.int .i64 0) (.int .i64 0) h) fun r=>Same [] h r.2.2∧((r.1 = .exit 0∧classOf n = -1)∨(r.1 = .ret∧r.2.1.getD 0 .bot = .int .i64 (classOf n))):=by
  refine ok_loop (fun m vs g=>∃ (i:Nat),vs = [.int .i64 0,.int .i64 i]∧m+i=6∧Same [] h g∧∀ j:Nat,j<i→¬ (1≤n∧n≤wordsOf j)) ?_ (n:=6) (by omega) ⟨0,rfl,rfl,Same.refl _ _,fun j hj=>by omega⟩
  rintro m vs g ⟨i,rfl,hm,hs,hno⟩
  rw [gd0,gd1]
  by_cases hi:i < 6
  ·have hlt:(i:Int) < 6:=by omega
   by_cases h1:1≤n
   ·refine Ok.eq ?_ (by simp -implicitDefEqProofs only [C8,bin_lss,hlt,decide_true,Option.bind_some,bin_geq,h1,gdW_tt,gQ_true,cl_some,pickP_bool,if_true,condE_true];rfl)
    refine ok_cl (rwords_ok i g) ?_
    rintro _ g2 ⟨rfl,s2⟩
    simp only at s2
    by_cases h2:n≤wordsOf i
    ·refine(Ok.of (r:=(.ret,[.int .i64 i,.int .i64 i],g2)) ?_).eq (by simp -implicitDefEqProofs only [bin_geq,h2,decide_true,Option.bind_some,condE_true])
     exact .inr ⟨by simp,hs.trans s2,.inr ⟨rfl,by rw [classOf_step n i hi hno ⟨h1,h2⟩];rfl⟩⟩
    ·refine(Ok.of (r:=(.normal,[.int .i64 0,.int .i64 ((i+1:Nat):Int)],g2)) ?_).eq (by simp -implicitDefEqProofs only [bin_geq,h2,decide_false,Option.bind_some,condE_false,bin_add,suc64 i (by omega)])
     refine .inl ⟨rfl,m - 1,by omega,i+1,rfl,by omega,hs.trans s2,fun j hj hh=>?_⟩
     by_cases e:j=i
     ·subst e;exact h2 hh.2
     ·exact hno j (by omega) hh
   ·refine(Ok.of (r:=(.exit 0,[.int .i64 0,.int .i64 (i:Int)],g)) ?_).eq (by
     simp -implicitDefEqProofs only [C8,bin_lss,hlt,decide_true,decide_false,Option.bind_some,bin_geq,h1,gdW_tt,gQ_true,cl_some,pickP_bool,if_true,condE_false])
    exact .inr ⟨by simp,hs,.inl ⟨rfl,classOf_none n fun j _ hh=>h1 hh.1⟩⟩
  ·have hlt : ¬ (i:Int) < 6:=by omega
   refine(Ok.of (r:=(.exit 0,[.int .i64 0,.int .i64 (i:Int)],g)) ?_).eq (by
    simp -implicitDefEqProofs only [C8,bin_lss,hlt,decide_false,Option.bind_some,gdW_ft,gQ_false,pickP_bool,Bool.false_eq_true,if_false,condE_false])
   have:i=6:=by omega
   subst this
   exact .inr ⟨by simp,hs,.inl ⟨rfl,classOf_none n hno⟩⟩
 refine Ok.eq ?_ (by unfold DN;rfl)
 refine ok_lp lp0 ?_
 rintro e vs g ⟨hs,(⟨rfl,hc⟩ | ⟨rfl,hv⟩)⟩
 ·exact ok_val (v:=.int .i64 (-1)) (g:=g) rfl ⟨by rw [hc],hs⟩
 ·simp only at hv
  exact ok_val (v:=.int .i64 (classOf n)) (g:=g) (by show some (vs.getD 0 .bot,g)=_;rw [hv]) ⟨rfl,hs⟩
section
variable {q u p w s:Nat}
end
end Go.Ab.F
namespace Go.Ab.F
open Go Go.Ab
set_option linter.all false
structure En where
 s:Int
 q:Nat
 c:Int
def En.ad (e:En):Int:=e.s * 64+e.q*wordsOf e.c
theorem clr_in {l:List Int}{o n i:Nat}(hl:o+n≤l.length)(h1:o≤i)(h2:i<o+n):(clr l o n)[i]?=some 0:=by
 unfold clr
 rw [List.append_assoc,List.getElem?_append_right (by simp;omega),List.getElem?_append_left (by simp;omega),List.getElem?_replicate]
 simp only [List.length_take]
 rw [if_pos (by omega)]
def Placed (a:PAr)(e:En):Prop:=a.has e.s∧(a.at e.s).cls=e.c∧(e.q:Int)<placesOf e.c∧(a.at e.s).tk.getLsbD e.q=true
def ArFi (a:PAr):Prop:=∀ n,a.has n→(a.at n).cls = -1∨(0≤(a.at n).cls∧(a.at n).cls≤5∧∀ j,pls (a.at n).cls≤j→(a.at n).tk.getLsbD j=false)
theorem take_err {a:PAr}{n:Int}(hn:a.has n){c:Int}(hc:0≤c∧c≤5)(ha:(a.at n).cls=c){j:Nat}(hj:j<pls c)(hb:(a.at n).tk.getLsbD j=false)(hbd:∀ j,pls c≤j→(a.at n).tk.getLsbD j=false)(hfi:ArFi a) :
  (a.take n).2.1=0∧ArFi (a.take n).2.2∧(a.take n).2.2.sp.length=a.sp.length:=by
 obtain⟨P0,P1,P2,W1,W2,_⟩:=pls_eq hc
 have hf:=first0_lt (b:=(a.at n).tk) (q:=j) (by omega) hb
 unfold PAr.take
 rw [if_neg (by rw [cls_at hn,ha];omega),ha,if_neg (by omega)]
 refine⟨rfl,fun m hm=>?_,a.setS_len _ _⟩
 have hm':a.has m:=(a.setS_has n m _).1 hm
 by_cases e:m=n
 ·subst e
  right
  show 0≤((a.setS m _).at m).cls∧((a.setS m _).at m).cls≤5∧∀ j,pls ((a.setS m _).at m).cls≤j→((a.setS m _).at m).tk.getLsbD j=false
  rw [PAr.setS_at _ hn]
  refine⟨hc.1,hc.2,fun k hk=>?_⟩
  have hk':pls c≤k:=hk
  have hne : ¬ k=first0 (a.at m).tk:=by omega
  show((a.at m).tk ||| bitOf (first0 (a.at m).tk)).getLsbD k=false
  rw [BitVec.getLsbD_or,hbd k hk',bit_get _ k (by omega)];simp [hne]
 ·show((a.setS n _).at m).cls = -1∨(0≤((a.setS n _).at m).cls∧((a.setS n _).at m).cls≤5∧∀ j,pls ((a.setS n _).at m).cls≤j→((a.setS n _).at m).tk.getLsbD j=false)
  rw [PAr.setS_ne _ hn hm' e]
  exact hfi m hm'
def roomAt (a:PAr)(c n:Int):Prop:=a.cls n=c∧a.taken n≠fullB c
theorem roomAt_bit {a:PAr}{c n:Int}(hc:0≤c∧c≤5)(h:roomAt a c n)(hfi:ArFi a):a.has n∧(a.at n).cls=c∧(∃ j,j<pls c∧(a.at n).tk.getLsbD j=false)∧∀ j,pls c≤j→(a.at n).tk.getLsbD j=false:=by
 obtain⟨P0,P1,P2,W1,W2,_⟩:=pls_eq hc
 obtain⟨h1,h2⟩:=h
 obtain⟨hn,he⟩:=cls_has (a:=a) (n:=n) (by omega)
 have hcl:(a.at n).cls=c:=by rw [← he,h1]
 have ht:a.taken n=(a.at n).tk:=by unfold PAr.taken;rw [if_neg (by omega)]
 rw [ht] at h2
 have hbd:∀ j,pls c≤j→(a.at n).tk.getLsbD j=false:=by
  rcases hfi n hn with h | h
  ·omega
  ·rw [hcl] at h;exact h.2.2
 refine⟨hn,hcl,?_,hbd⟩
 apply Classical.byContradiction
 intro hno
 apply h2
 apply BitVec.eq_of_getLsbD_eq
 intro j hj
 rw [full_bits hc j hj]
 by_cases hjp:j<pls c
 ·cases hb:(a.at n).tk.getLsbD j with
  | true=>simp [hjp]
  | false=>exact absurd ⟨j,hjp,hb⟩ hno
 ·rw [hbd j (by omega)];simp [hjp]
structure Fi (l:PAl):Prop where
 un:∀ i:Nat,(l.un[i]?).getD false=false
 ar:ArFi l.ar
 len:l.un.length=l.ar.sp.length
instance (a:PAr) (c n:Int):Decidable (roomAt a c n):=by unfold roomAt;infer_instance
def room (l:PAl)(c:Int):Prop:=∃ s:Nat,1≤s∧s<l.un.length∧(l.ar.cls s = -1∨roomAt l.ar c s)
theorem fi_new (N:Nat):Fi ⟨newA N,List.replicate N false⟩:=by
 refine⟨fun i=>?_,fun n hn=>?_,by show(List.replicate N false).length=(List.replicate N _).length;simp⟩
 ·by_cases h:i<N
  ·simp [h]
  ·simp [h]
 ·left
  have h2:=hn.2
  have:(newA N).sp.length=N:=by show(List.replicate N _).length=N;simp
  rw [this] at h2
  have h1:=hn.1
  unfold PAr.at newA
  simp only
  rw [List.getElem?_replicate,if_pos (by omega)];rfl
structure Wf (a:PAr):Prop where
 len:a.ws.length=a.sp.length * 64
 hi:a.sp.length≤512
 fi:ArFi a
theorem placed_rm {a:PAr}{e:En}(H:Wf a)(h:Placed a e):0≤e.c∧e.c≤5∧2≤wordsOf e.c∧wordsOf e.c≤64∧e.q < 32∧1≤e.s∧e.s<a.sp.length∧e.s * 64≤e.ad∧e.ad+wordsOf e.c≤e.s * 64+64∧64≤e.ad∧e.ad < 32768∧e.ad+wordsOf e.c≤a.ws.length:=by
 obtain⟨h1,h2,h3,h4⟩:=h
 have hw:=wp_cases e.c e.q (by omega) h3
 have hp:=pls_eq (c:=e.c) ⟨by omega,by omega⟩
 have:=h1.1
 have h2':=h1.2
 have hl:=H.len
 have hi:=H.hi
 have hq0:(0:Int)≤e.q*wordsOf e.c:=Int.mul_nonneg (by omega) (by omega)
 unfold En.ad
 exact⟨by omega,by omega,by omega,by omega,by omega,by omega,by omega,by omega,by omega,by omega,by omega,by omega⟩
theorem placed_find' {a:PAr}{e:En}(H:Wf a)(h:Placed a e):a.find e.ad=some (e.s,e.q):=by
 obtain⟨h1,h2,h3,h4⟩:=h
 have:=find_at (a:=a) (by have:=H.hi;omega) h1 (q:=e.q) (by rw [h2];exact h3)
 rw [h2,h4] at this
 exact this
theorem find_en {a:PAr}{ad n:Int}{q:Nat}(h:a.find ad=some (n,q)):(⟨n,q,(a.at n).cls⟩:En).ad=ad∧Placed a ⟨n,q,(a.at n).cls⟩:=by
 obtain⟨h1,h2,h3,h4,h5,h6,h7⟩:=find_some h
 exact⟨h5.symm,h1,rfl,h3,h4⟩
theorem placed_far {a:PAr}{e f:En}(H:Wf a)(he:Placed a e)(hf:Placed a f)(h:e.ad≠f.ad):e.ad+wordsOf e.c≤f.ad∨f.ad+wordsOf f.c≤e.ad:=by
 have r1:=placed_rm H he
 have r2:=placed_rm H hf
 by_cases hs:e.s=f.s
 ·have hc:e.c=f.c:=by rw [← he.2.1,← hf.2.1,hs]
  have hq:e.q≠f.q:=fun hq=>h (by unfold En.ad;rw [hs,hq,hc])
  unfold En.ad
  rw [hs,hc]
  rcases Nat.lt_or_gt_of_ne hq with hlt | hgt
  ·left
   have:=Int.mul_le_mul_of_nonneg_right (show(e.q:Int)+1≤f.q by omega) (show 0≤wordsOf f.c by omega)
   rw [Int.add_mul] at this;omega
  ·right
   have:=Int.mul_le_mul_of_nonneg_right (show(f.q:Int)+1≤e.q by omega) (show 0≤wordsOf f.c by omega)
   rw [Int.add_mul] at this;omega
 ·omega
structure Lies (a:PAr)(ad:Int)(ws:List Int):Prop where
 en:∃ e:En,e.ad=ad∧Placed a e∧(ws.length:Int)=wordsOf e.c
 wd:∀ i,i<ws.length→a.ws[ad.toNat+i]?=ws[i]?
theorem Lies.find {a:PAr}{ad:Int}{ws:List Int}(L:Lies a ad ws)(H:Wf a):∃ n q,a.find ad=some (n,q):=by
 obtain⟨e,rfl,hp,_⟩:=L.en
 exact⟨_,_,placed_find' H hp⟩
theorem Lies.pos {a:PAr}{ad:Int}{ws:List Int}(L:Lies a ad ws)(H:Wf a):64≤ad∧ad < 32768∧2≤ws.length∧ws.length≤64:=by
 obtain⟨e,rfl,hp,hl⟩:=L.en
 have:=placed_rm H hp
 exact⟨by omega,by omega,by omega,by omega⟩
theorem lies_of {a:PAr}{ad n:Int}{q:Nat}(H:Wf a)(h:a.find ad=some (n,q)):∃ ws,Lies a ad ws:=by
 obtain⟨h1,h2⟩:=find_en h
 have r:=placed_rm H h2
 refine⟨(a.ws.drop ad.toNat).take (wordsOf (a.at n).cls).toNat,⟨_,h1,h2,?_⟩,fun i hi=>?_⟩
 ·simp only [List.length_take,List.length_drop]
  rw [h1] at r
  simp only at r ⊢
  omega
 ·simp only [List.length_take,List.length_drop] at hi
  rw [List.getElem?_take,if_pos (by omega),List.getElem?_drop]
theorem Lies.word {a:PAr}{ad:Int}{ws:List Int}(L:Lies a ad ws)(H:Wf a)(k:Int):a.word ad k=if 0≤k∧k<ws.length then some (ad+k).toNat else none:=by
 obtain⟨e,rfl,hp,hl⟩:=L.en
 unfold PAr.word
 rw [placed_find' H hp]
 simp only
 rw [hp.2.1,← hl]
theorem word_no {a:PAr}{ad:Int}(h:a.find ad=none)(k:Int):a.word ad k=none:=by
 unfold PAr.word;rw [h]
theorem Lies.read {a:PAr}{ad:Int}{ws:List Int}(L:Lies a ad ws)(H:Wf a)(k:Int):a.read ad k=if 0≤k∧k<ws.length then((ws[k.toNat]?).getD 0,0) else(0,1):=by
 have hp:=L.pos H
 by_cases h:0≤k∧k<ws.length
 ·rw [if_pos h,read_some (i:=(ad+k).toNat) (by rw [L.word H,if_pos h])]
  have:=L.wd k.toNat (by omega)
  rw [show(ad+k).toNat=ad.toNat+k.toNat by omega,this]
 ·rw [if_neg h,read_none (by rw [L.word H,if_neg h])]
theorem read_no {a:PAr}{ad:Int}(h:a.find ad=none)(k:Int):a.read ad k=(0,1):=read_none (word_no h k)
theorem placed_sp {a b:PAr}(h:b.sp=a.sp)(e:En):Placed b e↔Placed a e:=by unfold Placed PAr.has PAr.at;rw [h]
theorem find_sp {a b:PAr}(h:b.sp=a.sp)(ad:Int):b.find ad=a.find ad:=by
 obtain⟨w1,s1⟩:=a
 obtain⟨w2,s2⟩:=b
 simp only at h
 subst h;rfl
theorem cls_sp {a b:PAr}(h:b.sp=a.sp)(n:Int):b.cls n=a.cls n:=by
 obtain⟨w1,s1⟩:=a
 obtain⟨w2,s2⟩:=b
 simp only at h
 subst h;rfl
theorem Lies.write {a:PAr}{ad:Int}{ws:List Int}(L:Lies a ad ws)(H:Wf a){k:Int}(h:0≤k∧k<ws.length)(v:Int) :
  ∃ b,a.write ad k v=(0,b)∧Wf b∧b.sp=a.sp∧Lies b ad (ws.set k.toNat v)∧∀ ad' ws',ad'≠ad→Lies a ad' ws'→Lies b ad' ws':=by
 have hp:=L.pos H
 refine⟨⟨a.ws.set (ad+k).toNat v,a.sp⟩,write_some (by rw [L.word H,if_pos h]),⟨by simp only [List.length_set];exact H.len,H.hi,H.fi⟩,rfl,⟨?_,?_⟩,fun ad' ws' hne L'=>⟨?_,?_⟩⟩
 ·obtain⟨e,h1,h2,h3⟩:=L.en
  exact⟨e,h1,(placed_sp (b:=⟨_,a.sp⟩) rfl e).2 h2,by rw [List.length_set];exact h3⟩
 ·intro i hi
  rw [List.length_set] at hi
  have hw:=L.wd i hi
  obtain⟨e,h1,h2,h3⟩:=L.en
  have hr:=placed_rm H h2
  by_cases e':i=k.toNat
  ·subst e'
   rw [List.getElem?_set_self hi,show(ad+k).toNat=ad.toNat+k.toNat by omega,List.getElem?_set_self (by rw [h1] at hr;omega)]
  ·rw [List.getElem?_set_ne (by omega),List.getElem?_set_ne (by omega)];exact hw
 ·obtain⟨e,h1,h2,h3⟩:=L'.en
  exact⟨e,h1,(placed_sp (b:=⟨_,a.sp⟩) rfl e).2 h2,h3⟩
 ·intro i hi
  obtain⟨e,h1,h2,h3⟩:=L'.en
  obtain⟨f,f1,f2,f3⟩:=L.en
  have hp':=L'.pos H
  have hfar:=placed_far H h2 f2 (by rw [h1,f1];exact hne)
  rw [h1,f1] at hfar
  show(a.ws.set (ad+k).toNat v)[ad'.toNat+i]?=_
  rw [List.getElem?_set_ne (by omega)];exact L'.wd i hi
def PAr.isM (a:PAr)(ad:Int):Bool:=match a.find ad with | some (n,q)=>(a.at n).md.getLsbD q | none=>false
theorem isM_sp {a b:PAr}(h:b.sp=a.sp)(ad:Int):b.isM ad=a.isM ad:=by unfold PAr.isM;rw [find_sp h];unfold PAr.at;rw [h]
theorem room_bit {a:PAr}{c n:Int}(hc:0≤c∧c≤5)(h:roomAt a c n)(H:ArFi a):(first0 (a.at n).tk:Int)<placesOf c∧(a.at n).tk.getLsbD (first0 (a.at n).tk)=false∧a.has n∧(a.at n).cls=c:=by
 obtain⟨hn,hcl,⟨j,hj,hb⟩,hbd⟩:=roomAt_bit hc h H
 obtain⟨P0,P1,P2,_⟩:=pls_eq hc
 have:=first0_lt (b:=(a.at n).tk) (q:=j) (by omega) hb
 exact⟨by omega,this.2,hn,hcl⟩
structure Stay (a b:PAr)(ad:Int):Prop where
 find:∀ ad',ad'≠ad→b.find ad'=a.find ad'
 lies:∀ ad' ws,Lies a ad' ws→Lies b ad' ws
 isM:∀ ad',ad'≠ad→b.isM ad'=a.isM ad'
 len:b.sp.length=a.sp.length
theorem Stay.trans {a b c:PAr}{ad:Int}(h:Stay a b ad)(k:Stay b c ad):Stay a c ad:=
 ⟨fun x hx=>(k.find x hx).trans (h.find x hx),fun x ws l=>k.lies x ws (h.lies x ws l),fun x hx=>(k.isM x hx).trans (h.isM x hx),k.len.trans h.len⟩
theorem take_lies {a:PAr}{c n:Int}(H:Wf a)(hc:0≤c∧c≤5)(h:roomAt a c n) :
  ∃ ad b,a.take n=(ad,0,b)∧Wf b∧a.find ad=none∧64≤ad∧ad < 32768∧Lies b ad (List.replicate (wordsOf c).toNat 0)∧b.isM ad=false∧Stay a b ad∧(∀ m,b.cls m=a.cls m):=by
 obtain⟨hq,hfree,hn,hcl⟩:=room_bit hc h H.fi
 obtain⟨P0,P1,P2,W1,W2,_⟩:=pls_eq hc
 obtain⟨_,_,⟨j,hj,hb⟩,hbd⟩:=roomAt_bit hc h H.fi
 have hte:=take_err hn hc hcl hj hb hbd H.fi
 have hwp:=wp_cases c (first0 (a.at n).tk) (by omega) hq
 unfold PAr.take at hte ⊢
 rw [if_neg (by rw [cls_at hn,hcl];omega),hcl,if_neg (by omega)] at hte ⊢
 generalize hqq:first0 (a.at n).tk=q at *
 have b1:=hn.1
 have b2:=hn.2
 have hN:=H.hi
 have hwl:=H.len
 have hq0:(0:Int)≤q*wordsOf c:=Int.mul_nonneg (by omega) (by omega)
 have hat:=PAr.setS_at ⟨c,(a.at n).tk ||| bitOf q,(a.at n).md &&& ~~~ bitOf q⟩ hn
 have hne:∀ m,a.has m→m≠n→(a.setS n ⟨c,(a.at n).tk ||| bitOf q,(a.at n).md &&& ~~~ bitOf q⟩).at m=a.at m:=fun m hm h=>PAr.setS_ne _ hn hm h
 have hcls:=fun m=>a.setS_cls (m:=m) ⟨c,(a.at n).tk ||| bitOf q,(a.at n).md &&& ~~~ bitOf q⟩ hn
 have hslen:=a.setS_len n ⟨c,(a.at n).tk ||| bitOf q,(a.at n).md &&& ~~~ bitOf q⟩
 have hhas:=fun m=>a.setS_has n m ⟨c,(a.at n).tk ||| bitOf q,(a.at n).md &&& ~~~ bitOf q⟩
 generalize hb':(⟨clr a.ws (n * 64+q*wordsOf c).toNat (wordsOf c).toNat,(a.setS n ⟨c,(a.at n).tk ||| bitOf q,(a.at n).md &&& ~~~ bitOf q⟩).sp⟩:PAr)=b at *
 have bsp:b.sp=(a.setS n ⟨c,(a.at n).tk ||| bitOf q,(a.at n).md &&& ~~~ bitOf q⟩).sp:=by rw [← hb']
 have bw:b.ws=clr a.ws (n * 64+q*wordsOf c).toNat (wordsOf c).toNat:=by rw [← hb']
 have bat:∀ m,b.at m=(a.setS n ⟨c,(a.at n).tk ||| bitOf q,(a.at n).md &&& ~~~ bitOf q⟩).at m:=fun m=>congrArg (fun l:List PSp=>(l[m.toNat]?).getD ⟨-1,0,0⟩) bsp
 have bl:b.sp.length=a.sp.length:=by rw [bsp];exact hslen
 have bhas:∀ m,b.has m↔a.has m:=fun m=>by unfold PAr.has;rw [bl]
 have bcls:∀ m,b.cls m=a.cls m:=fun m=>by
  have e:b.cls m=(a.setS n ⟨c,(a.at n).tk ||| bitOf q,(a.at n).md &&& ~~~ bitOf q⟩).cls m:=cls_sp bsp m
  rw [e,hcls m]
  by_cases hm:m=n
  ·rw [if_pos hm,hm,cls_at hn,hcl]
  ·rw [if_neg hm]
 have hwf:Wf b:=⟨by rw [bw,bl,clr_length (by omega)];exact hwl,by rw [bl];exact hN,hte.2.1⟩
 have hnone:a.find (n * 64+q*wordsOf c)=none:=by
  have:=find_at (a:=a) (by omega) hn (q:=q) (by rw [hcl];exact hq)
  rw [hcl,hfree] at this;exact this
 have hpl:∀ f:En,Placed a f→Placed b f:=by
  rintro f ⟨f1,f2,f3,f4⟩
  refine⟨(bhas _).2 f1,?_,f3,?_⟩
  ·by_cases hfs:f.s=n
   ·rw [hfs,bat,hat];show c=f.c;rw [← f2,hfs,hcl]
   ·rw [bat,hne f.s f1 hfs];exact f2
  ·by_cases hfs:f.s=n
   ·rw [hfs,bat,hat]
    show((a.at n).tk ||| bitOf q).getLsbD f.q=true
    rw [BitVec.getLsbD_or,← hfs,f4];rfl
   ·rw [bat,hne f.s f1 hfs];exact f4
 have hback:∀ f:En,Placed b f→f.ad≠n * 64+q*wordsOf c→Placed a f:=by
  rintro f ⟨f1,f2,f3,f4⟩ hfa
  have f1':=(bhas _).1 f1
  by_cases hfs:f.s=n
  ·have hfc:f.c=c:=by rw [← f2,hfs,bat,hat]
   have hfq : ¬ f.q=q:=fun e=>hfa (by unfold En.ad;rw [hfs,e,hfc])
   rw [hfs,bat,hat] at f4
   have hfw:=wp_cases f.c f.q (by omega) f3
   have hp32:=(pls_eq (c:=f.c) ⟨by omega,by omega⟩)
   have f4':((a.at n).tk ||| bitOf q).getLsbD f.q=true:=f4
   rw [BitVec.getLsbD_or,bit_get q f.q (by omega)] at f4'
   simp only [hfq,decide_false,Bool.or_false] at f4'
   exact⟨f1',by rw [hfs,hcl,hfc],f3,by rw [hfs];exact f4'⟩
  ·rw [bat,hne f.s f1' hfs] at f2 f4
   exact⟨f1',f2,f3,f4⟩
 have hnew:Placed b ⟨n,q,c⟩:=⟨(bhas n).2 hn,by rw [bat,hat],hq,by
  rw [bat,hat]
  show((a.at n).tk ||| bitOf q).getLsbD q=true
  rw [BitVec.getLsbD_or,bit_get q q (by omega)];simp⟩
 have hfind:∀ ad',ad'≠n * 64+q*wordsOf c→b.find ad'=a.find ad':=by
  intro ad' hne'
  cases hf:a.find ad' with
  | some x=>
   obtain⟨m,k⟩:=x
   obtain⟨g1,g2⟩:=find_en hf
   have:=placed_find' hwf (hpl _ g2)
   rw [g1] at this;exact this
  | none=>
   cases hg:b.find ad' with
   | none=>rfl
   | some x=>
    obtain⟨m,k⟩:=x
    obtain⟨g1,g2⟩:=find_en hg
    have:=placed_find' H (hback _ g2 (by rw [g1];exact hne'))
    rw [g1,hf] at this;cases this
 refine⟨n * 64+q*wordsOf c,b,rfl,hwf,hnone,by omega,by omega,⟨⟨⟨n,q,c⟩,rfl,hnew,by simp only [List.length_replicate];omega⟩,fun i hi=>?_⟩,?_,⟨hfind,fun ad' ws L=>⟨?_,fun i hi=>?_⟩,fun ad' hne'=>?_,bl⟩,bcls⟩
 ·rw [List.length_replicate] at hi
  rw [bw,clr_in (by omega) (by omega) (by omega),List.getElem?_replicate,if_pos hi]
 ·unfold PAr.isM
  have:=placed_find' hwf hnew
  have e:(⟨n,q,c⟩:En).ad=n * 64+q*wordsOf c:=rfl
  rw [e] at this
  rw [this]
  simp only
  rw [bat,hat]
  show((a.at n).md &&& ~~~ bitOf q).getLsbD q=false
  rw [BitVec.getLsbD_and,BitVec.getLsbD_not,bit_get q q (by omega)];simp
 ·obtain⟨f,f1,f2,f3⟩:=L.en
  exact⟨f,f1,hpl f f2,f3⟩
 ·obtain⟨f,f1,f2,f3⟩:=L.en
  have hfa:f.ad≠n * 64+q*wordsOf c:=fun e=>by
   have:=placed_find' H f2
   rw [e,hnone] at this;cases this
  have hfar:=placed_far hwf (hpl f f2) hnew hfa
  have hr:=placed_rm H f2
  have e:(⟨n,q,c⟩:En).ad=n * 64+q*wordsOf c:=rfl
  have ec:(⟨n,q,c⟩:En).c=c:=rfl
  rw [e,ec,f1] at hfar
  rw [f1] at hr
  rw [bw,clr_get (by omega) (by omega)];exact L.wd i hi
 ·unfold PAr.isM
  rw [hfind ad' hne']
  cases hf:a.find ad' with
  | none=>rfl
  | some x=>
   obtain⟨m,k⟩:=x
   simp only
   obtain⟨g1,g2⟩:=find_en hf
   by_cases hm:m=n
   ·subst hm
    have hk : ¬ k=q:=fun e=>hne' (by rw [← g1,e];unfold En.ad;simp only [hcl])
    have hk64:=(placed_rm H g2).2.2.2.2.1
    simp only at hk64
    have hk':k < 64:=by omega
    rw [bat,hat]
    show((a.at m).md &&& ~~~ bitOf q).getLsbD k=_
    rw [BitVec.getLsbD_and,BitVec.getLsbD_not,bit_get q k (by omega)]
    simp [hk,hk']
   ·rw [bat,hne m g2.1 hm]
theorem set_lies {a:PAr}{c n:Int}(H:Wf a)(hc:0≤c∧c≤5)(hn:a.has n)(h:a.cls n = -1)(ad:Int) :
  ∃ b,a.set n c=(0,b)∧Wf b∧Stay a b ad∧(∀ m,b.cls m=if m=n then c else a.cls m)∧roomAt b c n∧b.find ad=a.find ad∧b.isM ad=a.isM ad:=by
 obtain⟨P0,P1,P2,W1,W2,_⟩:=pls_eq hc
 have hcl:(a.at n).cls = -1:=by rw [← cls_at hn];exact h
 have hset:a.set n c=(0,a.setS n ⟨c,0,0⟩):=by
  unfold PAr.set
  rw [if_neg (fun h=>h.elim (fun h=>h hn) (fun h=>by omega)),if_neg (fun h=>h hcl)]
 have hat:=PAr.setS_at ⟨c,0,0⟩ hn
 have hcls:=fun m=>a.setS_cls (m:=m) ⟨c,0,0⟩ hn
 have hl:=a.setS_len n ⟨c,0,0⟩
 have hhas:=fun m=>a.setS_has n m ⟨c,0,0⟩
 have hne:∀ m,a.has m→m≠n→(a.setS n ⟨c,0,0⟩).at m=a.at m:=fun m hm h=>PAr.setS_ne _ hn hm h
 have hws:=PAr.setS_ws a n ⟨c,0,0⟩
 generalize hb:a.setS n ⟨c,0,0⟩=b at *
 have hwf:Wf b:=⟨by rw [hl,hws];exact H.len,by rw [hl];exact H.hi,fun m hm=>by
  have hm':=(hhas m).1 hm
  by_cases e:m=n
  ·rw [e,hat];right;exact⟨hc.1,hc.2,fun j _=>by simp⟩
  ·rw [hne m hm' e];exact H.fi m hm'⟩
 have hpl:∀ f:En,Placed b f↔Placed a f:=by
  intro f
  by_cases hfs:f.s=n
  ·constructor
   ·rintro⟨f1,f2,f3,f4⟩
    rw [hfs,hat] at f4;simp at f4
   ·intro hp
    have:=placed_rm H hp
    have e:=hp.2.1
    rw [hfs,hcl] at e;omega
  ·constructor
   ·rintro⟨f1,f2,f3,f4⟩
    have f1':=(hhas _).1 f1
    rw [hne _ f1' hfs] at f2 f4
    exact⟨f1',f2,f3,f4⟩
   ·rintro⟨f1,f2,f3,f4⟩
    refine⟨(hhas _).2 f1,?_,f3,?_⟩<;>rw [hne _ f1 hfs]<;>assumption
 have hfind:∀ ad',b.find ad'=a.find ad':=by
  intro ad'
  cases hf:a.find ad' with
  | some x=>
   obtain⟨m,k⟩:=x
   obtain⟨g1,g2⟩:=find_en hf
   have:=placed_find' hwf ((hpl _).2 g2)
   rw [g1] at this;exact this
  | none=>
   cases hg:b.find ad' with
   | none=>rfl
   | some x=>
    obtain⟨m,k⟩:=x
    obtain⟨g1,g2⟩:=find_en hg
    have:=placed_find' H ((hpl _).1 g2)
    rw [g1,hf] at this;cases this
 have hisM:∀ ad',b.isM ad'=a.isM ad':=by
  intro ad'
  unfold PAr.isM
  rw [hfind ad']
  cases hf:a.find ad' with
  | none=>rfl
  | some x=>
   obtain⟨m,k⟩:=x
   simp only
   obtain⟨g1,g2⟩:=find_en hf
   have:m≠n:=fun e=>by
    have h1:=placed_rm H g2
    have h2:=g2.2.1
    simp only at h2 h1
    rw [e,hcl] at h1;omega
   rw [hne m g2.1 this]
 refine⟨b,hset,hwf,⟨fun x _=>hfind x,fun ad' ws L=>⟨?_,fun i hi=>?_⟩,fun x _=>hisM x,hl⟩,fun m=>?_,⟨?_,?_⟩,hfind ad,hisM ad⟩
 ·obtain⟨f,f1,f2,f3⟩:=L.en
  exact⟨f,f1,(hpl f).2 f2,f3⟩
 ·rw [hws];exact L.wd i hi
 ·rw [hcls m]
 ·rw [hcls n,if_pos rfl]
 ·unfold PAr.taken
  rw [hcls n,if_pos rfl,if_neg (by show ¬ c = -1;omega),hat]
  intro e
  have:=full_bits hc 0 (by omega)
  rw [← e] at this
  simp at this;omega
theorem find_new (N:Nat)(ad:Int):(newA N).find ad=none:=by
 apply find_none
 unfold PAr.cls
 split
 ·rename_i hn
  rcases (fi_new N).ar _ hn with h | h
  ·exact h
  ·unfold PAr.at newA at h ⊢
   simp only at h ⊢
   by_cases hlt:(spanOf ad).toNat<N
   ·simp [hlt]
   ·simp [hlt]
 ·rfl
set_option linter.all false
attribute [local congr] c_bind c_cl c_mk c_lp c_clC c_gQ c_gV c_condE c_thenK
theorem ldA_all {h:Heap}{b n:Nat}{w:Bool}{vs:List AV}(hb:h.get b=some (.cells w vs))(hl:vs.length=n):ldA n h (.ptr (some (b,0)))=some (.agg vs):=by
 rw [ldA_at hb,span_some _ _ _ (by omega),List.drop_zero,← hl,List.take_length];rfl
theorem e0 {a:AV}{l:List AV}:(a::l)[0]?=some a:=rfl
theorem e1 {a b:AV}{l:List AV}:(a::b::l)[1]?=some b:=rfl
theorem e2 {a b c:AV}{l:List AV}:(a::b::c::l)[2]?=some c:=rfl
theorem shr_n (b:BitVec 64)(q:Nat):binP .shr (.int .u64 b.toNat) (.int .u64 (q:Int))=some (.int .u64 (b >>> q).toNat):=shr_is b q
theorem field_0 (b:BitVec 64)(h:Heap):Bf (.int .u64 b.toNat) (.int .i64 0) (.int .i64 7) h=some (.int .u64 ((b.toNat % 128:Nat):Int),h):=by
 have w:Br (.int .i64 0) (.int .i64 7) h=some (.bool true,h):=rfl
 have m:CC (.int .i64 7) h=some (.int .u64 127,h):=rfl
 have c:cvI .u64 (.int .i64 0)=some (.int .u64 ((0:Nat):Int)):=rfl
 have e:(BitVec.ofInt 64 ((b >>> 0).toNat:Int) &&& BitVec.ofInt 64 127).toNat=b.toNat % 128:=by
  rw [ofInt_toNat,BitVec.toNat_and,show(BitVec.ofInt 64 127).toNat=2 ^ 7 - 1 by decide,Nat.and_two_pow_sub_one_eq_mod];simp
 simp -implicitDefEqProofs only [Bf,w,cl_some,un_not,Bool.not_true,Option.bind_some,condE_false,c,shr_n,m,and_u64,e]
theorem field_1 (b:BitVec 64)(h:Heap):Bf (.int .u64 b.toNat) (.int .i64 7) (.int .i64 3) h=some (.int .u64 ((b.toNat / 128 % 8:Nat):Int),h):=by
 have w:Br (.int .i64 7) (.int .i64 3) h=some (.bool true,h):=rfl
 have m:CC (.int .i64 3) h=some (.int .u64 7,h):=rfl
 have c:cvI .u64 (.int .i64 7)=some (.int .u64 ((7:Nat):Int)):=rfl
 have e:(BitVec.ofInt 64 ((b >>> 7).toNat:Int) &&& BitVec.ofInt 64 7).toNat=b.toNat / 128 % 8:=by
  rw [ofInt_toNat,BitVec.toNat_and,show(BitVec.ofInt 64 7).toNat=2 ^ 3 - 1 by decide,Nat.and_two_pow_sub_one_eq_mod,BitVec.toNat_ushiftRight,Nat.shiftRight_eq_div_pow]
 simp -implicitDefEqProofs only [Bf,w,cl_some,un_not,Bool.not_true,Option.bind_some,condE_false,c,shr_n,m,and_u64,e]
theorem field_2 (b:BitVec 64)(h:Heap):Bf (.int .u64 b.toNat) (.int .i64 10) (.int .i64 16) h=some (.int .u64 ((b.toNat / 1024 % 65536:Nat):Int),h):=by
 have w:Br (.int .i64 10) (.int .i64 16) h=some (.bool true,h):=rfl
 have m:CC (.int .i64 16) h=some (.int .u64 65535,h):=rfl
 have c:cvI .u64 (.int .i64 10)=some (.int .u64 ((10:Nat):Int)):=rfl
 have e:(BitVec.ofInt 64 ((b >>> 10).toNat:Int) &&& BitVec.ofInt 64 65535).toNat=b.toNat / 1024 % 65536:=by
  rw [ofInt_toNat,BitVec.toNat_and,show(BitVec.ofInt 64 65535).toNat=2 ^ 16 - 1 by decide,Nat.and_two_pow_sub_one_eq_mod,BitVec.toNat_ushiftRight,Nat.shiftRight_eq_div_pow]
 simp -implicitDefEqProofs only [Bf,w,cl_some,un_not,Bool.not_true,Option.bind_some,condE_false,c,shr_n,m,and_u64,e]
theorem with_nat {b v M m:BitVec 64}{p n:Nat}(hp:p+n≤64)(hb:b.toNat < 2 ^ p)(hv:v.toNat < 2 ^ n)(hM:∀ i,i<p→M.getLsbD i=false)(hm:∀ i,i<n→m.getLsbD i=true) :
  ((b &&& ~~~M) ||| ((v &&& m) <<< p)).toNat=b.toNat+v.toNat * 2 ^ p:=by
 have e1:b &&& ~~~M=b:=by
  apply BitVec.eq_of_getLsbD_eq
  intro i hi
  rw [BitVec.getLsbD_and,BitVec.getLsbD_not]
  by_cases h:i<p
  ·rw [hM i h];simp [hi]
  ·have:b.getLsbD i=false:=by
    rw [BitVec.getLsbD,Nat.testBit_lt_two_pow (Nat.lt_of_lt_of_le hb (Nat.pow_le_pow_right (by decide) (by omega)))]
   rw [this];rfl
 have e2:v &&& m=v:=by
  apply BitVec.eq_of_getLsbD_eq
  intro i hi
  rw [BitVec.getLsbD_and]
  by_cases h:i<n
  ·rw [hm i h];simp
  ·have:v.getLsbD i=false:=by
    rw [BitVec.getLsbD,Nat.testBit_lt_two_pow (Nat.lt_of_lt_of_le hv (Nat.pow_le_pow_right (by decide) (by omega)))]
   rw [this];rfl
 have hlt:v.toNat * 2 ^ p < 2 ^ 64:=by
  have:v.toNat * 2 ^ p < 2 ^ n * 2 ^ p:=Nat.mul_lt_mul_of_pos_right hv (Nat.two_pow_pos p)
  rw [← Nat.pow_add] at this
  exact Nat.lt_of_lt_of_le this (Nat.pow_le_pow_right (by decide) (by omega))
 rw [e1,e2,BitVec.toNat_or,BitVec.toNat_shiftLeft,Nat.shiftLeft_eq,Nat.mod_eq_of_lt hlt,Nat.or_comm]
 have:=Nat.shiftLeft_add_eq_or_of_lt hb v.toNat
 rw [Nat.shiftLeft_eq] at this
 omega
theorem with_1 (b v:BitVec 64)(h:Heap)(hb:b.toNat < 128)(hv:v.toNat < 8):CS (.int .u64 b.toNat) (.int .i64 7) (.int .i64 3) (.int .u64 v.toNat) h=some (.int .u64 ((b.toNat+v.toNat * 128:Nat):Int),h):=by
 have w:Br (.int .i64 7) (.int .i64 3) h=some (.bool true,h):=rfl
 have m:CC (.int .i64 3) h=some (.int .u64 7,h):=rfl
 have c:cvI .u64 (.int .i64 7)=some (.int .u64 7):=rfl
 have s:binP .shl (.int .u64 7) (.int .u64 7)=some (.int .u64 896):=rfl
 have hall:∀ i:Fin 7,(BitVec.ofInt 64 896).getLsbD i.val=false:=by decide
 have hall':∀ i:Fin 3,(BitVec.ofInt 64 7).getLsbD i.val=true:=by decide
 have key:=with_nat (b:=b) (v:=v) (M:=BitVec.ofInt 64 896) (m:=BitVec.ofInt 64 7) (p:=7) (n:=3) (by decide) hb hv (fun i hi=>hall ⟨i,hi⟩) (fun i hi=>hall' ⟨i,hi⟩)
 have sh:=shl_u64 (v &&& BitVec.ofInt 64 7) .u64 7 (by decide)
 rw [show(7:Int).toNat=7 from rfl] at sh
 simp -implicitDefEqProofs only [CS,w,cl_some,un_not,Bool.not_true,Option.bind_some,condE_false,c,m,s,andNot_u64,and_u64,ofInt_toNat,sh,or_u64,key]
theorem with_2 (b v:BitVec 64)(h:Heap)(hb:b.toNat < 1024)(hv:v.toNat < 65536):CS (.int .u64 b.toNat) (.int .i64 10) (.int .i64 16) (.int .u64 v.toNat) h=some (.int .u64 ((b.toNat+v.toNat * 1024:Nat):Int),h):=by
 have w:Br (.int .i64 10) (.int .i64 16) h=some (.bool true,h):=rfl
 have m:CC (.int .i64 16) h=some (.int .u64 65535,h):=rfl
 have c:cvI .u64 (.int .i64 10)=some (.int .u64 10):=rfl
 have s:binP .shl (.int .u64 65535) (.int .u64 10)=some (.int .u64 67107840):=rfl
 have hall:∀ i:Fin 10,(BitVec.ofInt 64 67107840).getLsbD i.val=false:=by decide
 have hall':∀ i:Fin 16,(BitVec.ofInt 64 65535).getLsbD i.val=true:=by decide
 have key:=with_nat (b:=b) (v:=v) (M:=BitVec.ofInt 64 67107840) (m:=BitVec.ofInt 64 65535) (p:=10) (n:=16) (by decide) hb hv (fun i hi=>hall ⟨i,hi⟩) (fun i hi=>hall' ⟨i,hi⟩)
 have sh:=shl_u64 (v &&& BitVec.ofInt 64 65535) .u64 10 (by decide)
 rw [show(10:Int).toNat=10 from rfl] at sh
 simp -implicitDefEqProofs only [CS,w,cl_some,un_not,Bool.not_true,Option.bind_some,condE_false,c,m,s,andNot_u64,and_u64,ofInt_toNat,sh,or_u64,key]
def hdC (a b c:Int):List AV:=[.int .i64 a,.int .i64 b,.int .i64 c]
theorem ldA_hd {h:Heap}{p:Nat}{w:Bool}{a b c:Int}(hb:h.get p=some (.cells w (hdC a b c))):ldA 3 h (.ptr (some (p,0)))=some (.agg (hdC a b c)):=ldA_all hb rfl
def mayP (a b c:Int):Prop:=1≤a∧a≤64∧0≤b∧b≤3∧0≤c∧c < 65536
instance (a b c:Int):Decidable (mayP a b c):=by unfold mayP;infer_instance
theorem new_get (h:Heap)(b:Blk):(h.new b).get h.next=some b:=get_new_eq
theorem may_ok (a b c:Int)(h:Heap):Ok (CP (.agg (hdC a b c)) h) fun r=>r.1 = .bool (decide (mayP a b c))∧Same [] h r.2:=by
 have bx:bxP (.agg (hdC a b c))=some (.cells true (hdC a b c),fun i=>.ptr (some (i,0))):=rfl
 have hg:=new_get h (.cells true (hdC a b c))
 have sm:Same [] h (h.new (.cells true (hdC a b c))):=Same.new _ _
 generalize hG:h.new (.cells true (hdC a b c))=g at *
 have l0:ldS g (.ptr (some (h.next,0+0)))=some (.int .i64 a):=by rw [ldS_at hg];rfl
 have l1:ldS g (.ptr (some (h.next,0+1)))=some (.int .i64 b):=by rw [ldS_at hg];rfl
 have l2:ldS g (.ptr (some (h.next,0+2)))=some (.int .i64 c):=by rw [ldS_at hg];rfl
 by_cases h1:1≤a
 ·by_cases h2:a≤64
  ·by_cases h3:0≤b
   ·by_cases h4:b≤3
    ·by_cases h5:0≤c
     ·have hd:decide (mayP a b c)=decide (c < 65536):=by unfold mayP;simp [h1,h2,h3,h4,h5]
      rw [hd]
      exact ok_val (by simp -implicitDefEqProofs only [CP,bx,mk_some,hG,faP_ptr,Option.bind_some,l0,l1,l2,bin_geq,bin_leq,bin_lss,h1,h2,h3,h4,h5,decide_true,gdW_tt,gQ_true,cl_some,pickP_bool,if_true]) ⟨rfl,sm⟩
     ·have hd:decide (mayP a b c)=false:=by unfold mayP;simp [h5]
      rw [hd]
      exact ok_val (by simp -implicitDefEqProofs only [CP,bx,mk_some,hG,faP_ptr,Option.bind_some,l0,l1,l2,bin_geq,bin_leq,h1,h2,h3,h4,h5,decide_true,decide_false,gdW_tt,gdW_ft,gQ_true,gQ_false,cl_some,pickP_bool,if_true,Bool.false_eq_true,if_false]) ⟨rfl,sm⟩
    ·have hd:decide (mayP a b c)=false:=by unfold mayP;simp [h4]
     rw [hd]
     exact ok_val (by simp -implicitDefEqProofs only [CP,bx,mk_some,hG,faP_ptr,Option.bind_some,l0,l1,l2,bin_geq,bin_leq,h1,h2,h3,h4,decide_true,decide_false,gdW_tt,gdW_ft,gQ_true,gQ_false,cl_some,pickP_bool,if_true,Bool.false_eq_true,if_false]) ⟨rfl,sm⟩
   ·have hd:decide (mayP a b c)=false:=by unfold mayP;simp [h3]
    rw [hd]
    exact ok_val (by simp -implicitDefEqProofs only [CP,bx,mk_some,hG,faP_ptr,Option.bind_some,l0,l1,l2,bin_geq,bin_leq,h1,h2,h3,decide_true,decide_false,gdW_tt,gdW_ft,gQ_true,gQ_false,cl_some,pickP_bool,if_true,Bool.false_eq_true,if_false]) ⟨rfl,sm⟩
  ·have hd:decide (mayP a b c)=false:=by unfold mayP;simp [h2]
   rw [hd]
   exact ok_val (by simp -implicitDefEqProofs only [CP,bx,mk_some,hG,faP_ptr,Option.bind_some,l0,l1,l2,bin_geq,bin_leq,h1,h2,decide_true,decide_false,gdW_tt,gdW_ft,gQ_true,gQ_false,cl_some,pickP_bool,if_true,Bool.false_eq_true,if_false]) ⟨rfl,sm⟩
 ·have hd:decide (mayP a b c)=false:=by unfold mayP;simp [h1]
  rw [hd]
  exact ok_val (by simp -implicitDefEqProofs only [CP,bx,mk_some,hG,faP_ptr,Option.bind_some,l0,l1,l2,bin_geq,bin_leq,h1,decide_true,decide_false,gdW_tt,gdW_ft,gQ_true,gQ_false,cl_some,pickP_bool,if_true,Bool.false_eq_true,if_false]) ⟨rfl,sm⟩
theorem nat_bv (n:Nat)(h:n < 2 ^ 64):(BitVec.ofNat 64 n).toNat=n:=by rw [BitVec.toNat_ofNat];exact Nat.mod_eq_of_lt h
theorem pack_ok (a b c:Int)(h:Heap)(hm:mayP a b c):Ok (Dt (.agg (hdC a b c)) h) fun r=>r.1 = .tup [.int .i64 (a+128*b+1024*c),.int .i64 0]∧Same [] h r.2:=by
 have bx:bxP (.agg (hdC a b c))=some (.cells true (hdC a b c),fun i=>.ptr (some (i,0))):=rfl
 have hg:=new_get h (.cells true (hdC a b c))
 have sm:Same [] h (h.new (.cells true (hdC a b c))):=Same.new _ _
 have hlt:h.next<(h.new (.cells true (hdC a b c))).next:=Nat.lt_succ_self _
 generalize hG:h.new (.cells true (hdC a b c))=g at *
 refine Ok.eq ?_ (by simp -implicitDefEqProofs only [Dt,bx,mk_some,hG,ldA_hd hg,Option.bind_some];rfl)
 refine ok_cl (may_ok a b c g) ?_
 rintro _ g1 ⟨rfl,s1⟩
 simp only at s1
 have hg1:g1.get h.next=_:=(s1.get _ hlt (by simp)).trans hg
 have l0:ldS g1 (.ptr (some (h.next,0+0)))=some (.int .i64 a):=by rw [ldS_at hg1];rfl
 have l1:ldS g1 (.ptr (some (h.next,0+1)))=some (.int .i64 b):=by rw [ldS_at hg1];rfl
 have l2:ldS g1 (.ptr (some (h.next,0+2)))=some (.int .i64 c):=by rw [ldS_at hg1];rfl
 obtain⟨m1,m2,m3,m4,m5,m6⟩:=hm
 have hm':mayP a b c:=⟨m1,m2,m3,m4,m5,m6⟩
 have ca:cvI .u64 (.int .i64 a)=some (.int .u64 ((BitVec.ofNat 64 a.toNat).toNat:Int)):=by rw [cvI_int,wrap_u64 (by omega) (by omega),nat_bv _ (by omega)];congr 2;omega
 have cb:cvI .u64 (.int .i64 b)=some (.int .u64 ((BitVec.ofNat 64 b.toNat).toNat:Int)):=by rw [cvI_int,wrap_u64 (by omega) (by omega),nat_bv _ (by omega)];congr 2;omega
 have cc:cvI .u64 (.int .i64 c)=some (.int .u64 ((BitVec.ofNat 64 c.toNat).toNat:Int)):=by rw [cvI_int,wrap_u64 (by omega) (by omega),nat_bv _ (by omega)];congr 2;omega
 have w1:=with_1 (BitVec.ofNat 64 a.toNat) (BitVec.ofNat 64 b.toNat) g1 (by rw [nat_bv _ (by omega)];omega) (by rw [nat_bv _ (by omega)];omega)
 have w2:=with_2 (BitVec.ofNat 64 (a.toNat+b.toNat * 128)) (BitVec.ofNat 64 c.toNat) g1 (by rw [nat_bv _ (by omega)];omega) (by rw [nat_bv _ (by omega)];omega)
 rw [nat_bv (a.toNat+b.toNat * 128) (by omega)] at w2
 rw [nat_bv a.toNat (by omega),nat_bv b.toNat (by omega)] at w1
 rw [nat_bv a.toNat (by omega)] at ca
 rw [nat_bv b.toNat (by omega)] at cb
 rw [nat_bv c.toNat (by omega)] at cc w2
 have cd:cvI .i64 (.int .u64 ((a.toNat+b.toNat * 128+c.toNat * 1024:Nat):Int))=some (.int .i64 (a+128*b+1024*c)):=by
  rw [cvI_int,wrap_i64 (by omega) (by omega)];congr 2;omega
 exact ok_val (by simp -implicitDefEqProofs only [hm',decide_true,un_not,Bool.not_true,Option.bind_some,condE_false,faP_ptr,l0,l1,l2,ca,cb,cc,w1,w2,cl_some,cd]) ⟨rfl,(sm.trans s1)⟩
def unp (w:Int):Option (Int × Int × Int):=
 if (BitVec.ofInt 64 w).toNat / 67108864≠0∨¬ mayP (((BitVec.ofInt 64 w).toNat % 128:Nat):Int) (((BitVec.ofInt 64 w).toNat / 128 % 8:Nat):Int) (((BitVec.ofInt 64 w).toNat / 1024 % 65536:Nat):Int) then none
 else some ((((BitVec.ofInt 64 w).toNat % 128:Nat):Int),(((BitVec.ofInt 64 w).toNat / 128 % 8:Nat):Int),(((BitVec.ofInt 64 w).toNat / 1024 % 65536:Nat):Int))
theorem unp_may {w a b c:Int}(h:unp w=some (a,b,c)):mayP a b c:=by
 unfold unp at h
 split at h
 ·cases h
 ·rename_i hn
  injection h with h;injection h with h1 h2;injection h2 with h2 h3
  rw [← h1,← h2,← h3]
  exact Classical.not_not.1 fun hm=>hn (.inr hm)
theorem unp_pack {a b c:Int}(h:mayP a b c):unp (a+128*b+1024*c)=some (a,b,c):=by
 obtain⟨m1,m2,m3,m4,m5,m6⟩:=h
 have hm:mayP a b c:=⟨m1,m2,m3,m4,m5,m6⟩
 have e:(BitVec.ofInt 64 (a+128*b+1024*c)).toNat=(a+128*b+1024*c).toNat:=by
  rw [BitVec.toNat_ofInt];omega
 unfold unp
 rw [e]
 have e1:(((a+128*b+1024*c).toNat % 128:Nat):Int)=a:=by omega
 have e2:(((a+128*b+1024*c).toNat / 128 % 8:Nat):Int)=b:=by omega
 have e3:(((a+128*b+1024*c).toNat / 1024 % 65536:Nat):Int)=c:=by omega
 have e4:(a+128*b+1024*c).toNat / 67108864=0:=by omega
 rw [e1,e2,e3,e4,if_neg (fun h=>h.elim (fun h=>h rfl) (fun h=>h hm))]
def unpV (w:Int):AV:=match unp w with
 | some (a,b,c)=>.tup [.agg (hdC a b c),.int .i64 0]
 | none=>.tup [.agg (hdC 0 0 0),.int .i64 3]
theorem unpack_ok (w:Int)(h:Heap):Ok (Cs (.int .i64 w) h) fun r=>r.1=unpV w∧Same [] h r.2:=by
 have cv:cvI .u64 (.int .i64 w)=some (.int .u64 ((BitVec.ofInt 64 w).toNat:Int)):=by rw [cvI_int,wrap_mod]
 generalize hu:BitVec.ofInt 64 w=u at *
 have hlt:=u.isLt
 have ca:cvI .i64 (.int .u64 ((u.toNat % 128:Nat):Int))=some (.int .i64 ((u.toNat % 128:Nat):Int)):=by rw [cvI_int,wrap_i64 (by omega) (by omega)]
 have cb:cvI .i64 (.int .u64 ((u.toNat / 128 % 8:Nat):Int))=some (.int .i64 ((u.toNat / 128 % 8:Nat):Int)):=by rw [cvI_int,wrap_i64 (by omega) (by omega)]
 have cc:cvI .i64 (.int .u64 ((u.toNat / 1024 % 65536:Nat):Int))=some (.int .i64 ((u.toNat / 1024 % 65536:Nat):Int)):=by rw [cvI_int,wrap_i64 (by omega) (by omega)]
 have hunp:unp w=if u.toNat / 67108864≠0∨¬ mayP ((u.toNat % 128:Nat):Int) ((u.toNat / 128 % 8:Nat):Int) ((u.toNat / 1024 % 65536:Nat):Int) then none
   else some (((u.toNat % 128:Nat):Int),((u.toNat / 128 % 8:Nat):Int),((u.toNat / 1024 % 65536:Nat):Int)):=by unfold unp;rw [hu]
 have s26:=shr_n u 26
 have e26:((26:Nat):Int)=26:=rfl
 rw [e26] at s26
 have n26:(u >>> 26).toNat=u.toNat / 67108864:=by rw [BitVec.toNat_ushiftRight,Nat.shiftRight_eq_div_pow]
 rw [n26] at s26
 have f0:=fun h=>field_0 u h
 have f1:=fun h=>field_1 u h
 have f2:=fun h=>field_2 u h
 generalize u.toNat % 128=a at *
 generalize u.toNat / 128 % 8=b at *
 generalize u.toNat / 1024 % 65536=c at *
 have z3:([AV.int .i64 0,.int .i64 0,.int .i64 0]:List AV)=hdC 0 0 0:=rfl
 have bl:bldS [(0,1),(1,1),(2,1)] (hdC 0 0 0) [(0,AV.int .i64 (a:Int)),(1,.int .i64 (b:Int)),(2,.int .i64 (c:Int))]=some (.agg (hdC a b c)):=rfl
 have bz:bldS [(0,1),(1,1),(2,1)] (hdC 0 0 0) []=some (.agg (hdC 0 0 0)):=rfl
 have g0:=new_get h (.cells true (hdC 0 0 0))
 have s0:Same [] h (h.new (.cells true (hdC 0 0 0))):=Same.new _ _
 have l0:h.next<(h.new (.cells true (hdC 0 0 0))).next:=Nat.lt_succ_self _
 refine Ok.eq ?_ (by simp -implicitDefEqProofs only [Cs,z3,mk_some,cv,Option.bind_some,f0,f1,f2,cl_some,ca,cb,cc,bl];rfl)
 generalize h.new (.cells true (hdC 0 0 0))=G0 at *
 have g1':=stP_all (n:=3) (cs:=hdC a b c) (new_get G0 (.cells true (hdC 0 0 0))) rfl rfl rfl
 have s1:Same [] G0 ((G0.new (.cells true (hdC 0 0 0))).put G0.next (some (.cells true (hdC a b c)))):=⟨Nat.le_succ _,fun j hj _=>by rw [get_put_ne (by omega),get_new_ne (by omega)]⟩
 have l1:G0.next<((G0.new (.cells true (hdC 0 0 0))).put G0.next (some (.cells true (hdC a b c)))).next:=Nat.lt_succ_self _
 have p1:((G0.new (.cells true (hdC 0 0 0))).put G0.next (some (.cells true (hdC a b c)))).get G0.next=some (.cells true (hdC a b c)):=get_put_eq
 refine Ok.eq ?_ (by simp -implicitDefEqProofs only [g1',cl_some];rfl)
 generalize (G0.new (.cells true (hdC 0 0 0))).put G0.next (some (.cells true (hdC a b c)))=G1 at *
 have q1:G1.get h.next=some (.cells true (hdC 0 0 0)):=(s1.get _ l0 (by simp)).trans g0
 have stz:∀ {G:Heap},Same [] G1 G→G.get h.next=some (.cells true (hdC 0 0 0)):=fun s=>(s.get _ (Nat.lt_of_lt_of_le l0 s1.next) (by simp)).trans q1
 have fin:∀ {G:Heap} (x:List AV),Same [] G1 G→Same [] h (G.put h.next (some (.cells true x))):=fun x s=>
  ((s0.trans s1).trans s).old (Same.put _ _ _) (fun j hj=>by simp at hj;right;omega)
 by_cases hz:u.toNat / 67108864=0
 ·rw [hz] at s26
  have e00:((0:Nat):Int)=0:=rfl
  refine Ok.eq ?_ (by simp -implicitDefEqProofs only [s26,Option.bind_some,neq_int,e00,decide_true,Bool.not_true,gdW_ff,gQ_true,ldA_hd p1,cl_some];rfl)
  refine ok_cl (P:=fun r=>r.1 = .bool (decide (mayP (a:Int) b c))∧Same [] G1 r.2) ?_ ?_
  ·exact(ok_cl (may_ok a b c G1) (fun v g hv=>ok_val rfl hv))
  ·rintro _ G2 ⟨rfl,s2⟩
   simp only at s2
   have p2:G2.get G0.next=_:=(s2.get _ l1 (by simp)).trans p1
   by_cases hm:mayP (a:Int) b c
   ·have hv:unpV w = .tup [.agg (hdC a b c),.int .i64 0]:=by
     unfold unpV;rw [hunp,if_neg (fun h=>h.elim (fun h=>h hz) (fun h=>h hm))]
    have st:=stP_all (n:=3) (cs:=hdC a b c) (stz s2) rfl rfl rfl
    exact ok_val (by simp -implicitDefEqProofs only [hm,decide_true,un_not,Bool.not_true,Option.bind_some,gQ_true,cl_some,pickP_bool,Bool.false_eq_true,if_false,condE_false,ldA_hd p2,st,ldA_hd (get_put_eq (h:=G2))];rfl) ⟨hv.symm,fin _ s2⟩
   ·have hv:unpV w = .tup [.agg (hdC 0 0 0),.int .i64 3]:=by
     unfold unpV;rw [hunp,if_pos (.inr hm)]
    have st:=stP_all (n:=3) (cs:=hdC 0 0 0) (stz s2) rfl rfl rfl
    exact ok_val (by simp -implicitDefEqProofs only [hm,decide_false,un_not,Bool.not_false,Option.bind_some,gQ_true,cl_some,pickP_bool,Bool.false_eq_true,if_false,condE_true,bz,st,ldA_hd (get_put_eq (h:=G2))];rfl) ⟨hv.symm,fin _ s2⟩
 ·have hne : ¬ ((u.toNat / 67108864:Nat):Int)=0:=by omega
  have hv:unpV w = .tup [.agg (hdC 0 0 0),.int .i64 3]:=by
   unfold unpV;rw [hunp,if_pos (.inl hz)]
  have st:=stP_all (n:=3) (cs:=hdC 0 0 0) (stz (Same.refl _ _)) rfl rfl rfl
  exact ok_val (by simp -implicitDefEqProofs only [s26,Option.bind_some,neq_int,hne,decide_false,Bool.not_false,gdW_tf,gQ_false,pickP_bool,if_true,condE_true,bz,st,cl_some,ldA_hd (get_put_eq (h:=G1))];rfl) ⟨hv.symm,fin _ (Same.refl _ _)⟩
set_option linter.all false
attribute [local congr] c_bind c_cl c_mk c_lp c_clC c_gQ c_gV c_condE c_thenK
structure Shp where
 kind:Int
 fields:Int
 map:BitVec 64
deriving DecidableEq
def Shp.row (s:Shp):List AV:=[.int .i64 s.kind,.int .i64 s.fields,.int .u64 s.map.toNat]
def shC (l:List Shp):List AV:=(l.map Shp.row).flatten
theorem shC_app (a b:List Shp):shC (a++b)=shC a++shC b:=by simp [shC]
theorem shC_at {l:List Shp}{i:Nat}{s:Shp}(h:l[i]?=some s):span (shC l) (i * 3) 3=some s.row:=by
 unfold shC
 exact span_flat (l:=l.map Shp.row) (fun r hr=>by rw [List.mem_map] at hr;obtain⟨x,_,rfl⟩:=hr;rfl) i s.row (by rw [List.getElem?_map,h]<;>rfl)
theorem ldA_row {h:Heap}{p:Nat}{w:Bool}{s:Shp}(hb:h.get p=some (.cells w s.row)):ldA 3 h (.ptr (some (p,0)))=some (.agg s.row):=ldA_all hb rfl
theorem same_row (s:Shp):same (.agg s.row) (.agg s.row)=true:=by simp [same,sameS,sameL,Shp.row]
def goodB (s:Shp):Bool:=
 if s.kind=0∨s.kind=2 then decide (0≤s.fields) && decide (s.fields≤63) && decide (s.map >>> s.fields.toNat=0)
 else if s.kind=1∨s.kind=3 then decide (s.fields=0) && decide (s.map.toNat≤1) else false
theorem good_ok (s:Shp)(h:Heap):Ok (Cg (.agg s.row) h) fun r=>r.1 = .bool (goodB s)∧Same [] h r.2:=by
 have bx:bxP (.agg s.row)=some (.cells true s.row,fun i=>.ptr (some (i,0))):=rfl
 have hg:=new_get h (.cells true s.row)
 have sm:Same [] h (h.new (.cells true s.row)):=Same.new _ _
 generalize hG:h.new (.cells true s.row)=g at *
 have l0:ldS g (.ptr (some (h.next,0+0)))=some (.int .i64 s.kind):=by rw [ldS_at hg];rfl
 have l1:ldS g (.ptr (some (h.next,0+1)))=some (.int .i64 s.fields):=by rw [ldS_at hg];rfl
 have l2:ldS g (.ptr (some (h.next,0+2)))=some (.int .u64 s.map.toNat):=by rw [ldS_at hg];rfl
 have j1:∀ (b:Bool) (q:AV),b=true→Ok (A7 (.ptr (some (h.next,0))) q (.bool b) g) fun r=>r.1 = .bool (decide (0≤s.fields) && decide (s.fields≤63) && decide (s.map >>> s.fields.toNat=0))∧Same [] h r.2:=by
  rintro b q rfl
  by_cases h1:0≤s.fields
  ·by_cases h2:s.fields≤63
   ·have c:cvI .u64 (.int .i64 s.fields)=some (.int .u64 ((s.fields.toNat:Nat):Int)):=by rw [cvI_int,wrap_u64 (by omega) (by omega)];congr 2;omega
    have e:decide (((s.map >>> s.fields.toNat).toNat:Int)=0)=decide (s.map >>> s.fields.toNat=0):=by
     apply decide_eq_decide.2
     exact toNat_zero _
    exact ok_val (by simp -implicitDefEqProofs only [A7,condE_true,faP_ptr,Option.bind_some,l1,l2,bin_geq,bin_leq,h1,h2,decide_true,gdW_tt,gQ_true,cl_some,pickP_bool,if_true,c,shr_n,eql_int,e]<;>rfl) ⟨by simp [h1,h2],sm⟩
   ·exact ok_val (by simp -implicitDefEqProofs only [A7,condE_true,faP_ptr,Option.bind_some,l1,l2,bin_geq,bin_leq,h1,h2,decide_true,decide_false,gdW_tt,gdW_ft,gQ_true,gQ_false,cl_some,pickP_bool,if_true,Bool.false_eq_true,if_false]<;>rfl) ⟨by simp [h1,h2],sm⟩
  ·exact ok_val (by simp -implicitDefEqProofs only [A7,condE_true,faP_ptr,Option.bind_some,l1,l2,bin_geq,bin_leq,h1,decide_true,decide_false,gdW_tt,gdW_ft,gQ_true,gQ_false,cl_some,pickP_bool,if_true,Bool.false_eq_true,if_false]<;>rfl) ⟨by simp [h1],sm⟩
 have j0:∀ (b:Bool),b=true→Ok (Cc (.ptr (some (h.next,0))) (.bool b) g) fun r=>r.1 = .bool (decide (s.fields=0) && decide (s.map.toNat≤1))∧Same [] h r.2:=by
  rintro b rfl
  by_cases h1:s.fields=0
  ·have e:decide ((s.map.toNat:Int)≤1)=decide (s.map.toNat≤1):=by apply decide_eq_decide.2;omega
   exact ok_val (by simp -implicitDefEqProofs only [Cc,condE_true,faP_ptr,Option.bind_some,l1,l2,eql_int,bin_leq,h1,decide_true,gdW_tt,gQ_true,cl_some,pickP_bool,if_true,e]<;>rfl) ⟨by simp [h1],sm⟩
  ·exact ok_val (by simp -implicitDefEqProofs only [Cc,condE_true,faP_ptr,Option.bind_some,l1,l2,eql_int,h1,decide_false,gdW_ft,gQ_false,cl_some,pickP_bool,Bool.false_eq_true,if_false]<;>rfl) ⟨by simp [h1],sm⟩
 unfold goodB
 by_cases k0:s.kind=0
 ·rw [if_pos (.inl k0)]
  refine(j1 _ (.int .i64 s.kind) rfl).eq (by simp -implicitDefEqProofs only [Cg,bx,mk_some,hG,faP_ptr,Option.bind_some,l0,eql_int,k0,decide_true,condE_true])
 ·by_cases k2:s.kind=2
  ·rw [if_pos (.inr k2)]
   refine(j1 _ (.int .i64 s.kind) rfl).eq (by simp -implicitDefEqProofs only [Cg,bx,mk_some,hG,faP_ptr,Option.bind_some,l0,eql_int,k0,k2,decide_true,decide_false,condE_false]<;>rfl)
  ·rw [if_neg (fun h=>h.elim k0 k2)]
   have st:Cg (.agg s.row) h=A7 (.ptr (some (h.next,0))) (.int .i64 s.kind) (.bool false) g:=by
    simp -implicitDefEqProofs only [Cg,bx,mk_some,hG,faP_ptr,Option.bind_some,l0,eql_int,k0,k2,decide_false,condE_false]
   by_cases k1:s.kind=1
   ·rw [if_pos (.inl k1)]
    exact(j0 _ rfl).eq (by rw [st];simp -implicitDefEqProofs only [A7,condE_false,eql_int,k1,decide_true,Option.bind_some,condE_true])
   ·by_cases k3:s.kind=3
    ·rw [if_pos (.inr k3)]
     exact(j0 _ rfl).eq (by rw [st];simp -implicitDefEqProofs only [A7,condE_false,eql_int,k1,k3,decide_true,decide_false,Option.bind_some]<;>rfl)
    ·rw [if_neg (fun h=>h.elim k1 k3)]
     exact ok_val (v:=.bool false) (g:=g) (by rw [st];simp -implicitDefEqProofs only [A7,Cc,condE_false,eql_int,k1,k3,decide_false,Option.bind_some]) ⟨rfl,sm⟩
def holdsB (s:Shp)(f n:Int):Bool:=
 if f < 0∨n < 2∨n - 2<f then false
 else if s.kind=0∨s.kind=2 then s.map.getLsbD f.toNat
 else if s.kind=1 then s.map.getLsbD 0
 else if s.kind=3 then s.map.getLsbD 0 && decide (4≤f)
 else false
theorem and_one (b:BitVec 64):decide (((b &&& BitVec.ofInt 64 1).toNat:Int)=1)=b.getLsbD 0:=by
 have:=bit_is1 b 0
 rwa [BitVec.ushiftRight_zero] at this
theorem holds_ok (s:Shp)(f n:Int)(hf:f < 4611686018427387904)(hn:n≤64)(h:Heap):Ok (AE (.agg s.row) (.int .i64 f) (.int .i64 n) h) fun r=>r.1 = .bool (holdsB s f n)∧Same [] h r.2:=by
 have bx:bxP (.agg s.row)=some (.cells true s.row,fun i=>.ptr (some (i,0))):=rfl
 have hg:=new_get h (.cells true s.row)
 have sm:Same [] h (h.new (.cells true s.row)):=Same.new _ _
 generalize hG:h.new (.cells true s.row)=g at *
 have l0:ldS g (.ptr (some (h.next,0+0)))=some (.int .i64 s.kind):=by rw [ldS_at hg];rfl
 have l2:ldS g (.ptr (some (h.next,0+2)))=some (.int .u64 s.map.toNat):=by rw [ldS_at hg];rfl
 by_cases h1:f < 0
 ·exact ok_val (v:=.bool false) (g:=g) (by simp -implicitDefEqProofs only [AE,bx,mk_some,hG,bin_lss,h1,decide_true,Option.bind_some,gdW_tf,gQ_false,pickP_bool,if_true,condE_true]) ⟨by unfold holdsB;rw [if_pos (.inl h1)],sm⟩
 by_cases h2:n < 2
 ·exact ok_val (v:=.bool false) (g:=g) (by simp -implicitDefEqProofs only [AE,bx,mk_some,hG,bin_lss,h1,h2,decide_true,decide_false,Option.bind_some,gdW_tf,gdW_ff,gQ_true,gQ_false,cl_some,pickP_bool,Bool.false_eq_true,if_false,if_true,condE_true]) ⟨by unfold holdsB;rw [if_pos (.inr (.inl h2))],sm⟩
 have hw:IntKind.i64.wrap (n - 2)=n - 2:=wrap_i64 (by omega) (by omega)
 by_cases h3:n - 2<f
 ·exact ok_val (v:=.bool false) (g:=g) (by simp -implicitDefEqProofs only [AE,bx,mk_some,hG,bin_lss,h1,h2,h3,hw,bin_sub,bin_gtr,decide_true,decide_false,Option.bind_some,gdW_ff,gQ_true,cl_some,pickP_bool,Bool.false_eq_true,if_false,condE_true]) ⟨by unfold holdsB;rw [if_pos (.inr (.inr h3))],sm⟩
 have hb:holdsB s f n=if s.kind=0∨s.kind=2 then s.map.getLsbD f.toNat else if s.kind=1 then s.map.getLsbD 0 else if s.kind=3 then s.map.getLsbD 0 && decide (4≤f) else false:=by
  unfold holdsB;rw [if_neg (by omega)]
 rw [hb]
 have c:cvI .u64 (.int .i64 f)=some (.int .u64 ((f.toNat:Nat):Int)):=by rw [cvI_int,wrap_u64 (by omega) (by omega)];congr 2;omega
 have jt:∀ (q:AV),Ok (AD (.int .i64 f) (.ptr (some (h.next,0))) q (.bool true) g) fun r=>r.1 = .bool (s.map.getLsbD f.toNat)∧Same [] h r.2:=fun q=>
  ok_val (by simp -implicitDefEqProofs only [AD,condE_true,faP_ptr,Option.bind_some,l2,c,shr_n,and_u64,ofInt_toNat,eql_int,bit_is1]) ⟨rfl,sm⟩
 have st:AE (.agg s.row) (.int .i64 f) (.int .i64 n) h=(if s.kind=0∨s.kind=2 then AD (.int .i64 f) (.ptr (some (h.next,0))) (.int .i64 s.kind) (.bool true) g else AD (.int .i64 f) (.ptr (some (h.next,0))) (.int .i64 s.kind) (.bool false) g):=by
  by_cases k0:s.kind=0
  ·rw [if_pos (.inl k0)]
   simp -implicitDefEqProofs only [AE,bx,mk_some,hG,bin_lss,h1,h2,h3,hw,bin_sub,bin_gtr,decide_false,Option.bind_some,gdW_ff,gQ_true,cl_some,pickP_bool,Bool.false_eq_true,if_false,condE_false,faP_ptr,l0,eql_int,k0,decide_true,condE_true]
  ·by_cases k2:s.kind=2
   ·rw [if_pos (.inr k2)]
    simp -implicitDefEqProofs only [AE,bx,mk_some,hG,bin_lss,h1,h2,h3,hw,bin_sub,bin_gtr,decide_false,Option.bind_some,gdW_ff,gQ_true,cl_some,pickP_bool,Bool.false_eq_true,if_false,condE_false,faP_ptr,l0,eql_int,k0,k2,decide_true]<;>rfl
   ·rw [if_neg (fun h=>h.elim k0 k2)]
    simp -implicitDefEqProofs only [AE,bx,mk_some,hG,bin_lss,h1,h2,h3,hw,bin_sub,bin_gtr,decide_false,Option.bind_some,gdW_ff,gQ_true,cl_some,pickP_bool,Bool.false_eq_true,if_false,condE_false,faP_ptr,l0,eql_int,k0,k2]
 rw [st]
 by_cases k02:s.kind=0∨s.kind=2
 ·rw [if_pos k02,if_pos k02];exact jt _
 rw [if_neg k02,if_neg k02]
 by_cases k1:s.kind=1
 ·rw [if_pos k1]
  exact ok_val (by simp -implicitDefEqProofs only [AD,condE_false,eql_int,k1,decide_true,Option.bind_some,condE_true,faP_ptr,l2,and_u64,ofInt_toNat,and_one]) ⟨rfl,sm⟩
 rw [if_neg k1]
 by_cases k3:s.kind=3
 ·rw [if_pos k3]
  have d1:decide (s.kind=1)=false:=by simp [k1]
  have d3:decide (s.kind=3)=true:=by simp [k3]
  cases hm:s.map.getLsbD 0 with
  | true=>exact ok_val (by simp -implicitDefEqProofs only [AD,condE_false,eql_int,d1,d3,Option.bind_some,condE_true,faP_ptr,l2,and_u64,ofInt_toNat,and_one,hm,gdW_tt,gQ_true,cl_some,bin_geq,pickP_bool,if_true]<;>rfl) ⟨by simp,sm⟩
  | false=>exact ok_val (by simp -implicitDefEqProofs only [AD,condE_false,eql_int,d1,d3,Option.bind_some,condE_true,faP_ptr,l2,and_u64,ofInt_toNat,and_one,hm,gdW_ft,gQ_false,cl_some,pickP_bool,Bool.false_eq_true,if_false]<;>rfl) ⟨by simp,sm⟩
 ·rw [if_neg k3]
  exact ok_val (v:=.bool false) (g:=g) (by simp -implicitDefEqProofs only [AD,condE_false,eql_int,k1,k3,decide_false,Option.bind_some]) ⟨rfl,sm⟩
def entS:Nat→List Shp→List (AV × AV)
 | _,[]=>[]
 | i,s::l=>(.agg s.row,.int .i64 (i:Nat))::entS (i+1) l
def keyL:List (Nat × TypeDesc):=[(0,(.int .i64)),(1,(.int .i64)),(2,(.int .u64))]
theorem eq_row (s t:Shp):eqSF keyL (.agg s.row) (.agg t.row)=some (decide (s=t)):=by
 obtain⟨a,b,c⟩:=s
 obtain⟨d,e,f⟩:=t
 by_cases h1:a=d
 ·by_cases h2:b=e
  ·by_cases h3:c=f
   ·subst h1;subst h2;subst h3
    simp [eqSF,eqD,eqFs,eqT,Shp.row,same,sameL,sameS,keyL]
   ·have : ¬ (c.toNat:Int)=f.toNat:=fun h=>h3 (BitVec.eq_of_toNat_eq (by omega))
    subst h1;subst h2
    simp [eqSF,eqD,eqFs,eqT,Shp.row,keyL,h3,this]
  ·subst h1
   simp [eqSF,eqD,eqFs,eqT,Shp.row,keyL,h2]
 ·simp [eqSF,eqD,eqFs,eqT,Shp.row,keyL,h1]
theorem key_row (s:Shp):keySF keyL (.agg s.row)=true:=by
 obtain⟨a,b,c⟩:=s
 rfl
theorem find_no {s:Shp}:∀ {l:List Shp} {i:Nat},s∉l→findG (eqSF keyL) (.agg s.row) (entS i l)=some none
 | [],i,_=>rfl
 | t::l,i,h=>by
  have hne : ¬ s=t:=fun e=>h (e ▸ List.mem_cons_self ..)
  simp only [entS,findG,eq_row,hne,decide_false,Option.bind_some,Bool.false_eq_true,if_false,find_no (i:=i+1) (fun hm=>h (List.mem_cons_of_mem _ hm))]
theorem put_no {s:Shp}:∀ {l:List Shp} {i:Nat},s∉l→putG (eqSF keyL) (.agg s.row) (.int .i64 ((i+l.length:Nat):Int)) (entS i l)=some (entS i (l ++ [s]))
 | [],i,_=>rfl
 | t::l,i,h=>by
  have hne : ¬ s=t:=fun e=>h (e ▸ List.mem_cons_self ..)
  have:=put_no (i:=i+1) (fun hm=>h (List.mem_cons_of_mem _ hm):s∉l)
  rw [show i+1+l.length=i+(t::l).length by simp;omega] at this
  simp only [entS,putG,eq_row,hne,decide_false,Option.bind_some,Bool.false_eq_true,if_false,this,Option.map_some,List.cons_append]
structure TbAt (h:Heap)(tb nm:Nat)(b:Option Nat)(T:List Shp):Prop where
 tbl:∃ v,h.get tb=some (.cells true [v,.mp (some nm)])∧SlB h b 3 v (shC T) T.length
 nml:h.get nm=some (.mp (entS 0 T))
 l1:tb<h.next
 l2:nm<h.next
 ne:tb≠nm
 b1:b≠some tb
 b2:b≠some nm
 good:∀ s∈T,goodB s=true
 nd:T.Nodup
 len:T.length≤60000
theorem TbAt.same {h h':Heap}{tb nm:Nat}{b:Option Nat}{T:List Shp}{S:List Nat}(H:TbAt h tb nm b T)(s:Same S h h')(h1:tb∉S)(h2:nm∉S)(h3:∀ i,b=some i→i∉S):TbAt h' tb nm b T:=by
 obtain⟨v,hv,hs⟩:=H.tbl
 exact⟨⟨v,by rw [s.get _ H.l1 h1];exact hv,hs.same s h3⟩,by rw [s.get _ H.l2 h2];exact H.nml,Nat.lt_of_lt_of_le H.l1 s.next,Nat.lt_of_lt_of_le H.l2 s.next,H.ne,H.b1,H.b2,H.good,H.nd,H.len⟩
theorem number_new {h:Heap}{tb nm:Nat}{b:Option Nat}{T:List Shp}(H:TbAt h tb nm b T){s:Shp}(hs:s∉T)(hgd:goodB s=true)(hlen:T.length < 60000) :
  Ok (Bz (.ptr (some (tb,0))) (.agg s.row) h) fun r=>r.1 = .tup [.int .i64 (T.length:Int),.int .i64 0]∧Same (tb::nm::b.toList) h r.2∧∃ b',h.next≤b'∧TbAt r.2 tb nm (some b') (T ++ [s]):=by
 have bx:bxP (.agg s.row)=some (.cells true s.row,fun i=>.ptr (some (i,0))):=rfl
 have hgt:=new_get h (.cells true s.row)
 have sm:Same [] h (h.new (.cells true s.row)):=Same.new _ _
 have hlt:h.next<(h.new (.cells true s.row)).next:=Nat.lt_succ_self _
 refine Ok.eq ?_ (by simp -implicitDefEqProofs only [Bz,bx,mk_some,ldA_row hgt,Option.bind_some]<;>rfl)
 refine ok_cl (good_ok s _) ?_
 rintro _ g1 ⟨rfl,s1⟩
 simp only at s1
 have hg1:=(s1.get _ hlt (by simp)).trans hgt
 have sm1:=sm.trans s1
 have H1:=H.same sm1 (by simp) (by simp) (fun i _=>by simp)
 have hl1:=H.l1
 have hl2:=H.l2
 obtain⟨v,hv,hsl⟩:=H1.tbl
 have lt1:ldS g1 (.ptr (some (tb,0+1)))=some (.mp (some nm)):=by rw [ldS_at hv];rfl
 have lt0:ldS g1 (.ptr (some (tb,0+0)))=some v:=by rw [ldS_at hv];rfl
 have lk:lkP (fdS keyL) (AV.int .i64 0) true g1 (.mp (some nm)) (.agg s.row)=some (.tup [.int .i64 0,.bool false]):=by
  simp only [lkP,H1.nml,fdS,key_row,if_true,find_no hs,Option.bind_some]
 have kl:([(0,(.int .i64)),(1,(.int .i64)),(2,(.int .u64))]:List (Nat × TypeDesc))=keyL:=rfl
 have n65 : ¬ (T.length:Int)=65536:=by omega
 have mu:muP (ptS keyL) g1 (.mp (some nm)) (.agg s.row) (.int .i64 (T.length:Int))=some (.bot,g1.put nm (some (.mp (entS 0 (T ++ [s]))))):=by
  have:=put_no (i:=0) hs
  rw [Nat.zero_add] at this
  simp only [muP,H1.nml,ptS,key_row,if_true,this,Option.map_some]
 have hn1:g1.next≤g1.next:=Nat.le_refl _
 have s2:Same [nm] g1 (g1.put nm (some (.mp (entS 0 (T ++ [s]))))):=Same.put _ _ _
 have hnx:(g1.put nm (some (.mp (entS 0 (T ++ [s]))))).next=g1.next:=rfl
 have hnm:(g1.put nm (some (.mp (entS 0 (T ++ [s]))))).get nm=some (.mp (entS 0 (T ++ [s]))):=get_put_eq
 have hlt1:h.next<g1.next:=Nat.lt_of_lt_of_le hlt s1.next
 refine Ok.eq ?_ (by simp -implicitDefEqProofs only [hgd,un_not,Bool.not_true,Option.bind_some,condE_false,nilV_ptr,faP_ptr,lt1,ldA_row hg1,kl,lk,extractV_tup,e0,e1,chk_nil,lt0,hsl.lnL,eql_int,n65,decide_false,mu,cl_some]<;>rfl)
 generalize g1.put nm (some (.mp (entS 0 (T ++ [s]))))=g2 at *
 have n3:(hpN g2 1).next=g2.next+1:=rfl
 have s3:Same [] g2 (hpN g2 1):=⟨Nat.le_succ _,fun _ _ _=>rfl⟩
 have v2:g2.get tb=some (.cells true [v,.mp (some nm)]):=(s2.get _ (by omega) (by simp [H.ne])).trans hv
 have lt0':ldS (hpN g2 1) (.ptr (some (tb,0+0)))=some v:=by rw [ldS_at (show(hpN g2 1).get tb=_ from v2)];rfl
 have hg2:(hpN g2 1).get h.next=some (.cells true s.row):=(s2.get _ hlt1 (by simp;omega)).trans hg1
 have bs1:bsP 3 [(AV.int .i64 0),(AV.int .i64 0),(AV.int .u64 0)] 1 [(0,.agg s.row)]=some (.cells true s.row,fun i=>.sl (some (i,0)) 1 (.ex 1)):=bsP_one (t:=.agg s.row) rfl rfl rfl
 have ma:mkAt Heap.put (bsP 3 [(AV.int .i64 0),(AV.int .i64 0),(AV.int .u64 0)] 1 [(0,.agg s.row)]) (g2.next+0) (hpN g2 1)=some (.sl (some (g2.next,0)) 1 (.ex 1),(hpN g2 1).put g2.next (some (.cells true s.row))):=by
  rw [bs1];rfl
 refine Ok.eq ?_ (by simp -implicitDefEqProofs only [lt0',ldA_row hg2,Option.bind_some,ma,cl_some]<;>rfl)
 have s4:Same [g2.next] (hpN g2 1) ((hpN g2 1).put g2.next (some (.cells true s.row))):=Same.put _ _ _
 have p4:((hpN g2 1).put g2.next (some (.cells true s.row))).get g2.next=some (.cells true s.row):=get_put_eq
 have n4:((hpN g2 1).put g2.next (some (.cells true s.row))).next=g2.next+1:=rfl
 generalize (hpN g2 1).put g2.next (some (.cells true s.row))=g3 at *
 have hs2:=((hsl.same s2 (fun i hi=>by simp;intro e;exact H.b2 (e ▸ hi))).same s3 (fun i _=>by simp)).same s4 (fun i hi=>by
  simp
  have:=(hsl.blk i hi).1
  omega)
 obtain⟨v',g4,ha,hs4,sb,n5⟩:=appAt (bytes:=24) hs2 p4 rfl rfl (by decide) (by omega)
 have v3:g3.get tb=some (.cells true [v,.mp (some nm)]):=(s4.get _ (by rw [n3];omega) (by simp;omega)).trans v2
 have v4:g4.get tb=some (.cells true [v,.mp (some nm)]):=(sb.get _ (by omega) (by
  cases b with
  | none=>simp
  | some i=>simp;intro e;exact H.b1 (e ▸ rfl))).trans v3
 have sc':scalar v'=true:=hs4.scv
 have st:stP 1 g4 (.ptr (some (tb,0+0))) v'=some (.bot,g4.put tb (some (.cells true [v',.mp (some nm)]))):=stP_one v4 (by simp) sc'
 have s5:Same [tb] g4 (g4.put tb (some (.cells true [v',.mp (some nm)]))):=Same.put _ _ _
 have p5:(g4.put tb (some (.cells true [v',.mp (some nm)]))).get tb=some (.cells true [v',.mp (some nm)]):=get_put_eq
 have n6:(g4.put tb (some (.cells true [v',.mp (some nm)]))).next=g4.next:=rfl
 refine Ok.eq ?_ (by simp -implicitDefEqProofs only [ha,cl_some,nilV_ptr,Option.bind_some,faP_ptr,st]<;>rfl)
 generalize g4.put tb (some (.cells true [v',.mp (some nm)]))=g5 at *
 have l5:ldS g5 (.ptr (some (tb,0+0)))=some v':=by rw [ldS_at p5];rfl
 have hs5:=hs4.same s5 (fun i hi=>by cases hi;simp;omega)
 have hw:IntKind.i64.wrap (((T.length+1:Nat):Int) - 1)=(T.length:Int):=by rw [wrap_i64 (by omega) (by omega)];omega
 have hbt:∀ x,x∈b.toList→x<h.next:=fun x hx=>by
  cases b with
  | none=>simp at hx
  | some i=>
   simp at hx;subst hx
   obtain⟨w,_,hw⟩:=H.tbl
   exact(hw.blk x rfl).1
 have hnb:nm∉b.toList:=by
  cases b with
  | none=>simp
  | some i=>simp;intro e;exact H.b2 (e ▸ rfl)
 refine ok_val (by simp -implicitDefEqProofs only [chk_nil,nilV_ptr,Option.bind_some,faP_ptr,l5,hs5.lnL,bin_sub,hw]<;>rfl) ⟨rfl,?_,g3.next,by omega,?_⟩
 ·refine⟨by show h.next≤g5.next;omega,fun j hj hn=>?_⟩
  simp only [List.mem_cons,not_or] at hn
  rw [s5.get _ (by omega) (by simp;exact hn.1),sb.get _ (by omega) hn.2.2,s4.get _ (by omega) (by simp;omega),s3.get _ (by omega) (by simp),s2.get _ (by omega) (by simp;exact hn.2.1),sm1.get _ hj (by simp)]
 ·refine⟨⟨v',p5,by rw [shC_app,show shC [s]=s.row by simp [shC],List.length_append];exact hs5⟩,?_,by show tb<g5.next;omega,by show nm<g5.next;omega,H.ne,?_,?_,?_,?_,by simp;omega⟩
  ·rw [s5.get _ (by omega) (by simp [H.ne.symm]),sb.get _ (by omega) hnb,s4.get _ (by omega) (by simp;omega),s3.get _ (by omega) (by simp)];exact hnm
  ·intro e;cases e;omega
  ·intro e;cases e;omega
  ·intro t ht
   rw [List.mem_append,List.mem_singleton] at ht
   rcases ht with ht | rfl
   ·exact H.good t ht
   ·exact hgd
  ·rw [List.nodup_append]
   exact⟨H.nd,by simp,fun a ha b hb e=>by simp at hb;subst hb;subst e;exact hs ha⟩
def shapeV (T:List Shp)(n:Int):AV:=if n < 0 then .tup [.agg (⟨0,0,0⟩:Shp).row,.int .i64 4] else match T[n.toNat]? with
 | some s=>.tup [.agg s.row,.int .i64 0]
 | none=>.tup [.agg (⟨0,0,0⟩:Shp).row,.int .i64 4]
theorem shape_ok {h:Heap}{tb nm:Nat}{b:Option Nat}{T:List Shp}(H:TbAt h tb nm b T)(n:Int) :
  Ok (An (.ptr (some (tb,0))) (.int .i64 n) h) fun r=>r.1=shapeV T n∧Same [] h r.2:=by
 have z3:([AV.int .i64 0,.int .i64 0,.int .u64 0]:List AV)=(⟨0,0,0⟩:Shp).row:=rfl
 have bz:bldS [(0,1),(1,1),(2,1)] (⟨0,0,0⟩:Shp).row []=some (.agg (⟨0,0,0⟩:Shp).row):=rfl
 have g0:=new_get h (.cells true (⟨0,0,0⟩:Shp).row)
 have s0:Same [] h (h.new (.cells true (⟨0,0,0⟩:Shp).row)):=Same.new _ _
 have H0:=H.same s0 (by simp) (by simp) (fun i _=>by simp)
 obtain⟨v,hv,hsl⟩:=H0.tbl
 have fin:∀ (x:List AV),Same [] h ((h.new (.cells true (⟨0,0,0⟩:Shp).row)).put h.next (some (.cells true x))):=fun x=>s0.old (Same.put _ _ _) (fun j hj=>by simp at hj;right;omega)
 have st:∀ s:Shp,stP 3 (h.new (.cells true (⟨0,0,0⟩:Shp).row)) (.ptr (some (h.next,0))) (.agg s.row)=some (.bot,(h.new (.cells true (⟨0,0,0⟩:Shp).row)).put h.next (some (.cells true s.row))):=fun s=>stP_all g0 rfl rfl rfl
 have lt0:ldS (h.new (.cells true (⟨0,0,0⟩:Shp).row)) (.ptr (some (tb,0+0)))=some v:=by rw [ldS_at hv];rfl
 by_cases h1:n < 0
 ·have hsv:shapeV T n = .tup [.agg (⟨0,0,0⟩:Shp).row,.int .i64 4]:=by unfold shapeV;rw [if_pos h1]
  exact ok_val (by simp -implicitDefEqProofs only [An,z3,mk_some,bin_lss,h1,decide_true,Option.bind_some,gdW_tf,gQ_false,pickP_bool,if_true,condE_true,bz,st,cl_some,ldA_row (get_put_eq (h:=h.new _))]<;>rfl) ⟨hsv.symm,fin _⟩
 ·by_cases h2:(T.length:Int)≤n
  ·have hsv:shapeV T n = .tup [.agg (⟨0,0,0⟩:Shp).row,.int .i64 4]:=by unfold shapeV;rw [if_neg h1,List.getElem?_eq_none (by omega)]
   exact ok_val (by simp -implicitDefEqProofs only [An,z3,mk_some,bin_lss,h1,decide_false,Option.bind_some,gdW_ff,gQ_true,cl_some,nilV_ptr,faP_ptr,lt0,hsl.lnL,bin_geq,h2,decide_true,pickP_bool,Bool.false_eq_true,if_false,condE_true,bz,st,ldA_row (get_put_eq (h:=h.new _))]<;>rfl) ⟨hsv.symm,fin _⟩
  ·obtain⟨m,rfl⟩:∃ m:Nat,n=(m:Int):=⟨n.toNat,by omega⟩
   have hm:m<T.length:=by omega
   obtain⟨s,hs⟩:∃ s,T[m]?=some s:=⟨_,List.getElem?_eq_getElem hm⟩
   have hsv:shapeV T (m:Int) = .tup [.agg s.row,.int .i64 0]:=by unfold shapeV;rw [if_neg h1,Int.toNat_natCast,hs]
   obtain⟨j,hj,hix⟩:=hsl.ix hm
   have la:ldA 3 (h.new (.cells true (⟨0,0,0⟩:Shp).row)) (.ptr (some (j,m * 3)))=some (.agg s.row):=by
    rw [ldA_at (hsl.blk j hj).2.1,shC_at hs];rfl
   exact ok_val (by simp -implicitDefEqProofs only [An,z3,mk_some,bin_lss,h1,decide_false,Option.bind_some,gdW_ff,gQ_true,cl_some,nilV_ptr,faP_ptr,lt0,hsl.lnL,bin_geq,h2,pickP_bool,Bool.false_eq_true,if_false,condE_false,hix,la,st,ldA_row (get_put_eq (h:=h.new _))]<;>rfl) ⟨hsv.symm,fin _⟩
set_option linter.all false
attribute [local congr] c_bind c_cl c_mk c_lp c_clC c_gQ c_gV c_condE c_thenK
structure QuV (g:Heap)(base:Nat)(b:Option Nat)(v:AV)(L:List Int):Prop where
 nil:b=none→v = .sl none 0 (.ex 0)∧L = []
 blk:∀ i,b=some i→base≤i∧i<g.next∧∃ pre:List AV,g.get i=some (.cells true (pre++wsC L))∧v = .sl (some (i,pre.length)) L.length (.un 1)
theorem QuV.lnL {g:Heap}{base:Nat}{b:Option Nat}{v:AV}{L:List Int}(H:QuV g base b v L):Go.Ab.lnL v=some (.int .i64 L.length):=by
 cases b with
 | none=>obtain⟨rfl,rfl⟩:=H.nil rfl;rfl
 | some i=>obtain⟨_,_,pre,_,rfl⟩:=H.blk i rfl;simp
theorem QuV.sc {g:Heap}{base:Nat}{b:Option Nat}{v:AV}{L:List Int}(H:QuV g base b v L):scalar v=true:=by
 cases b with
 | none=>obtain⟨rfl,rfl⟩:=H.nil rfl;rfl
 | some i=>obtain⟨_,_,pre,_,rfl⟩:=H.blk i rfl;rfl
theorem QuV.samev {g:Heap}{base:Nat}{b:Option Nat}{v:AV}{L:List Int}(H:QuV g base b v L):same v v=true:=by
 cases b with
 | none=>obtain⟨rfl,rfl⟩:=H.nil rfl;rfl
 | some i=>obtain⟨_,_,pre,_,rfl⟩:=H.blk i rfl;exact same_sl _ _ _
theorem QuV.mt {g:Heap}{base:Nat}:QuV g base none (.sl none 0 (.ex 0)) []:=⟨fun _=>⟨rfl,rfl⟩,fun i h=>by cases h⟩
theorem QuV.keep {g g':Heap}{base:Nat}{b:Option Nat}{v:AV}{L:List Int}{S:List Nat}(H:QuV g base b v L)(s:Same S g g')(hb:∀ i,b=some i→i∉S):QuV g' base b v L:=
 ⟨H.nil,fun i hi=>by
  obtain⟨h1,h2,pre,h3,h4⟩:=H.blk i hi
  exact⟨h1,Nat.lt_of_lt_of_le h2 s.next,pre,(s.get i h2 (hb i hi)).trans h3,h4⟩⟩
theorem wsC_app (a b:List Int):wsC (a++b)=wsC a++wsC b:=by simp [wsC]
theorem wsC_len (a:List Int):(wsC a).length=a.length:=by simp [wsC]
theorem QuV.tail {g:Heap}{base:Nat}{b:Option Nat}{v:AV}{x:Int}{L:List Int}(H:QuV g base b v (x::L)) :
  ∃ i o,b=some i∧v = .sl (some (i,o)) (L.length+1) (.un 1)∧ldS g (.ptr (some (i,o)))=some (.int .i64 x)∧∃ v',slcP 1 v (some (.int .i64 1)) none none=some v'∧QuV g base b v' L:=by
 cases b with
 | none=>obtain⟨_,h⟩:=H.nil rfl;cases h
 | some i=>
  obtain⟨b1,b2,pre,b3,rfl⟩:=H.blk i rfl
  refine⟨i,pre.length,rfl,rfl,?_,.sl (some (i,pre.length+1)) L.length (.un 1),?_,⟨(fun h=>by cases h),fun j hj=>?_⟩⟩
  ·rw [ldS_at b3,List.getElem?_append_right (Nat.le_refl _),Nat.sub_self];rfl
  ·have e:(x::L).length=L.length+1:=rfl
   rw [e]
   simp only [slcP,sliceUn,highA,lowA,boundA,ne_eq,not_true_eq_false,if_false,Option.bind_some]
   rw [if_pos ⟨by omega,by omega⟩]
   simp [addA]
  ·cases hj
   exact⟨b1,b2,pre ++ [.int .i64 x],by rw [b3,List.append_assoc];rfl,by simp⟩
def upd {α:Type}(f:Nat→α)(k:Nat)(x:α):Nat→α:=fun i=>if i=k then x else f i
theorem upd_eq {α:Type}(f:Nat→α)(k:Nat)(x:α):upd f k x k=x:=by unfold upd;rw [if_pos rfl]
theorem upd_ne {α:Type}(f:Nat→α){k i:Nat}(x:α)(h:i≠k):upd f k x i=f i:=by unfold upd;rw [if_neg h]
theorem and_mask (n:Int)(k:Nat)(hk:k≤32):binP .and (.int .i64 n) (.int .i64 (((2 ^ k - 1:Nat)):Int))=some (.int .i64 (n % ((2 ^ k:Nat):Int))):=by
 rw [bin_int _ (by decide) (by decide)]
 have h2:2 ^ k≤2 ^ 32:=Nat.pow_le_pow_right (by decide) hk
 have h1:=Nat.two_pow_pos k
 have e:intBin .and .i64 n ((2 ^ k - 1:Nat):Int)=some (.int .i64 (IntKind.i64.wrap (BitVec.ofInt 64 n &&& BitVec.ofInt 64 ((2 ^ k - 1:Nat):Int)).toNat)):=rfl
 have e7:(BitVec.ofInt 64 ((2 ^ k - 1:Nat):Int)).toNat=2 ^ k - 1:=by
  rw [BitVec.ofInt_natCast,BitVec.toNat_ofNat];exact Nat.mod_eq_of_lt (by omega)
 have h:(BitVec.ofInt 64 n &&& BitVec.ofInt 64 ((2 ^ k - 1:Nat):Int)).toNat=(n % ((2 ^ k:Nat):Int)).toNat:=by
  rw [BitVec.toNat_and,e7,Nat.and_two_pow_sub_one_eq_mod,BitVec.toNat_ofInt]
  have hd:((2 ^ k:Nat):Int) ∣ ((2 ^ 64:Nat):Int):=by
   rw [Int.natCast_dvd_natCast];exact Nat.pow_dvd_pow 2 (by omega)
  have hm:=Int.emod_emod_of_dvd n hd
  have h0:=Int.emod_nonneg n (show((2 ^ 64:Nat):Int)≠0 by decide)
  rw [← hm,Int.toNat_emod h0 (by omega),Int.toNat_natCast]
 have h0:=Int.emod_nonneg n (show((2 ^ k:Nat):Int)≠0 by omega)
 have h3:=Int.emod_lt_of_pos n (show 0<((2 ^ k:Nat):Int) by omega)
 rw [e,h,wrap_i64 (by omega) (by omega)]
 congr 2;omega
theorem find_zero {a:PAr}(H:Wf a):a.find 0=none:=by
 cases h:a.find 0 with
 | none=>rfl
 | some x=>
  obtain⟨n,q⟩:=x
  obtain⟨h1,h2⟩:=find_en h
  have:=placed_rm H h2
  rw [h1] at this;omega
set_option linter.all false
attribute [local congr] c_bind c_cl c_mk c_lp c_clC c_gQ c_gV c_condE c_thenK
def flt {α:Type}(row:α→List AV)(l:List α):List AV:=(l.map row).flatten
section
variable {α:Type}{row:α→List AV}{k:Nat}(hk:∀ a,(row a).length=k)
include hk
theorem flt_len (l:List α):(flt row l).length=l.length*k:=by
 induction l with
 | nil=>simp [flt]
 | cons a l ih=>rw [show flt row (a::l)=row a++flt row l from rfl,List.length_append,ih,hk,List.length_cons,Nat.succ_mul];omega
theorem flt_at {l:List α}{i:Nat}{a:α}(h:l[i]?=some a):span (flt row l) (i*k) k=some (row a):=by
 unfold flt
 exact span_flat (l:=l.map row) (fun r hr=>by rw [List.mem_map] at hr;obtain⟨x,_,rfl⟩:=hr;exact hk x) i (row a) (by rw [List.getElem?_map,h];rfl)
theorem flt_cell {l:List α}{i j:Nat}{a:α}{x:AV}(h:l[i]?=some a)(hj:(row a)[j]?=some x):(flt row l)[i*k+j]?=some x:=by
 have hs:=flt_at hk h
 have hl:=span_le hs
 rw [span_some _ _ _ hl] at hs
 have hs:=Option.some.inj hs
 rw [← hs,List.getElem?_take] at hj
 split at hj
 ·rw [List.getElem?_drop] at hj;exact hj
 ·cases hj
theorem flt_set {l:List α}{i j:Nat}{a b:α}{x:AV}(h:l[i]?=some a)(hj:j<k)(hb:(row a).set j x=row b):(flt row l).set (i*k+j) x=flt row (l.set i b):=by
 apply List.ext_getElem?
 intro m
 have hil:=(List.getElem?_eq_some_iff.1 h).1
 have e1:=flt_len hk l
 have e2:=flt_len hk (l.set i b)
 rw [List.length_set] at e2
 have hik:i*k+k≤l.length*k:=by
  have:=Nat.mul_le_mul_right k (show i+1≤l.length by omega)
  rw [Nat.succ_mul] at this;omega
 by_cases hm:m<l.length*k
 ·have hk0:0<k:=by omega
  have hq:m / k<l.length:=Nat.div_lt_of_lt_mul (by rw [Nat.mul_comm];exact hm)
  have hr:m % k<k:=Nat.mod_lt _ hk0
  have hmm:m=(m / k)*k+m % k:=by rw [Nat.mul_comm];exact(Nat.div_add_mod m k).symm
  obtain⟨c,hc⟩:∃ c,l[m / k]?=some c:=⟨_,List.getElem?_eq_getElem hq⟩
  obtain⟨y,hy⟩:∃ y,(row c)[m % k]?=some y:=⟨_,List.getElem?_eq_getElem (by rw [hk];exact hr)⟩
  by_cases e:m / k=i
  ·have hci:c=a:=by rw [e,h] at hc;exact(Option.some.inj hc).symm
   subst hci
   have hset:(l.set i b)[i]?=some b:=List.getElem?_set_self hil
   by_cases ej:m % k=j
   ·have:m=i*k+j:=by rw [hmm,e,ej]
    subst this
    rw [List.getElem?_set_self (by rw [e1];exact hm)]
    have hb2:(row b)[j]?=some x:=by rw [← hb,List.getElem?_set_self (by rw [hk];exact hj)]
    rw [flt_cell hk hset hb2]
   ·rw [List.getElem?_set_ne (by intro e';apply ej;rw [← e',Nat.mul_comm,Nat.mul_add_mod];exact Nat.mod_eq_of_lt hj)]
    have hb2:(row b)[m % k]?=some y:=by rw [← hb,List.getElem?_set_ne (fun e'=>ej e'.symm)];exact hy
    have a1:=flt_cell hk h hy
    have a2:=flt_cell hk hset hb2
    have hm':i*k+m % k=m:=by rw [← e];exact hmm.symm
    rw [hm'] at a1 a2
    rw [a1,a2]
  ·rw [List.getElem?_set_ne (by
    intro e'
    apply e
    rw [← e',Nat.mul_comm,Nat.mul_add_div hk0,Nat.div_eq_of_lt hj,Nat.add_zero])]
   have hset:(l.set i b)[m / k]?=some c:=by rw [List.getElem?_set_ne (fun e'=>e e'.symm)];exact hc
   have a1:=flt_cell hk hc hy
   have a2:=flt_cell hk hset hy
   rw [← hmm] at a1 a2
   rw [a1,a2]
 ·rw [List.getElem?_eq_none (by rw [List.length_set,e1];omega),List.getElem?_eq_none (by rw [e2];omega)]
end
theorem flt_app {α:Type}(row:α→List AV)(a b:List α):flt row (a++b)=flt row a++flt row b:=by simp [flt]
def SlG (g:Heap)(b:Option Nat)(sz:Nat)(v:AV)(cs:List AV)(n:Nat):Prop:=
 SlB g b sz v cs n∨(∃ i,b=some i∧v = .sl (some (i,0)) 0 (.ex 0)∧cs = []∧n=0∧g.get i=some (.cells true [])∧i<g.next)
theorem appG {g:Heap}{b:Option Nat}{sz n m bytes:Nat}{q x:AV}{cs xs:List AV}(H:SlG g b sz q cs n)(hc:countA x=some m)(ha:addedA g sz x=some xs)(hl:xs.length=m*sz)(hs:xs.all scalar=true)(h0:0<sz)(hm:0<m)(hn:(n+m)*bytes≤2 ^ 47) :
  ∃ v' g',appendA g sz bytes q x=some (v',g')∧SlB g' (some g.next) sz v' (cs++xs) (n+m)∧Same b.toList g g'∧g'.next=g.next+1:=by
 have hms:0<m*sz:=Nat.mul_pos hm h0
 rcases H with H | ⟨i,rfl,rfl,rfl,rfl,hg,hlt⟩
 ·cases b with
  | none=>
   have e:q = .sl none 0 (.ex 0):=H.eq
   have hn0:=H.nil rfl
   subst hn0
   have hcs:cs = []:=by have:=H.len;simpa using this
   subst hcs
   refine⟨.sl (some (g.next,0)) m (.un sz),g.new (.cells true xs),?_,⟨by rw [List.nil_append,Nat.zero_add];exact hl,by rw [List.nil_append];exact hs,by rw [Nat.zero_add],(fun h=>by cases h),fun i hi=>?_⟩,Same.new _ _,rfl⟩
   ·rw [e]
    simp only [appendA,hc,ha,Option.bind_some]
    rw [if_neg (by omega),if_pos (by omega)]
    simp only [if_true,Option.bind_some,List.nil_append,hs,Nat.zero_add]
   ·cases hi
    exact⟨Nat.lt_succ_self _,by rw [List.nil_append];exact get_new_eq,by omega⟩
  | some i=>
   have e:q = .sl (some (i,0)) n (.un sz):=H.eq
   obtain⟨b1,b2,b3⟩:=H.blk i rfl
   have hlc:=H.len
   have hmul:(n+m)*sz=n*sz+m*sz:=Nat.add_mul ..
   refine⟨.sl (some (g.next,0)) (n+m) (.un sz),(g.put i none).new (.cells true (cs++xs)),?_,⟨by rw [List.length_append,hl,hlc,hmul],by rw [List.all_append,H.sc,hs];rfl,rfl,(fun h=>by cases h),fun j hj=>?_⟩,?_,rfl⟩
   ·rw [e]
    simp only [appendA,hc,ha,Option.bind_some,ne_eq,not_true_eq_false,if_false,b2]
    rw [if_neg (by omega),if_pos hn,if_neg (by omega),if_pos (by omega)]
    simp only [hs,if_true,List.drop_zero]
   ·cases hj
    exact⟨Nat.lt_succ_self _,by have:=get_new_eq (h:=g.put i none) (b:=.cells true (cs++xs));simpa using this,by omega⟩
   ·exact(Same.put _ _ _).sub (by simp) |>.trans ((Same.new _ _).sub (by simp))
 ·have hlo:loadN g (i,0) (0*sz)=some []:=by
   rw [Nat.zero_mul]
   simp only [loadN,hg,spanF_eq];rfl
  refine⟨.sl (some (g.next,0)) m (.un sz),g.new (.cells true xs),?_,⟨by rw [List.nil_append,Nat.zero_add];exact hl,by rw [List.nil_append];exact hs,by rw [Nat.zero_add],(fun h=>by cases h),fun j hj=>?_⟩,(Same.new _ _).sub (by simp),rfl⟩
  ·simp only [appendA,hc,ha,Option.bind_some]
   rw [if_neg (by omega),if_pos (by omega)]
   simp only [hlo,Option.bind_some,List.nil_append,hs,if_true,Nat.zero_add]
  ·cases hj
   exact⟨Nat.lt_succ_self _,by rw [List.nil_append];exact get_new_eq,by omega⟩
theorem appG0 {g:Heap}{b:Option Nat}{sz n bytes:Nat}{q x:AV}{cs:List AV}(H:SlG g b sz q cs n)(hc:countA x=some 0)(ha:addedA g sz x=some []) :
  ∃ g',appendA g sz bytes q x=some (q,g')∧SlG g' b sz q cs n∧Same [] g g'∧g'.next=g.next:=by
 rcases H with H | ⟨i,rfl,rfl,rfl,rfl,hg,hlt⟩
 ·cases b with
  | none=>
   have e:q = .sl none 0 (.ex 0):=H.eq
   refine⟨g,?_,.inl H,Same.refl _ _,rfl⟩
   rw [e];simp [appendA,hc,ha]
  | some i=>
   have e:q = .sl (some (i,0)) n (.un sz):=H.eq
   refine⟨g,?_,.inl H,Same.refl _ _,rfl⟩
   rw [e];simp [appendA,hc,ha]
 ·refine⟨g.put i (some (.cells true [])),?_,.inr ⟨i,rfl,rfl,rfl,rfl,get_put_eq,hlt⟩,⟨Nat.le_refl _,fun j _ _=>?_⟩,rfl⟩
  ·have:storeN g (i,0) []=some (g.put i (some (.cells true []))):=by
    simp only [storeN,hg,spliceF_eq];rfl
   simp [appendA,hc,ha,addA,this]
  ·by_cases e:j=i
   ·subst e;rw [get_put_eq,hg]
   ·rw [get_put_ne e]
structure Tm where
 ad:Int
 W:List Int
 mkd:Bool
 wb:Nat
def Tm.row (t:Tm):List AV:=[.int .i64 t.ad,.sl (some (t.wb,0)) t.W.length (.ex t.W.length),.bool t.mkd]
theorem tm_len (t:Tm):t.row.length=3:=rfl
def tmC (l:List Tm):List AV:=flt Tm.row l
theorem tmC_sc (l:List Tm):(tmC l).all scalar=true:=by
 induction l with
 | nil=>rfl
 | cons a l ih=>rw [show tmC (a::l)=a.row++tmC l from rfl,List.all_append,ih];rfl
structure R4At (g:Heap)(rp rc:Nat)(b:Option Nat)(cls:List Int)(L:List Tm)(X:List Nat):Prop where
 rpb:∃ v,g.get rp=some (.cells true [.sl (some (rc,0)) cls.length (.un 1),v])∧SlB g b 3 v (tmC L) L.length
 rcb:g.get rc=some (.cells true (wsC cls))
 wb:∀ t∈L,t.wb<g.next∧g.get t.wb=some (.cells true (wsC t.W))∧t.wb∉X∧t.wb≠rp∧t.wb≠rc∧b≠some t.wb∧t.wb≠0
 wd:(L.map Tm.wb).Nodup
 lp:rp<g.next
 lc:rc<g.next
 pc:rp≠rc
 xp:rp∉X
 xc:rc∉X
 xb:∀ i,b=some i→i∉X∧i≠rp∧i≠rc∧i≠0
 zp:rp≠0
 zc:rc≠0
 xl:∀ j∈X,j<g.next
 len:L.length≤100000
structure KpX (X:List Nat)(g g':Heap):Prop where
 next:g.next≤g'.next
 get:∀ j,j∈X→j<g.next→g'.get j=g.get j
theorem KpX.trans {X:List Nat}{g g' g'':Heap}(a:KpX X g g')(b:KpX X g' g''):KpX X g g'':=
 ⟨Nat.le_trans a.next b.next,fun j hj hl=>(b.get j hj (Nat.lt_of_lt_of_le hl a.next)).trans (a.get j hj hl)⟩
theorem KpX.of {X S:List Nat}{g g':Heap}(s:Same S g g')(h:∀ j∈S,j∉X):KpX X g g':=⟨s.next,fun j hj hl=>s.get j hl fun hm=>h j hm hj⟩
section
variable {g:Heap}{rp rc:Nat}{b:Option Nat}{cls:List Int}{L:List Tm}{X:List Nat}
theorem R4At.keep {g' : Heap} {S : List Nat} (H : R4At g rp rc b cls L X) (s : Same S g g') (hS : ∀ j ∈ S, j ∈ X) : R4At g' rp rc b cls L X := by
  obtain ⟨v, hv, hs⟩ := H.rpb
  exact { H with
    rpb := ⟨v, (s.get _ H.lp (fun h => H.xp (hS _ h))).trans hv, hs.same s (fun i hi h => (H.xb i hi).1 (hS _ h))⟩
    rcb := (s.get _ H.lc (fun h => H.xc (hS _ h))).trans H.rcb
    wb := fun t ht => by
      obtain ⟨h1, h2, h3⟩ := H.wb t ht
      exact ⟨Nat.lt_of_lt_of_le h1 s.next, (s.get _ h1 (fun h => h3.1 (hS _ h))).trans h2, h3⟩
    lp := Nat.lt_of_lt_of_le H.lp s.next
    lc := Nat.lt_of_lt_of_le H.lc s.next
    xl := fun j hj => Nat.lt_of_lt_of_le (H.xl j hj) s.next }
theorem R4At.ldc (H:R4At g rp rc b cls L X):ldS g (.ptr (some (rp,0)))=some (.sl (some (rc,0)) cls.length (.un 1)):=by
 obtain⟨v,hv,_⟩:=H.rpb
 rw [ldS_at hv];rfl
theorem R4At.cl (H:R4At g rp rc b cls L X){n:Nat}{c:Int}(hn:cls[n]?=some c):(∀ k,iaS 1 (.sl (some (rc,0)) cls.length (.un 1)) (.int k (n:Int))=some (.ptr (some (rc,n))))∧ldS g (.ptr (some (rc,n)))=some (.int .i64 c):=by
 have hl:=(List.getElem?_eq_some_iff.1 hn).1
 refine⟨fun k=>by rw [iaS_sl 1 (rc,0) _ _ k _ ⟨by omega,by omega⟩];simp,?_⟩
 rw [ldS_at H.rcb]
 simp [wsC,hn]
theorem R4At.ls (H:R4At g rp rc b cls L X):∃ v,(∀ {g':Heap},Same [] g g'→ldS g' (.ptr (some (rp,1)))=some v)∧lnL v=some (.int .i64 L.length)∧SlB g b 3 v (tmC L) L.length∧g.get rp=some (.cells true [.sl (some (rc,0)) cls.length (.un 1),v])∧
  ∀ (i:Nat) t,L[i]?=some t→∃ bb,b=some bb∧(∀ k,iaS 3 v (.int k (i:Int))=some (.ptr (some (bb,i * 3))))∧∀ {g':Heap},Same [] g g'→ldA 3 g' (.ptr (some (bb,i * 3)))=some (.agg t.row)∧∀ (j:Nat) x,t.row[j]?=some x→ldS g' (.ptr (some (bb,i * 3+j)))=some x:=by
 obtain⟨v,hv,hs⟩:=H.rpb
 refine⟨v,fun {g'} s=>by rw [ldS_at ((s.get _ H.lp (by simp)).trans hv)];rfl,hs.lnL,hs,hv,fun i t ht=>?_⟩
 have hi:=(List.getElem?_eq_some_iff.1 ht).1
 obtain⟨bb,hb,hix⟩:=hs.ix hi
 refine⟨bb,hb,hix,fun {g'} s=>?_⟩
 have hg:=(hs.same s (fun _ _=>by simp)).blk bb hb
 exact⟨by rw [ldA_at hg.2.1];unfold tmC;rw [flt_at tm_len ht];rfl,fun j x hx=>by rw [ldS_at hg.2.1];unfold tmC;rw [flt_cell tm_len ht hx]⟩
def findIx (ad:Int):List Tm→Nat→Option Nat
 | [],_=>none
 | t::l,n=>if t.ad=ad then some n else findIx ad l (n+1)
theorem findIx_at {ad:Int}:∀ {l:List Tm} {n m:Nat},findIx ad l n=some m→∃ t,n≤m∧l[m-n]?=some t∧t.ad=ad
 | [],n,m,h=>by cases h
 | t::l,n,m,h=>by
  rw [findIx] at h
  split at h
  ·rename_i e;cases h;exact⟨t,Nat.le_refl _,by simp,e⟩
  ·obtain⟨u,h1,h2,h3⟩:=findIx_at h
   refine⟨u,by omega,?_,h3⟩
   rw [show m-n=(m-(n+1))+1 by omega,List.getElem?_cons_succ];exact h2
theorem findIx_no {ad:Int}:∀ {l:List Tm} {n:Nat},findIx ad l n=none→∀ t∈l,t.ad≠ad
 | [],n,h,t,ht=>by simp at ht
 | u::l,n,h,t,ht=>by
  rw [findIx] at h
  split at h
  ·cases h
  ·rename_i e
   rw [List.mem_cons] at ht
   rcases ht with rfl | ht
   ·exact e
   ·exact findIx_no h t ht
def ixV:Option Nat→AV
 | some n=>.int .i64 (n:Int)
 | none=>.int .i64 (-1)
theorem rfind_ok (H:R4At g rp rc b cls L X)(ad:Int):Ok (A4 (.ptr (some (rp,0))) (.int .i64 ad) g) fun r=>r=(ixV (findIx ad L 0),g):=by
 have hlen:=H.len
 obtain⟨v,lv,hln,_,_,hrow⟩:=H.ls
 have lv0:=lv (Same.refl [] g)
 have lp0:Ok (Dk (.ptr (some (rp,0))) (.int .i64 ad) (.int .i64 0) (.int .i64 0) g) fun r=>r.2.2=g∧match findIx ad L 0 with | some n=>r.1 = .ret∧r.2.1.getD 0 .bot = .int .i64 (n:Int) | none=>r.1 = .exit 0:=by
  refine ok_loop (fun m vs g'=>∃ n:Nat,vs = [.int .i64 0,.int .i64 n]∧m+n=L.length∧g'=g∧findIx ad L 0=findIx ad (L.drop n) n) ?_ (n:=L.length) (by omega) ⟨0,rfl,rfl,rfl,rfl⟩
  rintro m vs g' ⟨n,rfl,hm,hgg,he⟩
  subst hgg
  rw [gd0,gd1]
  by_cases hn:n<L.length
  ·have hlt:(n:Int)<L.length:=by omega
   obtain⟨t,ht⟩:∃ t,L[n]?=some t:=⟨_,List.getElem?_eq_getElem hn⟩
   obtain⟨bb,_,hix,hld⟩:=hrow n t ht
   have ld:=(hld (Same.refl [] g')).2 0 _ rfl
   rw [Nat.add_zero] at ld
   have hd:L.drop n=t::L.drop (n+1):=by
    rw [List.drop_eq_getElem_cons hn]
    congr 1
    rw [List.getElem?_eq_getElem hn] at ht;exact Option.some.inj ht
   rw [hd,findIx] at he
   by_cases e:t.ad=ad
   ·have de:decide (t.ad=ad)=true:=by simp [e]
    refine(Ok.of (r:=(.ret,[.int .i64 (n:Int),.int .i64 (n:Int)],g')) (.inr ⟨by simp,rfl,?_⟩)).eq (by
     simp -implicitDefEqProofs only [CJ,nilV_ptr,Option.bind_some,faP_ptr,Nat.zero_add,lv0,hln,bin_lss,hlt,decide_true,condE_true,hix,Nat.add_zero,ld,eql_int,de])
    rw [he,if_pos e];exact⟨rfl,rfl⟩
   ·have de:decide (t.ad=ad)=false:=by simp [e]
    refine(Ok.of (r:=(.normal,[.int .i64 0,.int .i64 ((n+1:Nat):Int)],g')) (.inl ⟨rfl,m - 1,by omega,n+1,rfl,by omega,rfl,?_⟩)).eq (by
     simp -implicitDefEqProofs only [CJ,nilV_ptr,Option.bind_some,faP_ptr,Nat.zero_add,lv0,hln,bin_lss,hlt,decide_true,condE_true,hix,Nat.add_zero,ld,eql_int,de,condE_false,bin_add,suc64 n (by omega)])
    rw [he,if_neg e]
  ·have hlt : ¬ (n:Int)<L.length:=by omega
   refine(Ok.of (r:=(.exit 0,[.int .i64 0,.int .i64 (n:Int)],g')) (.inr ⟨by simp,rfl,?_⟩)).eq (by
    simp -implicitDefEqProofs only [CJ,nilV_ptr,Option.bind_some,faP_ptr,Nat.zero_add,lv0,hln,bin_lss,hlt,decide_false,condE_false])
   rw [he,List.drop_of_length_le (by omega)];exact rfl
 refine Ok.eq ?_ (by unfold A4;rfl)
 refine ok_lp lp0 ?_
 rintro e vs _ ⟨rfl,hr⟩
 cases hf:findIx ad L 0 with
 | none=>
  rw [hf] at hr
  obtain rfl:=hr
  exact ok_val (by simp -implicitDefEqProofs only [if_true,thenK_normal]<;>rfl) rfl
 | some n=>
  rw [hf] at hr
  obtain⟨rfl,hv⟩:=hr
  simp only at hv
  exact ok_val (v:=.int .i64 (n:Int)) (by rw [← hv];rfl) rfl
theorem R4At.mark (H : R4At g rp rc b cls L X) {i : Nat} {t : Tm} (ht : L[i]? = some t) (m : Bool) : ∃ bb g', b = some bb ∧ stP 1 g (.ptr (some (bb, i * 3 + 2))) (.bool m) = some (.bot, g') ∧ R4At g' rp rc b cls (L.set i { t with mkd := m }) X ∧ KpX X g g' ∧ Same [bb] g g' := by
  obtain ⟨v, hv, hs⟩ := H.rpb
  have hi := (List.getElem?_eq_some_iff.1 ht).1
  obtain ⟨bb, hb, hix⟩ := hs.ix hi
  obtain ⟨b1, b2, b3⟩ := hs.blk bb hb
  obtain ⟨x1, x2, x3, x4⟩ := H.xb bb hb
  have hset : (tmC L).set (i * 3 + 2) (.bool m) = tmC (L.set i { t with mkd := m }) := flt_set tm_len ht (by decide) rfl
  have hlen : (tmC L).length = L.length * 3 := flt_len tm_len L
  have st : stP 1 g (.ptr (some (bb, i * 3 + 2))) (.bool m) = some (.bot, g.put bb (some (.cells true (tmC (L.set i { t with mkd := m }))))) := by
    rw [stP_one b2 (by rw [hlen]; omega) rfl, hset]
  have s : Same [bb] g (g.put bb (some (.cells true (tmC (L.set i { t with mkd := m }))))) := Same.put _ _ _
  refine ⟨bb, _, hb, st, ?_, KpX.of s (fun j hj => by simp at hj; subst hj; exact x1), s⟩
  have mem : ∀ u, u ∈ L.set i { t with mkd := m } → ∃ u', u' ∈ L ∧ u'.wb = u.wb ∧ u'.W = u.W := fun u hu => by
    rcases List.mem_or_eq_of_mem_set hu with h | h
    · exact ⟨u, h, rfl, rfl⟩
    · subst h; exact ⟨t, List.mem_of_getElem? ht, rfl, rfl⟩
  exact
  { rpb := ⟨v, (s.get _ H.lp (by simp; exact fun e => x2 e.symm)).trans hv, by
      rw [List.length_set]
      exact ⟨by rw [show (tmC (L.set i { t with mkd := m })).length = _ from flt_len tm_len _, List.length_set], tmC_sc _, hs.eq, hs.nil, fun j hj => by
        rw [hb] at hj; cases hj
        exact ⟨b1, get_put_eq, b3⟩⟩⟩
    rcb := (s.get _ H.lc (by simp; exact fun e => x3 e.symm)).trans H.rcb
    wb := fun u hu => by
      obtain ⟨u', hu', e1, e2⟩ := mem u hu
      obtain ⟨w1, w2, w3, w4, w5, w6, w7⟩ := H.wb u' hu'
      rw [← e1, ← e2]
      exact ⟨w1, (s.get _ w1 (by simp; exact fun e => w6 (by rw [hb, e]))).trans w2, w3, w4, w5, w6, w7⟩
    wd := by
      have e : (L.set i { t with mkd := m }).map Tm.wb = L.map Tm.wb := by
        rw [List.map_set]
        apply List.ext_getElem?
        intro p
        by_cases ep : i = p
        · subst ep
          rw [List.getElem?_set_self (by simpa using hi), List.getElem?_map, ht]; rfl
        · rw [List.getElem?_set_ne ep]
      rw [e]; exact H.wd
    lp := H.lp, lc := H.lc, pc := H.pc, xp := H.xp, xc := H.xc, xb := H.xb, zp := H.zp, zc := H.zc, xl := H.xl
    len := by rw [List.length_set]; exact H.len }
def rmark (ad:Int)(L:List Tm):Bool × List Tm:=
 match findIx ad L 0 with
 | none=>(false,L)
 | some i=>match L[i]? with
  | none=>(false,L)
  | some t=>if t.mkd then(false,L) else(true,L.set i { t with mkd:=true })
theorem rmark_ok (H:R4At g rp rc b cls L X)(ad:Int):Ok (Bt (.ptr (some (rp,0))) (.int .i64 ad) g) fun r=>r.1 = .bool (rmark ad L).1∧R4At r.2 rp rc b cls (rmark ad L).2 X∧KpX X g r.2:=by
 refine Ok.eq ?_ (by unfold Bt;rfl)
 refine ok_cl (rfind_ok H ad) ?_
 rintro _ _ hv
 cases hv
 have kr:KpX X g g:=⟨Nat.le_refl _,fun _ _ _=>rfl⟩
 unfold rmark
 cases hf:findIx ad L 0 with
 | none=>
  have z:decide ((-1:Int) < 0)=true:=rfl
  exact ok_val (v:=.bool false) (g:=g) (by simp -implicitDefEqProofs only [ixV,bin_lss,z,Option.bind_some,gdW_tf,gQ_false,pickP_bool,if_true,condE_true]) ⟨rfl,H,kr⟩
 | some i=>
  obtain⟨t,_,ht,_⟩:=findIx_at hf
  rw [Nat.sub_zero] at ht
  simp only [ht]
  obtain⟨v,lv,hln,_,_,hrow⟩:=H.ls
  have lv0:=lv (Same.refl [] g)
  obtain⟨bb,hb,hix,hld⟩:=hrow i t ht
  have ld:=(hld (Same.refl [] g)).2 2 _ rfl
  have z : ¬ ((i:Nat):Int) < 0:=by omega
  cases hm:t.mkd with
  | true=>
   rw [hm] at ld
   exact ok_val (v:=.bool false) (g:=g) (by simp -implicitDefEqProofs only [ixV,bin_lss,z,decide_false,Option.bind_some,gdW_ff,gQ_true,cl_some,nilV_ptr,faP_ptr,Nat.zero_add,lv0,hix,ld,pickP_bool,Bool.false_eq_true,if_false,condE_true]) ⟨rfl,H,kr⟩
  | false=>
   rw [hm] at ld
   obtain⟨bb',g',hb',st,H',kx,_⟩:=H.mark ht true
   rw [hb] at hb';cases hb'
   exact ok_val (v:=.bool true) (g:=g') (by simp -implicitDefEqProofs only [ixV,bin_lss,z,decide_false,Option.bind_some,gdW_ff,gQ_true,cl_some,nilV_ptr,faP_ptr,Nat.zero_add,lv0,hix,ld,pickP_bool,Bool.false_eq_true,if_false,condE_false,st]) ⟨rfl,H',kx⟩
def rclear (L:List Tm):List Tm:=L.map fun t=>{ t with mkd:=false }
theorem rclear_ok (H:R4At g rp rc b cls L X):Ok (Bj (.ptr (some (rp,0))) g) fun r=>r.1 = .tup []∧R4At r.2 rp rc b cls (rclear L) X∧KpX X g r.2:=by
 have hlen:=H.len
 have lp0:Ok (DQ (.ptr (some (rp,0))) (.int .i64 0) g) fun r=>r.1 = .exit 0∧R4At r.2.2 rp rc b cls (rclear L) X∧KpX X g r.2.2:=by
  refine ok_loop (fun m vs g'=>∃ (n:Nat) (L':List Tm),vs = [.int .i64 n]∧m+n=L.length∧R4At g' rp rc b cls L' X∧KpX X g g'∧L'=rclear (L.take n)++L.drop n) ?_ (n:=L.length) (by omega) ⟨0,L,rfl,rfl,H,⟨Nat.le_refl _,fun _ _ _=>rfl⟩,rfl⟩
  rintro m vs g' ⟨n,L',rfl,hm,H',kx,he⟩
  rw [gd0]
  obtain⟨v,lv,hln,_,_,hrow⟩:=H'.ls
  have lv0:=lv (Same.refl [] g')
  have hL:L'.length=L.length:=by rw [he];simp [rclear];omega
  by_cases hn:n<L.length
  ·have hlt:(n:Int)<L'.length:=by omega
   obtain⟨t,ht⟩:∃ t,L'[n]?=some t:=⟨_,List.getElem?_eq_getElem (by omega)⟩
   obtain⟨bb,hb,hix,_⟩:=hrow n t ht
   obtain⟨bb',g2,hb',st,H2,kx2,_⟩:=H'.mark ht false
   rw [hb] at hb';cases hb'
   refine(Ok.of (r:=(.normal,[.int .i64 ((n+1:Nat):Int)],g2)) (.inl ⟨rfl,m - 1,by omega,n+1,_,rfl,by omega,H2,kx.trans kx2,?_⟩)).eq (by
    simp -implicitDefEqProofs only [Cm,nilV_ptr,Option.bind_some,faP_ptr,Nat.zero_add,lv0,hln,bin_lss,hlt,decide_true,condE_true,hix,st,cl_some,bin_add,suc64 n (by omega)])
   have htn:L[n]?=some t:=by
    rw [he,List.getElem?_append_right (by simp [rclear];omega)] at ht
    have:n-(rclear (L.take n)).length=0:=by simp [rclear];omega
    rw [this,List.getElem?_drop] at ht
    simpa using ht
   have hd:L.drop n=t::L.drop (n+1):=by
    rw [List.drop_eq_getElem_cons hn]
    congr 1
    rw [List.getElem?_eq_getElem hn] at htn;exact Option.some.inj htn
   rw [he,List.set_append_right _ _ (by simp [rclear];omega)]
   have:n-(rclear (L.take n)).length=0:=by simp [rclear];omega
   rw [this,hd,List.set_cons_zero,List.take_add_one,htn]
   simp [rclear]
  ·have hlt : ¬ (n:Int)<L'.length:=by omega
   obtain rfl:n=L.length:=by omega
   refine(Ok.of (r:=(.exit 0,[.int .i64 (L.length:Int)],g')) (.inr ⟨by simp,rfl,?_,kx⟩)).eq (by
    simp -implicitDefEqProofs only [Cm,nilV_ptr,Option.bind_some,faP_ptr,Nat.zero_add,lv0,hln,bin_lss,hlt,decide_false,condE_false])
   rw [he] at H'
   simpa using H'
 refine Ok.eq ?_ (by unfold Bj;rfl)
 refine ok_lp lp0 ?_
 rintro _ vs g' ⟨rfl,H',kx⟩
 exact ok_val (by simp -implicitDefEqProofs only [if_true,endE_normal]<;>rfl) ⟨rfl,H',kx⟩
end
set_option linter.all false
attribute [local congr] c_bind c_cl c_mk c_lp c_clC c_gQ c_gV c_condE c_thenK
theorem rspan_eq (a:Int)(h:Heap):C3 (.int .i64 a) h=some (.int .i64 (spanOf a),h):=by
 by_cases h1:a < 0
 ·simp [C3,h1,spanOf];omega
 ·by_cases h2:32768≤a
  ·simp [C3,h1,h2,spanOf];omega
  ·have e:a.tdiv 64=a / 64:=Int.tdiv_eq_ediv_of_nonneg (by omega)
   have:spanOf a=a / 64:=by unfold spanOf;rw [if_pos (by omega)]
   simp [C3,h1,h2,this,e]
   exact wrap_i64 (by omega) (by omega)
theorem raddr_ok (n q c:Int)(h:Heap)(hn:1≤n∧n < 512)(hq:0≤q)(hc:q<placesOf c):Ok (Dq (.int .i64 n) (.int .i64 q) (.int .i64 c) h) fun r=>r.1 = .int .i64 (n * 64+q*wordsOf c)∧Same [] h r.2:=by
 obtain⟨_,_,h3,h4,h5,h6⟩:=wp_cases c q hq hc
 have e1 : ¬ n < 1:=by omega
 have e2 : ¬ 511<n:=by omega
 have e3 : ¬ q < 0:=by omega
 have e4 : ¬ placesOf c≤q:=by omega
 have h7:0≤q*wordsOf c:=Int.mul_nonneg hq (by omega)
 refine Ok.eq ?_ (by simp -implicitDefEqProofs only [Dq,bin_lss,bin_gtr,e1,e2,e3,decide_false,Option.bind_some,gdW_ff,gQ_true,cl_some,pickP_bool,Bool.false_eq_true,if_false];rfl)
 refine ok_cl (P:=fun(r:AV × Heap)=>r.1 = .int .i64 (placesOf c)∧Same [] h r.2) ?_ ?_
 ·refine ok_cl (rplaces_ok c h) ?_
  rintro _ g2 ⟨rfl,s2⟩
  exact ok_val rfl ⟨rfl,s2⟩
 rintro _ g1 ⟨rfl,s1⟩
 simp only at s1
 refine Ok.eq ?_ (by simp -implicitDefEqProofs only [bin_geq,e4,decide_false,Option.bind_some,cl_some,pickP_bool,Bool.false_eq_true,if_false,condE_false,bin_mul];rfl)
 refine ok_cl (rwords_ok c g1) ?_
 rintro _ g2 ⟨rfl,s2⟩
 simp only at s2
 exact ok_val (v:=.int .i64 (n * 64+q*wordsOf c)) (g:=g2) (by
  simp -implicitDefEqProofs only [bin_mul,Option.bind_some,bin_add]
  rw [Int.mul_comm 64 n,wrap_i64 (n:=n * 64) (by omega) (by omega),wrap_i64 (n:=q*wordsOf c) (by omega) (by omega),wrap_i64 (by omega) (by omega)]) ⟨rfl,s1.trans s2⟩
set_option linter.all false
attribute [local congr] c_bind c_cl c_mk c_lp c_clC c_gQ c_gV c_condE c_thenK
def stT (c:Int)(n:Nat)(x:BitVec 64)(t:Tm):BitVec 64:=if spanOf t.ad=n then x ||| bitOf (placeOf t.ad c).toNat else x
def stM (c:Int)(n:Nat)(x:BitVec 64)(t:Tm):BitVec 64:=if spanOf t.ad=n∧t.mkd=true then x ||| bitOf (placeOf t.ad c).toNat else x
def mapM (c:Int)(n:Nat)(L:List Tm):BitVec 64:=L.foldl (stM c n) 0
section
variable {g:Heap}{rp rc:Nat}{b:Option Nat}{cls:List Int}{L:List Tm}{X:List Nat}
end
set_option linter.all false
attribute [local congr] c_bind c_cl c_mk c_lp c_clC c_gQ c_gV c_condE c_thenK
def live (n:Nat)(t:Tm):Bool:=!(decide (spanOf t.ad=n) && !t.mkd)
def stays (n:Nat)(t:Tm):Bool:=decide (spanOf t.ad=n) && t.mkd
def rswL (n:Nat)(L:List Tm):List Tm:=L.filter (live n)
def deadC (n:Nat)(L:List Tm):Nat:=(L.filter fun t=>!live n t).length
def leftC (n:Nat)(L:List Tm):Nat:=(L.filter (stays n)).length
theorem fil_len {α:Type}(p:α→Bool)(l:List α):(l.filter p).length≤l.length:=List.length_filter_le p l
section
variable {g:Heap}{rp rc:Nat}{b:Option Nat}{cls:List Int}{L:List Tm}{X:List Nat}
theorem rsj1_ok (H:R4At g rp rc b cls L X){i:Nat}{t:Tm}(ht:L[i]?=some t){b':Option Nat}{v' x y:AV}{cs:List AV}{n':Nat}(hv:SlB g b' 3 v' cs n')(hn:n'≤100000) :
  Ok (BW (.ptr (some (rp,0))) v' x (.int .i64 i) y g) fun r=>∃ v2,r.1 = .normal∧r.2.1 = [v2,x,y,.int .i64 ((i+1:Nat):Int)]∧SlB r.2.2 (some (g.next+1)) 3 v2 (cs++t.row) (n'+1)∧Same b'.toList g r.2.2∧r.2.2.next=g.next+2:=by
 have hlen:=H.len
 have hi:=(List.getElem?_eq_some_iff.1 ht).1
 obtain⟨v,lv,hln,_,_,hrow⟩:=H.ls
 have lv0:=lv (Same.refl [] g)
 obtain⟨bb,_,hix,hld⟩:=hrow i t ht
 have ld:=(hld (Same.refl [] g)).1
 refine Ok.eq ?_ (by simp -implicitDefEqProofs only [BW,nilV_ptr,Option.bind_some,faP_ptr,Nat.zero_add,lv0,hix,ld];rfl)
 refine app1 (t:=.agg t.row) hv rfl rfl rfl (by decide) (by omega) fun v2 g2 h2 s2 n2=>?_
 refine(Ok.of (r:=(.normal,[v2,x,y,.int .i64 ((i+1:Nat):Int)],g2)) ⟨v2,rfl,rfl,h2,s2,n2⟩).eq (by
  simp -implicitDefEqProofs only [B8,bin_add,Option.bind_some,suc64 i (by omega)])
theorem rsweep_loop (H:R4At g rp rc b cls L X)(n:Nat) :
  Ok (DL (.ptr (some (rp,0))) (.int .i64 n) (.sl none 0 (.ex 0)) (.int .i64 0) (.int .i64 0) (.int .i64 0) g) fun r=>r.1 = .exit 0∧∃ b' v',r.2.1 = [v',.int .i64 (deadC n L),.int .i64 (leftC n L),.int .i64 L.length]∧SlB r.2.2 b' 3 v' (tmC (rswL n L)) (rswL n L).length∧Same [] g r.2.2∧∀ j,b'=some j→g.next≤j:=by
 have hlen:=H.len
 refine ok_loop (fun m vs g'=>∃ (i:Nat) (b':Option Nat) (v':AV),vs = [v',.int .i64 (deadC n (L.take i)),.int .i64 (leftC n (L.take i)),.int .i64 i]∧m+i=L.length∧SlB g' b' 3 v' (tmC (rswL n (L.take i))) (rswL n (L.take i)).length∧Same [] g g'∧∀ j,b'=some j→g.next≤j) ?_ (n:=L.length) (by omega)
  ⟨0,none,_,rfl,rfl,SlB.mt,Same.refl _ _,fun j hj=>by cases hj⟩
 rintro m vs g' ⟨i,b',v',rfl,hm,hv,s,hb⟩
 rw [gd0,gd1,gd2,gd3]
 have H':=H.keep s (by simp)
 obtain⟨v,lv,hln,_,_,hrow⟩:=H'.ls
 have lv0:=lv (Same.refl [] g')
 by_cases hi:i<L.length
 ·have hlt:(i:Int)<L.length:=by omega
  obtain⟨t,ht⟩:∃ t,L[i]?=some t:=⟨_,List.getElem?_eq_getElem hi⟩
  obtain⟨bb,_,hix,hld⟩:=hrow i t ht
  have ld:=(hld (Same.refl [] g')).2 0 _ rfl
  rw [Nat.add_zero] at ld
  have ld2:=(hld (Same.refl [] g')).2 2 _ rfl
  have hk:L.take (i+1)=L.take i ++ [t]:=by rw [List.take_add_one,ht];rfl
  have d1:deadC n (L.take i)≤100000:=Nat.le_trans (fil_len _ _) (by simp;omega)
  have l1:leftC n (L.take i)≤100000:=Nat.le_trans (fil_len _ _) (by simp;omega)
  have w1:(rswL n (L.take i)).length≤100000:=Nat.le_trans (fil_len _ _) (by simp;omega)
  have hj1:∀ x y,live n t=true→x=AV.int .i64 (deadC n (L.take (i+1)))→y=AV.int .i64 (leftC n (L.take (i+1)))→
    Ok (BW (.ptr (some (rp,0))) v' x (.int .i64 i) y g') (fun r=>r.1 = .normal∧∃ m'<m,∃ (i2:Nat) (b2:Option Nat) (v2:AV),r.2.1 = [v2,.int .i64 (deadC n (L.take i2)),.int .i64 (leftC n (L.take i2)),.int .i64 i2]∧m'+i2=L.length∧SlB r.2.2 b2 3 v2 (tmC (rswL n (L.take i2))) (rswL n (L.take i2)).length∧Same [] g r.2.2∧∀ j,b2=some j→g.next≤j):=by
   rintro x y hl rfl rfl
   obtain⟨r,hr,v2,p1,p2,p3,p4,p5⟩:=rsj1_ok (x:=.int .i64 (deadC n (L.take (i+1)))) (y:=.int .i64 (leftC n (L.take (i+1)))) H' ht hv w1
   have ew:rswL n (L.take (i+1))=rswL n (L.take i) ++ [t]:=by unfold rswL;rw [hk,List.filter_append];simp [hl]
   refine⟨r,hr,p1,m - 1,by omega,i+1,some (g'.next+1),v2,p2,by omega,?_,?_,fun j hj=>by cases hj;have:=s.next;omega⟩
   ·rw [ew,tmC,flt_app,List.length_append]
    simpa [flt,tmC] using p3
   ·refine s.old p4 fun j hj=>?_
    cases b' with
    | none=>simp at hj
    | some x=>have:=hb x rfl;simp at hj;right;omega
  refine Ok.mono (P:=fun r=>r.1 = .normal∧∃ m'<m,∃ (i2:Nat) (b2:Option Nat) (v2:AV),r.2.1 = [v2,.int .i64 (deadC n (L.take i2)),.int .i64 (leftC n (L.take i2)),.int .i64 i2]∧m'+i2=L.length∧SlB r.2.2 b2 3 v2 (tmC (rswL n (L.take i2))) (rswL n (L.take i2)).length∧Same [] g r.2.2∧∀ j,b2=some j→g.next≤j) ?_ (fun r h=>.inl h)
  have sc:IntKind.i64.wrap ((deadC n (L.take i):Int)+1)=((deadC n (L.take i)+1:Nat):Int):=suc64 _ (by omega)
  have sl:IntKind.i64.wrap ((leftC n (L.take i):Int)+1)=((leftC n (L.take i)+1:Nat):Int):=suc64 _ (by omega)
  by_cases e:spanOf t.ad=n
  ·have de:decide (spanOf t.ad=n)=true:=by simp [e]
   cases hm2:t.mkd with
   | true=>
    rw [hm2] at ld2
    have el:live n t=true:=by simp [live,e,hm2]
    have ed:deadC n (L.take (i+1))=deadC n (L.take i):=by unfold deadC;rw [hk,List.filter_append];simp [el]
    have ef:leftC n (L.take (i+1))=leftC n (L.take i)+1:=by unfold leftC;rw [hk,List.filter_append];simp [stays,e,hm2]
    refine Ok.eq (hj1 _ (.int .i64 ((leftC n (L.take i)+1:Nat):Int)) el rfl (by rw [ef])) (by
     rw [ed]
     simp -implicitDefEqProofs only [Be,nilV_ptr,Option.bind_some,faP_ptr,Nat.zero_add,lv0,hln,bin_lss,hlt,decide_true,condE_true,hix,Nat.add_zero,ld,rspan_eq,cl_some,eql_int,de,gdW_tt,gQ_true,ld2,un_not,Bool.not_true,pickP_bool,if_true,condE_false,bin_add,sl])
   | false=>
    rw [hm2] at ld2
    have el:live n t=false:=by simp [live,e,hm2]
    have ed:deadC n (L.take (i+1))=deadC n (L.take i)+1:=by unfold deadC;rw [hk,List.filter_append];simp [el]
    have ef:leftC n (L.take (i+1))=leftC n (L.take i):=by unfold leftC;rw [hk,List.filter_append];simp [stays,e,hm2]
    have ew:rswL n (L.take (i+1))=rswL n (L.take i):=by unfold rswL;rw [hk,List.filter_append];simp [el]
    refine(Ok.of (r:=(.normal,[v',.int .i64 ((deadC n (L.take i)+1:Nat):Int),.int .i64 (leftC n (L.take i)),.int .i64 ((i+1:Nat):Int)],g')) ⟨rfl,m - 1,by omega,i+1,b',v',by rw [ed,ef],by omega,by rw [ew];exact hv,s,hb⟩).eq (by
     simp -implicitDefEqProofs only [Be,nilV_ptr,Option.bind_some,faP_ptr,Nat.zero_add,lv0,hln,bin_lss,hlt,decide_true,condE_true,hix,Nat.add_zero,ld,rspan_eq,cl_some,eql_int,de,gdW_tt,gQ_true,ld2,un_not,Bool.not_false,pickP_bool,if_true,bin_add,sc,B8,suc64 i (by omega)])
  ·have de:decide (spanOf t.ad=n)=false:=by simp [e]
   have el:live n t=true:=by simp [live,e]
   have ed:deadC n (L.take (i+1))=deadC n (L.take i):=by unfold deadC;rw [hk,List.filter_append];simp [el]
   have ef:leftC n (L.take (i+1))=leftC n (L.take i):=by unfold leftC;rw [hk,List.filter_append];simp [stays,e]
   refine Ok.eq (hj1 _ (.int .i64 ((leftC n (L.take i):Nat):Int)) el rfl (by rw [ef])) (by
    rw [ed]
    simp -implicitDefEqProofs only [Be,nilV_ptr,Option.bind_some,faP_ptr,Nat.zero_add,lv0,hln,bin_lss,hlt,decide_true,condE_true,hix,Nat.add_zero,ld,rspan_eq,cl_some,eql_int,de,gdW_ft,gQ_false,pickP_bool,Bool.false_eq_true,if_false,condE_false])
 ·have hlt : ¬ (i:Int)<L.length:=by omega
  obtain rfl:i=L.length:=by omega
  rw [List.take_length] at hv ⊢
  refine(Ok.of (r:=(.exit 0,[v',.int .i64 (deadC n L),.int .i64 (leftC n L),.int .i64 (L.length:Int)],g')) (.inr ⟨by simp,rfl,b',v',rfl,hv,s,hb⟩)).eq (by
   simp -implicitDefEqProofs only [Be,nilV_ptr,Option.bind_some,faP_ptr,Nat.zero_add,lv0,hln,bin_lss,hlt,decide_false,condE_false])
def rswC (n:Nat)(cls:List Int)(L:List Tm):List Int:=if leftC n L=0 then cls.set n (-1) else cls
theorem R4At.put (H : R4At g rp rc b cls L X) {b' : Option Nat} {v' : AV} {L' : List Tm} (hv : SlB g b' 3 v' (tmC L') L'.length)
    (hb : ∀ i, b' = some i → i ∉ X ∧ i ≠ rp ∧ i ≠ rc ∧ i ≠ 0 ∧ ∀ t ∈ L', t.wb ≠ i) (hw : ∀ t ∈ L', t.wb < g.next ∧ g.get t.wb = some (.cells true (wsC t.W)) ∧ t.wb ∉ X ∧ t.wb ≠ rp ∧ t.wb ≠ rc ∧ t.wb ≠ 0) (hd : (L'.map Tm.wb).Nodup) (hl : L'.length ≤ 100000) :
    stP 1 g (.ptr (some (rp, 1))) v' = some (.bot, g.put rp (some (.cells true [.sl (some (rc, 0)) cls.length (.un 1), v']))) ∧ R4At (g.put rp (some (.cells true [.sl (some (rc, 0)) cls.length (.un 1), v']))) rp rc b' cls L' X := by
  obtain ⟨v, hg, _⟩ := H.rpb
  have s : Same [rp] g (g.put rp (some (.cells true [.sl (some (rc, 0)) cls.length (.un 1), v']))) := Same.put _ _ _
  refine ⟨stP_one hg (by simp) hv.scv, ?_⟩
  exact
  { rpb := ⟨v', get_put_eq, hv.same s fun i hi => by simp; exact (hb i hi).2.1⟩
    rcb := (s.get _ H.lc (by simp; exact fun e => H.pc e.symm)).trans H.rcb
    wb := fun t ht => by
      obtain ⟨h1, h2, h3, h4, h5, h6⟩ := hw t ht
      exact ⟨h1, (s.get _ h1 (by simp; exact h4)).trans h2, h3, h4, h5, fun e => (hb _ e).2.2.2.2 t ht rfl, h6⟩
    wd := hd
    lp := H.lp, lc := H.lc, pc := H.pc, xp := H.xp, xc := H.xc
    xb := fun i hi => ⟨(hb i hi).1, (hb i hi).2.1, (hb i hi).2.2.1, (hb i hi).2.2.2.1⟩
    zp := H.zp, zc := H.zc, xl := H.xl, len := hl }
theorem R4At.setc (H : R4At g rp rc b cls L X) {n : Nat} (hn : n < cls.length) (c : Int) :
    stP 1 g (.ptr (some (rc, n))) (.int .i64 c) = some (.bot, g.put rc (some (.cells true (wsC (cls.set n c))))) ∧ R4At (g.put rc (some (.cells true (wsC (cls.set n c))))) rp rc b (cls.set n c) L X := by
  obtain ⟨v, hg, hv⟩ := H.rpb
  have s : Same [rc] g (g.put rc (some (.cells true (wsC (cls.set n c))))) := Same.put _ _ _
  refine ⟨by rw [stP_one H.rcb (by simp [wsC, hn]) rfl]; simp [wsC, List.map_set], ?_⟩
  exact
  { rpb := ⟨v, by rw [List.length_set]; exact (s.get _ H.lp (by simp; exact H.pc)).trans hg, hv.same s fun i hi => by simp; exact (H.xb i hi).2.2.1⟩
    rcb := get_put_eq
    wb := fun t ht => by
      obtain ⟨h1, h2, h3, h4, h5, h6⟩ := H.wb t ht
      exact ⟨h1, (s.get _ h1 (by simp; exact h5)).trans h2, h3, h4, h5, h6⟩
    wd := H.wd
    lp := H.lp, lc := H.lc, pc := H.pc, xp := H.xp, xc := H.xc, xb := H.xb, zp := H.zp, zc := H.zc, xl := H.xl, len := H.len }
theorem KpX.put {X:List Nat}(g:Heap){i:Nat}(x:Option Blk)(hi:i∉X):KpX X g (g.put i x):=KpX.of (Same.put g i x) (fun j hj=>by simp at hj;subst hj;exact hi)
theorem KpX.same {X:List Nat}{g g':Heap}(s:Same [] g g'):KpX X g g':=KpX.of s (fun j hj=>by simp at hj)
theorem rsweep_ok (H:R4At g rp rc b cls L X){n:Nat}{c:Int}(hc:cls[n]?=some c) :
  Ok (BC (.ptr (some (rp,0))) (.int .i64 n) g) fun r=>(if c < 0 then r=(.int .i64 0,g) else r.1 = .int .i64 (deadC n L)∧(∃ b',R4At r.2 rp rc b' (rswC n cls L) (rswL n L) X)∧KpX X g r.2):=by
 obtain⟨hcx,hcl⟩:=H.cl hc
 have hn:=(List.getElem?_eq_some_iff.1 hc).1
 by_cases h0:c < 0
 ·exact ok_val (v:=.int .i64 0) (g:=g) (by simp -implicitDefEqProofs only [BC,nilV_ptr,Option.bind_some,faP_ptr,Nat.zero_add,H.ldc,hcx,hcl,bin_lss,h0,decide_true,condE_true]) (by rw [if_pos h0])
 ·refine Ok.eq ?_ (by simp -implicitDefEqProofs only [BC,nilV_ptr,Option.bind_some,faP_ptr,Nat.zero_add,H.ldc,hcx,hcl,bin_lss,h0,decide_false,condE_false];rfl)
  simp only [h0,if_false]
  refine ok_lp (rsweep_loop H n) ?_
  rintro _ _ g1 ⟨rfl,b',v',rfl,hv,s1,hb⟩
  simp only at hv s1
  have H1:=H.keep s1 (by simp)
  obtain⟨st,H2⟩:=H1.put hv (fun i hi=>by
    have h1:=hb i hi
    refine⟨fun hx=>by have:=H.xl i hx;omega,by have:=H.lp;omega,by have:=H.lc;omega,by have:=H.lp;omega,fun t ht=>?_⟩
    have:=(H.wb t (List.mem_filter.1 ht).1).1
    omega) (fun t ht=>by
    obtain⟨h1,h2,h3,h4,h5,h6,h7⟩:=H1.wb t (List.mem_filter.1 ht).1
    exact⟨h1,h2,h3,h4,h5,h7⟩) (H.wd.sublist (List.Sublist.map _ List.filter_sublist)) (Nat.le_trans (fil_len _ _) H.len)
  have k1:KpX X g (g1.put rp (some (.cells true [.sl (some (rc,0)) cls.length (.un 1),v']))):=(KpX.same s1).trans (KpX.put _ _ H.xp)
  refine Ok.eq ?_ (by simp -implicitDefEqProofs only [if_true,thenK_normal,nilV_ptr,Option.bind_some,faP_ptr,Nat.zero_add,gd0,gd1,gd2,st,cl_some];rfl)
  generalize g1.put rp (some (.cells true [.sl (some (rc,0)) cls.length (.un 1),v']))=g2 at *
  by_cases hl:leftC n L=0
  ·have dl:decide ((leftC n L:Int)=0)=true:=by simp [hl]
   obtain⟨hcx2,_⟩:=H2.cl hc
   obtain⟨st3,H3⟩:=H2.setc hn (-1)
   exact ok_val (v:=.int .i64 (deadC n L)) (by simp -implicitDefEqProofs only [eql_int,dl,Option.bind_some,condE_true,nilV_ptr,faP_ptr,Nat.zero_add,H2.ldc,hcx2,st3,cl_some];rfl) ⟨rfl,⟨b',by rw [rswC,if_pos hl];exact H3⟩,k1.trans (KpX.put _ _ H.xc)⟩
  ·have dl:decide ((leftC n L:Int)=0)=false:=by simp;omega
   exact ok_val (v:=.int .i64 (deadC n L)) (g:=g2) (by simp -implicitDefEqProofs only [eql_int,dl,Option.bind_some,condE_false]) ⟨rfl,⟨b',by rw [rswC,if_neg hl];exact H2⟩,k1⟩
end
set_option linter.all false
attribute [local congr] c_bind c_cl c_mk c_lp c_clC c_gQ c_gV c_condE c_thenK
theorem SlG.scv {g:Heap}{b:Option Nat}{sz n:Nat}{v:AV}{cs:List AV}(H:SlG g b sz v cs n):scalar v=true:=by
 rcases H with H | ⟨i,rfl,rfl,_⟩
 ·exact H.scv
 ·rfl
theorem SlG.keep {g g':Heap}{b:Option Nat}{sz n:Nat}{v:AV}{cs:List AV}{S:List Nat}(H:SlG g b sz v cs n)(s:Same S g g')(hb:∀ i,b=some i→i∉S):SlG g' b sz v cs n:=by
 rcases H with H | ⟨i,rfl,rfl,rfl,rfl,h1,h2⟩
 ·exact .inl (H.same s hb)
 ·exact .inr ⟨i,rfl,rfl,rfl,rfl,(s.get _ h2 (hb i rfl)).trans h1,Nat.lt_of_lt_of_le h2 s.next⟩
theorem SlG.slb {g:Heap}{b:Option Nat}{sz n:Nat}{v:AV}{cs:List AV}(H:SlG g b sz v cs n)(hn:0<n):SlB g b sz v cs n:=by
 rcases H with H | ⟨i,rfl,rfl,rfl,rfl,h1,h2⟩
 ·exact H
 ·omega
theorem appS {g:Heap}{b:Option Nat}{sz n m bytes:Nat}{q x:AV}{cs xs:List AV}(H:SlG g b sz q cs n)(hc:countA x=some m)(ha:addedA g sz x=some xs)(hl:xs.length=m*sz)(hs:xs.all scalar=true)(h0:0<sz)(hn:(n+m)*bytes≤2 ^ 47) :
  ∃ b' v' g',appendA g sz bytes q x=some (v',g')∧SlG g' b' sz v' (cs++xs) (n+m)∧Same b.toList g g'∧(b'=b∨b'=some g.next):=by
 cases m with
 | zero=>
  obtain rfl:xs = []:=List.eq_nil_of_length_eq_zero (by omega)
  obtain⟨g',h1,h2,h3,h4⟩:=appG0 (bytes:=bytes) H hc ha
  exact⟨b,q,g',h1,by rw [List.append_nil,Nat.add_zero];exact h2,h3.sub (by simp),.inl rfl⟩
 | succ m=>
  obtain⟨v',g',h1,h2,h3,h4⟩:=appG (bytes:=bytes) H hc ha hl hs h0 (by omega) hn
  exact⟨some g.next,v',g',h1,.inl h2,h3,.inr rfl⟩
theorem tmC_len (L:List Tm):(tmC L).length=L.length * 3:=flt_len tm_len L
theorem tmC_app (a b:List Tm):tmC (a++b)=tmC a++tmC b:=flt_app _ a b
theorem slc3 {g:Heap}{b:Option Nat}{v:AV}{L:List Tm}(hv:SlB g b 3 v (tmC L) L.length){k:Nat}(hk:k≤L.length) :
  (∃ x,slcP 3 v none (some (.int .i64 k)) none=some x∧countA x=some k∧∀ g':Heap,(∀ i,b=some i→g'.get i=g.get i)→addedA g' 3 x=some (tmC (L.take k)))∧
  ∃ y,slcP 3 v (some (.int .i64 k)) none none=some y∧countA y=some (L.length-k)∧∀ g':Heap,(∀ i,b=some i→g'.get i=g.get i)→addedA g' 3 y=some (tmC (L.drop k)):=by
 cases b with
 | none=>
  have e:v = .sl none 0 (.ex 0):=hv.eq
  obtain rfl:L = []:=List.eq_nil_of_length_eq_zero (hv.nil rfl)
  obtain rfl:k=0:=by simpa using hk
  subst e
  exact⟨⟨.sl none 0 (.ex 0),rfl,rfl,fun _ _=>rfl⟩,.sl none 0 (.ex 0),rfl,rfl,fun _ _=>rfl⟩
 | some i=>
  have e:v = .sl (some (i,0)) L.length (.un 3):=hv.eq
  obtain⟨b1,b2,b3⟩:=hv.blk i rfl
  subst e
  have hsp:tmC L=tmC (L.take k)++tmC (L.drop k):=by rw [← tmC_app,List.take_append_drop]
  have hl1:(tmC (L.take k)).length=k * 3:=by rw [tmC_len];simp;omega
  have hl2:(tmC (L.drop k)).length=(L.length-k) * 3:=by rw [tmC_len];simp
  constructor
  ·refine⟨.sl (some (i,0)) k (.un 3),?_,rfl,fun g' hg=>?_⟩
   ·simp only [slcP,sliceUn,ne_eq,not_true_eq_false,if_false,highA,lowA,boundA]
    rw [if_pos ⟨by omega,by omega⟩]
    simp only [Option.bind_some,Int.toNat_natCast,Nat.zero_mul,addA,Option.map_some,Nat.add_zero,Nat.sub_zero]
   ·have:loadN g' (i,0) (k * 3)=some (tmC (L.take k)):=by
     simp only [loadN,hg i rfl,b2,spanF_eq]
     rw [span_some _ _ _ (by rw [tmC_len];omega),List.drop_zero,hsp,List.take_left' hl1]
    simp only [addedA,this]
  ·refine⟨.sl (some (i,k * 3)) (L.length-k) (.un 3),?_,rfl,fun g' hg=>?_⟩
   ·simp only [slcP,sliceUn,ne_eq,not_true_eq_false,if_false,highA,lowA,boundA,Option.bind_some]
    rw [if_pos ⟨by omega,by omega⟩]
    simp only [Option.bind_some,Int.toNat_natCast,addA,Option.map_some,Nat.zero_add]
   ·have:loadN g' (i,k * 3) ((L.length-k) * 3)=some (tmC (L.drop k)):=by
     simp only [loadN,hg i rfl,b2,spanF_eq]
     rw [span_some _ _ _ (by rw [tmC_len];omega),hsp,List.drop_left' hl1,← hl2,List.take_length]
    simp only [addedA,this]
section
variable {g:Heap}{rp rc:Nat}{b:Option Nat}{cls:List Int}{L:List Tm}{X:List Nat}
structure Cut (L:List Tm)(ad:Int)(k:Nat):Prop where
 le:k≤L.length
 lo:∀ (j:Nat) t,j<k→L[j]?=some t→t.ad<ad
 hi:∀ t,L[k]?=some t→¬ t.ad<ad
theorem rcut_ok (H:R4At g rp rc b cls L X)(ad:Int) :
  Ok (Dd (.ptr (some (rp,0))) (.int .i64 ad) (.int .i64 0) g) fun r=>∃ k,r=(.exit 2,[.int .i64 (k:Nat)],g)∧Cut L ad k:=by
 have hlen:=H.len
 obtain⟨v,lv,hln,_,_,hrow⟩:=H.ls
 have lv0:=lv (Same.refl [] g)
 refine ok_loop (fun m vs g'=>∃ k:Nat,vs = [.int .i64 k]∧m+k=L.length∧g'=g∧∀ (j:Nat) t,j<k→L[j]?=some t→t.ad<ad) ?_ (n:=L.length) (by omega) ⟨0,rfl,rfl,rfl,fun j t hj=>by omega⟩
 rintro m vs g' ⟨k,rfl,hm,hgg,hk⟩
 subst hgg
 rw [gd0]
 by_cases hi:k<L.length
 ·have hlt:(k:Int)<L.length:=by omega
  obtain⟨t,ht⟩:∃ t,L[k]?=some t:=⟨_,List.getElem?_eq_getElem hi⟩
  obtain⟨bb,_,hix,hld⟩:=hrow k t ht
  have ld:=(hld (Same.refl [] g')).2 0 _ rfl
  rw [Nat.add_zero] at ld
  by_cases e:t.ad<ad
  ·refine(Ok.of (r:=(.normal,[.int .i64 ((k+1:Nat):Int)],g')) (.inl ⟨rfl,m - 1,by omega,k+1,rfl,by omega,rfl,fun j u hj hu=>?_⟩)).eq (by
    simp -implicitDefEqProofs only [CF,nilV_ptr,Option.bind_some,faP_ptr,Nat.zero_add,lv0,hln,bin_lss,hlt,decide_true,gdW_tt,gQ_true,cl_some,hix,Nat.add_zero,ld,e,pickP_bool,if_true,condE_true,bin_add,suc64 k (by omega)])
   by_cases ej:j=k
   ·subst ej;rw [ht] at hu;cases hu;exact e
   ·exact hk j u (by omega) hu
  ·exact(Ok.of (r:=(.exit 2,[.int .i64 (k:Int)],g')) (.inr ⟨by simp,k,rfl,by omega,hk,fun u hu=>by rw [ht] at hu;cases hu;exact e⟩)).eq (by
    simp -implicitDefEqProofs only [CF,nilV_ptr,Option.bind_some,faP_ptr,Nat.zero_add,lv0,hln,bin_lss,hlt,decide_true,gdW_tt,gQ_true,cl_some,hix,Nat.add_zero,ld,e,decide_false,pickP_bool,if_true,condE_false])
 ·have hlt : ¬ (k:Int)<L.length:=by omega
  exact(Ok.of (r:=(.exit 2,[.int .i64 (k:Int)],g')) (.inr ⟨by simp,k,rfl,by omega,hk,fun u hu=>by have:=(List.getElem?_eq_some_iff.1 hu).1;omega⟩)).eq (by
   simp -implicitDefEqProofs only [CF,nilV_ptr,Option.bind_some,faP_ptr,Nat.zero_add,lv0,hln,bin_lss,hlt,decide_false,gdW_ft,gQ_false,pickP_bool,Bool.false_eq_true,if_false,condE_false])
def insT (L:List Tm)(k:Nat)(t:Tm):List Tm:=L.take k++t::L.drop k
end
set_option linter.all false
attribute [local congr] c_bind c_cl c_mk c_lp c_clC c_gQ c_gV c_condE c_thenK
def adOf (n c:Int)(q:Nat):Int:=n * 64+q*wordsOf c
section
variable {g:Heap}{rp rc:Nat}{b:Option Nat}{cls:List Int}{L:List Tm}{X:List Nat}
theorem rins_ok (H:R4At g rp rc b cls L X){c:Int}(hc:0≤c∧c≤5)(ad:Int){k:Nat}(hk:Cut L ad k)(hL:L.length < 100000){R:Type}{K:Heap→Option R}{Q:R→Prop}
  (hK:∀ g' b' wb,R4At g' rp rc b' cls (insT L k ⟨ad,List.replicate (wordsOf c).toNat 0,false,wb⟩) X→KpX X g g'→Ok (K g') Q) :
  Ok (mk Heap.new (bsP 3 [(AV.int .i64 0),(AV.sl none 0 (.ex 0)),(AV.bool false)] 0 []) g fun t52 h23=>
   (nilV (.ptr (some (rp,0)))).bind fun t54=>
   (faP 1 t54).bind fun t55=>
   (ldS h23 t55).bind fun t56=>
   (slcP 3 t56 none (some (.int .i64 (k:Nat))) none).bind fun t58=>
   cl (appendA h23 3 40 t52 t58) fun t59 h24=>
   cl (BZ (.int .i64 c) h24) fun t63 h25=>
   mk Heap.new (msP 1 8 [(AV.int .i64 0)] t63 t63) h25 fun t64 h26=>
   (bldS [(0,1),(1,1),(2,1)] [(AV.int .i64 0),(AV.sl none 0 (.ex 0)),(AV.bool false)] [(0,.int .i64 ad),(1,t64)]).bind fun t65=>
   mk Heap.new (bsP 3 [(AV.int .i64 0),(AV.sl none 0 (.ex 0)),(AV.bool false)] 1 [(0,t65)]) h26 fun t66 h27=>
   cl (appendA h27 3 40 t59 t66) fun t67 h28=>
   (nilV (.ptr (some (rp,0)))).bind fun t71=>
   (faP 1 t71).bind fun t72=>
   (ldS h28 t72).bind fun t73=>
   (slcP 3 t73 (some (.int .i64 (k:Nat))) none none).bind fun t75=>
   cl (appendA h28 3 40 t67 t75) fun t76 h29=>
   (nilV (.ptr (some (rp,0)))).bind fun t77=>
   (faP 1 t77).bind fun t78=>
   cl (stP 1 h29 t78 t76) fun u h30=>K h30) Q:=by
 obtain⟨v,lv,hln,hv,hg,_⟩:=H.ls
 obtain⟨P0,P1,P2,W1,W2,_⟩:=pls_eq hc
 obtain⟨⟨x,hx,cx,ax⟩,y,hy,cy,ay⟩:=slc3 hv hk.le
 have hkl:=hk.le
 have hb0:bsP 3 [(AV.int .i64 0),(AV.sl none 0 (.ex 0)),(AV.bool false)] 0 []=some (.cells true [],fun i=>.sl (some (i,0)) 0 (.ex 0)):=rfl
 rw [hb0,mk_some]
 -- the old list's block stays
 have bl:∀ i,b=some i→i<g.next:=fun i hi=>(hv.blk i hi).1
 have s1:Same [] g (g.new (.cells true [])):=Same.new _ _
 have n1:(g.new (.cells true [])).next=g.next+1:=rfl
 have G1:SlG (g.new (.cells true [])) (some g.next) 3 (.sl (some (g.next,0)) 0 (.ex 0)) [] 0:=.inr ⟨g.next,rfl,rfl,rfl,rfl,get_new_eq,Nat.lt_succ_self _⟩
 generalize g.new (.cells true [])=g1 at *
 rw [nilV_ptr,Option.bind_some,faP_ptr,Option.bind_some,Nat.zero_add,lv s1,Option.bind_some,hx,Option.bind_some]
 have kb:∀ g':Heap,Same [] g g'→∀ i,b=some i→g'.get i=g.get i:=fun g' s i hi=>s.get i (bl i hi) (by simp)
 obtain⟨b2,v2,g2,e2,G2,s2,hb2⟩:=appS (bytes:=40) G1 cx (ax g1 (kb g1 s1)) (by rw [tmC_len];simp;omega) (tmC_sc _) (by decide) (by omega)
 rw [e2,cl_some]
 have s2':Same [] g g2:=s1.old s2 fun j hj=>by simp at hj;right;omega
 have hb2':∀ j,b2=some j→g.next≤j:=fun j hj=>by rcases hb2 with h | h<;>rw [h] at hj<;>cases hj<;>omega
 refine ok_cl (rwords_ok c g2) ?_
 rintro _ g3 ⟨rfl,s3⟩
 simp only at s3
 have G3:=G2.keep s3 (by simp)
 have s3':Same [] g g3:=s2'.trans s3
 have hw:((wordsOf c).toNat:Int)=wordsOf c:=by omega
 have m:=msP_ok 1 8 [AV.int .i64 0] (wordsOf c).toNat (by omega) (by decide) rfl
 rw [hw] at m
 rw [m,mk_some]
 have er:rep [AV.int .i64 0] (wordsOf c).toNat=wsC (List.replicate (wordsOf c).toNat 0):=by rw [rep_one];simp [wsC]
 rw [er]
 have s4:Same [] g3 (g3.new (.cells true (wsC (List.replicate (wordsOf c).toNat 0)))):=Same.new _ _
 have w4:(g3.new (.cells true (wsC (List.replicate (wordsOf c).toNat 0)))).get g3.next=some (.cells true (wsC (List.replicate (wordsOf c).toNat 0))):=get_new_eq
 have n4:(g3.new (.cells true (wsC (List.replicate (wordsOf c).toNat 0)))).next=g3.next+1:=rfl
 have G4:=G3.keep s4 (by simp)
 have s4':=s3'.trans s4
 have hwb:g.next≤g3.next:=s3'.next
 have hb4:∀ j,b2=some j→j≠g3.next:=fun j hj e=>by
  rcases G3 with h | ⟨i,hi,_,_,_,_,h⟩
  ·have:=(h.blk j hj).1;omega
  ·rw [hi] at hj;cases hj;omega
 generalize hwbe:g3.next=wb at *
 generalize g3.new (.cells true (wsC (List.replicate (wordsOf c).toNat 0)))=g4 at *
 have hbl:bldS [(0,1),(1,1),(2,1)] [(AV.int .i64 0),(AV.sl none 0 (.ex 0)),(AV.bool false)] [(0,.int .i64 ad),(1,.sl (some (wb,0)) (wordsOf c).toNat (.ex (wordsOf c).toNat))]=some (.agg (⟨ad,List.replicate (wordsOf c).toNat 0,false,wb⟩:Tm).row):=by
  unfold Tm.row;simp only [List.length_replicate];rfl
 rw [hbl,Option.bind_some,bsP_one (sz:=3) (z:=[(AV.int .i64 0),(AV.sl none 0 (.ex 0)),(AV.bool false)]) (t:=.agg (⟨ad,List.replicate (wordsOf c).toNat 0,false,wb⟩:Tm).row) rfl rfl rfl,mk_some]
 generalize ht:(⟨ad,List.replicate (wordsOf c).toNat 0,false,wb⟩:Tm)=t at *
 have s5:Same [] g4 (g4.new (.cells true (AV.agg t.row).cells)):=Same.new _ _
 have n5:(g4.new (.cells true (AV.agg t.row).cells)).next=g4.next+1:=rfl
 have r5:(g4.new (.cells true (AV.agg t.row).cells)).get g4.next=some (.cells true t.row):=get_new_eq
 have G5:=G4.keep s5 (by simp)
 have s5':=s4'.trans s5
 have w5:(g4.new (.cells true (AV.agg t.row).cells)).get wb=some (.cells true (wsC (List.replicate (wordsOf c).toNat 0))):=(s5.get wb (by omega) (by simp)).trans w4
 have n4':wb<g4.next:=by omega
 have hg4n:g.next≤g4.next:=s4'.next
 generalize g4.next=rb at *
 generalize g4.new (.cells true (AV.agg t.row).cells)=g5 at *
 have hld:addedA g5 3 (.sl (some (rb,0)) 1 (.ex 1))=some t.row:=by
  have:loadN g5 (rb,0) (1 * 3)=some t.row:=by
   simp only [loadN,r5,spanF_eq]
   rw [span_some _ _ _ (by rw [tm_len];omega)];rfl
  simp only [addedA,this]
 obtain⟨b6,v6,g6,e6,G6,s6,hb6⟩:=appS (bytes:=40) G5 (m:=1) rfl hld (by rw [tm_len]) rfl (by decide) (by omega)
 rw [e6,cl_some]
 have s6':Same [] g g6:=s5'.old s6 fun j hj=>by
  cases b2 with
  | none=>simp at hj
  | some x=>have:=hb2' x rfl;simp at hj;right;omega
 have w6:g6.get wb=some (.cells true (wsC (List.replicate (wordsOf c).toNat 0))):=(s6.get wb (by omega) (fun hj=>by
  cases b2 with
  | none=>simp at hj
  | some x=>simp at hj;exact hb4 x rfl hj.symm)).trans w5
 have hb6':∀ j,b6=some j→g.next≤j∧j≠wb:=fun j hj=>by
  rcases hb6 with h | h
  ·rw [h] at hj;exact⟨hb2' j hj,hb4 j hj⟩
  ·rw [h] at hj;cases hj;omega
 rw [Option.bind_some,faP_ptr,Option.bind_some,Nat.zero_add,lv s6',Option.bind_some,hy,Option.bind_some]
 obtain⟨b7,v7,g7,e7,G7,s7,hb7⟩:=appS (bytes:=40) G6 cy (ay g6 (kb g6 s6')) (by rw [tmC_len];simp) (tmC_sc _) (by decide) (by omega)
 rw [e7,cl_some]
 have s7':Same [] g g7:=s6'.old s7 fun j hj=>by
  cases b6 with
  | none=>simp at hj
  | some x=>have:=(hb6' x rfl).1;simp at hj;right;omega
 have n6:=s6.next
 have w7:g7.get wb=some (.cells true (wsC (List.replicate (wordsOf c).toNat 0))):=(s7.get wb (by omega) (fun hj=>by
  cases b6 with
  | none=>simp at hj
  | some x=>simp at hj;exact(hb6' x rfl).2 hj.symm)).trans w6
 have hb7':∀ j,b7=some j→g.next≤j∧j≠wb:=fun j hj=>by
  rcases hb7 with h | h
  ·rw [h] at hj;exact hb6' j hj
  ·rw [h] at hj;cases hj;omega
 have n7:=s7.next
 have H7:=H.keep s7' (by simp)
 have hB:SlB g7 b7 3 v7 (tmC (insT L k t)) (insT L k t).length:=by
  have:=G7.slb (by omega)
  have e:tmC (insT L k t) = []++tmC (L.take k)++t.row++tmC (L.drop k):=by
   unfold insT
   rw [tmC_app,show tmC (t::L.drop k)=t.row++tmC (L.drop k) from rfl,List.nil_append,List.append_assoc]
  have el:(insT L k t).length=0+k+1+(L.length-k):=by unfold insT;simp;omega
  rw [e,el];exact this
 have mem:∀ u∈insT L k t,u=t∨u∈L:=fun u hu=>by
  unfold insT at hu
  rw [List.mem_append,List.mem_cons] at hu
  rcases hu with hu | rfl | hu
  ·exact .inr (List.mem_of_mem_take hu)
  ·exact .inl rfl
  ·exact .inr (List.mem_of_mem_drop hu)
 have htw:t.wb=wb:=by rw [← ht]
 have htW:t.W=List.replicate (wordsOf c).toNat 0:=by rw [← ht]
 have hp:=H.lp
 have hcp:=H.lc
 obtain⟨st,H8⟩:=H7.put hB (fun i hi=>by
   have h1:=hb7' i hi
   refine⟨fun hx=>by have:=H.xl i hx;omega,by omega,by omega,by omega,fun u hu=>?_⟩
   rcases mem u hu with rfl | hu
   ·rw [htw];exact fun e=>h1.2 e.symm
   ·have:=(H.wb u hu).1;omega) (fun u hu=>by
   rcases mem u hu with rfl | hu
   ·rw [htw,htW];exact⟨by omega,w7,fun hx=>by have:=H.xl _ hx;omega,by omega,by omega,by omega⟩
   ·obtain⟨h1,h2,h3,h4,h5,h6,h7⟩:=H7.wb u hu
    exact⟨h1,h2,h3,h4,h5,h7⟩) (by
   have e:L.map Tm.wb=(L.take k).map Tm.wb++(L.drop k).map Tm.wb:=by rw [← List.map_append,List.take_append_drop]
   have hd:=H.wd
   rw [e] at hd
   have hn:∀ u∈L,u.wb≠wb:=fun u hu e=>by have:=(H.wb u hu).1;omega
   unfold insT
   rw [List.map_append,List.map_cons,htw]
   rw [List.nodup_append] at hd ⊢
   refine⟨hd.1,List.nodup_cons.2 ⟨fun hm=>?_,hd.2.1⟩,fun a ha c' hc'=>?_⟩
   ·rw [List.mem_map] at hm
    obtain⟨u,hu,e⟩:=hm
    exact hn u (List.mem_of_mem_drop hu) e
   ·rw [List.mem_cons] at hc'
    rcases hc' with rfl | hc'
    ·rw [List.mem_map] at ha
     obtain⟨u,hu,e⟩:=ha
     rw [← e];exact hn u (List.mem_of_mem_take hu)
    ·exact hd.2.2 a ha c' hc') (by unfold insT;simp;omega)
 rw [Option.bind_some,faP_ptr,Option.bind_some,Nat.zero_add,st,cl_some]
 exact hK _ b7 wb (by rw [ht];exact H8) ((KpX.same s7').trans (KpX.put _ _ H.xp))
end
set_option linter.all false
attribute [local congr] c_bind c_cl c_mk c_lp c_clC c_gQ c_gV c_condE c_thenK
section
variable {g:Heap}{rp rc:Nat}{b:Option Nat}{cls:List Int}{L:List Tm}{X:List Nat}
structure Fst (L:List Tm)(n c:Int)(q:Nat):Prop where
 lt:q<pls c
 no:findIx (adOf n c q) L 0=none
 lo:∀ j,j<q→findIx (adOf n c j) L 0≠none
theorem rtake_loop (H:R4At g rp rc b cls L X){n c:Int}(hn:1≤n∧n < 512)(hc:0≤c∧c≤5)(hL:L.length < 100000) :
  Ok (De (.ptr (some (rp,0))) (.int .i64 n) (.int .i64 c) (.int .i64 0) (.int .i64 0) g) fun r=>
   (r.1 = .exit 0∧Same [] g r.2.2∧∀ q,q<pls c→findIx (adOf n c q) L 0≠none)∨
   (r.1 = .ret∧∃ q k wb b',Fst L n c q∧Cut L (adOf n c q) k∧r.2.1.getD 0 .bot = .int .i64 (adOf n c q)∧R4At r.2.2 rp rc b' cls (insT L k ⟨adOf n c q,List.replicate (wordsOf c).toNat 0,false,wb⟩) X∧KpX X g r.2.2):=by
 obtain⟨P0,P1,P2,W1,W2,_⟩:=pls_eq hc
 refine ok_loop (fun m vs g'=>∃ i:Nat,vs = [.int .i64 0,.int .i64 i]∧m+i=pls c∧Same [] g g'∧∀ j,j<i→findIx (adOf n c j) L 0≠none) ?_ (n:=pls c) (by omega) ⟨0,rfl,rfl,Same.refl _ _,fun j hj=>by omega⟩
 rintro m vs g' ⟨i,rfl,hm,s,hlo⟩
 rw [gd0,gd1]
 refine Ok.eq ?_ (by unfold Df;rfl)
 refine ok_cl (rplaces_ok c g') ?_
 rintro _ g1 ⟨rfl,s1⟩
 simp only at s1
 by_cases hi:i<pls c
 ·have hlt:(i:Int)<placesOf c:=by omega
  refine Ok.eq ?_ (by simp -implicitDefEqProofs only [bin_lss,hlt,decide_true,Option.bind_some,condE_true];rfl)
  refine ok_cl (raddr_ok n i c g1 hn (by omega) (by omega)) ?_
  rintro _ g2 ⟨rfl,s2⟩
  simp only at s2
  have s2':=(s.trans s1).trans s2
  have H2:=H.keep s2' (by simp)
  refine ok_cl (rfind_ok H2 (n * 64+i*wordsOf c)) ?_
  rintro _ _ hv
  cases hv
  show Ok ((binP BinOp.lss (ixV (findIx (adOf n c i) L 0)) (AV.int .i64 0)).bind _) _
  cases hf:findIx (adOf n c i) L 0 with
  | some x=>
   have z : ¬ ((x:Nat):Int) < 0:=by omega
   refine(Ok.of (r:=(.normal,[.int .i64 0,.int .i64 ((i+1:Nat):Int)],g2)) (.inl ⟨rfl,m - 1,by omega,i+1,rfl,by omega,s2',fun j hj=>?_⟩)).eq (by
    simp -implicitDefEqProofs only [ixV,bin_lss,z,decide_false,Option.bind_some,condE_false,bin_add,suc64 i (by omega)])
   by_cases ej:j=i
   ·subst ej;rw [hf];exact fun h=>by cases h
   ·exact hlo j (by omega)
  | none=>
   have z:decide ((-1:Int) < 0)=true:=rfl
   refine Ok.eq ?_ (by simp -implicitDefEqProofs only [ixV,bin_lss,z,Option.bind_some,condE_true];rfl)
   refine ok_lp (rcut_ok H2 (adOf n c i)) ?_
   rintro _ _ _ ⟨k,he,hk⟩
   cases he
   rw [if_pos rfl,thenK_normal,gd0]
   refine rins_ok H2 hc (adOf n c i) hk hL fun g3 b' wb H3 k3=>?_
   exact Ok.of (r:=((Ex.ret,[AV.int .i64 (adOf n c i),AV.int .i64 i],g3):Ex × List AV × Heap)) (.inr ⟨by simp,.inr ⟨rfl,i,k,wb,b',⟨hi,hf,hlo⟩,hk,rfl,H3,(KpX.same s2').trans k3⟩⟩)
 ·have hlt : ¬ (i:Int)<placesOf c:=by omega
  refine(Ok.of (r:=(.exit 0,[.int .i64 0,.int .i64 (i:Int)],g1)) (.inr ⟨by simp,.inl ⟨rfl,s.trans s1,fun q hq=>hlo q (by omega)⟩⟩)).eq (by
   simp -implicitDefEqProofs only [bin_lss,hlt,decide_false,Option.bind_some,condE_false])
theorem rtake_ok (H:R4At g rp rc b cls L X){n:Nat}{c:Int}(hn:1≤n∧n < 512)(hcn:cls[n]?=some c)(hc:0≤c∧c≤5)(hL:L.length < 100000) :
  Ok (BM (.ptr (some (rp,0))) (.int .i64 n) g) fun r=>
   (r.1 = .int .i64 0∧Same [] g r.2∧∀ q,q<pls c→findIx (adOf n c q) L 0≠none)∨
   (∃ q k wb b',Fst L n c q∧Cut L (adOf n c q) k∧r.1 = .int .i64 (adOf n c q)∧R4At r.2 rp rc b' cls (insT L k ⟨adOf n c q,List.replicate (wordsOf c).toNat 0,false,wb⟩) X∧KpX X g r.2):=by
 obtain⟨hcx,hcl⟩:=H.cl hcn
 refine Ok.eq ?_ (by simp -implicitDefEqProofs only [BM,nilV_ptr,Option.bind_some,faP_ptr,Nat.zero_add,H.ldc,hcx,hcl];rfl)
 refine ok_lp (rtake_loop H (n:=n) ⟨by omega,by omega⟩ hc hL) ?_
 rintro e vs g' (⟨rfl,s,h⟩ | ⟨rfl,q,k,wb,b',h1,h2,h3,h4,h5⟩)
 ·exact ok_val (v:=.int .i64 0) (g:=g') rfl (.inl ⟨rfl,s,h⟩)
 ·simp only at h3
  exact ok_val (v:=.int .i64 (adOf n c q)) (g:=g') (by rw [← h3];rfl) (.inr ⟨q,k,wb,b',h1,h2,rfl,h4,h5⟩)
end
set_option linter.all false
section
variable {g:Heap}{rp rc:Nat}{b:Option Nat}{cls:List Int}{L:List Tm}{X:List Nat}
theorem R4At.wne (H:R4At g rp rc b cls L X){i j:Nat}{t u:Tm}(ht:L[i]?=some t)(hu:L[j]?=some u)(hij:i≠j):u.wb≠t.wb:=by
 intro e
 apply hij
 have hi:=(List.getElem?_eq_some_iff.1 ht).1
 have h1:(L.map Tm.wb)[i]?=(L.map Tm.wb)[j]?:=by rw [List.getElem?_map,List.getElem?_map,ht,hu];simp [e]
 exact(List.getElem?_inj (by simpa using hi) H.wd).1 h1
theorem set_map {α β:Type}{f:α→β}{L:List α}{i:Nat}{t u:α}(ht:L[i]?=some t)(e:f u=f t):(L.set i u).map f=L.map f:=by
 rw [List.map_set]
 apply List.ext_getElem?
 intro p
 by_cases ep:i=p
 ·subst ep
  rw [List.getElem?_set_self (by simpa using (List.getElem?_eq_some_iff.1 ht).1),List.getElem?_map,ht,e];rfl
 ·rw [List.getElem?_set_ne ep]
theorem R4At.setw (H : R4At g rp rc b cls L X) {i : Nat} {t : Tm} (ht : L[i]? = some t) {k : Nat} (hk : k < t.W.length) (v : Int) :
    stP 1 g (.ptr (some (t.wb, k))) (.int .i64 v) = some (.bot, g.put t.wb (some (.cells true (wsC (t.W.set k v))))) ∧ R4At (g.put t.wb (some (.cells true (wsC (t.W.set k v))))) rp rc b cls (L.set i { t with W := t.W.set k v }) X ∧ KpX X g (g.put t.wb (some (.cells true (wsC (t.W.set k v))))) := by
  obtain ⟨v0, hg, hv⟩ := H.rpb
  have hi := (List.getElem?_eq_some_iff.1 ht).1
  obtain ⟨w1, w2, w3, w4, w5, w6, w7⟩ := H.wb t (List.mem_of_getElem? ht)
  have s : Same [t.wb] g (g.put t.wb (some (.cells true (wsC (t.W.set k v))))) := Same.put _ _ _
  have er : tmC (L.set i { t with W := t.W.set k v }) = tmC L := by
    unfold tmC flt
    rw [set_map ht (by simp [Tm.row])]
  refine ⟨by rw [stP_one w2 (by simp [wsC, hk]) rfl]; simp [wsC, List.map_set], ?_, KpX.of s (fun j hj => by simp at hj; subst hj; exact w3)⟩
  exact
  { rpb := ⟨v0, (s.get _ H.lp (by simp; exact fun e => w4 e.symm)).trans hg, by rw [er, List.length_set]; exact hv.same s fun j hj => by simp; exact fun e => w6 (by rw [hj, e])⟩
    rcb := (s.get _ H.lc (by simp; exact fun e => w5 e.symm)).trans H.rcb
    wb := fun u hu => by
      obtain ⟨p, hp, hpu⟩ := List.getElem_of_mem hu
      have hpu' : (L.set i { t with W := t.W.set k v })[p]? = some u := List.getElem?_eq_some_iff.2 ⟨hp, hpu⟩
      by_cases ep : i = p
      · subst ep
        rw [List.getElem?_set_self hi] at hpu'
        cases hpu'
        exact ⟨w1, get_put_eq, w3, w4, w5, w6, w7⟩
      · rw [List.getElem?_set_ne ep] at hpu'
        obtain ⟨x1, x2, x3⟩ := H.wb u (List.mem_of_getElem? hpu')
        exact ⟨x1, (s.get _ x1 (by simp; exact H.wne ht hpu' ep)).trans x2, x3⟩
    wd := by rw [set_map (f := Tm.wb) (u := { t with W := t.W.set k v }) ht rfl]; exact H.wd
    lp := H.lp, lc := H.lc, pc := H.pc, xp := H.xp, xc := H.xc, xb := H.xb, zp := H.zp, zc := H.zc, xl := H.xl
    len := by rw [List.length_set]; exact H.len }
theorem R4At.wds (H:R4At g rp rc b cls L X){i:Nat}{t:Tm}(ht:L[i]?=some t):(∀ kk (k:Nat),k<t.W.length→iaS 1 (.sl (some (t.wb,0)) t.W.length (.ex t.W.length)) (.int kk (k:Int))=some (.ptr (some (t.wb,k))))∧∀ (k:Nat) x,t.W[k]?=some x→ldS g (.ptr (some (t.wb,k)))=some (.int .i64 x):=by
 have hw:=(H.wb t (List.mem_of_getElem? ht)).2.1
 refine⟨fun kk k hk=>by rw [iaS_sl 1 (t.wb,0) _ _ kk _ ⟨by omega,by omega⟩];simp,fun k x hx=>?_⟩
 rw [ldS_at hw];simp [wsC,hx]
end
end Go.Ab.F
