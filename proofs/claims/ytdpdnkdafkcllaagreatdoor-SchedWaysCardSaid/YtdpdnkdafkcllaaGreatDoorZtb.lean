import Derived.Test.YtdpdnkdafkcllaaGreatDoorKit
import Derived.Test.YtdpdnkdafkcllaaGreatDoorZta
namespace Go.Ab.F
open Go Go.Ab
set_option linter.all false
attribute [local congr] c_bind c_cl c_mk c_lp c_clC c_gQ c_gV c_condE c_thenK
def wI (l:List Int):List AV:=l.map (AV.int .i64)
theorem sc_wI (l:List Int):(wI l).all scalar=true:=by simp [wI,scalar]
theorem len_wI (l:List Int):(wI l).length=l.length:=by simp [wI]
def CapL (n:Nat):Cap→Prop
 | .ex k=>n≤k
 | .un s=>s=1
structure Lst (h g:Heap)(v:AV)(l:List Int):Prop where
 same:Same [] h g
 eq:(v = .sl none 0 (.ex 0)∧l = [])∨∃ b c rest,v = .sl (some (b,0)) l.length c∧h.next≤b∧b<g.next∧CapL l.length c∧g.get b=some (.cells true (wI l++rest))∧rest.all scalar=true
theorem Lst.mt {h g:Heap}(s:Same [] h g):Lst h g (.sl none 0 (.ex 0)) []:=⟨s,.inl ⟨rfl,rfl⟩⟩
theorem Lst.lnL {h g:Heap}{v:AV}{l:List Int}(H:Lst h g v l):Go.Ab.lnL v=some (.int .i64 l.length):=by
 rcases H.eq with⟨rfl,rfl⟩ | ⟨b,c,rest,rfl,_⟩
 ·rfl
 ·simp
theorem Lst.at {h g:Heap}{v:AV}{l:List Int}(H:Lst h g v l){i:Nat}{x:Int}(hx:l[i]?=some x) :
  ∃ b,h.next≤b∧b<g.next∧(∀ k,iaS 1 v (.int k (i:Int))=some (.ptr (some (b,i))))∧ldS g (.ptr (some (b,i)))=some (.int .i64 x):=by
 have hi:=(List.getElem?_eq_some_iff.1 hx).1
 rcases H.eq with⟨rfl,rfl⟩ | ⟨b,c,rest,rfl,h1,h2,h3,h4,_⟩
 ·simp at hx
 ·refine⟨b,h1,h2,fun k=>?_,?_⟩
  ·rw [iaS_sl 1 (b,0) _ _ k _ ⟨by omega,by omega⟩];simp
  ·rw [ldS_at h4,List.getElem?_append_left (by rw [len_wI];exact hi)]
   simp [wI,hx]
theorem Lst.rd {h g:Heap}{v:AV}{l:List Int}(H:Lst h g v l):RdW g 1 v (wI l) l.length:=by
 refine⟨by simp [wI],?_⟩
 rcases H.eq with⟨rfl,rfl⟩ | ⟨b,c,rest,rfl,h1,h2,h3,h4,_⟩
 ·exact .inl ⟨rfl,rfl⟩
 ·exact .inr ⟨b,0,c,rfl,h2,fun _=>⟨true,[],rest,rfl,by simpa using h4⟩⟩
theorem Lst.keep {h g g':Heap}{v:AV}{l:List Int}(H:Lst h g v l)(s:Same [] g g'):Lst h g' v l:=by
 refine⟨H.same.trans s,?_⟩
 rcases H.eq with e | ⟨b,c,rest,rfl,h1,h2,h3,h4,h5⟩
 ·exact .inl e
 ·exact .inr ⟨b,c,rest,rfl,h1,Nat.lt_of_lt_of_le h2 s.next,h3,by rw [s.get b h2 (by simp)];exact h4,h5⟩
theorem Lst.old {h0 h g:Heap}{v:AV}{l:List Int}(H:Lst h g v l)(s:Same [] h0 h):Lst h0 g v l:=by
 refine⟨s.trans H.same,?_⟩
 rcases H.eq with e | ⟨b,c,rest,rfl,h1,h2,h3,h4,h5⟩
 ·exact .inl e
 ·exact .inr ⟨b,c,rest,rfl,Nat.le_trans s.next h1,h2,h3,h4,h5⟩
theorem Lst.sc {h g:Heap}{v:AV}{l:List Int}(H:Lst h g v l):scalar v=true:=H.rd.sc
theorem Lst.lit {h g:Heap}(s:Same [] h g)(l:List Int):Lst h (g.new (.cells true (wI l))) (.sl (some (g.next,0)) l.length (.ex l.length)) l:=
 ⟨s.trans (Same.new _ _),.inr ⟨g.next,_,[],rfl,s.next,Nat.lt_succ_self _,Nat.le_refl _,by rw [List.append_nil];exact get_new_eq,rfl⟩⟩
theorem bs1 (z a:Int):bsP 1 [.int .i64 z] 1 [(0,.int .i64 a)]=some (.cells true (wI [a]),fun i=>.sl (some (i,0)) 1 (.ex 1)):=rfl
theorem slc_to {b n k:Nat}{c:Cap}(hk:k≤n)(hc:CapL n c):∃ c',slcP 1 (.sl (some (b,0)) n c) none (some (.int .i64 (k:Int))) none=some (.sl (some (b,0)) k c')∧CapL k c':=by
 cases c with
 | ex m=>
  simp only [CapL] at hc
  refine⟨.ex m,?_,by simp only [CapL];omega⟩
  simp only [slcP,sliceEx,mostA,highA,lowA,boundA,Option.bind_some]
  rw [if_pos ⟨by omega,by omega⟩]
  simp only [Option.bind_some,Int.toNat_natCast,Nat.zero_mul,addA,Option.map_some,Nat.add_zero,Nat.sub_zero,ite_self]
 | un s=>
  simp only [CapL] at hc
  subst hc
  refine⟨.un 1,?_,rfl⟩
  simp only [slcP,sliceUn,ne_eq,not_true_eq_false,if_false,highA,lowA,boundA]
  rw [if_pos ⟨by omega,by omega⟩]
  simp only [Option.bind_some,Int.toNat_natCast,Nat.zero_mul,addA,Option.map_some,Nat.add_zero,Nat.sub_zero]
theorem slc_from {b n k:Nat}{c:Cap}(hk:k<n)(hc:CapL n c):∃ c',slcP 1 (.sl (some (b,0)) n c) (some (.int .i64 (k:Int))) none none=some (.sl (some (b,k)) (n-k) c')∧CapL (n-k) c':=by
 cases c with
 | ex m=>
  simp only [CapL] at hc
  refine⟨.ex (m-k),?_,by simp only [CapL];omega⟩
  simp only [slcP,sliceEx,mostA,highA,lowA,boundA,Option.bind_some]
  rw [if_pos ⟨by omega,by omega⟩]
  simp only [Option.bind_some,Int.toNat_natCast,Nat.mul_one,addA,Option.map_some,Nat.zero_add]
  rw [if_neg (by omega)]
 | un s=>
  simp only [CapL] at hc
  subst hc
  refine⟨.un 1,?_,rfl⟩
  simp only [slcP,sliceUn,ne_eq,not_true_eq_false,if_false,highA,lowA,boundA,Option.bind_some]
  rw [if_pos ⟨by omega,by omega⟩]
  simp only [Option.bind_some,Int.toNat_natCast,Nat.mul_one,addA,Option.map_some,Nat.zero_add]
theorem sc_rep0:∀ n:Nat,(rep [AV.int .i64 0] n).all scalar=true
 | 0=>rfl
 | n+1=>by simp only [rep,List.all_append,sc_rep0 n,Bool.and_true];rfl
theorem len_rep0:∀ n:Nat,(rep [AV.int .i64 0] n).length=n
 | 0=>rfl
 | n+1=>by simp only [rep,List.length_append,len_rep0 n,List.length_singleton];omega
theorem clL_at {h:Heap}{b k n:Nat}{c:Cap}{cs:List AV}(hb:h.get b=some (.cells true cs))(hl:k+n≤cs.length) :
  ∃ cs',clL 1 [AV.int .i64 0] h (.sl (some (b,k)) n c)=some (.tup [],if n=0 then h else h.put b (some (.cells true cs')))∧cs'.take k=cs.take k∧(cs.all scalar=true→cs'.all scalar=true)∧cs'.length=cs.length:=by
 by_cases hn:n=0
 ·exact⟨cs,by simp only [clL,hn,if_true],rfl,id,rfl⟩
 ·refine⟨cs.take k++rep [AV.int .i64 0] n++cs.drop (k+n),?_,?_,fun hs=>?_,?_⟩
  ·simp only [clL,hn,if_false,List.length_singleton,ne_eq,not_true_eq_false,storeN,sc_rep0,if_true,hb,spliceF_eq]
   rw [splice_some cs k _ (by rw [len_rep0];exact hl),len_rep0];rfl
  ·rw [List.append_assoc,List.take_append_of_le_length (by simp;omega),List.take_take,Nat.min_self]
  ·simp only [List.all_append,Bool.and_eq_true]
   refine⟨⟨?_,sc_rep0 n⟩,?_⟩<;>simp only [List.all_eq_true] at hs ⊢
   ·exact fun x hx=>hs x (List.mem_of_mem_take hx)
   ·exact fun x hx=>hs x (List.mem_of_mem_drop hx)
  ·simp only [List.length_append,List.length_take,len_rep0,List.length_drop];omega
end Go.Ab.F
namespace Go.Ab.F
open Go Go.Ab
set_option linter.all false
set_option linter.all false
attribute [local congr] c_bind c_cl c_mk c_lp c_clC c_gQ c_gV c_condE c_thenK
theorem rdc_ld {h:Heap}{v:AV}{cs:List AV}(H:RdC h 1 v cs cs.length){i:Nat}{x:AV}(hx:cs[i]?=some x):∃ p,iaS 1 v (.int .i64 (i:Int))=some (.ptr (some p))∧ldS h (.ptr (some p))=some x:=by
 have hi:=(List.getElem?_eq_some_iff.1 hx).1
 obtain⟨b,_,hg,ix⟩:=H.ix hi
 exact⟨(b,i * 1),ix .i64,by rw [ldS_at hg,Nat.mul_one];exact hx⟩
theorem chl_wrote2 {l l':PAl}{cs:CnL}{ad:Int}{c c':Chan}{rest:List Int}(H:ChL l (cs ++ [(ad,c)]))(C:ChAt l.ar sh16 ad c false 0 rest)(hr:c'.room=c.room)(O:ChOk c')(W:Wrote l l' ad (cws c' (c.room+5+128 * 3+1024*((0:Nat):Int)) rest)):ChL l' (cs ++ [(ad,c')]):=by
 have hnd:=H.nd
 rw [List.map_append,List.nodup_append] at hnd
 refine⟨fun x hx=>?_,by rw [List.map_append,List.nodup_append];exact⟨hnd.1,by simp,fun a ha b hb=>hnd.2.2 a ha b (by simpa using hb)⟩⟩
 rw [List.mem_append] at hx
 rcases hx with hx | hx
 ·obtain⟨r,C'⟩:=H.at_ x (List.mem_append_left _ hx)
  have hne:x.1≠ad:=hnd.2.2 x.1 (List.mem_map.2 ⟨x,hx,rfl⟩) ad (by simp)
  exact⟨r,W.old _ _ hne C'.lies,C'.ok,C'.sh,C'.sx⟩
 ·simp at hx;subst hx
  exact⟨rest,C.wrote hr O W⟩
theorem pushed_chok {c:Chan}(O:ChOk c)(h:c.count<c.room)(v:Int):ChOk (c.pushed v):=by
 have k0:=O.r0;have k1:=O.r1;have k2:=O.c0;have k3:=O.c1;have k4:=O.f0;have k5:=O.f1;have k7:=O.len
 exact⟨k0,k1,by simp [Chan.pushed];omega,by simp [Chan.pushed];omega,k4,k5,O.f2,O.cl,by simp [Chan.pushed];exact k7⟩
theorem shut_chok {c:Chan}(O:ChOk c):ChOk c.shut:=⟨O.r0,O.r1,O.c0,O.c1,O.f0,O.f1,O.f2,.inr rfl,O.len⟩
theorem cls_spW:∀ {a b:PAr},b.sp=a.sp→∀ m,b.cls m=a.cls m:=by
 rintro⟨w,s⟩ ⟨w',s'⟩ h m
 simp only at h
 subst h;rfl
theorem wrote_used {l l':PAl}{ad:Int}{ws:List Int}(W:Wrote l l' ad ws):l'.ar.used=l.ar.used:=used_same (fun m=>cls_spW W.sp m) (by rw [W.sp])
section
variable {g:Heap}{A:Nat→Nat}{l:PAl}{cs:CnL}{ad:Int}{c:Chan}{p i:Nat}{x1:AV}{fl:List Int}
theorem ways_L0 (hA:∀ i,i < 11→A i<g.next∧A i≠p)(hp0:p≠0)(H:HpAt g A l sh16 0)(hc:ChL l (cs ++ [(ad,c)]))(h0:c.closed=0)(hp:g.get p=some (.cells true (One.row ⟨c.room,c.count,false⟩)))(hpl:p<g.next)
  (hx:∀ g',Same [A 7,p] g g'→RdC g' 1 x1 (fl.map fun n=>.int .i64 n) fl.length) :
  Ok (Cy x1 (.ptr (some (A 0,0))) (.int .i64 (i:Int)) (.ptr (some (p,0))) (.int .i64 ad) (.int .i64 0) g) fun r=>r.1 = .exit 2∧∃ l' c',HpAt r.2.2 A l' sh16 0∧ChL l' (cs ++ [(ad,c')])∧c'.closed=0∧r.2.2.get p=some (.cells true (One.row ⟨c'.room,c'.count,false⟩))∧l'.ar.used=l.ar.used∧l'.ar.sp.length=l.ar.sp.length∧Same [A 7,p] g r.2.2:=by
 obtain⟨N,hN⟩:∃ N:Nat,N=(((fl[i]?).getD 0) % 4).toNat:=⟨_,rfl⟩
 refine ok_loop (fun m vs g2=>∃ (k:Nat) (l2:PAl) (c2:Chan),vs = [.int .i64 (k:Int)]∧m+k=N∧HpAt g2 A l2 sh16 0∧ChL l2 (cs ++ [(ad,c2)])∧c2.closed=0∧g2.get p=some (.cells true (One.row ⟨c2.room,c2.count,false⟩))∧l2.ar.used=l.ar.used∧l2.ar.sp.length=l.ar.sp.length∧Same [A 7,p] g g2) ?_ (n:=N) (by omega) ⟨0,l,c,rfl,by omega,H,hc,h0,hp,rfl,rfl,Same.refl _ _⟩
 rintro m vs g2 ⟨k,l2,c2,rfl,hm,H2,hc2,h02,hp2,hu,hsp,s2⟩
 rw [gd0]
 have R:=hx g2 s2
 have lnx:=R.lnL
 have out:As x1 (.ptr (some (A 0,0))) (.int .i64 (i:Int)) (.ptr (some (p,0))) (.int .i64 ad) (.int .i64 (k:Int)) g2=some (.exit 2,[.int .i64 (k:Int)],g2)→Ok (As x1 (.ptr (some (A 0,0))) (.int .i64 (i:Int)) (.ptr (some (p,0))) (.int .i64 ad) (.int .i64 (k:Int)) g2) fun r=>(r.1 = .normal∧∃ m',m'<m∧∃ (k:Nat) (l2:PAl) (c2:Chan),r.2.1 = [.int .i64 (k:Int)]∧m'+k=N∧HpAt r.2.2 A l2 sh16 0∧ChL l2 (cs ++ [(ad,c2)])∧c2.closed=0∧r.2.2.get p=some (.cells true (One.row ⟨c2.room,c2.count,false⟩))∧l2.ar.used=l.ar.used∧l2.ar.sp.length=l.ar.sp.length∧Same [A 7,p] g r.2.2)∨(r.1≠.normal∧r.1 = .exit 2∧∃ l' c',HpAt r.2.2 A l' sh16 0∧ChL l' (cs ++ [(ad,c')])∧c'.closed=0∧r.2.2.get p=some (.cells true (One.row ⟨c'.room,c'.count,false⟩))∧l'.ar.used=l.ar.used∧l'.ar.sp.length=l.ar.sp.length∧Same [A 7,p] g r.2.2):=fun e=>
  (Ok.of (r:=(Ex.exit 2,[.int .i64 (k:Int)],g2)) (.inr ⟨by simp,rfl,l2,c2,H2,hc2,h02,hp2,hu,hsp,s2⟩)).eq e
 by_cases hi:i<fl.length
 ·have hlt:(i:Int)<fl.length:=by omega
  obtain⟨f,hf⟩:∃ f,fl[i]?=some f:=⟨_,List.getElem?_eq_getElem hi⟩
  have eN:N=(f % 4).toNat:=by rw [hN,hf];rfl
  have R':RdC g2 1 x1 (fl.map fun n=>.int .i64 n) (fl.map fun n=>AV.int .i64 n).length:=by rw [List.length_map];exact R
  obtain⟨pp,ix,ld⟩:=rdc_ld R' (i:=i) (x:=.int .i64 f) (by rw [List.getElem?_map,hf];rfl)
  have a3:binP .and (.int .i64 f) (.int .i64 3)=some (.int .i64 (f % 4)):=and_mask f 2 (by omega)
  by_cases hk:(k:Int)<f % 4
  ·obtain⟨rest,C⟩:=hc2.at_ (ad,c2) (by simp)
   simp only at C
   have O:=C.ok
   refine Ok.eq ?_ (by simp -implicitDefEqProofs only [As,lnx,bin_lss,hlt,decide_true,Option.bind_some,gdW_tt,gQ_true,cl_some,ix,ld,a3,hk,pickP_bool,if_true,condE_true]<;>rfl)
   refine ok_cl (push_ok H2 C 5 _) ?_
   rintro v g3 hv
   by_cases hroom:c2.count<c2.room
   ·rw [if_pos ⟨h02,hroom⟩] at hv
    obtain⟨rfl,l3,H3,s3,Wr⟩:=hv
    simp only at H3 s3
    have hp3:g3.get p=some (.cells true (One.row ⟨c2.room,c2.count,false⟩)):=(s3.get p (Nat.lt_of_lt_of_le hpl s2.next) (by simp;exact fun e=>(hA 7 (by omega)).2 e.symm)).trans hp2
    have l1:ldS g3 (.ptr (some (p,0+1)))=some (.int .i64 c2.count):=by rw [ldS_at hp3];rfl
    have w1:IntKind.i64.wrap (c2.count+1)=c2.count+1:=wrap_i64 (by have:=O.c0;omega) (by have:=O.r1;omega)
    obtain⟨g4,hg4⟩:∃ g4,g4=g3.put p (some (.cells true (One.row ⟨c2.room,c2.count+1,false⟩))):=⟨_,rfl⟩
    have st:stP 1 g3 (.ptr (some (p,0+1))) (.int .i64 (c2.count+1))=some (.bot,g4):=by
     rw [stP_one hp3 (o:=0+1) (by simp [One.row]) rfl,hg4];rfl
    have s4:Same [p] g3 g4:=by rw [hg4];exact Same.put _ _ _
    have H4:=H3.mono s4 (fun i hi hm=>(hA i hi).2 (by simpa using hm)) (by simp;exact fun e=>hp0 e.symm)
    refine(Ok.of (r:=(Ex.normal,[.int .i64 ((k+1:Nat):Int)],g4)) (.inl ⟨rfl,m - 1,by omega,k+1,l3,c2.pushed 5,rfl,by omega,H4,chl_wrote2 hc2 C rfl (pushed_chok O hroom 5) Wr,h02,by rw [hg4];exact get_put_eq,(wrote_used Wr).trans hu,by rw [Wr.sp];exact hsp,(s2.trans (s3.sub (by simp))).trans (s4.sub (by simp))⟩)).eq (by
     simp -implicitDefEqProofs only [condE_true,faP_ptr,l1,Option.bind_some,bin_add,w1,st,cl_some,suc64 k (by omega)])
   ·rw [if_neg fun h=>hroom h.2] at hv
    obtain⟨rfl,s3⟩:=hv
    simp only at s3
    have hp3:=(s3.get p (Nat.lt_of_lt_of_le hpl s2.next) (by simp)).trans hp2
    exact(Ok.of (r:=(Ex.normal,[.int .i64 ((k+1:Nat):Int)],g3)) (.inl ⟨rfl,m - 1,by omega,k+1,l2,c2,rfl,by omega,H2.keep s3,hc2,h02,hp3,hu,hsp,s2.trans (s3.sub (by simp))⟩)).eq (by
     simp -implicitDefEqProofs only [condE_false,bin_add,Option.bind_some,suc64 k (by omega)])
  ·refine out (by simp -implicitDefEqProofs only [As,lnx,bin_lss,hlt,decide_true,Option.bind_some,gdW_tt,gQ_true,cl_some,ix,ld,a3,hk,decide_false,pickP_bool,if_true,condE_false])
 ·have hlt : ¬ (i:Int)<fl.length:=by omega
  exact out (by simp -implicitDefEqProofs only [As,lnx,bin_lss,hlt,decide_false,Option.bind_some,gdW_ft,gQ_false,pickP_bool,Bool.false_eq_true,if_false,condE_false])
end
set_option linter.all false
attribute [local congr] c_bind c_cl c_mk c_lp c_clC c_gQ c_gV c_condE c_thenK
theorem Cw.keepB {g0 g g':Heap}{A:Nat→Nat}{ph N:Nat}{cs:CnL}{q:AV}{b bh:Option Nat}{S:List Nat}(W:Cw g0 g A ph N cs q b bh)(s:Same S g g')(hA:∀ i,i < 11→A i<g0.next)(hph:ph<g0.next)(hz:0<g0.next)(hS:∀ j∈S,g0.next≤j∧b≠some j∧bh≠some j):Cw g0 g' A ph N cs q b bh:=by
 obtain⟨l,H,hc,hu,hN⟩:=W.hp
 obtain⟨vh,hvh,sh⟩:=W.hl
 have n1:=W.same.next
 refine⟨⟨l,H.mono s (fun i hi hm=>by have:=hA i hi;have:=(hS _ hm).1;omega) (fun hm=>by have:=(hS _ hm).1;omega),hc,hu,hN⟩,W.ql.same s fun j hj hm=>(hS j hm).2.1 hj,⟨vh,(s.get ph (by omega) (fun hm=>by have:=(hS _ hm).1;omega)).trans hvh,sh.same s fun j hj hm=>(hS j hm).2.2 hj⟩,W.n1,W.n2,W.df,W.same.old s fun j hj=>.inr (hS j hj).1⟩
def onR (cs:CnL):List (List AV):=(cs.map oneC).map One.row
theorem onR_app (cs:CnL)(x:Int × Chan):onR (cs ++ [x])=onR cs ++ [(oneC x).row]:=by simp [onR]
theorem onR_len (cs:CnL):(onR cs).length=cs.length:=by simp [onR]
section
variable {g0 g:Heap}{A:Nat→Nat}{ph p i:Nat}{cs:CnL}{q qc:AV}{b bh bc:Option Nat}{l:PAl}{ad:Int}{c:Chan}
theorem ways_j0 (hA:∀ i,i < 11→A i<g0.next)(hph:ph<g0.next)(hpA:∀ i,i < 11→A i≠ph)(hp0:ph≠0)(hz:0<g0.next)
  (H:HpAt g A l sh16 0) (hc:ChL l (cs ++ [(ad,c)])) (hu:l.ar.used≤cs.length+1) (hN:l.ar.sp.length=20) (ql:SlB g b 1 q (adL cs).flatten (adL cs).length) (hl:∃ vh,g.get ph=some (.cells true [vh])∧SlB g bh 1 vh (adL cs).flatten (adL cs).length)
  (n1:∀ j,b=some j→g0.next≤j) (n2:∀ j,bh=some j→g0.next≤j) (df:∀ j,b=some j→bh≠some j) (same:Same [A 5,A 7,A 8,ph] g0 g) (hlen:cs.length≤100)
  (hp:g.get p=some (.cells true (oneC (ad,c)).row)) (hpl:p<g.next) (hpg:g0.next≤p) (hpb:b≠some p) (hpbh:bh≠some p)
  (S:SlB g bc 3 qc (onR cs).flatten (onR cs).length) (hbc:∀ j,bc=some j→g0.next≤j∧b≠some j∧bh≠some j) (hi:i≤1000) :
  Ok (A5 (.ptr (some (ph,0))) (.bool false) q qc (.int .i64 (i:Int)) (.ptr (some (p,0))) (.int .i64 ad) g) fun r=>r.1 = .normal∧∃ q' b' bh' qc' bc',r.2.1 = [.bool false,q',qc',.int .i64 ((i+1:Nat):Int)]∧Cw g0 r.2.2 A ph 20 (cs ++ [(ad,c)]) q' b' bh'∧SlB r.2.2 bc' 3 qc' (onR (cs ++ [(ad,c)])).flatten (onR (cs ++ [(ad,c)])).length∧(∀ j,bc'=some j→g0.next≤j∧b'≠some j∧bh'≠some j):=by
 refine Ok.eq ?_ (by unfold A5;rfl)
 refine cw_push (c:=c) hA hph hpA hp0 hz H hc hu hN ql hl n1 n2 df same hlen fun q' g' b' bh' W' s' nb' nbh'=>?_
 have g0g:=same.next
 have offp:p∉ph::(b.toList++bh.toList):=by
  simp only [List.mem_cons,List.mem_append,Option.mem_toList,not_or]
  exact⟨by omega,hpb,hpbh⟩
 have hp':=(s'.get p hpl offp).trans hp
 have S':=S.same s' fun j hj hm=>by
  obtain⟨h1,h2,h3⟩:=hbc j hj
  simp only [List.mem_cons,List.mem_append,Option.mem_toList] at hm
  rcases hm with h | h | h
  ·omega
  ·exact h2 h
  ·exact h3 h
 have la:ldA 3 g' (.ptr (some (p,0)))=some (.agg (oneC (ad,c)).row):=ldA_all hp' rfl
 have bcl:∀ j,bc=some j→j<g.next:=fun j hj=>(S.blk j hj).1
 have hsn:=s'.next
 refine Ok.eq ?_ (by simp -implicitDefEqProofs only [la,Option.bind_some]<;>rfl)
 refine app1 S' (t:=.agg (oneC (ad,c)).row) rfl rfl rfl (by decide) (by rw [onR_len];omega) fun v' g'' S'' s'' n''=>?_
 have eF:(onR (cs ++ [(ad,c)])).flatten=(onR cs).flatten++(AV.agg (oneC (ad,c)).row).cells:=by rw [onR_app,List.flatten_append];simp [AV.cells]
 have eL:(onR (cs ++ [(ad,c)])).length=(onR cs).length+1:=by rw [onR_app];simp
 refine(Ok.of (r:=(Ex.normal,[.bool false,q',v',.int .i64 ((i+1:Nat):Int)],g'')) ⟨rfl,q',b',bh',v',some (g'.next+1),rfl,W'.keepB s'' hA hph hz (fun j hj=>?_),by rw [eF,eL];exact S'',fun j hj=>?_⟩).eq (by
  simp -implicitDefEqProofs only [bin_add,Option.bind_some,suc64 i (by omega)])
 ·rw [Option.mem_toList] at hj
  have h1:=hbc j hj
  have h2:=bcl j hj
  exact⟨h1.1,fun e=>by have:=nb' j e;omega,fun e=>by have:=nbh' j e;omega⟩
 ·cases hj
  exact⟨by omega,fun e=>by have:=(W'.ql.blk _ e).1;omega,fun e=>by
   obtain⟨vh,_,sh⟩:=W'.hl
   have:=(sh.blk _ e).1;omega⟩
end
section
variable {g0:Heap}{A:Nat→Nat}{ph:Nat}{x0 x1 x2:AV}{rs fl:List Int}{sl:List Bool}
theorem ways_L1 (hA:∀ i,i < 11→A i<g0.next)(hph:ph<g0.next)(hpA:∀ i,i < 11→A i≠ph)(hp0:ph≠0)(hz:0<g0.next)(W:Cw g0 g0 A ph 20 [] (.sl none 0 (.ex 0)) none none)
  (h0:∀ g',Same [A 5,A 7,A 8,ph] g0 g'→RdC g' 1 x0 (rs.map fun n=>.int .i64 n) rs.length) (h1:∀ g',Same [A 5,A 7,A 8,ph] g0 g'→RdC g' 1 x1 (fl.map fun n=>.int .i64 n) fl.length) (h2:∀ g',Same [A 5,A 7,A 8,ph] g0 g'→RdC g' 1 x2 (sl.map AV.bool) sl.length) (hr:rs.length≤4) :
  Ok (CG x0 x1 x2 (.ptr (some (A 0,0))) (.ptr (some (ph,0))) (.bool false) (.sl none 0 (.ex 0)) (.sl none 0 (.ex 0)) (.int .i64 0) g0) fun r=>r.1 = .exit 0∧r.2.1.getD 0 .bot = .bool false∧∃ cs b bh bc,cs.length≤4∧Cw g0 r.2.2 A ph 20 cs (r.2.1.getD 1 .bot) b bh∧SlB r.2.2 bc 3 (r.2.1.getD 2 .bot) (onR cs).flatten (onR cs).length∧(∀ j,bc=some j→g0.next≤j):=by
 refine ok_loop (fun m vs g=>∃ (i:Nat) (cs:CnL) (q qc:AV) (b bh bc:Option Nat),vs = [.bool false,q,qc,.int .i64 (i:Int)]∧m+i=rs.length∧cs.length=i∧Cw g0 g A ph 20 cs q b bh∧SlB g bc 3 qc (onR cs).flatten (onR cs).length∧∀ j,bc=some j→g0.next≤j∧b≠some j∧bh≠some j) ?_ (n:=rs.length) (by omega) ⟨0,[],_,_,_,_,none,rfl,by omega,rfl,W,SlB.mt,by simp⟩
 rintro m vs g ⟨i,cs,q,qc,b,bh,bc,rfl,hm,hl,W,S,hbc⟩
 have e0:([AV.bool false,q,qc,.int .i64 (i:Int)]:List AV).getD 0 .bot = .bool false:=rfl
 have e1:([AV.bool false,q,qc,.int .i64 (i:Int)]:List AV).getD 1 .bot=q:=rfl
 have e2:([AV.bool false,q,qc,.int .i64 (i:Int)]:List AV).getD 2 .bot=qc:=rfl
 have e3:([AV.bool false,q,qc,.int .i64 (i:Int)]:List AV).getD 3 .bot = .int .i64 (i:Int):=rfl
 rw [e0,e1,e2,e3]
 have lnx:=(h0 g W.same).lnL
 by_cases hi:i<rs.length
 ·have hlt:(i:Int)<rs.length:=by omega
  obtain⟨r,hri⟩:∃ r,rs[i]?=some r:=⟨_,List.getElem?_eq_getElem hi⟩
  have R':RdC g 1 x0 (rs.map fun n=>.int .i64 n) (rs.map fun n=>AV.int .i64 n).length:=by rw [List.length_map];exact h0 g W.same
  obtain⟨pp,ix,ld⟩:=rdc_ld R' (i:=i) (x:=.int .i64 r) (by rw [List.getElem?_map,hri];rfl)
  have a3:binP .and (.int .i64 r) (.int .i64 3)=some (.int .i64 (r % 4)):=and_mask r 2 (by omega)
  obtain⟨l,H,hc,hu,hN⟩:=W.hp
  obtain⟨vh,hvh,sh⟩:=W.hl
  have g0g:=W.same.next
  have bl:∀ j,b=some j→j<g.next:=fun j hj=>(W.ql.blk j hj).1
  have bhl:∀ j,bh=some j→j<g.next:=fun j hj=>(sh.blk j hj).1
  have bcl:∀ j,bc=some j→j<g.next:=fun j hj=>(S.blk j hj).1
  refine Ok.eq ?_ (by simp -implicitDefEqProofs only [CB,lnx,bin_lss,hlt,decide_true,Option.bind_some,condE_true,ix,ld,a3,show bldS [(0,1),(1,1),(2,1)] [(AV.int .i64 0),(AV.int .i64 0),(AV.bool false)] [(0,(AV.int .i64 (r % 4)))]=some (.agg (One.row ⟨r % 4,0,false⟩)) from rfl]<;>rfl)
  refine ok_tmp (cs:=One.row ⟨r % 4,0,false⟩) (n:=3) rfl rfl rfl fun g1 s1 k1 b1=>?_
  obtain⟨p,hpe⟩:∃ p,p=g.next:=⟨_,rfl⟩
  rw [← hpe] at b1 ⊢
  have f0:ldS g1 (.ptr (some (p,0+0)))=some (.int .i64 (r % 4)):=by rw [ldS_at b1];rfl
  refine Ok.eq ?_ (by simp -implicitDefEqProofs only [faP_ptr,f0,Option.bind_some]<;>rfl)
  refine ok_cl (cmake_ok (H.keep s1) (sx:=0) (s:=⟨3,0,0#64⟩) rfl rfl (room:=r % 4) (by omega) (by omega) (by omega) _) ?_
  rintro _ g2 ⟨ad,l',rest,rfl,H2,s2,C,ws,M⟩
  simp only at H2 s2
  have C':ChAt l'.ar sh16 ad (newC (r % 4)) false 0 rest:=C
  have hc2:=chl_made H.wf hc M C'
  have offA:∀ j,g0.next≤j→j∉[A 5,A 7,A 8]:=fun j hj hm=>by
   have h5:=hA 5 (by omega)
   have h7:=hA 7 (by omega)
   have h8:=hA 8 (by omega)
   simp only [List.mem_cons,List.not_mem_nil,or_false] at hm
   omega
  have hp2:=(s2.get p (by omega) (offA p (by omega))).trans b1
  have n2:=s2.next
  have s02:Same [A 5,A 7,A 8,ph] g0 g2:=(W.same.trans (s1.sub (by simp))).trans (s2.sub (by simp))
  refine Ok.eq ?_ (by simp -implicitDefEqProofs only [extractV_tup,Go.Ab.F.e0,Go.Ab.F.e1,Go.Ab.F.e2,Option.bind_some,neq_int,decide_true,Bool.not_true,condE_false]<;>rfl)
  refine ok_lp (ways_L0 (i:=i) (p:=p) (fun k hk=>⟨by have:=hA k hk;omega,by have:=hA k hk;omega⟩) (by omega) H2 hc2 rfl hp2 (by omega) fun g' s=>h1 g' (s02.old s fun j hj=>by
   simp only [List.mem_cons,List.not_mem_nil,or_false] at hj
   rcases hj with rfl | rfl
   ·exact .inl (by simp)
   ·exact .inr (by omega))) ?_
  rintro _ vs g3 ⟨rfl,l3,c3,H3,hc3,hcl3,hp3,hu3,hsp3,s3⟩
  simp only at H3 hp3 s3
  have n3:=s3.next
  have s13:Same [A 5,A 7,A 8,p] g g3:=((s1.sub (by simp)).trans (s2.sub (by simp))).trans (s3.sub (by simp))
  have s03:Same [A 5,A 7,A 8,ph] g0 g3:=s02.old s3 fun j hj=>by
   simp only [List.mem_cons,List.not_mem_nil,or_false] at hj
   rcases hj with rfl | rfl
   ·exact .inl (by simp)
   ·exact .inr (by omega)
  have M1:=M.used
  have M2:=M.len
  have R2:=h2 g3 s03
  have lnx2:=R2.lnL
  -- the tail
  have tail:∀ (g4:Heap) (l4:PAl) (c4:Chan),HpAt g4 A l4 sh16 0→ChL l4 (cs ++ [(ad,c4)])→g4.get p=some (.cells true (oneC (ad,c4)).row)→l4.ar.used=l3.ar.used→l4.ar.sp.length=l3.ar.sp.length→Same [A 7,p] g3 g4→
    Ok (A5 (.ptr (some (ph,0))) (.bool false) q qc (.int .i64 (i:Int)) (.ptr (some (p,0))) (.int .i64 ad) g4) fun r=>(r.1 = .normal∧∃ m',m'<m∧∃ (i:Nat) (cs:CnL) (q qc:AV) (b bh bc:Option Nat),r.2.1 = [.bool false,q,qc,.int .i64 (i:Int)]∧m'+i=rs.length∧cs.length=i∧Cw g0 r.2.2 A ph 20 cs q b bh∧SlB r.2.2 bc 3 qc (onR cs).flatten (onR cs).length∧∀ j,bc=some j→g0.next≤j∧b≠some j∧bh≠some j)∨(r.1≠.normal∧r.1 = .exit 0∧r.2.1.getD 0 .bot = .bool false∧∃ cs b bh bc,cs.length≤4∧Cw g0 r.2.2 A ph 20 cs (r.2.1.getD 1 .bot) b bh∧SlB r.2.2 bc 3 (r.2.1.getD 2 .bot) (onR cs).flatten (onR cs).length∧(∀ j,bc=some j→g0.next≤j)):=fun g4 l4 c4 H4 hc4 hp4 hu4 hsp4 s4=>by
   have s14:Same [A 5,A 7,A 8,p] g g4:=s13.trans (s4.sub (by simp))
   have off:∀ j,g0.next≤j→j<g.next→j∉[A 5,A 7,A 8,p]:=fun j hj hl hm=>by
    have:=offA j hj
    simp only [List.mem_cons,List.not_mem_nil,or_false,not_or] at hm this
    rcases hm with h | h | h | h
    ·exact this.1 h
    ·exact this.2.1 h
    ·exact this.2.2 h
    ·omega
   have n4:=s4.next
   refine(ways_j0 (i:=i) hA hph hpA hp0 hz H4 hc4 (by omega) (by omega) (W.ql.same s14 fun j hj=>off j (W.n1 j hj) (bl j hj)) ⟨vh,(s14.get ph (by omega) ?_).trans hvh,sh.same s14 fun j hj=>off j (W.n2 j hj) (bhl j hj)⟩ W.n1 W.n2 W.df ?_ (by omega) hp4 (by omega) (by omega) (fun e=>by have:=bl p e;omega) (fun e=>by have:=bhl p e;omega) (S.same s14 fun j hj=>off j (hbc j hj).1 (bcl j hj)) hbc (by omega)).mono ?_
   ·simp only [List.mem_cons,List.not_mem_nil,or_false,not_or]
    exact⟨fun e=>hpA 5 (by omega) e.symm,fun e=>hpA 7 (by omega) e.symm,fun e=>hpA 8 (by omega) e.symm,by omega⟩
   ·refine s03.old s4 fun j hj=>?_
    simp only [List.mem_cons,List.not_mem_nil,or_false] at hj
    rcases hj with rfl | rfl
    ·exact .inl (by simp)
    ·exact .inr (by omega)
   ·rintro r ⟨er,q',b',bh',qc',bc',ev,W',S',hb'⟩
    exact .inl ⟨er,m - 1,by omega,i+1,_,q',qc',b',bh',bc',ev,by omega,by simp [hl],W',S',hb'⟩
  have hrow3:g3.get p=some (.cells true (oneC (ad,c3)).row):=by
   rw [hp3]
   have:decide (c3.closed≠0)=false:=decide_eq_false (by simp [hcl3])
   unfold oneC
   rw [this]
  have T3:=tail g3 l3 c3 H3 hc3 hrow3 rfl rfl (Same.refl _ _)
  by_cases hs:i<sl.length
  ·have hlt2:(i:Int)<sl.length:=by omega
   obtain⟨z,hz'⟩:∃ z,sl[i]?=some z:=⟨_,List.getElem?_eq_getElem hs⟩
   have R2':RdC g3 1 x2 (sl.map AV.bool) (sl.map AV.bool).length:=by rw [List.length_map];exact R2
   obtain⟨p2,ix2,ld2⟩:=rdc_ld R2' (i:=i) (x:=.bool z) (by rw [List.getElem?_map,hz'];rfl)
   cases z with
   | false=>
    exact T3.eq (by simp -implicitDefEqProofs only [if_true,thenK_normal,lnx2,bin_lss,hlt2,decide_true,Option.bind_some,gdW_tt,gQ_true,cl_some,ix2,ld2,pickP_bool,condE_false])
   | true=>
    obtain⟨rest3,C3⟩:=hc3.at_ (ad,c3) (by simp)
    simp only at C3
    refine Ok.eq ?_ (by simp -implicitDefEqProofs only [if_true,thenK_normal,lnx2,bin_lss,hlt2,decide_true,Option.bind_some,gdW_tt,gQ_true,cl_some,ix2,ld2,pickP_bool,condE_true]<;>rfl)
    refine ok_cl (close_ok H3 C3) ?_
    rintro v g4 hv
    rw [if_pos hcl3] at hv
    obtain⟨rfl,l4,H4,s4,Wr⟩:=hv
    simp only at H4 s4
    have hp4:=(s4.get p (by omega) (by simp;have:=hA 7 (by omega);omega)).trans hp3
    obtain⟨g5,hg5⟩:∃ g5,g5=g4.put p (some (.cells true (One.row ⟨c3.room,c3.count,true⟩))):=⟨_,rfl⟩
    have st:stP 1 g4 (.ptr (some (p,0+2))) (.bool true)=some (.bot,g5):=by
     rw [stP_one hp4 (o:=0+2) (by simp [One.row]) rfl,hg5];rfl
    have s5:Same [p] g4 g5:=by rw [hg5];exact Same.put _ _ _
    have n4:=s4.next
    have H5:=H4.mono s5 (fun k hk hm=>by have:=hA k hk;simp at hm;omega) (by simp;omega)
    have T5:=tail g5 l4 c3.shut H5 (chl_wrote2 hc3 C3 rfl (shut_chok C3.ok) Wr) (by rw [hg5];exact get_put_eq) (wrote_used Wr) (by rw [Wr.sp]) ((s4.sub (by simp)).trans (s5.sub (by simp)))
    exact T5.eq (by simp -implicitDefEqProofs only [faP_ptr,Option.bind_some,st,cl_some])
  ·have hlt2 : ¬ (i:Int)<sl.length:=by omega
   exact T3.eq (by simp -implicitDefEqProofs only [if_true,thenK_normal,lnx2,bin_lss,hlt2,decide_false,Option.bind_some,gdW_ft,gQ_false,pickP_bool,Bool.false_eq_true,if_false,condE_false])
 ·have hlt : ¬ (i:Int)<rs.length:=by omega
  exact(Ok.of (r:=(Ex.exit 0,[.bool false,q,qc,.int .i64 (i:Int)],g)) (.inr ⟨by simp,rfl,rfl,cs,b,bh,bc,by omega,W,S,fun j hj=>(hbc j hj).1⟩)).eq (by
   simp -implicitDefEqProofs only [CB,lnx,bin_lss,hlt,decide_false,Option.bind_some,condE_false])
end
set_option linter.all false
attribute [local congr] c_bind c_cl c_mk c_lp c_clC c_gQ c_gV c_condE c_thenK
section
variable {g:Heap}{tb mp i:Nat}{sv cv fv x3 q:AV}{cs:CnL}{b:Option Nat}{xs:List Go3}{x:Go3}{gs:List Gk}{ss:List Nat}{vs0:List AV}
theorem ways_j1 (T:TbB g tb mp sv cv fv gs ss)(hx:GosRd g x3 xs)(hi:xs[i]?=some x)(hg:gs.length=i)(hil:i < 60)(y:Gk)(hy:y.fn=fnK x)(hc:y.c=7) :
  Ok (Ba x3 (.ptr (some (tb,0))) (.bool false) (.int .i64 (i:Int)) (.int .i64 y.a) (.int .i64 y.b) g) fun r=>r.1 = .normal∧r.2.1 = [.bool false,.int .i64 ((i+1:Nat):Int)]∧∃ s,TbB r.2.2 tb mp sv cv fv (gs ++ [y]) (ss ++ [s])∧Same [tb,mp] g r.2.2:=by
 obtain⟨bb,oo,_,ix,_,lx⟩:=hx.at_ hi
 have f0:=lx 0 _ rfl
 have fe:x.fn % 8 % 7=y.fn:=hy.symm
 have lo:=fnK_lo x
 have eB:bsP 1 [(AV.int .i64 0)] 3 [(0,.int .i64 y.a),(1,.int .i64 y.b),(2,(AV.int .i64 7))]=some (.cells true [.int .i64 y.a,.int .i64 y.b,.int .i64 y.c],fun i=>.sl (some (i,0)) 3 (.ex 3)):=by rw [hc];rfl
 obtain⟨g1,hg1⟩:∃ g1,g1=g.new (.cells true [.int .i64 y.a,.int .i64 y.b,.int .i64 y.c]):=⟨_,rfl⟩
 have s1:Same [] g g1:=by rw [hg1];exact Same.new _ _
 have b1:g1.get g.next=some (.cells true [.int .i64 y.a,.int .i64 y.b,.int .i64 y.c]):=by rw [hg1];exact get_new_eq
 have n1:g1.next=g.next+1:=by rw [hg1];rfl
 refine Ok.eq ?_ (by simp -implicitDefEqProofs only [Ba,ix,faP_ptr,f0,Option.bind_some,and_7,rem_7,fe,eB,mk_some,← hg1]<;>rfl)
 refine ok_cl (add_ok (T.keep s1) (x:=y) (by omega) (by omega) (c:=.ex 3) b1 (by omega) (by omega)) ?_
 rintro _ g2 ⟨s,rfl,T2,s2⟩
 simp only at T2 s2
 rw [hg]
 exact(Ok.of (r:=(Ex.normal,[.bool false,.int .i64 ((i+1:Nat):Int)],g2)) ⟨rfl,rfl,s,T2,(s1.sub (by simp)).trans s2⟩).eq (by
  simp -implicitDefEqProofs only [extractV_tup,e0,e1,Option.bind_some,neq_int,decide_true,Bool.not_true,gdW_ff,gQ_true,cl_some,bin_add,suc64 i (by omega),pickP_bool,Bool.false_eq_true,if_false,condE_false])
theorem adI_at (V:Vw g b 1 q (adL cs)){a:Int}(h0:0≤a)(h1:a<cs.length):∃ p,iaS 1 q (.int .i64 a)=some (.ptr (some p))∧ldS g (.ptr (some p))=some (.int .i64 (adI cs a)):=by
 obtain⟨c,hc,_,e⟩:=adI_in h0 h1
 exact adL_at V (i:=a.toNat) (c:=adI cs a) (by rw [hc,e];rfl) (by omega)
theorem ways_j2 (T:TbB g tb mp sv cv fv gs ss)(hx:GosRd g x3 xs)(hi:xs[i]?=some x)(hg:gs.length=i)(hil:i < 60)(V:Vw g b 1 q (adL cs))(hv:vs0.getD 1 .bot=q) :
  Ok (Ac x3 vs0 (.ptr (some (tb,0))) (.bool false) (.int .i64 (i:Int)) (.int .i64 (gkS cs x).a) g) fun r=>r.1 = .normal∧r.2.1 = [.bool false,.int .i64 ((i+1:Nat):Int)]∧∃ s,TbB r.2.2 tb mp sv cv fv (gs ++ [gkS cs x]) (ss ++ [s])∧Same [tb,mp] g r.2.2:=by
 obtain⟨bb,oo,_,ix,_,lx⟩:=hx.at_ hi
 have f2:=lx 2 _ rfl
 have J:=ways_j1 T hx hi hg hil (gkS cs x) rfl rfl
 have lq:lnL q=some (.int .i64 cs.length):=by have:=V.lnL;simpa [adL] using this
 have eb:(gkS cs x).b=adI cs x.b:=rfl
 rw [eb] at J
 by_cases h0:0≤x.b
 ·by_cases h1:x.b<cs.length
  ·obtain⟨p,ixp,ldp⟩:=adI_at V h0 h1
   exact J.eq (by simp -implicitDefEqProofs only [Ac,ix,faP_ptr,f2,Option.bind_some,bin_geq,h0,decide_true,gdW_tt,gQ_true,cl_some,hv,lq,bin_lss,h1,pickP_bool,if_true,condE_true,ixp,ldp])
  ·rw [adI_out (.inr (by omega))] at J
   exact J.eq (by simp -implicitDefEqProofs only [Ac,ix,faP_ptr,f2,Option.bind_some,bin_geq,h0,decide_true,decide_false,gdW_tt,gQ_true,cl_some,hv,lq,bin_lss,h1,pickP_bool,if_true,condE_false])
 ·rw [adI_out (.inl (by omega))] at J
  exact J.eq (by simp -implicitDefEqProofs only [Ac,ix,faP_ptr,f2,Option.bind_some,bin_geq,h0,decide_false,gdW_ft,gQ_false,pickP_bool,Bool.false_eq_true,if_false,condE_false])
theorem ways_L2 (hx:∀ g',Same [tb,mp] g g'→GosRd g' x3 xs)(hxl:xs.length≤8)(T:TbB g tb mp sv cv fv [] [])(V:Vw g b 1 q (adL cs))(hb:∀ j,b=some j→j≠tb∧j≠mp)(hv:vs0.getD 1 .bot=q) :
  Ok (CI x3 vs0 (.ptr (some (tb,0))) (.bool false) (.int .i64 0) g) fun r=>r.1 = .exit 4∧r.2.1.getD 0 .bot = .bool false∧∃ ss,TbB r.2.2 tb mp sv cv fv (xs.map (gkS cs)) ss∧Same [tb,mp] g r.2.2:=by
 refine ok_loop (fun m vs g2=>∃ (i:Nat) (ss:List Nat),vs = [.bool false,.int .i64 (i:Int)]∧m+i=xs.length∧TbB g2 tb mp sv cv fv ((xs.take i).map (gkS cs)) ss∧Same [tb,mp] g g2) ?_ (n:=xs.length) (by omega) ⟨0,[],rfl,by omega,T,Same.refl _ _⟩
 rintro m vs g2 ⟨i,ss,rfl,hm,T2,s2⟩
 rw [gd0,gd1]
 have hx2:=hx g2 s2
 by_cases hi:i<xs.length
 ·have hlt:(i:Int)<xs.length:=by omega
  obtain⟨x,hxi⟩:∃ x,xs[i]?=some x:=⟨_,List.getElem?_eq_getElem hi⟩
  have et:xs.take (i+1)=xs.take i ++ [x]:=by rw [List.take_succ,hxi];rfl
  obtain⟨bb,oo,_,ix,_,lx⟩:=hx2.at_ hxi
  have f1:=lx 1 _ rfl
  have V2:=V.same s2 (fun j hj hm=>by
   have:=hb j hj
   simp only [List.mem_cons,List.not_mem_nil,or_false] at hm
   omega)
  have tl:((xs.take i).map (gkS cs)).length=i:=by rw [List.length_map,List.length_take];omega
  have J:=ways_j2 T2 hx2 hxi tl (by omega) V2 hv
  have lq:lnL q=some (.int .i64 cs.length):=by have:=V2.lnL;simpa [adL] using this
  have ea:(gkS cs x).a=adI cs x.a:=rfl
  rw [ea] at J
  have J':Ok (Ac x3 vs0 (.ptr (some (tb,0))) (.bool false) (.int .i64 (i:Int)) (.int .i64 (adI cs x.a)) g2) fun r=>(r.1 = .normal∧∃ m',m'<m∧∃ (i:Nat) (ss:List Nat),r.2.1 = [.bool false,.int .i64 (i:Int)]∧m'+i=xs.length∧TbB r.2.2 tb mp sv cv fv ((xs.take i).map (gkS cs)) ss∧Same [tb,mp] g r.2.2)∨(r.1≠.normal∧r.1 = .exit 4∧r.2.1.getD 0 .bot = .bool false∧∃ ss,TbB r.2.2 tb mp sv cv fv (xs.map (gkS cs)) ss∧Same [tb,mp] g r.2.2):=
   J.mono fun r ⟨e1,e2,s,T3,s3⟩=>.inl ⟨e1,m - 1,by omega,i+1,_,e2,by omega,by rw [et,List.map_append];exact T3,s2.trans s3⟩
  by_cases h0:0≤x.a
  ·by_cases h1:x.a<cs.length
   ·obtain⟨p,ixp,ldp⟩:=adI_at V2 h0 h1
    exact J'.eq (by simp -implicitDefEqProofs only [A6,hx2.lnL,hlt,ix,faP_ptr,f1,Option.bind_some,bin_geq,h0,decide_true,gdW_tt,gQ_true,cl_some,hv,lq,bin_lss,h1,pickP_bool,if_true,condE_true,ixp,ldp])
   ·rw [adI_out (.inr (by omega))] at J'
    exact J'.eq (by simp -implicitDefEqProofs only [A6,hx2.lnL,hlt,ix,faP_ptr,f1,Option.bind_some,bin_geq,h0,decide_true,decide_false,gdW_tt,gQ_true,cl_some,hv,lq,bin_lss,h1,pickP_bool,if_true,condE_true,condE_false])
  ·rw [adI_out (.inl (by omega))] at J'
   exact J'.eq (by simp -implicitDefEqProofs only [A6,hx2.lnL,bin_lss,hlt,decide_true,condE_true,ix,faP_ptr,f1,Option.bind_some,bin_geq,h0,decide_false,gdW_ft,gQ_false,pickP_bool,Bool.false_eq_true,if_false,condE_false])
 ·have hlt : ¬ (i:Int)<xs.length:=by omega
  have e:xs.take i=xs:=List.take_of_length_le (by omega)
  rw [e] at T2
  exact(Ok.of (r:=(Ex.exit 4,[.bool false,.int .i64 (i:Int)],g2)) (.inr ⟨by simp,rfl,rfl,ss,T2,s2⟩)).eq (by
   simp -implicitDefEqProofs only [A6,hx2.lnL,Option.bind_some,bin_lss,hlt,decide_false,condE_false])
end
set_option linter.all false
attribute [local congr] c_bind c_cl c_mk c_lp c_clC c_gQ c_gV c_condE c_thenK
theorem neq_way (a b c:Int):eqP (some (.struct #[])) (some [(0,(.int .i64)),(1,(.int .i64)),(2,(.int .i64))]) false .neq (.agg (wyC a b c)) (.agg (wyC a b c))=some (.bool false):=by
 have e:eqP (some (.struct #[])) (some [(0,(.int .i64)),(1,(.int .i64)),(2,(.int .i64))]) false .neq (.agg (wyC a b c)) (.agg (wyC a b c))=(eqFs [(0,(.int .i64)),(1,(.int .i64)),(2,(.int .i64))] (wyC a b c) (wyC a b c)).map fun b=>.bool !b:=rfl
 rw [e]
 simp [wyC,eqFs,eqT]
theorem lwP_way {n i:Nat}{s:Sd}:∀ {xs:List Go3} {k:Nat},∀ r∈lwP n i s k xs,∃ a b c,r=wyC a b c
 | [],k,r,h=>by simp [lwP] at h
 | y::xs,k,r,h=>by
  rw [lwP,List.mem_append] at h
  rcases h with h | h
  ·split at h
   ·cases h
   ·unfold lwP1 at h
    obtain⟨o,_,rfl⟩:=List.mem_map.1 h;exact⟨_,_,_,rfl⟩
  ·exact lwP_way r h
theorem lw1_way {ol:List One}{xs:List Go3}{i:Nat}{fn:Int}{s:Sd}:∀ r∈lw1 ol xs i fn s,∃ a b c,r=wyC a b c:=by
 intro r h
 unfold lw1 at h
 split at h
 ·split at h
  ·simp at h;exact⟨_,_,_,h⟩
  ·cases h
 ·split at h
  ·cases h
  ·split at h
   ·simp at h;exact⟨_,_,_,h⟩
   ·split at h
    ·exact lwP_way r h
    ·cases h
theorem lwL_way {ol:List One}{xs:List Go3}{i:Nat}{fn:Int}:∀ {ss:List Sd},∀ r∈lwL ol xs i fn ss,∃ a b c,r=wyC a b c
 | [],r,h=>by simp [lwL] at h
 | s::ss,r,h=>by
  rw [lwL,List.mem_append] at h
  exact h.elim (lw1_way r) (lwL_way r)
theorem lwG_way {ol:List One}{xs:List Go3}{i:Nat}{x:Go3}:∀ r∈lwG ol xs i x,∃ a b c,r=wyC a b c:=by
 intro r h
 unfold lwG at h
 split at h
 ·simp at h;exact⟨_,_,_,h⟩
 ·split at h
  ·simp at h;exact⟨_,_,_,h⟩
  ·exact lwL_way r h
theorem lwG_len {ol:List One}{xs:List Go3}{i:Nat}{x:Go3}(h8:xs.length≤8):(lwG ol xs i x).length≤34:=by
 unfold lwG
 split
 ·simp
 ·split
  ·simp
  ·have h1:=lwL_len (ol:=ol) (xs:=xs) (i:=i) (fn:=fnK x) (ss:=sideL ol.length x)
   have h2:=sideL_len ol.length x
   have:(sideL ol.length x).length*(2*xs.length+1)≤2 * 17:=Nat.mul_le_mul h2 (by omega)
   omega
theorem ways_L3 {g:Heap}{b1 b2:Option Nat}{v w q:AV}{W:List (List AV)}(V1:Vw g b1 3 v W)(V2:Vw g b2 3 w W)(hW:∀ r∈W,∃ a b c,r=wyC a b c)(hl:W.length≤1000) :
  Ok (Cx v w q (.int .i64 0) g) fun r=>r.1 = .exit 8∧r.2.1.getD 0 .bot=q∧r.2.2=g:=by
 refine ok_loop (fun m vs g'=>∃ k:Nat,vs = [q,.int .i64 (k:Int)]∧m+k=W.length∧g'=g) ?_ (n:=W.length) (by omega) ⟨0,rfl,by omega,rfl⟩
 rintro m vs g' ⟨k,rfl,hm,hg⟩
 subst hg
 rw [gd0,gd1]
 have lnv:=V1.lnL
 by_cases hk:k<W.length
 ·have hlt:(k:Int)<W.length:=by omega
  obtain⟨r,hr⟩:∃ r,W[k]?=some r:=⟨_,List.getElem?_eq_getElem hk⟩
  obtain⟨a,b,c,rfl⟩:=hW r (List.mem_of_getElem? hr)
  obtain⟨p1,o1,_,_,ix1,la1,_⟩:=V1.at hr
  obtain⟨p2,o2,_,_,ix2,la2,_⟩:=V2.at hr
  exact(Ok.of (r:=(Ex.normal,[q,.int .i64 ((k+1:Nat):Int)],g')) (.inl ⟨rfl,m - 1,by omega,k+1,rfl,by omega,rfl⟩)).eq (by
   simp -implicitDefEqProofs only [CC,lnv,bin_lss,hlt,decide_true,Option.bind_some,condE_true,ix1,la1 g' rfl,ix2,la2 g' rfl,neq_way,chk_nil,condE_false,bin_add,suc64 k (by omega)])
 ·have hlt : ¬ (k:Int)<W.length:=by omega
  exact(Ok.of (r:=(Ex.exit 8,[q,.int .i64 (k:Int)],g')) (.inr ⟨by simp,rfl,rfl,rfl⟩)).eq (by
   simp -implicitDefEqProofs only [CC,lnv,bin_lss,hlt,decide_false,Option.bind_some,condE_false])
def wlK (ol:List One)(xs:List Go3)(k:Nat):List (List AV):=match xs[k]? with
 | some x=>lwG ol xs k x
 | none=>[]
def onP (ol:List One)(xs:List Go3)(k:Nat):Bool:=decide (0<(wlK ol xs k).length)
def onL (ol:List One)(xs:List Go3)(i:Nat):List Int:=((List.range i).filter (onP ol xs)).map fun k=>((k+1:Nat):Int)
theorem onL_succ (ol:List One)(xs:List Go3)(i:Nat):onL ol xs (i+1)=onL ol xs i++(if onP ol xs i then [((i+1:Nat):Int)] else []):=by
 unfold onL
 rw [List.range_succ,List.filter_append,List.map_append]
 congr 1
 cases h:onP ol xs i<;>simp [List.filter,h]
theorem onL_len (ol:List One)(xs:List Go3)(i:Nat):(onL ol xs i).length≤i:=by
 unfold onL
 rw [List.length_map]
 have:=List.length_filter_le (onP ol xs) (List.range i)
 rwa [List.length_range] at this
def i1 (L:List Int):List (List AV):=L.map fun n=>[AV.int .i64 n]
theorem i1_row {L:List Int}:∀ r∈i1 L,r.length=1:=fun r hr=>by obtain⟨x,_,rfl⟩:=List.mem_map.1 hr;rfl
section
variable {g:Heap}{tb mp:Nat}{sv cv fv:AV}{ss:List Nat}{A:Nat→Nat}{l:PAl}{cs:CnL}{xs:List Go3}{x3 vc:AV}{bc:Option Nat}{vs0:List AV}
theorem ways_L4 (H:TbG g A l 0 tb mp sv cv fv (xs.map (gkS cs)) ss)(hc:ChL l cs)(hx:∀ g',Same [] g g'→GosRd g' x3 xs)(hV:Vw g bc 3 vc (onR cs))(h8:xs.length≤8)(hv:vs0.getD 2 .bot=vc) :
  Ok (CD x3 (.ptr (some (A 0,0))) vs0 (.ptr (some (tb,0))) (.bool false) (.sl none 0 (.ex 0)) (.int .i64 0) g) fun r=>r.1 = .exit 6∧r.2.1.getD 0 .bot = .bool false∧∃ b,Ow g r.2.2 b 1 (r.2.1.getD 1 .bot) (i1 (onL (cs.map oneC) xs xs.length)):=by
 have W:=H.T.P.wf
 refine ok_loop (fun m vs g2=>∃ (i:Nat) (q:AV) (b:Option Nat),vs = [.bool false,q,.int .i64 (i:Int)]∧m+i=xs.length∧Ow g g2 b 1 q (i1 (onL (cs.map oneC) xs i))) ?_ (n:=xs.length) (by omega) ⟨0,_,none,rfl,by omega,Ow.mt (Same.refl _ _)⟩
 rintro m vs g2 ⟨i,q,b,rfl,hm,O⟩
 have e0:([AV.bool false,q,.int .i64 (i:Int)]:List AV).getD 0 .bot = .bool false:=rfl
 have e1:([AV.bool false,q,.int .i64 (i:Int)]:List AV).getD 1 .bot=q:=rfl
 have e2:([AV.bool false,q,.int .i64 (i:Int)]:List AV).getD 2 .bot = .int .i64 (i:Int):=rfl
 rw [e0,e1,e2]
 have lnx:=(hx g (Same.refl _ _)).lnL
 by_cases hi:i<xs.length
 ·have hlt:(i:Int)<xs.length:=by omega
  obtain⟨x,hxi⟩:∃ x,xs[i]?=some x:=⟨_,List.getElem?_eq_getElem hi⟩
  have ew:wlK (cs.map oneC) xs i=lwG (cs.map oneC) xs i x:=by unfold wlK;rw [hxi]
  refine Ok.eq ?_ (by simp -implicitDefEqProofs only [CA,lnx,bin_lss,hlt,decide_true,Option.bind_some,condE_true,hv]<;>rfl)
  refine ok_cl (lw_ok (g:=g2) (fun g' s=>hx g' (O.same.trans s)) (fun g' s=>hV.keep (O.same.trans s)) hxi h8) ?_
  rintro v g3 ⟨b3,V3,s3,h3⟩
  simp only at V3 s3 h3
  have s03:=O.same.trans s3
  refine Ok.eq ?_ (by simp -implicitDefEqProofs only [bin_add,suc64 i (by omega),Option.bind_some]<;>rfl)
  refine ok_cl (waysT_ok (H.keep s03) (by rw [List.length_map];omega) (gkS_st W hc) (k:=i) (x:=gkS cs x) (by rw [List.getElem?_map,hxi];rfl)) ?_
  rintro w g4 ⟨b4,V4,s4,h4⟩
  simp only at V4 s4 h4
  rw [waysG_eq W hc] at V4
  have V3':=V3.keep s4
  have ln3:=V3'.lnL
  have ln4:=V4.lnL
  have hle:=lwG_len (ol:=cs.map oneC) (i:=i) (x:=x) h8
  refine Ok.eq ?_ (by simp -implicitDefEqProofs only [ln3,ln4,Option.bind_some,neq_int,decide_true,Bool.not_true,condE_false]<;>rfl)
  refine ok_lp (ways_L3 V3' V4 lwG_way (by omega)) ?_
  rintro _ vs1 g4' ⟨rfl,hv1,hg4⟩
  simp only at hv1 hg4
  rw [hg4]
  clear hg4
  have O4:=(O.keep s3).keep s4
  have hol:=onL_len (cs.map oneC) xs i
  by_cases hp:0<(lwG (cs.map oneC) xs i x).length
  ·have hp':(0:Int)<(lwG (cs.map oneC) xs i x).length:=by omega
   have eo:onL (cs.map oneC) xs (i+1)=onL (cs.map oneC) xs i ++ [((i+1:Nat):Int)]:=by
    rw [onL_succ];unfold onP;rw [ew,decide_eq_true hp];rfl
   refine Ok.eq ?_ (by simp -implicitDefEqProofs only [if_true,thenK_normal,ln3,Option.bind_some,bin_gtr,hp',decide_true,condE_true,hv1]<;>rfl)
   refine app1 O4.S (t:=.int .i64 ((i+1:Nat):Int)) rfl rfl rfl (by decide) (by simp [i1];omega) fun v' g5 S5 s5 n5=>?_
   refine(Ok.of (r:=(Ex.normal,[.bool false,v',.int .i64 ((i+1:Nat):Int)],g5)) (.inl ⟨rfl,m - 1,by omega,i+1,v',some (g4.next+1),rfl,by omega,?_⟩)).eq (by
    simp -implicitDefEqProofs only [BZ,bin_add,Option.bind_some,suc64 i (by omega)])
   refine⟨?_,O4.same.old s5 (fun j hj=>.inr (O4.new j (by simpa using hj))),fun j hj=>by cases hj;have:=O4.same.next;omega⟩
   have e3:i1 (onL (cs.map oneC) xs (i+1))=i1 (onL (cs.map oneC) xs i) ++ [[AV.int .i64 ((i+1:Nat):Int)]]:=by rw [eo];simp [i1]
   rw [e3,List.flatten_append,List.length_append]
   exact S5
  ·have hp' : ¬ (0:Int)<(lwG (cs.map oneC) xs i x).length:=by omega
   have eo:onL (cs.map oneC) xs (i+1)=onL (cs.map oneC) xs i:=by
    rw [onL_succ];unfold onP;rw [ew,decide_eq_false hp];simp
   refine(Ok.of (r:=(Ex.normal,[.bool false,q,.int .i64 ((i+1:Nat):Int)],g4)) (.inl ⟨rfl,m - 1,by omega,i+1,q,b,rfl,by omega,?_⟩)).eq (by
    simp -implicitDefEqProofs only [if_true,thenK_normal,ln3,Option.bind_some,bin_gtr,hp',decide_false,condE_false,hv1,BZ,bin_add,suc64 i (by omega)])
   rw [eo];exact O4
 ·have hlt : ¬ (i:Int)<xs.length:=by omega
  have ei:i=xs.length:=by omega
  subst ei
  exact(Ok.of (r:=(Ex.exit 6,[.bool false,q,.int .i64 (xs.length:Int)],g2)) (.inr ⟨by simp,rfl,rfl,b,O⟩)).eq (by
   simp -implicitDefEqProofs only [CA,lnx,Option.bind_some,bin_lss,hlt,decide_false,condE_false])
end
end Go.Ab.F
namespace Go.Ab.F
open Go Go.Ab
set_option linter.all false
attribute [local congr] c_bind c_cl c_mk c_lp c_clC c_gQ c_gV c_condE c_thenK
def Tst (call:CallF)(x:AV)(P:Int→Bool)(h:Heap)(S:List Nat):Prop:=
 ∀ g n,Same S h g→∃ f args,cvP x [.int .i64 n]=some (f,args)∧Ok (call f args g) fun r=>r.1 = .bool (P n)∧Same [] g r.2
theorem Tst.run {R:Type}{call:CallF}{x:AV}{P:Int→Bool}{h g:Heap}{S:List Nat}(H:Tst call x P h S)(n:Int)(s:Same S h g){K:AV→Heap→Option R}{Q:R→Prop}(hk:∀ g',Same [] g g'→Ok (K (.bool (P n)) g') Q):Ok (clF call (cvP x [.int .i64 n]) g K) Q:=by
 obtain⟨f,args,e1,e2⟩:=H g n s
 rw [e1]
 show Ok (cl (call f args g) K) _
 refine ok_cl e2 ?_
 rintro _ g' ⟨rfl,s'⟩
 exact hk g' s'
theorem index_ok {h0 h:Heap}{v x:AV}{l:List Int}{P:Int→Bool}(H:Lst h0 h v l)(hl:l.length≤4611686018427387904)(hP:Tst (lookT T77) x P h []) :
  Ok (AZ v x h) fun r=>Same [] h r.2∧((r.1 = .int .i64 (-1)∧∀ n∈l,P n=false)∨∃ k:Nat,r.1 = .int .i64 k∧k<l.length∧(∀ (j:Nat) n,j<k→l[j]?=some n→P n=false)∧∀ n,l[k]?=some n→P n=true):=by
 refine Ok.eq ?_ (by simp -implicitDefEqProofs only [AZ,H.lnL,Option.bind_some];rfl)
 refine ok_lp (P:=fun r=>Same [] h r.2.2∧((r.1 = .exit 0∧∀ n∈l,P n=false)∨∃ k:Nat,r.1 = .ret∧r.2.1.getD 0 .bot = .int .i64 k∧k<l.length∧(∀ (j:Nat) n,j<k→l[j]?=some n→P n=false)∧∀ n,l[k]?=some n→P n=true)) ?_ ?_
 ·refine ok_loop (fun m vs g=>∃ i:Nat,(∃ q,vs = [q,.int .i64 i])∧Same [] h g∧m+i=l.length∧∀ (j:Nat) n,j<i→l[j]?=some n→P n=false) ?_ (n:=l.length) (by omega)
   ⟨0,⟨_,rfl⟩,Same.refl _ _,rfl,fun j n hj=>by omega⟩
  rintro m vs g ⟨i,⟨q,rfl⟩,sg,hm,hall⟩
  rw [gd0,gd1]
  by_cases hi:i<l.length
  ·obtain⟨n,hn⟩:∃ n,l[i]?=some n:=⟨_,List.getElem?_eq_getElem hi⟩
   have hi':(i:Int)<l.length:=by omega
   obtain⟨b,_,_,hix,hld⟩:=(H.keep sg).at hn
   refine Ok.eq ?_ (by simp -implicitDefEqProofs only [A3,bin_lss,hi',decide_true,Option.bind_some,condE_true,hix,hld];rfl)
   refine hP.run n sg fun g' s'=>?_
   cases hp:P n with
   | true=>exact(Ok.of (r:=(Ex.ret,[AV.int .i64 (i:Int),.int .i64 (i:Int)],g')) (.inr ⟨by simp,sg.trans s',.inr ⟨i,rfl,rfl,hi,hall,fun n' hn'=>by rw [hn] at hn';cases hn';exact hp⟩⟩)).eq (by simp -implicitDefEqProofs only [condE_true])
   | false=>
    refine(Ok.of (r:=(Ex.normal,[q,AV.int .i64 ((i+1:Nat):Int)],g')) (.inl ⟨rfl,m - 1,by omega,i+1,⟨_,rfl⟩,sg.trans s',by omega,fun j n' hj hn'=>?_⟩)).eq (by simp -implicitDefEqProofs only [condE_false,bin_add,suc64 i (by omega),Option.bind_some])
    rcases (by omega:j<i∨j=i) with hj | rfl
    ·exact hall j n' hj hn'
    ·rw [hn] at hn';cases hn';exact hp
  ·have hi' : ¬ (i:Int)<l.length:=by omega
   refine(Ok.of (r:=(Ex.exit 0,[q,AV.int .i64 (i:Int)],g)) (.inr ⟨by simp,sg,.inl ⟨rfl,fun n hn=>?_⟩⟩)).eq (by simp -implicitDefEqProofs only [A3,bin_lss,hi',decide_false,Option.bind_some,condE_false])
   obtain⟨j,hj⟩:=List.getElem?_of_mem hn
   have:=(List.getElem?_eq_some_iff.1 hj).1
   exact hall j n (by omega) hj
 ·rintro _ vs g ⟨sg,⟨rfl,hall⟩ | ⟨k,rfl,hv,hk,h1,h2⟩⟩
  ·exact ok_val (v:=.int .i64 (-1)) (g:=g) (by simp -implicitDefEqProofs only [if_true,thenK_normal]) ⟨sg,.inl ⟨rfl,hall⟩⟩
  ·exact ok_val (v:=.int .i64 (k:Int)) (g:=g) (by simp only at hv;simp -implicitDefEqProofs only [reduceCtorEq,if_false,thenK_ret,endE_ret,hv]) ⟨sg,.inr ⟨k,rfl,hk,h1,h2⟩⟩
theorem filter_take_succ {P:Int→Bool}{l:List Int}{i:Nat}{x:Int}(hx:l[i]?=some x):(l.take (i+1)).filter P=(l.take i).filter P++(if P x then [x] else []):=by
 rw [List.take_add_one,hx,List.filter_append]
 cases hp:P x<;>simp [hp]
theorem filter_none {P:Int→Bool}:∀ {l:List Int},(∀ n∈l,P n=false)→l.filter (fun n=>!P n)=l
 | [],_=>rfl
 | x::l,h=>by rw [List.filter_cons_of_pos (by simp [h x (List.mem_cons_self ..)]),filter_none fun n hn=>h n (List.mem_cons_of_mem _ hn)]
theorem delete_ok {h0 h:Heap}{v x:AV}{l:List Int}{P:Int→Bool}(H:Lst h0 h v l)(hl:l.length≤4611686018427387904)(hP:Tst (lookT T77) x P h [])(hQ:∀ b n c,v = .sl (some (b,0)) n c→Tst (lookT T78) x P h [b]) :
  Ok (AJ v x h) fun r=>Lst h0 r.2 r.1 (l.filter fun n=>!P n):=by
 refine Ok.eq ?_ (by simp -implicitDefEqProofs only [AJ];rfl)
 refine ok_cl (index_ok H hl hP) ?_
 rintro w g ⟨sg,hr⟩
 simp only at hr sg
 have H:=H.keep sg
 rcases hr with⟨rfl,hall⟩ | ⟨k,rfl,hk,h1,h2⟩
 ·refine ok_val (by simp -implicitDefEqProofs only [eql_int,decide_true,Option.bind_some,condE_true];rfl) ?_
  rw [filter_none hall];exact H
 ·obtain⟨hs,heq⟩:=H
  rcases heq with⟨rfl,rfl⟩ | ⟨b,c,rest,rfl,hb1,hb2,hc,hbl,hsc⟩
  ·simp at hk
  have hQ:=hQ b _ c rfl
  have hne : ¬ ((k:Int) = -1):=by omega
  have hf0:(l.take k).filter (fun n=>!P n)=l.take k:=filter_none fun n hn=>by
   obtain⟨j,hj⟩:=List.getElem?_of_mem hn
   have hjk:j<k:=by have:=(List.getElem?_eq_some_iff.1 hj).1;simp at this;omega
   rw [List.getElem?_take,if_pos hjk] at hj
   exact h1 j n hjk hj
  refine Ok.eq ?_ (by simp -implicitDefEqProofs only [eql_int,hne,decide_false,Option.bind_some,condE_false,bin_add,suc64 k (by omega)];rfl)
  refine ok_lp (P:=fun r=>∃ (i:Nat) (cs:List AV) ,r.1 = .exit 0∧r.2.1.getD 0 .bot = .int .i64 i∧i=(l.filter fun n=>!P n).length∧i<l.length∧cs.length=l.length+rest.length∧cs.all scalar=true∧cs.take i=wI (l.filter fun n=>!P n)∧
   Same [b] g r.2.2∧r.2.2.get b=some (.cells true cs)) ?_ ?_
  ·refine ok_loop (fun m vs g'=>∃ (i j:Nat) (cs:List AV),vs = [.int .i64 i,.int .i64 j]∧m+j=l.length∧i<j∧i=((l.take j).filter fun n=>!P n).length∧cs.length=l.length+rest.length∧cs.all scalar=true∧cs.take i=wI ((l.take j).filter fun n=>!P n)∧cs.drop j=wI (l.drop j)++rest∧
    Same [b] g g'∧g'.get b=some (.cells true cs)) ?_ (n:=l.length-(k+1)) (by omega) ?_
   ·rintro m vs g' ⟨i,j,cs,rfl,hm,hij,hi,hlen,hcs,ht,hd,hsame,hget⟩
    rw [gd0,gd1]
    have hlnL:lnL (.sl (some (b,0)) l.length c)=some (.int .i64 l.length):=by simp
    by_cases hj:j<l.length
    ·obtain⟨n,hn⟩:∃ n,l[j]?=some n:=⟨_,List.getElem?_eq_getElem hj⟩
     have hj':(j:Int)<l.length:=by omega
     have hcj:cs[j]?=some (.int .i64 n):=by
      have:=congrArg (fun l=>l[0]?) hd
      simp only [List.getElem?_drop,Nat.add_zero] at this
      rw [this,List.getElem?_append_left (by rw [len_wI];simp;omega)]
      simp [wI,hn]
     have hix:iaS 1 (.sl (some (b,0)) l.length c) (.int .i64 (j:Int))=some (.ptr (some (b,j))):=by rw [iaS_sl 1 (b,0) _ _ _ _ ⟨by omega,by omega⟩];simp
     have hix2:iaS 1 (.sl (some (b,0)) l.length c) (.int .i64 (i:Int))=some (.ptr (some (b,i))):=by rw [iaS_sl 1 (b,0) _ _ _ _ ⟨by omega,by omega⟩];simp
     have hld:ldS g' (.ptr (some (b,j)))=some (.int .i64 n):=by rw [ldS_at hget,hcj]
     have hdj:cs.drop (j+1)=wI (l.drop (j+1))++rest:=by
      have:=congrArg (List.drop 1) hd
      rw [List.drop_drop,List.drop_append_of_le_length (by rw [len_wI];simp;omega)] at this
      rw [this];simp [wI,List.map_drop,List.drop_drop]
     have ej:((j:Int)+1)=((j+1:Nat):Int):=by omega
     refine Ok.eq ?_ (by simp -implicitDefEqProofs only [A1,hlnL,bin_lss,hj',decide_true,Option.bind_some,condE_true,hix,hld];rfl)
     refine hQ.run n ((sg.sub (by simp)).trans hsame) fun g'' s''=>?_
     have hget:=(s''.get b (Nat.lt_of_lt_of_le hb2 hsame.next) (by simp)).trans hget
     have hsame:=hsame.trans (s''.sub (by simp):Same [b] g' g'')
     have hft:=filter_take_succ (P:=fun n=>!P n) hn
     cases hp:P n with
     | true=>
      rw [hp] at hft
      simp only [Bool.not_true,Bool.false_eq_true,if_false,List.append_nil] at hft
      refine(Ok.of (r:=(Ex.normal,[AV.int .i64 (i:Int),.int .i64 ((j+1:Nat):Int)],g'')) (.inl ⟨rfl,m - 1,by omega,i,j+1,cs,rfl,by omega,by omega,by rw [hft];exact hi,hlen,hcs,by rw [hft];exact ht,hdj,hsame,hget⟩)).eq (by simp -implicitDefEqProofs only [un_not,Bool.not_true,condE_false,bin_add,suc64 j (by omega),Option.bind_some])
     | false=>
      rw [hp] at hft
      simp only [Bool.not_false,if_true] at hft
      have hst:stP 1 g'' (.ptr (some (b,i))) (.int .i64 n)=some (.bot,g''.put b (some (.cells true (cs.set i (.int .i64 n))))):=stP_one hget (by omega) rfl
      refine(Ok.of (r:=(Ex.normal,[AV.int .i64 ((i+1:Nat):Int),.int .i64 ((j+1:Nat):Int)],g''.put b (some (.cells true (cs.set i (.int .i64 n)))))) (.inl ⟨rfl,m - 1,by omega,i+1,j+1,cs.set i (.int .i64 n),rfl,by omega,by omega,by rw [hft];simp;exact hi,by simpa using hlen,?_,?_,?_,hsame.trans (Same.put _ _ _),get_put_eq⟩)).eq (by simp -implicitDefEqProofs only [un_not,Bool.not_false,condE_true,hix2,hst,cl_some,bin_add,suc64 i (by omega),suc64 j (by omega),Option.bind_some])
      ·simp only [List.all_eq_true] at hcs ⊢
       intro y hy
       rcases List.mem_or_eq_of_mem_set hy with hy | rfl
       ·exact hcs y hy
       ·rfl
      ·rw [hft,List.take_add_one,List.take_set_of_le (Nat.le_refl _),ht,List.getElem?_set_self (by omega)]
       simp [wI]
      ·rw [List.drop_set_of_lt (by omega)];exact hdj
    ·have hj' : ¬ (j:Int)<l.length:=by omega
     have htl:l.take j=l:=List.take_of_length_le (by omega)
     rw [htl] at hi ht
     refine(Ok.of (r:=(Ex.exit 0,[AV.int .i64 (i:Int),.int .i64 (j:Int)],g')) (.inr ⟨by simp,i,cs,rfl,rfl,hi,?_,hlen,hcs,ht,hsame,hget⟩)).eq (by simp -implicitDefEqProofs only [A1,hlnL,bin_lss,hj',decide_false,Option.bind_some,condE_false])
     omega
   ·obtain⟨n,hn⟩:∃ n,l[k]?=some n:=⟨_,List.getElem?_eq_getElem hk⟩
    have hft:=filter_take_succ (P:=fun n=>!P n) hn
    rw [h2 n hn] at hft
    simp only [Bool.not_true,Bool.false_eq_true,if_false,List.append_nil,hf0] at hft
    refine⟨k,k+1,wI l++rest,rfl,by omega,by omega,by rw [hft];simp;omega,by simp [len_wI],by rw [List.all_append,sc_wI,hsc];rfl,?_,?_,Same.refl _ _,hbl⟩
    ·rw [hft,List.take_append_of_le_length (by rw [len_wI];omega)];simp [wI,List.map_take]
    ·rw [List.drop_append_of_le_length (by rw [len_wI];omega)];simp [wI,List.map_drop]
  ·rintro _ vs g3 ⟨i,cs,rfl,hv,hi,hil,hlen,hcs,ht,hsame,hget⟩
   simp only at hv hsame hget
   obtain⟨c1,e1,_⟩:=slc_from (b:=b) hil hc
   obtain⟨c2,e2,hc2⟩:=slc_to (b:=b) (Nat.le_of_lt hil) hc
   obtain⟨cs',e3,t3,s3,l3⟩:=clL_at (k:=i) (n:=l.length-i) (c:=c1) hget (by omega)
   rw [if_neg (by omega)] at e3
   refine ok_val (by simp -implicitDefEqProofs only [if_true,thenK_normal,hv,e1,Option.bind_some,e3,cl_some,e2];rfl) ?_
   have hs3:Same [] h0 (g3.put b (some (.cells true cs'))):=hs.old (hsame.trans (Same.put _ _ _)) (fun j hj=>.inr (by simp at hj;omega))
   refine⟨hs3,.inr ⟨b,c2,cs'.drop i,?_,hb1,Nat.lt_of_lt_of_le hb2 hsame.next,by rw [← hi];exact hc2,?_,?_⟩⟩
   ·rw [← hi]
   ·have:wI (l.filter fun n=>!P n)=cs'.take i:=by rw [t3,ht]
    rw [this,List.take_append_drop];exact get_put_eq
   ·have:=s3 hcs
    simp only [List.all_eq_true] at this ⊢
    exact fun y hy=>this y (List.mem_of_mem_drop hy)
end Go.Ab.F
namespace Go.Ab.F
open Go Go.Ab
set_option linter.all false
set_option linter.all false
attribute [local congr] c_bind c_cl c_mk c_lp c_clC c_gQ c_gV c_condE c_thenK
def tstK (ol:List One)(xs:List Go3)(n:Int):Bool:=if 1≤n∧n≤xs.length then decide ((wlK ol xs (n - 1).toNat).length=0) else true
theorem filter_on (ol:List One)(xs:List Go3):(idsK 0 xs.length).filter (fun n=>!tstK ol xs n)=onL ol xs xs.length:=by
 unfold idsK onL
 rw [List.filter_map]
 have e:(List.range xs.length).filter ((fun n=>!tstK ol xs n) ∘ fun i=>((0+i+1:Nat):Int))=(List.range xs.length).filter (onP ol xs):=by
  refine List.filter_congr fun k hk=>?_
  have hk:=List.mem_range.1 hk
  have e2:(((0+k+1:Nat):Int) - 1).toNat=k:=by omega
  show(!tstK ol xs ((0+k+1:Nat):Int))=onP ol xs k
  unfold tstK onP
  rw [if_pos (by omega),e2]
  by_cases h:(wlK ol xs k).length=0
  ·rw [decide_eq_true h,decide_eq_false (by omega)];rfl
  ·rw [decide_eq_false h,decide_eq_true (by omega)];rfl
 rw [e]
 refine List.map_congr_left fun k _=>?_
 omega
theorem ints_ok {g:Heap}{v w:AV}{L:List Int}(h1:lnL v=some (.int .i64 L.length))(h2:lnL w=some (.int .i64 L.length))(hl:L.length≤1000)
  (a1:∀ (i:Nat) x,L[i]?=some x→∃ p,iaS 1 v (.int .i64 (i:Int))=some (.ptr (some p))∧ldS g (.ptr (some p))=some (.int .i64 x)) (a2:∀ (i:Nat) x,L[i]?=some x→∃ p,iaS 1 w (.int .i64 (i:Int))=some (.ptr (some p))∧ldS g (.ptr (some p))=some (.int .i64 x)) :
  Ok (B5 v w g) fun r=>r=(.bool true,g):=by
 refine Ok.eq ?_ (by simp -implicitDefEqProofs only [B5,h1,h2,Option.bind_some,neq_int,decide_true,Bool.not_true,condE_false]<;>rfl)
 refine ok_lp (P:=fun r=>r.1 = .exit 0∧r.2.2=g) ?_ ?_
 ·refine ok_loop (fun m vs g'=>∃ (k:Nat),vs = [.bool false,.int .i64 (k:Int)]∧m+k=L.length∧g'=g) ?_ (n:=L.length) (by omega) ⟨0,rfl,by omega,rfl⟩
  rintro m vs g' ⟨k,rfl,hm,hg⟩
  rw [gd0,gd1,hg]
  by_cases hk:k<L.length
  ·have hlt:(k:Int)<L.length:=by omega
   obtain⟨x,hx⟩:∃ x,L[k]?=some x:=⟨_,List.getElem?_eq_getElem hk⟩
   obtain⟨p1,i1,l1⟩:=a1 k x hx
   obtain⟨p2,i2,l2⟩:=a2 k x hx
   exact(Ok.of (r:=(Ex.normal,[.bool false,.int .i64 ((k+1:Nat):Int)],g)) (.inl ⟨rfl,m - 1,by omega,k+1,rfl,by omega,rfl⟩)).eq (by
    simp -implicitDefEqProofs only [C8,h1,bin_lss,hlt,decide_true,Option.bind_some,condE_true,i1,l1,i2,l2,neq_int,Bool.not_true,chk_nil,condE_false,bin_add,suc64 k (by omega)])
  ·have hlt : ¬ (k:Int)<L.length:=by omega
   exact(Ok.of (r:=(Ex.exit 0,[.bool false,.int .i64 (k:Int)],g)) (.inr ⟨by simp,rfl,rfl⟩)).eq (by
    simp -implicitDefEqProofs only [C8,h1,bin_lss,hlt,decide_false,Option.bind_some,condE_false])
 ·rintro _ vs g' ⟨rfl,hg⟩
  simp only at hg
  rw [hg]
  refine Ok.eq ?_ (by rw [if_pos rfl,thenK_normal])
  exact Ok.of (r:=((.bool true,g):AV × Heap)) rfl
section
variable {g:Heap}{tb mp:Nat}{sv cv fv:AV}{ss:List Nat}{A:Nat→Nat}{l:PAl}{cs:CnL}{xs:List Go3}{gs:List Gk}
theorem ids_lst (H:TbG g A l 0 tb mp sv cv fv gs ss):Ok (AY (.ptr (some (tb,0))) g) fun r=>Lst g r.2 r.1 (idsK 0 gs.length):=by
 have l6:=H.l6
 have s1:Same [] g (g.new (.cells false [.mp (some mp)])):=Same.new _ _
 have hm:(g.new (.cells false [.mp (some mp)])).get mp=some (.mp (entK 0 ss)):=(s1.get _ H.ml (by simp)).trans H.mpb
 have hn:(g.new (.cells false [.mp (some mp)])).get g.next=some (.cells false [.mp (some mp)]):=get_new_eq
 have hlen:(idsK 0 ss.length).length=gs.length:=by simp [idsK,H.len]
 have hfew:=H.few
 have hok:okKeys (idsK 0 ss.length)=true:=okKeys_so (idsK_so _ _) fun n hn=>wf_sm (by have:=idsK_mem.1 hn;have:=H.len;omega)
 have hle:(idsK 0 ss.length).length≤1099511627776:=by omega
 have hs:Ok (some (ownInts (idsK 0 ss.length) (g.new (.cells false [.mp (some mp)])))) fun r=>Lst g r.2 r.1 (idsK 0 gs.length):=by
  rw [H.len]
  refine Ok.of ?_
  generalize hL:idsK 0 gs.length=L
  cases L with
  | nil=>exact Lst.mt s1
  | cons y L=>
   refine⟨s1.trans (Same.new _ _),.inr ⟨(g.new (.cells false [.mp (some mp)])).next,.un 1,[],by simp [ownInts],s1.next,Nat.lt_succ_self _,rfl,?_,rfl⟩⟩
   rw [List.append_nil]
   exact get_new_eq
 refine hs.eq ?_
 simp -implicitDefEqProofs only [AY,nilV_ptr,faP_ptr,Option.bind_some,l6,AD,keysV,cl_some,Bc,sortedV,if_true,hn,hm,keys_ent,hok,hle,and_self,isort_so (idsK_so _ _)]
 exact cl_idS _
theorem test_ok (H:TbG g A l 0 tb mp sv cv fv (xs.map (gkS cs)) ss)(hc:ChL l cs)(h8:xs.length≤8){p2 p3:Nat}(b2:ldS g (.ptr (some (p2,0)))=some (.ptr (some (tb,0))))(b3:ldS g (.ptr (some (p3,0)))=some (.ptr (some (A 0,0))))(n:Int) :
  Ok (Ar (.int .i64 n) (.ptr (some (p2,0))) (.ptr (some (p3,0))) g) fun r=>r.1 = .bool (tstK (cs.map oneC) xs n)∧Same [] g r.2:=by
 have W:=H.T.P.wf
 refine Ok.eq ?_ (by simp -implicitDefEqProofs only [Ar,b2,b3,Option.bind_some]<;>rfl)
 by_cases h:1≤n∧n≤xs.length
 ·obtain⟨k,hk⟩:∃ k:Nat,n=((k+1:Nat):Int):=⟨(n - 1).toNat,by omega⟩
  obtain⟨x,hx⟩:∃ x,xs[k]?=some x:=⟨_,List.getElem?_eq_getElem (by omega)⟩
  have et:tstK (cs.map oneC) xs n=decide ((lwG (cs.map oneC) xs k x).length=0):=by
   unfold tstK
   rw [if_pos h,show(n - 1).toNat=k by omega]
   unfold wlK
   rw [hx]
  rw [et,hk]
  refine ok_cl (waysT_ok H (by rw [List.length_map];omega) (gkS_st W hc) (k:=k) (x:=gkS cs x) (by rw [List.getElem?_map,hx];rfl)) ?_
  rintro w g4 ⟨b4,V4,s4,h4⟩
  simp only at V4 s4
  rw [waysG_eq W hc] at V4
  have ln:=V4.lnL
  refine(Ok.of (r:=((.bool (decide ((lwG (cs.map oneC) xs k x).length=0)),g4):AV × Heap)) ⟨rfl,s4⟩).eq ?_
  by_cases hz:(lwG (cs.map oneC) xs k x).length=0
  ·simp -implicitDefEqProofs only [ln,Option.bind_some,eql_int,decide_eq_true hz,decide_eq_true (show(((lwG (cs.map oneC) xs k x).length:Nat):Int)=0 by omega)]
  ·simp -implicitDefEqProofs only [ln,Option.bind_some,eql_int,decide_eq_false hz,decide_eq_false (show ¬ (((lwG (cs.map oneC) xs k x).length:Nat):Int)=0 by omega)]
 ·have et:tstK (cs.map oneC) xs n=true:=by unfold tstK;rw [if_neg h]
  rw [et,ways_nobody H (id:=n) (by rw [List.length_map];omega)]
  exact Ok.of (r:=((.bool true,g):AV × Heap)) ⟨rfl,Same.refl _ _⟩
theorem enabled_ok (H:TbG g A l 0 tb mp sv cv fv (xs.map (gkS cs)) ss)(hc:ChL l cs)(h8:xs.length≤8) :
  Ok (AM (.ptr (some (tb,0))) (.ptr (some (A 0,0))) g) fun r=>Lst g r.2 r.1 (onL (cs.map oneC) xs xs.length):=by
 obtain⟨g1,e1⟩:∃ g1,g1=g.new (.cells true [.ptr (some (tb,0))]):=⟨_,rfl⟩
 have s1:Same [] g g1:=by rw [e1];exact Same.new _ _
 have b1:g1.get g.next=some (.cells true [.ptr (some (tb,0))]):=by rw [e1];exact get_new_eq
 have n1:g1.next=g.next+1:=by rw [e1];rfl
 obtain⟨g2,e2⟩:∃ g2,g2=g1.new (.cells true [.ptr (some (A 0,0))]):=⟨_,rfl⟩
 have s2:Same [] g1 g2:=by rw [e2];exact Same.new _ _
 have b2:g2.get g1.next=some (.cells true [.ptr (some (A 0,0))]):=by rw [e2];exact get_new_eq
 have n2:g2.next=g1.next+1:=by rw [e2];rfl
 have b12:=(s2.get g.next (by omega) (by simp)).trans b1
 have x1:bxP (.ptr (some (tb,0)))=some (.cells true [.ptr (some (tb,0))],fun i=>.ptr (some (i,0))):=rfl
 have x2:bxP (.ptr (some (A 0,0)))=some (.cells true [.ptr (some (A 0,0))],fun i=>.ptr (some (i,0))):=rfl
 have l2:ldS g2 (.ptr (some (g.next,0)))=some (.ptr (some (tb,0))):=by rw [ldS_at b12];rfl
 have s12:=s1.trans s2
 have H2:=H.keep s12
 refine Ok.eq ?_ (by simp -implicitDefEqProofs only [AM,x1,mk_some,← e1,x2,← e2,l2,Option.bind_some]<;>rfl)
 refine ok_cl (ids_lst H2) ?_
 rintro v g3 L
 simp only [List.length_map] at L
 have T:∀ g' n,Same [] g2 g'→Ok (Ar (.int .i64 n) (.ptr (some (g.next,0))) (.ptr (some (g1.next,0))) g') fun r=>r.1 = .bool (tstK (cs.map oneC) xs n)∧Same [] g' r.2:=fun g' n s=>
  test_ok (H2.keep s) hc h8 (by rw [ldS_at ((s.get _ (by omega) (by simp)).trans b12)];rfl) (by rw [ldS_at ((s.get _ (by omega) (by simp)).trans b2)];rfl) n
 have hlen:(idsK 0 xs.length).length=xs.length:=by simp [idsK]
 refine ok_cl (delete_ok (P:=tstK (cs.map oneC) xs) L (by omega) (fun g' n s=>⟨39,[.int .i64 n,.ptr (some (g.next,0)),.ptr (some (g1.next,0))],rfl,T g' n (L.same.trans s)⟩) (fun b m c hv g' n s=>⟨39,[.int .i64 n,.ptr (some (g.next,0)),.ptr (some (g1.next,0))],rfl,T g' n ?_⟩)) ?_
 ·refine L.same.old s fun j hj=>.inr ?_
  rcases L.eq with⟨e,_⟩ | ⟨b',c',rest,e,h1,_⟩
  ·rw [hv] at e;cases e
  ·rw [hv] at e;cases e
   simp at hj;subst hj;exact h1
 ·rintro w g4 L4
  simp only [filter_on] at L4
  exact Ok.of (r:=((w,g4):AV × Heap)) (L4.old s12)
end
set_option linter.all false
attribute [local congr] c_bind c_cl c_mk c_lp c_clC c_gQ c_gV c_condE c_thenK
theorem rdc_mono {h h':Heap}{sz n:Nat}{v:AV}{cs:List AV}(H:RdC h sz v cs n)(hn:h.next≤h'.next)(hg:∀ j,j<h.next→h'.get j=h.get j):RdC h' sz v cs n:=
 ⟨H.1,H.2.imp id fun⟨b,c,e,hb,hgb⟩=>⟨b,c,e,by omega,fun k=>(hg b hb).trans (hgb k)⟩⟩
theorem ways_true {h:Heap}(hsub:Sub hQ1 h)(hn1:1≤h.next){x0 x1 x2 x3:AV}{rs fl:List Int}{sl:List Bool}{xs:List Go3}(h0:RdC h 1 x0 (rs.map fun n=>.int .i64 n) rs.length)(h1:RdC h 1 x1 (fl.map fun n=>.int .i64 n) fl.length)(h2:RdC h 1 x2 (sl.map AV.bool) sl.length)(hx:GosRd h x3 xs) :
  Ok (AR x0 x1 x2 x3 h) fun r=>r.1 = .bool true:=by
 have ht:=tab0_sub hsub hn1
 have haw:Db h=some (.bool true,h):=quiet_pos hsub
 have hl0:=h0.lnL
 have hl1:=h1.lnL
 have hl2:=h2.lnL
 have hl:=hx.lnL
 by_cases c1:(4:Int)<rs.length
 ·exact ok_val (v:=.bool true) (g:=h) (by simp -implicitDefEqProofs only [AR,haw,cl_some,un_not,Bool.not_true,Option.bind_some,condE_false,hl0,bin_gtr,c1,decide_true,gdW_tf,gQ_false,pickP_bool,if_true,condE_true]) rfl
 by_cases c2:(8:Int)<xs.length
 ·exact ok_val (v:=.bool true) (g:=h) (by simp -implicitDefEqProofs only [AR,haw,cl_some,un_not,Bool.not_true,Option.bind_some,condE_false,hl0,hl,bin_gtr,c1,c2,decide_true,decide_false,gdW_ff,gdW_tf,gQ_true,gQ_false,pickP_bool,Bool.false_eq_true,if_false,if_true,condE_true]) rfl
 by_cases c3:(8:Int)<fl.length
 ·exact ok_val (v:=.bool true) (g:=h) (by simp -implicitDefEqProofs only [AR,haw,cl_some,un_not,Bool.not_true,Option.bind_some,condE_false,hl0,hl,hl1,bin_gtr,c1,c2,c3,decide_true,decide_false,gdW_ff,gdW_tf,gQ_true,gQ_false,pickP_bool,Bool.false_eq_true,if_false,if_true,condE_true]) rfl
 by_cases c4:(8:Int)<sl.length
 ·exact ok_val (v:=.bool true) (g:=h) (by simp -implicitDefEqProofs only [AR,haw,cl_some,un_not,Bool.not_true,Option.bind_some,condE_false,hl0,hl,hl1,hl2,bin_gtr,c1,c2,c3,c4,decide_true,decide_false,gdW_ff,gdW_tf,gQ_true,gQ_false,pickP_bool,Bool.false_eq_true,if_false,if_true,condE_true]) rfl
 obtain⟨K,hK⟩:∃ K:AV→AV→Heap→Option (AV × Heap),K=fun t55 t60 h18=>
   lp (CG x0 x1 x2 t55 t60 (AV.bool false) (AV.sl none 0 (.ex 0)) (AV.sl none 0 (.ex 0)) (AV.int .i64 0) h18) fun e_69 vs_70 h71=>
   thenK (if e_69 = .exit 0 then .normal else e_69) (
   cl (Ap h71) fun t139 h72=>
   cl (CQ t139 h72) fun t140 h73=>
   lp (CI x3 vs_70 t140 (vs_70.getD 0 .bot) (AV.int .i64 0) h73) fun e_112 vs_113 h114=>
   thenK (if e_112 = .exit 4 then .normal else e_112) (
   lp (CD x3 t55 vs_70 t140 (vs_113.getD 0 .bot) (AV.sl none 0 (.ex 0)) (AV.int .i64 0) h114) fun e_140 vs_141 h142=>
   thenK (if e_140 = .exit 6 then .normal else e_140) (
   cl (AM t140 t55 h142) fun t263 h143=>
   cl (B5 t263 (vs_141.getD 1 .bot) h143) fun t265 h144=>
   gQ (gdW t265 true) h144 (some (t140,h144)) fun t267 h145=>
   gQ (gdW t265 true) h145 (some (t55,h145)) fun t268 h146=>
   gQ (gdW t265 true) h146 (cl (AB t267 t268 (AV.int .i64 0) h146) fun t269 h147=>
   some (t269,h147)) fun t269_148 h149=>
   gQ (gdW t265 true) h149 ((lnL t269_148).bind fun t270=>
   some (t270,h149)) fun t270_150 h151=>
   gQ (gdW t265 true) h151 ((eqP (some (.int .i64)) none false .eql t270_150 (AV.int .i64 0)).bind fun t271=>
   some (t271,h151)) fun t271_152 h153=>
   (pickP t265 t271_152 (AV.bool false)).bind fun t272=>
   gQ (gdW t272 true) h153 (some (t140,h153)) fun t274 h154=>
   gQ (gdW t272 true) h154 (some (t55,h154)) fun t275 h155=>
   gQ (gdW t272 true) h155 (some (x3,h155)) fun t276 h156=>
   gQ (gdW t272 true) h156 ((lnL t276).bind fun t277=>
   some (t277,h156)) fun t277_157 h158=>
   gQ (gdW t272 true) h158 ((binP .add t277_157 (AV.int .i64 1)).bind fun t278=>
   some (t278,h158)) fun t278_159 h160=>
   gQ (gdW t272 true) h160 (cl (AB t274 t275 t278_159 h160) fun t279 h161=>
   some (t279,h161)) fun t279_162 h163=>
   gQ (gdW t272 true) h163 ((lnL t279_162).bind fun t280=>
   some (t280,h163)) fun t280_164 h165=>
   gQ (gdW t272 true) h165 ((eqP (some (.int .i64)) none false .eql t280_164 (AV.int .i64 0)).bind fun t281=>
   some (t281,h165)) fun t281_166 h167=>
   (pickP t272 t281_166 (AV.bool false)).bind fun t282=>
   some (t282,h167)) (fun e_168=>endE e_168 (some ((vs_141.getD 0 .bot),h142)))) (fun e_169=>endE e_169 (some ((vs_113.getD 0 .bot),h114)))) (fun e_170=>endE e_170 (some ((vs_70.getD 0 .bot),h71))):=⟨_,rfl⟩
 have st:=start16 (R:=AV × Heap) (Q:=fun r=>r.1 = .bool true) ht (N:=20) (by decide) (by decide) (D:=fun h2=>some ((AV.bool false),h2)) (K:=K) ?_
 ·refine st.eq ?_
  simp -implicitDefEqProofs only [AR,haw,cl_some,un_not,Bool.not_true,Option.bind_some,condE_false,hl0,hl,hl1,hl2,bin_gtr,c1,c2,c3,c4,decide_false,gdW_ff,gQ_true,pickP_bool,Bool.false_eq_true,if_false]
  rw [hK]
  rfl
 ·intro A ph g0 C0 s0 hA hph hpl
  rw [hK]
  have hz:0<g0.next:=by omega
  have kA:∀ i,i < 11→A i<g0.next:=fun i hi=>(hA i hi).2.1
  have pA:∀ i,i < 11→A i≠ph:=fun i hi=>(hA i hi).2.2
  have j0:=s0.next
  -- what the arguments hold stays
  have old:∀ g',Same [A 5,A 7,A 8,ph] g0 g'→h.next≤g'.next∧∀ j,j<h.next→g'.get j=h.get j:=fun g' s=>by
   have hsn:=s.next
   refine⟨by omega,fun j hj=>?_⟩
   rw [s.get j (by omega) ?_,s0.get j hj (by simp)]
   intro hm
   have h5:=(hA 5 (by omega)).1
   have h7:=(hA 7 (by omega)).1
   have h8:=(hA 8 (by omega)).1
   simp only [List.mem_cons,List.not_mem_nil,or_false] at hm
   omega
  refine ok_lp (ways_L1 kA hpl pA (by omega) hz C0 (fun g' s=>rdc_mono h0 (old g' s).1 (old g' s).2) (fun g' s=>rdc_mono h1 (old g' s).1 (old g' s).2) (fun g' s=>rdc_mono h2 (old g' s).1 (old g' s).2) (by omega)) ?_
  rintro _ vs g1 ⟨rfl,hv0,cs,b,bh,bc,hcl,W,S,hbc⟩
  simp only at hv0 W S
  refine Ok.eq ?_ (by rw [if_pos rfl,thenK_normal])
  refine ok_cl (module_ok g1) ?_
  rintro _ g2 ⟨sv,cv,fv,rfl,M,s2⟩
  simp only at M s2
  refine ok_cl (schedNew_ok M) ?_
  rintro _ g3 ⟨tb,mp,rfl,T,htb,hmp,s3⟩
  simp only at T s3
  have s23:=s2.trans s3
  have n01:=W.same.next
  have n12:=s2.next
  have n23:=s3.next
  have V:Vw g3 b 1 (vs.getD 1 .bot) (adL cs):=(W.ql.vw adL_row).keep s23
  have nb:∀ j,b=some j→j<g1.next:=fun j hj=>(W.ql.blk j hj).1
  have nbc:∀ j,bc=some j→j<g1.next:=fun j hj=>(S.blk j hj).1
  have hxg:∀ g',Same [tb,mp] g3 g'→GosRd g' x3 xs:=fun g' s=>by
   have o:=old g1 W.same
   have hsn:=s.next
   refine hx.keep (by omega) fun j hj=>?_
   rw [s.get j (by omega) (by simp;omega),s23.get j (by omega) (by simp),o.2 j hj]
  rw [hv0]
  refine ok_lp (ways_L2 hxg (by omega) T V (fun j hj=>by have:=nb j hj;omega) rfl) ?_
  rintro _ vs1 g4 ⟨rfl,hv1,ss,T4,s4⟩
  simp only at hv1 T4 s4
  obtain⟨l,H,hc,hu,hN⟩:=W.hp
  have H4:HpAt g4 A l sh16 0:=(H.keep s23).mono s4 (fun i hi hm=>by
   have:=kA i hi
   simp only [List.mem_cons,List.not_mem_nil,or_false] at hm
   omega) (by simp;omega)
  have TG:=T4.full H4
  have hrow:∀ r∈onR cs,r.length=3:=fun r hr=>by
   obtain⟨o,_,rfl⟩:=List.mem_map.1 hr;rfl
  have Vc:Vw g4 bc 3 (vs.getD 2 .bot) (onR cs):=((S.vw hrow).keep s23).same s4 fun j hj hm=>by
   have:=nbc j hj
   simp only [List.mem_cons,List.not_mem_nil,or_false] at hm
   omega
  refine Ok.eq ?_ (by rw [if_pos rfl,thenK_normal])
  rw [hv1]
  refine ok_lp (ways_L4 TG hc (fun g' s=>(hxg g4 s4).keep s.next fun j hj=>s.get j hj (by simp)) Vc (by omega) rfl) ?_
  rintro _ vs2 g5 ⟨rfl,hv2,b5,O⟩
  simp only at hv2 O
  refine Ok.eq ?_ (by rw [if_pos rfl,thenK_normal])
  have TG5:=TG.keep O.same
  refine ok_cl (enabled_ok TG5 hc (by omega)) ?_
  rintro w g6 L
  simp only at L
  have V6:=(O.S.vw i1_row).keep L.same
  have ln6:=V6.lnL
  have hol:=onL_len (cs.map oneC) xs xs.length
  refine ok_cl (ints_ok (L:=onL (cs.map oneC) xs xs.length) L.lnL (by simpa [i1] using ln6) (by omega) (fun i x hx=>by
   obtain⟨p,_,_,ix,ld⟩:=L.at hx
   exact⟨(p,i),ix .i64,ld⟩) (fun i x hx=>by
   obtain⟨p,o,_,_,ix,_,ld⟩:=V6.at (i:=i) (r:=[.int .i64 x]) (by unfold i1;rw [List.getElem?_map,hx];rfl)
   exact⟨(p,o),ix .i64,ld 0 _ g6 rfl rfl⟩)) ?_
  rintro _ _ e
  cases e
  have TG6:=TG5.keep L.same
  have w0:=ways_nobody TG6 (id:=0) (.inl (Int.le_refl _))
  have w1:=ways_nobody TG6 (id:=((xs.length+1:Nat):Int)) (.inr (by rw [List.length_map];omega))
  have lnn:lnL (.sl none 0 (.ex 0))=some (.int .i64 0):=rfl
  exact ok_val (v:=.bool true) (g:=g6) (by simp -implicitDefEqProofs only [gdW_tt,gQ_true,cl_some,w0,lnn,Option.bind_some,eql_int,decide_true,pickP_bool,if_true,hl,bin_add,suc64 xs.length (by omega),w1]) rfl
end Go.Ab.F
