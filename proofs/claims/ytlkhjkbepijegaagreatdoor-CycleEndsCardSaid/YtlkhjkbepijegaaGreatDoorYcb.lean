import Derived.Test.YtlkhjkbepijegaaGreatDoorRed
import Derived.Test.YtlkhjkbepijegaaGreatDoorYca
namespace Go.Ab.F
open Go Go.Ab
set_option linter.all false
set_option linter.all false
attribute [local congr] c_bind c_cl c_mk c_lp c_clC c_gQ c_gV c_condE c_thenK
theorem cls_ge {a:PAr}(H:Wf a)(n:Int):decide (a.cls n≥0)=decide (¬ a.cls n = -1):=by
 by_cases h:a.cls n = -1
 ·rw [h];rfl
 ·obtain⟨_,_,c0,_⟩:=cls_rng H h
  simp [h];omega
theorem one_first {l:PAl}{n:Nat}(hn:(l.un[n]?).getD false=true):∀ {k m:Nat},m≤n→n<m+k→(∀ j,m≤j→j<n→(l.un[j]?).getD false=false)→l.one k m=some n
 | 0,m,h1,h2,_=>by omega
 | k+1,m,h1,h2,h3=>by
  rw [PAl.one]
  by_cases e:m=n
  ·subst e;rw [if_pos hn]
  ·rw [if_neg (by rw [h3 m (Nat.le_refl _) (by omega)];simp)]
   exact one_first hn (by omega) (by omega) (fun j hj1 hj2=>h3 j (by omega) hj2)
section
variable {g:Heap}{D:Nat→Nat}{b bT bq:Option Nat}{cls:List Int}{L:List Tm}{l:PAl}{T:List Shp}{gq:List Int}{X:List Nat}
theorem rstale_ok (H:Rk g D b bT bq cls L l T gq X):Ok (BI (.ptr (some (D 2,0))) g) fun r=>r.1 = .tup []∧Rk r.2 D b bT bq cls L l.stale T gq X∧KpX X g r.2:=by
 have hN:l.un.length≤512:=by rw [H.len];exact H.rel.wf.hi
 refine Ok.eq ?_ (by unfold BI;rfl)
 refine ok_lp (P:=fun r=>r.1 = .exit 0∧Rk r.2.2 D b bT bq cls L l.stale T gq X∧KpX X g r.2.2) ?_ ?_
 ·refine ok_loop (fun m vs g'=>∃ (i:Nat) (un:List Bool),vs = [.int .i64 i]∧m+i=l.un.length∧un.length=l.un.length∧(∀ j:Nat,j<i→un[j]?=some (decide (¬ l.ar.cls j = -1)))∧Rk g' D b bT bq cls L ⟨l.ar,un⟩ T gq X∧KpX X g g') ?_ (n:=l.un.length) (by omega)
   ⟨0,l.un,rfl,rfl,rfl,fun j hj=>by omega,H,KpX.refl _ _⟩
  rintro m vs g' ⟨i,un,rfl,hm,hl,hu,H',k⟩
  rw [gd0]
  obtain⟨d0,d1⟩:=H'.ldd
  simp only [hl] at d1
  have ln:lnL (.sl (some (D 3,0)) l.un.length (.ex l.un.length))=some (.int .i64 l.un.length):=rfl
  by_cases hi:i<l.un.length
  ·have hlt:(i:Int)<l.un.length:=by omega
   have hi':i<(⟨l.ar,un⟩:PAl).un.length:=by show i<un.length;omega
   obtain⟨ix,_⟩:=H'.ldu hi'
   simp only [hl] at ix
   have hc:=H'.cls_at hi'
   obtain⟨cx,cl⟩:=H'.ar.cl hc
   obtain⟨g2,st,H2,k2⟩:=H'.stu hi' (decide (¬ l.ar.cls i = -1))
   have e:=cls_ge H.rel.wf (i:Int)
   refine(Ok.of (r:=(.normal,[.int .i64 ((i+1:Nat):Int)],g2)) (.inl ⟨rfl,m - 1,by omega,i+1,_,rfl,by omega,by simpa using hl,fun j hj=>?_,H2,k.trans k2⟩)).eq (by
    simp -implicitDefEqProofs only [CD,nilV_ptr,Option.bind_some,faP_ptr,Nat.zero_add,d1,ln,bin_lss,hlt,decide_true,condE_true,d0,H'.ar.ldc,cx,cl,bin_geq,e,ix,st,cl_some,chk_nil,bin_add,suc64 i (by omega)])
   by_cases ej:j=i
   ·subst ej;rw [List.getElem?_set_self (by show j<un.length;omega)]
   ·rw [List.getElem?_set_ne (fun e=>ej e.symm)];exact hu j (by omega)
  ·have hlt : ¬ (i:Int)<l.un.length:=by omega
   obtain rfl:i=l.un.length:=by omega
   refine(Ok.of (r:=(.exit 0,[.int .i64 (l.un.length:Int)],g')) ?_).eq (by simp -implicitDefEqProofs only [CD,nilV_ptr,Option.bind_some,faP_ptr,Nat.zero_add,d1,ln,bin_lss,hlt,decide_false,condE_false])
   have e:un=l.stale.un:=by
    apply List.ext_getElem?
    intro j
    by_cases hj:j<l.un.length
    ·rw [hu j hj];simp [PAl.stale,hj]
    ·rw [List.getElem?_eq_none (by omega),List.getElem?_eq_none (by simp [PAl.stale];omega)]
   rw [e] at H'
   exact .inr ⟨by simp,rfl,H',k⟩
 ·rintro _ vs g2 ⟨rfl,h1,h2⟩
  exact ok_val (v:=.tup []) (g:=g2) rfl ⟨rfl,h1,h2⟩
theorem rsweepOne_ok (H:Rk g D b bT bq cls L l T gq X)(hw:WfW L):Ok (Bc (.ptr (some (D 2,0))) g) fun r=>r.1 = .bool l.sweepOne.1∧∃ b' cls' L',Rk r.2 D b' bT bq cls' L' l.sweepOne.2 T gq X∧KpX X g r.2∧WfW L':=by
 have hN:l.un.length≤512:=by rw [H.len];exact H.rel.wf.hi
 refine Ok.eq ?_ (by unfold Bc;rfl)
 refine ok_lp (P:=fun r=>∃ b' cls' L',Rk r.2.2 D b' bT bq cls' L' l.sweepOne.2 T gq X∧KpX X g r.2.2∧WfW L'∧(r.1 = .exit 0∧l.sweepOne.1=false∨r.1 = .ret∧l.sweepOne.1=true∧r.2.1.getD 0 .bot = .bool true)) ?_ ?_
 ·refine ok_loop (fun m vs g'=>∃ (i:Nat) (b':Option Nat) (cls':List Int) (L':List Tm),vs = [.bool false,.int .i64 i]∧m+i=l.un.length∧(∀ j:Nat,j<i→(l.un[j]?).getD false=false)∧Rk g' D b' bT bq cls' L' l T gq X∧KpX X g g'∧WfW L') ?_ (n:=l.un.length) (by omega)
   ⟨0,b,cls,L,rfl,rfl,fun j hj=>by omega,H,KpX.refl _ _,hw⟩
  rintro m vs g' ⟨i,b',cls',L',rfl,hm,hu,H',k,hw'⟩
  rw [gd0,gd1]
  obtain⟨d0,d1⟩:=H'.ldd
  have ln:lnL (.sl (some (D 3,0)) l.un.length (.ex l.un.length))=some (.int .i64 l.un.length):=rfl
  by_cases hi:i<l.un.length
  ·have hlt:(i:Int)<l.un.length:=by omega
   refine Ok.eq ?_ (by simp -implicitDefEqProofs only [CO,nilV_ptr,Option.bind_some,faP_ptr,Nat.zero_add,d1,ln,bin_lss,hlt,decide_true,condE_true]<;>rfl)
   refine ok_cl (rsweepA_ok H' hw' 0 hi) ?_
   rintro _ g2 ⟨rfl,b2,cls2,L2,H2,k2,_,hw2⟩
   simp only at H2 k2
   unfold PAl.at1 at H2
   cases hb:(l.un[i]?).getD false with
   | true=>
    rw [hb,if_pos rfl] at H2
    have ho:l.sweepOne=(true,l.sweepU i):=by
     unfold PAl.sweepOne
     rw [one_first hb (Nat.zero_le _) (by omega) (fun j _ hj=>hu j hj)]
    exact(Ok.of (r:=(Ex.ret,[AV.bool true,.int .i64 (i:Int)],g2)) (.inr ⟨by simp,b2,cls2,L2,by rw [ho];exact H2,k.trans k2,hw2,.inr ⟨rfl,by rw [ho],rfl⟩⟩)).eq (by simp -implicitDefEqProofs only [condE_true])
   | false=>
    rw [hb,if_neg (by simp)] at H2
    refine(Ok.of (r:=(Ex.normal,[AV.bool false,.int .i64 ((i+1:Nat):Int)],g2)) (.inl ⟨rfl,m - 1,by omega,i+1,b2,cls2,L2,rfl,by omega,fun j hj=>?_,H2,k.trans k2,hw2⟩)).eq (by simp -implicitDefEqProofs only [condE_false,bin_add,suc64 i (by omega),Option.bind_some])
    by_cases e:j=i
    ·subst e;exact hb
    ·exact hu j (by omega)
  ·have hlt : ¬ (i:Int)<l.un.length:=by omega
   obtain rfl:i=l.un.length:=by omega
   have ho:l.sweepOne=(false,l):=by
    rcases one_cases l with⟨h1,h2,_⟩ | ⟨n,h1,h2,h3⟩
    ·exact Prod.ext h1 h2
    ·rw [hu n h2] at h3;cases h3
   exact(Ok.of (r:=(Ex.exit 0,[AV.bool false,.int .i64 (l.un.length:Int)],g')) (.inr ⟨by simp,b',cls',L',by rw [ho];exact H',k,hw',.inl ⟨rfl,by rw [ho]⟩⟩)).eq (by
    simp -implicitDefEqProofs only [CO,nilV_ptr,Option.bind_some,faP_ptr,Nat.zero_add,d1,ln,bin_lss,hlt,decide_false,condE_false])
 ·rintro _ vs g2 ⟨b',cls',L',H',k',hw',⟨rfl,h1⟩ | ⟨rfl,h1,hv⟩⟩
  ·exact ok_val (v:=.bool false) (g:=g2) rfl ⟨by rw [h1],b',cls',L',H',k',hw'⟩
  ·exact ok_val (v:=.bool true) (g:=g2) (by simp only at hv;simp -implicitDefEqProofs only [reduceCtorEq,if_false,thenK_ret,endE_ret,hv]) ⟨by rw [h1],b',cls',L',H',k',hw'⟩
theorem rused_ok (H:Rk g D b bT bq cls L l T gq X)(hL:L.length≤100000):Ok (CN (.ptr (some (D 2,0))) g) fun r=>∃ n:Int,r=(.int .i64 n,g):=by
 obtain⟨vv,lv,hln,_,_,hrow⟩:=H.ar.ls
 have lv0:=lv (Same.refl [] g)
 obtain⟨d0,d1⟩:=H.ldd
 refine Ok.eq ?_ (by unfold CN;rfl)
 refine ok_lp (P:=fun r=>r.1 = .exit 0∧r.2.2=g∧∃ n:Int,r.2.1.getD 0 .bot = .int .i64 n) ?_ ?_
 ·refine ok_loop (fun m vs g'=>∃ (i:Nat) (n:Int),vs = [.int .i64 n,.int .i64 i]∧m+i=L.length∧g'=g) ?_ (n:=L.length) (by omega) ⟨0,0,rfl,rfl,rfl⟩
  rintro m vs g' ⟨i,n,rfl,hm,rfl⟩
  rw [gd0,gd1]
  by_cases hi:i<L.length
  ·have hlt:(i:Int)<L.length:=by omega
   obtain⟨t,ht⟩:∃ t,L[i]?=some t:=⟨_,List.getElem?_eq_getElem hi⟩
   obtain⟨bb,hb,hix,hld⟩:=hrow i t ht
   have ld:=(hld (Same.refl [] g')).2 1 _ rfl
   have lw:lnL (.sl (some (t.wb,0)) t.W.length (.ex t.W.length))=some (.int .i64 t.W.length):=rfl
   exact(Ok.of (r:=(.normal,[.int .i64 (IntKind.i64.wrap (n+t.W.length)),.int .i64 ((i+1:Nat):Int)],g')) (.inl ⟨rfl,m - 1,by omega,i+1,_,rfl,by omega,rfl⟩)).eq (by
    simp -implicitDefEqProofs only [Cw,nilV_ptr,Option.bind_some,faP_ptr,Nat.zero_add,d0,lv0,hln,bin_lss,hlt,decide_true,condE_true,hix,ld,lw,bin_add,suc64 i (by omega)])
  ·have hlt : ¬ (i:Int)<L.length:=by omega
   exact(Ok.of (r:=(.exit 0,[.int .i64 n,.int .i64 (i:Int)],g')) (.inr ⟨by simp,rfl,rfl,n,rfl⟩)).eq (by
    simp -implicitDefEqProofs only [Cw,nilV_ptr,Option.bind_some,faP_ptr,Nat.zero_add,d0,lv0,hln,bin_lss,hlt,decide_false,condE_false])
 ·rintro _ vs g2 ⟨rfl,hg,n,hv⟩
  simp only at hg hv
  subst hg
  exact ok_val (v:=.int .i64 n) (g:=g2) (by rw [← hv];rfl) ⟨n,rfl⟩
theorem rclear_ww {L:List Tm}(H:WfW L):WfW (rclear L):=H.sub fun t ht=>by
 unfold rclear at ht
 obtain⟨u,hu,rfl⟩:=List.mem_map.1 ht
 exact⟨u,hu,rfl⟩
theorem rclearA_ok (H:Rk g D b bT bq cls L l T gq X)(hw:WfW L):Ok (Bj (.ptr (some (D 0,0))) g) fun r=>r.1 = .tup []∧∃ L',Rk r.2 D b bT bq cls L' ⟨l.ar.clear,l.un⟩ T gq X∧KpX X g r.2∧WfW L':=by
 refine Ok.mono (rclear_ok H.ar) ?_
 rintro s ⟨h1,R1,k1⟩
 obtain⟨H1,k2⟩:=H.arena R1 k1 (rel_clear H.rel) (clear_same l.ar).len
 exact⟨h1,_,H1,k2,rclear_ww hw⟩
theorem Rel.short {a:PAr}{cls:List Int}{L:List Tm}(R:Rel a cls L):L.length≤32768:=by
 have key:∀ (L:List Tm) (m:Int),L.Pairwise (fun t u=>t.ad<u.ad)→(∀ t∈L,m≤t.ad∧t.ad < 32768)→m≤32768→(L.length:Int)≤32768-m:=by
  intro L
  induction L with
  | nil=>intro m _ _ h;simp;omega
  | cons t L ih=>
   intro m hp hm h
   rw [List.pairwise_cons] at hp
   obtain⟨h1,h2⟩:=hm t (by simp)
   have:=ih (t.ad+1) hp.2 (fun u hu=>⟨by have:=hp.1 u hu;omega,(hm u (by simp [hu])).2⟩) (by omega)
   simp only [List.length_cons]
   omega
 have:=key L 0 R.so (fun t ht=>by have:=(R.mem t ht).1.pos R.wf;omega) (by omega)
 omega
end
set_option linter.all false
theorem rdC_some {f:Heap→Option AV}{h:Heap}{v:AV}(e:f h=some v)(lo hi:Nat)(cs:List Asked):rdC f h lo hi cs=some (v,(f,v,lo,hi)::cs):=by
 unfold rdC;rw [e];rfl
theorem hpN_same (h:Heap)(n:Nat):Same [] h (hpN h n):=⟨Nat.le_add_right _ _,fun j _ _=>rfl⟩
set_option linter.all false
attribute [local congr] c_bind c_cl c_mk c_lp c_clC c_gQ c_gV c_condE c_thenK
theorem ird_slg {g:Heap}{b:Option Nat}{v:AV}{L:List Int}{X:List Nat}(hv:SlG g b 1 v (wsC L) L.length)(hb:∀ j,b=some j→j∈X):Ird g X v L:=by
 rcases hv with h | ⟨i,rfl,rfl,_,h2,_,_⟩
 ·exact ird_slb h hb
 ·obtain rfl:L = []:=List.eq_nil_of_length_eq_zero h2
  exact⟨rfl,fun i x hx=>by simp at hx⟩
theorem ird_fl {g g':Heap}{v:AV}{L:List Int}(H:Fl g g' v L):∃ R:List Nat,Ird g' R v L∧∀ j∈R,g.next≤j∧j<g'.next:=by
 obtain⟨b,h1,h2,h3⟩:=H
 refine⟨b.toList,ird_slg h1 (fun j hj=>by simp [hj]),fun j hj=>?_⟩
 rw [Option.mem_toList] at hj
 exact⟨h3 j hj,h1.lt hj⟩
theorem Fl.same {g g':Heap}{v:AV}{L:List Int}(H:Fl g g' v L):Same [] g g':=H.elim fun _ h=>h.2.1
theorem Fl.scv {g g':Heap}{v:AV}{L:List Int}(H:Fl g g' v L):scalar v=true:=H.elim fun _ h=>h.1.scv
structure Ro (g:Heap)(x:AV)(h:SH)(X:List Nat):Prop where
 ex:∃ vG vI vS,x = .agg [vG,vI,vS]∧(scalar vG=true∧scalar vI=true∧scalar vS=true)∧Ird g X vG (h.L 0)∧Ird g X vI (ids h)∧lnL vS=some (.int .i64 (ids h).length)∧
  ∀ (i:Nat) id,(ids h)[i]?=some id→∃ p w,(∀ k,iaS 1 vS (.int k (i:Int))=some (.ptr (some p)))∧(∀ g',KpX X g g'→ldS g' (.ptr (some p))=some w)∧Ird g X w (stk h id)
structure OI (g g2:Heap)(c:Nat)(h:SH)(i:Nat)(vG vI vS:AV)(bI bS:Option Nat)(cs:List AV)(R:List Nat):Prop where
 s:Same [] g g2
 c1:g.next≤c∧c<g2.next
 cb:g2.get c=some (.cells true [vG,vI,vS])
 hI:SlB g2 bI 1 vI (wI (idsN h.on i)) (idsN h.on i).length
 hS:SlB g2 bS 1 vS cs (idsN h.on i).length
 bIn:∀ j,bI=some j→g.next≤j∧j≠c∧bS≠some j
 bSn:∀ j,bS=some j→g.next≤j∧j≠c
 R1:∀ j∈R,g.next≤j∧j<g2.next∧j≠c∧bI≠some j∧bS≠some j
 G:Ird g2 R vG (h.L 0)
 Gs:scalar vG=true
 S:∀ (k:Nat) id,(idsN h.on i)[k]?=some id→∃ w,cs[k]?=some w∧Ird g2 R w (stk h id)
theorem addedA_one {g:Heap}{b:Nat}{w:AV}(hb:g.get b=some (.cells true [w])):addedA g 1 (.sl (some (b,0)) 1 (.ex 1))=some [w]:=by
 simp only [addedA,loadN,hb,spanF_eq];rfl
theorem cells_sc {w:AV}(h:scalar w=true):w.cells = [w]:=by cases w<;>first | rfl | simp [scalar] at h
theorem cells_len1 {w:AV}(h:scalar w=true):w.cells.length=1:=by rw [cells_sc h];rfl
theorem hpN_next' (h:Heap)(n:Nat):(hpN h n).next=h.next+n:=rfl
section
variable {g g':Heap}{C D K:Nat→Nat}{v:Vb}{p r:SC}{h:SH}{T:List Shp}{Z:List Nat}
theorem own_step (W:Wi g C D K v p r h T Z)(hs:h.sm){c i:Nat}(hi:i < 4){m:Nat}{g2:Heap}{vG vI vS:AV}{bI bS:Option Nat}{cs:List AV}{R:List Nat}(O:OI g g2 c h i vG vI vS bI bS cs R) :
  Ok (CH (.ptr (some (K 4,0))) (.ptr (some (c,0))) (.int .i64 i) g2) fun s=>s.1 = .normal∧s.2.1 = [.int .i64 ((i+1:Nat):Int)]∧∃ vG vI vS bI bS cs R,OI g s.2.2 c h (i+1) vG vI vS bI bS cs R:=by
 have hlt:(i:Int) < 4:=by omega
 have ia:iaA 4 1 (.ptr (some (K 4,5))) (.int .i64 (i:Int))=some (.ptr (some (K 4,5+i))):=by
  rw [iaA_ptr,if_pos ⟨by omega,by omega⟩]
  simp
 have lo:=(W.keep O.s).on hi
 have hl:=idsN_len h.on i
 refine Ok.eq ?_ (by simp -implicitDefEqProofs only [CH,bin_lss,hlt,decide_true,Option.bind_some,condE_true,nilV_ptr,faP_ptr,Nat.zero_add,ia,lo]<;>rfl)
 cases ho:h.on i with
 | false=>
  have e:idsN h.on (i+1)=idsN h.on i:=by rw [idsN,ho];simp
  have H:OI g g2 c h (i+1) vG vI vS bI bS cs R:=⟨O.s,O.c1,O.cb,by rw [e];exact O.hI,by rw [e];exact O.hS,O.bIn,O.bSn,O.R1,O.G,O.Gs,by rw [e];exact O.S⟩
  exact(Ok.of (r:=(Ex.normal,[AV.int .i64 ((i+1:Nat):Int)],g2)) ⟨rfl,rfl,vG,vI,vS,bI,bS,cs,R,H⟩).eq (by simp -implicitDefEqProofs only [condE_false,bin_add,suc64 i (by omega),Option.bind_some])
 | true=>
  have e:idsN h.on (i+1)=idsN h.on i ++ [((i+1:Nat):Int)]:=by rw [idsN,ho,if_pos rfl];rfl
  have l1:ldS g2 (.ptr (some (c,0+1)))=some vI:=by rw [ldS_at O.cb];rfl
  refine Ok.eq ?_ (by simp -implicitDefEqProofs only [condE_true,faP_ptr,Option.bind_some,l1,bin_add,suc64 i (by omega)]<;>rfl)
  refine app1 O.hI rfl rfl rfl (by decide) (by omega) fun vI' g3 hI3 s3 n3=>?_
  have hcI:c∉bI.toList:=fun hm=>by rw [Option.mem_toList] at hm;exact(O.bIn c hm).2.1 rfl
  have c3:g3.get c=some (.cells true [vG,vI,vS]):=(s3.get c O.c1.2 hcI).trans O.cb
  have st3:stP 1 g3 (.ptr (some (c,0+1))) vI'=some (.bot,g3.put c (some (.cells true [vG,vI',vS]))):=by
   have:=stP_one (v:=vI') (o:=1) c3 (by simp) hI3.scv
   simpa using this
  refine Ok.eq ?_ (by simp -implicitDefEqProofs only [st3,cl_some]<;>rfl)
  have s34:Same [c] g3 (g3.put c (some (.cells true [vG,vI',vS]))):=Same.put _ _ _
  have n34:(g3.put c (some (.cells true [vG,vI',vS]))).next=g3.next:=rfl
  have c4:(g3.put c (some (.cells true [vG,vI',vS]))).get c=some (.cells true [vG,vI',vS]):=get_put_eq
  generalize g3.put c (some (.cells true [vG,vI',vS]))=g4 at *
  have n4:g4.next=g2.next+2:=by omega
  have s24:Same (c::bI.toList) g2 g4:=(s3.sub (fun j hj=>List.mem_cons_of_mem _ hj)).trans (s34.sub (by simp))
  have sg4:Same [] g g4:=O.s.old s24 (fun j hj=>by
   right
   rw [List.mem_cons,Option.mem_toList] at hj
   rcases hj with rfl | hj
   ·exact O.c1.1
   ·exact(O.bIn j hj).1)
  have sp:=hpN_same g4 1
  have hS4:SlB g4 bS 1 vS cs (idsN h.on i).length:=O.hS.same s24 (fun j hj hm=>by
   rw [List.mem_cons,Option.mem_toList] at hm
   rcases hm with rfl | hm
   ·exact(O.bSn j hj).2 rfl
   ·exact(O.bIn j hm).2.2 hj)
  have l2:ldS (hpN g4 1) (.ptr (some (c,0+2)))=some vS:=by rw [ldS_at (show(hpN g4 1).get c=_ from c4)];rfl
  refine Ok.eq ?_ (by simp -implicitDefEqProofs only [rdC_some (f:=fun k=>ldS k (.ptr (some (c,0+2)))) (h:=hpN g4 1) l2,clC_some]<;>rfl)
  refine ok_cl (hstack_ok (W.keep (sg4.trans sp)) hs ((i+1:Nat):Int)) ?_
  rintro w g5 hF
  simp only at hF
  obtain⟨Rw,hIw,hRw⟩:=ird_fl hF
  have s45:Same [] g4 g5:=sp.trans hF.same
  have n5:g4.next+1≤g5.next:=hF.same.next
  have b1:=bsP_one (sz:=1) (z:=[AV.sl none 0 (.ex 0)]) (t:=w) rfl (cells_len1 hF.scv) (by rw [cells_sc hF.scv];simp [hF.scv])
  rw [cells_sc hF.scv] at b1
  refine Ok.eq ?_ (by simp -implicitDefEqProofs only [b1,mkAt_some,cl_some]<;>rfl)
  have s56:Same [g4.next] g5 (g5.put (g4.next+0) (some (.cells true [w]))):=Same.put _ _ _
  have c6:(g5.put (g4.next+0) (some (.cells true [w]))).get (g4.next+0)=some (.cells true [w]):=get_put_eq
  have n6:(g5.put (g4.next+0) (some (.cells true [w]))).next=g5.next:=rfl
  generalize g5.put (g4.next+0) (some (.cells true [w]))=g6 at *
  have hS6:SlB g6 bS 1 vS cs (idsN h.on i).length:=(hS4.same s45 (fun j _=>by simp)).same s56 (fun j hj=>by have:=(hS4.blk j hj).1;simp;omega)
  obtain⟨vS',g7,ea,hS7,s67,n7⟩:=appG (bytes:=24) (x:=.sl (some (g4.next+0,0)) 1 (.ex 1)) (.inl hS6) rfl (addedA_one c6) rfl (by simp [hF.scv]) (by decide) (by decide) (by omega)
  have s47:Same (g4.next::bS.toList) g4 g7:=((s45.sub (by simp)).trans (s56.sub (by simp))).trans (s67.sub (fun j hj=>List.mem_cons_of_mem _ hj))
  have hc4:c<g4.next:=by have:=O.c1.2;omega
  have cS:c∉g4.next::bS.toList:=fun hm=>by
   rw [List.mem_cons,Option.mem_toList] at hm
   rcases hm with hm | hm
   ·omega
   ·exact(O.bSn c hm).2 rfl
  have c7:g7.get c=some (.cells true [vG,vI',vS]):=(s47.get c hc4 cS).trans c4
  have st7:stP 1 g7 (.ptr (some (c,0+2))) vS'=some (.bot,g7.put c (some (.cells true [vG,vI',vS']))):=by
   have:=stP_one (v:=vS') (o:=2) c7 (by simp) hS7.scv
   simpa using this
  have l5:ldS g5 (.ptr (some (c,0+2)))=some vS:=by rw [ldS_at ((s45.get c hc4 (by simp)).trans c4)];rfl
  refine(Ok.of (r:=(Ex.normal,[AV.int .i64 ((i+1:Nat):Int)],g7.put c (some (.cells true [vG,vI',vS'])))) ⟨rfl,rfl,vG,vI',vS',some (g2.next+1),some g6.next,cs ++ [w],Rw++R,?_⟩).eq (by
   simp -implicitDefEqProofs only [ea,cl_some,st7,Nat.zero_add]
   rw [chk_two (f:=fun k=>ldS k (.ptr (some (c,2)))) hS6.samev (by simpa using l2) (by simpa using l5)])
  have s78:Same [c] g7 (g7.put c (some (.cells true [vG,vI',vS']))):=Same.put _ _ _
  have c8:(g7.put c (some (.cells true [vG,vI',vS']))).get c=some (.cells true [vG,vI',vS']):=get_put_eq
  have n8:(g7.put c (some (.cells true [vG,vI',vS']))).next=g7.next:=rfl
  generalize g7.put c (some (.cells true [vG,vI',vS']))=g8 at *
  have s48:Same (c::g4.next::bS.toList) g4 g8:=(s47.sub (fun j hj=>List.mem_cons_of_mem _ hj)).trans (s78.sub (by simp))
  have s58:Same (c::g4.next::bS.toList) g5 g8:=((s56.sub (by simp)).trans (s67.sub (fun j hj=>List.mem_cons_of_mem _ (List.mem_cons_of_mem _ hj)))).trans (s78.sub (by simp))
  have s28:Same (c::g4.next::(bI.toList++bS.toList)) g2 g8:=(s24.sub (fun j hj=>by simp at hj ⊢;rcases hj with h | h<;>simp [h])).trans (s48.sub (fun j hj=>by simp at hj ⊢;rcases hj with h | h | h<;>simp [h]))
  have gn:=O.s.next
  have bSlt:∀ j,bS=some j→j<g2.next:=fun j hj=>(O.hS.blk j hj).1
  have bIlt:∀ j,bI=some j→j<g2.next:=fun j hj=>(O.hI.blk j hj).1
  have kR:KpX R g2 g8:=KpX.of s28 fun j hj hr=>by
   obtain⟨r1,r2,r3,r4,r5⟩:=O.R1 j hr
   simp only [List.mem_cons,List.mem_append,Option.mem_toList] at hj
   rcases hj with h | h | h | h
   ·exact r3 h
   ·omega
   ·exact r4 h
   ·exact r5 h
  have kW:KpX Rw g5 g8:=KpX.of s58 fun j hj hr=>by
   obtain⟨r1,r2⟩:=hRw j hr
   rw [hpN_next'] at r1
   simp only [List.mem_cons,Option.mem_toList] at hj
   rcases hj with h | h | h
   ·omega
   ·omega
   ·have:=bSlt j h;omega
  have hc2:=O.c1
  show OI g g8 c h (i+1) vG vI' vS' (some (g2.next+1)) (some g6.next) (cs ++ [w]) (Rw++R)
  refine⟨O.s.old s28 (fun j hj=>by
    right
    simp only [List.mem_cons,List.mem_append,Option.mem_toList] at hj
    rcases hj with h | h | h | h
    ·omega
    ·omega
    ·exact(O.bIn j h).1
    ·exact(O.bSn j h).1),⟨hc2.1,by omega⟩,c8,?_,?_,?_,?_,?_,?_,O.Gs,?_⟩
  ·have e2:wI (idsN h.on i ++ [((i+1:Nat):Int)])=wI (idsN h.on i) ++ [.int .i64 ((i+1:Nat):Int)]:=by simp [wI]
   rw [e,e2,List.length_append]
   refine((hI3.same s34 (fun j hj=>?_)).same s48 (fun j hj=>?_))
   ·cases hj;simp;omega
   ·cases hj
    simp only [List.mem_cons,Option.mem_toList]
    rintro(h | h | h)
    ·omega
    ·omega
    ·have:=bSlt _ h;omega
  ·rw [e,List.length_append]
   exact hS7.same s78 (fun j hj=>by cases hj;simp;omega)
  ·intro j hj;cases hj
   exact⟨by omega,by omega,fun h=>by have:=Option.some.inj h;omega⟩
  ·intro j hj;cases hj
   exact⟨by omega,by omega⟩
  ·intro j hj
   rw [List.mem_append] at hj
   rcases hj with hj | hj
   ·obtain⟨r1,r2⟩:=hRw j hj
    rw [hpN_next'] at r1
    exact⟨by omega,by omega,by omega,fun h=>by have:=Option.some.inj h;omega,fun h=>by have:=Option.some.inj h;omega⟩
   ·obtain⟨r1,r2,r3,r4,r5⟩:=O.R1 j hj
    exact⟨r1,by omega,r3,fun h=>by have:=Option.some.inj h;omega,fun h=>by have:=Option.some.inj h;omega⟩
  ·exact O.G.kp kR (fun j hj=>List.mem_append_right _ hj)
  ·intro k id hk
   rw [e] at hk
   have hcl:cs.length=(idsN h.on i).length:=by have:=O.hS.len;omega
   by_cases hkl:k<(idsN h.on i).length
   ·rw [List.getElem?_append_left hkl] at hk
    obtain⟨w',h1,h2⟩:=O.S k id hk
    exact⟨w',by rw [List.getElem?_append_left (by omega)];exact h1,h2.kp kR (fun j hj=>List.mem_append_right _ hj)⟩
   ·rw [List.getElem?_append_right (by omega)] at hk
    have hk0:k-(idsN h.on i).length=0:=by
     have:=(List.getElem?_eq_some_iff.1 hk).1;simp at this;omega
    rw [hk0] at hk
    simp at hk
    subst hk
    exact⟨w,by rw [List.getElem?_append_right (by omega),hcl,hk0];rfl,hIw.kp kW (fun j hj=>List.mem_append_left _ hj)⟩
theorem own_ok (W:Wi g C D K v p r h T Z)(hs:h.sm):Ok (Az (.ptr (some (K 4,0))) g) fun s=>∃ Y:List Nat,Same [] g s.2∧(∀ j∈Y,g.next≤j∧j<s.2.next)∧Ro s.2 s.1 h Y:=by
 have z3:(Blk.cells true [(AV.sl none 0 (.ex 0)),(AV.sl none 0 (.ex 0)),(AV.sl none 0 (.ex 0))],fun i=>AV.ptr (some (i,0)))=(Blk.cells true [(AV.sl none 0 (.ex 0)),(AV.sl none 0 (.ex 0)),(AV.sl none 0 (.ex 0))],fun i:Nat=>AV.ptr (some (i,0))):=rfl
 refine Ok.eq ?_ (by simp -implicitDefEqProofs only [Az,mk_some]<;>rfl)
 have s1:Same [] g (g.new (.cells true [(AV.sl none 0 (.ex 0)),(AV.sl none 0 (.ex 0)),(AV.sl none 0 (.ex 0))])):=Same.new _ _
 have n1:(g.new (.cells true [(AV.sl none 0 (.ex 0)),(AV.sl none 0 (.ex 0)),(AV.sl none 0 (.ex 0))])).next=g.next+1:=rfl
 have c1:(g.new (.cells true [(AV.sl none 0 (.ex 0)),(AV.sl none 0 (.ex 0)),(AV.sl none 0 (.ex 0))])).get g.next=some (.cells true [(AV.sl none 0 (.ex 0)),(AV.sl none 0 (.ex 0)),(AV.sl none 0 (.ex 0))]):=get_new_eq
 generalize g.new (.cells true [(AV.sl none 0 (.ex 0)),(AV.sl none 0 (.ex 0)),(AV.sl none 0 (.ex 0))])=g1 at *
 refine ok_cl (hglob_ok (W.keep s1) hs) ?_
 rintro vG g2 hF
 simp only at hF
 obtain⟨R0,hG,hR0⟩:=ird_fl hF
 have hGs:=hF.scv
 have s2:=hF.same
 have hb:bldS [(0,1),(1,1),(2,1)] [(AV.sl none 0 (.ex 0)),(AV.sl none 0 (.ex 0)),(AV.sl none 0 (.ex 0))] [(0,vG)]=some (.agg [vG,.sl none 0 (.ex 0),.sl none 0 (.ex 0)]):=by
  cases vG<;>first | rfl | simp [scalar] at hGs
 refine Ok.eq ?_ (by simp -implicitDefEqProofs only [hb,Option.bind_some,mk_some]<;>rfl)
 have s3:Same [] g2 (g2.new (.cells true [(AV.sl none 0 (.ex 0)),(AV.sl none 0 (.ex 0)),(AV.sl none 0 (.ex 0))])):=Same.new _ _
 have n3:(g2.new (.cells true [(AV.sl none 0 (.ex 0)),(AV.sl none 0 (.ex 0)),(AV.sl none 0 (.ex 0))])).next=g2.next+1:=rfl
 have c3:(g2.new (.cells true [(AV.sl none 0 (.ex 0)),(AV.sl none 0 (.ex 0)),(AV.sl none 0 (.ex 0))])).get g2.next=some (.cells true [(AV.sl none 0 (.ex 0)),(AV.sl none 0 (.ex 0)),(AV.sl none 0 (.ex 0))]):=get_new_eq
 generalize g2.new (.cells true [(AV.sl none 0 (.ex 0)),(AV.sl none 0 (.ex 0)),(AV.sl none 0 (.ex 0))])=g3 at *
 have st:stP 3 g3 (.ptr (some (g2.next,0))) (.agg [vG,.sl none 0 (.ex 0),.sl none 0 (.ex 0)])=some (.bot,g3.put g2.next (some (.cells true [vG,.sl none 0 (.ex 0),.sl none 0 (.ex 0)]))):=by
  exact stP_all (cs:=[vG,.sl none 0 (.ex 0),.sl none 0 (.ex 0)]) c3 rfl rfl (by simp [hGs];rfl)
 refine Ok.eq ?_ (by simp -implicitDefEqProofs only [st,cl_some]<;>rfl)
 have s4:Same [g2.next] g3 (g3.put g2.next (some (.cells true [vG,.sl none 0 (.ex 0),.sl none 0 (.ex 0)]))):=Same.put _ _ _
 have n4:(g3.put g2.next (some (.cells true [vG,.sl none 0 (.ex 0),.sl none 0 (.ex 0)]))).next=g3.next:=rfl
 have c4:(g3.put g2.next (some (.cells true [vG,.sl none 0 (.ex 0),.sl none 0 (.ex 0)]))).get g2.next=some (.cells true [vG,.sl none 0 (.ex 0),.sl none 0 (.ex 0)]):=get_put_eq
 generalize g3.put g2.next (some (.cells true [vG,.sl none 0 (.ex 0),.sl none 0 (.ex 0)]))=g4 at *
 have hn12:=s2.next
 have s24:Same [] g2 g4:=s3.old s4 (fun j hj=>by simp at hj;right;omega)
 have s14:Same [] g1 g4:=s2.trans s24
 have W1:=W.keep s1
 have O0:OI g1 g4 g2.next h 0 vG (.sl none 0 (.ex 0)) (.sl none 0 (.ex 0)) none none [] R0:=
  ⟨s14,⟨hn12,by omega⟩,c4,SlB.mt,SlB.mt,(fun j hj=>by cases hj),(fun j hj=>by cases hj),fun j hj=>by
   obtain⟨r1,r2⟩:=hR0 j hj
   exact⟨r1,by omega,by omega,by simp,by simp⟩,hG.kp (KpX.same s24) (fun j hj=>hj),hGs,fun k id hk=>by simp [idsN] at hk⟩
 refine ok_lp (P:=fun s=>s.1 = .exit 0∧∃ vG vI vS bI bS cs R,OI g1 s.2.2 g2.next h 4 vG vI vS bI bS cs R) ?_ ?_
 ·refine ok_loop (fun m vs g'=>∃ (i:Nat) (vG vI vS:AV) (bI bS:Option Nat) (cs:List AV) (R:List Nat),vs = [.int .i64 (i:Int)]∧m+i=4∧OI g1 g' g2.next h i vG vI vS bI bS cs R) ?_ (n:=4) (by omega) ⟨0,_,_,_,_,_,_,_,rfl,rfl,O0⟩
  rintro m vs g' ⟨i,vG',vI,vS,bI,bS,cs,R,rfl,hm,O⟩
  rw [gd0]
  by_cases hi:i < 4
  ·refine Ok.mono (own_step (m:=m) W1 hs hi O) ?_
   rintro⟨e,vs',g''⟩ ⟨h1,h2,vG2,vI2,vS2,bI2,bS2,cs2,R2,O2⟩
   simp only at h1 h2
   subst h1 h2
   exact .inl ⟨rfl,m - 1,by omega,i+1,_,_,_,_,_,_,_,rfl,by omega,O2⟩
  ·have hlt : ¬ (i:Int) < 4:=by omega
   obtain rfl:i=4:=by omega
   exact(Ok.of (r:=(.exit 0,[.int .i64 ((4:Nat):Int)],g')) (.inr ⟨by simp,rfl,_,_,_,_,_,_,_,O⟩)).eq (by
    simp -implicitDefEqProofs only [CH,bin_lss,hlt,decide_false,Option.bind_some,condE_false])
 ·rintro _ vs g5 ⟨rfl,vG',vI,vS,bI,bS,cs,R,O⟩
  simp only at O
  have la:ldA 3 g5 (.ptr (some (g2.next,0)))=some (.agg [vG',vI,vS]):=ldA_all O.cb rfl
  have c5:g5.get g.next=some (.cells true [(AV.sl none 0 (.ex 0)),(AV.sl none 0 (.ex 0)),(AV.sl none 0 (.ex 0))]):=(O.s.get _ (by omega) (by simp)).trans c1
  have st5:stP 3 g5 (.ptr (some (g.next,0))) (.agg [vG',vI,vS])=some (.bot,g5.put g.next (some (.cells true [vG',vI,vS]))):=by
   exact stP_all (cs:=[vG',vI,vS]) c5 rfl rfl (by simp [O.Gs,O.hI.scv,O.hS.scv])
  have la6:ldA 3 (g5.put g.next (some (.cells true [vG',vI,vS]))) (.ptr (some (g.next,0)))=some (.agg [vG',vI,vS]):=ldA_all get_put_eq rfl
  refine ok_val (v:=.agg [vG',vI,vS]) (g:=g5.put g.next (some (.cells true [vG',vI,vS]))) (by
   simp -implicitDefEqProofs only [if_true,thenK_normal,la,Option.bind_some,st5,cl_some,la6]) ?_
  have s56:Same [g.next] g5 (g5.put g.next (some (.cells true [vG',vI,vS]))):=Same.put _ _ _
  have n56:(g5.put g.next (some (.cells true [vG',vI,vS]))).next=g5.next:=rfl
  generalize g5.put g.next (some (.cells true [vG',vI,vS]))=g6 at *
  have hgn:∀ j,j∈bI.toList++(bS.toList++R)→g1.next≤j∧j<g5.next:=fun j hj=>by
   simp only [List.mem_append,Option.mem_toList] at hj
   rcases hj with hj | hj | hj
   ·exact⟨(O.bIn j hj).1,(O.hI.blk j hj).1⟩
   ·exact⟨(O.bSn j hj).1,(O.hS.blk j hj).1⟩
   ·exact⟨(O.R1 j hj).1,(O.R1 j hj).2.1⟩
  have k6:KpX (bI.toList++(bS.toList++R)) g5 g6:=KpX.of s56 fun j hj hm=>by
   simp at hj;subst hj
   have:=(hgn _ hm).1;omega
  show ∃ Y:List Nat,Same [] g g6∧(∀ j∈Y,g.next≤j∧j<g6.next)∧Ro g6 (.agg [vG',vI,vS]) h Y
  refine⟨bI.toList++(bS.toList++R),s1.old ((O.s.sub (by simp)).trans s56) (fun j hj=>by simp at hj;right;omega),fun j hj=>by have:=hgn j hj;omega,⟨vG',vI,vS,rfl,⟨O.Gs,O.hI.scv,O.hS.scv⟩,O.G.kp (k6.sub fun j hj=>by simp [hj]) (fun j hj=>by simp [hj]),?_,?_,fun i id hid=>?_⟩⟩
  ·have hI:=O.hI.same s56 (fun j hj=>by have:=(O.bIn j hj).1;simp;omega)
   exact ird_slb (L:=ids h) hI (fun j hj=>by simp [hj])
  ·exact O.hS.lnL
  ·obtain⟨w,h1,h2⟩:=O.S i id hid
   have hil:=(List.getElem?_eq_some_iff.1 hid).1
   obtain⟨j,hj,hix⟩:=O.hS.ix hil
   have hl:=(O.hS.blk j hj).1
   refine⟨(j,i),w,fun k=>by rw [hix k,Nat.mul_one],fun g' k=>?_,h2.kp (k6.sub fun j hj=>by simp [hj]) (fun j hj=>by simp [hj])⟩
   have e6:g6.get j=g5.get j:=k6.get j (by simp [hj]) hl
   have e7:g'.get j=g6.get j:=k.get j (by simp [hj]) (by omega)
   rw [ldS_at (e7.trans (e6.trans (O.hS.blk j hj).2.1))];exact h1
end
set_option linter.all false
attribute [local congr] c_bind c_cl c_mk c_lp c_clC c_gQ c_gV c_condE c_thenK
theorem Ird.sub {g:Heap}{X Y:List Nat}{v:AV}{L:List Int}(H:Ird g X v L)(h:∀ j∈X,j∈Y):Ird g Y v L:=H.kp (KpX.refl _ _) h
theorem Ird.lrd {g:Heap}{X:List Nat}{v:AV}{L:List Int}(H:Ird g X v L):Lrd g v L X:=⟨H.1,fun i x hx=>by
 obtain⟨p,h1,h2⟩:=H.2 i x hx
 exact⟨p,h1 _,h2⟩⟩
theorem Ro.sub {g:Heap}{x:AV}{h:SH}{X Y:List Nat}(H:Ro g x h X)(hs:∀ j∈X,j∈Y):Ro g x h Y:=by
 obtain⟨vG,vI,vS,h1,h2,h3,h4,h5,h6⟩:=H.ex
 refine⟨vG,vI,vS,h1,h2,h3.sub hs,h4.sub hs,h5,fun i id hid=>?_⟩
 obtain⟨p,w,e1,e2,e3⟩:=h6 i id hid
 exact⟨p,w,e1,fun g' k=>e2 g' (k.sub hs),e3.sub hs⟩
theorem Ro.kp {g g':Heap}{x:AV}{h:SH}{X:List Nat}(H:Ro g x h X)(k:KpX X g g'):Ro g' x h X:=by
 obtain⟨vG,vI,vS,h1,h2,h3,h4,h5,h6⟩:=H.ex
 refine⟨vG,vI,vS,h1,h2,h3.kp k (fun j hj=>hj),h4.kp k (fun j hj=>hj),h5,fun i id hid=>?_⟩
 obtain⟨p,w,e1,e2,e3⟩:=h6 i id hid
 exact⟨p,w,e1,fun g'' k'=>e2 g'' (k.trans k'),e3.kp k (fun j hj=>hj)⟩
theorem app_own {R:Type}{g:Heap}{b:Option Nat}{x:AV}{L:List Int}{y:Int}(H:SlG g b 1 x (wsC L) L.length)(hl:L.length≤2 ^ 40){Kk:AV→Heap→Option R}{Q:R→Prop}
  (hk:∀ v' b' g',SlG g' (some b') 1 v' (wsC (L ++ [y])) (L ++ [y]).length→Same b.toList g g'→g.next≤b'→b'<g'.next→Ok (Kk v' g') Q) :
  Ok (mk Heap.new (bsP 1 [AV.int .i64 0] 1 [(0,.int .i64 y)]) g fun t h0=>cl (appendA h0 1 8 x t) Kk) Q:=by
 have b1:bsP 1 [AV.int .i64 0] 1 [(0,.int .i64 y)]=some (.cells true [.int .i64 y],fun i=>.sl (some (i,0)) 1 (.ex 1)):=rfl
 rw [b1,mk_some]
 have s1:Same [] g (g.new (.cells true [.int .i64 y])):=Same.new _ _
 have c1:(g.new (.cells true [.int .i64 y])).get g.next=some (.cells true [.int .i64 y]):=get_new_eq
 have n1:(g.new (.cells true [.int .i64 y])).next=g.next+1:=rfl
 obtain⟨v',g',e,H2,s2,n2⟩:=appG (bytes:=8) (x:=.sl (some (g.next,0)) 1 (.ex 1)) (H.keep s1 (by simp)) rfl (addedA_one c1) rfl rfl (by decide) (by decide) (by omega)
 rw [e,cl_some]
 refine hk v' _ g' (.inl ?_) ((s1.sub (by simp)).trans s2) (Nat.le_succ _) (by omega)
 rw [wsC_app,List.length_append]
 exact H2
section
variable {g g':Heap}{C D K:Nat→Nat}{v:Vb}{p r:SC}{h:SH}{T:List Shp}{Z:List Nat}
theorem Wi.rd (W:Wi g C D K v p r h T Z)(k:Nat)(y:AV)(hk:∀ x u,(dcC D x r u)[k]?=some y):ldS g (.ptr (some (K 2,k)))=some y:=by
 obtain⟨x,u,d1,_⟩:=W.y.dc
 rw [ldS_at d1];exact hk x u
theorem Wi.shortL (W:Wi g C D K v p r h T Z):v.L.length≤32768:=W.j.rk.rel.short
theorem marking_eq (W:Wi g C D K v p r h T Z):AK (.ptr (some (K 2,0))) g=some (.bool (shB r.ph),g):=by
 have l4:=W.rd 3 _ (fun _ _=>rfl)
 unfold shB
 by_cases h1:r.ph=1
 ·simp -implicitDefEqProofs only [AK,nilV_ptr,Option.bind_some,faP_ptr,Nat.zero_add,l4,eql_int,h1,decide_true,gdW_tf,gQ_false,pickP_bool,if_true,Bool.true_or]
 ·simp -implicitDefEqProofs only [AK,nilV_ptr,Option.bind_some,faP_ptr,Nat.zero_add,l4,eql_int,h1,decide_false,gdW_ff,gQ_true,cl_some,pickP_bool,Bool.false_eq_true,if_false,Bool.false_or]
theorem isblack_ok (W:Wi g C D K v p r h T Z)(hl:r.bl.length≤2 ^ 40)(id:Int):AJ (.ptr (some (K 2,0))) (.int .i64 id) g=some (.bool (decide (id∈r.bl)),g):=by
 obtain⟨x,u,d1,d2⟩:=W.y.dc
 have l4:ldS g (.ptr (some (K 2,4)))=some x:=by rw [ldS_at d1];rfl
 have hI:Ird g (v.lb 6).toList x r.bl:=ird_slg d2 (fun j hj=>by simp [hj])
 have key:Ok (AJ (.ptr (some (K 2,0))) (.int .i64 id) g) fun s=>s=(.bool (decide (id∈r.bl)),g):=by
  refine Ok.eq ?_ (by unfold AJ;rfl)
  refine ok_lp (P:=fun s=>s.2.2=g∧((s.1 = .exit 0∧id∉r.bl)∨(s.1 = .ret∧s.2.1.getD 0 .bot = .bool true∧id∈r.bl))) ?_ ?_
  ·refine ok_loop (fun m vs g2=>∃ (i:Nat) (q:AV),vs = [q,.int .i64 (i:Int)]∧m+i=r.bl.length∧g2=g∧id∉r.bl.take i) ?_ (n:=r.bl.length) (by omega) ⟨0,_,rfl,by omega,rfl,by simp⟩
   rintro m vs g2 ⟨i,q,rfl,hm,rfl,hx⟩
   rw [gd0,gd1]
   by_cases hi:i<r.bl.length
   ·have hlt:(i:Int)<r.bl.length:=by omega
    obtain⟨y,hy⟩:∃ y,r.bl[i]?=some y:=⟨_,List.getElem?_eq_getElem hi⟩
    obtain⟨q',hix,hld⟩:=hI.2 i y hy
    have ld:=hld g2 (KpX.refl _ _)
    refine Ok.eq ?_ (by simp -implicitDefEqProofs only [CY,nilV_ptr,Option.bind_some,faP_ptr,Nat.zero_add,l4,hI.1,bin_lss,hlt,decide_true,condE_true,hix,ld,eql_int]<;>rfl)
    by_cases e:y=id
    ·subst e
     exact(Ok.of (r:=(.ret,[.bool true,.int .i64 (i:Int)],g2)) (.inr ⟨by simp,rfl,.inr ⟨rfl,rfl,List.mem_of_getElem? hy⟩⟩)).eq (by simp -implicitDefEqProofs only [decide_true,condE_true])
    ·refine(Ok.of (r:=(.normal,[q,.int .i64 ((i+1:Nat):Int)],g2)) (.inl ⟨rfl,m - 1,by omega,i+1,q,rfl,by omega,rfl,?_⟩)).eq (by
      simp -implicitDefEqProofs only [e,decide_false,condE_false,bin_add,suc64 i (by omega),Option.bind_some])
     rw [List.take_add_one,hy,List.mem_append]
     have e' : ¬ id=y:=fun h=>e h.symm
     simp [e',hx]
   ·have hlt : ¬ (i:Int)<r.bl.length:=by omega
    rw [List.take_of_length_le (by omega)] at hx
    exact(Ok.of (r:=(.exit 0,[q,.int .i64 (i:Int)],g2)) (.inr ⟨by simp,rfl,.inl ⟨rfl,hx⟩⟩)).eq (by
     simp -implicitDefEqProofs only [CY,nilV_ptr,Option.bind_some,faP_ptr,Nat.zero_add,l4,hI.1,bin_lss,hlt,decide_false,condE_false])
  ·rintro _ vs g2 ⟨rfl,⟨rfl,hx⟩ | ⟨rfl,hv,hx⟩⟩
   ·exact ok_val (v:=.bool false) (g:=g2) rfl (by rw [decide_eq_false hx])
   ·exact ok_val (v:=.bool true) (g:=g2) (by simp only at hv;simp -implicitDefEqProofs only [reduceCtorEq,if_false,thenK_ret,endE_ret,hv]) (by rw [decide_eq_true hx])
 obtain⟨s,e,rfl⟩:=key
 exact e
theorem rshade1 (W:Wi g C D K v p r h T Z)(x:Int)(hq:r.gq.length≤2 ^ 30):Ok (AF (.ptr (some (D 4,0))) (.int .i64 x) g) fun s=>∃ v',Wi s.2 C D K v' p (r.shade [x]) h T Z∧KpX Z g s.2:=by
 refine Ok.mono (rshadeM_ok W.j.rk W.ww x (by omega)) ?_
 rintro s ⟨_,bq',L',H2,k2,hw,_⟩
 obtain⟨W2,k3⟩:=W.doc H2 k2 hw
 exact⟨_,W2,k3⟩
theorem rbarrier_ok (W:Wi g C D K v p r h T Z)(hq:r.gq.length≤2 ^ 29)(hl:r.bl.length≤2 ^ 40)(old fresh id:Int):Ok (Ak (.ptr (some (K 2,0))) (.int .i64 old) (.int .i64 fresh) (.int .i64 id) g) fun s=>∃ v',Wi s.2 C D K v' p (r.barrier old fresh id) h T Z∧KpX Z g s.2:=by
 have hsh:=marking_eq W
 unfold SC.barrier
 cases h1:shB r.ph with
 | false=>
  rw [h1] at hsh
  exact ok_val (v:=.tup []) (g:=g) (by simp -implicitDefEqProofs only [Ak,hsh,cl_some,un_not,Bool.not_false,Option.bind_some,condE_true]) ⟨v,by simpa using W,KpX.refl _ _⟩
 | true=>
  rw [h1] at hsh
  refine Ok.eq ?_ (by simp -implicitDefEqProofs only [Ak,hsh,cl_some,un_not,Bool.not_true,Option.bind_some,condE_false,nilV_ptr,faP_ptr,Nat.zero_add,W.rd 2 _ (fun _ _=>rfl)]<;>rfl)
  refine ok_cl (rshade1 W old (by omega)) ?_
  rintro _ g1 ⟨v1,W1,k1⟩
  simp only at W1 k1
  have hb:=isblack_ok W1 hl id
  have l3:=W1.rd 2 _ (fun _ _=>rfl)
  have hsl:=shade_len r [old]
  by_cases h2:id∈r.bl
  ·rw [decide_eq_true (show id∈(r.shade [old]).bl from h2)] at hb
   refine ok_val (v:=.tup []) (g:=g1) (by simp -implicitDefEqProofs only [hb,cl_some,un_not,Bool.not_true,Option.bind_some,condE_false]) ⟨v1,?_,k1⟩
   rw [if_pos rfl,if_pos h2];exact W1
  ·rw [decide_eq_false (show id∉(r.shade [old]).bl from h2)] at hb
   refine Ok.eq ?_ (by simp -implicitDefEqProofs only [hb,cl_some,un_not,Bool.not_false,Option.bind_some,condE_true,nilV_ptr,faP_ptr,Nat.zero_add,l3]<;>rfl)
   refine ok_cl (rshade1 W1 fresh (by simp at hsl ⊢;omega)) ?_
   rintro _ g2 ⟨v2,W2,k2⟩
   simp only at W2 k2
   refine ok_val (v:=.tup []) (g:=g2) rfl ⟨v2,?_,k1.trans k2⟩
   rw [if_pos rfl,if_neg h2];exact W2
theorem rblack_app {R:Type}(W:Wi g C D K v p r h T Z)(hl:r.bl.length≤2 ^ 40)(id:Int){x:AV}(hx:ldS g (.ptr (some (K 2,4)))=some x){Kk:AV→Heap→Option R}{Q:R→Prop}
  (hk:∀ v' g',Wi g' C D K v' p (r.black (r.bl ++ [id])) h T Z→KpX Z g g'→Ok (Kk .bot g') Q) :
  Ok (mk Heap.new (bsP 1 [AV.int .i64 0] 1 [(0,.int .i64 id)]) g fun t h0=>cl (appendA h0 1 8 x t) fun t61 h12=>cl (stP 1 h12 (.ptr (some (K 2,4))) t61) Kk) Q:=by
 obtain⟨x',u,d1,d2⟩:=W.y.dc
 have e:x=x':=by rw [ldS_at d1] at hx;exact(Option.some.inj hx).symm
 subst e
 refine app_own d2 hl fun v' b' g' H s h1 h2=>?_
 obtain⟨u2,st,Y⟩:=W.y.setB (g1:=g') (S:=(v.lb 6).toList) (b:=some b') s (fun j hj=>by simpa using hj) (fun j hj=>by cases hj;exact .inr ⟨h1,h2⟩) H
 rw [st,cl_some]
 obtain⟨W2,k2⟩:=W.list (k:=6) (c:=2) (by omega) (by omega) s (fun j hj=>.inl (by simpa using hj)) (fun j hj=>by cases hj;exact .inr h1) Y
 exact hk _ _ W2 k2
theorem rborn_ok (W:Wi g C D K v p r h T Z)(hl:r.bl.length≤2 ^ 40)(id:Int):Ok (BK (.ptr (some (K 2,0))) (.int .i64 id) g) fun s=>∃ v',Wi s.2 C D K v' p (r.born id) h T Z∧KpX Z g s.2:=by
 have hsh:=marking_eq W
 unfold SC.born
 cases h1:shB r.ph with
 | false=>
  rw [h1] at hsh
  refine ok_val (v:=.tup []) (g:=g) (by simp -implicitDefEqProofs only [BK,hsh,cl_some,gdW_ft,gQ_false,pickP_bool,Bool.false_eq_true,if_false,Option.bind_some,condE_false]) ⟨v,?_,KpX.refl _ _⟩
  rw [if_neg (by simp)];exact W
 | true=>
  rw [h1] at hsh
  have hb:=isblack_ok W hl id
  by_cases h2:id∈r.bl
  ·rw [decide_eq_true h2] at hb
   refine ok_val (v:=.tup []) (g:=g) (by simp -implicitDefEqProofs only [BK,hsh,cl_some,gdW_tt,gQ_true,hb,un_not,Bool.not_true,Option.bind_some,pickP_bool,if_true,condE_false]) ⟨v,?_,KpX.refl _ _⟩
   rw [if_neg (fun hh=>hh.2 h2)];exact W
  ·rw [decide_eq_false h2] at hb
   obtain⟨x,u,d1,d2⟩:=W.y.dc
   have l4:ldS g (.ptr (some (K 2,4)))=some x:=by rw [ldS_at d1];rfl
   refine Ok.eq ?_ (by simp -implicitDefEqProofs only [BK,hsh,cl_some,gdW_tt,gQ_true,hb,un_not,Bool.not_false,Option.bind_some,pickP_bool,if_true,condE_true,nilV_ptr,faP_ptr,Nat.zero_add,l4]<;>rfl)
   rw [if_pos ⟨rfl,h2⟩]
   refine rblack_app W hl id l4 fun v' g' W' k'=>?_
   exact ok_val (v:=.tup []) (g:=g') rfl ⟨v',W',k'⟩
theorem filter_take {f:Int→Bool}{l:List Int}{i:Nat}{x:Int}(hx:l[i]?=some x):(l.take (i+1)).filter f=(l.take i).filter f++(if f x then [x] else []):=by
 rw [List.take_add_one,hx,List.filter_append]
 cases hp:f x<;>simp [hp]
theorem rdies_ok (W:Wi g C D K v p r h T Z)(hl:r.bl.length≤2 ^ 30)(id:Int):Ok (CQ (.ptr (some (K 2,0))) (.int .i64 id) g) fun s=>∃ v',Wi s.2 C D K v' p (r.dies id) h T Z∧KpX Z g s.2:=by
 obtain⟨x,u,d1,d2⟩:=W.y.dc
 refine Ok.eq ?_ (by unfold CQ;rfl)
 refine ok_lp (P:=fun s=>s.1 = .exit 0∧∃ b,SlG s.2.2 b 1 (s.2.1.getD 0 .bot) (wsC (r.bl.filter fun n=>!decide (n=id))) (r.bl.filter fun n=>!decide (n=id)).length∧(∀ j,b=some j→g.next≤j)∧Same [] g s.2.2) ?_ ?_
 ·refine ok_loop (fun m vs g2=>∃ (i:Nat) (b:Option Nat) (q:AV),vs = [q,.int .i64 (i:Int)]∧m+i=r.bl.length∧SlG g2 b 1 q (wsC ((r.bl.take i).filter fun n=>!decide (n=id))) ((r.bl.take i).filter fun n=>!decide (n=id)).length∧(∀ j,b=some j→g.next≤j)∧Same [] g g2) ?_ (n:=r.bl.length) (by omega) ⟨0,none,_,rfl,by omega,.inl SlB.mt,(fun j hj=>by cases hj),Same.refl _ _⟩
  rintro m vs g2 ⟨i,b,q,rfl,hm,hq,hb,s⟩
  rw [gd0,gd1]
  have d1':=(s.get _ (W.y.lt 2 (by omega)).1 (by simp)).trans d1
  have l4:ldS g2 (.ptr (some (K 2,4)))=some x:=by rw [ldS_at d1'];rfl
  have hI:Ird g2 (v.lb 6).toList x r.bl:=ird_slg (d2.keep s (by simp)) (fun j hj=>by simp [hj])
  by_cases hi:i<r.bl.length
  ·have hlt:(i:Int)<r.bl.length:=by omega
   obtain⟨y,hy⟩:∃ y,r.bl[i]?=some y:=⟨_,List.getElem?_eq_getElem hi⟩
   obtain⟨q',hix,hld⟩:=hI.2 i y hy
   have ld:=hld g2 (KpX.refl _ _)
   have hft:=filter_take (f:=fun n=>!decide (n=id)) hy
   refine Ok.eq ?_ (by simp -implicitDefEqProofs only [Cy,nilV_ptr,Option.bind_some,faP_ptr,Nat.zero_add,l4,hI.1,bin_lss,hlt,decide_true,condE_true,hix,ld,neq_int]<;>rfl)
   by_cases e:y=id
   ·subst e
    refine(Ok.of (r:=(.normal,[q,.int .i64 ((i+1:Nat):Int)],g2)) (.inl ⟨rfl,m - 1,by omega,i+1,b,q,rfl,by omega,?_,hb,s⟩)).eq (by
     simp -implicitDefEqProofs only [decide_true,Bool.not_true,condE_false,bin_add,suc64 i (by omega),Option.bind_some])
    rw [hft];simpa using hq
   ·refine Ok.eq ?_ (by simp -implicitDefEqProofs only [e,decide_false,Bool.not_false,condE_true,Option.bind_some]<;>rfl)
    have hfl:((r.bl.take i).filter fun n=>!decide (n=id)).length≤2 ^ 30:=by
     have h1:=List.length_filter_le (fun n=>!decide (n=id)) (r.bl.take i)
     have h2:(r.bl.take i).length≤r.bl.length:=by rw [List.length_take];omega
     omega
    refine app_own hq (by omega) fun v' b' g' H s' h1 h2=>?_
    refine(Ok.of (r:=(.normal,[v',.int .i64 ((i+1:Nat):Int)],g')) (.inl ⟨rfl,m - 1,by omega,i+1,some b',v',rfl,by omega,?_,fun j hj=>by have:=Option.some.inj hj;have:=s.next;omega,s.old s' (fun j hj=>.inr (hb j (by simpa using hj)))⟩)).eq (by
     simp -implicitDefEqProofs only [bin_add,suc64 i (by omega),Option.bind_some])
    rw [hft]
    simp only [e,decide_false,Bool.not_false,if_true]
    exact H
  ·have hlt : ¬ (i:Int)<r.bl.length:=by omega
   rw [List.take_of_length_le (by omega)] at hq
   exact(Ok.of (r:=(.exit 0,[q,.int .i64 (i:Int)],g2)) (.inr ⟨by simp,rfl,b,hq,hb,s⟩)).eq (by
    simp -implicitDefEqProofs only [Cy,nilV_ptr,Option.bind_some,faP_ptr,Nat.zero_add,l4,hI.1,bin_lss,hlt,decide_false,condE_false])
 ·rintro _ vs g2 ⟨rfl,b,hq,hb,s⟩
  simp only at hq s
  obtain⟨u2,st,Y⟩:=W.y.setB (g1:=g2) (S:=[]) (b:=b) s (by simp) (fun j hj=>.inr ⟨hb j hj,hq.lt hj⟩) hq
  obtain⟨W2,k2⟩:=W.list (k:=6) (c:=2) (by omega) (by omega) s (by simp) (fun j hj=>.inr (hb j hj)) Y
  exact ok_val (v:=.tup []) (by simp -implicitDefEqProofs only [if_true,thenK_normal,nilV_ptr,faP_ptr,Nat.zero_add,Option.bind_some,st,cl_some]<;>rfl) ⟨_,W2,k2⟩
theorem rctake_ok (W:Wi g C D K v p r h T Z)(h0:U0 r.l)(h8:1≤r.l.un.length){w:Int}(hc:classOf w≠-1):Ok (CK (.ptr (some (K 2,0))) (.int .i64 w) g) fun s=>s.1 = .int .i64 (r.take w).1.1∧Good1 (r.take w).1∧∃ v',Wi s.2 C D K v' p (r.take w).2 h T Z∧KpX Z g s.2:=by
 have hL:=W.shortL
 refine Ok.eq ?_ (by simp -implicitDefEqProofs only [CK,nilV_ptr,Option.bind_some,faP_ptr,Nat.zero_add,W.rd 1 _ (fun _ _=>rfl)]<;>rfl)
 refine ok_cl (ratake_ok W.j.rk W.ww h0 h8 (by omega) hc) ?_
 rintro _ g1 ⟨rfl,hg,_,b',cls',L',H1,k1,_,hw1⟩
 simp only at H1 k1
 obtain⟨W1,k1⟩:=W.doc H1 k1 hw1
 have hsh:=marking_eq W1
 simp only at hsh
 unfold SC.take
 rcases hg with⟨ha,he⟩ | ⟨ha,he⟩
 ·refine ok_val (v:=.int .i64 (r.l.take w).1.1) (g:=g1) (by simp -implicitDefEqProofs only [neq_int,ha,decide_true,Bool.not_true,gdW_ft,gQ_false,pickP_bool,Bool.false_eq_true,if_false,Option.bind_some,condE_false]) ⟨rfl,.inl ⟨ha,he⟩,?_⟩
  rw [if_neg (fun hh=>by rw [he] at hh;exact absurd hh.1 (by decide))]
  exact⟨_,W1,k1⟩
 ·cases hb:shB r.ph with
  | true=>
   rw [hb] at hsh
   refine Ok.eq ?_ (by simp -implicitDefEqProofs only [neq_int,ha,decide_false,Bool.not_false,gdW_tt,gQ_true,cl_some,hsh,pickP_bool,if_true,Option.bind_some,condE_true,nilV_ptr,faP_ptr,Nat.zero_add,W1.rd 0 _ (fun _ _=>rfl)]<;>rfl)
   refine ok_cl (rmark_ok W1.j.rk.ar (r.l.take w).1.1) ?_
   rintro _ g2 ⟨rfl,R2,k2⟩
   simp only at R2 k2
   obtain⟨e1,r1⟩:=rel_mark W1.j.rk.rel (r.l.take w).1.1
   obtain⟨H2,kx2⟩:=W1.j.rk.arena R2 k2 r1 (mark_same (r.l.take w).2.ar (r.l.take w).1.1).len
   obtain⟨W2,k2⟩:=W1.doc H2 kx2 (rmark_ww hw1 _)
   refine ok_val (v:=.int .i64 (r.l.take w).1.1) (g:=g2) rfl ⟨rfl,.inr ⟨ha,he⟩,?_⟩
   rw [if_pos ⟨he,rfl⟩]
   exact⟨_,W2,k1.trans k2⟩
  | false=>
   rw [hb] at hsh
   refine ok_val (v:=.int .i64 (r.l.take w).1.1) (g:=g1) (by simp -implicitDefEqProofs only [neq_int,ha,decide_false,Bool.not_false,gdW_tt,gQ_true,cl_some,hsh,pickP_bool,if_true,Option.bind_some,condE_false]) ⟨rfl,.inr ⟨ha,he⟩,?_⟩
   rw [if_neg (by simp)]
   exact⟨_,W1,k1⟩
end
set_option linter.all false
attribute [local congr] c_bind c_cl c_mk c_lp c_clC c_gQ c_gV c_condE c_thenK
structure Rb (g:Heap)(c:Nat)(vG vI vS:AV)(h:SH)(Z:List Nat):Prop where
 cb:g.get c=some (.cells true [vG,vI,vS])
 cz:c∈Z
 cl:c<g.next
 sc:scalar vG=true∧scalar vI=true∧scalar vS=true
 G:Ird g Z vG (h.L 0)
 I:Ird g Z vI (ids h)
 Sl:lnL vS=some (.int .i64 (ids h).length)
 S:∀ (i:Nat) id,(ids h)[i]?=some id→∃ p w,(∀ k,iaS 1 vS (.int k (i:Int))=some (.ptr (some p)))∧(∀ g',KpX Z g g'→ldS g' (.ptr (some p))=some w)∧Ird g Z w (stk h id)
section
variable {g g':Heap}{C D K:Nat→Nat}{v:Vb}{p r:SC}{h:SH}{T:List Shp}{Z:List Nat}{c:Nat}{vG vI vS x:AV}
theorem Rb.kp (R:Rb g c vG vI vS h Z)(k:KpX Z g g'):Rb g' c vG vI vS h Z:=
 ⟨(k.get c R.cz R.cl).trans R.cb,R.cz,Nat.lt_of_lt_of_le R.cl k.next,R.sc,R.G.kp k (fun j hj=>hj),R.I.kp k (fun j hj=>hj),R.Sl,fun i id hid=>by
  obtain⟨p,w,e1,e2,e3⟩:=R.S i id hid
  exact⟨p,w,e1,fun g'' k'=>e2 g'' (k.trans k'),e3.kp k (fun j hj=>hj)⟩⟩
theorem Rb.ro (R:Rb g c vG vI vS h Z):Ro g (.agg [vG,vI,vS]) h Z:=⟨vG,vI,vS,rfl,R.sc,R.G,R.I,R.Sl,R.S⟩
theorem Rb.l0 (R:Rb g c vG vI vS h Z):ldS g (.ptr (some (c,0)))=some vG:=by rw [ldS_at R.cb];rfl
theorem Rb.l1 (R:Rb g c vG vI vS h Z):ldS g (.ptr (some (c,1)))=some vI:=by rw [ldS_at R.cb];rfl
theorem Rb.l2 (R:Rb g c vG vI vS h Z):ldS g (.ptr (some (c,2)))=some vS:=by rw [ldS_at R.cb];rfl
theorem Rb.la (R:Rb g c vG vI vS h Z):ldA 3 g (.ptr (some (c,0)))=some (.agg [vG,vI,vS]):=ldA_all R.cb rfl
theorem ro_box (W:Wi g C D K v p r h T Z)(R:Ro g x h Z):∃ vG vI vS,x = .agg [vG,vI,vS]∧bxP x=some (.cells true [vG,vI,vS],fun i=>.ptr (some (i,0)))∧
  Wi (g.new (.cells true [vG,vI,vS])) C D K v p r h T (g.next::Z)∧Rb (g.new (.cells true [vG,vI,vS])) g.next vG vI vS h (g.next::Z)∧Same [] g (g.new (.cells true [vG,vI,vS])):=by
 obtain⟨vG,vI,vS,rfl,hsc,h3,h4,h5,h6⟩:=R.ex
 have s:Same [] g (g.new (.cells true [vG,vI,vS])):=Same.new _ _
 have hz:∀ j∈Z,j∈g.next::Z:=fun j hj=>List.mem_cons_of_mem _ hj
 refine⟨vG,vI,vS,rfl,by simp [bxP,AV.cells,hsc.1,hsc.2.1,hsc.2.2],W.addZ s (Nat.le_refl _) (Nat.lt_succ_self _),?_,s⟩
 have k:KpX Z g (g.new (.cells true [vG,vI,vS])):=KpX.same s
 refine⟨get_new_eq,List.mem_cons_self ..,Nat.lt_succ_self _,hsc,h3.kp k hz,h4.kp k hz,h5,fun i id hid=>?_⟩
 obtain⟨p,w,e1,e2,e3⟩:=h6 i id hid
 exact⟨p,w,e1,fun g' k'=>e2 g' (k.trans (k'.sub hz)),e3.kp k hz⟩
theorem SC.shade_drop (r:SC){L:List Int}{i:Nat}{y:Int}(hy:L[i]?=some y):(r.shade [y]).shade (L.drop (i+1))=r.shade (L.drop i):=by
 rw [drop_at hy];rfl
theorem rstart_loop (W:Wi g C D K v p r h T Z)(R:Rb g c vG vI vS h Z)(hq:r.gq.length+(h.L 0).length≤2 ^ 30) :
  Ok (DZ (.ptr (some (K 2,0))) (.ptr (some (c,0))) (.int .i64 0) g) fun s=>s.1 = .exit 0∧∃ v',Wi s.2.2 C D K v' p (r.shade (h.L 0)) h T Z∧KpX Z g s.2.2:=by
 refine ok_loop (fun m vs g2=>∃ (i:Nat) (r':SC) (v':Vb),vs = [.int .i64 (i:Int)]∧m+i=(h.L 0).length∧Wi g2 C D K v' p r' h T Z∧r'.shade ((h.L 0).drop i)=r.shade (h.L 0)∧r'.gq.length≤r.gq.length+i∧KpX Z g g2) ?_ (n:=(h.L 0).length) (by omega) ⟨0,r,v,rfl,rfl,W,rfl,by omega,KpX.refl _ _⟩
 rintro m vs g2 ⟨i,r',v',rfl,hm,W',he,hl,k⟩
 rw [gd0]
 have R':=R.kp k
 by_cases hi:i<(h.L 0).length
 ·have hlt:(i:Int)<(h.L 0).length:=by omega
  obtain⟨y,hy⟩:∃ y,(h.L 0)[i]?=some y:=⟨_,List.getElem?_eq_getElem hi⟩
  obtain⟨q,hix,hld⟩:=R'.G.2 i y hy
  have ld:=hld g2 (KpX.refl _ _)
  refine Ok.eq ?_ (by simp -implicitDefEqProofs only [Cn,faP_ptr,Nat.zero_add,R'.l0,R'.G.1,Option.bind_some,bin_lss,hlt,decide_true,condE_true,nilV_ptr,W'.rd 2 _ (fun _ _=>rfl),hix,ld]<;>rfl)
  refine ok_cl (rshade1 W' y (by omega)) ?_
  rintro _ g3 ⟨v2,W2,k2⟩
  simp only at W2 k2
  have hsl:=shade_len r' [y]
  exact(Ok.of (r:=(.normal,[.int .i64 ((i+1:Nat):Int)],g3)) (.inl ⟨rfl,m - 1,by omega,i+1,_,v2,rfl,by omega,W2,by rw [SC.shade_drop r' hy];exact he,by simp at hsl;omega,k.trans k2⟩)).eq (by
   simp -implicitDefEqProofs only [chk_nil,bin_add,Option.bind_some,suc64 i (by omega)])
 ·have hlt : ¬ (i:Int)<(h.L 0).length:=by omega
  obtain rfl:i=(h.L 0).length:=by omega
  rw [List.drop_of_length_le (Nat.le_refl _)] at he
  have e:r'=r.shade (h.L 0):=by rw [← he];rfl
  rw [← e]
  exact(Ok.of (r:=(.exit 0,[.int .i64 ((h.L 0).length:Int)],g2)) (.inr ⟨by simp,rfl,v',W',k⟩)).eq (by
   simp -implicitDefEqProofs only [Cn,faP_ptr,Nat.zero_add,R'.l0,R'.G.1,Option.bind_some,bin_lss,hlt,decide_false,condE_false])
theorem rstart_ok (W:Wi g C D K v p r h T Z)(R:Ro g x h Z)(hs:h.sm)(hq:r.gq.length≤2 ^ 29):Ok (Bk (.ptr (some (K 2,0))) x g) fun s=>s.1 = .bool (r.start h).1∧∃ v',Wi s.2 C D K v' p (r.start h).2 h T Z∧KpX Z g s.2:=by
 obtain⟨vG,vI,vS,rfl,hb,W1,R1,s1⟩:=ro_box W R
 have hl0:=hs 0 (by omega)
 have hz:∀ j∈Z,j∈g.next::Z:=fun j hj=>List.mem_cons_of_mem _ hj
 refine Ok.eq ?_ (by simp -implicitDefEqProofs only [Bk,hb,mk_some]<;>rfl)
 generalize g.new (.cells true [vG,vI,vS])=g1 at *
 have l3:=W1.rd 3 _ (fun _ _=>rfl)
 unfold SC.start
 by_cases h0:r.ph=0
 ·rw [if_pos h0]
  refine Ok.eq ?_ (by simp -implicitDefEqProofs only [nilV_ptr,Option.bind_some,faP_ptr,Nat.zero_add,l3,neq_int,h0,decide_true,Bool.not_true,condE_false,W1.rd 0 _ (fun _ _=>rfl)]<;>rfl)
  refine ok_cl (rclearA_ok W1.j.rk W1.ww) ?_
  rintro _ g2 ⟨rfl,L',H2,k2,hw2⟩
  simp only at H2 k2
  obtain⟨W2,k2⟩:=W1.doc H2 k2 hw2
  obtain⟨g3,e3,W3,k3⟩:=W2.setR 3 (.int .i64 1) 1 r.dn (fun v u=>⟨u,rfl⟩) (by omega) rfl
  obtain⟨u4,st4,Y4⟩:=W3.y.setB (g1:=g3) (S:=[]) (b:=none) (Same.refl _ _) (by simp) (fun j hj=>by cases hj) (v:=.sl none 0 (.ex 0)) (L:=[]) (.inl SlB.mt)
  obtain⟨W4,k4⟩:=W3.list (k:=6) (c:=2) (by omega) (by omega) (Same.refl [] _) (by simp) (fun j hj=>by cases hj) Y4
  refine Ok.eq ?_ (by simp -implicitDefEqProofs only [nilV_ptr,Option.bind_some,faP_ptr,Nat.zero_add,e3,cl_some,st4]<;>rfl)
  have k14:=(k2.trans k3).trans k4
  refine ok_lp (rstart_loop W4 (R1.kp k14) (by simp only;omega)) ?_
  rintro _ vs g5 ⟨rfl,v',W5,k5⟩
  simp only at W5 k5
  exact ok_val (v:=.bool true) (g:=g5) rfl ⟨rfl,v',W5.subZ hz W.z0,(KpX.same s1).trans ((k14.trans k5).sub hz)⟩
 ·rw [if_neg h0]
  exact ok_val (v:=.bool false) (g:=g1) (by simp -implicitDefEqProofs only [nilV_ptr,Option.bind_some,faP_ptr,Nat.zero_add,l3,neq_int,h0,decide_false,Bool.not_false,condE_true]) ⟨rfl,v,W1.subZ hz W.z0,KpX.same s1⟩
theorem rscan_inner (W:Wi g C D K v p r h T Z)(R:Rb g c vG vI vS h Z){n:Nat}{id:Int}(hn:(ids h)[n]?=some id)(hq:r.gq.length+(stk h id).length≤2 ^ 30) :
  Ok (Dj (.ptr (some (K 2,0))) (.ptr (some (c,0))) (.int .i64 n) (.int .i64 0) g) fun s=>s.1 = .exit 2∧∃ v',Wi s.2.2 C D K v' p (r.shade (stk h id)) h T Z∧KpX Z g s.2.2:=by
 refine ok_loop (fun m vs g2=>∃ (i:Nat) (r':SC) (v':Vb),vs = [.int .i64 (i:Int)]∧m+i=(stk h id).length∧Wi g2 C D K v' p r' h T Z∧r'.shade ((stk h id).drop i)=r.shade (stk h id)∧r'.gq.length≤r.gq.length+i∧KpX Z g g2) ?_ (n:=(stk h id).length) (by omega) ⟨0,r,v,rfl,rfl,W,rfl,by omega,KpX.refl _ _⟩
 rintro m vs g2 ⟨i,r',v',rfl,hm,W',he,hl,k⟩
 rw [gd0]
 have R':=R.kp k
 obtain⟨q1,w,ix1,ld1,Iw⟩:=R'.S n id hn
 have lw:=ld1 g2 (KpX.refl _ _)
 by_cases hi:i<(stk h id).length
 ·have hlt:(i:Int)<(stk h id).length:=by omega
  obtain⟨y,hy⟩:∃ y,(stk h id)[i]?=some y:=⟨_,List.getElem?_eq_getElem hi⟩
  obtain⟨q,hix,hld⟩:=Iw.2 i y hy
  have ld:=hld g2 (KpX.refl _ _)
  refine Ok.eq ?_ (by simp -implicitDefEqProofs only [Cx,faP_ptr,Nat.zero_add,R'.l2,ix1,lw,Iw.1,Option.bind_some,bin_lss,hlt,decide_true,condE_true,nilV_ptr,W'.rd 2 _ (fun _ _=>rfl),hix,ld]<;>rfl)
  refine ok_cl (rshade1 W' y (by omega)) ?_
  rintro _ g3 ⟨v2,W2,k2⟩
  simp only at W2 k2
  have hsl:=shade_len r' [y]
  exact(Ok.of (r:=(.normal,[.int .i64 ((i+1:Nat):Int)],g3)) (.inl ⟨rfl,m - 1,by omega,i+1,_,v2,rfl,by omega,W2,by rw [SC.shade_drop r' hy];exact he,by simp at hsl;omega,k.trans k2⟩)).eq (by
   simp -implicitDefEqProofs only [chk_nil,bin_add,Option.bind_some,suc64 i (by omega)])
 ·have hlt : ¬ (i:Int)<(stk h id).length:=by omega
  obtain rfl:i=(stk h id).length:=by omega
  rw [List.drop_of_length_le (Nat.le_refl _)] at he
  have e:r'=r.shade (stk h id):=by rw [← he];rfl
  rw [← e]
  exact(Ok.of (r:=(.exit 2,[.int .i64 ((stk h id).length:Int)],g2)) (.inr ⟨by simp,rfl,v',W',k⟩)).eq (by
   simp -implicitDefEqProofs only [Cx,faP_ptr,Nat.zero_add,R'.l2,ix1,lw,Iw.1,Option.bind_some,bin_lss,hlt,decide_false,condE_false])
theorem stk_len {h:SH}(hs:h.sm)(id:Int):(stk h id).length≤2 ^ 20:=by
 unfold stk;split
 ·exact hs _ (by omega)
 ·simp
theorem scan_no {r:SC}{h:SH}{id:Int}(hh : ¬ (shB r.ph=true∧id∉r.bl∧id∈ids h)):r.scan h id=(false,r):=by unfold SC.scan;rw [if_neg hh]
theorem scan_yes {r:SC}{h:SH}{id:Int}(hh:shB r.ph=true∧id∉r.bl∧id∈ids h):r.scan h id=(true,(r.shade (stk h id)).black (r.bl ++ [id])):=by unfold SC.scan;rw [if_pos hh]
theorem rscan_ok (W:Wi g C D K v p r h T Z)(R:Ro g x h Z)(hs:h.sm)(hq:r.gq.length≤2 ^ 29)(hbl:r.bl.length≤2 ^ 40)(id:Int):Ok (Bv (.ptr (some (K 2,0))) x (.int .i64 id) g) fun s=>s.1 = .bool (r.scan h id).1∧∃ v',Wi s.2 C D K v' p (r.scan h id).2 h T Z∧KpX Z g s.2:=by
 obtain⟨vG,vI,vS,rfl,hb,W1,R1,s1⟩:=ro_box W R
 have hz:∀ j∈Z,j∈g.next::Z:=fun j hj=>List.mem_cons_of_mem _ hj
 refine Ok.eq ?_ (by simp -implicitDefEqProofs only [Bv,hb,mk_some]<;>rfl)
 generalize g.new (.cells true [vG,vI,vS])=g1 at *
 have hsh:=marking_eq W1
 have hbk:=isblack_ok W1 hbl id
 cases h1:shB r.ph with
 | false=>
  rw [scan_no (by simp [h1])]
  rw [h1] at hsh
  exact ok_val (v:=.bool false) (g:=g1) (by simp -implicitDefEqProofs only [hsh,cl_some,un_not,Bool.not_false,Option.bind_some,gdW_tf,gQ_false,pickP_bool,if_true,condE_true]) ⟨rfl,v,W1.subZ hz W.z0,KpX.same s1⟩
 | true=>
  rw [h1] at hsh
  by_cases h2:id∈r.bl
  ·rw [scan_no (by simp [h2])]
   rw [decide_eq_true h2] at hbk
   exact ok_val (v:=.bool false) (g:=g1) (by simp -implicitDefEqProofs only [hsh,cl_some,un_not,Bool.not_true,Option.bind_some,gdW_ff,gQ_true,hbk,pickP_bool,Bool.false_eq_true,if_false,condE_true]) ⟨rfl,v,W1.subZ hz W.z0,KpX.same s1⟩
  ·rw [decide_eq_false h2] at hbk
   refine Ok.eq ?_ (by simp -implicitDefEqProofs only [hsh,cl_some,un_not,Bool.not_true,Option.bind_some,gdW_ff,gQ_true,hbk,pickP_bool,Bool.false_eq_true,if_false,condE_false]<;>rfl)
   have hil:=ids_len h
   refine ok_lp (P:=fun s=>(s.1 = .exit 0∧id∉ids h∧s.2.2=g1)∨(s.1 = .ret∧s.2.1.getD 0 .bot = .bool true∧id∈ids h∧∃ v',Wi s.2.2 C D K v' p ((r.shade (stk h id)).black (r.bl ++ [id])) h T (g.next::Z)∧KpX (g.next::Z) g1 s.2.2)) ?_ ?_
   ·refine ok_loop (fun m vs g2=>∃ (i:Nat) (q:AV),vs = [q,.int .i64 (i:Int)]∧m+i=(ids h).length∧g2=g1∧id∉(ids h).take i) ?_ (n:=(ids h).length) (by omega) ⟨0,_,rfl,by omega,rfl,by simp⟩
    rintro m vs g2 ⟨i,q,rfl,hm,rfl,hx⟩
    rw [gd0,gd1]
    by_cases hi:i<(ids h).length
    ·have hlt:(i:Int)<(ids h).length:=by omega
     obtain⟨y,hy⟩:∃ y,(ids h)[i]?=some y:=⟨_,List.getElem?_eq_getElem hi⟩
     obtain⟨q1,hix,hld⟩:=R1.I.2 i y hy
     have ld:=hld g2 (KpX.refl _ _)
     refine Ok.eq ?_ (by simp -implicitDefEqProofs only [Cv,faP_ptr,Nat.zero_add,R1.l1,R1.I.1,Option.bind_some,bin_lss,hlt,decide_true,condE_true,hix,ld,eql_int]<;>rfl)
     by_cases e:y=id
     ·subst e
      refine Ok.eq ?_ (by simp -implicitDefEqProofs only [decide_true,condE_true]<;>rfl)
      have hsl:=stk_len hs y
      refine ok_lp (rscan_inner W1 R1 hy (by omega)) ?_
      rintro _ vs3 g3 ⟨rfl,v3,W3,k3⟩
      simp only at W3 k3
      obtain⟨x',u,d1,d2⟩:=W3.y.dc
      have l4:ldS g3 (.ptr (some (K 2,4)))=some x':=by rw [ldS_at d1];rfl
      refine Ok.eq ?_ (by simp -implicitDefEqProofs only [if_true,thenK_normal,nilV_ptr,faP_ptr,Nat.zero_add,Option.bind_some,l4]<;>rfl)
      refine rblack_app W3 hbl y l4 fun v4 g4 W4 k4=>?_
      exact Ok.of (r:=(Ex.ret,[AV.bool true,.int .i64 (i:Int)],g4)) (.inr ⟨by simp,.inr ⟨rfl,rfl,List.mem_of_getElem? hy,v4,W4,k3.trans k4⟩⟩)
     ·refine(Ok.of (r:=(.normal,[q,.int .i64 ((i+1:Nat):Int)],g2)) (.inl ⟨rfl,m - 1,by omega,i+1,q,rfl,by omega,rfl,?_⟩)).eq (by
       simp -implicitDefEqProofs only [e,decide_false,condE_false,bin_add,suc64 i (by omega),Option.bind_some])
      rw [List.take_add_one,hy,List.mem_append]
      have e' : ¬ id=y:=fun h=>e h.symm
      simp [e',hx]
    ·have hlt : ¬ (i:Int)<(ids h).length:=by omega
     rw [List.take_of_length_le (by omega)] at hx
     exact(Ok.of (r:=(.exit 0,[q,.int .i64 (i:Int)],g2)) (.inr ⟨by simp,.inl ⟨rfl,hx,rfl⟩⟩)).eq (by
      simp -implicitDefEqProofs only [Cv,faP_ptr,Nat.zero_add,R1.l1,R1.I.1,Option.bind_some,bin_lss,hlt,decide_false,condE_false])
   ·rintro _ vs g2 (⟨rfl,hx,he⟩ | ⟨rfl,hv,hx,v',W',k'⟩)
    ·simp only at he
     subst he
     rw [scan_no (fun hh=>hx hh.2.2)]
     exact ok_val (v:=.bool false) (g:=g2) rfl ⟨rfl,v,W1.subZ hz W.z0,KpX.same s1⟩
    ·simp only at hv W' k'
     rw [scan_yes ⟨h1,h2,hx⟩]
     exact ok_val (v:=.bool true) (g:=g2) (by simp -implicitDefEqProofs only [reduceCtorEq,if_false,thenK_ret,endE_ret,hv]) ⟨rfl,v',W'.subZ hz W.z0,(KpX.same s1).trans (k'.sub hz)⟩
end
set_option linter.all false
attribute [local congr] c_bind c_cl c_mk c_lp c_clC c_gQ c_gV c_condE c_thenK
theorem wh_head {r:SC}{h:SH}{k:Nat}{id:Int}(hk:(ids h)[k]?=some id)(hn:id∉r.bl)(hb:∀ y∈(ids h).take k,y∈r.bl):∃ l,r.wh h=id::l:=by
 have hl:=(List.getElem?_eq_some_iff.1 hk).1
 have e:ids h=(ids h).take k++id::(ids h).drop (k+1):=by rw [← drop_at hk,List.take_append_drop]
 refine⟨((ids h).drop (k+1)).filter fun n=>!decide (n∈r.bl),?_⟩
 unfold SC.wh
 rw [e,List.filter_append,List.filter_cons_of_pos (by simp [hn])]
 have:((ids h).take k).filter (fun n=>!decide (n∈r.bl)) = []:=List.filter_eq_nil_iff.2 fun y hy=>by simp [hb y hy]
 rw [this,List.nil_append]
 congr 2
 rw [← e]
theorem wh_none {r:SC}{h:SH}(hb:∀ y∈ids h,y∈r.bl):r.wh h = []:=List.filter_eq_nil_iff.2 fun y hy=>by simp [hb y hy]
def WhI (r:SC)(h:SH)(b:Int):Prop:=(b = -1∧r.wh h = [])∨∃ (k:Nat) (id:Int) (l:List Int),b=(k:Int)∧(ids h)[k]?=some id∧r.wh h=id::l
section
variable {g g':Heap}{C D K:Nat→Nat}{v:Vb}{p r:SC}{h:SH}{T:List Shp}{Z:List Nat}{c:Nat}{vG vI vS x:AV}
theorem rwhite_ok (W:Wi g C D K v p r h T Z)(R:Ro g x h Z)(hbl:r.bl.length≤2 ^ 40):Ok (Bg (.ptr (some (K 2,0))) x g) fun s=>Same [] g s.2∧∃ b:Int,s.1 = .int .i64 b∧WhI r h b:=by
 obtain⟨vG,vI,vS,rfl,hb,W1,R1,s1⟩:=ro_box W R
 refine Ok.eq ?_ (by simp -implicitDefEqProofs only [Bg,hb,mk_some]<;>rfl)
 generalize g.new (.cells true [vG,vI,vS])=g1 at *
 have hil:=ids_len h
 have hso:(ids h).Pairwise (· < ·):=idsN_so h.on 4
 refine ok_lp (P:=fun s=>s.1 = .exit 0∧s.2.2=g1∧∃ b:Int,s.2.1.getD 0 .bot = .int .i64 b∧WhI r h b) ?_ ?_
 ·refine ok_loop (fun m vs g2=>∃ (i:Nat) (b:Int),vs = [.int .i64 b,.int .i64 (i:Int)]∧m+i=(ids h).length∧g2=g1∧((b = -1∧∀ y∈(ids h).take i,y∈r.bl)∨∃ (k:Nat) (id:Int),b=(k:Int)∧k<i∧(ids h)[k]?=some id∧id∉r.bl∧∀ y∈(ids h).take k,y∈r.bl)) ?_ (n:=(ids h).length) (by omega) ⟨0,-1,rfl,by omega,rfl,.inl ⟨rfl,by simp⟩⟩
  rintro m vs g2 ⟨i,b,rfl,hm,rfl,hI⟩
  rw [gd0,gd1]
  by_cases hi:i<(ids h).length
  ·have hlt:(i:Int)<(ids h).length:=by omega
   obtain⟨y,hy⟩:∃ y,(ids h)[i]?=some y:=⟨_,List.getElem?_eq_getElem hi⟩
   obtain⟨q1,hix,hld⟩:=R1.I.2 i y hy
   have ld:=hld g2 (KpX.refl _ _)
   have hbk:=isblack_ok W1 hbl y
   refine Ok.eq ?_ (by simp -implicitDefEqProofs only [Ch,faP_ptr,Nat.zero_add,R1.l1,R1.I.1,Option.bind_some,bin_lss,hlt,decide_true,condE_true,hix,ld,hbk,cl_some,un_not]<;>rfl)
   by_cases hyb:y∈r.bl
   ·rw [decide_eq_true hyb]
    refine(Ok.of (r:=(.normal,[.int .i64 b,.int .i64 ((i+1:Nat):Int)],g2)) (.inl ⟨rfl,m - 1,by omega,i+1,b,rfl,by omega,rfl,?_⟩)).eq (by
     simp -implicitDefEqProofs only [Bool.not_true,gdW_ft,gV_false,Option.bind_some,gdW_tup,pickP_bool,Bool.false_eq_true,if_false,chk_nil,condE_false,bin_add,suc64 i (by omega)])
    rcases hI with⟨h1,h2⟩ | ⟨k,id,h1,h2,h3⟩
    ·refine .inl ⟨h1,fun z hz=>?_⟩
     rw [List.take_add_one,hy,List.mem_append] at hz
     rcases hz with hz | hz
     ·exact h2 z hz
     ·simp at hz;subst hz;exact hyb
    ·exact .inr ⟨k,id,h1,by omega,h3⟩
   ·rw [decide_eq_false hyb]
    rcases hI with⟨rfl,h2⟩ | ⟨k,id,rfl,h2,h3,h4,h5⟩
    ·have hb0:(-1:Int) < 0:=by omega
     exact(Ok.of (r:=(.normal,[.int .i64 (i:Int),.int .i64 ((i+1:Nat):Int)],g2)) (.inl ⟨rfl,m - 1,by omega,i+1,(i:Int),rfl,by omega,rfl,.inr ⟨i,y,rfl,by omega,hy,hyb,h2⟩⟩)).eq (by
      simp -implicitDefEqProofs only [Bool.not_false,gdW_tt,gV_true,Option.bind_some,bin_lss,hb0,decide_true,gdW_tf,gV_false,pickP_bool,if_true,chk_nil,condE_true,bin_add,suc64 i (by omega)])
    ·have hk0 : ¬ (k:Int) < 0:=by omega
     obtain⟨q2,hix2,hld2⟩:=R1.I.2 k id h3
     have ld2:=hld2 g2 (KpX.refl _ _)
     have hyid : ¬ y<id:=by
      have hki:=(List.getElem?_eq_some_iff.1 h3)
      have hii:=(List.getElem?_eq_some_iff.1 hy)
      have:=List.pairwise_iff_getElem.1 hso k i hki.1 hii.1 h2
      rw [hki.2,hii.2] at this
      omega
     exact(Ok.of (r:=(.normal,[.int .i64 (k:Int),.int .i64 ((i+1:Nat):Int)],g2)) (.inl ⟨rfl,m - 1,by omega,i+1,(k:Int),rfl,by omega,rfl,.inr ⟨k,id,rfl,by omega,h3,h4,h5⟩⟩)).eq (by
      simp -implicitDefEqProofs only [Bool.not_false,gdW_tt,gV_true,Option.bind_some,bin_lss,hk0,decide_false,gdW_ff,R1.l1,hix,ld,hix2,ld2,hyid,pickP_bool,Bool.false_eq_true,if_false,if_true,chk_nil,condE_false,bin_add,suc64 i (by omega)])
  ·have hlt : ¬ (i:Int)<(ids h).length:=by omega
   rw [List.take_of_length_le (show(ids h).length≤i by omega)] at hI
   exact(Ok.of (r:=(.exit 0,[.int .i64 b,.int .i64 (i:Int)],g2)) (.inr ⟨by simp,rfl,rfl,b,rfl,by
    rcases hI with⟨rfl,h2⟩ | ⟨k,id,rfl,h2,h3,h4,h5⟩
    ·exact .inl ⟨rfl,wh_none h2⟩
    ·obtain⟨l,hl⟩:=wh_head h3 h4 h5
     exact .inr ⟨k,id,l,rfl,h3,hl⟩⟩)).eq (by
    simp -implicitDefEqProofs only [Ch,faP_ptr,Nat.zero_add,R1.l1,R1.I.1,Option.bind_some,bin_lss,hlt,decide_false,condE_false])
 ·rintro _ vs g2 ⟨rfl,hg,b,hv,hW⟩
  simp only at hg hv
  subst hg
  exact ok_val (v:=.int .i64 b) (g:=g2) (by rw [← hv];rfl) ⟨s1,b,rfl,hW⟩
theorem rstep_ok (W:Wi g C D K v p r h T Z)(R:Ro g x h Z)(hs:h.sm)(hq:r.gq.length≤2 ^ 29)(hbl:r.bl.length≤2 ^ 40)(hph:0≤r.ph∧r.ph≤3):Ok (A0 (.ptr (some (K 2,0))) x g) fun s=>s.1 = .bool (r.step T h).1∧∃ v',Wi s.2 C D K v' p (r.step T h).2 h T Z∧KpX Z g s.2:=by
 obtain⟨vG,vI,vS,rfl,hb,W1,R1,s1⟩:=ro_box W R
 have hz:∀ j∈Z,j∈g.next::Z:=fun j hj=>List.mem_cons_of_mem _ hj
 refine Ok.eq ?_ (by simp -implicitDefEqProofs only [A0,hb,mk_some]<;>rfl)
 generalize g.new (.cells true [vG,vI,vS])=g1 at *
 have l3:=W1.rd 3 _ (fun _ _=>rfl)
 have ex:∀ {g2:Heap} {v':Vb} {r':SC},Wi g2 C D K v' p r' h T (g.next::Z)→KpX (g.next::Z) g1 g2→∃ v',Wi g2 C D K v' p r' h T Z∧KpX Z g g2:=fun W2 k2=>⟨_,W2.subZ hz W.z0,(KpX.same s1).trans (k2.sub hz)⟩
 unfold SC.step
 by_cases h1:r.ph=1
 ·rw [if_pos h1]
  rw [h1] at l3
  refine Ok.eq ?_ (by simp -implicitDefEqProofs only [nilV_ptr,Option.bind_some,faP_ptr,Nat.zero_add,l3,eql_int,decide_true,decide_false,show((1:Int)=0)=False by simp,condE_true,condE_false,R1.la]<;>rfl)
  refine ok_cl (rwhite_ok W1 R1.ro hbl) ?_
  rintro _ g2 ⟨s2,b,rfl,hW⟩
  simp only at s2
  have W2:=W1.keep s2
  have R2:=R1.kp (KpX.same s2)
  rcases hW with⟨rfl,hw⟩ | ⟨k,id,l,rfl,hk,hw⟩
  ·have z:(-1:Int) < 0:=by omega
   obtain⟨g3,e3,W3,k3⟩:=W2.setR 3 (.int .i64 2) 2 r.dn (fun v u=>⟨u,rfl⟩) (by omega) rfl
   rw [hw]
   exact ok_val (v:=.bool true) (g:=g3) (by simp -implicitDefEqProofs only [bin_lss,z,decide_true,Option.bind_some,condE_true,nilV_ptr,faP_ptr,Nat.zero_add,e3,cl_some]) ⟨rfl,ex W3 ((KpX.same s2).trans k3)⟩
  ·have z : ¬ (k:Int) < 0:=by omega
   obtain⟨q1,hix,hld⟩:=R2.I.2 k id hk
   have ld:=hld g2 (KpX.refl _ _)
   rw [hw]
   refine Ok.eq ?_ (by simp -implicitDefEqProofs only [bin_lss,z,decide_false,Option.bind_some,condE_false,R2.la,faP_ptr,Nat.zero_add,R2.l1,hix,ld]<;>rfl)
   refine ok_cl (rscan_ok W2 R2.ro hs hq hbl id) ?_
   rintro _ g3 ⟨rfl,v',W3,k3⟩
   exact ok_val (v:=.bool true) (g:=g3) (by simp only [chk_nil]) ⟨rfl,ex W3 ((KpX.same s2).trans k3)⟩
 ·rw [if_neg h1]
  by_cases h2:r.ph=2
  ·rw [if_pos h2]
   rw [h2] at l3
   refine Ok.eq ?_ (by simp -implicitDefEqProofs only [nilV_ptr,Option.bind_some,faP_ptr,Nat.zero_add,l3,eql_int,decide_true,decide_false,show((2:Int)=0)=False by simp,show((2:Int)=1)=False by simp,condE_true,condE_false,W1.rd 2 _ (fun _ _=>rfl)]<;>rfl)
   cases hgq:r.gq with
   | cons y q=>
    have H:=W1.j.rk
    rw [hgq] at H hq
    refine ok_cl (rstepM_ok H W1.ww (by simp at hq;omega)) ?_
    rintro _ g2 ⟨rfl,bq',L',H2,k2,hw2,_⟩
    simp only at H2 k2
    obtain⟨W2,k2⟩:=W1.doc H2 k2 hw2
    exact ok_val (v:=.bool true) (g:=g2) rfl ⟨rfl,ex W2 k2⟩
   | nil=>
    have H:=W1.j.rk
    rw [hgq] at H
    refine Ok.eq ?_ (by simp -implicitDefEqProofs only [rstepM_no H,cl_some,condE_false,R1.la,Option.bind_some]<;>rfl)
    refine ok_cl (rwhite_ok W1 R1.ro hbl) ?_
    rintro _ g2 ⟨s2,b,rfl,hW⟩
    simp only at s2
    have W2:=W1.keep s2
    rcases hW with⟨rfl,hw⟩ | ⟨k,id,l,rfl,hk,hw⟩
    ·have z : ¬ (0:Int)≤-1:=by omega
     obtain⟨g3,e3,W3,k3⟩:=W2.setR 3 (.int .i64 3) 3 r.dn (fun v u=>⟨u,rfl⟩) (by omega) rfl
     refine Ok.eq ?_ (by simp -implicitDefEqProofs only [bin_geq,z,decide_false,Option.bind_some,condE_false,nilV_ptr,faP_ptr,Nat.zero_add,e3,cl_some,W3.rd 1 _ (fun _ _=>rfl)]<;>rfl)
     refine ok_cl (rstale_ok W3.j.rk) ?_
     rintro _ g4 ⟨rfl,H4,k4⟩
     simp only at H4 k4
     obtain⟨W4,k4⟩:=W3.doc H4 k4 W3.ww
     rw [hw]
     simp only [hgq] at W4
     exact ok_val (v:=.bool true) (g:=g4) rfl ⟨rfl,ex W4 (((KpX.same s2).trans k3).trans k4)⟩
    ·have z:(0:Int)≤(k:Int):=by omega
     obtain⟨g3,e3,W3,k3⟩:=W2.setR 3 (.int .i64 1) 1 r.dn (fun v u=>⟨u,rfl⟩) (by omega) rfl
     rw [hw]
     exact ok_val (v:=.bool true) (g:=g3) (by simp -implicitDefEqProofs only [bin_geq,z,decide_true,Option.bind_some,condE_true,nilV_ptr,faP_ptr,Nat.zero_add,e3,cl_some]) ⟨rfl,ex W3 ((KpX.same s2).trans k3)⟩
  ·rw [if_neg h2]
   by_cases h3:r.ph=3
   ·rw [if_pos h3]
    rw [h3] at l3
    refine Ok.eq ?_ (by simp -implicitDefEqProofs only [nilV_ptr,Option.bind_some,faP_ptr,Nat.zero_add,l3,eql_int,decide_true,decide_false,show((3:Int)=0)=False by simp,show((3:Int)=1)=False by simp,show((3:Int)=2)=False by simp,condE_false,W1.rd 1 _ (fun _ _=>rfl)]<;>rfl)
    refine ok_cl (rsweepOne_ok W1.j.rk W1.ww) ?_
    rintro _ g2 ⟨rfl,b',cls',L',H2,k2,hw2⟩
    simp only at H2 k2
    obtain⟨W2,k2⟩:=W1.doc H2 k2 hw2
    unfold SC.swept
    cases h4:r.l.sweepOne.1 with
    | true=>
     rw [h3] at W2
     exact ok_val (v:=.bool true) (g:=g2) rfl ⟨rfl,ex W2 k2⟩
    | false=>
     have hl:r.l.sweepOne.2=r.l:=by
      rcases one_cases r.l with⟨_,e,_⟩ | ⟨n,e,_⟩
      ·exact e
      ·rw [e] at h4;cases h4
     rw [hl] at W2
     obtain⟨g3,e3,W3,k3⟩:=W2.setR 3 (.int .i64 0) 0 r.dn (fun v u=>⟨u,rfl⟩) (by omega) rfl
     obtain⟨g4,e4,W4,k4⟩:=W3.setR 5 (.int .i64 (IntKind.i64.wrap (r.dn+1))) 0 (IntKind.i64.wrap (r.dn+1)) (fun v u=>⟨u,rfl⟩) (by omega) rfl
     refine Ok.eq ?_ (by simp -implicitDefEqProofs only [un_not,Bool.not_false,Option.bind_some,condE_true,nilV_ptr,faP_ptr,Nat.zero_add,e3,cl_some,W3.rd 5 _ (fun _ _=>rfl),bin_add,e4,W4.rd 1 _ (fun _ _=>rfl)]<;>rfl)
     have hsh:=W4.shortL
     refine ok_cl (rused_ok W4.j.rk (by omega)) ?_
     rintro _ _ ⟨n,he⟩
     cases he
     obtain⟨g5,e5,W5,k5⟩:=W4.setR 6 (.int .i64 n) 0 (IntKind.i64.wrap (r.dn+1)) (fun v u=>⟨n,rfl⟩) (by omega) rfl
     have l6:ldS g5 (.ptr (some (K 2,6)))=some (.int .i64 n):=by
      obtain⟨w4,u4,d4,_⟩:=W4.y.dc
      have:=stP_one (v:=.int .i64 n) (o:=6) d4 (by simp [dcC]) rfl
      rw [this] at e5
      have e5':=(Prod.mk.inj (Option.some.inj e5)).2
      rw [← e5',ldS_at get_put_eq];rfl
     have k15:=((k2.trans k3).trans k4).trans k5
     by_cases hn:n < 64
     ·obtain⟨g6,e6,W6,k6⟩:=W5.setR 6 (.int .i64 64) 0 (IntKind.i64.wrap (r.dn+1)) (fun v u=>⟨64,rfl⟩) (by omega) rfl
      exact ok_val (v:=.bool true) (g:=g6) (by simp -implicitDefEqProofs only [nilV_ptr,Option.bind_some,faP_ptr,Nat.zero_add,e5,cl_some,l6,bin_lss,hn,decide_true,condE_true,e6]) ⟨rfl,ex W6 (k15.trans k6)⟩
     ·exact ok_val (v:=.bool true) (g:=g5) (by simp -implicitDefEqProofs only [nilV_ptr,Option.bind_some,faP_ptr,Nat.zero_add,e5,cl_some,l6,bin_lss,hn,decide_false,condE_false]) ⟨rfl,ex W5 k15⟩
   ·have h0:r.ph=0:=by omega
    rw [if_neg h3]
    exact ok_val (v:=.bool false) (g:=g1) (by simp -implicitDefEqProofs only [nilV_ptr,Option.bind_some,faP_ptr,Nat.zero_add,l3,eql_int,h0,decide_true,condE_true]) ⟨rfl,ex W1 (KpX.refl _ _)⟩
end
set_option linter.all false
attribute [local congr] c_bind c_cl c_mk c_lp c_clC c_gQ c_gV c_condE c_thenK
def PhOk (p:SC):Prop:=0≤p.ph∧p.ph≤3
theorem scan_ph (p:SC)(h:SH)(id:Int):(p.scan h id).2.ph=p.ph∧(p.scan h id).2.bl.length≤p.bl.length+1:=by
 unfold SC.scan
 split
 ·exact⟨rfl,by show(p.bl ++ [id]).length≤_;simp⟩
 ·exact⟨rfl,Nat.le_succ _⟩
theorem step_ph {T:List Shp}{p:SC}{h:SH}(H:PhOk p):PhOk (p.step T h).2∧(p.step T h).2.bl.length≤p.bl.length+1:=by
 unfold SC.step
 by_cases h1:p.ph=1
 ·rw [if_pos h1]
  cases p.wh h with
  | nil=>exact⟨by unfold PhOk SC.at;simp,Nat.le_succ _⟩
  | cons id l=>
   obtain⟨e1,e2⟩:=scan_ph p h id
   exact⟨by unfold PhOk;rw [e1];exact H,e2⟩
 ·rw [if_neg h1]
  by_cases h2:p.ph=2
  ·rw [if_pos h2]
   cases p.gq with
   | cons x q=>exact⟨by unfold PhOk;exact H,Nat.le_succ _⟩
   | nil=>
    cases p.wh h with
    | nil=>exact⟨by unfold PhOk;simp,Nat.le_succ _⟩
    | cons id l=>exact⟨by unfold PhOk SC.at;simp,Nat.le_succ _⟩
  ·rw [if_neg h2]
   by_cases h3:p.ph=3
   ·rw [if_pos h3]
    unfold SC.swept
    split<;>exact⟨by unfold PhOk;simp,Nat.le_succ _⟩
   ·rw [if_neg h3];exact⟨H,Nat.le_succ _⟩
theorem step_no {T:List Shp}{p:SC}{h:SH}(hst:(p.step T h).1=false):(p.step T h).2=p:=by
 unfold SC.step at hst ⊢
 split at hst
 ·cases hst
 ·split at hst
  ·cases hst
  ·split at hst
   ·unfold SC.swept at hst;split at hst<;>cases hst
   ·rename_i a1 a2 a3;rw [if_neg a1,if_neg a2,if_neg a3]
theorem start_ph {p:SC}{h:SH}(H:PhOk p):PhOk (p.start h).2∧(p.start h).2.bl.length≤p.bl.length:=by
 unfold SC.start
 split
 ·exact⟨by unfold PhOk SC.shade;simp,by show([]:List Int).length≤_;simp⟩
 ·exact⟨H,Nat.le_refl _⟩
section
variable {g g':Heap}{C D K:Nat→Nat}{v:Vb}{p r:SC}{h:SH}{T:List Shp}{Z:List Nat}{c:Nat}{vG vI vS x:AV}
theorem rwhole_loop (W:Wi g C D K v p r h T Z)(R:Rb g c vG vI vS h Z)(hs:h.sm){B M:Nat}(I:Iq B r)(hB:B≤2 ^ 29)(hph:PhOk r)(hM:r.bl.length+r.meas h≤M)(hM2:M≤2 ^ 40)(e:Nat){b:Heap→OutV}
  (hb:∀ g,b g=(ldA 3 g (.ptr (some (c,0)))).bind fun t5=>cl (A0 (.ptr (some (K 2,0))) t5 g) fun t h1=>condE t (some (.normal,[],h1)) (some (.exit e,[],h1))) :
  Ok (loopN (fun us g=>b g) [] g) fun s=>s.1 = .exit e∧∃ v',Wi s.2.2 C D K v' p (r.fin T h) h T Z∧KpX Z g s.2.2∧Iq B (r.fin T h)∧PhOk (r.fin T h)∧(r.fin T h).bl.length≤M:=by
 refine ok_loop (fun m vs g2=>vs = []∧∃ r' v',Wi g2 C D K v' p r' h T Z∧KpX Z g g2∧r'.fin T h=r.fin T h∧r'.meas h≤m∧Iq B r'∧m≤r.meas h∧PhOk r'∧r'.bl.length+r'.meas h≤M) ?_ (n:=r.meas h) (by omega) ⟨rfl,r,v,W,KpX.refl _ _,rfl,Nat.le_refl _,I,Nat.le_refl _,hph,hM⟩
 rintro m vs g2 ⟨rfl,r',v',W',k,he,hm,I',hmm,hp',hM'⟩
 have R':=R.kp k
 refine Ok.eq ?_ (by rw [hb,R'.la,Option.bind_some])
 have hq:=I'.q
 refine ok_cl (rstep_ok W' R'.ro hs (by omega) (by omega) hp') ?_
 rintro _ g3 ⟨rfl,v2,W2,k2⟩
 simp only at W2 k2
 cases hst:(r'.step T h).1 with
 | true=>
  have hl:=step_less hst
  obtain⟨q1,q2⟩:=step_ph (T:=T) (h:=h) hp'
  exact(Ok.of (r:=((Ex.normal,([]:List AV),g3):Ex × List AV × Heap)) (.inl ⟨rfl,m - 1,by omega,rfl,_,v2,W2,k.trans k2,by rw [← he,← fin_step hst],by omega,step_q I',by omega,q1,by omega⟩)).eq (by simp only [condE_true])
 | false=>
  rw [step_no hst] at W2
  have e2:=fin_end hst
  rw [he] at e2
  exact(Ok.of (r:=((Ex.exit e,([]:List AV),g3):Ex × List AV × Heap)) (.inr ⟨by simp,rfl,v2,by rw [e2];exact W2,k.trans k2,by rw [e2];exact I',by rw [e2];exact hp',by rw [e2];show r'.bl.length≤M;omega⟩)).eq (by simp only [condE_false])
theorem rwhole_ok (W:Wi g C D K v p r h T Z)(R:Ro g x h Z)(hs:h.sm){B:Nat}(I:Iq B r)(hB:B≤2 ^ 28)(hph:PhOk r)(hbl:r.bl.length≤2 ^ 30):Ok (B9 (.ptr (some (K 2,0))) x g) fun s=>∃ v',Wi s.2 C D K v' p (r.whole T h) h T Z∧KpX Z g s.2:=by
 obtain⟨vG,vI,vS,rfl,hb,W1,R1,s1⟩:=ro_box W R
 have hz:∀ j∈Z,j∈g.next::Z:=fun j hj=>List.mem_cons_of_mem _ hj
 refine Ok.eq ?_ (by simp -implicitDefEqProofs only [B9,hb,mk_some]<;>rfl)
 generalize g.new (.cells true [vG,vI,vS])=g1 at *
 have hw:=W1.j.rk.rel.wf
 have hhi:=hw.hi
 have hm0:=meas_le hw W1.j.rk.len h
 have hq0:=I.q
 refine ok_lp (rwhole_loop W1 R1 hs I (by omega) hph (M:=r.bl.length+r.meas h) (Nat.le_refl _) (by omega) 0 (b:=DM (.ptr (some (K 2,0))) (.ptr (some (g.next,0)))) (fun g=>rfl)) ?_
 rintro _ vs g2 ⟨rfl,v2,W2,k2,I2,p2,m2⟩
 simp only at W2 k2
 have R2:=R1.kp k2
 rw [if_pos rfl,thenK_normal]
 have hq:=I2.q
 have I3:=start_q (h:=h) I2 (mu_wf ((clear_same _).wf W2.j.rk.rel.wf))
 obtain⟨p3,m3⟩:=start_ph (h:=h) p2
 refine Ok.eq ?_ (by rw [R2.la,Option.bind_some])
 refine ok_cl (rstart_ok W2 R2.ro hs (by omega)) ?_
 rintro _ g3 ⟨rfl,v3,W3,k3⟩
 simp only at W3 k3
 have hm3:=meas_le W3.j.rk.rel.wf W3.j.rk.len h
 have hh3:=W3.j.rk.rel.wf.hi
 have hq3:=I3.q
 refine ok_lp (rwhole_loop W3 (R2.kp k3) hs I3 (by omega) p3 (M:=((r.fin T h).start h).2.bl.length+((r.fin T h).start h).2.meas h) (Nat.le_refl _) (by omega) 2 (b:=DK (.ptr (some (K 2,0))) (.ptr (some (g.next,0)))) (fun g=>rfl)) ?_
 rintro _ vs4 g4 ⟨rfl,v4,W4,k4,_⟩
 simp only at W4 k4
 exact ok_val (v:=.tup []) (g:=g4) rfl ⟨v4,W4.subZ hz W.z0,(KpX.same s1).trans (((k2.trans k3).trans k4).sub hz)⟩
end
end Go.Ab.F
