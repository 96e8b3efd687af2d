import Derived.Test.YtdpdnkdafkcllaaGreatDoorZsa
namespace Go.Ab.F
open Go Go.Ab
set_option linter.all false
set_option linter.all false
attribute [local congr] c_bind c_cl c_mk c_lp c_clC c_gQ c_gV c_condE c_thenK
structure Go3 where
 fn:Int
 a:Int
 b:Int
def Go3.row (x:Go3):List AV:=[.int .i64 x.fn,.int .i64 x.a,.int .i64 x.b]
def GosRd (h:Heap)(v:AV)(xs:List Go3):Prop:=RwC h 3 v (xs.map Go3.row)
theorem rep_go {h:Heap}{x:D}{r:List AV}(H:Rep h (.st (List.replicate 3 (.int .i64))) x r):∃ i:Go3,True∧r=i.row:=by
 cases x<;>simp only [Rep] at H
 obtain⟨l,hl,rfl,hw⟩:=reps_ints 3 H
 rcases l with _ | ⟨a,_ | ⟨b,_ | ⟨c,_ | ⟨d,l⟩⟩⟩⟩<;>simp at hl
 exact⟨⟨a,b,c⟩,trivial,rfl⟩
theorem rd_gos {h:Heap}{x:D}{vs:List AV}(H:Rep h (.sl (.st (List.replicate 3 (.int .i64)))) x vs):∃ xs,GosRd h (argAV (.sl (.st (List.replicate 3 (.int .i64)))) vs) xs:=by
 obtain⟨rows,c1,c2⟩:=rd_rows H
 obtain⟨xs,_,rfl⟩:=all_rows Go3.row (fun _=>True) (fun H=>rep_go H) c2
 exact⟨xs,c1⟩
theorem GosRd.keep {h g:Heap}{v:AV}{xs:List Go3}(H:GosRd h v xs)(hn:h.next≤g.next)(hg:∀ j,j<h.next→g.get j=h.get j):GosRd g v xs:=RwC.mono H hn hg
theorem GosRd.lnL {h:Heap}{v:AV}{xs:List Go3}(H:GosRd h v xs):Go.Ab.lnL v=some (.int .i64 xs.length):=by have:=RwC.lnL H;rwa [List.length_map] at this
theorem GosRd.at_ {h:Heap}{v:AV}{xs:List Go3}(H:GosRd h v xs){i:Nat}{x:Go3}(hx:xs[i]?=some x):∃ b o,b<h.next∧(∀ k,iaS 3 v (.int k (i:Int))=some (.ptr (some (b,o))))∧ldA 3 h (.ptr (some (b,o)))=some (.agg x.row)∧∀ (f:Nat) y,x.row[f]?=some y→ldS h (.ptr (some (b,o+f)))=some y:=
 RwC.at H (by rw [List.getElem?_map,hx];rfl)
theorem and1 (n:Int):binP .and (.int .i64 n) (.int .i64 1)=some (.int .i64 (n % 2)):=and_mask n 1 (by omega)
section
variable {g0 g:Heap}{A:Nat→Nat}{ph tb mp:Nat}{sv cv fv:AV}{cs:CnL}{q:AV}{b bh:Option Nat}{gs:List Gk}{ss:List Nat}{l:PAl}
theorem pairs_L0 (hA:∀ i,i < 11→A i<g0.next)(hph:ph<g0.next)(hpA:∀ i,i < 11→A i≠ph)(hp0:ph≠0)(hz:0<g0.next)(W:Cw g0 g A ph 10 [] (.sl none 0 (.ex 0)) none none) :
  Ok (Bg (.ptr (some (A 0,0))) (.ptr (some (ph,0))) (.sl none 0 (.ex 0)) (.int .i64 0) g) fun r=>r.1 = .exit 0∧∃ cs b bh,cs.length=2∧(∀ x∈cs,x.2=newC 0)∧Cw g0 r.2.2 A ph 10 cs (r.2.1.getD 0 .bot) b bh:=by
 refine ok_loop (fun m vs g=>∃ (i:Nat) (cs:CnL) (q:AV) (b bh:Option Nat),vs = [q,.int .i64 (i:Int)]∧m+i=2∧cs.length=i∧(∀ x∈cs,x.2=newC 0)∧Cw g0 g A ph 10 cs q b bh) ?_ (n:=2) (by omega) ⟨0,[],_,_,_,rfl,rfl,rfl,by simp,W⟩
 rintro m vs g ⟨i,cs,q,b,bh,rfl,hm,hl,hnew,W⟩
 rw [gd0,gd1]
 by_cases hi:i < 2
 ·have hlt:(i:Int) < 2:=by omega
  obtain⟨l,H,hc,hu,hN⟩:=W.hp
  refine Ok.eq ?_ (by simp -implicitDefEqProofs only [Be,bin_lss,hlt,decide_true,Option.bind_some,condE_true]<;>rfl)
  refine ok_cl (cmake_ok H (sx:=0) (s:=⟨3,0,0#64⟩) rfl rfl (room:=0) (by omega) (by omega) (by omega) _) ?_
  rintro _ g1 ⟨ad,l',rest,rfl,H1,s1,C,ws,M⟩
  simp only at H1 s1
  have C':ChAt l'.ar sh16 ad (newC 0) false 0 rest:=C
  refine Ok.eq ?_ (by simp -implicitDefEqProofs only [extractV_tup,e0,e1,e2,Option.bind_some]<;>rfl)
  have off:∀ j,g0.next≤j→j∉[A 5,A 7,A 8]:=fun j hj hm=>by
   have h5:=hA 5 (by omega)
   have h7:=hA 7 (by omega)
   have h8:=hA 8 (by omega)
   simp only [List.mem_cons,List.not_mem_nil,or_false] at hm
   omega
  obtain⟨vh,hvh,sh⟩:=W.hl
  have g0g:=W.same.next
  have hvh1:g1.get ph=some (.cells true [vh]):=(s1.get _ (by omega) (fun hm=>by
   simp only [List.mem_cons,List.not_mem_nil,or_false] at hm
   rcases hm with e | e | e
   ·exact hpA 5 (by omega) e.symm
   ·exact hpA 7 (by omega) e.symm
   ·exact hpA 8 (by omega) e.symm)).trans hvh
  refine cw_push (c:=newC 0) hA hph hpA hp0 hz H1 (chl_made H.wf hc M C') (by have:=M.used;omega) (M.len.trans hN) (W.ql.same s1 fun j hj=>off j (W.n1 j hj)) ⟨vh,hvh1,sh.same s1 fun j hj=>off j (W.n2 j hj)⟩ W.n1 W.n2 W.df (W.same.trans (s1.sub (by simp))) (by omega) fun q' g' b' bh' W' s' _ _=>?_
  refine(Ok.of (r:=(Ex.normal,[q',.int .i64 ((i+1:Nat):Int)],g')) (.inl ⟨rfl,m - 1,by omega,i+1,cs ++ [(ad,newC 0)],q',b',bh',rfl,by omega,by simp [hl],fun x hx=>?_,W'⟩)).eq (by
   simp -implicitDefEqProofs only [bin_add,Option.bind_some,suc64 i (by omega)])
  rw [List.mem_append] at hx
  rcases hx with hx | hx
  ·exact hnew x hx
  ·simp at hx;subst hx;rfl
 ·have hlt : ¬ (i:Int) < 2:=by omega
  exact(Ok.of (r:=(Ex.exit 0,[q,.int .i64 (i:Int)],g)) (.inr ⟨by simp,rfl,cs,b,bh,by omega,hnew,W⟩)).eq (by
   simp -implicitDefEqProofs only [Be,bin_lss,hlt,decide_false,Option.bind_some,condE_false])
end
set_option linter.all false
attribute [local congr] c_bind c_cl c_mk c_lp c_clC c_gQ c_gV c_condE c_thenK
def gkP (cs:CnL)(x:Go3):Gk:=⟨1+x.fn % 2,((cs[(x.a % 2).toNat]?).map Prod.fst).getD 0,((cs[(x.b % 2).toNat]?).map Prod.fst).getD 0,0⟩
theorem adL_at {h:Heap}{b:Option Nat}{q:AV}{cs:CnL}(V:Vw h b 1 q (adL cs)){i:Nat}{c:Int}(hc:(cs[i]?).map Prod.fst=some c){n:Int}(hn:n=(i:Int)):∃ p,iaS 1 q (.int .i64 n)=some (.ptr (some p))∧ldS h (.ptr (some p))=some (.int .i64 c):=by
 obtain⟨x,hx,rfl⟩:=Option.map_eq_some_iff.1 hc
 obtain⟨p,o,_,_,ixp,_,lp⟩:=V.at (i:=i) (r:=[AV.int .i64 x.1]) (by simp only [adL,List.getElem?_map,hx];rfl)
 subst hn
 exact⟨(p,o),ixp .i64,lp 0 _ h rfl rfl⟩
section
variable {g:Heap}{tb mp:Nat}{sv cv fv:AV}{cs:CnL}{q:AV}{b:Option Nat}
theorem pairs_L1 {x0:AV}{xs:List Go3}(hx:∀ g',Same [tb,mp] g g'→GosRd g' x0 xs)(hxl:xs.length≤8)(T:TbB g tb mp sv cv fv [] [])(V:Vw g b 1 q (adL cs))(hb:∀ j,b=some j→j≠tb∧j≠mp)(h2:cs.length=2){vs0:List AV}(hv:vs0.getD 0 .bot=q) :
  Ok (Bo x0 vs0 (.ptr (some (tb,0))) (.int .i64 0) g) fun r=>r.1 = .exit 2∧∃ ss,TbB r.2.2 tb mp sv cv fv (xs.map (gkP cs)) ss∧Same [tb,mp] g r.2.2:=by
 refine ok_loop (fun m vs g2=>∃ (i:Nat) (ss:List Nat),vs = [.int .i64 (i:Int)]∧m+i=xs.length∧TbB g2 tb mp sv cv fv ((xs.take i).map (gkP cs)) ss∧Same [tb,mp] g g2) ?_ (n:=xs.length) (by omega) ⟨0,[],rfl,by omega,T,Same.refl _ _⟩
 rintro m vs g2 ⟨i,ss,rfl,hm,T2,s2⟩
 rw [gd0]
 have hx2:=hx g2 s2
 by_cases hi:i<xs.length
 ·have hlt:(i:Int)<xs.length:=by omega
  obtain⟨x,hxi⟩:∃ x,xs[i]?=some x:=⟨_,List.getElem?_eq_getElem hi⟩
  have et:xs.take (i+1)=xs.take i ++ [x]:=by rw [List.take_succ,hxi];rfl
  have s3:=hpNs g2 1
  have hx3:=hx (hpN g2 1) (s2.trans (s3.sub (by simp)))
  obtain⟨bb,oo,_,ix,_,lx⟩:=hx3.at_ hxi
  have f0:=lx 0 _ rfl
  have f1:=lx 1 _ rfl
  have f2:=lx 2 _ rfl
  have V3:Vw (hpN g2 1) b 1 q (adL cs):=(V.same s2 (fun j hj hm=>by
   have:=hb j hj
   simp only [List.mem_cons,List.not_mem_nil,or_false] at hm
   omega)).keep s3
  obtain⟨y,hy⟩:∃ y,y=gkP cs x:=⟨_,rfl⟩
  have len2:∀ n:Int,∃ c,cs[(n % 2).toNat]?=some c:=fun n=>⟨_,List.getElem?_eq_getElem (by omega)⟩
  obtain⟨ca,hca⟩:=len2 x.a
  obtain⟨cb,hcb⟩:=len2 x.b
  have ya:y.a=ca.1:=by rw [hy,gkP,hca];rfl
  have yb:y.b=cb.1:=by rw [hy,gkP,hcb];rfl
  have yc:y.c=0:=by rw [hy];rfl
  have y0:y.fn=1+x.fn % 2:=by rw [hy];rfl
  obtain⟨p1,ia1,ld1⟩:=adL_at V3 (i:=(x.a % 2).toNat) (c:=y.a) (by rw [hca,ya];rfl) (n:=x.a % 2) (by omega)
  obtain⟨p2,ia2,ld2⟩:=adL_at V3 (i:=(x.b % 2).toNat) (c:=y.b) (by rw [hcb,yb];rfl) (n:=x.b % 2) (by omega)
  have wf:IntKind.i64.wrap y.fn=y.fn:=wrap_i64 (by omega) (by omega)
  have eB:bsP 1 [(AV.int .i64 0)] 3 [(0,.int .i64 y.a),(1,.int .i64 y.b),(2,(AV.int .i64 0))]=some (.cells true [.int .i64 y.a,.int .i64 y.b,.int .i64 y.c],fun i=>.sl (some (i,0)) 3 (.ex 3)):=by rw [yc];rfl
  obtain⟨g4,hg4⟩:∃ g4,g4=(hpN g2 1).put (g2.next+0) (some (.cells true [.int .i64 y.a,.int .i64 y.b,.int .i64 y.c])):=⟨_,rfl⟩
  have s4:Same [] g2 g4:=by
   rw [hg4]
   exact s3.old (Same.put _ _ _) fun j hj=>by simp at hj;right;omega
  have n4:g4.next=g2.next+1:=by rw [hg4];rfl
  have b4:g4.get (g2.next+0)=some (.cells true [.int .i64 y.a,.int .i64 y.b,.int .i64 y.c]):=by rw [hg4];exact get_put_eq
  refine Ok.eq ?_ (by simp -implicitDefEqProofs only [Bk,hx2.lnL,Option.bind_some,bin_lss,hlt,decide_true,condE_true,ix,faP_ptr,f0,f1,f2,and1,bin_add,wf,hv,ia1,ld1,ia2,ld2,eB,mkAt_some,cl_some,← hg4,← y0]<;>rfl)
  have tl:((xs.take i).map (gkP cs)).length=i:=by rw [List.length_map,List.length_take];omega
  refine ok_cl (add_ok (T2.keep s4) (x:=y) (by omega) (by omega) (c:=.ex 3) b4 (by omega) (by omega)) ?_
  rintro _ g5 ⟨s,rfl,T5,s5⟩
  simp only at T5 s5
  refine(Ok.of (r:=(Ex.normal,[.int .i64 ((i+1:Nat):Int)],g5)) (.inl ⟨rfl,m - 1,by omega,i+1,ss ++ [s],rfl,by omega,?_,(s2.trans (s4.sub (by simp))).trans s5⟩)).eq (by
   simp -implicitDefEqProofs only [chk_nil,bin_add,Option.bind_some,suc64 i (by omega)])
  rw [et,List.map_append]
  rw [hy] at T5
  exact T5
 ·have hlt : ¬ (i:Int)<xs.length:=by omega
  have e:xs.take i=xs:=List.take_of_length_le (by omega)
  rw [e] at T2
  exact(Ok.of (r:=(Ex.exit 2,[.int .i64 (i:Int)],g2)) (.inr ⟨by simp,rfl,ss,T2,s2⟩)).eq (by
   simp -implicitDefEqProofs only [Bk,hx2.lnL,Option.bind_some,bin_lss,hlt,decide_false,condE_false])
end
set_option linter.all false
attribute [local congr] c_bind c_cl c_mk c_lp c_clC c_gQ c_gV c_condE c_thenK
def pR (p:Int):List AV:=wyC (-1) p (-1)
structure Sgl (l:PAl)(st:Int→Option Chan)(x:Gk):Prop where
 off:offL l x = [⟨-1,decide (x.fn=1),x.a,true⟩]
 fn:x.fn≠0
 std:stdK x = -1
 st:st x.a=some (newC 0)
theorem prtI_sgl {l:PAl}{st:Int→Option Chan}{x:Gk}{id:Int}:∀ {gs:List Gk} (k:Nat),(∀ y∈gs,Sgl l st y)→
  ∃ ps:List Int,prtI l id ⟨-1,decide (x.fn=1),x.a,true⟩ k gs=ps.map pR∧∀ p:Int,p∈ps↔∃ (j:Nat) (y:Gk),gs[j]?=some y∧p=((k+j+1:Nat):Int)∧p≠id∧y.a=x.a∧decide (y.fn=1)≠decide (x.fn=1)
 | [],k,_=>⟨[],rfl,fun p=>⟨fun h=>(by cases h),fun⟨j,y,h,_⟩=>(by simp at h)⟩⟩
 | z::gs,k,H=>by
  obtain⟨ps,e,hp⟩:=prtI_sgl (x:=x) (id:=id) (gs:=gs) (k+1) fun y hy=>H y (List.mem_cons_of_mem _ hy)
  have hz:=H z (List.mem_cons_self ..)
  obtain⟨qs,eq,hq⟩:∃ qs:List Int,(if ((k+1:Nat):Int)=id then [] else prt1 ⟨-1,decide (x.fn=1),x.a,true⟩ ((k+1:Nat):Int) (offL l z))=qs.map pR∧∀ p:Int,p∈qs↔p=((k+1:Nat):Int)∧p≠id∧z.a=x.a∧decide (z.fn=1)≠decide (x.fn=1):=by
   by_cases h1:((k+1:Nat):Int)=id
   ·rw [if_pos h1]
    exact⟨[],rfl,fun p=>⟨fun h=>(by cases h),fun⟨h,g,_⟩=>absurd (h.trans h1) g⟩⟩
   ·rw [if_neg h1,hz.off]
    by_cases h2:z.a=x.a∧decide (z.fn=1)≠decide (x.fn=1)
    ·refine⟨[((k+1:Nat):Int)],?_,fun p=>?_⟩
     ·have:fitsO ⟨-1,decide (x.fn=1),x.a,true⟩ ⟨-1,decide (z.fn=1),z.a,true⟩=true:=by
       simp only [fitsO,Bool.true_and,Bool.and_eq_true,decide_eq_true_eq,bne_iff_ne]
       exact h2
      unfold prt1
      rw [List.filter_cons_of_pos this];rfl
     ·rw [List.mem_singleton]
      exact⟨fun h=>⟨h,fun g=>h1 (h.symm.trans g),h2⟩,fun h=>h.1⟩
    ·refine⟨[],?_,fun p=>⟨fun h=>(by cases h),fun h=>absurd h.2.2 h2⟩⟩
     have : ¬ fitsO ⟨-1,decide (x.fn=1),x.a,true⟩ ⟨-1,decide (z.fn=1),z.a,true⟩=true:=by
      simp only [fitsO,Bool.true_and,Bool.and_eq_true,decide_eq_true_eq,bne_iff_ne]
      exact h2
     unfold prt1
     rw [List.filter_cons_of_neg this];rfl
  refine⟨qs++ps,by rw [prtI,eq,e,List.map_append],fun p=>?_⟩
  rw [List.mem_append,hq,hp]
  constructor
  ·rintro(h | ⟨j,y,h,hk,g⟩)
   ·exact⟨0,z,rfl,h⟩
   ·exact⟨j+1,y,h,by rw [hk];omega,g⟩
  ·rintro⟨j,y,h,hk,g⟩
   cases j with
   | zero=>simp at h;subst h;exact .inl ⟨hk,g⟩
   | succ j=>exact .inr ⟨j,y,h,by rw [hk];omega,g⟩
theorem waysG_sgl {l:PAl}{st:Int→Option Chan}{gs:List Gk}{id:Int}{x:Gk}(hx:Sgl l st x)(H:∀ y∈gs,Sgl l st y) :
  ∃ ps:List Int,waysG l gs st id x=ps.map pR∧∀ p:Int,p∈ps↔∃ (j:Nat) (y:Gk),gs[j]?=some y∧p=((j+1:Nat):Int)∧p≠id∧y.a=x.a∧decide (y.fn=1)≠decide (x.fn=1):=by
 obtain⟨ps,e,hp⟩:=prtI_sgl (x:=x) (id:=id) 0 H
 refine⟨ps,?_,fun p=>(hp p).trans ?_⟩
 ·have:waysL l gs st id (offL l x)=ps.map pR:=by
   rw [hx.off,waysL,waysL,List.append_nil,← e]
   unfold wayO
   rw [if_neg (by simp)]
   simp only [hx.st]
   rw [if_neg (by
    rintro(h | ⟨_,h⟩ | ⟨_,h⟩)
    ·exact h rfl
    ·exact absurd h (by show ¬ (0:Int) < 0;omega)
    ·exact absurd h (by show ¬ (0:Int) < 0;omega)),if_pos (show(newC 0).room=0 from rfl)]
  unfold waysG
  rw [if_neg hx.fn,this,if_neg fun h=>h.2 hx.std]
 ·constructor
  ·rintro⟨j,y,h,hk,g⟩;exact⟨j,y,h,by rw [hk];omega,g⟩
  ·rintro⟨j,y,h,hk,g⟩;exact⟨j,y,h,by rw [hk];omega,g⟩
theorem meet_symm {gs:List Gk}{i:Nat}{x:Gk}(hi:gs[i]?=some x){p:Int}(h:∃ (j:Nat) (y:Gk),gs[j]?=some y∧p=((j+1:Nat):Int)∧p≠((i+1:Nat):Int)∧y.a=x.a∧decide (y.fn=1)≠decide (x.fn=1)) :
  ∃ (j:Nat) (y:Gk),gs[j]?=some y∧p=((j+1:Nat):Int)∧∃ (k:Nat) (z:Gk),gs[k]?=some z∧((i+1:Nat):Int)=((k+1:Nat):Int)∧((i+1:Nat):Int)≠p∧z.a=y.a∧decide (z.fn=1)≠decide (y.fn=1):=by
 obtain⟨j,y,h1,h2,h3,h4,h5⟩:=h
 exact⟨j,y,h1,h2,i,x,hi,rfl,fun e=>h3 e.symm,h4.symm,fun e=>h5 e.symm⟩
theorem gkP_sgl {l:PAl}{cs:CnL}(W:Wf l.ar)(H:ChL l cs)(h2:cs.length=2)(hn:∀ x∈cs,x.2=newC 0)(x:Go3):Sgl l (stC cs) (gkP cs x):=by
 obtain⟨c,hc⟩:∃ c,cs[(x.a % 2).toNat]?=some c:=⟨_,List.getElem?_eq_getElem (by omega)⟩
 have hm:=List.mem_of_getElem? hc
 have ea:(gkP cs x).a=c.1:=by rw [gkP,hc];rfl
 have ic:=isC_mem W H hm false
 rcases (by omega:x.fn % 2=0∨x.fn % 2=1) with e | e
 ·have ef:(gkP cs x).fn=1:=by show 1+x.fn % 2=1;omega
  refine⟨?_,by omega,?_,?_⟩
  ·unfold offL
   rw [if_pos ef,ea,ic,ef];rfl
  ·unfold stdK;rw [ef];rfl
  ·rw [ea,stC_mem H hm,hn c hm]
 ·have ef:(gkP cs x).fn=2:=by show 1+x.fn % 2=2;omega
  refine⟨?_,by omega,?_,?_⟩
  ·unfold offL
   rw [if_neg (by omega),if_pos ef,ea,ic,ef];rfl
  ·unfold stdK;rw [ef];rfl
  ·rw [ea,stC_mem H hm,hn c hm]
theorem sgl_st {l:PAl}{cs:CnL}(H:ChL l cs){gs:List Gk}(hs:∀ x∈gs,Sgl l (stC cs) x)(hc:∀ x∈gs,∃ c,c∈cs∧x.a=c.1):∀ x∈gs,∀ o∈offL l x,o.ok=true→∃ c,stC cs o.ad=some c∧Chn l o.ad c:=by
 intro x hx o ho _
 rw [(hs x hx).off,List.mem_singleton] at ho
 subst ho
 obtain⟨c,hc,e⟩:=hc x hx
 refine⟨c.2,by rw [show(⟨-1,decide (x.fn=1),x.a,true⟩:Of).ad=x.a from rfl,e];exact stC_mem H hc,?_⟩
 rw [show(⟨-1,decide (x.fn=1),x.a,true⟩:Of).ad=x.a from rfl,e]
 exact⟨H.at_ c hc⟩
set_option linter.all false
attribute [local congr] c_bind c_cl c_mk c_lp c_clC c_gQ c_gV c_condE c_thenK
section
variable {g:Heap}{tb mp:Nat}{sv cv fv:AV}{gs:List Gk}{ss:List Nat}{A:Nat→Nat}{l:PAl}{F:Int}{st:Int→Option Chan}
theorem pairs_L2 {b1 b2:Option Nat}{v w:AV}{ps qs:List Int}(V1:Vw g b1 3 v (ps.map pR))(V2:Vw g b2 3 w (qs.map pR)){i j:Nat}(hi:i≤8)(hj:j<ps.length)(hq:qs.length≤1000000) :
  Ok (CY (.int .i64 (i:Int)) v (.int .i64 (j:Int)) w (.bool false) (.int .i64 0) g) fun r=>r.1 = .exit 8∧r.2.1.getD 0 .bot = .bool (decide (((i+1:Nat):Int)∈qs))∧r.2.2=g:=by
 refine ok_loop (fun m vs g'=>∃ k:Nat,vs = [.bool (decide (((i+1:Nat):Int)∈qs.take k)),.int .i64 (k:Int)]∧m+k=qs.length∧g'=g) ?_ (n:=qs.length) (by omega) ⟨0,by simp,by omega,rfl⟩
 rintro m vs g' ⟨k,rfl,hm,hg⟩
 subst hg
 rw [gd0,gd1]
 have lnw:lnL w=some (.int .i64 qs.length):=by have:=V2.lnL;rwa [List.length_map] at this
 by_cases hk:k<qs.length
 ·have hlt:(k:Int)<qs.length:=by omega
  obtain⟨q,hqk⟩:∃ q,qs[k]?=some q:=⟨_,List.getElem?_eq_getElem hk⟩
  obtain⟨p,hpj⟩:∃ p,ps[j]?=some p:=⟨_,List.getElem?_eq_getElem hj⟩
  obtain⟨b,o,_,_,ix,_,ld⟩:=V2.at (i:=k) (r:=pR q) (by rw [List.getElem?_map,hqk];rfl)
  obtain⟨b',o',_,_,ix',_,ld'⟩:=V1.at (i:=j) (r:=pR p) (by rw [List.getElem?_map,hpj];rfl)
  have x0:=ld 0 (.int .i64 (-1)) g' rfl rfl
  have x1:=ld 1 (.int .i64 q) g' rfl rfl
  have x2:=ld 2 (.int .i64 (-1)) g' rfl rfl
  have y0:=ld' 0 (.int .i64 (-1)) g' rfl rfl
  have y2:=ld' 2 (.int .i64 (-1)) g' rfl rfl
  have et:qs.take (k+1)=qs.take k ++ [q]:=by rw [List.take_succ,hqk];rfl
  have done:∀ f:Bool,f=decide (((i+1:Nat):Int)∈qs.take (k+1))→AR (.int .i64 (i:Int)) v (.int .i64 (j:Int)) w (.bool (decide (((i+1:Nat):Int)∈qs.take k))) (.int .i64 (k:Int)) g'=some (.normal,[.bool f,.int .i64 ((k+1:Nat):Int)],g')→
    Ok (AR (.int .i64 (i:Int)) v (.int .i64 (j:Int)) w (.bool (decide (((i+1:Nat):Int)∈qs.take k))) (.int .i64 (k:Int)) g') fun r=>(r.1 = .normal∧∃ m',m'<m∧∃ k:Nat,r.2.1 = [.bool (decide (((i+1:Nat):Int)∈qs.take k)),.int .i64 (k:Int)]∧m'+k=qs.length∧r.2.2=g')∨(r.1≠.normal∧r.1 = .exit 8∧r.2.1.getD 0 .bot = .bool (decide (((i+1:Nat):Int)∈qs))∧r.2.2=g'):=fun f hf e=>
   (Ok.of (r:=(Ex.normal,[.bool f,.int .i64 ((k+1:Nat):Int)],g')) (.inl ⟨rfl,m - 1,by omega,k+1,by rw [hf],by omega,rfl⟩)).eq e
  by_cases hf:((i+1:Nat):Int)∈qs.take k
  ·refine done true (by rw [et,decide_eq_true (List.mem_append.2 (.inl hf))]) ?_
   rw [decide_eq_true hf]
   simp -implicitDefEqProofs only [AR,lnw,bin_lss,hlt,decide_true,Option.bind_some,condE_true,gdW_tf,gdW_tup,gV_false,pickP_bool,if_true,chk_nil,bin_add,suc64 k (by omega)]
  ·rw [show decide (((i+1:Nat):Int)∈qs.take k)=false from decide_eq_false hf] at done ⊢
   by_cases e:q=((i+1:Nat):Int)
   ·refine done true (by rw [et,decide_eq_true (List.mem_append.2 (.inr (by rw [e];exact List.mem_singleton.2 rfl)))]) ?_
    simp -implicitDefEqProofs only [AR,lnw,bin_lss,hlt,decide_true,Option.bind_some,condE_true,gdW_ff,gdW_tt,gV_true,pickP_bool,if_true,if_false,chk_nil,bin_add,suc64 k (by omega),suc64 i (by omega),ix,ix',faP_ptr,x0,x1,x2,y0,y2,eql_int,e,Bool.false_eq_true]
   ·refine done false (by rw [et,decide_eq_false];simp only [List.mem_append,List.mem_singleton,not_or];exact⟨hf,fun h=>e h.symm⟩) ?_
    simp -implicitDefEqProofs only [AR,lnw,bin_lss,hlt,decide_true,Option.bind_some,condE_true,gdW_ff,gdW_ft,gV_true,gV_false,pickP_bool,if_true,if_false,chk_nil,bin_add,suc64 k (by omega),suc64 i (by omega),ix,ix',faP_ptr,x0,x1,x2,y0,y2,eql_int,decide_eq_false e,Bool.false_eq_true]
 ·have hlt : ¬ (k:Int)<qs.length:=by omega
  refine(Ok.of (r:=(Ex.exit 8,[.bool (decide (((i+1:Nat):Int)∈qs.take k)),.int .i64 (k:Int)],g')) (.inr ⟨by simp,rfl,?_,rfl⟩)).eq (by
   simp -implicitDefEqProofs only [AR,lnw,bin_lss,hlt,decide_false,Option.bind_some,condE_false])
  rw [gd0,List.take_of_length_le (by omega)]
theorem pairs_L3 (H:TbG g A l F tb mp sv cv fv gs ss)(hs:∀ y∈gs,Sgl l st y)(hst:∀ x∈gs,∀ o∈offL l x,o.ok=true→∃ c,st o.ad=some c∧Chn l o.ad c)(h8:gs.length≤8){x0:AV}(hx:lnL x0=some (.int .i64 gs.length)){i:Nat}{x:Gk}(hi:gs[i]?=some x){b1:Option Nat}{v:AV}{ps:List Int}(V1:Vw g b1 3 v (ps.map pR))
  (hb1:ps.length≤1000000) (hps:∀ p∈ps,∃ (j:Nat) (y:Gk),gs[j]?=some y∧p=((j+1:Nat):Int)∧p≠((i+1:Nat):Int)∧y.a=x.a∧decide (y.fn=1)≠decide (x.fn=1)) (q2:AV) :
  Ok (CU x0 (.ptr (some (A 0,0))) (.ptr (some (tb,0))) (.int .i64 (i:Int)) v q2 (.int .i64 0) g) fun r=>r.1 = .exit 6∧r.2.1.getD 0 .bot=q2∧Same [] g r.2.2:=by
 have il:=(List.getElem?_eq_some_iff.1 hi).1
 refine ok_loop (fun m vs g'=>∃ k:Nat,vs = [q2,.int .i64 (k:Int)]∧m+k=ps.length∧Same [] g g') ?_ (n:=ps.length) (by omega) ⟨0,rfl,by omega,Same.refl _ _⟩
 rintro m vs g1 ⟨k,rfl,hm,s1⟩
 rw [gd0,gd1]
 have lnv:lnL v=some (.int .i64 ps.length):=by have:=V1.lnL;rwa [List.length_map] at this
 have V1':=V1.keep s1
 by_cases hk:k<ps.length
 ·have hlt:(k:Int)<ps.length:=by omega
  obtain⟨p,hpk⟩:∃ p,ps[k]?=some p:=⟨_,List.getElem?_eq_getElem hk⟩
  obtain⟨b,o,_,_,ix,_,ld⟩:=V1'.at (i:=k) (r:=pR p) (by rw [List.getElem?_map,hpk];rfl)
  have x1:=ld 1 (.int .i64 p) g1 rfl rfl
  obtain⟨j,y,hj,hpj,k',z,hz,hik,hne,hza,hzf⟩:=meet_symm hi (hps p (List.mem_of_getElem? hpk))
  have jl:=(List.getElem?_eq_some_iff.1 hj).1
  subst hpj
  have n1:decide (((j+1:Nat):Int)=((i+1:Nat):Int))=false:=decide_eq_false fun e=>hne e.symm
  have n2:decide (((j+1:Nat):Int) < 1)=false:=decide_eq_false (by omega)
  have n3:decide ((gs.length:Int)<((j+1:Nat):Int))=false:=decide_eq_false (by omega)
  refine Ok.eq ?_ (by simp -implicitDefEqProofs only [Bf,lnv,bin_lss,hlt,decide_true,Option.bind_some,condE_true,ix,faP_ptr,x1,bin_add,suc64 i (by omega),eql_int,n1,n2,n3,gdW_ff,gQ_true,cl_some,hx,bin_gtr,pickP_bool,Bool.false_eq_true,if_false,condE_false]<;>rfl)
  refine ok_cl (waysT_ok (H.keep s1) (by omega) hst hj) ?_
  rintro w g2 ⟨b2,V2,s2,_⟩
  simp only at V2 s2
  obtain⟨qs,eq,hq⟩:=waysG_sgl (id:=((j+1:Nat):Int)) (hs y (List.mem_of_getElem? hj)) hs
  rw [eq] at V2
  have hqm:((i+1:Nat):Int)∈qs:=(hq _).2 ⟨k',z,hz,hik,hne,hza,hzf⟩
  have hql:qs.length≤1000000:=by
   have h1:(waysG l gs st ((j+1:Nat):Int) y).length=qs.length:=by rw [eq,List.length_map]
   have hy:=hs y (List.mem_of_getElem? hj)
   have hw:=wayO_len l gs st ((j+1:Nat):Int) ⟨-1,decide (y.fn=1),y.a,true⟩
   have h2:(waysG l gs st ((j+1:Nat):Int) y).length=(wayO l gs st ((j+1:Nat):Int) ⟨-1,decide (y.fn=1),y.a,true⟩).length:=by
    unfold waysG
    rw [if_neg hy.fn,if_neg fun h=>h.2 hy.std,hy.off,waysL,waysL,List.append_nil]
   omega
  refine ok_lp (pairs_L2 (V1'.keep s2) V2 (by omega) hk hql) ?_
  rintro _ vs' _ ⟨rfl,hv,rfl⟩
  simp only at hv
  rw [decide_eq_true hqm] at hv
  refine(Ok.of (r:=(Ex.normal,[q2,.int .i64 ((k+1:Nat):Int)],_)) (.inl ⟨rfl,m - 1,by omega,k+1,rfl,by omega,s1.trans s2⟩)).eq (by
   simp -implicitDefEqProofs only [if_true,thenK_normal,hv,un_not,Bool.not_true,Option.bind_some,condE_false,bin_add,suc64 k (by omega)])
 ·have hlt : ¬ (k:Int)<ps.length:=by omega
  exact(Ok.of (r:=(Ex.exit 6,[q2,.int .i64 (k:Int)],g1)) (.inr ⟨by simp,rfl,rfl,s1⟩)).eq (by
   simp -implicitDefEqProofs only [Bf,lnv,bin_lss,hlt,decide_false,Option.bind_some,condE_false])
theorem pairs_L4 (H:TbG g A l F tb mp sv cv fv gs ss)(hs:∀ y∈gs,Sgl l st y)(hst:∀ x∈gs,∀ o∈offL l x,o.ok=true→∃ c,st o.ad=some c∧Chn l o.ad c)(h8:gs.length≤8){x0:AV}(hx:lnL x0=some (.int .i64 gs.length))(q2:AV) :
  Ok (Bn x0 (.ptr (some (A 0,0))) (.ptr (some (tb,0))) q2 (.int .i64 0) g) fun r=>r.1 = .exit 4:=by
 refine ok_loop (fun m vs g'=>∃ k:Nat,vs = [q2,.int .i64 (k:Int)]∧m+k=gs.length∧Same [] g g') ?_ (n:=gs.length) (by omega) ⟨0,rfl,by omega,Same.refl _ _⟩
 rintro m vs g1 ⟨k,rfl,hm,s1⟩
 rw [gd0,gd1]
 by_cases hk:k<gs.length
 ·have hlt:(k:Int)<gs.length:=by omega
  obtain⟨x,hxk⟩:∃ x,gs[k]?=some x:=⟨_,List.getElem?_eq_getElem hk⟩
  have hy:=hs x (List.mem_of_getElem? hxk)
  refine Ok.eq ?_ (by simp -implicitDefEqProofs only [Bp,hx,bin_lss,hlt,decide_true,Option.bind_some,condE_true,bin_add,suc64 k (by omega)]<;>rfl)
  refine ok_cl (waysT_ok (H.keep s1) (by omega) hst hxk) ?_
  rintro w g2 ⟨b2,V2,s2,_⟩
  simp only at V2 s2
  obtain⟨ps,eq,hq⟩:=waysG_sgl (id:=((k+1:Nat):Int)) hy hs
  have hql:ps.length≤1000000:=by
   have h1:(waysG l gs st ((k+1:Nat):Int) x).length=ps.length:=by rw [eq,List.length_map]
   have hw:=wayO_len l gs st ((k+1:Nat):Int) ⟨-1,decide (x.fn=1),x.a,true⟩
   have h2:(waysG l gs st ((k+1:Nat):Int) x).length=(wayO l gs st ((k+1:Nat):Int) ⟨-1,decide (x.fn=1),x.a,true⟩).length:=by
    unfold waysG
    rw [if_neg hy.fn,if_neg fun h=>h.2 hy.std,hy.off,waysL,waysL,List.append_nil]
   omega
  rw [eq] at V2
  refine ok_lp (pairs_L3 (H.keep (s1.trans s2)) hs hst h8 hx hxk V2 hql (fun p hp=>(hq p).1 hp) q2) ?_
  rintro _ vs' g3 ⟨rfl,hv,s3⟩
  simp only at hv s3
  refine(Ok.of (r:=(Ex.normal,[q2,.int .i64 ((k+1:Nat):Int)],g3)) (.inl ⟨rfl,m - 1,by omega,k+1,rfl,by omega,(s1.trans s2).trans s3⟩)).eq (by
   simp -implicitDefEqProofs only [if_true,show(if Ex.normal=Ex.exit 5 then Ex.normal else Ex.normal)=Ex.normal from rfl,thenK_normal,hv,Option.bind_some,bin_add,suc64 k (by omega)])
 ·have hlt : ¬ (k:Int)<gs.length:=by omega
  exact(Ok.of (r:=(Ex.exit 4,[q2,.int .i64 (k:Int)],g1)) (.inr ⟨by simp,rfl⟩)).eq (by
   simp -implicitDefEqProofs only [Bp,hx,bin_lss,hlt,decide_false,Option.bind_some,condE_false])
end
set_option linter.all false
attribute [local congr] c_bind c_cl c_mk c_lp c_clC c_gQ c_gV c_condE c_thenK
theorem sh16_nd:sh16.Nodup:=by decide
theorem sh16_good:∀ s∈sh16,goodB s=true:=by decide
theorem start16 {R:Type}{h:Heap}(ht:Tab0 h){N:Nat}(h1:8≤N)(h2:N≤512){D:Heap→Option R}{K:AV→AV→Heap→Option R}{Q:R→Prop}
  (hk:∀ (A:Nat→Nat) ph g,Cw g g A ph N [] (.sl none 0 (.ex 0)) none none→Same [] h g→(∀ i,i < 11→h.next≤A i∧A i<g.next∧A i≠ph)→h.next≤ph→ph<g.next→Ok (K (.ptr (some (A 0,0))) (.ptr (some (ph,0))) g) Q) :
  Ok (cl (Ai h) fun t26 h1=>(fvS 0 t26).bind fun t27=>cl (CM (AV.int .i64 (N:Int)) t27 h1) fun t28 h2=>(extractV 0 t28).bind fun t29=>(extractV 1 t28).bind fun t30=>(eqP (some (.int .i64)) none false .neq t30 (AV.int .i64 0)).bind fun t32=>condE t32 (D h2) ((bldS [(0,1)] [(AV.sl none 0 (.ex 0))] []).bind fun t33=>mk Heap.new (bxP t33) h2 fun t34 h3=>K t29 t34 h3)) Q:=by
 refine ok_cl (module_ok h) ?_
 rintro _ g1 ⟨sv,cv,fv,rfl,M,s1⟩
 simp only at M s1
 obtain⟨b,rfl,hb,hbl⟩:=M.sh
 refine Ok.eq ?_ (by rw [show fvS 0 (.agg (mdC (.sl (some (b,0)) 1 (.ex 1)) cv fv))=some (.sl (some (b,0)) 1 (.ex 1)) from rfl,Option.bind_some])
 refine ok_cl (hnew_ok (h:=g1) (N:=N) (T:=sh16) h1 h2 (ht.same s1 (by simp)) hb hbl (by decide) (by decide) sh16_nd sh16_good) ?_
 rintro _ g2 ⟨A,rfl,H2,s2,hA⟩
 simp only at H2 s2
 have bn:bldS [(0,1)] [(AV.sl none 0 (.ex 0))] []=some (.agg [.sl none 0 (.ex 0)]):=rfl
 have xn:bxP (.agg [.sl none 0 (.ex 0)])=some (.cells true [.sl none 0 (.ex 0)],fun i=>.ptr (some (i,0))):=rfl
 obtain⟨g3,e3⟩:∃ g3,g3=g2.new (.cells true [.sl none 0 (.ex 0)]):=⟨_,rfl⟩
 have s3:Same [] g2 g3:=by rw [e3];exact Same.new _ _
 have b3:g3.get g2.next=some (.cells true [.sl none 0 (.ex 0)]):=by rw [e3];exact get_new_eq
 have n3:g3.next=g2.next+1:=by rw [e3];rfl
 have H3:=H2.keep s3
 refine Ok.eq ?_ (by simp -implicitDefEqProofs only [extractV_tup,e0,e1,Option.bind_some,neq_int,decide_true,Bool.not_true,condE_false,bn,xn,mk_some,← e3]<;>rfl)
 have hlen:(newA N).sp.length=N:=by show(List.replicate N _).length=N;rw [List.length_replicate]
 have n1:=s1.next
 have n2:=s2.next
 refine hk A g2.next g3 ⟨⟨_,H3,chl_mt _,by show(newA N).used≤0;rw [used_new];exact Nat.le_refl _,hlen⟩,SlB.mt,⟨_,b3,SlB.mt⟩,by simp,by simp,by simp,Same.refl _ _⟩ ((s1.trans s2).trans s3) (fun i hi=>?_) (by omega) (by omega)
 have:=hA i hi
 have:=H2.lt i hi
 omega
section
theorem pairs_true {h:Heap}(hsub:Sub hQ1 h)(hn1:1≤h.next){x0:AV}{xs:List Go3}(hx:GosRd h x0 xs):Ok (Am x0 h) fun r=>r.1 = .bool true:=by
 have ht:=tab0_sub hsub hn1
 have haw:DE h=some (.bool true,h):=quiet_pos hsub
 have hl:=hx.lnL
 by_cases h1:8<xs.length
 ·have h1':(8:Int)<xs.length:=by omega
  exact ok_val (v:=.bool true) (g:=h) (by simp -implicitDefEqProofs only [Am,haw,cl_some,un_not,Bool.not_true,Option.bind_some,condE_false,hl,bin_gtr,h1',decide_true,condE_true]) rfl
 have h1' : ¬ (8:Int)<xs.length:=by omega
 have st:=start16 (R:=AV × Heap) (Q:=fun r=>r.1 = .bool true) ht (N:=10) (by decide) (by decide) (D:=fun h2=>some ((AV.bool false),h2)) (K:=fun t29 t34 h3=>
  lp (Bg t29 t34 (AV.sl none 0 (.ex 0)) (AV.int .i64 0) h3) fun e vs h11=>
  thenK (if e = .exit 0 then .normal else e) (
  cl (Ai h11) fun t61 h12=>
  cl (B3 t61 h12) fun t62 h13=>
  lp (Bo x0 vs t62 (AV.int .i64 0) h13) fun e_17 vs_18 h19=>
  thenK (if e_17 = .exit 2 then .normal else e_17) (
  lp (Bn x0 t29 t62 (AV.bool false) (AV.int .i64 0) h19) fun e_45 vs_46 h47=>
  thenK (if e_45 = .exit 4 then .normal else e_45) (
  some ((AV.bool true),h47)) (fun e_48=>endE e_48 (some ((vs_46.getD 0 .bot),h47)))) (fun e_49=>endE e_49 (some ((AV.bool false),h19)))) (fun e_50=>endE e_50 (some ((AV.bool false),h11)))) ?_
 ·refine st.eq ?_
  simp -implicitDefEqProofs only [Am,haw,cl_some,un_not,Bool.not_true,Option.bind_some,condE_false,hl,bin_gtr,h1',decide_false]
  rfl
 ·intro A ph g0 C0 s0 hA hph hpl
  have hz:0<g0.next:=by omega
  refine ok_lp (pairs_L0 (fun i hi=>(hA i hi).2.1) hpl (fun i hi=>(hA i hi).2.2) (by omega) hz C0) ?_
  rintro _ vs g1 ⟨rfl,cs,b,bh,h2,hnew,W⟩
  simp only at W
  refine Ok.eq ?_ (by rw [if_pos rfl,thenK_normal])
  refine ok_cl (module_ok g1) ?_
  rintro _ g2 ⟨sv,cv,fv,rfl,M,s2⟩
  simp only at M s2
  refine ok_cl (schedNew_ok M) ?_
  rintro _ g3 ⟨tb,mp,rfl,T,htb,hmp,s3⟩
  simp only at T s3
  have s23:=s2.trans s3
  have n01:=W.same.next
  have n12:=s2.next
  have V:Vw g3 b 1 (vs.getD 0 .bot) (adL cs):=(W.ql.vw adL_row).keep s23
  have nb:∀ j,b=some j→j<g1.next:=fun j hj=>(W.ql.blk j hj).1
  have hxg:∀ g',Same [tb,mp] g3 g'→GosRd g' x0 xs:=fun g' s=>by
   refine hx.keep (by have:=s0.next;have:=s23.next;have:=s.next;omega) fun j hj=>?_
   have j0:=s0.next
   rw [s.get j (by have:=s23.next;omega) (by simp;omega),s23.get j (by omega) (by simp),W.same.get j (by omega) ?_,s0.get j hj (by simp)]
   intro hm
   have h5:=(hA 5 (by omega)).1
   have h7:=(hA 7 (by omega)).1
   have h8:=(hA 8 (by omega)).1
   simp only [List.mem_cons,List.not_mem_nil,or_false] at hm
   omega
  refine ok_lp (pairs_L1 hxg (by omega) T V (fun j hj=>by have:=nb j hj;omega) h2 rfl) ?_
  rintro _ vs1 g4 ⟨rfl,ss,T4,s4⟩
  simp only at T4 s4
  obtain⟨l,H,hc,hu,hN⟩:=W.hp
  have H4:HpAt g4 A l sh16 0:=(H.keep s23).mono s4 (fun i hi hm=>by
   have:=(hA i hi).2.1
   simp only [List.mem_cons,List.not_mem_nil,or_false] at hm
   omega) (by simp;omega)
  have hs:∀ y∈xs.map (gkP cs),Sgl l (stC cs) y:=fun y hy=>by
   obtain⟨x,_,rfl⟩:=List.mem_map.1 hy
   exact gkP_sgl H.wf hc h2 hnew x
  have hst:=sgl_st hc hs fun y hy=>by
   obtain⟨x,_,rfl⟩:=List.mem_map.1 hy
   obtain⟨c,e⟩:∃ c,cs[(x.a % 2).toNat]?=some c:=⟨_,List.getElem?_eq_getElem (by omega)⟩
   exact⟨c,List.mem_of_getElem? e,by rw [gkP,e];rfl⟩
  refine Ok.eq ?_ (by rw [if_pos rfl,thenK_normal])
  refine ok_lp (pairs_L4 (T4.full H4) hs hst (by rw [List.length_map];omega) (by rw [List.length_map];exact hl) (.bool false)) ?_
  rintro _ vs2 g5 rfl
  exact ok_val (v:=.bool true) (g:=g5) (by rw [if_pos rfl,thenK_normal]) rfl
end
end Go.Ab.F
