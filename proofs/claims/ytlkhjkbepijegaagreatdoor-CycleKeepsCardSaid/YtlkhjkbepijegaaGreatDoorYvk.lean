import Derived.Test.YtlkhjkbepijegaaGreatDoorYev
import Derived.Test.YtlkhjkbepijegaaGreatDoorYce
namespace Go.Ab.F
open Go Go.Ab
set_option linter.all false
set_option linter.all false
attribute [local congr] c_bind c_cl c_mk c_lp c_clC c_gQ c_gV c_condE c_thenK
theorem chk_more {R:Type}{f:Heap→Option AV}{v:AV}{g g':Heap}{hs:List Heap}{cs:List Asked}{x:Option R}(hv:same v v=true)(h0:f g=some v)(h1:f g'=some v):chk (g::g'::hs) ((f,v,0,1)::cs) x=chk (g::g'::hs) cs x:=by
 rw [chk_cons,allFrom_succ,allFrom_succ,allFrom_zero]
 simp [h0,h1,hv]
section
variable {h0 g:Heap}{C D K:Nat→Nat}{v:Vb}{p r:SC}{h:SH}{T:List Shp}{Z:List Nat}
theorem take_in {R:List Int}{k:Nat}{z x:Int}(hz:R[k]?=some z):decide (x∈R.take (k+1))=(decide (x∈R.take k)||decide (z=x)):=by
 rw [List.take_succ,hz]
 simp only [Option.toList_some,List.mem_append,List.mem_singleton,Bool.decide_or]
 congr 1
 by_cases e:x=z
 ·subst e;simp
 ·have : ¬ z=x:=fun h=>e h.symm
  simp [e,this]
end
section
variable {h0 g:Heap}{C D K:Nat→Nat}{i n N:Nat}{p:SC}{h:SH}
end
set_option linter.all false
attribute [local congr] c_bind c_cl c_mk c_lp c_clC c_gQ c_gV c_condE c_thenK
section
variable {h0 g:Heap}{C D K:Nat→Nat}{i n N:Nat}{p:SC}{h:SH}
theorem ends_L0 {x1:AV}{xs:List Ac}(hx:AcsRd h0 x1 xs)(hl:xs.length≤60)(P:Pw h0 g C D K 0 0 p h)(hp:p.ph=0)(hd:p.dn=0)(hN:p.l.ar.sp.length=N)(hnd:p.gq.Nodup) :
  Ok (Dt x1 (.ptr (some (K 3,0))) (.bool false) (.int .i64 0) g) fun s=>s.1 = .exit 0∧s.2.1.getD 0 .bot = .bool false∧∃ p' h',Pw h0 s.2.2 C D K 100 100000 p' h'∧p'.ph=0∧p'.dn=0∧p'.l.ar.sp.length=N∧p'.gq.Nodup:=by
 refine ok_loop (fun m vs g2=>∃ (i:Nat) (p':SC) (h':SH),vs = [.bool false,.int .i64 (i:Int)]∧m+i=xs.length∧Pw h0 g2 C D K i (i * 200) p' h'∧p'.ph=0∧p'.dn=0∧p'.l.ar.sp.length=N∧p'.gq.Nodup) ?_ (n:=xs.length) (by omega) ⟨0,p,h,rfl,by omega,by simpa using P,hp,hd,hN,hnd⟩
 rintro m vs g2 ⟨i,p',h',rfl,hm,P',hp',hd',hN',hnd'⟩
 rw [gd0,gd1]
 have hx2:=hx.kp P'.k
 by_cases hi:i<xs.length
 ·have hlt:(i:Int)<xs.length:=by omega
  obtain⟨a,ha⟩:∃ a,xs[i]?=some a:=⟨_,List.getElem?_eq_getElem hi⟩
  obtain⟨sv,b,o,ix,la,hs,l0⟩:=hx2.at ha
  have skip:Ok (some (Ex.normal,[AV.bool false,.int .i64 ((i+1:Nat):Int)],g2):OutV) fun r=>(r.1 = .normal∧∃ m',m'<m∧∃ (i:Nat) (p':SC) (h':SH),r.2.1 = [.bool false,.int .i64 (i:Int)]∧m'+i=xs.length∧Pw h0 r.2.2 C D K i (i * 200) p' h'∧p'.ph=0∧p'.dn=0∧p'.l.ar.sp.length=N∧p'.gq.Nodup)∨(r.1≠.normal∧(r.1 = .exit 0∧r.2.1.getD 0 .bot = .bool false∧∃ p' h',Pw h0 r.2.2 C D K 100 100000 p' h'∧p'.ph=0∧p'.dn=0∧p'.l.ar.sp.length=N∧p'.gq.Nodup)):=
   Ok.of (.inl ⟨rfl,m - 1,by omega,i+1,p',h',rfl,by omega,⟨P'.W,P'.k,P'.I,P'.B.mono (by omega) (by omega)⟩,hp',hd',hN',hnd'⟩)
  by_cases c1:a.op=1
  ·exact skip.eq (by simp -implicitDefEqProofs only [An,hx2.lnL,Option.bind_some,bin_lss,hlt,decide_true,condE_true,ix,faP_ptr,Nat.add_zero,l0,neq_int,decide_eq_true c1,Bool.not_true,gdW_ft,gQ_false,pickP_bool,Bool.false_eq_true,if_false,condE_false,bin_add,suc64 i (by omega)])
  by_cases c2:a.op=2
  ·exact skip.eq (by simp -implicitDefEqProofs only [An,hx2.lnL,Option.bind_some,bin_lss,hlt,decide_true,decide_false,condE_true,ix,faP_ptr,Nat.add_zero,l0,neq_int,decide_eq_false c1,decide_eq_true c2,Bool.not_true,Bool.not_false,gdW_ft,gdW_tt,gQ_false,gQ_true,cl_some,pickP_bool,Bool.false_eq_true,if_false,if_true,condE_false,bin_add,suc64 i (by omega)])
  by_cases c3:a.op=3
  ·exact skip.eq (by simp -implicitDefEqProofs only [An,hx2.lnL,Option.bind_some,bin_lss,hlt,decide_true,decide_false,condE_true,ix,faP_ptr,Nat.add_zero,l0,neq_int,decide_eq_false c1,decide_eq_false c2,decide_eq_true c3,Bool.not_true,Bool.not_false,gdW_ft,gdW_tt,gQ_false,gQ_true,cl_some,pickP_bool,Bool.false_eq_true,if_false,if_true,condE_false,bin_add,suc64 i (by omega)])
  by_cases c8:a.op=8
  ·exact skip.eq (by simp -implicitDefEqProofs only [An,hx2.lnL,Option.bind_some,bin_lss,hlt,decide_true,decide_false,condE_true,ix,faP_ptr,Nat.add_zero,l0,neq_int,decide_eq_false c1,decide_eq_false c2,decide_eq_false c3,decide_eq_true c8,Bool.not_true,Bool.not_false,gdW_ft,gdW_tt,gQ_false,gQ_true,cl_some,pickP_bool,Bool.false_eq_true,if_false,if_true,condE_false,bin_add,suc64 i (by omega)])
  refine Ok.eq ?_ (by simp -implicitDefEqProofs only [An,hx2.lnL,Option.bind_some,bin_lss,hlt,decide_true,decide_false,condE_true,ix,faP_ptr,Nat.add_zero,l0,neq_int,decide_eq_false c1,decide_eq_false c2,decide_eq_false c3,decide_eq_false c8,Bool.not_true,Bool.not_false,gdW_ft,gdW_tt,gQ_false,gQ_true,cl_some,pickP_bool,Bool.false_eq_true,if_false,if_true,la]<;>rfl)
  obtain⟨hp3,hd3⟩:=act_ph (p:=p') (h:=h') a c1 c2 c3 c8
  have hN3:=(act_len P'.I a).trans hN'
  have hnd3:=(act_ev P'.I a c8).ev.nd hnd'
  rw [hp'] at hp3
  rw [hd'] at hd3
  refine ok_cl (P:=fun s=>s.1 = .bool true∧Pw h0 s.2 C D K (i+1) (i * 200+i+64) (act sh7 p' p' h' a).2.1 (act sh7 p' p' h' a).2.2.2) ?_ ?_
  ·refine ok_cl (P'.act (by omega) (by omega) a hs) ?_
   rintro _ g3 ⟨rfl,P3⟩
   exact ok_val (v:=.bool true) (g:=g3) rfl ⟨rfl,P3⟩
  ·rintro _ g3 ⟨rfl,P3⟩
   simp only at P3
   refine(Ok.of (r:=(Ex.normal,[AV.bool false,.int .i64 ((i+1:Nat):Int)],g3)) (.inl ⟨rfl,m - 1,by omega,i+1,_,_,rfl,by omega,⟨P3.W,P3.k,P3.I,P3.B.mono (Nat.le_refl _) (by omega)⟩,hp3,hd3,hN3,hnd3⟩)).eq (by
    simp -implicitDefEqProofs only [un_not,Bool.not_true,Option.bind_some,gdW_tt,gQ_true,cl_some,pickP_bool,if_true,condE_false,bin_add,suc64 i (by omega)])
 ·have hlt : ¬ (i:Int)<xs.length:=by omega
  exact(Ok.of (r:=(Ex.exit 0,[AV.bool false,.int .i64 (i:Int)],g2)) (.inr ⟨by simp,rfl,rfl,p',h',⟨P'.W,P'.k,P'.I,P'.B.mono (by omega) (by omega)⟩,hp',hd',hN',hnd'⟩)).eq (by
   simp -implicitDefEqProofs only [An,hx2.lnL,Option.bind_some,bin_lss,hlt,decide_false,condE_false])
end
section
variable {h0 g:Heap}{C D K:Nat→Nat}{v:Vb}{p r:SC}{h:SH}{Z:List Nat}
end
set_option linter.all false
attribute [local congr] c_bind c_cl c_mk c_lp c_clC c_gQ c_gV c_condE c_thenK
def ac_ (n:Int):Ac:=⟨n,0,0,0,0,0,0,0⟩
theorem act_1 (p:SC)(h:SH):act sh7 p p h (ac_ 1)=startA p p h:=by
 unfold act;rw [if_neg (show ¬ (ac_ 1).op=0 by simp [ac_]),if_pos (show(ac_ 1).op=1 from rfl)]
theorem act_2 (p:SC)(h:SH):act sh7 p p h (ac_ 2)=stepA sh7 p p h:=by
 unfold act;rw [if_neg (show ¬ (ac_ 2).op=0 by simp [ac_]),if_neg (show ¬ (ac_ 2).op=1 by simp [ac_]),if_pos (show(ac_ 2).op=2 from rfl)]
theorem bld_ac (n:Int):bldS [(0,1),(1,1),(2,1),(3,1),(4,1),(5,1),(6,3)] [(AV.int .i64 0),(AV.int .i64 0),(AV.int .i64 0),(AV.int .i64 0),(AV.int .i64 0),(AV.int .i64 0),(AV.int .i64 0),(AV.int .i64 0),(AV.sl none 0 (.ex 0))] [(0,(AV.int .i64 n))]=some (.agg ((ac_ n).row (.sl none 0 (.ex 0)))):=rfl
structure Kw (Z:List Nat)(g0 g:Heap)(C D K:Nat→Nat)(i N made:Nat)(p:SC)(h:SH):Prop where
 W:∃ v,Wi g C D K v p p h sh7 Z
 k:KpX Z g0 g
 I:TI p h
 B:Bd i (i * 10000) p h
 nd:p.gq.Nodup
 len:p.l.ar.sp.length=N
 ml:made≤h.ms.length
 ms:∀ x∈h.ms.drop made,Kp p x
section
variable {g0 g:Heap}{C D K:Nat→Nat}{i N made:Nat}{p:SC}{h:SH}{Z:List Nat}
theorem Kw.act (P:Kw Z g0 g C D K i N made p h)(hi:i≤5000)(hp:p.ph≠0)(a:Ac)(h8:a.op≠8){sv:AV}(hsv:scalar sv=true) :
  Ok (AA (.ptr (some (K 3,0))) (.agg (a.row sv)) g) fun s=>s.1 = .bool true∧Kw Z g0 s.2 C D K (i+1) N made (act sh7 p p h a).2.1 (act sh7 p p h a).2.2.2:=by
 obtain⟨v,W⟩:=P.W
 have S:=P.I.sz P.B (by omega) (by omega)
 have hq:=P.B.gq
 obtain⟨e1,e2,e3⟩:=act_ti P.I a
 have E:=act_ev P.I a h8
 have B:=act_bd P.I P.B a
 refine Ok.mono (act_ok W S (by omega) (by omega) a hsv) ?_
 rintro s ⟨h1,v',W',k'⟩
 rw [e1] at h1
 rw [← e2] at W'
 have hml:=P.ml
 refine⟨h1,⟨⟨v',W'⟩,P.k.trans k',e3,B.mono (Nat.le_refl _) (by omega),E.ev.nd P.nd,E.ev.len.trans P.len,?_,?_⟩⟩
 ·rcases E.ms with e | ⟨ad,e,_⟩
  ·rw [e];exact hml
  ·rw [e,List.length_append];omega
 ·intro x hx
  rcases E.ms with e | ⟨ad,e,hK⟩
  ·rw [e] at hx;exact E.ev.kp hp x (P.ms x hx)
  ·rw [e,List.drop_append_of_le_length hml,List.mem_append] at hx
   rcases hx with hx | hx
   ·exact E.ev.kp hp x (P.ms x hx)
   ·simp at hx;subst hx;exact hK
theorem Kw.mono (P:Kw Z g0 g C D K i N made p h){j:Nat}(hj:i≤j):Kw Z g0 g C D K j N made p h:={ P with B:=P.B.mono hj (by omega) }
theorem Kw.keep {g':Heap}(P:Kw Z g0 g C D K i N made p h)(s:Same [] g g'):Kw Z g0 g' C D K i N made p h:=by
 obtain⟨v,W⟩:=P.W
 exact { P with W:=⟨v,W.keep s⟩,k:=P.k.trans (KpX.same s) }
def mR (n:Nat)(p:SC)(h:SH):Nat:=if n < 60 then 1600+(60-n) else p.meas h
theorem keeps_L1 {x2:AV}{xs:List Ac}(hx:∀ g,KpX Z g0 g→AcsRd g x2 xs)(hl:xs.length≤60)(hN:N≤12)(P:Kw Z g0 g C D K 101 N made p h) :
  Ok (Dp x2 (.ptr (some (K 3,0))) (.bool false) (.int .i64 0) g) fun s=>s.1 = .exit 2∧s.2.1.getD 0 .bot = .bool false∧∃ p' h',Kw Z g0 s.2.2 C D K 5000 N made p' h'∧p'.ph=0:=by
 refine ok_loop (fun m vs g2=>∃ (n:Nat) (p':SC) (h':SH),vs = [.bool false,.int .i64 (n:Int)]∧m=mR n p' h'∧n+m≤1700∧Kw Z g0 g2 C D K (101+2*n) N made p' h') ?_ (n:=1660) (by omega) ⟨0,p,h,rfl,rfl,by omega,P⟩
 rintro m vs g2 ⟨n,p',h',rfl,hm,hnm,P'⟩
 rw [gd0,gd1]
 have hx2:=hx g2 P'.k
 obtain⟨v',W'⟩:=P'.W
 by_cases hp:p'.ph=0
 ·exact(Ok.of (r:=(Ex.exit 2,[AV.bool false,.int .i64 (n:Int)],g2)) (.inr ⟨by simp,rfl,rfl,p',h',P'.mono (by omega),hp⟩)).eq (by
   simp -implicitDefEqProofs only [Bw,nilV_ptr,faP_ptr,Nat.zero_add,Option.bind_some,W'.pl3 0 _ rfl,phase_eq W',cl_some,neq_int,decide_eq_true hp,Bool.not_true,condE_false])
 have hgt : ¬ (n:Int) > 3000:=by omega
 -- the end of a round
 have tail:∀ (g3:Heap) (p3:SC) (h3:SH),Kw Z g0 g3 C D K (102+2*n) N made p3 h3→(60≤n→p3=p'∧h3=h')→
   Ok ((nilV (.ptr (some (K 3,0)))).bind fun t135=>(faP 0 t135).bind fun t136=>(ldS g3 t136).bind fun t137=>
    cl (AD t137 g3) fun t138 h98=>
    (eqP (some (.int .i64)) none false .neq t138 (AV.int .i64 0)).bind fun t139=>
    gQ (gdW t139 true) h98 (some (.ptr (some (K 3,0)),h98)) fun t141 h99=>
    gQ (gdW t139 true) h99 ((bldS [(0,1),(1,1),(2,1),(3,1),(4,1),(5,1),(6,3)] [(AV.int .i64 0),(AV.int .i64 0),(AV.int .i64 0),(AV.int .i64 0),(AV.int .i64 0),(AV.int .i64 0),(AV.int .i64 0),(AV.int .i64 0),(AV.sl none 0 (.ex 0))] [(0,(AV.int .i64 2))]).bind fun t142=>some (t142,h99)) fun t142_100 h101=>
    gQ (gdW t139 true) h101 (cl (AA t141 t142_100 h101) fun t143 h102=>some (t143,h102)) fun t143_103 h104=>
    gQ (gdW t139 true) h104 ((unA .not t143_103).bind fun t144=>some (t144,h104)) fun t144_105 h106=>
    (pickP t139 t144_105 (AV.bool false)).bind fun t145=>
    condE t145 (some (.ret,[(AV.bool false),.int .i64 (n:Int)],h106)) (
    (binP .add (.int .i64 (n:Int)) (AV.int .i64 1)).bind fun t110=>some (.normal,[.bool false,t110],h106)):OutV)
   fun s=>(s.1 = .normal∧∃ m',m'<m∧∃ (n:Nat) (p':SC) (h':SH),s.2.1 = [.bool false,.int .i64 (n:Int)]∧m'=mR n p' h'∧n+m'≤1700∧Kw Z g0 s.2.2 C D K (101+2*n) N made p' h')∨(s.1≠.normal∧(s.1 = .exit 2∧s.2.1.getD 0 .bot = .bool false∧∃ p' h',Kw Z g0 s.2.2 C D K 5000 N made p' h'∧p'.ph=0)):=by
  intro g3 p3 h3 P3 h60
  obtain⟨v3,W3⟩:=P3.W
  by_cases hp3:p3.ph=0
  ·have hn:n < 60:=by
    apply Classical.byContradiction
    intro hc
    obtain⟨e1,e2⟩:=h60 (by omega)
    rw [e1] at hp3;exact hp hp3
   have hall:=meas_all P3.I P3.nd
   rw [P3.len] at hall
   have hmm:mR (n+1) p3 h3<m:=by
    rw [hm];unfold mR
    rw [if_pos hn]
    split<;>omega
   refine(Ok.of (r:=(Ex.normal,[AV.bool false,.int .i64 ((n+1:Nat):Int)],g3)) (.inl ⟨rfl,_,hmm,n+1,p3,h3,rfl,rfl,by omega,P3.mono (by omega)⟩)).eq (by
    simp -implicitDefEqProofs only [nilV_ptr,faP_ptr,Nat.zero_add,Option.bind_some,W3.pl3 0 _ rfl,phase_eq W3,cl_some,neq_int,decide_eq_true hp3,Bool.not_true,gdW_ft,gQ_false,pickP_bool,Bool.false_eq_true,if_false,condE_false,bin_add,suc64 n (by omega)])
  ·refine Ok.eq ?_ (by simp -implicitDefEqProofs only [nilV_ptr,faP_ptr,Nat.zero_add,Option.bind_some,W3.pl3 0 _ rfl,phase_eq W3,cl_some,neq_int,decide_eq_false hp3,Bool.not_false,gdW_tt,gQ_true,bld_ac]<;>rfl)
   refine ok_cl (P:=fun s=>s.1 = .bool true∧Kw Z g0 s.2 C D K (102+2*n+1) N made (p3.step sh7 h3).2 h3) ?_ ?_
   ·refine ok_cl (P3.act (by omega) hp3 (ac_ 2) (by simp [ac_]) rfl) ?_
    rintro _ g4 ⟨rfl,P4⟩
    rw [act_2] at P4
    exact ok_val (v:=.bool true) (g:=g4) rfl ⟨rfl,P4⟩
   ·rintro _ g4 ⟨rfl,P4⟩
    simp only at P4
    obtain⟨s1,s2,s3⟩:=step_dn (p:=p3) (h:=h3)
    have hless:=step_less (s3 hp3 P3.I.ph)
    have hall:=meas_all P4.I P4.nd
    rw [P4.len] at hall
    have hmm:mR (n+1) (p3.step sh7 h3).2 h3<m:=by
     rw [hm];unfold mR
     by_cases hn:n < 60
     ·rw [if_pos hn]
      split<;>omega
     ·obtain⟨e1,e2⟩:=h60 (by omega)
      rw [if_neg hn,if_neg (by omega),← e1,← e2];exact hless
    refine(Ok.of (r:=(Ex.normal,[AV.bool false,.int .i64 ((n+1:Nat):Int)],g4)) (.inl ⟨rfl,_,hmm,n+1,_,h3,rfl,rfl,by omega,P4.mono (by omega)⟩)).eq (by
     simp -implicitDefEqProofs only [un_not,Bool.not_true,Option.bind_some,gdW_tt,gQ_true,cl_some,pickP_bool,if_true,condE_false,bin_add,suc64 n (by omega)])
 by_cases hi:n<xs.length
 ·have hlt:(n:Int)<xs.length:=by omega
  obtain⟨a,ha⟩:∃ a,xs[n]?=some a:=⟨_,List.getElem?_eq_getElem hi⟩
  obtain⟨sv,b,o,ix,la,hs,l0⟩:=hx2.at ha
  by_cases c8:a.op=8
  ·refine(tail g2 p' h' (P'.mono (by omega)) (fun _=>⟨rfl,rfl⟩)).eq (by
    simp -implicitDefEqProofs only [Bw,nilV_ptr,faP_ptr,Nat.zero_add,Nat.add_zero,Option.bind_some,W'.pl3 0 _ rfl,phase_eq W',cl_some,neq_int,decide_eq_false hp,Bool.not_false,condE_true,bin_gtr,hgt,decide_false,condE_false,hx2.lnL,bin_lss,hlt,decide_true,gdW_tt,gdW_ft,gQ_true,gQ_false,ix,l0,decide_eq_true c8,Bool.not_true,pickP_bool,if_true,if_false,Bool.false_eq_true])
  ·refine Ok.eq ?_ (by
    simp -implicitDefEqProofs only [Bw,nilV_ptr,faP_ptr,Nat.zero_add,Nat.add_zero,Option.bind_some,W'.pl3 0 _ rfl,phase_eq W',cl_some,neq_int,decide_eq_false hp,Bool.not_false,condE_true,bin_gtr,hgt,decide_false,condE_false,hx2.lnL,bin_lss,hlt,decide_true,gdW_tt,gdW_ft,gQ_true,gQ_false,ix,l0,decide_eq_false c8,pickP_bool,if_true,la]<;>rfl)
   refine ok_cl (P:=fun s=>s.1 = .bool true∧Kw Z g0 s.2 C D K (101+2*n+1) N made (act sh7 p' p' h' a).2.1 (act sh7 p' p' h' a).2.2.2) ?_ ?_
   ·refine ok_cl (P'.act (by omega) hp a c8 hs) ?_
    rintro _ g4 ⟨rfl,P4⟩
    exact ok_val (v:=.bool true) (g:=g4) rfl ⟨rfl,P4⟩
   ·rintro _ g4 ⟨rfl,P4⟩
    simp only at P4
    refine(tail g4 _ _ (P4.mono (by omega)) (fun hc=>by omega)).eq (by
     simp -implicitDefEqProofs only [nilV_ptr,faP_ptr,Nat.zero_add,un_not,Bool.not_true,Option.bind_some,gdW_tt,gQ_true,cl_some,pickP_bool,if_true,condE_false])
 ·have hlt : ¬ (n:Int)<xs.length:=by omega
  refine(tail g2 p' h' (P'.mono (by omega)) (fun _=>⟨rfl,rfl⟩)).eq (by
   simp -implicitDefEqProofs only [Bw,nilV_ptr,faP_ptr,Nat.zero_add,Nat.add_zero,Option.bind_some,W'.pl3 0 _ rfl,phase_eq W',cl_some,neq_int,decide_eq_false hp,Bool.not_false,condE_true,bin_gtr,hgt,decide_false,condE_false,hx2.lnL,bin_lss,hlt,gdW_ft,gQ_false,pickP_bool,if_false,Bool.false_eq_true])
end
section
variable {g:Heap}{C D K:Nat→Nat}{v:Vb}{p r:SC}{h:SH}{T:List Shp}{Z:List Nat}
theorem keeps_L2 {X:List Nat}{R L:List Int}{y w:AV}(hy:Ird g X y R)(hw:Ird g X w L)(hl:R.length≤2 ^ 40){i:Nat}{x:Int}(hx:L[i]?=some x) :
  Ok (D1 w y (.int .i64 i) (.bool false) (.int .i64 0) g) fun s=>s=(.exit 6,[.bool (decide (x∈R)),.int .i64 R.length],g):=by
 obtain⟨q2,hix2,hld2⟩:=hw.2 i x hx
 have ld2:=hld2 g (KpX.refl _ _)
 refine ok_loop (fun m vs g2=>∃ k:Nat,vs = [.bool (decide (x∈R.take k)),.int .i64 (k:Int)]∧m+k=R.length∧g2=g) ?_ (n:=R.length) (by omega) ⟨0,by simp,by omega,rfl⟩
 rintro m vs g2 ⟨k,rfl,hm,rfl⟩
 rw [gd0,gd1]
 by_cases hi:k<R.length
 ·have hlt:(k:Int)<R.length:=by omega
  obtain⟨z,hz⟩:∃ z,R[k]?=some z:=⟨_,List.getElem?_eq_getElem hi⟩
  obtain⟨q,hix,hld⟩:=hy.2 k z hz
  have ld:=hld g2 (KpX.refl _ _)
  refine(Ok.of (r:=(Ex.normal,[AV.bool (decide (x∈R.take (k+1))),.int .i64 ((k+1:Nat):Int)],g2)) (.inl ⟨rfl,m - 1,by omega,k+1,rfl,by omega,rfl⟩)).eq ?_
  rw [take_in hz]
  cases hd:decide (x∈R.take k) with
  | true=>simp -implicitDefEqProofs only [CP,hy.1,Option.bind_some,bin_lss,hlt,decide_true,condE_true,gdW_tf,gV_false,pickP_bool,if_true,chk_nil,bin_add,suc64 k (by omega),Bool.true_or]
  | false=>simp -implicitDefEqProofs only [CP,hy.1,Option.bind_some,bin_lss,hlt,decide_true,condE_true,gdW_ff,gV_true,hix,ld,hix2,ld2,eql_int,pickP_bool,Bool.false_eq_true,if_false,chk_nil,bin_add,suc64 k (by omega),Bool.false_or]
 ·have hlt : ¬ (k:Int)<R.length:=by omega
  obtain rfl:k=R.length:=by omega
  rw [List.take_length]
  exact(Ok.of (r:=(Ex.exit 6,[AV.bool (decide (x∈R)),.int .i64 (R.length:Int)],g2)) (.inr ⟨by simp,rfl⟩)).eq (by
   simp -implicitDefEqProofs only [CP,hy.1,Option.bind_some,bin_lss,hlt,decide_false,condE_false])
theorem keeps_L3 (W:Wi g C D K v p r h T Z){X:List Nat}{R L:List Int}{y w:AV}(hy:Ird g X y R)(hw:Ird g X w L)(hl:R.length≤2 ^ 40)(hm:L.length≤2 ^ 40)(hin:∀ x∈R,Fd p.l.ar x)(q:AV) :
  Ok (Dx (.ptr (some (K 3,0))) w y q (.int .i64 0) g) fun s=>s.1 = .exit 4∧s.2.1.getD 0 .bot=q∧s.2.2=g:=by
 refine ok_loop (fun m vs g2=>∃ i:Nat,vs = [q,.int .i64 (i:Int)]∧m+i=L.length∧g2=g) ?_ (n:=L.length) (by omega) ⟨0,rfl,by omega,rfl⟩
 rintro m vs g2 ⟨i,rfl,hmi,rfl⟩
 rw [gd0,gd1]
 by_cases hi:i<L.length
 ·have hlt:(i:Int)<L.length:=by omega
  obtain⟨x,hx⟩:∃ x,L[i]?=some x:=⟨_,List.getElem?_eq_getElem hi⟩
  obtain⟨qx,hix,hld⟩:=hw.2 i x hx
  have ld:=hld g2 (KpX.refl _ _)
  refine Ok.eq ?_ (by simp -implicitDefEqProofs only [C7,Option.bind_some,hw.1,bin_lss,hlt,decide_true,condE_true]<;>rfl)
  refine ok_lp (keeps_L2 hy hw hl hx) ?_
  rintro _ _ _ he
  cases he
  rw [if_pos rfl,thenK_normal,gd0]
  refine(Ok.of (r:=(Ex.normal,[q,AV.int .i64 ((i+1:Nat):Int)],g2)) (.inl ⟨rfl,m - 1,by omega,i+1,rfl,by omega,rfl⟩)).eq ?_
  by_cases hc:x∈R
  ·have his:p.l.ar.is x=true:=(is_find _ _).2 (hin x hc)
   rw [decide_eq_true hc]
   simp -implicitDefEqProofs only [gdW_tt,gV_true,nilV_ptr,faP_ptr,Nat.zero_add,Option.bind_some,W.pl3 0 _ rfl,gQ_true,arena_eq W,cl_some,hix,rdC_some (f:=fun g=>ldS g (.ptr (some qx))) (h:=g2) ld,clC_some,is_eq W.j.pm.al.ar,his,un_not,Bool.not_true,pickP_bool,if_true,condE_false,bin_add,suc64 i (by omega)]
   rw [chk_more (same_int _ _) ld ld,chk_nil]
  ·rw [decide_eq_false hc]
   simp -implicitDefEqProofs only [gdW_ft,gV_false,Option.bind_some,gQ_false,clC_some,pickP_bool,Bool.false_eq_true,if_false,chk_nil,condE_false,bin_add,suc64 i (by omega)]
 ·have hlt : ¬ (i:Int)<L.length:=by omega
  exact(Ok.of (r:=(Ex.exit 4,[q,AV.int .i64 (i:Int)],g2)) (.inr ⟨by simp,rfl,rfl,rfl⟩)).eq (by
   simp -implicitDefEqProofs only [C7,Option.bind_some,hw.1,bin_lss,hlt,decide_false,condE_false])
theorem keeps_L4 (W:Wi g C D K v p r h T Z){made:Nat}(hml:made≤h.ms.length)(hm:h.ms.length≤2 ^ 40)(hin:∀ x∈h.ms.drop made,Fd p.l.ar x)(q:AV) :
  Ok (Ds (.ptr (some (K 3,0))) q (.int .i64 made) g) fun s=>s.1 = .exit 8:=by
 obtain⟨w,lw,hw⟩:=W.at_
 have hms:Ird g (v.lb 5).toList w h.ms:=ird_slg hw (fun j hj=>by simp [hj])
 obtain⟨wp,wn,wc,ew⟩:∃ pp n c,w = .sl pp n c:=by
  have:=hms.1
  cases w<;>simp [lnL] at this
  exact⟨_,_,_,rfl⟩
 have hsw:same w w=true:=by rw [ew];exact same_sl _ _ _
 refine ok_loop (fun m vs g2=>∃ i:Nat,vs = [q,.int .i64 (i:Int)]∧m+i=h.ms.length∧made≤i∧g2=g) ?_ (n:=h.ms.length-made) (by omega) ⟨made,rfl,by omega,Nat.le_refl _,rfl⟩
 rintro m vs g2 ⟨i,rfl,hmi,hmi2,rfl⟩
 rw [gd0,gd1]
 by_cases hi:i<h.ms.length
 ·have hlt:(i:Int)<h.ms.length:=by omega
  obtain⟨x,hx⟩:∃ x,h.ms[i]?=some x:=⟨_,List.getElem?_eq_getElem hi⟩
  obtain⟨qx,hix,hld⟩:=hms.2 i x hx
  have ld:=hld g2 (KpX.refl _ _)
  have hxd:x∈h.ms.drop made:=by
   refine List.mem_of_getElem? (i:=i-made) ?_
   rw [List.getElem?_drop,← hx]
   congr 1;omega
  have his:p.l.ar.is x=true:=(is_find _ _).2 (hin x hxd)
  refine(Ok.of (r:=(Ex.normal,[q,AV.int .i64 ((i+1:Nat):Int)],g2)) (.inl ⟨rfl,m - 1,by omega,i+1,rfl,by omega,by omega,rfl⟩)).eq ?_
  simp -implicitDefEqProofs only [C5,nilV_ptr,faP_ptr,Nat.zero_add,Option.bind_some,lw,hms.1,bin_lss,hlt,decide_true,condE_true,W.pl3 0 _ rfl,arena_eq W,cl_some,rdC_some (f:=fun g=>ldS g (.ptr (some (K 3,3)))) (h:=g2) lw,clC_some,hix,rdC_some (f:=fun g=>ldS g (.ptr (some qx))) (h:=g2) ld,is_eq W.j.pm.al.ar,his,un_not,Bool.not_true,condE_false,bin_add,suc64 i (by omega)]
  rw [chk_more (same_int _ _) ld ld,chk_more hsw lw lw,chk_nil]
 ·have hlt : ¬ (i:Int)<h.ms.length:=by omega
  exact(Ok.of (r:=(Ex.exit 8,[q,AV.int .i64 (i:Int)],g2)) (.inr ⟨by simp,rfl⟩)).eq (by
   simp -implicitDefEqProofs only [C5,nilV_ptr,faP_ptr,Nat.zero_add,Option.bind_some,lw,hms.1,bin_lss,hlt,decide_false,condE_false])
end
theorem cycleKeeps_true {h:Heap}(hsub:Sub hQ1 h)(hn1:1≤h.next){sp:Int}{x1 x2:AV}{xs ys:List Ac}(hx:AcsRd h x1 xs)(hy:AcsRd h x2 ys) :
  Ok (AX (.int .i64 sp) x1 x2 h) fun r=>r.1 = .bool true:=by
 have ht:=tab0_sub hsub hn1
 have haw:FX h=some (.bool true,h):=quiet_pos hsub
 by_cases h8:sp < 8
 ·exact ok_val (v:=.bool true) (g:=h) (by simp -implicitDefEqProofs only [AX,haw,cl_some,un_not,Bool.not_true,Option.bind_some,condE_false,bin_lss,h8,decide_true,gdW_tf,gQ_false,pickP_bool,if_true,condE_true]) rfl
 by_cases h12:12<sp
 ·have h12':sp > 12:=h12
  exact ok_val (v:=.bool true) (g:=h) (by simp -implicitDefEqProofs only [AX,haw,cl_some,un_not,Bool.not_true,Option.bind_some,condE_false,bin_lss,bin_gtr,h8,h12',decide_true,decide_false,gdW_ff,gdW_tf,gQ_true,gQ_false,pickP_bool,Bool.false_eq_true,if_false,if_true,condE_true]) rfl
 have h12' : ¬ sp > 12:=h12
 by_cases hl:60<xs.length
 ·have hl':(xs.length:Int) > 60:=by omega
  exact ok_val (v:=.bool true) (g:=h) (by simp -implicitDefEqProofs only [AX,haw,cl_some,un_not,Bool.not_true,Option.bind_some,condE_false,bin_lss,bin_gtr,h8,h12',hx.lnL,hl',decide_true,decide_false,gdW_ff,gdW_tf,gQ_true,gQ_false,pickP_bool,Bool.false_eq_true,if_false,if_true,condE_true]) rfl
 have hl' : ¬ (xs.length:Int) > 60:=by omega
 by_cases hm:60<ys.length
 ·have hm':(ys.length:Int) > 60:=by omega
  exact ok_val (v:=.bool true) (g:=h) (by simp -implicitDefEqProofs only [AX,haw,cl_some,un_not,Bool.not_true,Option.bind_some,condE_false,bin_lss,bin_gtr,h8,h12',hx.lnL,hy.lnL,hl',hm',decide_true,decide_false,gdW_ff,gdW_tf,gQ_true,gQ_false,pickP_bool,Bool.false_eq_true,if_false,if_true,condE_true]) rfl
 have hm' : ¬ (ys.length:Int) > 60:=by omega
 refine Ok.eq ?_ (by simp -implicitDefEqProofs only [AX,haw,cl_some,un_not,Bool.not_true,Option.bind_some,condE_false,bin_lss,bin_gtr,h8,h12',hx.lnL,hy.lnL,hl',hm',decide_false,gdW_ff,gQ_true,pickP_bool,Bool.false_eq_true,if_false]<;>rfl)
 obtain⟨N,rfl⟩:∃ N:Nat,sp=(N:Int):=⟨sp.toNat,by omega⟩
 refine ok_cl (begun_ok ht (N:=N) (by omega) (by omega)) ?_
 rintro _ g1 ⟨C,D,K,v,rfl,W,k⟩
 simp only at W k
 have P:Pw h g1 C D K 0 0 (sc0 N) hol0:=⟨⟨v,W⟩,k,ti_start (by omega) (by omega),bd_start N⟩
 refine Ok.eq ?_ (by simp -implicitDefEqProofs only [eql_ptr_nil,Option.bind_some,condE_false]<;>rfl)
 refine ok_lp (ends_L0 (N:=N) hx (by omega) P rfl rfl (by simp [sc0,newA]) List.nodup_nil) ?_
 rintro _ vs g2 ⟨rfl,hvs,p',h',P',hp,hd,hN,hnd⟩
 simp only at P' hvs
 rw [if_pos rfl,thenK_normal,hvs]
 refine Ok.eq ?_ (by simp -implicitDefEqProofs only [bld_ac,Option.bind_some]<;>rfl)
 refine ok_cl (P'.act (by omega) (by omega) (ac_ 1) (sv:=.sl none 0 (.ex 0)) rfl) ?_
 rintro _ g3 ⟨rfl,P3⟩
 rw [act_1] at P3
 simp only [startA] at P3
 obtain⟨e1,e2,e3⟩:=start_ph1 (h:=h') hp
 have hnd3:=(ev_start P'.I).nd hnd
 have hN3:=(ev_start P'.I).len.trans hN
 generalize (p'.start h').2=p3 at *
 obtain⟨v3,W3⟩:=P3.W
 refine Ok.eq ?_ (by simp -implicitDefEqProofs only [un_not,Bool.not_true,Option.bind_some,gdW_ff,gQ_true,cl_some,nilV_ptr,faP_ptr,Nat.zero_add,W3.pl3 0 _ rfl,phase_eq W3,neq_int,e1,decide_true,pickP_bool,Bool.false_eq_true,if_false,condE_false]<;>rfl)
 refine ok_cl (reached_ok W3 P3.B.L (by omega)) ?_
 rintro y g4 ⟨R,RL,hRl,b,hyy,s4,hb⟩
 simp only at hyy s4
 have W4:=W3.addL s4 (L:=b.toList) (fun j hj=>⟨hb j (by simpa using hj),(hyy.blk j (by simpa using hj)).1⟩)
 obtain⟨w,lw,hw⟩:=W4.at_
 have hlw:lnL w=some (.int .i64 h'.ms.length):=(ird_slg hw (X:=(v3.lb 5).toList) (fun j hj=>by simp [hj])).1
 refine Ok.eq ?_ (by simp -implicitDefEqProofs only [nilV_ptr,faP_ptr,Nat.zero_add,Option.bind_some,lw,hlw]<;>rfl)
 have k04:KpX (Zr h) h g4:=P3.k.trans (KpX.same s4)
 have Q:Kw (b.toList++Zr h) g4 g4 C D K 101 N h'.ms.length p3 h':=
  ⟨⟨v3,W4⟩,KpX.refl _ _,P3.I,P3.B.mono (by omega) (by omega),hnd3,hN3,Nat.le_refl _,fun x hx=>by simp at hx⟩
 refine ok_lp (keeps_L1 (fun g kk=>hy.kp (k04.trans (kk.sub fun j hj=>List.mem_append_right _ hj))) (by omega) (by omega) Q) ?_
 rintro _ vs5 g5 ⟨rfl,hvs5,p5,h5,Q5,hp5⟩
 simp only at Q5 hvs5
 obtain⟨v5,W5⟩:=Q5.W
 rw [if_pos rfl,thenK_normal,hvs5]
 refine ok_cl (reached_ok W5 Q5.B.L (by omega)) ?_
 rintro y6 g6 ⟨R6,RL6,hRl6,b6,hy6,s6,hb6⟩
 simp only at hy6 s6
 have W6:=W5.keep s6
 have i1:Ird g6 (b6.toList++(b.toList++Zr h)) y R:=(ird_slb hyy (X:=b.toList++Zr h) (fun j hj=>by simp [hj])).kp (Q5.k.trans (KpX.same s6)) (fun j hj=>List.mem_append_right _ hj)
 have i2:Ird g6 (b6.toList++(b.toList++Zr h)) y6 R6:=ird_slb hy6 (fun j hj=>by simp [hj])
 refine ok_lp (keeps_L3 W6 i2 i1 (by omega) (by omega) (fun x hx=>(rd_rch.1 ((RL6.mem x).1 hx)).f) (.bool false)) ?_
 rintro _ vs7 _ ⟨rfl,hvs7,rfl⟩
 simp only at hvs7
 rw [if_pos rfl,thenK_normal,hvs7]
 have hms:=Q5.B.ms
 refine ok_lp (keeps_L4 W6 Q5.ml (by omega) (fun x hx=>(Q5.ms x hx).1) (.bool false)) ?_
 rintro _ vs8 g8 rfl
 exact ok_val (v:=.bool true) (g:=g8) rfl rfl
end Go.Ab.F
