import Derived.Test.YtlkhjkbepijegaaGreatDoorYev
import Derived.Test.YtlkhjkbepijegaaGreatDoorYce
namespace Go.Ab.F
open Go Go.Ab
set_option linter.all false
set_option linter.all false
attribute [local congr] c_bind c_cl c_mk c_lp c_clC c_gQ c_gV c_condE c_thenK
section
variable {h0 g:Heap}{C D K:Nat→Nat}{v:Vb}{p r:SC}{h:SH}{T:List Shp}{Z:List Nat}
end
section
variable {h0 g:Heap}{C D K:Nat→Nat}{i n N:Nat}{p:SC}{h:SH}
theorem Pw.iq (P:Pw h0 g C D K i n p h):Iq (n+32768) p:=⟨by have:=P.B.gq;omega,fun _=>by have:=P.B.gq;have:=mu_wf P.I.lv.wf;omega⟩
end
set_option linter.all false
attribute [local congr] c_bind c_cl c_mk c_lp c_clC c_gQ c_gV c_condE c_thenK
theorem chk_more {R:Type}{f:Heap→Option AV}{v:AV}{g g':Heap}{hs:List Heap}{cs:List Asked}{x:Option R}(hv:same v v=true)(h0:f g=some v)(h1:f g'=some v):chk (g::g'::hs) ((f,v,0,1)::cs) x=chk (g::g'::hs) cs x:=by
 rw [chk_cons,allFrom_succ,allFrom_succ,allFrom_zero]
 simp [h0,h1,hv]
section
variable {h0 g:Heap}{C D K:Nat→Nat}{v:Vb}{p r:SC}{h:SH}{T:List Shp}{Z:List Nat}
theorem cfin_loop (W:Wi g C D K v p r h T Z)(hs:h.sm){B:Nat}(I:Iq B p)(hB:B≤2 ^ 30)(e:Nat){b:Heap→OutV}
  (hb:∀ g p' v',Wi g C D K v' p' r h T Z→b g=cl (AC (.ptr (some (K 0,0))) (rI K) g) fun t h1=>condE t (some (.normal,[],h1)) (some (.exit e,[],h1))) :
  Ok (loopN (fun us g=>b g) [] g) fun s=>s.1 = .exit e∧∃ v',Wi s.2.2 C D K v' (p.fin T h) r h T Z∧KpX Z g s.2.2∧Iq B (p.fin T h):=by
 refine ok_loop (fun m vs g2=>vs = []∧∃ p' v',Wi g2 C D K v' p' r h T Z∧KpX Z g g2∧p'.fin T h=p.fin T h∧p'.meas h≤m∧Iq B p'∧m≤p.meas h) ?_ (n:=p.meas h) (by have h1:=meas_le W.j.pm.wf W.j.pm.al.len h;have h2:=W.j.pm.wf.hi;have h3:=I.q;omega) ⟨rfl,p,v,W,KpX.refl _ _,rfl,Nat.le_refl _,I,Nat.le_refl _⟩
 rintro m vs g2 ⟨rfl,p',v',W',k,he,hm,I',hmm⟩
 refine Ok.eq ?_ (by rw [hb g2 p' v' W'])
 have hq:=I'.q
 refine ok_cl (cstep_ok W' hs (by omega)) ?_
 rintro _ g3 ⟨rfl,v2,W2,k2⟩
 simp only at W2 k2
 cases hst:(p'.step T h).1 with
 | true=>
  have hl:=step_less hst
  exact(Ok.of (r:=((Ex.normal,([]:List AV),g3):Ex × List AV × Heap)) (.inl ⟨rfl,m - 1,by omega,rfl,_,v2,W2,k.trans k2,by rw [← he,← fin_step hst],by omega,step_q I',by omega⟩)).eq (by simp only [condE_true])
 | false=>
  have e1:(p'.step T h).2=p':=by
   unfold SC.step at hst ⊢
   split at hst
   ·cases hst
   ·split at hst
    ·cases hst
    ·split at hst
     ·unfold SC.swept at hst;split at hst<;>cases hst
     ·rename_i a1 a2 a3;rw [if_neg a1,if_neg a2,if_neg a3]
  rw [e1] at W2
  have e2:=fin_end hst
  rw [he] at e2
  exact(Ok.of (r:=((Ex.exit e,([]:List AV),g3):Ex × List AV × Heap)) (.inr ⟨by simp,rfl,v2,by rw [e2];exact W2,k.trans k2,by rw [e2];exact I'⟩)).eq (by simp only [condE_false])
theorem take_in {R:List Int}{k:Nat}{z x:Int}(hz:R[k]?=some z):decide (x∈R.take (k+1))=(decide (x∈R.take k)||decide (z=x)):=by
 rw [List.take_succ,hz]
 simp only [Option.toList_some,List.mem_append,List.mem_singleton,Bool.decide_or]
 congr 1
 by_cases e:x=z
 ·subst e;simp
 ·have : ¬ z=x:=fun h=>e h.symm
  simp [e,this]
theorem frees_L2 (W:Wi g C D K v p r h T Z){X:List Nat}{R:List Int}{y:AV}(hy:Ird g X y R)(hl:R.length≤2 ^ 40){i:Nat}{x:Int}(hx:h.ms[i]?=some x) :
  Ok (Dv (.ptr (some (K 3,0))) y (.int .i64 i) (.bool false) (.int .i64 0) g) fun s=>s=(.exit 6,[.bool (decide (x∈R)),.int .i64 R.length],g):=by
 obtain⟨w,lw,hw⟩:=W.at_
 have hms:Ird g (v.lb 5).toList w h.ms:=ird_slg hw (fun j hj=>by simp [hj])
 obtain⟨q2,hix2,hld2⟩:=hms.2 i x hx
 have ld2:=hld2 g (KpX.refl _ _)
 refine ok_loop (fun m vs g2=>∃ k:Nat,vs = [.bool (decide (x∈R.take k)),.int .i64 (k:Int)]∧m+k=R.length∧g2=g) ?_ (n:=R.length) (by omega) ⟨0,by simp,by omega,rfl⟩
 rintro m vs g2 ⟨k,rfl,hm,rfl⟩
 rw [gd0,gd1]
 by_cases hi:k<R.length
 ·have hlt:(k:Int)<R.length:=by omega
  obtain⟨z,hz⟩:∃ z,R[k]?=some z:=⟨_,List.getElem?_eq_getElem hi⟩
  obtain⟨q,hix,hld⟩:=hy.2 k z hz
  have ld:=hld g2 (KpX.refl _ _)
  refine(Ok.of (r:=(Ex.normal,[AV.bool (decide (x∈R.take (k+1))),.int .i64 ((k+1:Nat):Int)],g2)) (.inl ⟨rfl,m - 1,by omega,k+1,rfl,by omega,rfl⟩)).eq ?_
  rw [take_in hz]
  cases hd:decide (x∈R.take k) with
  | true=>simp -implicitDefEqProofs only [CN,hy.1,Option.bind_some,bin_lss,hlt,decide_true,condE_true,gdW_tf,gV_false,pickP_bool,if_true,chk_nil,bin_add,suc64 k (by omega),Bool.true_or]
  | false=>simp -implicitDefEqProofs only [CN,hy.1,Option.bind_some,bin_lss,hlt,decide_true,condE_true,gdW_ff,gV_true,hix,ld,nilV_ptr,faP_ptr,Nat.zero_add,lw,hix2,ld2,eql_int,pickP_bool,Bool.false_eq_true,if_false,chk_nil,bin_add,suc64 k (by omega),Bool.false_or]
 ·have hlt : ¬ (k:Int)<R.length:=by omega
  obtain rfl:k=R.length:=by omega
  rw [List.take_length]
  exact(Ok.of (r:=(Ex.exit 6,[AV.bool (decide (x∈R)),.int .i64 (R.length:Int)],g2)) (.inr ⟨by simp,rfl⟩)).eq (by
   simp -implicitDefEqProofs only [CN,hy.1,Option.bind_some,bin_lss,hlt,decide_false,condE_false])
theorem frees_L3 (W:Wi g C D K v p r h T Z){X:List Nat}{R:List Int}{y:AV}(hy:Ird g X y R)(hl:R.length≤2 ^ 40)(hm:h.ms.length≤2 ^ 40)(hin:∀ x∈h.ms,p.l.ar.is x=decide (x∈R))(q:AV) :
  Ok (Dx (.ptr (some (K 3,0))) y q (.int .i64 0) g) fun s=>s.1 = .exit 4:=by
 obtain⟨w,lw,hw⟩:=W.at_
 have hms:Ird g (v.lb 5).toList w h.ms:=ird_slg hw (fun j hj=>by simp [hj])
 obtain⟨wp,wn,wc,ew⟩:∃ pp n c,w = .sl pp n c:=by
  have:=hms.1
  cases w<;>simp [lnL] at this
  exact⟨_,_,_,rfl⟩
 have hsw:same w w=true:=by rw [ew];exact same_sl _ _ _
 refine ok_loop (fun m vs g2=>∃ i:Nat,vs = [q,.int .i64 (i:Int)]∧m+i=h.ms.length∧g2=g) ?_ (n:=h.ms.length) (by omega) ⟨0,rfl,by omega,rfl⟩
 rintro m vs g2 ⟨i,rfl,hmi,rfl⟩
 rw [gd0,gd1]
 by_cases hi:i<h.ms.length
 ·have hlt:(i:Int)<h.ms.length:=by omega
  obtain⟨x,hx⟩:∃ x,h.ms[i]?=some x:=⟨_,List.getElem?_eq_getElem hi⟩
  obtain⟨qx,hix,hld⟩:=hms.2 i x hx
  have ld:=hld g2 (KpX.refl _ _)
  have his:=hin x (List.mem_of_getElem? hx)
  refine Ok.eq ?_ (by simp -implicitDefEqProofs only [C7,nilV_ptr,faP_ptr,Nat.zero_add,Option.bind_some,lw,hms.1,bin_lss,hlt,decide_true,condE_true]<;>rfl)
  refine ok_lp (frees_L2 W hy hl hx) ?_
  rintro _ _ _ he
  cases he
  rw [if_pos rfl,thenK_normal,gd0]
  refine(Ok.of (r:=(Ex.normal,[q,AV.int .i64 ((i+1:Nat):Int)],g2)) (.inl ⟨rfl,m - 1,by omega,i+1,rfl,by omega,rfl⟩)).eq ?_
  simp -implicitDefEqProofs only [nilV_ptr,faP_ptr,Nat.zero_add,Option.bind_some,W.pl3 0 _ rfl,arena_eq W,cl_some,rdC_some (f:=fun g=>ldS g (.ptr (some (K 3,3)))) (h:=g2) lw,clC_some,hix,rdC_some (f:=fun g=>ldS g (.ptr (some qx))) (h:=g2) ld,is_eq W.j.pm.al.ar,his,neq_bool,beq_self_eq_true,Bool.not_true,condE_false,bin_add,suc64 i (by omega)]
  rw [chk_more (same_int _ _) ld ld,chk_more hsw lw lw,chk_nil]
 ·have hlt : ¬ (i:Int)<h.ms.length:=by omega
  exact(Ok.of (r:=(Ex.exit 4,[q,AV.int .i64 (i:Int)],g2)) (.inr ⟨by simp,rfl⟩)).eq (by
   simp -implicitDefEqProofs only [C7,nilV_ptr,faP_ptr,Nat.zero_add,Option.bind_some,lw,hms.1,bin_lss,hlt,decide_false,condE_false])
end
section
variable {h0 g:Heap}{C D K:Nat→Nat}{i n N:Nat}{p:SC}{h:SH}
theorem frees_L0 {x1:AV}{xs:List Ac}(hx:AcsRd h0 x1 xs)(hl:xs.length≤80)(P:Pw h0 g C D K 0 0 p h)(hp:p.ph=0) :
  Ok (Du x1 (.ptr (some (K 3,0))) (.bool false) (.int .i64 0) g) fun s=>s.1 = .exit 0∧∃ p' h',Pw h0 s.2.2 C D K 100 100000 p' h'∧p'.ph=0:=by
 refine ok_loop (fun m vs g2=>∃ (i:Nat) (p':SC) (h':SH),vs = [.bool false,.int .i64 (i:Int)]∧m+i=xs.length∧Pw h0 g2 C D K i (i * 200) p' h'∧p'.ph=0) ?_ (n:=xs.length) (by omega) ⟨0,p,h,rfl,by omega,by simpa using P,hp⟩
 rintro m vs g2 ⟨i,p',h',rfl,hm,P',hp'⟩
 rw [gd0,gd1]
 have hx2:=hx.kp P'.k
 by_cases hi:i<xs.length
 ·have hlt:(i:Int)<xs.length:=by omega
  obtain⟨a,ha⟩:∃ a,xs[i]?=some a:=⟨_,List.getElem?_eq_getElem hi⟩
  obtain⟨sv,b,o,ix,la,hs,l0⟩:=hx2.at ha
  have skip:Ok (some (Ex.normal,[AV.bool false,.int .i64 ((i+1:Nat):Int)],g2):OutV) fun r=>(r.1 = .normal∧∃ m',m'<m∧∃ (i:Nat) (p':SC) (h':SH),r.2.1 = [.bool false,.int .i64 (i:Int)]∧m'+i=xs.length∧Pw h0 r.2.2 C D K i (i * 200) p' h'∧p'.ph=0)∨(r.1≠.normal∧(r.1 = .exit 0∧∃ p' h',Pw h0 r.2.2 C D K 100 100000 p' h'∧p'.ph=0)):=
   Ok.of (.inl ⟨rfl,m - 1,by omega,i+1,p',h',rfl,by omega,⟨P'.W,P'.k,P'.I,P'.B.mono (by omega) (by omega)⟩,hp'⟩)
  by_cases c1:a.op=1
  ·exact skip.eq (by simp -implicitDefEqProofs only [BH,hx2.lnL,Option.bind_some,bin_lss,hlt,decide_true,condE_true,ix,faP_ptr,Nat.add_zero,l0,neq_int,c1,Bool.not_true,gdW_ft,gQ_false,pickP_bool,Bool.false_eq_true,if_false,condE_false,bin_add,suc64 i (by omega)])
  by_cases c2:a.op=2
  ·exact skip.eq (by simp -implicitDefEqProofs only [BH,hx2.lnL,Option.bind_some,bin_lss,hlt,decide_true,decide_false,condE_true,ix,faP_ptr,Nat.add_zero,l0,neq_int,decide_eq_false c1,decide_eq_true c2,Bool.not_true,Bool.not_false,gdW_ft,gdW_tt,gQ_false,gQ_true,cl_some,pickP_bool,Bool.false_eq_true,if_false,if_true,condE_false,bin_add,suc64 i (by omega)])
  by_cases c3:a.op=3
  ·exact skip.eq (by simp -implicitDefEqProofs only [BH,hx2.lnL,Option.bind_some,bin_lss,hlt,decide_true,decide_false,condE_true,ix,faP_ptr,Nat.add_zero,l0,neq_int,decide_eq_false c1,decide_eq_false c2,decide_eq_true c3,Bool.not_true,Bool.not_false,gdW_ft,gdW_tt,gQ_false,gQ_true,cl_some,pickP_bool,Bool.false_eq_true,if_false,if_true,condE_false,bin_add,suc64 i (by omega)])
  refine Ok.eq ?_ (by simp -implicitDefEqProofs only [BH,hx2.lnL,Option.bind_some,bin_lss,hlt,decide_true,decide_false,condE_true,ix,faP_ptr,Nat.add_zero,l0,neq_int,c1,c2,c3,Bool.not_true,Bool.not_false,gdW_ft,gdW_tt,gQ_false,gQ_true,cl_some,pickP_bool,Bool.false_eq_true,if_false,if_true,la]<;>rfl)
  have hp3:=act_ph0 P'.I a hp' c1 c2 c3
  refine ok_cl (P:=fun s=>s.1 = .bool true∧Pw h0 s.2 C D K (i+1) (i * 200+i+64) (act sh7 p' p' h' a).2.1 (act sh7 p' p' h' a).2.2.2) ?_ ?_
  ·refine ok_cl (P'.act (by omega) (by omega) a hs) ?_
   rintro _ g3 ⟨rfl,P3⟩
   exact ok_val (v:=.bool true) (g:=g3) rfl ⟨rfl,P3⟩
  ·rintro _ g3 ⟨rfl,P3⟩
   simp only at P3
   refine(Ok.of (r:=(Ex.normal,[AV.bool false,.int .i64 ((i+1:Nat):Int)],g3)) (.inl ⟨rfl,m - 1,by omega,i+1,_,_,rfl,by omega,⟨P3.W,P3.k,P3.I,P3.B.mono (Nat.le_refl _) (by omega)⟩,hp3⟩)).eq (by
    simp -implicitDefEqProofs only [un_not,Bool.not_true,Option.bind_some,gdW_tt,gQ_true,cl_some,pickP_bool,if_true,condE_false,bin_add,suc64 i (by omega)])
 ·have hlt : ¬ (i:Int)<xs.length:=by omega
  exact(Ok.of (r:=(Ex.exit 0,[AV.bool false,.int .i64 (i:Int)],g2)) (.inr ⟨by simp,rfl,p',h',⟨P'.W,P'.k,P'.I,P'.B.mono (by omega) (by omega)⟩,hp'⟩)).eq (by
   simp -implicitDefEqProofs only [BH,hx2.lnL,Option.bind_some,bin_lss,hlt,decide_false,condE_false])
theorem cycleFrees_true {h:Heap}(hsub:Sub hQ1 h)(hn1:1≤h.next){sp:Int}{x1:AV}{xs:List Ac}(hx:AcsRd h x1 xs) :
  Ok (Ai (.int .i64 sp) x1 h) fun r=>r.1 = .bool true:=by
 have ht:=tab0_sub hsub hn1
 have haw:FJ h=some (.bool true,h):=quiet_pos hsub
 by_cases h8:sp < 8
 ·exact ok_val (v:=.bool true) (g:=h) (by simp -implicitDefEqProofs only [Ai,haw,cl_some,un_not,Bool.not_true,Option.bind_some,condE_false,bin_lss,h8,decide_true,gdW_tf,gQ_false,pickP_bool,if_true,condE_true]) rfl
 by_cases h12:12<sp
 ·have h12':sp > 12:=h12
  exact ok_val (v:=.bool true) (g:=h) (by simp -implicitDefEqProofs only [Ai,haw,cl_some,un_not,Bool.not_true,Option.bind_some,condE_false,bin_lss,bin_gtr,h8,h12',decide_true,decide_false,gdW_ff,gdW_tf,gQ_true,gQ_false,pickP_bool,Bool.false_eq_true,if_false,if_true,condE_true]) rfl
 have h12' : ¬ sp > 12:=h12
 by_cases hl:80<xs.length
 ·have hl':(xs.length:Int) > 80:=by omega
  exact ok_val (v:=.bool true) (g:=h) (by simp -implicitDefEqProofs only [Ai,haw,cl_some,un_not,Bool.not_true,Option.bind_some,condE_false,bin_lss,bin_gtr,h8,h12',hx.lnL,hl',decide_true,decide_false,gdW_ff,gQ_true,pickP_bool,Bool.false_eq_true,if_false,condE_true]) rfl
 have hl' : ¬ (xs.length:Int) > 80:=by omega
 refine Ok.eq ?_ (by simp -implicitDefEqProofs only [Ai,haw,cl_some,un_not,Bool.not_true,Option.bind_some,condE_false,bin_lss,bin_gtr,h8,h12',hx.lnL,hl',decide_false,gdW_ff,gQ_true,pickP_bool,Bool.false_eq_true,if_false]<;>rfl)
 obtain⟨N,rfl⟩:∃ N:Nat,sp=(N:Int):=⟨sp.toNat,by omega⟩
 refine ok_cl (begun_ok ht (N:=N) (by omega) (by omega)) ?_
 rintro _ g1 ⟨C,D,K,v,rfl,W,k⟩
 simp only at W k
 have P:Pw h g1 C D K 0 0 (sc0 N) hol0:=⟨⟨v,W⟩,k,ti_start (by omega) (by omega),bd_start N⟩
 refine Ok.eq ?_ (by simp -implicitDefEqProofs only [eql_ptr_nil,Option.bind_some,condE_false]<;>rfl)
 refine ok_lp (frees_L0 hx (by omega) P rfl) ?_
 rintro _ vs g2 ⟨rfl,p',h',P',hp⟩
 simp only at P'
 obtain⟨v',W'⟩:=P'.W
 have hsm:h'.sm:=fun j hj=>by have:=P'.B.L j;omega
 rw [if_pos rfl,thenK_normal]
 refine ok_cl (reached_ok W' P'.B.L (by omega)) ?_
 rintro y g3 ⟨R,RL,hRl,b,hy,s3,hb⟩
 simp only at hy s3
 have W3:=W'.addL s3 (L:=b.toList) (fun j hj=>⟨hb j (by simpa using hj),(hy.blk j (by simpa using hj)).1⟩)
 refine Ok.eq ?_ (by simp -implicitDefEqProofs only [nilV_ptr,faP_ptr,Nat.zero_add,Option.bind_some,W3.pl3 0 _ rfl,W3.pl3 2 _ rfl]<;>rfl)
 have hq:=P'.B.gq
 refine ok_cl (cstart_ok W3 hsm (by omega)) ?_
 rintro _ g4 ⟨rfl,v4,W4,k4⟩
 simp only at W4 k4
 rw [chk_nil]
 have I4:=start_q (h:=h') P'.iq (mu_wf ((clear_same _).wf P'.I.lv.wf))
 have hrd:∀ x,Rd_ ((p'.start h').2.fin sh7 h').l.ar h' x↔Rd_ p'.l.ar h' x:=fun x=>by rw [rd_fin P'.I.start x,rd_start]
 obtain⟨e0,I5,hfd⟩:=full_end P'.I hp
 refine ok_lp (cfin_loop W4 hsm I4 (by omega) 2 (b:=C6 (.ptr (some (K 3,0)))) (fun g p2 v2 W2=>by
  simp -implicitDefEqProofs only [C6,nilV_ptr,faP_ptr,Nat.zero_add,Option.bind_some,W2.pl3 0 _ rfl,W2.pl3 2 _ rfl]<;>rfl)) ?_
 rintro _ _ g5 ⟨rfl,v5,W5,k5,_⟩
 simp only at W5 k5
 rw [if_pos rfl,thenK_normal]
 have iy:Ird g5 (b.toList++Zr h) y R:=(ird_slb hy (X:=b.toList++Zr h) (fun j hj=>by simp [hj])).kp (k4.trans k5) (fun j hj=>hj)
 have hms:=P'.B.ms
 refine ok_lp (frees_L3 W5 iy (by omega) (by omega) (fun x hx=>?_) _) ?_
 ·have e:Fd ((p'.start h').2.fin sh7 h').l.ar x↔x∈R:=(hfd x).trans ((hrd x).trans (rd_rch.symm.trans (RL.mem x).symm))
  by_cases hc:x∈R
  ·rw [decide_eq_true hc];exact(is_find _ _).2 (e.2 hc)
  ·rw [decide_eq_false hc]
   cases hi:((p'.start h').2.fin sh7 h').l.ar.is x with
   | false=>rfl
   | true=>exact absurd (e.1 ((is_find _ _).1 hi)) hc
 ·rintro _ vs6 g6 rfl
  exact ok_val (v:=.bool true) (g:=g6) rfl rfl
end
end Go.Ab.F
