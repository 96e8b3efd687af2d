import Derived.Test.YtlkhjkbepijegaaGreatDoorYev
import Derived.Test.YtlkhjkbepijegaaGreatDoorYce
import Derived.Test.YtlkhjkbepijegaaGreatDoorRfa
namespace Go.Ab.F
open Go Go.Ab
set_option linter.all false
set_option linter.all false
attribute [local congr] c_bind c_cl c_mk c_lp c_clC c_gQ c_gV c_condE c_thenK
theorem tot_le (a:PAr):∀ k,tot a k≤k * 64
 | 0=>by simp [tot]
 | k+1=>by
  rw [tot]
  have:=tot_le a k
  have:ones (a.taken (k:Int))≤64:=cnt_le _ _
  omega
theorem ones0:ones 0=0:=by decide
section
variable {h0 g:Heap}{C D K:Nat→Nat}{v:Vb}{p r:SC}{h:SH}{T:List Shp}{Z:List Nat}
theorem whole_L1 (W:Wi g C D K v p r h T Z){N:Nat}(h1:1≤N)(h2:N≤512) :
  Ok (Du (.int .i64 N) (.ptr (some (K 3,0))) (.int .i64 0) (.int .i64 1) g) fun s=>s=(.exit 2,[.int .i64 (tot p.l.ar N),.int .i64 N],g):=by
 refine ok_loop (fun m vs g2=>∃ i:Nat,vs = [.int .i64 (tot p.l.ar i),.int .i64 (i:Int)]∧m+i=N∧1≤i∧g2=g) ?_ (n:=N - 1) (by omega) ⟨1,by
  have h1:p.l.ar.taken ((0:Nat):Int)=0:=by
   have hn : ¬ p.l.ar.has 0:=fun hh=>by have:=hh.1;omega
   have hc:p.l.ar.cls ((0:Nat):Int) = -1:=by unfold PAr.cls;rw [if_neg (by simpa using hn)]
   unfold PAr.taken;rw [if_pos hc]
  have:tot p.l.ar 1=0:=by rw [tot,tot,h1];exact ones0
  rw [this];rfl,by omega,by omega,rfl⟩
 rintro m vs g2 ⟨i,rfl,hm,hi1,rfl⟩
 rw [gd0,gd1]
 by_cases hi:i<N
 ·have hlt:(i:Int)<(N:Int):=by omega
  have hl:=tot_le p.l.ar i
  have hl2:=tot_le p.l.ar (i+1)
  have e:((tot p.l.ar i:Nat):Int)+(ones (p.l.ar.taken (i:Int)):Int)=((tot p.l.ar (i+1):Nat):Int):=by rw [tot];omega
  refine Ok.eq ?_ (by simp -implicitDefEqProofs only [C0,bin_lss,hlt,decide_true,Option.bind_some,condE_true,nilV_ptr,faP_ptr,Nat.zero_add,W.pl3 0 _ rfl,arena_eq W,cl_some,taken_eq W.j.pm.al.ar]<;>rfl)
  refine ok_cl (rones_ok (p.l.ar.taken (i:Int)) g2) ?_
  rintro _ _ he
  cases he
  have hw:IntKind.i64.wrap (((tot p.l.ar (i+1):Nat):Int))=((tot p.l.ar (i+1):Nat):Int):=wrap_i64 (by omega) (by omega)
  exact(Ok.of (r:=(.normal,[.int .i64 (tot p.l.ar (i+1)),.int .i64 ((i+1:Nat):Int)],g2)) (.inl ⟨rfl,m - 1,by omega,i+1,rfl,by omega,by omega,rfl⟩)).eq (by
   simp -implicitDefEqProofs only [bin_add,e,hw,Option.bind_some,suc64 i (by omega)])
 ·have hlt : ¬ (i:Int)<(N:Int):=by omega
  obtain rfl:i=N:=by omega
  exact(Ok.of (r:=(.exit 2,[.int .i64 (tot p.l.ar i),.int .i64 (i:Int)],g2)) (.inr ⟨by simp,rfl⟩)).eq (by
   simp -implicitDefEqProofs only [C0,bin_lss,hlt,decide_false,Option.bind_some,condE_false])
end
section
variable {h0 g:Heap}{C D K:Nat→Nat}{i n N:Nat}{p:SC}{h:SH}
theorem Pw.iq (P:Pw h0 g C D K i n p h):Iq (n+32768) p:=⟨by have:=P.B.gq;omega,fun _=>by have:=P.B.gq;have:=mu_wf P.I.lv.wf;omega⟩
theorem wholeN_L0 {x1:AV}{xs:List Ac}(hx:AcsRd h0 x1 xs)(hl:xs.length≤100)(P:Pw h0 g C D K 0 0 p h)(hN:p.l.ar.sp.length=N) :
  Ok (Dx x1 (.ptr (some (K 3,0))) (.bool false) (.int .i64 0) g) fun s=>s.1 = .exit 0∧∃ p' h',Pw h0 s.2.2 C D K 100 100000 p' h'∧p'.l.ar.sp.length=N:=by
 refine ok_loop (fun m vs g2=>∃ (i:Nat) (p':SC) (h':SH),vs = [.bool false,.int .i64 (i:Int)]∧m+i=xs.length∧Pw h0 g2 C D K i (i * 200) p' h'∧p'.l.ar.sp.length=N) ?_ (n:=xs.length) (by omega) ⟨0,p,h,rfl,by omega,by simpa using P,hN⟩
 rintro m vs g2 ⟨i,p',h',rfl,hm,P',hN'⟩
 rw [gd0,gd1]
 have hx2:=hx.kp P'.k
 by_cases hi:i<xs.length
 ·have hlt:(i:Int)<xs.length:=by omega
  obtain⟨a,ha⟩:∃ a,xs[i]?=some a:=⟨_,List.getElem?_eq_getElem hi⟩
  obtain⟨sv,b,o,ix,la,hs,_⟩:=hx2.at ha
  refine Ok.eq ?_ (by simp -implicitDefEqProofs only [Cz,hx2.lnL,Option.bind_some,bin_lss,hlt,decide_true,condE_true,ix,la]<;>rfl)
  have hN3:=(act_len P'.I a).trans hN'
  refine ok_cl (P'.act (by omega) (by omega) a hs) ?_
  rintro _ g3 ⟨rfl,P3⟩
  simp only at P3
  refine(Ok.of (r:=(Ex.normal,[AV.bool false,.int .i64 ((i+1:Nat):Int)],g3)) (.inl ⟨rfl,m - 1,by omega,i+1,_,_,rfl,by omega,⟨P3.W,P3.k,P3.I,P3.B.mono (Nat.le_refl _) (by omega)⟩,hN3⟩)).eq (by
   simp -implicitDefEqProofs only [un_not,Bool.not_true,Option.bind_some,condE_false,bin_add,suc64 i (by omega)])
 ·have hlt : ¬ (i:Int)<xs.length:=by omega
  exact(Ok.of (r:=(Ex.exit 0,[AV.bool false,.int .i64 (i:Int)],g2)) (.inr ⟨by simp,rfl,p',h',⟨P'.W,P'.k,P'.I,P'.B.mono (by omega) (by omega)⟩,hN'⟩)).eq (by
   simp -implicitDefEqProofs only [Cz,hx2.lnL,Option.bind_some,bin_lss,hlt,decide_false,condE_false])
theorem cycleWhole_true {h:Heap}(hsub:Sub hQ1 h)(hn1:1≤h.next){sp:Int}{x1:AV}{xs:List Ac}(hx:AcsRd h x1 xs) :
  Ok (Ak (.int .i64 sp) x1 h) fun r=>r.1 = .bool true:=by
 have ht:=tab0_sub hsub hn1
 have haw:Fh h=some (.bool true,h):=quiet_pos hsub
 by_cases h8:sp < 8
 ·exact ok_val (v:=.bool true) (g:=h) (by simp -implicitDefEqProofs only [Ak,haw,cl_some,un_not,Bool.not_true,Option.bind_some,condE_false,bin_lss,h8,decide_true,gdW_tf,gQ_false,pickP_bool,if_true,condE_true]) rfl
 by_cases h12:12<sp
 ·have h12':sp > 12:=h12
  exact ok_val (v:=.bool true) (g:=h) (by simp -implicitDefEqProofs only [Ak,haw,cl_some,un_not,Bool.not_true,Option.bind_some,condE_false,bin_lss,bin_gtr,h8,h12',decide_true,decide_false,gdW_ff,gdW_tf,gQ_true,gQ_false,pickP_bool,Bool.false_eq_true,if_false,if_true,condE_true]) rfl
 have h12' : ¬ sp > 12:=h12
 by_cases hl:100<xs.length
 ·have hl':(xs.length:Int) > 100:=by omega
  exact ok_val (v:=.bool true) (g:=h) (by simp -implicitDefEqProofs only [Ak,haw,cl_some,un_not,Bool.not_true,Option.bind_some,condE_false,bin_lss,bin_gtr,h8,h12',hx.lnL,hl',decide_true,decide_false,gdW_ff,gQ_true,pickP_bool,Bool.false_eq_true,if_false,condE_true]) rfl
 have hl' : ¬ (xs.length:Int) > 100:=by omega
 refine Ok.eq ?_ (by simp -implicitDefEqProofs only [Ak,haw,cl_some,un_not,Bool.not_true,Option.bind_some,condE_false,bin_lss,bin_gtr,h8,h12',hx.lnL,hl',decide_false,gdW_ff,gQ_true,pickP_bool,Bool.false_eq_true,if_false]<;>rfl)
 obtain⟨N,rfl⟩:∃ N:Nat,sp=(N:Int):=⟨sp.toNat,by omega⟩
 refine ok_cl (begun_ok ht (N:=N) (by omega) (by omega)) ?_
 rintro _ g1 ⟨C,D,K,v,rfl,W,k⟩
 simp only at W k
 have P:Pw h g1 C D K 0 0 (sc0 N) hol0:=⟨⟨v,W⟩,k,ti_start (by omega) (by omega),bd_start N⟩
 refine Ok.eq ?_ (by simp -implicitDefEqProofs only [eql_ptr_nil,Option.bind_some,condE_false]<;>rfl)
 refine ok_lp (wholeN_L0 (N:=N) hx (by omega) P (by simp [sc0,newA])) ?_
 rintro _ vs g2 ⟨rfl,p',h',P',hN⟩
 simp only at P'
 obtain⟨v',W'⟩:=P'.W
 have hsm:h'.sm:=fun j hj=>by have:=P'.B.L j;omega
 rw [if_pos rfl,thenK_normal]
 refine ok_cl (reached_ok W' P'.B.L (by omega)) ?_
 rintro y g3 ⟨R,RL,hRl,b,hy,s3,hb⟩
 simp only at hy s3
 have W3:=W'.addL s3 (L:=b.toList) (fun j hj=>⟨hb j (by simpa using hj),(hy.blk j (by simpa using hj)).1⟩)
 refine Ok.eq ?_ (by simp -implicitDefEqProofs only [nilV_ptr,faP_ptr,Nat.zero_add,Option.bind_some,W3.pl3 0 _ rfl,W3.pl3 2 _ rfl]<;>rfl)
 refine ok_cl (cwhole_ok W3 hsm P'.iq (by omega)) ?_
 rintro _ g4 ⟨rfl,v4,W4,k4⟩
 simp only at W4 k4
 rw [chk_nil]
 have hN4:=(whole_len P'.I).trans hN
 obtain⟨e0,I4,hfd⟩:=whole_end P'.I
 have hrd:=rd_whole P'.I
 generalize p'.whole sh7 h'=p4 at *
 refine ok_lp (whole_L1 W4 (N:=N) (by omega) (by omega)) ?_
 rintro _ _ _ he
 cases he
 rw [if_pos rfl,thenK_normal,gd0]
 have hcnt:tot p4.l.ar N=R.length:=by
  rw [← hN4]
  exact found_count I4.lv.wf RL.nd fun x=>(hfd x).trans ((hrd x).trans (rd_rch.symm.trans (RL.mem x).symm))
 have iy:Ird g4 (b.toList++Zr h) y R:=(ird_slb hy (X:=b.toList++Zr h) (fun j hj=>by simp [hj])).kp k4 (fun j hj=>hj)
 refine Ok.eq ?_ (by simp -implicitDefEqProofs only [hy.lnL,Option.bind_some,hcnt,eql_int,decide_true,gdW_tt,gQ_true,cl_some]<;>rfl)
 refine ok_cl (P:=fun s=>Back g4 s.2 s.1 R) ?_ ?_
 ·refine ok_cl (reached_ok W4 P'.B.L (by omega)) ?_
  rintro y2 g5 ⟨R2,RL2,_,hB⟩
  have e:R2=R:=sorted_ext RL2.so RL.so fun x=>(RL2.mem x).trans (rd_rch.trans ((hrd x).trans (rd_rch.symm.trans (RL.mem x).symm)))
  subst e
  exact ok_val (v:=y2) (g:=g5) rfl hB
 ·rintro y2 g5 ⟨b2,hy2,s5,hb2⟩
  simp only at hy2 s5
  have W5:=W4.keep s5
  refine ok_cl (P:=fun s=>s=(.bool true,g5)) ?_ ?_
  ·refine ok_cl (nums_ok (X:=b2.toList++(b.toList++Zr h)) (ird_slb hy2 (fun j hj=>by simp [hj])) (iy.kp (KpX.same s5) (fun j hj=>List.mem_append_right _ hj)) (by omega)) ?_
   rintro _ _ he
   cases he
   exact ok_val rfl rfl
  ·rintro _ _ he
   cases he
   exact ok_val (v:=.bool true) (g:=g5) (by simp -implicitDefEqProofs only [pickP_bool,if_true,Option.bind_some,gdW_tt,gQ_true,cl_some,nilV_ptr,faP_ptr,Nat.zero_add,W5.pl3 0 _ rfl,phase_eq W5,e0,eql_int,decide_true]) rfl
end
end Go.Ab.F
