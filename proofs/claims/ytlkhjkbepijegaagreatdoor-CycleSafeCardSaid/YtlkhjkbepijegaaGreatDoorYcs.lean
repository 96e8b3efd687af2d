import Derived.Test.YtlkhjkbepijegaaGreatDoorYce
namespace Go.Ab.F
open Go Go.Ab
set_option linter.all false
set_option linter.all false
attribute [local congr] c_bind c_cl c_mk c_lp c_clC c_gQ c_gV c_condE c_thenK
section
variable {h0 g:Heap}{C D K:Nat→Nat}{v:Vb}{p r:SC}{h:SH}{T:List Shp}{Z:List Nat}
theorem safe_L0 (W:Wi g C D K v p r h T Z)(hf:∀ x,Gs h x→Fd p.l.ar x)(hs:h.sm){k:Nat}(hk:k < 4) :
  Ok (D6 (.ptr (some (K 3,0))) (.ptr (some (C 6,0))) (.int .i64 k) (.bool false) (.int .i64 0) g) fun s=>s=(.exit 4,[.bool false,.int .i64 ((h.L (k+1)).length:Int)],g):=by
 obtain⟨y,ly,hy⟩:=W.ls (k:=k+1) (by omega)
 have hI:Ird g (v.lb (k+1)).toList y (h.L (k+1)):=ird_slg hy (fun j hj=>by simp [hj])
 have hl:=hs (k+1) (by omega)
 refine ok_loop (fun m vs g2=>∃ i:Nat,vs = [.bool false,.int .i64 (i:Int)]∧m+i=(h.L (k+1)).length∧g2=g) ?_ (n:=(h.L (k+1)).length) (by omega) ⟨0,rfl,by omega,rfl⟩
 rintro m vs g2 ⟨i,rfl,hm,rfl⟩
 rw [gd0,gd1]
 by_cases hi:i<(h.L (k+1)).length
 ·have hlt:(i:Int)<(h.L (k+1)).length:=by omega
  obtain⟨x,hx⟩:∃ x,(h.L (k+1))[i]?=some x:=⟨_,List.getElem?_eq_getElem hi⟩
  obtain⟨q,hix,hld⟩:=hI.2 i x hx
  have ld:=hld g2 (KpX.refl _ _)
  have his:p.l.ar.is x=true:=(is_find _ _).2 (hf x (gs_at hk (List.mem_of_getElem? hx)))
  exact(Ok.of (r:=(Ex.normal,[AV.bool false,.int .i64 ((i+1:Nat):Int)],g2)) (.inl ⟨rfl,m - 1,by omega,i+1,rfl,by omega,rfl⟩)).eq (by
   simp -implicitDefEqProofs only [C7,nilV_ptr,faP_ptr,Nat.zero_add,Option.bind_some,W.pl3 2 _ rfl,iaS4 K hk,ly,hI.1,bin_lss,hlt,decide_true,condE_true,hix,ld,is_eq W.j.pm.al.ar,his,cl_some,un_not,Bool.not_true,condE_false,bin_add,suc64 i (by omega)])
 ·have hlt : ¬ (i:Int)<(h.L (k+1)).length:=by omega
  obtain rfl:i=(h.L (k+1)).length:=by omega
  exact(Ok.of (r:=(Ex.exit 4,[AV.bool false,.int .i64 ((h.L (k+1)).length:Int)],g2)) (.inr ⟨by simp,rfl⟩)).eq (by
   simp -implicitDefEqProofs only [C7,nilV_ptr,faP_ptr,Nat.zero_add,Option.bind_some,W.pl3 2 _ rfl,iaS4 K hk,ly,hI.1,bin_lss,hlt,decide_false,condE_false])
theorem safe_L1 (W:Wi g C D K v p r h T Z)(hf:∀ x,Gs h x→Fd p.l.ar x)(hs:h.sm) :
  Ok (D8 (.ptr (some (K 3,0))) (.ptr (some (C 6,0))) (.bool false) (.int .i64 0) g) fun s=>s.1 = .exit 2∧s.2.1.getD 0 .bot = .bool false∧s.2.2=g:=by
 refine ok_loop (fun m vs g2=>∃ i:Nat,vs = [.bool false,.int .i64 (i:Int)]∧m+i=4∧g2=g) ?_ (n:=4) (by omega) ⟨0,rfl,by omega,rfl⟩
 rintro m vs g2 ⟨i,rfl,hm,rfl⟩
 rw [gd0,gd1]
 by_cases hi:i < 4
 ·have hlt:(i:Int) < 4:=by omega
  refine Ok.eq ?_ (by simp -implicitDefEqProofs only [C9,bin_lss,hlt,decide_true,Option.bind_some,condE_true]<;>rfl)
  refine ok_lp (safe_L0 W hf hs hi) ?_
  rintro _ _ _ he
  cases he
  exact(Ok.of (r:=(Ex.normal,[AV.bool false,.int .i64 ((i+1:Nat):Int)],g2)) (.inl ⟨rfl,m - 1,by omega,i+1,rfl,by omega,rfl⟩)).eq (by
   simp -implicitDefEqProofs only [if_true,reduceCtorEq,if_false,thenK_normal,gd0,bin_add,suc64 i (by omega),Option.bind_some])
 ·have hlt : ¬ (i:Int) < 4:=by omega
  exact(Ok.of (r:=(Ex.exit 2,[AV.bool false,.int .i64 (i:Int)],g2)) (.inr ⟨by simp,rfl,rfl,rfl⟩)).eq (by
   simp -implicitDefEqProofs only [C9,bin_lss,hlt,decide_false,Option.bind_some,condE_false])
end
set_option linter.all false
attribute [local congr] c_bind c_cl c_mk c_lp c_clC c_gQ c_gV c_condE c_thenK
section
variable {h0 g:Heap}{C D K:Nat→Nat}{v:Vb}{p r:SC}{h:SH}{T:List Shp}{Z:List Nat}
theorem safe_L2 (W:Wi g C D K v p r h T Z){F:List Int}{b:Option Nat}{x:AV}(hx:SlB g b 1 x (wsC F) F.length)(hl:F.length≤64)(hf:∀ y∈F,Fd p.l.ar y)(q:AV) :
  Ok (D7 (.ptr (some (C 6,0))) x q (.int .i64 0) g) fun s=>s=(.exit 8,[q,.int .i64 (F.length:Int)],g):=by
 have hI:Ird g b.toList x F:=ird_slb hx (fun j hj=>by simp [hj])
 refine ok_loop (fun m vs g2=>∃ i:Nat,vs = [q,.int .i64 (i:Int)]∧m+i=F.length∧g2=g) ?_ (n:=F.length) (by omega) ⟨0,rfl,by omega,rfl⟩
 rintro m vs g2 ⟨i,rfl,hm,rfl⟩
 rw [gd0,gd1]
 by_cases hi:i<F.length
 ·have hlt:(i:Int)<F.length:=by omega
  obtain⟨y,hy⟩:∃ y,F[i]?=some y:=⟨_,List.getElem?_eq_getElem hi⟩
  obtain⟨q',hix,hld⟩:=hI.2 i y hy
  have ld:=hld g2 (KpX.refl _ _)
  have his:p.l.ar.is y=true:=(is_find _ _).2 (hf y (List.mem_of_getElem? hy))
  exact(Ok.of (r:=(Ex.normal,[q,AV.int .i64 ((i+1:Nat):Int)],g2)) (.inl ⟨rfl,m - 1,by omega,i+1,rfl,by omega,rfl⟩)).eq (by
   simp -implicitDefEqProofs only [C8,Option.bind_some,hI.1,bin_lss,hlt,decide_true,condE_true,hix,ld,is_eq W.j.pm.al.ar,his,cl_some,un_not,Bool.not_true,condE_false,bin_add,suc64 i (by omega)])
 ·have hlt : ¬ (i:Int)<F.length:=by omega
  obtain rfl:i=F.length:=by omega
  exact(Ok.of (r:=(Ex.exit 8,[q,AV.int .i64 (F.length:Int)],g2)) (.inr ⟨by simp,rfl⟩)).eq (by
   simp -implicitDefEqProofs only [C8,Option.bind_some,hI.1,bin_lss,hlt,decide_false,condE_false])
theorem safe_L3 (W:Wi g C D K v p r h sh7 Z){R:List Int}{b:Option Nat}{x:AV}(hx:SlB g b 1 x (wsC R) R.length)(hl:R.length≤32768)(hf:∀ z∈R,∀ y∈fieldsL sh7 p.l.ar z,Fd p.l.ar y) :
  Ok (D4 (.ptr (some (K 3,0))) (.ptr (some (C 6,0))) x (.bool false) (.int .i64 0) g) fun s=>s.1 = .exit 6∧s.2.1.getD 0 .bot = .bool false∧Same [] g s.2.2:=by
 refine ok_loop (fun m vs g2=>∃ i:Nat,vs = [.bool false,.int .i64 (i:Int)]∧m+i=R.length∧Same [] g g2) ?_ (n:=R.length) (by omega) ⟨0,rfl,by omega,Same.refl _ _⟩
 rintro m vs g2 ⟨i,rfl,hm,s⟩
 rw [gd0,gd1]
 have W2:=W.keep s
 have hx2:=hx.same s (fun j hj=>by simp)
 by_cases hi:i<R.length
 ·have hlt:(i:Int)<R.length:=by omega
  obtain⟨z,hz⟩:∃ z,R[i]?=some z:=⟨_,List.getElem?_eq_getElem hi⟩
  obtain⟨j,hj,ix,ld⟩:=lst_ld hx2 hz
  refine Ok.eq ?_ (by simp -implicitDefEqProofs only [DA,hx2.lnL,Option.bind_some,bin_lss,hlt,decide_true,condE_true,nilV_ptr,faP_ptr,Nat.zero_add,W2.pl3 0 _ rfl,marker_eq W2,cl_some,ix,rdC_some (f:=fun g=>ldS g (.ptr (some (j,i)))) (h:=g2) ld,clC_some]<;>rfl)
  refine ok_cl (fields_ok W2.j.pm z) ?_
  rintro y g3 ⟨b3,hy,s3,_⟩
  simp only at hy s3
  have W3:=W2.keep s3
  rw [chk_two (same_int _ _) ld ld]
  have hfl:=fieldsL_len sh7 p.l.ar z
  refine ok_lp (safe_L2 W3 hy (by omega) (hf z (List.mem_of_getElem? hz)) (.bool false)) ?_
  rintro _ _ _ he
  cases he
  exact(Ok.of (r:=(Ex.normal,[AV.bool false,.int .i64 ((i+1:Nat):Int)],g3)) (.inl ⟨rfl,m - 1,by omega,i+1,rfl,by omega,s.trans s3⟩)).eq (by
   simp -implicitDefEqProofs only [if_true,reduceCtorEq,if_false,thenK_normal,gd0,bin_add,suc64 i (by omega),Option.bind_some])
 ·have hlt : ¬ (i:Int)<R.length:=by omega
  exact(Ok.of (r:=(Ex.exit 6,[AV.bool false,.int .i64 (i:Int)],g2)) (.inr ⟨by simp,rfl,rfl,s⟩)).eq (by
   simp -implicitDefEqProofs only [DA,hx2.lnL,Option.bind_some,bin_lss,hlt,decide_false,condE_false])
end
set_option linter.all false
attribute [local congr] c_bind c_cl c_mk c_lp c_clC c_gQ c_gV c_condE c_thenK
section
variable {h0 g:Heap}{C D K:Nat→Nat}{i n:Nat}{p:SC}{h:SH}
theorem Pw.keep {g':Heap}(P:Pw h0 g C D K i n p h)(s:Same [] g g'):Pw h0 g' C D K i n p h:=by
 obtain⟨v,W⟩:=P.W
 exact⟨⟨v,W.keep s⟩,P.k.trans (KpX.same s),P.I,P.B⟩
theorem safe_L4 {x1:AV}{xs:List Ac}(hx:AcsRd h0 x1 xs)(hl:xs.length≤120)(P:Pw h0 g C D K 0 0 p h) :
  Ok (D3 x1 (.ptr (some (K 3,0))) (.bool false) (.int .i64 0) g) fun s=>s.1 = .exit 0:=by
 refine ok_loop (fun m vs g2=>∃ (i:Nat) (p':SC) (h':SH),vs = [.bool false,.int .i64 (i:Int)]∧m+i=xs.length∧Pw h0 g2 C D K i (i * 200) p' h') ?_ (n:=xs.length) (by omega) ⟨0,p,h,rfl,by omega,by simpa using P⟩
 rintro m vs g2 ⟨i,p',h',rfl,hm,P'⟩
 rw [gd0,gd1]
 have hx2:=hx.kp P'.k
 by_cases hi:i<xs.length
 ·have hlt:(i:Int)<xs.length:=by omega
  obtain⟨a,ha⟩:∃ a,xs[i]?=some a:=⟨_,List.getElem?_eq_getElem hi⟩
  obtain⟨sv,b,o,ix,la,hs,_⟩:=hx2.at ha
  refine Ok.eq ?_ (by simp -implicitDefEqProofs only [DC,hx2.lnL,Option.bind_some,bin_lss,hlt,decide_true,condE_true,ix,la]<;>rfl)
  refine ok_cl (P'.act (by omega) (by omega) a hs) ?_
  rintro _ g3 ⟨rfl,P3⟩
  simp only at P3
  generalize (act sh7 p' p' h' a).2.1=p3 at *
  generalize (act sh7 p' p' h' a).2.2.2=h3 at *
  obtain⟨v3,W3⟩:=P3.W
  have hsm:h3.sm:=fun j hj=>by have:=P3.B.L j;omega
  refine Ok.eq ?_ (by simp -implicitDefEqProofs only [un_not,Bool.not_true,Option.bind_some,condE_false,nilV_ptr,faP_ptr,Nat.zero_add,W3.pl3 0 _ rfl,arena_eq W3,cl_some]<;>rfl)
  refine ok_lp (safe_L1 W3 P3.I.gf hsm) ?_
  rintro _ vs4 g4 ⟨rfl,hv4,rfl⟩
  simp only at hv4
  rw [if_pos rfl,thenK_normal]
  refine ok_cl (reached_ok W3 P3.B.L (by omega)) ?_
  rintro y g5 ⟨R,RL,hRl,b5,hy,s5,_⟩
  simp only at hy s5
  have W5:=W3.keep s5
  rw [hv4]
  refine ok_lp (safe_L3 W5 hy hRl fun z hz y hy=>P3.I.cl z (rd_rch.1 ((RL.mem z).1 hz)) y hy) ?_
  rintro _ vs6 g6 ⟨rfl,hv6,s6⟩
  simp only at hv6 s6
  have P6:=(P3.keep s5).keep s6
  refine(Ok.of (r:=(Ex.normal,[AV.bool false,.int .i64 ((i+1:Nat):Int)],g6)) (.inl ⟨rfl,m - 1,by omega,i+1,p3,h3,rfl,by omega,P6.W,P6.k,P6.I,P6.B.mono (Nat.le_refl _) (by omega)⟩)).eq (by
   simp -implicitDefEqProofs only [if_true,reduceCtorEq,if_false,thenK_normal,hv6,Option.bind_some,bin_add,suc64 i (by omega)])
 ·have hlt : ¬ (i:Int)<xs.length:=by omega
  exact(Ok.of (r:=(Ex.exit 0,[AV.bool false,.int .i64 (i:Int)],g2)) (.inr ⟨by simp,rfl⟩)).eq (by
   simp -implicitDefEqProofs only [DC,hx2.lnL,Option.bind_some,bin_lss,hlt,decide_false,condE_false])
theorem cycleSafe_true {h:Heap}(hsub:Sub hQ1 h)(hn1:1≤h.next){sp:Int}{x1:AV}{xs:List Ac}(hx:AcsRd h x1 xs) :
  Ok (Aw (.int .i64 sp) x1 h) fun r=>r.1 = .bool true:=by
 have ht:=tab0_sub hsub hn1
 have haw:Fg h=some (.bool true,h):=quiet_pos hsub
 by_cases h8:sp < 8
 ·exact ok_val (v:=.bool true) (g:=h) (by simp -implicitDefEqProofs only [Aw,haw,cl_some,un_not,Bool.not_true,Option.bind_some,condE_false,bin_lss,h8,decide_true,gdW_tf,gQ_false,pickP_bool,if_true,condE_true]) rfl
 by_cases h12:12<sp
 ·have h12':sp > 12:=h12
  exact ok_val (v:=.bool true) (g:=h) (by simp -implicitDefEqProofs only [Aw,haw,cl_some,un_not,Bool.not_true,Option.bind_some,condE_false,bin_lss,bin_gtr,h8,h12',decide_true,decide_false,gdW_ff,gdW_tf,gQ_true,gQ_false,pickP_bool,Bool.false_eq_true,if_false,if_true,condE_true]) rfl
 have h12' : ¬ sp > 12:=h12
 by_cases hl:120<xs.length
 ·have hl':(xs.length:Int) > 120:=by omega
  exact ok_val (v:=.bool true) (g:=h) (by simp -implicitDefEqProofs only [Aw,haw,cl_some,un_not,Bool.not_true,Option.bind_some,condE_false,bin_lss,bin_gtr,h8,h12',hx.lnL,hl',decide_true,decide_false,gdW_ff,gQ_true,pickP_bool,Bool.false_eq_true,if_false,condE_true]) rfl
 have hl' : ¬ (xs.length:Int) > 120:=by omega
 refine Ok.eq ?_ (by simp -implicitDefEqProofs only [Aw,haw,cl_some,un_not,Bool.not_true,Option.bind_some,condE_false,bin_lss,bin_gtr,h8,h12',hx.lnL,hl',decide_false,gdW_ff,gQ_true,pickP_bool,Bool.false_eq_true,if_false]<;>rfl)
 obtain⟨N,rfl⟩:∃ N:Nat,sp=(N:Int):=⟨sp.toNat,by omega⟩
 refine ok_cl (begun_ok ht (N:=N) (by omega) (by omega)) ?_
 rintro _ g1 ⟨C,D,K,v,rfl,W,k⟩
 simp only at W k
 have P:Pw h g1 C D K 0 0 (sc0 N) hol0:=⟨⟨v,W⟩,k,ti_start (by omega) (by omega),bd_start N⟩
 refine Ok.eq ?_ (by simp -implicitDefEqProofs only [eql_ptr_nil,Option.bind_some,condE_false]<;>rfl)
 refine ok_lp (safe_L4 hx (by omega) P) ?_
 rintro _ vs g2 rfl
 exact ok_val (v:=.bool true) (g:=g2) rfl rfl
end
end Go.Ab.F
