import Derived.Test.YtlkhjkbepijegaaGreatDoorYev
import Derived.Test.YtlkhjkbepijegaaGreatDoorYce
namespace Go.Ab.F
open Go Go.Ab
set_option linter.all false
set_option linter.all false
attribute [local congr] c_bind c_cl c_mk c_lp c_clC c_gQ c_gV c_condE c_thenK
section
variable {h0 g:Heap}{C D K:Nat→Nat}{i n N:Nat}{p:SC}{h:SH}
theorem ends_L0 {x1:AV}{xs:List Ac}(hx:AcsRd h0 x1 xs)(hl:xs.length≤60)(P:Pw h0 g C D K 0 0 p h)(hp:p.ph=0)(hd:p.dn=0)(hN:p.l.ar.sp.length=N)(hnd:p.gq.Nodup) :
  Ok (Do x1 (.ptr (some (K 3,0))) (.bool false) (.int .i64 0) g) fun s=>s.1 = .exit 0∧s.2.1.getD 0 .bot = .bool false∧∃ p' h',Pw h0 s.2.2 C D K 100 100000 p' h'∧p'.ph=0∧p'.dn=0∧p'.l.ar.sp.length=N∧p'.gq.Nodup:=by
 refine ok_loop (fun m vs g2=>∃ (i:Nat) (p':SC) (h':SH),vs = [.bool false,.int .i64 (i:Int)]∧m+i=xs.length∧Pw h0 g2 C D K i (i * 200) p' h'∧p'.ph=0∧p'.dn=0∧p'.l.ar.sp.length=N∧p'.gq.Nodup) ?_ (n:=xs.length) (by omega) ⟨0,p,h,rfl,by omega,by simpa using P,hp,hd,hN,hnd⟩
 rintro m vs g2 ⟨i,p',h',rfl,hm,P',hp',hd',hN',hnd'⟩
 rw [gd0,gd1]
 have hx2:=hx.kp P'.k
 by_cases hi:i<xs.length
 ·have hlt:(i:Int)<xs.length:=by omega
  obtain⟨a,ha⟩:∃ a,xs[i]?=some a:=⟨_,List.getElem?_eq_getElem hi⟩
  obtain⟨sv,b,o,ix,la,hs,l0⟩:=hx2.at ha
  have skip:Ok (some (Ex.normal,[AV.bool false,.int .i64 ((i+1:Nat):Int)],g2):OutV) fun r=>(r.1 = .normal∧∃ m',m'<m∧∃ (i:Nat) (p':SC) (h':SH),r.2.1 = [.bool false,.int .i64 (i:Int)]∧m'+i=xs.length∧Pw h0 r.2.2 C D K i (i * 200) p' h'∧p'.ph=0∧p'.dn=0∧p'.l.ar.sp.length=N∧p'.gq.Nodup)∨(r.1≠.normal∧(r.1 = .exit 0∧r.2.1.getD 0 .bot = .bool false∧∃ p' h',Pw h0 r.2.2 C D K 100 100000 p' h'∧p'.ph=0∧p'.dn=0∧p'.l.ar.sp.length=N∧p'.gq.Nodup)):=
   Ok.of (.inl ⟨rfl,m - 1,by omega,i+1,p',h',rfl,by omega,⟨P'.W,P'.k,P'.I,P'.B.mono (by omega) (by omega)⟩,hp',hd',hN',hnd'⟩)
  by_cases c1:a.op=1
  ·exact skip.eq (by simp -implicitDefEqProofs only [Ax,hx2.lnL,Option.bind_some,bin_lss,hlt,decide_true,condE_true,ix,faP_ptr,Nat.add_zero,l0,neq_int,decide_eq_true c1,Bool.not_true,gdW_ft,gQ_false,pickP_bool,Bool.false_eq_true,if_false,condE_false,bin_add,suc64 i (by omega)])
  by_cases c2:a.op=2
  ·exact skip.eq (by simp -implicitDefEqProofs only [Ax,hx2.lnL,Option.bind_some,bin_lss,hlt,decide_true,decide_false,condE_true,ix,faP_ptr,Nat.add_zero,l0,neq_int,decide_eq_false c1,decide_eq_true c2,Bool.not_true,Bool.not_false,gdW_ft,gdW_tt,gQ_false,gQ_true,cl_some,pickP_bool,Bool.false_eq_true,if_false,if_true,condE_false,bin_add,suc64 i (by omega)])
  by_cases c3:a.op=3
  ·exact skip.eq (by simp -implicitDefEqProofs only [Ax,hx2.lnL,Option.bind_some,bin_lss,hlt,decide_true,decide_false,condE_true,ix,faP_ptr,Nat.add_zero,l0,neq_int,decide_eq_false c1,decide_eq_false c2,decide_eq_true c3,Bool.not_true,Bool.not_false,gdW_ft,gdW_tt,gQ_false,gQ_true,cl_some,pickP_bool,Bool.false_eq_true,if_false,if_true,condE_false,bin_add,suc64 i (by omega)])
  by_cases c8:a.op=8
  ·exact skip.eq (by simp -implicitDefEqProofs only [Ax,hx2.lnL,Option.bind_some,bin_lss,hlt,decide_true,decide_false,condE_true,ix,faP_ptr,Nat.add_zero,l0,neq_int,decide_eq_false c1,decide_eq_false c2,decide_eq_false c3,decide_eq_true c8,Bool.not_true,Bool.not_false,gdW_ft,gdW_tt,gQ_false,gQ_true,cl_some,pickP_bool,Bool.false_eq_true,if_false,if_true,condE_false,bin_add,suc64 i (by omega)])
  refine Ok.eq ?_ (by simp -implicitDefEqProofs only [Ax,hx2.lnL,Option.bind_some,bin_lss,hlt,decide_true,decide_false,condE_true,ix,faP_ptr,Nat.add_zero,l0,neq_int,decide_eq_false c1,decide_eq_false c2,decide_eq_false c3,decide_eq_false c8,Bool.not_true,Bool.not_false,gdW_ft,gdW_tt,gQ_false,gQ_true,cl_some,pickP_bool,Bool.false_eq_true,if_false,if_true,la]<;>rfl)
  obtain⟨hp3,hd3⟩:=act_ph (p:=p') (h:=h') a c1 c2 c3 c8
  have hN3:=(act_len P'.I a).trans hN'
  have hnd3:=(act_ev P'.I a c8).ev.nd hnd'
  rw [hp'] at hp3
  rw [hd'] at hd3
  refine ok_cl (P:=fun s=>s.1 = .bool true∧Pw h0 s.2 C D K (i+1) (i * 200+i+64) (act sh7 p' p' h' a).2.1 (act sh7 p' p' h' a).2.2.2) ?_ ?_
  ·refine ok_cl (P'.act (by omega) (by omega) a hs) ?_
   rintro _ g3 ⟨rfl,P3⟩
   exact ok_val (v:=.bool true) (g:=g3) rfl ⟨rfl,P3⟩
  ·rintro _ g3 ⟨rfl,P3⟩
   simp only at P3
   refine(Ok.of (r:=(Ex.normal,[AV.bool false,.int .i64 ((i+1:Nat):Int)],g3)) (.inl ⟨rfl,m - 1,by omega,i+1,_,_,rfl,by omega,⟨P3.W,P3.k,P3.I,P3.B.mono (Nat.le_refl _) (by omega)⟩,hp3,hd3,hN3,hnd3⟩)).eq (by
    simp -implicitDefEqProofs only [un_not,Bool.not_true,Option.bind_some,gdW_tt,gQ_true,cl_some,pickP_bool,if_true,condE_false,bin_add,suc64 i (by omega)])
 ·have hlt : ¬ (i:Int)<xs.length:=by omega
  exact(Ok.of (r:=(Ex.exit 0,[AV.bool false,.int .i64 (i:Int)],g2)) (.inr ⟨by simp,rfl,rfl,p',h',⟨P'.W,P'.k,P'.I,P'.B.mono (by omega) (by omega)⟩,hp',hd',hN',hnd'⟩)).eq (by
   simp -implicitDefEqProofs only [Ax,hx2.lnL,Option.bind_some,bin_lss,hlt,decide_false,condE_false])
end
section
variable {h0 g:Heap}{C D K:Nat→Nat}{v:Vb}{p r:SC}{h:SH}{Z:List Nat}
theorem ends_j0 (W:Wi g C D K v p r h sh7 Z)(hs:h.sm)(hq:p.gq.length≤2 ^ 29){n:Nat}(hn:n≤2 ^ 40) :
  Ok (BL (.ptr (some (K 3,0))) (.bool false) (.int .i64 n) g) fun s=>s.1 = .normal∧s.2.1 = [.bool false,.int .i64 ((n+1:Nat):Int)]∧∃ v',Wi s.2.2 C D K v' (p.step sh7 h).2 r h sh7 Z∧KpX Z g s.2.2:=by
 refine Ok.eq ?_ (by simp -implicitDefEqProofs only [BL,nilV_ptr,faP_ptr,Nat.zero_add,Option.bind_some,W.pl3 0 _ rfl,W.pl3 2 _ rfl]<;>rfl)
 refine ok_cl (cstep_ok W hs (by omega)) ?_
 rintro _ g3 ⟨rfl,v2,W2,k2⟩
 exact(Ok.of (r:=(Ex.normal,[AV.bool false,.int .i64 ((n+1:Nat):Int)],g3)) ⟨rfl,rfl,v2,W2,k2⟩).eq (by
  simp -implicitDefEqProofs only [chk_nil,bin_add,Option.bind_some,suc64 n (by omega)])
structure Eg (h0 g:Heap)(C D K:Nat→Nat)(n M:Nat)(p r:SC)(h:SH):Prop where
 W:∃ v,Wi g C D K v p r h sh7 (Zr h0)
 k:KpX (Zr h0) h0 g
 I:TI p h
 L:∀ i,(h.L i).length≤100+n
 ms:h.ms.length≤100+n
 m:n+p.meas h≤M
 d0:p.ph≠0→p.dn=0
 d1:p.ph=0→p.dn=1
 rq:r.gq = []
 rb:r.bl.length≤4
 rp:r.ph=0
 ru:U0 r.l
 r1:1≤r.l.un.length
theorem gq_meas {p:SC}{h:SH}(I:TI p h):p.gq.length≤p.meas h:=by
 cases hs:shB p.ph with
 | false=>rw [I.gq hs];simp
 | true=>unfold SC.meas;rw [if_pos hs];omega
theorem Eg.sz {n M:Nat}(E:Eg h0 g C D K n M p r h)(hM:M≤2 ^ 19):Sz3 p r h∧p.gq.length≤2 ^ 27∧r.gq.length≤2 ^ 27:=by
 have hg:=gq_meas E.I
 have hm:=E.m
 have S:=E.I.sz (m:=100+n) (n:=M) ⟨E.L,E.ms,by omega⟩ (by omega) (by omega)
 have h1:=E.rq
 have h2:=E.rb
 refine⟨{ sm:=S.sm,qp:=S.qp,qr:=by rw [h1];simp,bp:=S.bp,br:=by omega,up:=S.up,ur:=E.ru,le:=E.r1,php:=S.php,phr:=by unfold PhOk;rw [E.rp];omega,nd:=S.nd,ms:=S.ms,wf:=S.wf },by omega,by rw [h1];simp⟩
theorem ends_step {n M : Nat} {g' : Heap} {v' : Vb} (E : Eg h0 g C D K n M p r h) (hp : p.ph ≠ 0) (W : Wi g' C D K v' (p.step sh7 h).2 r h sh7 (Zr h0)) (k : KpX (Zr h0) g g') : Eg h0 g' C D K (n + 1) M (p.step sh7 h).2 r h ∧ (p.step sh7 h).2.meas h < p.meas h := by
  obtain ⟨s1, s2, s3⟩ := step_dn (p := p) (h := h)
  have hl := step_less (s3 hp E.I.ph)
  have hm := E.m
  exact ⟨{ W := ⟨v', W⟩, k := E.k.trans k, I := E.I.step, L := fun i => by have := E.L i; omega, ms := by have := E.ms; omega, m := by omega
           d0 := fun hh => by rw [s1 hh]; exact E.d0 hp
           d1 := fun hh => by rw [s2 hp hh, E.d0 hp]; rfl
           rq := E.rq, rb := E.rb, rp := E.rp, ru := E.ru, r1 := E.r1 }, hl⟩
theorem ends_act {n M:Nat}(E:Eg h0 g C D K n M p r h)(hM:M≤2 ^ 19)(a:Ac){sv:AV}(hs:scalar sv=true)(hop:a.op=4∨a.op=5∨a.op=6∨a.op=9) :
  Ok (AA (.ptr (some (K 3,0))) (.agg (a.row sv)) g) fun s=>∃ q' r' h',q'.ph=p.ph∧q'.meas h'=p.meas h∧(∀ i,(h'.L i).length≤101+n)∧h'.ms.length≤101+n∧KpX (Zr h0) g s.2∧
   (∃ v',Wi s.2 C D K v' q' r' h' sh7 (Zr h0))∧TI q' h'∧q'.dn=p.dn∧Rs r r':=by
 obtain⟨v,W⟩:=E.W
 obtain⟨S,q1,q2⟩:=E.sz hM
 refine Ok.mono (act_ok W S q1 q2 a hs) ?_
 rintro s ⟨_,v',W',k'⟩
 obtain⟨e1,e2,e3,e4⟩:=act_two E.I E.rp a hop
 obtain⟨_,_,I'⟩:=act_ti E.I a
 have B:=act_bd (m:=100+n) (n:=p.gq.length) E.I ⟨E.L,E.ms,Nat.le_refl _⟩ a
 obtain⟨p1,p2⟩:=act_ph (p:=p) (h:=h) a (by omega) (by omega) (by omega) (by omega)
 rw [e1,e2] at W'
 exact⟨_,_,_,p1,e4,fun i=>by have:=B.L i;omega,by have:=B.ms;omega,k',⟨v',W'⟩,I',p2,e3⟩
theorem Eg.acted {n M : Nat} (E : Eg h0 g C D K n M p r h) {g' : Heap} {q r' : SC} {h' : SH} (hp : p.ph ≠ 0) (e1 : q.ph = p.ph) (e2 : q.meas h' = p.meas h) (hL : ∀ i, (h'.L i).length ≤ 101 + n) (hms : h'.ms.length ≤ 101 + n) (k : KpX (Zr h0) g g') (I : TI q h') (e3 : q.dn = p.dn) (R : Rs r r') {g2 : Heap} {v2 : Vb}
    (W : Wi g2 C D K v2 (q.step sh7 h').2 r' h' sh7 (Zr h0)) (k2 : KpX (Zr h0) g' g2) : Eg h0 g2 C D K (n + 1) M (q.step sh7 h').2 r' h' ∧ (q.step sh7 h').2.meas h' < p.meas h := by
  have hq : q.ph ≠ 0 := by rw [e1]; exact hp
  obtain ⟨s1, s2, s3⟩ := step_dn (p := q) (h := h')
  have hl := step_less (s3 hq I.ph)
  have hm := E.m
  have d := E.d0 hp
  refine ⟨{ W := ⟨v2, W⟩, k := (E.k.trans k).trans k2, I := I.step, L := fun i => by have := hL i; omega, ms := by omega, m := by omega
            d0 := fun hh => by rw [s1 hh, e3]; exact d
            d1 := fun hh => by rw [s2 hq hh, e3, d]; rfl
            rq := R.gq.trans E.rq, rb := by rw [R.bl]; exact E.rb, rp := R.ph.trans E.rp
            ru := by have := E.ru; unfold U0 at *; rw [R.un]; exact this
            r1 := by rw [R.un]; exact E.r1 }, by omega⟩
theorem ends_L1 {x2:AV}{xs:List Ac}(hx:AcsRd h0 x2 xs)(hl:xs.length≤60){M:Nat}(hM:M≤2 ^ 19){most:Int}(hmost:(M:Int)≤most)(E:Eg h0 g C D K 0 M p r h) :
  Ok (Dr x2 (.ptr (some (K 3,0))) (.int .i64 most) (.bool false) (.int .i64 0) g) fun s=>s.1 = .exit 2∧∃ n p' r' h',Eg h0 s.2.2 C D K n M p' r' h'∧p'.ph=0:=by
 refine ok_loop (fun m vs g2=>∃ (n:Nat) (p' r':SC) (h':SH),vs = [.bool false,.int .i64 (n:Int)]∧p'.meas h'=m∧Eg h0 g2 C D K n M p' r' h') ?_ (n:=p.meas h) (by have:=E.m;omega) ⟨0,p,r,h,rfl,rfl,E⟩
 rintro m vs g2 ⟨n,p',r',h',rfl,hm,E'⟩
 rw [gd0,gd1]
 have hx2:=hx.kp E'.k
 have hmm:=E'.m
 obtain⟨v',W'⟩:=E'.W
 by_cases hp:p'.ph=0
 ·exact(Ok.of (r:=(Ex.exit 2,[AV.bool false,.int .i64 (n:Int)],g2)) (.inr ⟨by simp,rfl,n,p',r',h',E',hp⟩)).eq (by
   simp -implicitDefEqProofs only [Af,nilV_ptr,faP_ptr,Nat.zero_add,Option.bind_some,W'.pl3 0 _ rfl,phase_eq W',cl_some,neq_int,decide_eq_true hp,Bool.not_true,condE_false])
 have h1:=meas_pos (h:=h') E'.I.ph hp
 have hgt : ¬ (n:Int) > most:=by omega
 obtain⟨S,q1,q2⟩:=E'.sz hM
 have noact:Ok (BL (.ptr (some (K 3,0))) (.bool false) (.int .i64 n) g2) fun s=>(s.1 = .normal∧∃ m',m'<m∧∃ (n:Nat) (p' r':SC) (h':SH),s.2.1 = [.bool false,.int .i64 (n:Int)]∧p'.meas h'=m'∧Eg h0 s.2.2 C D K n M p' r' h')∨(s.1≠.normal∧(s.1 = .exit 2∧∃ n p' r' h',Eg h0 s.2.2 C D K n M p' r' h'∧p'.ph=0)):=by
  refine Ok.mono (ends_j0 W' S.sm (by omega) (n:=n) (by omega)) ?_
  rintro⟨e,vs,g3⟩ ⟨rfl,rfl,v3,W3,k3⟩
  obtain⟨E3,hl3⟩:=ends_step E' hp W3 k3
  exact .inl ⟨rfl,_,by rw [← hm];exact hl3,n+1,_,_,_,rfl,rfl,E3⟩
 by_cases hi:n<xs.length
 ·have hlt:(n:Int)<xs.length:=by omega
  obtain⟨a,ha⟩:∃ a,xs[n]?=some a:=⟨_,List.getElem?_eq_getElem hi⟩
  obtain⟨sv,b,o,ix,la,hs,l0⟩:=hx2.at ha
  have acted:a.op=4∨a.op=5∨a.op=6∨a.op=9→Ok (cl (AA (.ptr (some (K 3,0))) (.agg (a.row sv)) g2) fun t h114=>BL (.ptr (some (K 3,0))) (.bool false) (.int .i64 n) h114) fun s=>(s.1 = .normal∧∃ m',m'<m∧∃ (n:Nat) (p' r':SC) (h':SH),s.2.1 = [.bool false,.int .i64 (n:Int)]∧p'.meas h'=m'∧Eg h0 s.2.2 C D K n M p' r' h')∨(s.1≠.normal∧(s.1 = .exit 2∧∃ n p' r' h',Eg h0 s.2.2 C D K n M p' r' h'∧p'.ph=0)):=by
   intro hop
   refine ok_cl (ends_act E' hM a hs hop) ?_
   rintro _ g3 ⟨q,r3,h3,e1,e2,hL,hms,k3,⟨v3,W3⟩,I3,e3,R3⟩
   simp only at k3 W3
   have hg:=gq_meas I3
   refine Ok.mono (ends_j0 W3 (fun i hi=>by have:=hL i;omega) (by omega) (n:=n) (by omega)) ?_
   rintro⟨e,vs,g4⟩ ⟨rfl,rfl,v4,W4,k4⟩
   obtain⟨E4,hl4⟩:=E'.acted hp e1 e2 hL hms k3 I3 e3 R3 W4 k4
   exact .inl ⟨rfl,_,by rw [← hm];exact hl4,n+1,_,_,_,rfl,rfl,E4⟩
  by_cases c4:a.op=4
  ·exact(acted (by omega)).eq (by
    simp -implicitDefEqProofs only [Af,nilV_ptr,faP_ptr,Nat.zero_add,Nat.add_zero,Option.bind_some,W'.pl3 0 _ rfl,phase_eq W',cl_some,neq_int,decide_eq_false hp,Bool.not_false,condE_true,bin_gtr,hgt,decide_false,condE_false,hx2.lnL,bin_lss,hlt,decide_true,gdW_tt,gdW_tf,gdW_ft,gdW_ff,gdW_tup,gQ_true,gQ_false,ix,l0,eql_int,decide_eq_true c4,pickP_bool,if_true,if_false,Bool.false_eq_true,la])
  by_cases c5:a.op=5
  ·exact(acted (by omega)).eq (by
    simp -implicitDefEqProofs only [Af,nilV_ptr,faP_ptr,Nat.zero_add,Nat.add_zero,Option.bind_some,W'.pl3 0 _ rfl,phase_eq W',cl_some,neq_int,decide_eq_false hp,Bool.not_false,condE_true,bin_gtr,hgt,decide_false,condE_false,hx2.lnL,bin_lss,hlt,decide_true,gdW_tt,gdW_tf,gdW_ft,gdW_ff,gdW_tup,gQ_true,gQ_false,ix,l0,eql_int,decide_eq_false c4,decide_eq_true c5,pickP_bool,if_true,if_false,Bool.false_eq_true,la])
  by_cases c6:a.op=6
  ·exact(acted (by omega)).eq (by
    simp -implicitDefEqProofs only [Af,nilV_ptr,faP_ptr,Nat.zero_add,Nat.add_zero,Option.bind_some,W'.pl3 0 _ rfl,phase_eq W',cl_some,neq_int,decide_eq_false hp,Bool.not_false,condE_true,bin_gtr,hgt,decide_false,condE_false,hx2.lnL,bin_lss,hlt,decide_true,gdW_tt,gdW_tf,gdW_ft,gdW_ff,gdW_tup,gQ_true,gQ_false,ix,l0,eql_int,decide_eq_false c4,decide_eq_false c5,decide_eq_true c6,pickP_bool,if_true,if_false,Bool.false_eq_true,la])
  by_cases c9:a.op=9
  ·exact(acted (by omega)).eq (by
    simp -implicitDefEqProofs only [Af,nilV_ptr,faP_ptr,Nat.zero_add,Nat.add_zero,Option.bind_some,W'.pl3 0 _ rfl,phase_eq W',cl_some,neq_int,decide_eq_false hp,Bool.not_false,condE_true,bin_gtr,hgt,decide_false,condE_false,hx2.lnL,bin_lss,hlt,decide_true,gdW_tt,gdW_tf,gdW_ft,gdW_ff,gdW_tup,gQ_true,gQ_false,ix,l0,eql_int,decide_eq_false c4,decide_eq_false c5,decide_eq_false c6,decide_eq_true c9,pickP_bool,if_true,if_false,Bool.false_eq_true,la])
  exact noact.eq (by
    simp -implicitDefEqProofs only [Af,nilV_ptr,faP_ptr,Nat.zero_add,Nat.add_zero,Option.bind_some,W'.pl3 0 _ rfl,phase_eq W',cl_some,neq_int,decide_eq_false hp,Bool.not_false,condE_true,bin_gtr,hgt,decide_false,condE_false,hx2.lnL,bin_lss,hlt,decide_true,gdW_tt,gdW_tf,gdW_ft,gdW_ff,gdW_tup,gQ_true,gQ_false,ix,l0,eql_int,decide_eq_false c4,decide_eq_false c5,decide_eq_false c6,decide_eq_false c9,pickP_bool,if_true,if_false,Bool.false_eq_true])
 ·have hlt : ¬ (n:Int)<xs.length:=by omega
  exact noact.eq (by
    simp -implicitDefEqProofs only [Af,nilV_ptr,faP_ptr,Nat.zero_add,Nat.add_zero,Option.bind_some,W'.pl3 0 _ rfl,phase_eq W',cl_some,neq_int,decide_eq_false hp,Bool.not_false,condE_true,bin_gtr,hgt,decide_false,condE_false,hx2.lnL,bin_lss,hlt,gdW_tt,gdW_tf,gdW_ft,gdW_ff,gdW_tup,gQ_true,gQ_false,pickP_bool,if_true,if_false,Bool.false_eq_true])
end
theorem cycleEnds_true {h : Heap} (hsub : Sub hQ1 h) (hn1 : 1 ≤ h.next) {sp : Int} {x1 x2 : AV} {xs ys : List Ac} (hx : AcsRd h x1 xs) (hy : AcsRd h x2 ys) :
    Ok (Ai (.int .i64 sp) x1 x2 h) fun r => r.1 = .bool true := by
  have ht := tab0_sub hsub hn1
  have haw : FC h = some (.bool true, h) := quiet_pos hsub
  by_cases h8 : sp < 8
  · exact ok_val (v := .bool true) (g := h) (by simp -implicitDefEqProofs only [Ai, haw, cl_some, un_not, Bool.not_true, Option.bind_some, condE_false, bin_lss, h8, decide_true, gdW_tf, gQ_false, pickP_bool, if_true, condE_true]) rfl
  by_cases h12 : 12 < sp
  · have h12' : sp > 12 := h12
    exact ok_val (v := .bool true) (g := h) (by simp -implicitDefEqProofs only [Ai, haw, cl_some, un_not, Bool.not_true, Option.bind_some, condE_false, bin_lss, bin_gtr, h8, h12', decide_true, decide_false, gdW_ff, gdW_tf, gQ_true, gQ_false, pickP_bool, Bool.false_eq_true, if_false, if_true, condE_true]) rfl
  have h12' : ¬ sp > 12 := h12
  by_cases hl : 60 < xs.length
  · have hl' : (xs.length : Int) > 60 := by omega
    exact ok_val (v := .bool true) (g := h) (by simp -implicitDefEqProofs only [Ai, haw, cl_some, un_not, Bool.not_true, Option.bind_some, condE_false, bin_lss, bin_gtr, h8, h12', hx.lnL, hl', decide_true, decide_false, gdW_ff, gdW_tf, gQ_true, gQ_false, pickP_bool, Bool.false_eq_true, if_false, if_true, condE_true]) rfl
  have hl' : ¬ (xs.length : Int) > 60 := by omega
  by_cases hm : 60 < ys.length
  · have hm' : (ys.length : Int) > 60 := by omega
    exact ok_val (v := .bool true) (g := h) (by simp -implicitDefEqProofs only [Ai, haw, cl_some, un_not, Bool.not_true, Option.bind_some, condE_false, bin_lss, bin_gtr, h8, h12', hx.lnL, hy.lnL, hl', hm', decide_true, decide_false, gdW_ff, gdW_tf, gQ_true, gQ_false, pickP_bool, Bool.false_eq_true, if_false, if_true, condE_true]) rfl
  have hm' : ¬ (ys.length : Int) > 60 := by omega
  refine Ok.eq ?_ (by simp -implicitDefEqProofs only [Ai, haw, cl_some, un_not, Bool.not_true, Option.bind_some, condE_false, bin_lss, bin_gtr, h8, h12', hx.lnL, hy.lnL, hl', hm', decide_false, gdW_ff, gQ_true, pickP_bool, Bool.false_eq_true, if_false] <;> rfl)
  obtain ⟨N, rfl⟩ : ∃ N : Nat, sp = (N : Int) := ⟨sp.toNat, by omega⟩
  refine ok_cl (begun_ok ht (N := N) (by omega) (by omega)) ?_
  rintro _ g1 ⟨C, D, K, v, rfl, W, k⟩
  simp only at W k
  have P : Pw h g1 C D K 0 0 (sc0 N) hol0 := ⟨⟨v, W⟩, k, ti_start (by omega) (by omega), bd_start N⟩
  refine Ok.eq ?_ (by simp -implicitDefEqProofs only [eql_ptr_nil, Option.bind_some, condE_false] <;> rfl)
  refine ok_lp (ends_L0 (N := N) hx (by omega) P rfl rfl (by simp [sc0, newA]) List.nodup_nil) ?_
  rintro _ vs g2 ⟨rfl, hvs, p', h', P', hp, hd, hN, hnd⟩
  simp only at P' hvs
  obtain ⟨v', W'⟩ := P'.W
  have hsm : h'.sm := fun j hj => by have := P'.B.L j; omega
  rw [if_pos rfl, thenK_normal]
  refine Ok.eq ?_ (by simp -implicitDefEqProofs only [nilV_ptr, faP_ptr, Nat.zero_add, Option.bind_some, W'.pl3 0 _ rfl, W'.pl3 2 _ rfl] <;> rfl)
  have hq := P'.B.gq
  refine ok_cl (cstart_ok W' hsm (by omega)) ?_
  rintro _ g4 ⟨rfl, v4, W4, k4⟩
  simp only at W4 k4
  rw [chk_nil]
  have hms := meas_start P'.I hp
  obtain ⟨e1, e2, e3⟩ := start_ph1 (h := h') hp
  rw [hN] at hms
  have e5 : IntKind.i64.wrap (64 * (N : Int)) = 64 * (N : Int) := wrap_i64 (by omega) (by omega)
  have e6 : IntKind.i64.wrap (40 + 64 * (N : Int)) = 40 + 64 * (N : Int) := wrap_i64 (by omega) (by omega)
  have e7 : IntKind.i64.wrap (40 + 64 * (N : Int) + N) = 40 + 64 * (N : Int) + N := wrap_i64 (by omega) (by omega)
  refine Ok.eq ?_ (by simp -implicitDefEqProofs only [bin_mul, bin_add, e5, e6, e7, Option.bind_some, hvs] <;> rfl)
  have E : Eg h g4 C D K 0 (N * 65 + 15) (p'.start h').2 p' h' :=
    { W := ⟨v4, W4⟩, k := P'.k.trans k4, I := P'.I.start, L := fun i => by have := P'.B.L i; omega, ms := by have := P'.B.ms; omega, m := by omega
      d0 := fun _ => by rw [e3]; exact hd
      d1 := fun hh => by rw [e1] at hh; omega
      rq := P'.I.gq (by rw [hp]; rfl), rb := bl_len P'.I, rp := hp, ru := P'.I.u0, r1 := P'.I.n1 }
  refine ok_lp (ends_L1 hy (by omega) (M := N * 65 + 15) (by omega) (by omega) E) ?_
  rintro _ vs5 g5 ⟨rfl, n, p5, r5, h5, E5, hp5⟩
  simp only at E5
  obtain ⟨v5, W5⟩ := E5.W
  have hd5 := E5.d1 hp5
  exact ok_val (v := .bool true) (g := g5) (by
    simp -implicitDefEqProofs only [if_true, thenK_normal, nilV_ptr, faP_ptr, Nat.zero_add, Option.bind_some, W5.pl3 0 _ rfl, done_eq W5, cl_some, hd5, eql_int, decide_true]) rfl
end Go.Ab.F
