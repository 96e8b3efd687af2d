import Derived.Test.YtlkhjkbepijegaaGreatDoorYct
import Derived.Test.YtlkhjkbepijegaaGreatDoorYce
namespace Go.Ab.F
open Go Go.Ab
set_option linter.all false
set_option linter.all false
set_option linter.all false
theorem shadeL_nd:∀ (L:List Int) {a:PAr} (q:List Int),Wf a→(∀ x∈q,a.isM x=true)→q.Nodup→(shadeL a q L).2.Nodup
 | [],a,q,H,hm,hn=>hn
 | x::L,a,q,H,hm,hn=>by
  have S:=mark_same a x
  obtain⟨h1,h2⟩:=mark_isM H x
  rw [shadeL]
  refine shadeL_nd L _ (S.wf H) (fun y hy=>?_) ?_
  ·cases hb:(a.mark x).1 with
   | false=>rw [hb] at hy;exact(h2 y).2 (.inl (hm y (by simpa using hy)))
   | true=>
    rw [hb] at hy
    simp only [if_true,List.mem_append,List.mem_singleton] at hy
    rcases hy with hy | rfl
    ·exact(h2 y).2 (.inl (hm y hy))
    ·exact(h2 y).2 (.inr ⟨rfl,(h1.1 hb).1⟩)
  ·cases hb:(a.mark x).1 with
   | false=>simpa using hn
   | true=>
    simp only [if_true]
    rw [List.nodup_append]
    refine⟨hn,by simp,fun y hy z hz=>?_⟩
    simp only [List.mem_singleton] at hz
    rintro rfl
    have:=(h1.1 hb).2
    rw [← hz,hm _ hy] at this;cases this
def Kp (p:SC)(x:Int):Prop:=Fd p.l.ar x∧(shB p.ph=true→Mk_ p.l.ar x)∧(p.l.u (spanOf x)=true→Mk_ p.l.ar x)
structure Ev (p q:SC):Prop where
 len:q.l.ar.sp.length=p.l.ar.sp.length
 nd:p.gq.Nodup→q.gq.Nodup
 kp:p.ph≠0→∀ x,Kp p x→Kp q x
theorem Ev.refl (p:SC):Ev p p:=⟨rfl,id,fun _ _=>id⟩
theorem Ev.trans {p q r:SC}(E:Ev p q)(F:Ev q r)(hp:p.ph≠0→q.ph≠0):Ev p r:=
 ⟨F.len.trans E.len,fun h=>F.nd (E.nd h),fun h x hx=>F.kp (hp h) x (E.kp h x hx)⟩
theorem ev_shade {p:SC}{h:SH}(I:TI p h)(hs:shB p.ph=true){q0:List Int}(hq:∀ x∈q0,x∈p.gq)(hn:p.gq.Nodup→q0.Nodup)(L:List Int)(ph:Int)(bl:List Int)(dn:Int):Ev p ⟨⟨(shadeL p.l.ar q0 L).1,p.l.un⟩,(shadeL p.l.ar q0 L).2,ph,bl,dn⟩:=by
 have S:=shadeL_same L p.l.ar q0
 have M:=shadeL_isM L q0 I.lv.wf
 refine⟨S.len,fun hd=>shadeL_nd L q0 I.lv.wf (fun x hx=>(I.tc hs).qm x (hq x hx)) (hn hd),fun _ x hx=>⟨?_,fun _=>?_,fun hu=>?_⟩⟩
 ·show Fd (shadeL p.l.ar q0 L).1 x
  rw [fd_same S];exact hx.1
 ·exact(M x).2 (.inl (hx.2.1 hs))
 ·exact(M x).2 (.inl (hx.2.1 hs))
theorem ev_at {p:SC}(hs:shB p.ph=true)(ph:Int)(bl:List Int)(dn:Int):Ev p ⟨p.l,p.gq,ph,bl,dn⟩:=⟨rfl,id,fun _ x hx=>⟨hx.1,fun _=>hx.2.1 hs,hx.2.2⟩⟩
theorem ev_bl (p:SC)(bl:List Int):Ev p (p.black bl):=⟨rfl,id,fun _ x hx=>hx⟩
theorem ev_scan {p:SC}{h:SH}(I:TI p h)(id:Int):Ev p (p.scan h id).2:=by
 unfold SC.scan
 split
 ·rename_i hc
  exact ev_shade I hc.1 (fun x hx=>hx) (fun h=>h) (stk h id) p.ph (p.bl ++ [id]) p.dn
 ·exact Ev.refl p
theorem ev_swe {p:SC}{l1:PAl}(S:SwE p.l l1)(ph:Int)(hp:shB ph=true→shB p.ph=true)(dn:Int):Ev p ⟨l1,p.gq,ph,p.bl,dn⟩:=by
 refine⟨S.len,id,fun _ x hx=>?_⟩
 obtain⟨h1,h2,h3⟩:=hx
 have hf:Fd l1.ar x:=by
  obtain⟨⟨m,q⟩,hf⟩:=Option.ne_none_iff_exists'.1 h1
  have hm:=(find_some hf).2.1
  unfold Fd
  rw [(S.find x m q).2 ⟨hf,fun h1 _=>h3 (by rw [← hm];exact h1)⟩];simp
 have hM:Mk_ p.l.ar x→Mk_ l1.ar x:=fun h=>by
  unfold Mk_ at *
  rw [S.isM x hf];exact h
 exact⟨hf,fun hh=>hM (h2 (hp hh)),fun hu=>hM (h3 (S.un _ hu))⟩
theorem ev_step {p:SC}{h:SH}(I:TI p h):Ev p (p.step sh7 h).2:=by
 unfold SC.step
 by_cases h1:p.ph=1
 ·rw [if_pos h1]
  have hs:shB p.ph=true:=by rw [h1];rfl
  cases hw:p.wh h with
  | nil=>exact ev_at hs 2 p.bl p.dn
  | cons id l=>exact ev_scan I id
 ·rw [if_neg h1]
  by_cases h2:p.ph=2
  ·rw [if_pos h2]
   have hs:shB p.ph=true:=by rw [h2];rfl
   cases hq:p.gq with
   | cons x q=>
    exact ev_shade I hs (q0:=q) (fun y hy=>by rw [hq];simp [hy]) (fun hd=>by rw [hq] at hd;exact(List.nodup_cons.1 hd).2) _ p.ph p.bl p.dn
   | nil=>
    cases hw:p.wh h with
    | nil=>exact⟨rfl,fun _=>List.nodup_nil,fun _ x hx=>⟨hx.1,fun hh=>by simp [sh3] at hh,fun _=>hx.2.1 hs⟩⟩
    | cons id l=>exact ev_at hs 1 p.bl p.dn
  ·rw [if_neg h2]
   by_cases h3:p.ph=3
   ·rw [if_pos h3]
    unfold SC.swept
    rcases one_cases p.l with⟨e1,_,e3⟩ | ⟨n,e1,e2,e3⟩
    ·rw [if_neg (by rw [e1];simp)]
     exact⟨rfl,id,fun _ x hx=>⟨hx.1,fun hh=>by simp [sh0] at hh,hx.2.2⟩⟩
    ·rw [e1,if_pos rfl]
     exact ev_swe (swe_one I.lv.wf e3) 3 (fun hh=>by simp [sh3] at hh) p.dn
   ·rw [if_neg h3];exact Ev.refl p
theorem ev_start {p:SC}{h:SH}(I:TI p h):Ev p (p.start h).2:=by
 unfold SC.start
 split
 ·rename_i h0
  have hg:=I.gq (by rw [h0];rfl)
  refine⟨((clear_same p.l.ar).trans (shadeL_same (h.L 0) p.l.ar.clear p.gq)).len,fun hd=>shadeL_nd (h.L 0) p.gq ((clear_same p.l.ar).wf I.lv.wf) (fun x hx=>by rw [hg] at hx;cases hx) hd,fun hh=>absurd h0 hh⟩
 ·exact Ev.refl p
theorem ev_barrier {p:SC}{h:SH}(I:TI p h)(o b id:Int):Ev p (p.barrier o b id):=by
 unfold SC.barrier
 cases hs:shB p.ph with
 | false=>rw [if_neg (by simp)];exact Ev.refl p
 | true=>
  rw [if_pos rfl]
  split
  ·exact ev_shade I hs (fun x hx=>hx) (fun h=>h) [o] p.ph p.bl p.dn
  ·exact ev_shade I hs (fun x hx=>hx) (fun h=>h) [o,b] p.ph p.bl p.dn
theorem ev_wr (p:SC)(ad k v:Int):Ev p (p.wr ad k v):=by
 have sp:=write_sp p.l.ar ad k v
 refine⟨by show(p.l.ar.write ad k v).2.sp.length=_;rw [sp],id,fun _ x hx=>⟨?_,fun hh=>?_,fun hu=>?_⟩⟩
 ·show(p.l.ar.write ad k v).2.find x≠none
  rw [find_sp sp];exact hx.1
 ·show(p.l.ar.write ad k v).2.isM x=true
  rw [isM_sp sp];exact hx.2.1 hh
 ·show(p.l.ar.write ad k v).2.isM x=true
  rw [isM_sp sp];exact hx.2.2 hu
theorem ev_made {p:SC}{l':PAl}{ad c:Int}(M:Made p.l l' ad c){b:PAr}(S:SameTk l'.ar b)(hb:∀ x,x≠ad→b.isM x=l'.ar.isM x)(hm:shB p.ph=true→b.isM ad=true) :
  Ev p ⟨⟨b,l'.un⟩,p.gq,p.ph,p.bl,p.dn⟩∧Kp ⟨⟨b,l'.un⟩,p.gq,p.ph,p.bl,p.dn⟩ ad:=by
 refine⟨⟨S.len.trans M.stay.len,id,fun _ x hx=>?_⟩,?_,hm,fun hu=>?_⟩
 ·have hne:x≠ad:=fun e=>by subst e;exact hx.1 M.none
  have hM:Mk_ p.l.ar x→b.isM x=true:=fun h=>by rw [hb x hne,M.stay.isM x hne];exact h
  refine⟨?_,fun hh=>hM (hx.2.1 hh),fun hu=>hM (hx.2.2 (M.un _ hu))⟩
  show b.find x≠none
  rw [S.find,M.stay.find x hne];exact hx.1
 ·show b.find ad≠none
  rw [S.find]
  obtain⟨n,q,hq⟩:=M.lies.find M.wf
  rw [hq];simp
 ·have hu:l'.u (spanOf ad)=true:=hu
  rw [M.una] at hu;cases hu
set_option linter.all false
structure Evh (p:SC)(h:SH)(q:SC)(h':SH):Prop where
 ev:Ev p q
 ms:h'.ms=h.ms∨∃ ad,h'.ms=h.ms ++ [ad]∧Kp q ad
theorem Ev.h {p q:SC}(E:Ev p q){h h':SH}(e:h'.ms=h.ms):Evh p h q h':=⟨E,.inl e⟩
theorem take_ev {p:SC}{h:SH}(I:TI p h){k:Nat}(x:Ac):Evh p h (takA p p h k x).2.1 (takA p p h k x).2.2.2:=by
 unfold takA
 cases hon:h.on k with
 | false=>rw [if_pos rfl];exact(Ev.refl p).h rfl
 | true=>
  rw [if_neg (by simp)]
  obtain⟨l1,S,hc⟩:=gtake I.lv.wf I.ul I.u0 (size_cls x.sh x.wd)
  have E1:=ev_swe S p.ph (fun h=>h) p.dn
  rcases hc with e | ⟨ad,l',e,M⟩
  ·have et:p.take (sizeT x.sh x.wd)=((0,5),⟨l1,p.gq,p.ph,p.bl,p.dn⟩):=by
    unfold SC.take;rw [e];simp
   rw [et]
   simp only
   rw [if_neg (by simp),if_pos (by simp)]
   exact E1.h rfl
  ·have hlo:=M.lo
   have h0:ad≠0:=by omega
   cases hs:shB p.ph with
   | true=>
    have et:p.take (sizeT x.sh x.wd)=((ad,0),⟨⟨(l'.ar.mark ad).2,l'.un⟩,p.gq,p.ph,p.bl,p.dn⟩):=by
     unfold SC.take;rw [e];simp [hs]
    rw [et]
    simp only
    rw [if_neg (by simp [h0]),if_neg (by simp)]
    have hM:=shadeL_isM [ad] ([]:List Int) M.wf
    have hfa:l'.ar.find ad≠none:=by
     obtain⟨n,q,hq⟩:=M.lies.find M.wf
     rw [hq];simp
    obtain⟨E2,K2⟩:=ev_made (p:=⟨l1,p.gq,p.ph,p.bl,p.dn⟩) M (mark_same l'.ar ad) (fun y hy=>by
     have:=hM y
     have e1:(shadeL l'.ar [] [ad]).1=(l'.ar.mark ad).2:=rfl
     rw [e1] at this
     cases h1:l'.ar.isM y with
     | true=>exact this.2 (.inl h1)
     | false=>
      cases h2:(l'.ar.mark ad).2.isM y with
      | false=>rfl
      | true=>
       rcases this.1 h2 with h3 | h3
       ·rw [h1] at h3;cases h3
       ·exact absurd (by simpa using h3.1) hy) (fun _=>(hM ad).2 (.inr ⟨by simp,hfa⟩))
    have E3:=ev_wr ⟨⟨(l'.ar.mark ad).2,l'.un⟩,p.gq,p.ph,p.bl,p.dn⟩ ad 0 (hdW x.sh x.wd)
    have hp:p.ph≠0:=fun e=>by rw [e] at hs;simp [sh0] at hs
    exact⟨(E1.trans E2 id).trans E3 id,.inr ⟨ad,rfl,E3.kp hp ad K2⟩⟩
   | false=>
    have et:p.take (sizeT x.sh x.wd)=((ad,0),⟨l',p.gq,p.ph,p.bl,p.dn⟩):=by
     unfold SC.take;rw [e];simp [hs]
    rw [et]
    simp only
    rw [if_neg (by simp [h0]),if_neg (by simp)]
    obtain⟨E2,K2⟩:=ev_made (p:=⟨l1,p.gq,p.ph,p.bl,p.dn⟩) M (SameTk.refl l'.ar) (fun y hy=>rfl) (fun hh=>by simp [hs] at hh)
    have E3:=ev_wr ⟨l',p.gq,p.ph,p.bl,p.dn⟩ ad 0 (hdW x.sh x.wd)
    refine⟨(E1.trans E2 id).trans E3 id,.inr ⟨ad,rfl,?_⟩⟩
    have sp:=write_sp l'.ar ad 0 (hdW x.sh x.wd)
    refine⟨?_,fun hh=>?_,fun hu=>?_⟩
    ·show(l'.ar.write ad 0 (hdW x.sh x.wd)).2.find ad≠none
     rw [find_sp sp];exact K2.1
    ·have hh:shB p.ph=true:=hh
     rw [hs] at hh;cases hh
    ·exfalso
     have hu:l'.u (spanOf ad)=true:=hu
     rw [M.una] at hu;cases hu
theorem write_ev {p:SC}{h:SH}(I:TI p h){k:Nat}(x:Ac):Evh p h (wrF sh7 p p h x k).2.1 (wrF sh7 p p h x k).2.2.2:=by
 unfold wrF
 split
 ·exact(Ev.refl p).h rfl
 split
 ·exact(Ev.refl p).h rfl
 split
 ·exact(Ev.refl p).h rfl
 split
 ·exact(Ev.refl p).h rfl
 split
 ·exact(Ev.refl p).h rfl
 split
 ·split
  ·exact(Ev.refl p).h rfl
  ·exact(Ev.refl p).h rfl
 ·refine((ev_barrier I _ _ _).trans (ev_wr _ _ _ _) (fun hh=>?_)).h rfl
  rw [(I.barrier _ _ _).ph];exact hh
theorem act_ev {p:SC}{h:SH}(I:TI p h)(x:Ac)(h8:x.op≠8):Evh p h (act sh7 p p h x).2.1 (act sh7 p p h x).2.2.2:=by
 unfold act
 split
 ·exact take_ev I x
 split
 ·exact(ev_start I).h rfl
 split
 ·exact(ev_step I).h rfl
 split
 ·exact(ev_scan I x.id).h rfl
 split
 ·exact write_ev I x
 split
 ·unfold dropA
  simp only
  split<;>exact(Ev.refl p).h rfl
 split
 ·unfold globA
  split
  ·exact(Ev.refl p).h rfl
  split
  ·exact(ev_barrier I _ _ _).h rfl
  ·exact(ev_barrier I _ _ _).h rfl
 split
 ·unfold bornA
  split
  ·exact(ev_bl p _).h rfl
  ·unfold SC.born
   split
   ·exact(ev_bl p _).h rfl
   ·exact(Ev.refl p).h rfl
 split
 ·exact(Ev.refl p).h rfl
 ·exact(Ev.refl p).h rfl
theorem run_len {h:SH}:∀ (n:Nat) {p:SC},TI p h→(p.run sh7 h n).l.ar.sp.length=p.l.ar.sp.length
 | 0,p,I=>rfl
 | n+1,p,I=>by
  rw [SC.run]
  split
  ·exact(run_len n I.step).trans (ev_step I).len
  ·rfl
theorem fin_len {p:SC}{h:SH}(I:TI p h):(p.fin sh7 h).l.ar.sp.length=p.l.ar.sp.length:=run_len _ I
theorem whole_len {p:SC}{h:SH}(I:TI p h):(p.whole sh7 h).l.ar.sp.length=p.l.ar.sp.length:=((fin_len I.fin.start).trans (ev_start I.fin).len).trans (fin_len I)
theorem act_len {p:SC}{h:SH}(I:TI p h)(x:Ac):(act sh7 p p h x).2.1.l.ar.sp.length=p.l.ar.sp.length:=by
 by_cases h8:x.op=8
 ·unfold act
  simp only [h8,show((8:Int)=0)=False by simp,show((8:Int)=1)=False by simp,show((8:Int)=2)=False by simp,show((8:Int)=3)=False by simp,show((8:Int)=4)=False by simp,show((8:Int)=9)=False by simp,show((8:Int)=5)=False by simp,show((8:Int)=6)=False by simp,show((8:Int)=7)=False by simp,show((8:Int)=10)=False by simp,or_self,if_false,if_true]
  exact whole_len I
 ·exact(act_ev I x h8).ev.len
theorem take_ph (p:SC)(n:Int):(p.take n).2.ph=p.ph∧(p.take n).2.dn=p.dn:=by unfold SC.take;simp only;split<;>exact⟨rfl,rfl⟩
theorem barrier_ph (p:SC)(o b id:Int):(p.barrier o b id).ph=p.ph∧(p.barrier o b id).dn=p.dn:=by
 unfold SC.barrier
 split
 ·split<;>exact⟨rfl,rfl⟩
 ·exact⟨rfl,rfl⟩
theorem act_ph {p:SC}{h:SH}(x:Ac)(h1:x.op≠1)(h2:x.op≠2)(h3:x.op≠3)(h8:x.op≠8):(act sh7 p p h x).2.1.ph=p.ph∧(act sh7 p p h x).2.1.dn=p.dn:=by
 have same:p.ph=p.ph∧p.dn=p.dn:=⟨rfl,rfl⟩
 unfold act
 split
 ·unfold takA
  split
  ·exact same
  split
  ·exact take_ph p _
  split
  ·exact take_ph p _
  ·exact take_ph p _
 split
 ·unfold wrF
  split
  ·exact same
  split
  ·exact same
  split
  ·exact same
  split
  ·exact same
  split
  ·exact same
  split
  ·split<;>exact same
  ·exact barrier_ph p _ _ _
 split
 ·exact same
 split
 ·unfold globA
  split
  ·exact same
  split
  ·exact barrier_ph p _ _ _
  ·exact barrier_ph p _ _ _
 split
 ·unfold bornA
  split
  ·exact same
  ·unfold SC.born
   split<;>exact same
 split
 ·exact same
 exact same
set_option linter.all false
theorem meas_start {p:SC}{h:SH}(I:TI p h)(h0:p.ph=0):(p.start h).2.meas h≤p.l.ar.sp.length * 65+15:=by
 have e:=I.gq (by rw [h0];rfl)
 have hs:(p.start h).2=(⟨⟨p.l.ar.clear,p.l.un⟩,p.gq,1,[],p.dn⟩:SC).shade (h.L 0):=by unfold SC.start;rw [if_pos h0]
 have h1:=shade_mu ⟨⟨p.l.ar.clear,p.l.un⟩,p.gq,1,[],p.dn⟩ (h.L 0)
 have h2:=mu_le p.l.ar.clear
 have h3:=f_le (p.start h).2 h
 have h4:=(clear_same p.l.ar).len
 have h5:=I.ul
 rw [hs] at h3 ⊢
 simp only [e,List.length_nil] at h1
 unfold SC.meas
 rw [if_pos (show shB ((⟨⟨p.l.ar.clear,p.l.un⟩,p.gq,1,[],p.dn⟩:SC).shade (h.L 0)).ph=true from rfl)]
 rw [e] at h3 ⊢
 have h6:((⟨⟨p.l.ar.clear,p.l.un⟩,[],1,[],p.dn⟩:SC).shade (h.L 0)).l.un.length=p.l.un.length:=rfl
 rw [h6]
 omega
theorem start_ph1 {p:SC}{h:SH}(h0:p.ph=0):(p.start h).2.ph=1∧(p.start h).1=true∧(p.start h).2.dn=p.dn:=by
 unfold SC.start;rw [if_pos h0];exact⟨rfl,rfl,rfl⟩
theorem wh_eq {p q:SC}{h h':SH}(hb:q.bl=p.bl)(ho:h'.on=h.on):q.wh h'=p.wh h:=by unfold SC.wh ids;rw [hb,ho]
theorem meas_eq {p q:SC}{h h':SH}(e1:q.ph=p.ph)(e2:q.gq.length+q.l.ar.mu=p.gq.length+p.l.ar.mu)(e3:q.bl=p.bl)(e4:h'.on=h.on)(e5:q.l.un=p.l.un):q.meas h'=p.meas h:=by
 have e6:q.l.left=p.l.left:=by unfold PAl.left;rw [e5]
 have e7:q.f h'=p.f h:=by unfold SC.f;rw [wh_eq e3 e4,e1]
 unfold SC.meas
 rw [e1,e5,e6,e7,e2]
theorem barrier_meas (p:SC)(o b id:Int):(p.barrier o b id).gq.length+(p.barrier o b id).l.ar.mu=p.gq.length+p.l.ar.mu∧(p.barrier o b id).bl=p.bl∧(p.barrier o b id).l.un=p.l.un:=by
 unfold SC.barrier
 split
 ·split
  ·exact⟨shade_mu p [o],rfl,rfl⟩
  ·exact⟨shade_mu p [o,b],rfl,rfl⟩
 ·exact⟨rfl,rfl,rfl⟩
theorem wr_mu (p:SC)(ad k v:Int):(p.wr ad k v).l.ar.mu=p.l.ar.mu:=by
 show(p.l.ar.write ad k v).2.mu=_
 unfold PAr.mu;rw [write_sp]
structure Rs (r q:SC):Prop where
 gq:q.gq=r.gq
 bl:q.bl=r.bl
 ph:q.ph=r.ph
 un:q.l.un=r.l.un
theorem Rs.refl (r:SC):Rs r r:=⟨rfl,rfl,rfl,rfl⟩
theorem rs_barrier {r:SC}(h0:r.ph=0)(o b id:Int):r.barrier o b id=r:=by
 unfold SC.barrier;rw [h0,if_neg (by simp [sh0])]
theorem act_two {p r:SC}{h:SH}(I:TI p h)(h0:r.ph=0)(x:Ac)(hop:x.op=4∨x.op=5∨x.op=6∨x.op=9) :
  (act sh7 p r h x).2.1=(act sh7 p p h x).2.1∧(act sh7 p r h x).2.2.2=(act sh7 p p h x).2.2.2∧Rs r (act sh7 p r h x).2.2.1∧(act sh7 p p h x).2.1.meas (act sh7 p p h x).2.2.2=p.meas h:=by
 have n0:x.op≠0:=by omega
 have n1:x.op≠1:=by omega
 have n2:x.op≠2:=by omega
 have n3:x.op≠3:=by omega
 have e:∀ r,act sh7 p r h x=if x.op=4∨x.op=9 then wrF sh7 p r h x (x.id % 4).toNat else
  if x.op=5 then dropA p r h (x.id % 4).toNat x.n else globA p r h (x.id % 4).toNat (heldI h (x.id % 4).toNat x.b):=fun r=>by
  unfold act
  rw [if_neg n0,if_neg n1,if_neg n2,if_neg n3]
  by_cases c4:x.op=4∨x.op=9
  ·rw [if_pos c4,if_pos c4]
  ·rw [if_neg c4,if_neg c4]
   by_cases c5:x.op=5
   ·rw [if_pos c5,if_pos c5]
   ·rw [if_neg c5,if_neg c5,if_pos (by omega)]
 rw [e r,e p]
 by_cases c4:x.op=4∨x.op=9
 ·rw [if_pos c4,if_pos c4]
  generalize (x.id % 4).toNat=k
  unfold wrF
  split
  ·exact⟨rfl,rfl,Rs.refl r,rfl⟩
  split
  ·exact⟨rfl,rfl,Rs.refl r,rfl⟩
  split
  ·exact⟨rfl,rfl,Rs.refl r,rfl⟩
  split
  ·exact⟨rfl,rfl,Rs.refl r,rfl⟩
  split
  ·exact⟨rfl,rfl,Rs.refl r,rfl⟩
  split
  ·split
   ·exact⟨rfl,rfl,Rs.refl r,rfl⟩
   ·exact⟨rfl,rfl,Rs.refl r,meas_eq rfl rfl rfl rfl rfl⟩
  ·refine⟨rfl,rfl,?_,?_⟩
   ·simp only
    rw [rs_barrier h0]
    exact⟨rfl,rfl,rfl,rfl⟩
   ·simp only
    obtain⟨b1,b2,b3⟩:=barrier_meas p (p.l.ar.read (heldI h k x.a) (1+x.f % 64)).1 (heldI h k x.b) (k+1)
    refine meas_eq (barrier_ph p _ _ _).1 ?_ b2 rfl b3
    rw [wr_mu];exact b1
 ·rw [if_neg c4,if_neg c4]
  by_cases c5:x.op=5
  ·rw [if_pos c5,if_pos c5]
   unfold dropA
   refine⟨rfl,rfl,Rs.refl r,?_⟩
   simp only
   split
   ·exact meas_eq rfl rfl rfl rfl rfl
   ·rfl
  ·rw [if_neg c5,if_neg c5]
   unfold globA
   split
   ·exact⟨rfl,rfl,Rs.refl r,rfl⟩
   split
   ·refine⟨rfl,rfl,by simp only;rw [rs_barrier h0];exact Rs.refl r,?_⟩
    obtain⟨b1,b2,b3⟩:=barrier_meas p (((h.L 0)[0]?).getD 0) (heldI h (x.id % 4).toNat x.b) (((x.id % 4).toNat:Int)+1)
    exact meas_eq (barrier_ph p _ _ _).1 b1 b2 rfl b3
   ·refine⟨rfl,rfl,by simp only;rw [rs_barrier h0];exact Rs.refl r,?_⟩
    obtain⟨b1,b2,b3⟩:=barrier_meas p 0 (heldI h (x.id % 4).toNat x.b) (((x.id % 4).toNat:Int)+1)
    exact meas_eq (barrier_ph p _ _ _).1 b1 b2 rfl b3
theorem step_dn {p:SC}{h:SH}:((p.step sh7 h).2.ph≠0→(p.step sh7 h).2.dn=p.dn)∧(p.ph≠0→(p.step sh7 h).2.ph=0→(p.step sh7 h).2.dn=IntKind.i64.wrap (p.dn+1))∧(p.ph≠0→PhOk p→(p.step sh7 h).1=true):=by
 unfold SC.step
 by_cases h1:p.ph=1
 ·rw [if_pos h1]
  cases hw:p.wh h with
  | nil=>exact⟨fun _=>rfl,fun _ e=>by simp [SC.at] at e,fun _ _=>rfl⟩
  | cons id l=>
   simp only
   unfold SC.scan
   split
   ·exact⟨fun _=>rfl,fun _ e=>by have e:p.ph=0:=e;omega,fun _ _=>trivial⟩
   ·exact⟨fun _=>rfl,fun _ e=>by have e:p.ph=0:=e;omega,fun _ _=>trivial⟩
 ·rw [if_neg h1]
  by_cases h2:p.ph=2
  ·rw [if_pos h2]
   cases hq:p.gq with
   | cons x q=>exact⟨fun _=>rfl,fun _ e=>by have e:p.ph=0:=e;omega,fun _ _=>rfl⟩
   | nil=>
    cases hw:p.wh h with
    | nil=>exact⟨fun _=>rfl,fun _ e=>by simp at e,fun _ _=>rfl⟩
    | cons id l=>exact⟨fun _=>rfl,fun _ e=>by simp [SC.at] at e,fun _ _=>rfl⟩
  ·rw [if_neg h2]
   by_cases h3:p.ph=3
   ·rw [if_pos h3]
    unfold SC.swept
    split
    ·exact⟨fun _=>rfl,fun _ e=>by simp at e,fun _ _=>rfl⟩
    ·exact⟨fun e=>absurd rfl e,fun _ _=>rfl,fun _ _=>rfl⟩
   ·rw [if_neg h3]
    exact⟨fun _=>rfl,fun h0 e=>absurd e h0,fun h0 hp=>by unfold PhOk at hp;omega⟩
theorem meas_pos {p:SC}{h:SH}(hp:PhOk p)(h0:p.ph≠0):1≤p.meas h:=by
 unfold SC.meas
 unfold PhOk at hp
 split
 ·omega
 ·rename_i hs
  split
  ·omega
  ·have:=shB_iff (n:=p.ph)
   exfalso
   apply hs
   rw [this];omega
end Go.Ab.F
