import Derived.Test.YtlkhjkbepijegaaGreatDoorYct
import Derived.Test.YtlkhjkbepijegaaGreatDoorYce
namespace Go.Ab.F
open Go Go.Ab
set_option linter.all false
set_option linter.all false
structure UI (p:SC)(h:SH):Prop where
 m:p.ph≠0→∀ x,Mk_ p.l.ar x→Rd_ p.l.ar h x
 s:p.ph=3→∀ x,Fd p.l.ar x→p.l.u (spanOf x)=false→Mk_ p.l.ar x
 f:p.ph=0→∀ x,Fd p.l.ar x→Rd_ p.l.ar h x
theorem rd_same {a b:PAr}(S:SameTk a b)(h:SH):Rd_ b h=Rd_ a h:=by unfold Rd_;rw [fd_same S,fl_same S]
theorem ui_shade {p:SC}{h:SH}(I:TI p h)(U:UI p h)(hs:shB p.ph=true)(L:List Int)(hL:∀ y∈L,Fd p.l.ar y→Rd_ p.l.ar h y)(q:List Int)(ph:Int)(hp:ph=1∨ph=2)(bl:List Int)(dn:Int):UI ⟨⟨(shadeL p.l.ar q L).1,p.l.un⟩,(shadeL p.l.ar q L).2,ph,bl,dn⟩ h:=by
 have hpp:=shB_iff.1 hs
 have S:=shadeL_same L p.l.ar q
 refine⟨fun _ x hx=>?_,fun e=>by have e:ph=3:=e;omega,fun e=>by have e:ph=0:=e;omega⟩
 show Rd_ (shadeL p.l.ar q L).1 h x
 rw [rd_same S]
 rcases (shadeL_isM L q I.lv.wf x).1 hx with h1 | h1
 ·exact U.m (by omega) x h1
 ·exact hL x h1.1 h1.2
theorem UI.at {p:SC}{h:SH}(U:UI p h)(hs:shB p.ph=true){ph:Int}(hp:ph=1∨ph=2)(bl:List Int):UI ⟨p.l,p.gq,ph,bl,p.dn⟩ h:=by
 have hpp:=shB_iff.1 hs
 exact⟨fun _=>U.m (by omega),fun e=>by have e:ph=3:=e;omega,fun e=>by have e:ph=0:=e;omega⟩
theorem UI.step {p:SC}{h:SH}(I:TI p h)(U:UI p h):UI (p.step sh7 h).2 h:=by
 unfold SC.step
 by_cases h1:p.ph=1
 ·rw [if_pos h1]
  have hs:shB p.ph=true:=by rw [h1];rfl
  cases hw:p.wh h with
  | nil=>exact U.at hs (.inr rfl) p.bl
  | cons id l=>
   simp only
   rw [scan_ok hs hw]
   exact ui_shade I U hs (stk h id) (fun y hy _=>gs_rd I (stk_gs hy)) p.gq p.ph (.inl h1) _ _
 ·rw [if_neg h1]
  by_cases h2:p.ph=2
  ·rw [if_pos h2]
   have hs:shB p.ph=true:=by rw [h2];rfl
   cases hq:p.gq with
   | cons x q=>
    have hx:Mk_ p.l.ar x:=(I.tc hs).qm x (by rw [hq];simp)
    exact ui_shade I U hs (fieldsL sh7 p.l.ar x) (fun y hy hf=>.step (U.m (by omega) x hx) hy hf) q p.ph (.inr h2) _ _
   | nil=>
    cases hw:p.wh h with
    | nil=>
     refine⟨fun _=>U.m (by omega),fun _ x hx hu=>?_,fun e=>by have e:(3:Int)=0:=e;omega⟩
     exfalso
     obtain⟨⟨m,q⟩,hf⟩:=Option.ne_none_iff_exists'.1 hx
     have hf:p.l.ar.find x=some (m,q):=hf
     obtain⟨f1,f2,_,_,_,f6,_⟩:=find_some hf
     have hu:((PAl.stale p.l).un[(spanOf x).toNat]?).getD false=false:=hu
     rw [← f2] at hu
     have hm:=f1.1
     have hm2:=f1.2
     have hul:=I.ul
     have e:((m.toNat:Nat):Int)=m:=by omega
     unfold PAl.stale at hu
     simp only at hu
     rw [List.getElem?_map,List.getElem?_range (by omega)] at hu
     simp only [Option.map_some,Option.getD_some,e] at hu
     rw [cls_at f1] at hu
     simp at hu
     omega
    | cons id l=>have:=U.at hs (ph:=1) (.inl rfl) p.bl;exact this
  ·rw [if_neg h2]
   by_cases h3:p.ph=3
   ·rw [if_pos h3]
    unfold SC.swept
    rcases one_cases p.l with⟨e1,_,e3⟩ | ⟨n,e1,e2,e3⟩
    ·rw [if_neg (by rw [e1];simp)]
     refine⟨fun hh=>absurd rfl hh,fun e=>by have e:(0:Int)=3:=e;omega,fun _ x hx=>U.m (by omega) x (U.s h3 x hx (e3 _))⟩
    ·rw [e1,if_pos rfl]
     have S:=swe_one I.lv.wf e3
     obtain⟨keep,hrd⟩:=rd_swe I.lv S (I.sw h3)
     have mb:∀ x,Mk_ (p.l.sweepU n).ar x→Mk_ p.l.ar x:=fun x hx=>by
      have hf:=mk_fd hx
      unfold Mk_ at hx ⊢
      rw [← S.isM x hf];exact hx
     refine⟨fun _ x hx=>(hrd x).2 (U.m (by omega) x (mb x hx)),fun _ x hx hu=>?_,fun e=>by have e:(3:Int)=0:=e;omega⟩
     have hb:=S.back hx
     show(p.l.sweepU n).ar.isM x=true
     rw [S.isM x hx]
     have hu:(p.l.sweepU n).u (spanOf x)=false:=hu
     cases hu0:p.l.u (spanOf x) with
     | false=>exact U.s h3 x hb hu0
     | true=>
      have hx:(p.l.sweepU n).ar.find x≠none:=hx
      obtain⟨⟨m,q⟩,hf⟩:=Option.ne_none_iff_exists'.1 hx
      have hm:=(find_some hf).2.1
      exact((S.find x m q).1 hf).2 (by rw [hm];exact hu0) (by rw [hm];exact hu)
   ·rw [if_neg h3];exact U
theorem UI.run {h:SH}:∀ (n:Nat) {p:SC},TI p h→UI p h→UI (p.run sh7 h n) h
 | 0,p,I,U=>U
 | n+1,p,I,U=>by
  rw [SC.run]
  split
  ·exact UI.run n I.step (UI.step I U)
  ·exact U
theorem ui_start {p:SC}{h:SH}(I:TI p h)(h0:p.ph=0):UI (p.start h).2 h:=by
 unfold SC.start
 rw [if_pos h0]
 have S1:=(clear_same p.l.ar).trans (shadeL_same (h.L 0) p.l.ar.clear p.gq)
 refine⟨fun _ x hx=>?_,fun e=>by have e:(1:Int)=3:=e;omega,fun e=>by have e:(1:Int)=0:=e;omega⟩
 show Rd_ (shadeL p.l.ar.clear p.gq (h.L 0)).1 h x
 rw [rd_same S1]
 rcases (shadeL_isM (h.L 0) p.gq ((clear_same p.l.ar).wf I.lv.wf) x).1 hx with h1 | h1
 ·rw [clear_isM] at h1;cases h1
 ·exact gs_rd I ⟨0,by omega,h1.1⟩
theorem full_end {p:SC}{h:SH}(I:TI p h)(h0:p.ph=0):((p.start h).2.fin sh7 h).ph=0∧TI ((p.start h).2.fin sh7 h) h∧∀ x,Fd ((p.start h).2.fin sh7 h).l.ar x↔Rd_ ((p.start h).2.fin sh7 h).l.ar h x:=by
 have e:=fin_ph (T:=sh7) (h:=h) (start_ph (h:=h) I.ph).1
 have I2:=I.start.fin
 have U2:=UI.run ((p.start h).2.meas h) I.start (ui_start I h0)
 exact⟨e,I2,fun x=>⟨U2.f e x,fun hx=>hx.f⟩⟩
set_option linter.all false
theorem rd_scan (p:SC)(h:SH)(id:Int):Rd_ (p.scan h id).2.l.ar h=Rd_ p.l.ar h:=by
 unfold SC.scan
 split
 ·exact rd_same (shadeL_same (stk h id) p.l.ar p.gq) h
 ·rfl
theorem rd_step {p:SC}{h:SH}(I:TI p h)(x:Int):Rd_ (p.step sh7 h).2.l.ar h x↔Rd_ p.l.ar h x:=by
 unfold SC.step
 by_cases h1:p.ph=1
 ·rw [if_pos h1]
  cases hw:p.wh h with
  | nil=>exact Iff.rfl
  | cons id l=>simp only;rw [rd_scan]
 ·rw [if_neg h1]
  by_cases h2:p.ph=2
  ·rw [if_pos h2]
   cases hq:p.gq with
   | cons y q=>
    show Rd_ (shadeL p.l.ar q (fieldsL sh7 p.l.ar y)).1 h x↔_
    rw [rd_same (shadeL_same _ p.l.ar q)]
   | nil=>
    cases hw:p.wh h with
    | nil=>exact Iff.rfl
    | cons id l=>exact Iff.rfl
  ·rw [if_neg h2]
   by_cases h3:p.ph=3
   ·rw [if_pos h3]
    unfold SC.swept
    rcases one_cases p.l with⟨e1,_,e3⟩ | ⟨n,e1,e2,e3⟩
    ·rw [if_neg (by rw [e1];simp)]
    ·rw [e1,if_pos rfl]
     exact(rd_swe I.lv (swe_one I.lv.wf e3) (I.sw h3)).2 x
   ·rw [if_neg h3]
theorem rd_run {h:SH}(x:Int):∀ (n:Nat) {p:SC},TI p h→(Rd_ (p.run sh7 h n).l.ar h x↔Rd_ p.l.ar h x)
 | 0,p,I=>Iff.rfl
 | n+1,p,I=>by
  rw [SC.run]
  split
  ·exact(rd_run x n I.step).trans (rd_step I x)
  ·exact Iff.rfl
theorem rd_start (p:SC)(h:SH):Rd_ (p.start h).2.l.ar h=Rd_ p.l.ar h:=by
 unfold SC.start
 split
 ·exact rd_same ((clear_same p.l.ar).trans (shadeL_same (h.L 0) p.l.ar.clear p.gq)) h
 ·rfl
theorem rd_fin {p:SC}{h:SH}(I:TI p h)(x:Int):Rd_ (p.fin sh7 h).l.ar h x↔Rd_ p.l.ar h x:=rd_run x (p.meas h) I
def Kp (p:SC)(x:Int):Prop:=Fd p.l.ar x∧(shB p.ph=true→Mk_ p.l.ar x)∧(p.l.u (spanOf x)=true→Mk_ p.l.ar x)
structure Ev (p q:SC):Prop where
 len:q.l.ar.sp.length=p.l.ar.sp.length
 nd:p.gq.Nodup→q.gq.Nodup
 kp:p.ph≠0→∀ x,Kp p x→Kp q x
theorem Ev.refl (p:SC):Ev p p:=⟨rfl,id,fun _ _=>id⟩
theorem Ev.trans {p q r:SC}(E:Ev p q)(F:Ev q r)(hp:p.ph≠0→q.ph≠0):Ev p r:=
 ⟨F.len.trans E.len,fun h=>F.nd (E.nd h),fun h x hx=>F.kp (hp h) x (E.kp h x hx)⟩
set_option linter.all false
structure Evh (p:SC)(h:SH)(q:SC)(h':SH):Prop where
 ev:Ev p q
 ms:h'.ms=h.ms∨∃ ad,h'.ms=h.ms ++ [ad]∧Kp q ad
theorem Ev.h {p q:SC}(E:Ev p q){h h':SH}(e:h'.ms=h.ms):Evh p h q h':=⟨E,.inl e⟩
theorem take_ph (p:SC)(n:Int):(p.take n).2.ph=p.ph∧(p.take n).2.dn=p.dn:=by unfold SC.take;simp only;split<;>exact⟨rfl,rfl⟩
theorem barrier_ph (p:SC)(o b id:Int):(p.barrier o b id).ph=p.ph∧(p.barrier o b id).dn=p.dn:=by
 unfold SC.barrier
 split
 ·split<;>exact⟨rfl,rfl⟩
 ·exact⟨rfl,rfl⟩
theorem act_ph {p:SC}{h:SH}(x:Ac)(h1:x.op≠1)(h2:x.op≠2)(h3:x.op≠3)(h8:x.op≠8):(act sh7 p p h x).2.1.ph=p.ph∧(act sh7 p p h x).2.1.dn=p.dn:=by
 have same:p.ph=p.ph∧p.dn=p.dn:=⟨rfl,rfl⟩
 unfold act
 split
 ·unfold takA
  split
  ·exact same
  split
  ·exact take_ph p _
  split
  ·exact take_ph p _
  ·exact take_ph p _
 split
 ·unfold wrF
  split
  ·exact same
  split
  ·exact same
  split
  ·exact same
  split
  ·exact same
  split
  ·exact same
  split
  ·split<;>exact same
  ·exact barrier_ph p _ _ _
 split
 ·exact same
 split
 ·unfold globA
  split
  ·exact same
  split
  ·exact barrier_ph p _ _ _
  ·exact barrier_ph p _ _ _
 split
 ·unfold bornA
  split
  ·exact same
  ·unfold SC.born
   split<;>exact same
 split
 ·exact same
 exact same
theorem act_ph0 {p:SC}{h:SH}(I:TI p h)(x:Ac)(h0:p.ph=0)(h1:x.op≠1)(h2:x.op≠2)(h3:x.op≠3):(act sh7 p p h x).2.1.ph=0:=by
 by_cases h8:x.op=8
 ·unfold act
  simp only [h8,show((8:Int)=0)=False by simp,show((8:Int)=1)=False by simp,show((8:Int)=2)=False by simp,show((8:Int)=3)=False by simp,show((8:Int)=4)=False by simp,show((8:Int)=9)=False by simp,show((8:Int)=5)=False by simp,show((8:Int)=6)=False by simp,show((8:Int)=7)=False by simp,show((8:Int)=10)=False by simp,or_self,if_false,if_true]
  exact whole_ph I.ph
 ·rw [(act_ph x h1 h2 h3 h8).1];exact h0
set_option linter.all false
structure Rs (r q:SC):Prop where
 gq:q.gq=r.gq
 bl:q.bl=r.bl
 ph:q.ph=r.ph
 un:q.l.un=r.l.un
theorem Rs.refl (r:SC):Rs r r:=⟨rfl,rfl,rfl,rfl⟩
end Go.Ab.F
