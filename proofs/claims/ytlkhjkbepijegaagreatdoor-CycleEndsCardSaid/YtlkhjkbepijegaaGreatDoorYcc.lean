import Derived.Test.YtlkhjkbepijegaaGreatDoorYcb
import Derived.Test.YtlkhjkbepijegaaGreatDoorWdn
namespace Go.Ab.F
open Go Go.Ab
set_option linter.all false
set_option linter.all false
attribute [local congr] c_bind c_cl c_mk c_lp c_clC c_gQ c_gV c_condE c_thenK
def SC.wr (p:SC)(ad k v:Int):SC:=⟨⟨(p.l.ar.write ad k v).2,p.l.un⟩,p.gq,p.ph,p.bl,p.dn⟩
section
variable {g g':Heap}{C D K:Nat→Nat}{v:Vb}{p r:SC}{h:SH}{T:List Shp}{Z:List Nat}{c:Nat}{vG vI vS x:AV}
theorem Wi.wrote (W:Wi g C D K v p r h T Z)(ad k y:Int) :
  Ok (Ag (.ptr (some (C 6,0))) (.int .i64 ad) (.int .i64 k) (.int .i64 y) g) fun s=>∃ e:Int,s.1 = .int .i64 e∧Wi s.2 C D K v (p.wr ad k y) r h T Z∧KpX Z g s.2:=by
 refine(write_ok W.j.pm.al.ar ad k y).mono ?_
 rintro⟨_,g'⟩ ⟨rfl,A,s⟩
 simp only at A s
 have hsp:=write_sp p.l.ar ad k y
 obtain⟨H,kx⟩:=W.j.pm.turn (l':=⟨(p.l.ar.write ad k y).2,p.l.un⟩) (s.sub (by simp)) (W.j.pm.al.arena (s.sub (by simp)) A (by rw [hsp])) (write_wf W.j.pm.wf ad k y)
 obtain⟨P',kz⟩:=W.prog H kx
 exact⟨_,rfl,P',kz⟩
theorem arena_eq (W:Wi g C D K v p r h T Z):AR (.ptr (some (K 0,0))) g=some (.ptr (some (C 6,0)),g):=by
 simp -implicitDefEqProofs only [AR,nilV_ptr,Option.bind_some,faP_ptr,Nat.zero_add,W.c 0 _ (fun _=>rfl)]
theorem table_eq (W:Wi g C D K v p r h T Z):AU (.ptr (some (K 0,0))) g=some (.ptr (some (C 2,0)),g):=by
 simp -implicitDefEqProofs only [AU,nilV_ptr,Option.bind_some,faP_ptr,Nat.zero_add,W.c 1 _ (fun _=>rfl)]
theorem phase_eq (W:Wi g C D K v p r h T Z):AP (.ptr (some (K 0,0))) g=some (.int .i64 p.ph,g):=by
 simp -implicitDefEqProofs only [AP,nilV_ptr,Option.bind_some,faP_ptr,Nat.zero_add,W.c 4 _ (fun _=>rfl)]
theorem done_eq (W:Wi g C D K v p r h T Z):Bi (.ptr (some (K 0,0))) g=some (.int .i64 p.dn,g):=by
 simp -implicitDefEqProofs only [Bi,nilV_ptr,Option.bind_some,faP_ptr,Nat.zero_add,W.c 6 _ (fun _=>rfl)]
theorem pput_ok (W:Wi g C D K v p r h T Z){ad k y:Int}(hy:wf64 y)(hk:0≤k) :
  Ok (Bw (.ptr (some (K 3,0))) (.int .i64 ad) (.int .i64 k) (.int .i64 y) g) fun s=>∃ v',Wi s.2 C D K v' (p.wr ad k y) (r.wr ad k y) h T Z∧KpX Z g s.2:=by
 refine Ok.eq ?_ (by simp -implicitDefEqProofs only [Bw,nilV_ptr,Option.bind_some,faP_ptr,Nat.zero_add,W.pl3 0 _ rfl,arena_eq W,cl_some]<;>rfl)
 refine ok_cl (W.wrote ad k y) ?_
 rintro _ g1 ⟨e,rfl,W1,k1⟩
 simp only at W1 k1
 refine Ok.eq ?_ (by simp -implicitDefEqProofs only [nilV_ptr,Option.bind_some,faP_ptr,Nat.zero_add,W1.pl3 1 _ rfl,W1.rd 0 _ (fun _ _=>rfl)]<;>rfl)
 refine ok_cl (rfind_ok W1.j.rk.ar ad) ?_
 rintro _ _ he
 cases he
 have R:=W1.j.rk.rel
 cases hf:findIx ad v.L 0 with
 | none=>
  have hn:=(R.ix ad).1 hf
  have z : ¬ (0:Int)≤-1:=by omega
  refine ok_val (v:=.tup []) (g:=g1) (by simp -implicitDefEqProofs only [ixV,bin_geq,z,decide_false,gdW_ft,gQ_false,pickP_bool,Bool.false_eq_true,if_false,Option.bind_some,condE_false]) ⟨v,?_,k1⟩
  unfold SC.wr at W1 ⊢
  rw [write_none (word_no hn k)]
  exact W1
 | some i=>
  obtain⟨t,ht,hta,hl,hm⟩:=R.ixs hf
  have htm:=List.mem_of_getElem? ht
  obtain⟨vv,lv,hln,_,_,hrow⟩:=W1.j.rk.ar.ls
  have lv0:=lv (Same.refl [] g1)
  obtain⟨bb,hb,hix,hld⟩:=hrow i t ht
  have ld:=(hld (Same.refl [] g1)).2 1 _ rfl
  obtain⟨wix,_⟩:=W1.j.rk.ar.wds ht
  have z:(0:Int)≤(i:Int):=by omega
  have lw:lnL (.sl (some (t.wb,0)) t.W.length (.ex t.W.length))=some (.int .i64 t.W.length):=rfl
  refine Ok.eq ?_ (by simp -implicitDefEqProofs only [ixV,bin_geq,z,decide_true,gdW_tt,gQ_true,cl_some,Option.bind_some,nilV_ptr,faP_ptr,Nat.zero_add,W1.pl3 1 _ rfl,W1.rd 0 _ (fun _ _=>rfl),lv0,hix,ld,lw,bin_lss,pickP_bool,if_true]<;>rfl)
  by_cases hkt:k<t.W.length
  ·obtain⟨a',hwr,R'⟩:=rel_write R ht (k:=k) ⟨hk,hkt⟩ y
   rw [hta] at hwr
   have ek:((k.toNat:Nat):Int)=k:=by omega
   have wix':=wix .i64 k.toNat (by omega)
   rw [ek] at wix'
   obtain⟨st,RA,kx⟩:=W1.j.rk.ar.setw ht (k:=k.toNat) (by omega) y
   have hsp:a'.sp.length=r.l.ar.sp.length:=by have:=write_sp r.l.ar ad k y;rw [hwr] at this;simp only at this;rw [this]
   obtain⟨H',k'⟩:=W1.j.rk.arena RA kx R' hsp
   obtain⟨W2,k2⟩:=W1.doc H' k' (W1.ww.setw ht _ hy)
   have er:r.wr ad k y=⟨⟨a',r.l.un⟩,r.gq,r.ph,r.bl,r.dn⟩:=by unfold SC.wr;rw [hwr]
   rw [er]
   exact ok_val (v:=.tup []) (by simp -implicitDefEqProofs only [hkt,decide_true,condE_true,nilV_ptr,faP_ptr,Nat.zero_add,Option.bind_some,W1.pl3 1 _ rfl,W1.rd 0 _ (fun _ _=>rfl),lv0,hix,ld,wix',st,cl_some]<;>rfl) ⟨_,W2,k1.trans k2⟩
  ·refine ok_val (v:=.tup []) (g:=g1) (by simp -implicitDefEqProofs only [hkt,decide_false,condE_false]) ⟨v,?_,k1⟩
   have hw:r.l.ar.word ad k=none:=by
    have:=hl.word R.wf k
    rw [if_neg (fun h=>hkt h.2)] at this
    exact this
   unfold SC.wr at W1 ⊢
   rw [write_none hw]
   exact W1
def heldI (h:SH)(k:Nat)(b:Int):Int:=if (h.L (k+1)).length=0∨b < 0 then 0 else((h.L (k+1))[(b % (h.L (k+1)).length).toNat]?).getD 0
theorem held_ok (W:Wi g C D K v p r h T Z)(hs:h.sm){k:Nat}(hk:k < 4)(b:Int):AY (.ptr (some (K 3,0))) (.int .i64 k) (.int .i64 b) g=some (.int .i64 (heldI h k b),g):=by
 obtain⟨x,l0,hx⟩:=W.ls (k:=k+1) (by omega)
 have hl:=hs (k+1) (by omega)
 have ia:iaA 4 1 (.ptr (some (K 4,1))) (.int .i64 (k:Int))=some (.ptr (some (K 4,k+1))):=by
  rw [iaA_ptr,if_pos ⟨by omega,by omega⟩]
  have:1+(k:Int).toNat * 1=k+1:=by omega
  rw [this]
 have ln:=hx.lnL
 unfold heldI
 by_cases h0:(h.L (k+1)).length=0
 ·rw [if_pos (.inl h0)]
  have z:decide (((h.L (k+1)).length:Int)=0)=true:=by simp only [decide_eq_true_eq];omega
  simp -implicitDefEqProofs only [AY,nilV_ptr,Option.bind_some,faP_ptr,Nat.zero_add,W.pl3 2 _ rfl,ia,l0,ln,eql_int,z,gdW_tf,gQ_false,pickP_bool,if_true,condE_true]
 ·have z:decide (((h.L (k+1)).length:Int)=0)=false:=by simp only [decide_eq_false_iff_not];omega
  by_cases hb:b < 0
  ·rw [if_pos (.inr hb)]
   simp -implicitDefEqProofs only [AY,nilV_ptr,Option.bind_some,faP_ptr,Nat.zero_add,W.pl3 2 _ rfl,ia,l0,ln,eql_int,z,gdW_ff,gQ_true,cl_some,bin_lss,hb,decide_true,pickP_bool,Bool.false_eq_true,if_false,condE_true]
  ·rw [if_neg (by omega)]
   have hrem:binP .rem (.int .i64 b) (.int .i64 ((h.L (k+1)).length:Int))=some (.int .i64 (b % (h.L (k+1)).length)):=by
    rw [bin_rem,if_neg (by omega),Int.tmod_eq_emod_of_nonneg (by omega)]
   have h1:=Int.emod_nonneg b (b:=((h.L (k+1)).length:Int)) (by omega)
   have h2:=Int.emod_lt_of_pos b (b:=((h.L (k+1)).length:Int)) (by omega)
   obtain⟨y,hy⟩:∃ y,(h.L (k+1))[(b % (h.L (k+1)).length).toNat]?=some y:=⟨_,List.getElem?_eq_getElem (by omega)⟩
   have hI:Ird g (v.lb (k+1)).toList x (h.L (k+1)):=ird_slg hx (fun j hj=>by simp [hj])
   obtain⟨q,hix,hld⟩:=hI.2 _ y hy
   have ld:=hld g (KpX.refl _ _)
   have ix:=hix .i64
   have e:(((b % (h.L (k+1)).length).toNat:Nat):Int)=b % (h.L (k+1)).length:=by omega
   rw [e] at ix
   rw [hy]
   simp -implicitDefEqProofs only [AY,nilV_ptr,Option.bind_some,faP_ptr,Nat.zero_add,W.pl3 2 _ rfl,ia,l0,ln,eql_int,z,gdW_ff,gQ_true,cl_some,bin_lss,hb,decide_false,pickP_bool,Bool.false_eq_true,if_false,condE_false,hrem,ix,ld,chk_nil,Option.getD_some]
end
set_option linter.all false
attribute [local congr] c_bind c_cl c_mk c_lp c_clC c_gQ c_gV c_condE c_thenK
def SH.set (h:SH)(i:Nat)(L:List Int):SH:=⟨upd h.L i L,h.on,h.ms⟩
section
variable {g g':Heap}{C D K:Nat→Nat}{v:Vb}{p r:SC}{h:SH}{T:List Shp}{Z:List Nat}{c:Nat}{vG vI vS x:AV}
theorem Wi.stL (W:Wi g C D K v p r h T Z){i:Nat}(hi:i < 5){g1:Heap}{b':Nat}{v':AV}{L':List Int}(H:SlG g1 (some b') 1 v' (wsC L') L'.length)(s:Same (v.lb i).toList g g1)(h1:g.next≤b')(h2:b'<g1.next) :
  ∃ g2 v2,stP 1 g1 (.ptr (some (K 4,i))) v'=some (.bot,g2)∧Wi g2 C D K v2 p r (h.set i L') T Z∧KpX Z g g2:=by
 obtain⟨w,hw,_⟩:=W.y.ho
 obtain⟨st,Y⟩:=W.y.setL hi hw s (fun j hj=>by simpa using hj) (b:=some b') (fun j hj=>by cases hj;exact .inr ⟨h1,h2⟩) H
 obtain⟨W2,k2⟩:=W.list (k:=i) (c:=4) (by omega) (by omega) s (fun j hj=>.inl (by simpa using hj)) (fun j hj=>by cases hj;exact .inr h1) Y
 exact⟨_,_,st,W2,k2⟩
theorem Wi.pl3' (W:Wi g C D K v p r h T Z){i:Nat}(hi:i < 7){g1:Heap}(s:Same (v.lb i).toList g g1)(k:Nat)(y:AV)(hy : [AV.ptr (some (K 0,0)),.ptr (some (K 2,0)),.ptr (some (K 4,0))][k]?=some y):ldS g1 (.ptr (some (K 3,k)))=some y:=by
 obtain⟨v3,p1,_⟩:=W.y.pl
 have e:=s.get _ (W.y.lt 3 (by omega)).1 (fun hm=>by rw [Option.mem_toList] at hm;exact(W.y.lbl i hi _ hm).2.2 3 (by omega) rfl)
 have:=W.pl3 k y hy
 rw [ldS_at p1] at this
 rw [ldS_at (e.trans p1)];exact this
theorem hold_app {R:Type}(W:Wi g C D K v p r h T Z)(hs:h.sm){i:Nat}(hi:i < 5)(hx:ldS g (.ptr (some (K 4,i)))=some x)(y:Int){Kk:Heap→Heap→Option R}{Q:R→Prop}
  (hk:∀ v' g1 g2,Wi g2 C D K v' p r (h.set i (h.L i ++ [y])) T Z→KpX Z g g2→ldS g1 (.ptr (some (K 3,2)))=some (.ptr (some (K 4,0)))→Ok (Kk g1 g2) Q) :
  Ok (mk Heap.new (bsP 1 [AV.int .i64 0] 1 [(0,.int .i64 y)]) g fun t h0=>cl (appendA h0 1 8 x t) fun v' g1=>cl (stP 1 g1 (.ptr (some (K 4,i))) v') fun u g2=>Kk g1 g2) Q:=by
 obtain⟨x',l0,hx'⟩:=W.ls hi
 have e:x=x':=by rw [hx] at l0;exact Option.some.inj l0
 subst e
 have hl:=hs i hi
 refine app_own hx' (by omega) fun v' b' g1 H s h1 h2=>?_
 obtain⟨g2,v2,st,W2,k2⟩:=W.stL hi H s h1 h2
 rw [st,cl_some]
 exact hk v2 g1 g2 W2 k2 (W.pl3' (by omega) s 2 _ rfl)
theorem hold_lit {R:Type}(W:Wi g C D K v p r h T Z){i:Nat}(hi:i < 5){xs:List Int}(hc:countA x=some xs.length)(ha:∀ g',Same [] g g'→addedA g' 1 x=some (wsC xs))(hl:xs.length≤2 ^ 40){Kk:Heap→Heap→Option R}{Q:R→Prop}
  (hk:∀ v' g1 g2,Wi g2 C D K v' p r (h.set i xs) T Z→KpX Z g g2→ldS g1 (.ptr (some (K 3,2)))=some (.ptr (some (K 4,0)))→Ok (Kk g1 g2) Q) :
  Ok (mk Heap.new (bsP 1 [AV.int .i64 0] 0 []) g fun t h0=>cl (appendA h0 1 8 t x) fun v' g1=>cl (stP 1 g1 (.ptr (some (K 4,i))) v') fun u g2=>Kk g1 g2) Q:=by
 refine lit_app hc ha hl fun v' g1 hF=>?_
 obtain⟨b,h1,h2,h3⟩:=hF
 obtain⟨w,hw,_⟩:=W.y.ho
 obtain⟨st,Y⟩:=W.y.setL hi hw (g1:=g1) (S:=[]) h2 (by simp) (b:=b) (fun j hj=>.inr ⟨h3 j hj,h1.lt hj⟩) h1
 obtain⟨W2,k2⟩:=W.list (k:=i) (c:=4) (by omega) (by omega) h2 (by simp) (fun j hj=>.inr (h3 j hj)) Y
 rw [st,cl_some]
 refine hk _ g1 _ W2 k2 ?_
 exact(W.keep h2).pl3 2 _ rfl
end
structure Ac where
 op:Int
 id:Int
 a:Int
 b:Int
 f:Int
 n:Int
 sh:Int
 wd:Int
def Ac.row (x:Ac)(sv:AV):List AV:=[.int .i64 x.op,.int .i64 x.id,.int .i64 x.a,.int .i64 x.b,.int .i64 x.f,.int .i64 x.n,.int .i64 x.sh,.int .i64 x.wd,sv]
def shpT (T:List Shp)(n:Int):Option Shp:=if n < 0 then none else T[n.toNat]?
def wrF (T:List Shp)(p r:SC)(h:SH)(x:Ac)(k:Nat):Bool × SC × SC × SH:=
 if heldI h k x.a=0∨h.on k=false∨x.f < 0 then(true,p,r,h) else
 if (p.l.ar.read (heldI h k x.a) 0).2≠0 then(false,p,r,h) else
 match unp (p.l.ar.read (heldI h k x.a) 0).1 with
 | none=>(false,p,r,h)
 | some (n,_,sh)=>
  match shpT T sh with
  | none=>(false,p,r,h)
  | some s=>
   if holdsB s (x.f % 64) n=false then(true,p,r,h) else
   if x.op=9 then
    (if (p.l.ar.read (heldI h k x.a) (1+x.f % 64)).1=0 then(true,p,r,h) else(true,p,r,h.set (k+1) (h.L (k+1) ++ [(p.l.ar.read (heldI h k x.a) (1+x.f % 64)).1])))
   else(true,(p.barrier (p.l.ar.read (heldI h k x.a) (1+x.f % 64)).1 (heldI h k x.b) (k+1)).wr (heldI h k x.a) (1+x.f % 64) (heldI h k x.b),(r.barrier (p.l.ar.read (heldI h k x.a) (1+x.f % 64)).1 (heldI h k x.b) (k+1)).wr (heldI h k x.a) (1+x.f % 64) (heldI h k x.b),h)
theorem shapeV_eq (T:List Shp)(n:Int):shapeV T n=match shpT T n with | some s=>.tup [.agg s.row,.int .i64 0] | none=>.tup [.agg (⟨0,0,0⟩:Shp).row,.int .i64 4]:=by
 unfold shapeV shpT
 by_cases h:n < 0
 ·rw [if_pos h,if_pos h]
 ·rw [if_neg h,if_neg h]
  cases T[n.toNat]?<;>rfl
set_option linter.all false
attribute [local congr] c_bind c_cl c_mk c_lp c_clC c_gQ c_gV c_condE c_thenK
theorem bin_rem64 {n:Int}(h:0≤n):binP .rem (.int .i64 n) (.int .i64 64)=some (.int .i64 (n % 64)):=by
 rw [bin_rem,if_neg (by omega),Int.tmod_eq_emod_of_nonneg h]
section
variable {g g':Heap}{C D K:Nat→Nat}{v:Vb}{p r:SC}{h:SH}{T:List Shp}{Z:List Nat}{c:Nat}{vG vI vS x:AV}
def wrEnd (p r:SC)(h:SH)(x:Ac)(k:Nat):Bool × SC × SC × SH:=
 if x.op=9 then
  (if (p.l.ar.read (heldI h k x.a) (1+x.f % 64)).1=0 then(true,p,r,h) else(true,p,r,h.set (k+1) (h.L (k+1) ++ [(p.l.ar.read (heldI h k x.a) (1+x.f % 64)).1])))
 else(true,(p.barrier (p.l.ar.read (heldI h k x.a) (1+x.f % 64)).1 (heldI h k x.b) (k+1)).wr (heldI h k x.a) (1+x.f % 64) (heldI h k x.b),(r.barrier (p.l.ar.read (heldI h k x.a) (1+x.f % 64)).1 (heldI h k x.b) (k+1)).wr (heldI h k x.a) (1+x.f % 64) (heldI h k x.b),h)
structure Sz2 (p r:SC)(h:SH):Prop where
 sm:h.sm
 qp:p.gq.length≤2 ^ 28
 qr:r.gq.length≤2 ^ 28
 bp:p.bl.length≤2 ^ 28
 br:r.bl.length≤2 ^ 28
theorem pwrite_ok (W:Wi g C D K v p r h T Z)(S:Sz2 p r h){k:Nat}(hk:k < 4)(a:Ac){sv:AV}(hsv:scalar sv=true)(hb64:wf64 (heldI h k a.b)) :
  Ok (BQ (.ptr (some (K 3,0))) (.agg (a.row sv)) (.int .i64 k) g) fun s=>s.1 = .bool (wrF T p r h a k).1∧∃ v',Wi s.2 C D K v' (wrF T p r h a k).2.1 (wrF T p r h a k).2.2.1 (wrF T p r h a k).2.2.2 T Z∧KpX Z g s.2:=by
 have bx:bxP (.agg (a.row sv))=some (.cells true (a.row sv),fun i=>.ptr (some (i,0))):=by simp [bxP,AV.cells,Ac.row,hsv];exact⟨rfl,rfl,rfl,rfl,rfl,rfl,rfl,rfl⟩
 have hz:∀ j∈Z,j∈g.next::Z:=fun j hj=>List.mem_cons_of_mem _ hj
 refine Ok.eq ?_ (by simp -implicitDefEqProofs only [BQ,bx,mk_some]<;>rfl)
 have s01:Same [] g (g.new (.cells true (a.row sv))):=Same.new _ _
 have W1:=W.addZ s01 (Nat.le_refl g.next) (Nat.lt_succ_self _)
 have c1:(g.new (.cells true (a.row sv))).get g.next=some (.cells true (a.row sv)):=get_new_eq
 have n1:(g.new (.cells true (a.row sv))).next=g.next+1:=rfl
 generalize g.new (.cells true (a.row sv))=g1 at *
 have k01:=KpX.same (X:=Z) s01
 have row:∀ {g2:Heap},KpX (g.next::Z) g1 g2→∀ (i:Nat) y,(a.row sv)[i]?=some y→ldS g2 (.ptr (some (g.next,i)))=some y:=fun k i y hy=>by
  rw [ldS_at ((k.get g.next (List.mem_cons_self ..) (by omega)).trans c1)];exact hy
 have r1:=row (KpX.refl _ _)
 have hA:=held_ok W1 S.sm hk a.a
 have hB:=held_ok W1 S.sm hk a.b
 have ho:=W1.on hk
 have ia:iaA 4 1 (.ptr (some (K 4,5))) (.int .i64 (k:Int))=some (.ptr (some (K 4,5+k))):=by
  rw [iaA_ptr,if_pos ⟨by omega,by omega⟩];simp
 have fin:∀ {g2:Heap} {v':Vb} {p' r':SC} {h':SH},Wi g2 C D K v' p' r' h' T (g.next::Z)→KpX (g.next::Z) g1 g2→∃ v',Wi g2 C D K v' p' r' h' T Z∧KpX Z g g2:=fun W2 k2=>⟨_,W2.subZ hz W.z0,k01.trans (k2.sub hz)⟩
 refine Ok.eq ?_ (by simp -implicitDefEqProofs only [faP_ptr,Nat.zero_add,Option.bind_some,r1 2 _ rfl,r1 3 _ rfl,hA,hB,cl_some,eql_int]<;>rfl)
 unfold wrF
 by_cases h0:heldI h k a.a=0
 ·rw [if_pos (.inl h0)]
  exact ok_val (v:=.bool true) (g:=g1) (by simp -implicitDefEqProofs only [h0,decide_true,gdW_tf,gQ_false,pickP_bool,if_true,Option.bind_some,condE_true]) ⟨rfl,fin W1 (KpX.refl _ _)⟩
 cases hon:h.on k with
 | false=>
  rw [hon] at ho
  rw [if_pos (.inr (.inl rfl))]
  exact ok_val (v:=.bool true) (g:=g1) (by simp -implicitDefEqProofs only [h0,decide_false,gdW_ff,gQ_true,cl_some,nilV_ptr,faP_ptr,Nat.zero_add,W1.pl3 2 _ rfl,ia,ho,un_not,Bool.not_false,gdW_tf,gQ_false,pickP_bool,Bool.false_eq_true,if_false,if_true,Option.bind_some,condE_true]) ⟨rfl,fin W1 (KpX.refl _ _)⟩
 | true=>
  rw [hon] at ho
  refine Ok.eq ?_ (by simp -implicitDefEqProofs only [h0,decide_false,gdW_ff,gQ_true,cl_some,nilV_ptr,faP_ptr,Nat.zero_add,W1.pl3 2 _ rfl,ia,ho,un_not,Bool.not_true,pickP_bool,Bool.false_eq_true,if_false,Option.bind_some,r1 4 _ rfl,bin_lss]<;>rfl)
  by_cases hf0:a.f < 0
  ·rw [if_pos (.inr (.inr hf0))]
   exact ok_val (v:=.bool true) (g:=g1) (by simp -implicitDefEqProofs only [hf0,decide_true,condE_true]) ⟨rfl,fin W1 (KpX.refl _ _)⟩
  rw [if_neg (by rintro(h | h | h)<;>first | exact h0 h | cases h | exact hf0 h)]
  have rd:=read_eq W1.j.pm.al.ar (heldI h k a.a) 0
  refine Ok.eq ?_ (by simp -implicitDefEqProofs only [hf0,decide_false,condE_false,nilV_ptr,faP_ptr,Nat.zero_add,Option.bind_some,W1.pl3 0 _ rfl,arena_eq W1,cl_some,rd,extractV_tup,e0,e1]<;>rfl)
  refine ok_cl (unpack_ok _ g1) ?_
  rintro _ g2 ⟨rfl,s12⟩
  simp only at s12
  have hrd2:(p.l.ar.read (heldI h k a.a) 0).2≠0∨(p.l.ar.read (heldI h k a.a) 0).2=0:=by omega
  have n12:=s12.next
  -- the head's block
  have hd:∃ (n kd sh e:Int),unpV (p.l.ar.read (heldI h k a.a) 0).1 = .tup [.agg (hdC n kd sh),.int .i64 e]∧((e=3∧unp (p.l.ar.read (heldI h k a.a) 0).1=none)∨(e=0∧unp (p.l.ar.read (heldI h k a.a) 0).1=some (n,kd,sh))):=by
   unfold unpV
   cases hu:unp (p.l.ar.read (heldI h k a.a) 0).1 with
   | none=>exact⟨0,0,0,3,rfl,.inl ⟨rfl,rfl⟩⟩
   | some x=>obtain⟨n,kd,sh⟩:=x;exact⟨n,kd,sh,0,rfl,.inr ⟨rfl,rfl⟩⟩
  obtain⟨n,kd,sh,e,hu,he⟩:=hd
  rw [hu]
  refine Ok.eq ?_ (by simp -implicitDefEqProofs only [extractV_tup,e0,e1,Option.bind_some,mk_some]<;>rfl)
  have s23:Same [] g2 (g2.new (.cells true [(AV.int .i64 0),(AV.int .i64 0),(AV.int .i64 0)])):=Same.new _ _
  have c3:(g2.new (.cells true [(AV.int .i64 0),(AV.int .i64 0),(AV.int .i64 0)])).get g2.next=some (.cells true [(AV.int .i64 0),(AV.int .i64 0),(AV.int .i64 0)]):=get_new_eq
  have n3:(g2.new (.cells true [(AV.int .i64 0),(AV.int .i64 0),(AV.int .i64 0)])).next=g2.next+1:=rfl
  generalize g2.new (.cells true [(AV.int .i64 0),(AV.int .i64 0),(AV.int .i64 0)])=g3 at *
  have st3:stP 3 g3 (.ptr (some (g2.next,0))) (.agg (hdC n kd sh))=some (.bot,g3.put g2.next (some (.cells true (hdC n kd sh)))):=stP_all c3 rfl rfl rfl
  refine Ok.eq ?_ (by simp -implicitDefEqProofs only [st3,cl_some,neq_int]<;>rfl)
  have s34:Same [g2.next] g3 (g3.put g2.next (some (.cells true (hdC n kd sh)))):=Same.put _ _ _
  have c4:(g3.put g2.next (some (.cells true (hdC n kd sh)))).get g2.next=some (.cells true (hdC n kd sh)):=get_put_eq
  have n4:(g3.put g2.next (some (.cells true (hdC n kd sh)))).next=g3.next:=rfl
  generalize g3.put g2.next (some (.cells true (hdC n kd sh)))=g4 at *
  have s14:Same [] g1 g4:=(s12.trans s23).old s34 (fun j hj=>by simp at hj;right;omega)
  have W4:=W1.keep s14
  by_cases hr:(p.l.ar.read (heldI h k a.a) 0).2≠0
  ·rw [if_pos hr]
   have hr' : ¬ (p.l.ar.read (heldI h k a.a) 0).2=0:=hr
   exact ok_val (v:=.bool false) (g:=g4) (by simp -implicitDefEqProofs only [hr',decide_false,Bool.not_false,gdW_tf,gQ_false,pickP_bool,if_true,Option.bind_some,condE_true]) ⟨rfl,fin W4 (KpX.same s14)⟩
  rw [if_neg hr]
  have hr':(p.l.ar.read (heldI h k a.a) 0).2=0:=by omega
  rcases he with⟨rfl,hun⟩ | ⟨rfl,hun⟩
  ·rw [hun]
   have z30 : ¬ (3:Int)=0:=by omega
   exact ok_val (v:=.bool false) (g:=g4) (by simp -implicitDefEqProofs only [hr',decide_true,Bool.not_true,gdW_ff,gQ_true,cl_some,neq_int,z30,decide_false,Bool.not_false,pickP_bool,Bool.false_eq_true,if_false,Option.bind_some,condE_true]) ⟨rfl,fin W4 (KpX.same s14)⟩
  rw [hun]
  simp only
  have hmay:=unp_may hun
  have sp:=hpN_same g4 1
  have W5:=W4.keep sp
  have l2:ldS (hpN g4 1) (.ptr (some (g2.next,0+2)))=some (.int .i64 sh):=by rw [ldS_at (show(hpN g4 1).get g2.next=_ from c4)];rfl
  refine Ok.eq ?_ (by simp -implicitDefEqProofs only [hr',decide_true,Bool.not_true,gdW_ff,gQ_true,cl_some,neq_int,pickP_bool,Bool.false_eq_true,if_false,Option.bind_some,condE_false,nilV_ptr,faP_ptr,Nat.zero_add,W5.pl3 0 _ rfl,table_eq W5,rdC_some (f:=fun g=>ldS g (.ptr (some (g2.next,2)))) (h:=hpN g4 1) (by simpa using l2),clC_some]<;>rfl)
  refine ok_cl (shape_ok W5.j.pm.tab sh) ?_
  rintro _ g6 ⟨rfl,s56⟩
  simp only at s56
  have s46:Same [] g4 g6:=sp.trans s56
  have n46:g4.next+1≤g6.next:=s56.next
  have hsp:∃ (sr:Shp) (ge:Int),shapeV T sh = .tup [.agg sr.row,.int .i64 ge]∧((ge=4∧shpT T sh=none)∨(ge=0∧shpT T sh=some sr)):=by
   rw [shapeV_eq]
   cases shpT T sh with
   | none=>exact⟨_,4,rfl,.inl ⟨rfl,rfl⟩⟩
   | some s=>exact⟨s,0,rfl,.inr ⟨rfl,rfl⟩⟩
  obtain⟨sr,ge,hsv2,hge⟩:=hsp
  rw [hsv2]
  refine Ok.eq ?_ (by simp -implicitDefEqProofs only [extractV_tup,e0,e1,Option.bind_some,mkAt_some,cl_some]<;>rfl)
  have s67:Same [g4.next] g6 (g6.put (g4.next+0) (some (.cells true [(AV.int .i64 0),(AV.int .i64 0),(AV.int .u64 0)]))):=Same.put _ _ _
  have c7:(g6.put (g4.next+0) (some (.cells true [(AV.int .i64 0),(AV.int .i64 0),(AV.int .u64 0)]))).get g4.next=some (.cells true [(AV.int .i64 0),(AV.int .i64 0),(AV.int .u64 0)]):=get_put_eq
  generalize g6.put (g4.next+0) (some (.cells true [(AV.int .i64 0),(AV.int .i64 0),(AV.int .u64 0)]))=g7 at *
  have st7:stP 3 g7 (.ptr (some (g4.next,0))) (.agg sr.row)=some (.bot,g7.put g4.next (some (.cells true sr.row))):=stP_all c7 rfl rfl rfl
  have s78:Same [g4.next] g7 (g7.put g4.next (some (.cells true sr.row))):=Same.put _ _ _
  have c8:(g7.put g4.next (some (.cells true sr.row))).get g4.next=some (.cells true sr.row):=get_put_eq
  refine Ok.eq ?_ (by simp -implicitDefEqProofs only [Nat.add_zero,st7,cl_some]<;>rfl)
  generalize g7.put g4.next (some (.cells true sr.row))=g8 at *
  have s48:Same [] g4 g8:=s46.old (s67.trans s78) (fun j hj=>by simp at hj;right;omega)
  have s18:=s14.trans s48
  have k18:=KpX.same (X:=g.next::Z) s18
  have l3:ldS g4 (.ptr (some (g2.next,2)))=some (.int .i64 sh):=by rw [ldS_at c4];rfl
  have W8:=W1.keep s18
  have c8':g8.get g2.next=some (.cells true (hdC n kd sh)):=(s48.get _ (by omega) (by simp)).trans c4
  rw [chk_two (same_int _ _) (by simpa using l2) (by simpa using l2)]
  refine Ok.eq ?_ (by simp -implicitDefEqProofs only [faP_ptr,Nat.zero_add,Option.bind_some,row k18 4 _ rfl,bin_rem64 (show 0≤a.f by omega),neq_int]<;>rfl)
  rcases hge with⟨rfl,hsh⟩ | ⟨rfl,hsh⟩
  ·rw [hsh]
   have z40 : ¬ (4:Int)=0:=by omega
   exact ok_val (v:=.bool false) (g:=g8) (by simp -implicitDefEqProofs only [z40,decide_false,Bool.not_false,gdW_tf,gQ_false,pickP_bool,if_true,Option.bind_some,condE_true,eql_int]) ⟨rfl,fin W8 k18⟩
  rw [hsh]
  simp only
  have la8:=ldA_row c8
  have ln8:ldS g8 (.ptr (some (g2.next,0)))=some (.int .i64 n):=by rw [ldS_at c8'];rfl
  refine Ok.eq ?_ (by simp -implicitDefEqProofs only [decide_true,Bool.not_true,gdW_ff,gQ_true,cl_some,Option.bind_some,la8,faP_ptr,Nat.zero_add,ln8]<;>rfl)
  refine ok_cl (P:=fun s=>s.1 = .bool (holdsB sr (a.f % 64) n)∧Same [] g8 s.2) ?_ ?_
  ·refine ok_cl (holds_ok sr (a.f % 64) n (by omega) (by have:=hmay.2.1;omega) g8) ?_
   rintro _ g9 ⟨rfl,s9⟩
   exact ok_val rfl ⟨rfl,s9⟩
  rintro _ g9 ⟨rfl,s89⟩
  simp only at s89
  have s19:=s18.trans s89
  have k19:=KpX.same (X:=g.next::Z) s19
  have W9:=W1.keep s19
  cases hh:holdsB sr (a.f % 64) n with
  | false=>
   rw [if_pos rfl]
   exact ok_val (v:=.bool true) (g:=g9) (by simp -implicitDefEqProofs only [un_not,Bool.not_false,cl_some,pickP_bool,Bool.false_eq_true,if_false,Option.bind_some,condE_true,eql_int,decide_true]) ⟨rfl,fin W9 k19⟩
  | true=>
   rw [if_neg (by simp)]
   change Ok _ fun(s:AV × Heap)=>s.1=AV.bool (wrEnd p r h a k).1∧∃ v',Wi s.2 C D K v' (wrEnd p r h a k).2.1 (wrEnd p r h a k).2.2.1 (wrEnd p r h a k).2.2.2 T Z∧KpX Z g s.2
   have hfm:binP .add (.int .i64 1) (.int .i64 (a.f % 64))=some (.int .i64 (1+a.f % 64)):=by rw [bin_add,wrap_i64 (by omega) (by omega)]
   have rd9:=read_eq W9.j.pm.al.ar (heldI h k a.a) (1+a.f % 64)
   refine Ok.eq ?_ (by simp -implicitDefEqProofs only [un_not,Bool.not_true,cl_some,pickP_bool,Bool.false_eq_true,if_false,Option.bind_some,condE_false,nilV_ptr,faP_ptr,Nat.zero_add,W9.pl3 0 _ rfl,arena_eq W9,hfm,rd9,extractV_tup,e0,e1,row k19 0 _ rfl,eql_int]<;>rfl)
   unfold wrEnd
   by_cases ho9:a.op=9
   ·rw [if_pos ho9]
    by_cases hold:(p.l.ar.read (heldI h k a.a) (1+a.f % 64)).1=0
    ·rw [if_pos hold]
     exact ok_val (v:=.bool true) (g:=g9) (by simp -implicitDefEqProofs only [ho9,decide_true,condE_true,neq_int,hold,Bool.not_true,condE_false,Option.bind_some]) ⟨rfl,fin W9 k19⟩
    ·rw [if_neg hold]
     have sp9:=hpN_same g9 1
     have W10:=W9.keep sp9
     obtain⟨y,ly,_⟩:=W9.ls (k:=k+1) (by omega)
     have ly10:ldS (hpN g9 1) (.ptr (some (K 4,k+1)))=some y:=ly
     have iak:iaA 4 1 (.ptr (some (K 4,1))) (.int .i64 (k:Int))=some (.ptr (some (K 4,k+1))):=by
      rw [iaA_ptr,if_pos ⟨by omega,by omega⟩]
      have:1+(k:Int).toNat * 1=k+1:=by omega
      rw [this]
     have lh:ldS (hpN g9 1) (.ptr (some (K 3,2)))=some (.ptr (some (K 4,0))):=W10.pl3 2 _ rfl
     refine Ok.eq (hold_app W9 S.sm (i:=k+1) (by omega) ly (p.l.ar.read (heldI h k a.a) (1+a.f % 64)).1 (Kk:=fun g1 g2=>chk [hpN g9 1,g1,g2] [((fun g=>ldS g (.ptr (some (K 3,2)))),.ptr (some (K 4,0)),0,1)] (some (.bool true,g2))) fun v' g10 g11 W11 k11 l10=>?_) (by
      simp -implicitDefEqProofs only [ho9,decide_true,condE_true,neq_int,hold,decide_false,Bool.not_false,nilV_ptr,faP_ptr,Nat.zero_add,Option.bind_some,rdC_some (f:=fun g=>ldS g (.ptr (some (K 3,2)))) (h:=hpN g9 1) lh,lh,clC_some,iak,ly10]
      rfl)
     rw [chk_two (same_ptr _) lh l10]
     exact ok_val (v:=.bool true) (g:=g11) rfl ⟨rfl,fin W11 (k19.trans k11)⟩
   ·rw [if_neg ho9]
    have hk1:binP .add (.int .i64 (k:Int)) (.int .i64 1)=some (.int .i64 ((k:Int)+1)):=by rw [bin_add,wrap_i64 (by omega) (by omega)]
    have hqp:=S.qp
    have hqr:=S.qr
    have hbr:=S.br
    refine Ok.eq ?_ (by simp -implicitDefEqProofs only [ho9,decide_false,condE_false,nilV_ptr,faP_ptr,Nat.zero_add,Option.bind_some,hk1]<;>rfl)
    refine ok_cl (cbarrier_ok W9 (by omega) _ _ ((k:Int)+1)) ?_
    rintro _ g10 ⟨v10,W10,k10⟩
    simp only at W10 k10
    refine Ok.eq ?_ (by simp -implicitDefEqProofs only [W10.pl3 1 _ rfl,Option.bind_some]<;>rfl)
    refine ok_cl (rbarrier_ok W10 (by omega) (by omega) _ _ ((k:Int)+1)) ?_
    rintro _ g11 ⟨v11,W11,k11⟩
    simp only at W11 k11
    refine Ok.eq ?_ (by first | rfl | (simp -implicitDefEqProofs only [nilV_ptr,faP_ptr,Nat.zero_add,W10.pl3 1 _ rfl,Option.bind_some,hk1]<;>rfl))
    refine ok_cl (pput_ok W11 (ad:=heldI h k a.a) (k:=1+a.f % 64) hb64 (by omega)) ?_
    rintro _ g12 ⟨v12,W12,k12⟩
    simp only at W12 k12
    exact ok_val (v:=.bool true) (g:=g12) rfl ⟨rfl,fin W12 (((k19.trans k10).trans k11).trans k12)⟩
end
set_option linter.all false
attribute [local congr] c_bind c_cl c_mk c_lp c_clC c_gQ c_gV c_condE c_thenK
theorem slc1 {g:Heap}{b:Option Nat}{v:AV}{L:List Int}(hv:SlG g b 1 v (wsC L) L.length){k:Nat}(h0:0<L.length)(hk:k≤L.length) :
  ∃ y,slcP 1 v (some (.int .i64 k)) none none=some y∧countA y=some (L.drop k).length∧∀ g':Heap,Same [] g g'→addedA g' 1 y=some (wsC (L.drop k)):=by
 have hv:=hv.slb h0
 cases b with
 | none=>have:=hv.nil rfl;omega
 | some i=>
  have e:v = .sl (some (i,0)) L.length (.un 1):=hv.eq
  obtain⟨b1,b2,b3⟩:=hv.blk i rfl
  subst e
  have hsp:wsC L=wsC (L.take k)++wsC (L.drop k):=by rw [← wsC_app,List.take_append_drop]
  have hl1:(wsC (L.take k)).length=k:=by rw [wsC_len];simp;omega
  have hl2:(wsC (L.drop k)).length=L.length-k:=by rw [wsC_len];simp
  refine⟨.sl (some (i,k)) (L.length-k) (.un 1),?_,by simp [countA],fun g' s=>?_⟩
  ·simp only [slcP,sliceUn,ne_eq,not_true_eq_false,if_false,highA,lowA,boundA,Option.bind_some]
   rw [if_pos ⟨by omega,by omega⟩]
   simp only [Option.bind_some,Int.toNat_natCast,addA,Option.map_some,Nat.zero_add,Nat.mul_one]
  ·have:loadN g' (i,k) ((L.length-k) * 1)=some (wsC (L.drop k)):=by
    simp only [loadN,s.get i b1 (by simp),b2,spanF_eq]
    rw [span_some _ _ _ (by rw [wsC_len];omega),hsp,List.drop_left' hl1,Nat.mul_one,← hl2,List.take_length]
   simp only [addedA,this]
theorem and3 (n:Int):binP .and (.int .i64 n) (.int .i64 3)=some (.int .i64 (n % 4)):=and_mask n 2 (by omega)
structure Sz3 (p r:SC)(h:SH):Prop extends Sz2 p r h where
 up:U0 p.l
 ur:U0 r.l
 le:1≤r.l.un.length
 php:PhOk p
 phr:PhOk r
 nd:p.bl.Nodup
 ms:h.ms.length≤2 ^ 20
 wf:∀ i,i < 5→∀ y∈h.L i,wf64 y
theorem held_wf {h:SH}(H:∀ i,i < 5→∀ y∈h.L i,wf64 y){k:Nat}(hk:k < 4)(b:Int):wf64 (heldI h k b):=by
 unfold heldI
 split
 ·unfold wf64;omega
 ·cases hy:(h.L (k+1))[(b % (h.L (k+1)).length).toNat]? with
  | none=>unfold wf64;simp
  | some y=>exact H (k+1) (by omega) y (List.mem_of_getElem? hy)
section
variable {g g':Heap}{C D K:Nat→Nat}{v:Vb}{p r:SC}{h:SH}{T:List Shp}{Z:List Nat}{c:Nat}{vG vI vS x:AV}
def Pd (C D K:Nat→Nat)(T:List Shp)(Z:List Nat)(g:Heap)(A:Bool × SC × SC × SH)(s:AV × Heap):Prop:=s.1 = .bool A.1∧∃ v',Wi s.2 C D K v' A.2.1 A.2.2.1 A.2.2.2 T Z∧KpX Z g s.2
structure Dw (g1:Heap)(C D K:Nat→Nat)(v:Vb)(p r:SC)(h:SH)(T:List Shp)(Z:List Nat)(c:Nat)(a:Ac)(sv:AV):Prop where
 W:Wi g1 C D K v p r h T (c::Z)
 c1:g1.get c=some (.cells true (a.row sv))
 cl:c<g1.next
theorem Dw.row {g1:Heap}{a:Ac}{sv:AV}(X:Dw g1 C D K v p r h T Z c a sv){g2:Heap}(k:KpX (c::Z) g1 g2)(i:Nat)(y:AV)(hy:(a.row sv)[i]?=some y):ldS g2 (.ptr (some (c,i)))=some y:=by
 rw [ldS_at ((k.get c (List.mem_cons_self ..) X.cl).trans X.c1)];exact hy
theorem do_pre (W:Wi g C D K v p r h T Z)(a:Ac){sv:AV}(hsv:scalar sv=true):bxP (.agg (a.row sv))=some (.cells true (a.row sv),fun i=>.ptr (some (i,0)))∧Dw (g.new (.cells true (a.row sv))) C D K v p r h T Z g.next a sv∧KpX Z g (g.new (.cells true (a.row sv)))∧
  (∀ {g2:Heap} {A:Bool × SC × SC × SH} {v':Vb},Wi g2 C D K v' A.2.1 A.2.2.1 A.2.2.2 T (g.next::Z)→KpX (g.next::Z) (g.new (.cells true (a.row sv))) g2→Pd C D K T Z g A (.bool A.1,g2)):=by
 have s01:Same [] g (g.new (.cells true (a.row sv))):=Same.new _ _
 have hz:∀ j∈Z,j∈g.next::Z:=fun j hj=>List.mem_cons_of_mem _ hj
 refine⟨by simp [bxP,AV.cells,Ac.row,hsv];exact⟨rfl,rfl,rfl,rfl,rfl,rfl,rfl,rfl⟩,⟨W.addZ s01 (Nat.le_refl g.next) (Nat.lt_succ_self _),get_new_eq,Nat.lt_succ_self _⟩,KpX.same s01,fun W2 k2=>⟨rfl,_,W2.subZ hz W.z0,(KpX.same s01).trans (k2.sub hz)⟩⟩
theorem iaS4 (K:Nat→Nat){k:Nat}(hk:k < 4):iaA 4 1 (.ptr (some (K 4,1))) (.int .i64 (k:Int))=some (.ptr (some (K 4,k+1))):=by
 rw [iaA_ptr,if_pos ⟨by omega,by omega⟩]
 have:1+(k:Int).toNat * 1=k+1:=by omega
 rw [this]
theorem iaO4 (K:Nat→Nat){k:Nat}(hk:k < 4):iaA 4 1 (.ptr (some (K 4,5))) (.int .i64 (k:Int))=some (.ptr (some (K 4,5+k))):=by
 rw [iaA_ptr,if_pos ⟨by omega,by omega⟩];simp
theorem addk {k:Nat}(hk:k < 4):binP .add (.int .i64 (k:Int)) (.int .i64 1)=some (.int .i64 ((k:Int)+1)):=by rw [bin_add,wrap_i64 (by omega) (by omega)]
theorem Wi.stOn (W:Wi g C D K v p r h T Z){k:Nat}(hk:k < 4)(b:Bool):∃ g',stP 1 g (.ptr (some (K 4,5+k))) (.bool b)=some (.bot,g')∧Wi g' C D K v p r ⟨h.L,upd h.on k b,h.ms⟩ T Z∧KpX Z g g':=by
 obtain⟨w,hw,hl⟩:=W.y.ho
 have Y:=W.y.setOn hw hl (upd h.on k b)
 exact⟨_,by rw [stP_one hw (by simp [hoC];omega) rfl,hoC_seton hk],W.put (k:=4) (by omega) Y⟩
theorem Wi.stNil (W:Wi g C D K v p r h T Z){i:Nat}(hi:i < 5):∃ g' v',stP 1 g (.ptr (some (K 4,i))) (.sl none 0 (.ex 0))=some (.bot,g')∧Wi g' C D K v' p r (h.set i []) T Z∧KpX Z g g':=by
 obtain⟨w,hw,_⟩:=W.y.ho
 obtain⟨st,Y⟩:=W.y.setL hi hw (g1:=g) (S:=[]) (Same.refl _ _) (by simp) (b:=none) (fun j hj=>by cases hj) (v:=.sl none 0 (.ex 0)) (L:=[]) (.inl SlB.mt)
 obtain⟨W2,k2⟩:=W.list (k:=i) (c:=4) (by omega) (by omega) (Same.refl [] _) (by simp) (fun j hj=>by cases hj) Y
 exact⟨_,_,st,W2,k2⟩
theorem made_app {R:Type}(W:Wi g C D K v p r h T Z)(hl:h.ms.length≤2 ^ 30){x:AV}(hx:ldS g (.ptr (some (K 3,3)))=some x)(y:Int){Kk:Heap→Option R}{Q:R→Prop}
  (hk:∀ v' g2,Wi g2 C D K v' p r ⟨h.L,h.on,h.ms ++ [y]⟩ T Z→KpX Z g g2→Ok (Kk g2) Q) :
  Ok (mk Heap.new (bsP 1 [AV.int .i64 0] 1 [(0,.int .i64 y)]) g fun t h0=>cl (appendA h0 1 8 x t) fun v' g1=>cl (stP 1 g1 (.ptr (some (K 3,3))) v') fun u g2=>Kk g2) Q:=by
 obtain⟨x',d1,d2⟩:=W.y.pl
 have e:x=x':=by rw [ldS_at d1] at hx;exact(Option.some.inj hx).symm
 subst e
 refine app_own d2 (by omega) fun v' b' g1 H s h1 h2=>?_
 obtain⟨st,Y⟩:=W.y.setA (g1:=g1) (S:=(v.lb 5).toList) (b:=some b') s (fun j hj=>by simpa using hj) (fun j hj=>by cases hj;exact .inr ⟨h1,h2⟩) H
 rw [st,cl_some]
 obtain⟨W2,k2⟩:=W.list (k:=5) (c:=3) (by omega) (by omega) s (fun j hj=>.inl (by simpa using hj)) (fun j hj=>by cases hj;exact .inr h1) Y
 exact hk _ _ W2 k2
theorem Wi.at_ (W:Wi g C D K v p r h T Z):∃ x,ldS g (.ptr (some (K 3,3)))=some x∧SlG g (v.lb 5) 1 x (wsC h.ms) h.ms.length:=by
 obtain⟨x,d1,d2⟩:=W.y.pl
 exact⟨x,by rw [ldS_at d1];rfl,d2⟩
end
set_option linter.all false
attribute [local congr] c_bind c_cl c_mk c_lp c_clC c_gQ c_gV c_condE c_thenK
theorem chk12 {R:Type}{f1 f2:Heap→Option AV}{v1 v2:AV}{g0 g1 g2 g3:Heap}{x:Option R}(h1:same v1 v1=true)(h2:same v2 v2=true)(a0:f1 g0=some v1)(a1:f1 g1=some v1)(b0:f2 g0=some v2)(b1:f2 g1=some v2)(b2:f2 g2=some v2) :
  chk [g0,g1,g2,g3] [(f1,v1,0,1),(f2,v2,0,2)] x=x:=by
 rw [chk_cons,allFrom_succ,allFrom_succ,allFrom_zero,chk_cons,allFrom_succ,allFrom_succ,allFrom_succ,allFrom_zero]
 simp [a0,a1,b0,b1,b2,h1,h2]
theorem chk212 {R:Type}{f0 f1 f2:Heap→Option AV}{v0 v1 v2:AV}{g0 g1 g2 g3:Heap}{x:Option R}(h0:same v0 v0=true)(h1:same v1 v1=true)(h2:same v2 v2=true)(c0:f0 g0=some v0)(c1:f0 g1=some v0)(c2:f0 g2=some v0)(a0:f1 g0=some v1)(a1:f1 g1=some v1)(b0:f2 g0=some v2)(b1:f2 g1=some v2)(b2:f2 g2=some v2) :
  chk [g0,g1,g2,g3] [(f0,v0,0,2),(f1,v1,0,1),(f2,v2,0,2)] x=x:=by
 rw [chk_cons,allFrom_succ,allFrom_succ,allFrom_succ,allFrom_zero,chk_cons,allFrom_succ,allFrom_succ,allFrom_zero,chk_cons,allFrom_succ,allFrom_succ,allFrom_succ,allFrom_zero]
 simp [a0,a1,b0,b1,b2,c0,c1,c2,h0,h1,h2]
def startA (p r:SC)(h:SH):Bool × SC × SC × SH:=(decide ((p.start h).1=(r.start h).1),(p.start h).2,(r.start h).2,h)
def stepA (T:List Shp)(p r:SC)(h:SH):Bool × SC × SC × SH:=(decide ((p.step T h).1=(r.step T h).1),(p.step T h).2,(r.step T h).2,h)
def scanA (p r:SC)(h:SH)(id:Int):Bool × SC × SC × SH:=(decide ((p.scan h id).1=(r.scan h id).1),(p.scan h id).2,(r.scan h id).2,h)
def wholeA (T:List Shp)(p r:SC)(h:SH):Bool × SC × SC × SH:=(true,p.whole T h,r.whole T h,h)
section
variable {g g':Heap}{C D K:Nat→Nat}{v:Vb}{p r:SC}{h:SH}{T:List Shp}{Z:List Nat}{c:Nat}{vG vI vS x:AV}
theorem Wi.own (W:Wi g C D K v p r h T Z){g2:Heap}{Y:List Nat}(s:Same [] g g2)(hY:∀ j∈Y,g.next≤j∧j<g2.next)(R:Ro g2 x h Y):Wi g2 C D K v p r h T (Y++Z)∧Ro g2 x h (Y++Z):=⟨W.addL s hY,R.sub fun j hj=>List.mem_append_left _ hj⟩
theorem do1_ok (W:Wi g C D K v p r h T Z)(S:Sz3 p r h)(a:Ac){sv:AV}(hsv:scalar sv=true)(hop:a.op=1):Ok (AA (.ptr (some (K 3,0))) (.agg (a.row sv)) g) (Pd C D K T Z g (startA p r h)):=by
 obtain⟨bx,X,k01,fin⟩:=do_pre W a hsv
 refine Ok.eq ?_ (by simp -implicitDefEqProofs only [AA,bx,mk_some]<;>rfl)
 generalize g.new (.cells true (a.row sv))=g1 at *
 have W1:=X.W
 have row:=X.row (KpX.refl _ _)
 refine Ok.eq ?_ (by simp -implicitDefEqProofs only [faP_ptr,Nat.zero_add,Option.bind_some,row 1 _ rfl,and3,row 0 _ rfl,hop,eql_int,show((1:Int)=0)=False by simp,decide_false,decide_true,condE_false,condE_true,nilV_ptr,W1.pl3 0 _ rfl,W1.pl3 2 _ rfl]<;>rfl)
 have hqp:=S.qp
 have hqr:=S.qr
 refine ok_cl (cstart_ok W1 S.sm (by omega)) ?_
 rintro _ g2 ⟨rfl,v2,W2,k2⟩
 simp only at W2 k2
 have a1:=W1.pl3 1 _ rfl
 have b1:=W1.pl3 2 _ rfl
 have a2:=W2.pl3 1 _ rfl
 have b2:=W2.pl3 2 _ rfl
 refine Ok.eq ?_ (by simp -implicitDefEqProofs only [nilV_ptr,faP_ptr,Nat.zero_add,Option.bind_some,rdC_some (f:=fun g=>ldS g (.ptr (some (K 3,1)))) (h:=g2) a2,rdC_some (f:=fun g=>ldS g (.ptr (some (K 3,2)))) (h:=g2) b2,clC_some]<;>rfl)
 refine ok_cl (own_ok W2 S.sm) ?_
 rintro y g3 ⟨Y,s3,hY,R3⟩
 simp only at s3 hY R3
 obtain⟨W3,R3⟩:=W2.own s3 hY R3
 refine ok_cl (rstart_ok W3 R3 S.sm (by omega)) ?_
 rintro _ g4 ⟨rfl,v4,W4,k4⟩
 simp only at W4 k4
 have a3:=W3.pl3 1 _ rfl
 have hz:∀ j∈g.next::Z,j∈Y++g.next::Z:=fun j hj=>List.mem_append_right _ hj
 exact ok_val (v:=.bool (decide ((p.start h).1=(r.start h).1))) (g:=g4) (by
  rw [eql_bool',Option.bind_some,chk12 (same_ptr _) (same_ptr _) b1 b2 a1 a2 a3]) (fin (A:=startA p r h) (W4.subZ hz X.W.z0) ((k2.trans (KpX.same s3)).trans (k4.sub hz)))
theorem do2_ok (W:Wi g C D K v p r h T Z)(S:Sz3 p r h)(a:Ac){sv:AV}(hsv:scalar sv=true)(hop:a.op=2):Ok (AA (.ptr (some (K 3,0))) (.agg (a.row sv)) g) (Pd C D K T Z g (stepA T p r h)):=by
 obtain⟨bx,X,k01,fin⟩:=do_pre W a hsv
 refine Ok.eq ?_ (by simp -implicitDefEqProofs only [AA,bx,mk_some]<;>rfl)
 generalize g.new (.cells true (a.row sv))=g1 at *
 have W1:=X.W
 have row:=X.row (KpX.refl _ _)
 refine Ok.eq ?_ (by simp -implicitDefEqProofs only [faP_ptr,Nat.zero_add,Option.bind_some,row 1 _ rfl,and3,row 0 _ rfl,hop,eql_int,show((2:Int)=0)=False by simp,show((2:Int)=1)=False by simp,decide_false,decide_true,condE_false,condE_true,nilV_ptr,W1.pl3 0 _ rfl,W1.pl3 2 _ rfl]<;>rfl)
 have hqp:=S.qp
 have hqr:=S.qr
 have hbr:=S.br
 refine ok_cl (cstep_ok W1 S.sm (by omega)) ?_
 rintro _ g2 ⟨rfl,v2,W2,k2⟩
 simp only at W2 k2
 have a1:=W1.pl3 1 _ rfl
 have b1:=W1.pl3 2 _ rfl
 have a2:=W2.pl3 1 _ rfl
 have b2:=W2.pl3 2 _ rfl
 refine Ok.eq ?_ (by simp -implicitDefEqProofs only [nilV_ptr,faP_ptr,Nat.zero_add,Option.bind_some,rdC_some (f:=fun g=>ldS g (.ptr (some (K 3,1)))) (h:=g2) a2,rdC_some (f:=fun g=>ldS g (.ptr (some (K 3,2)))) (h:=g2) b2,clC_some]<;>rfl)
 refine ok_cl (own_ok W2 S.sm) ?_
 rintro y g3 ⟨Y,s3,hY,R3⟩
 simp only at s3 hY R3
 obtain⟨W3,R3⟩:=W2.own s3 hY R3
 refine ok_cl (rstep_ok W3 R3 S.sm (by omega) (by omega) S.phr) ?_
 rintro _ g4 ⟨rfl,v4,W4,k4⟩
 simp only at W4 k4
 have a3:=W3.pl3 1 _ rfl
 have hz:∀ j∈g.next::Z,j∈Y++g.next::Z:=fun j hj=>List.mem_append_right _ hj
 exact ok_val (v:=.bool (decide ((p.step T h).1=(r.step T h).1))) (g:=g4) (by
  rw [eql_bool',Option.bind_some,chk12 (same_ptr _) (same_ptr _) b1 b2 a1 a2 a3]) (fin (A:=stepA T p r h) (W4.subZ hz X.W.z0) ((k2.trans (KpX.same s3)).trans (k4.sub hz)))
theorem do3_ok (W:Wi g C D K v p r h T Z)(S:Sz3 p r h)(a:Ac){sv:AV}(hsv:scalar sv=true)(hop:a.op=3):Ok (AA (.ptr (some (K 3,0))) (.agg (a.row sv)) g) (Pd C D K T Z g (scanA p r h a.id)):=by
 obtain⟨bx,X,k01,fin⟩:=do_pre W a hsv
 refine Ok.eq ?_ (by simp -implicitDefEqProofs only [AA,bx,mk_some]<;>rfl)
 generalize g.new (.cells true (a.row sv))=g1 at *
 have W1:=X.W
 have row:=X.row (KpX.refl _ _)
 refine Ok.eq ?_ (by simp -implicitDefEqProofs only [faP_ptr,Nat.zero_add,Option.bind_some,row 1 _ rfl,and3,row 0 _ rfl,hop,eql_int,show((3:Int)=0)=False by simp,show((3:Int)=1)=False by simp,show((3:Int)=2)=False by simp,decide_false,decide_true,condE_false,condE_true,nilV_ptr,W1.pl3 0 _ rfl,W1.pl3 2 _ rfl]<;>rfl)
 have hqp:=S.qp
 have hqr:=S.qr
 have hbr:=S.br
 refine ok_cl (cscan_ok W1 S.sm (by omega) a.id) ?_
 rintro _ g2 ⟨rfl,v2,W2,k2⟩
 simp only at W2 k2
 have a1:=W1.pl3 1 _ rfl
 have b1:=W1.pl3 2 _ rfl
 have a2:=W2.pl3 1 _ rfl
 have b2:=W2.pl3 2 _ rfl
 refine Ok.eq ?_ (by simp -implicitDefEqProofs only [nilV_ptr,faP_ptr,Nat.zero_add,Option.bind_some,rdC_some (f:=fun g=>ldS g (.ptr (some (K 3,1)))) (h:=g2) a2,rdC_some (f:=fun g=>ldS g (.ptr (some (K 3,2)))) (h:=g2) b2,clC_some]<;>rfl)
 refine ok_cl (own_ok W2 S.sm) ?_
 rintro y g3 ⟨Y,s3,hY,R3⟩
 simp only at s3 hY R3
 obtain⟨W3,R3⟩:=W2.own s3 hY R3
 have k13:=k2.trans (KpX.same (X:=g.next::Z) s3)
 have i1:=row 1 _ rfl
 have i2:=X.row k2 1 _ rfl
 have i3:=X.row k13 1 _ rfl
 refine Ok.eq ?_ (by simp -implicitDefEqProofs only [faP_ptr,Nat.zero_add,Option.bind_some,rdC_some (f:=fun g_1=>ldS g_1 (.ptr (some (g.next,1)))) (h:=g3) i3,clC_some]<;>rfl)
 refine ok_cl (rscan_ok W3 R3 S.sm (by omega) (by omega) a.id) ?_
 rintro _ g4 ⟨rfl,v4,W4,k4⟩
 simp only at W4 k4
 have a3:=W3.pl3 1 _ rfl
 have hz:∀ j∈g.next::Z,j∈Y++g.next::Z:=fun j hj=>List.mem_append_right _ hj
 exact ok_val (v:=.bool (decide ((p.scan h a.id).1=(r.scan h a.id).1))) (g:=g4) (by
  rw [eql_bool',Option.bind_some,chk212 (same_int _ _) (same_ptr _) (same_ptr _) i1 i2 i3 b1 b2 a1 a2 a3]) (fin (A:=scanA p r h a.id) (W4.subZ hz X.W.z0) (k13.trans (k4.sub hz)))
theorem iq_of {p:SC}(H:Wf p.l.ar)(hq:p.gq.length≤2 ^ 27):Iq (2 ^ 28) p:=⟨by omega,fun _=>by have:=mu_wf H;omega⟩
theorem do8_ok (W:Wi g C D K v p r h T Z)(S:Sz3 p r h)(hqp:p.gq.length≤2 ^ 27)(hqr:r.gq.length≤2 ^ 27)(a:Ac){sv:AV}(hsv:scalar sv=true)(hop:a.op=8):Ok (AA (.ptr (some (K 3,0))) (.agg (a.row sv)) g) (Pd C D K T Z g (wholeA T p r h)):=by
 obtain⟨bx,X,k01,fin⟩:=do_pre W a hsv
 refine Ok.eq ?_ (by simp -implicitDefEqProofs only [AA,bx,mk_some]<;>rfl)
 generalize g.new (.cells true (a.row sv))=g1 at *
 have W1:=X.W
 have row:=X.row (KpX.refl _ _)
 refine Ok.eq ?_ (by simp -implicitDefEqProofs only [faP_ptr,Nat.zero_add,Option.bind_some,row 1 _ rfl,and3,row 0 _ rfl,hop,eql_int,show((8:Int)=0)=False by simp,show((8:Int)=1)=False by simp,show((8:Int)=2)=False by simp,show((8:Int)=3)=False by simp,show((8:Int)=4)=False by simp,show((8:Int)=9)=False by simp,show((8:Int)=5)=False by simp,show((8:Int)=6)=False by simp,show((8:Int)=7)=False by simp,show((8:Int)=10)=False by simp,decide_false,decide_true,condE_false,condE_true,nilV_ptr,W1.pl3 0 _ rfl,W1.pl3 2 _ rfl,AG]<;>rfl)
 have hbr:=S.br
 refine ok_cl (cwhole_ok W1 S.sm (iq_of W1.j.pm.wf hqp) (by omega)) ?_
 rintro _ g2 ⟨rfl,v2,W2,k2⟩
 simp only at W2 k2
 have a2:=W2.pl3 1 _ rfl
 have b2:=W2.pl3 2 _ rfl
 refine Ok.eq ?_ (by simp -implicitDefEqProofs only [chk_nil,nilV_ptr,faP_ptr,Nat.zero_add,Option.bind_some,rdC_some (f:=fun g=>ldS g (.ptr (some (K 3,1)))) (h:=g2) a2,b2,clC_some]<;>rfl)
 refine ok_cl (own_ok W2 S.sm) ?_
 rintro y g3 ⟨Y,s3,hY,R3⟩
 simp only at s3 hY R3
 obtain⟨W3,R3⟩:=W2.own s3 hY R3
 refine ok_cl (rwhole_ok W3 R3 S.sm (iq_of W3.j.rk.rel.wf hqr) (by omega) S.phr (by omega)) ?_
 rintro _ g4 ⟨v4,W4,k4⟩
 simp only at W4 k4
 have a3:=W3.pl3 1 _ rfl
 have hz:∀ j∈g.next::Z,j∈Y++g.next::Z:=fun j hj=>List.mem_append_right _ hj
 exact ok_val (v:=.bool true) (g:=g4) (by rw [chk_two (same_ptr _) a2 a3]) (fin (A:=wholeA T p r h) (W4.subZ hz X.W.z0) ((k2.trans (KpX.same s3)).trans (k4.sub hz)))
end
set_option linter.all false
attribute [local congr] c_bind c_cl c_mk c_lp c_clC c_gQ c_gV c_condE c_thenK
def dropA (p r:SC)(h:SH)(k:Nat)(n:Int):Bool × SC × SC × SH:=(true,p,r,if n % 8<(h.L (k+1)).length then h.set (k+1) ((h.L (k+1)).drop ((h.L (k+1)).length-(n % 8).toNat)) else h)
def globA (p r:SC)(h:SH)(k:Nat)(b:Int):Bool × SC × SC × SH:=
 if b=0∨h.on k=false then(true,p,r,h) else
 if 3<(h.L 0).length then(true,p.barrier ((h.L 0)[0]?.getD 0) b (k+1),r.barrier ((h.L 0)[0]?.getD 0) b (k+1),h.set 0 ((h.L 0).drop 1 ++ [b]))
 else(true,p.barrier 0 b (k+1),r.barrier 0 b (k+1),h.set 0 (h.L 0 ++ [b]))
def bornA (p r:SC)(h:SH)(k:Nat):Bool × SC × SC × SH:=
 if h.on k=true then(true,p.dies (k+1),r.dies (k+1),⟨upd h.L (k+1) [],upd h.on k false,h.ms⟩) else(true,p.born (k+1),r.born (k+1),⟨h.L,upd h.on k true,h.ms⟩)
def onA (p r:SC)(h:SH)(k:Nat):Bool × SC × SC × SH:=(true,p,r,⟨h.L,upd h.on k true,h.ms⟩)
section
variable {g g':Heap}{C D K:Nat→Nat}{v:Vb}{p r:SC}{h:SH}{T:List Shp}{Z:List Nat}{c:Nat}{vG vI vS x:AV}
theorem do4_ok (W:Wi g C D K v p r h T Z)(S:Sz3 p r h)(a:Ac){sv:AV}(hsv:scalar sv=true)(hop:a.op=4∨a.op=9){k:Nat}(hk:k < 4)(hid:a.id % 4=(k:Int)):Ok (AA (.ptr (some (K 3,0))) (.agg (a.row sv)) g) (Pd C D K T Z g (wrF T p r h a k)):=by
 obtain⟨bx,X,k01,fin⟩:=do_pre W a hsv
 refine Ok.eq ?_ (by simp -implicitDefEqProofs only [AA,bx,mk_some]<;>rfl)
 generalize g.new (.cells true (a.row sv))=g1 at *
 have W1:=X.W
 have row:=X.row (KpX.refl _ _)
 have la:ldA 9 g1 (.ptr (some (g.next,0)))=some (.agg (a.row sv)):=ldA_all X.c1 rfl
 have main:Ok (cl (BQ (.ptr (some (K 3,0))) (.agg (a.row sv)) (.int .i64 (k:Int)) g1) fun t h=>some (t,h)) (Pd C D K T Z g (wrF T p r h a k)):=by
  refine ok_cl (pwrite_ok W1 S.toSz2 hk a hsv (held_wf S.wf hk a.b)) ?_
  rintro _ g2 ⟨rfl,v2,W2,k2⟩
  exact Ok.of (fin W2 k2)
 rcases hop with hop | hop
 ·exact Ok.eq main (by simp -implicitDefEqProofs only [faP_ptr,Nat.zero_add,Option.bind_some,row 1 _ rfl,and3,hid,row 0 _ rfl,hop,eql_int,show((4:Int)=0)=False by simp,show((4:Int)=1)=False by simp,show((4:Int)=2)=False by simp,show((4:Int)=3)=False by simp,decide_false,decide_true,condE_false,condE_true,AG,la]<;>rfl)
 ·exact Ok.eq main (by simp -implicitDefEqProofs only [faP_ptr,Nat.zero_add,Option.bind_some,row 1 _ rfl,and3,hid,row 0 _ rfl,hop,eql_int,show((9:Int)=0)=False by simp,show((9:Int)=1)=False by simp,show((9:Int)=2)=False by simp,show((9:Int)=3)=False by simp,show((9:Int)=4)=False by simp,decide_false,decide_true,condE_false,condE_true,AG,la]<;>rfl)
theorem do5_ok (W:Wi g C D K v p r h T Z)(S:Sz3 p r h)(a:Ac){sv:AV}(hsv:scalar sv=true)(hop:a.op=5){k:Nat}(hk:k < 4)(hid:a.id % 4=(k:Int)):Ok (AA (.ptr (some (K 3,0))) (.agg (a.row sv)) g) (Pd C D K T Z g (dropA p r h k a.n)):=by
 obtain⟨bx,X,k01,fin⟩:=do_pre W a hsv
 refine Ok.eq ?_ (by simp -implicitDefEqProofs only [AA,bx,mk_some]<;>rfl)
 generalize g.new (.cells true (a.row sv))=g1 at *
 have W1:=X.W
 have row:=X.row (KpX.refl _ _)
 obtain⟨y,ly,hy⟩:=W1.ls (k:=k+1) (by omega)
 have hl:=S.sm (k+1) (by omega)
 have hm:0≤a.n % 8∧a.n % 8 < 8:=by omega
 refine Ok.eq ?_ (by simp -implicitDefEqProofs only [faP_ptr,Nat.zero_add,Option.bind_some,row 1 _ rfl,and3,hid,row 0 _ rfl,hop,eql_int,show((5:Int)=0)=False by simp,show((5:Int)=1)=False by simp,show((5:Int)=2)=False by simp,show((5:Int)=3)=False by simp,show((5:Int)=4)=False by simp,show((5:Int)=9)=False by simp,decide_false,decide_true,condE_false,condE_true,AG,row 5 _ rfl,and7,nilV_ptr,W1.pl3 2 _ rfl,iaS4 K hk,ly,hy.lnL,bin_gtr]<;>rfl)
 unfold dropA
 by_cases hlt:a.n % 8<(h.L (k+1)).length
 ·have hgt:((h.L (k+1)).length:Int) > a.n % 8:=hlt
  rw [if_pos hlt]
  obtain⟨z,sl,c1,c2⟩:=slc1 hy (k:=(h.L (k+1)).length-(a.n % 8).toNat) (by omega) (by omega)
  have sub:binP .sub (.int .i64 ((h.L (k+1)).length:Int)) (.int .i64 (a.n % 8))=some (.int .i64 (((h.L (k+1)).length-(a.n % 8).toNat:Nat):Int)):=by
   rw [bin_sub,wrap_i64 (by omega) (by omega)]
   have:((h.L (k+1)).length:Int)-a.n % 8=(((h.L (k+1)).length-(a.n % 8).toNat:Nat):Int):=by omega
   rw [this]
  have W10:=W1.keep (hpN_same g1 1)
  have lh:ldS (hpN g1 1) (.ptr (some (K 3,2)))=some (.ptr (some (K 4,0))):=W10.pl3 2 _ rfl
  have ly10:ldS (hpN g1 1) (.ptr (some (K 4,k+1)))=some y:=ly
  refine Ok.eq (hold_lit W1 (i:=k+1) (by omega) (x:=z) (xs:=(h.L (k+1)).drop ((h.L (k+1)).length-(a.n % 8).toNat)) c1 c2 (by rw [List.length_drop];omega) (Kk:=fun ga gb=>chk [hpN g1 1,ga,gb] [((fun g=>ldS g (.ptr (some (K 3,2)))),.ptr (some (K 4,0)),0,1)] (some (.bool true,gb))) fun v' ga gb Wb kb lb=>?_) (by
   simp -implicitDefEqProofs only [hgt,decide_true,condE_true,nilV_ptr,faP_ptr,Nat.zero_add,Option.bind_some,rdC_some (f:=fun g=>ldS g (.ptr (some (K 3,2)))) (h:=hpN g1 1) lh,lh,clC_some,iaS4 K hk,ly10,hy.lnL,sub,sl]
   rfl)
  rw [chk_two (same_ptr _) lh lb]
  exact ok_val (v:=.bool true) (g:=gb) rfl (fin (A:=(true,p,r,_)) Wb kb)
 ·have hgt : ¬ ((h.L (k+1)).length:Int) > a.n % 8:=hlt
  rw [if_neg hlt]
  exact ok_val (v:=.bool true) (g:=g1) (by simp -implicitDefEqProofs only [hgt,decide_false,condE_false]) (fin (A:=(true,p,r,h)) W1 (KpX.refl _ _))
theorem do10_ok (W:Wi g C D K v p r h T Z)(a:Ac){sv:AV}(hsv:scalar sv=true)(hop:a.op=10){k:Nat}(hk:k < 4)(hid:a.id % 4=(k:Int)):Ok (AA (.ptr (some (K 3,0))) (.agg (a.row sv)) g) (Pd C D K T Z g (onA p r h k)):=by
 obtain⟨bx,X,k01,fin⟩:=do_pre W a hsv
 refine Ok.eq ?_ (by simp -implicitDefEqProofs only [AA,bx,mk_some]<;>rfl)
 generalize g.new (.cells true (a.row sv))=g1 at *
 have W1:=X.W
 have row:=X.row (KpX.refl _ _)
 obtain⟨g2,st,W2,k2⟩:=W1.stOn hk true
 exact ok_val (v:=.bool true) (g:=g2) (by simp -implicitDefEqProofs only [faP_ptr,Nat.zero_add,Option.bind_some,row 1 _ rfl,and3,hid,row 0 _ rfl,hop,eql_int,show((10:Int)=0)=False by simp,show((10:Int)=1)=False by simp,show((10:Int)=2)=False by simp,show((10:Int)=3)=False by simp,show((10:Int)=4)=False by simp,show((10:Int)=9)=False by simp,show((10:Int)=5)=False by simp,show((10:Int)=6)=False by simp,show((10:Int)=7)=False by simp,decide_false,decide_true,condE_false,condE_true,AG,nilV_ptr,W1.pl3 2 _ rfl,iaO4 K hk,st,cl_some]) (fin (A:=onA p r h k) W2 k2)
theorem doX_ok (W:Wi g C D K v p r h T Z)(a:Ac){sv:AV}(hsv:scalar sv=true)(hop:∀ n:Int,n∈[0,1,2,3,4,5,6,7,8,9,10]→a.op≠n):Ok (AA (.ptr (some (K 3,0))) (.agg (a.row sv)) g) (Pd C D K T Z g (true,p,r,h)):=by
 obtain⟨bx,X,k01,fin⟩:=do_pre W a hsv
 refine Ok.eq ?_ (by simp -implicitDefEqProofs only [AA,bx,mk_some]<;>rfl)
 generalize g.new (.cells true (a.row sv))=g1 at *
 have W1:=X.W
 have row:=X.row (KpX.refl _ _)
 have n0:=hop 0 (by simp)
 have n1:=hop 1 (by simp)
 have n2:=hop 2 (by simp)
 have n3:=hop 3 (by simp)
 have n4:=hop 4 (by simp)
 have n5:=hop 5 (by simp)
 have n6:=hop 6 (by simp)
 have n7:=hop 7 (by simp)
 have n8:=hop 8 (by simp)
 have n9:=hop 9 (by simp)
 have n10:=hop 10 (by simp)
 exact ok_val (v:=.bool true) (g:=g1) (by simp -implicitDefEqProofs only [faP_ptr,Nat.zero_add,Option.bind_some,row 1 _ rfl,and3,row 0 _ rfl,n0,n1,n2,n3,n4,n5,n6,n7,n8,n9,n10,eql_int,decide_false,condE_false,AG]) (fin (A:=(true,p,r,h)) W1 (KpX.refl _ _))
theorem do7_ok (W:Wi g C D K v p r h T Z)(S:Sz3 p r h)(a:Ac){sv:AV}(hsv:scalar sv=true)(hop:a.op=7){k:Nat}(hk:k < 4)(hid:a.id % 4=(k:Int)):Ok (AA (.ptr (some (K 3,0))) (.agg (a.row sv)) g) (Pd C D K T Z g (bornA p r h k)):=by
 obtain⟨bx,X,k01,fin⟩:=do_pre W a hsv
 refine Ok.eq ?_ (by simp -implicitDefEqProofs only [AA,bx,mk_some]<;>rfl)
 generalize g.new (.cells true (a.row sv))=g1 at *
 have W1:=X.W
 have row:=X.row (KpX.refl _ _)
 have lo:=W1.on hk
 refine Ok.eq ?_ (by simp -implicitDefEqProofs only [faP_ptr,Nat.zero_add,Option.bind_some,row 1 _ rfl,and3,hid,row 0 _ rfl,hop,eql_int,show((7:Int)=0)=False by simp,show((7:Int)=1)=False by simp,show((7:Int)=2)=False by simp,show((7:Int)=3)=False by simp,show((7:Int)=4)=False by simp,show((7:Int)=9)=False by simp,show((7:Int)=5)=False by simp,show((7:Int)=6)=False by simp,decide_false,decide_true,condE_false,condE_true,AG,nilV_ptr,W1.pl3 2 _ rfl,iaO4 K hk,lo]<;>rfl)
 have hbr:=S.br
 unfold bornA
 cases ho:h.on k with
 | true=>
  rw [if_pos rfl]
  obtain⟨g2,st,W2,k2⟩:=W1.stOn hk false
  obtain⟨g3,v3,st3,W3,k3⟩:=W2.stNil (i:=k+1) (by omega)
  refine Ok.eq ?_ (by simp -implicitDefEqProofs only [condE_true,nilV_ptr,faP_ptr,Nat.zero_add,Option.bind_some,W1.pl3 2 _ rfl,iaO4 K hk,st,cl_some,W2.pl3 2 _ rfl,iaS4 K hk,st3,W3.pl3 0 _ rfl,addk hk]<;>rfl)
  refine ok_cl (cdies_ok W3 S.nd ((k:Int)+1)) ?_
  rintro _ g4 ⟨W4,k4⟩
  simp only at W4 k4
  refine Ok.eq ?_ (by simp -implicitDefEqProofs only [nilV_ptr,faP_ptr,Nat.zero_add,Option.bind_some,W4.pl3 1 _ rfl,addk hk]<;>rfl)
  refine ok_cl (rdies_ok W4 (by omega) ((k:Int)+1)) ?_
  rintro _ g5 ⟨v5,W5,k5⟩
  simp only at W5 k5
  exact ok_val (v:=.bool true) (g:=g5) rfl (fin (A:=(true,p.dies (k+1),r.dies (k+1),⟨upd h.L (k+1) [],upd h.on k false,h.ms⟩)) W5 (((k2.trans k3).trans k4).trans k5))
 | false=>
  rw [if_neg (by simp)]
  obtain⟨g2,st,W2,k2⟩:=W1.stOn hk true
  refine Ok.eq ?_ (by simp -implicitDefEqProofs only [condE_false,nilV_ptr,faP_ptr,Nat.zero_add,Option.bind_some,W1.pl3 2 _ rfl,iaO4 K hk,st,cl_some,W2.pl3 0 _ rfl,addk hk]<;>rfl)
  refine ok_cl (cborn_ok W2 ((k:Int)+1)) ?_
  rintro _ g3 ⟨W3,k3⟩
  simp only at W3 k3
  refine Ok.eq ?_ (by simp -implicitDefEqProofs only [nilV_ptr,faP_ptr,Nat.zero_add,Option.bind_some,W3.pl3 1 _ rfl,addk hk]<;>rfl)
  refine ok_cl (rborn_ok W3 (by omega) ((k:Int)+1)) ?_
  rintro _ g4 ⟨v4,W4,k4⟩
  simp only at W4 k4
  exact ok_val (v:=.bool true) (g:=g4) rfl (fin (A:=(true,p.born (k+1),r.born (k+1),⟨h.L,upd h.on k true,h.ms⟩)) W4 ((k2.trans k3).trans k4))
theorem glob_j0 (W:Wi g C D K v p r h T Z)(S:Sz2 p r h){k:Nat}(hk:k < 4)(old b:Int):Ok (B2 (.ptr (some (K 3,0))) (.int .i64 (k:Int)) (.int .i64 b) (.int .i64 old) g) fun s=>s.1 = .bool true∧∃ v',Wi s.2 C D K v' (p.barrier old b (k+1)) (r.barrier old b (k+1)) (h.set 0 (h.L 0 ++ [b])) T Z∧KpX Z g s.2:=by
 have hqp:=S.qp
 have hqr:=S.qr
 have hbr:=S.br
 refine Ok.eq ?_ (by simp -implicitDefEqProofs only [B2,nilV_ptr,faP_ptr,Nat.zero_add,Option.bind_some,W.pl3 0 _ rfl,addk hk]<;>rfl)
 refine ok_cl (cbarrier_ok W (by omega) old b ((k:Int)+1)) ?_
 rintro _ g1 ⟨v1,W1,k1⟩
 simp only at W1 k1
 refine Ok.eq ?_ (by simp -implicitDefEqProofs only [nilV_ptr,faP_ptr,Nat.zero_add,Option.bind_some,W1.pl3 1 _ rfl,addk hk]<;>rfl)
 refine ok_cl (rbarrier_ok W1 (by omega) (by omega) old b ((k:Int)+1)) ?_
 rintro _ g2 ⟨v2,W2,k2⟩
 simp only at W2 k2
 obtain⟨y,ly,hy⟩:=W2.ls (k:=0) (by omega)
 have W10:=W2.keep (hpN_same g2 1)
 have lh:ldS (hpN g2 1) (.ptr (some (K 3,2)))=some (.ptr (some (K 4,0))):=W10.pl3 2 _ rfl
 have ly10:ldS (hpN g2 1) (.ptr (some (K 4,0)))=some y:=ly
 refine Ok.eq (hold_app W2 S.sm (i:=0) (by omega) ly b (Kk:=fun ga gb=>chk [hpN g2 1,ga,gb] [((fun g=>ldS g (.ptr (some (K 3,2)))),.ptr (some (K 4,0)),0,1)] (some (.bool true,gb))) fun v' ga gb Wb kb lb=>?_) (by
  simp -implicitDefEqProofs only [nilV_ptr,faP_ptr,Nat.zero_add,Option.bind_some,rdC_some (f:=fun g=>ldS g (.ptr (some (K 3,2)))) (h:=hpN g2 1) lh,lh,clC_some,ly10]
  rfl)
 rw [chk_two (same_ptr _) lh lb]
 exact ok_val (v:=.bool true) (g:=gb) rfl ⟨rfl,v',Wb,(k1.trans k2).trans kb⟩
theorem do6_ok (W:Wi g C D K v p r h T Z)(S:Sz3 p r h)(a:Ac){sv:AV}(hsv:scalar sv=true)(hop:a.op=6){k:Nat}(hk:k < 4)(hid:a.id % 4=(k:Int)):Ok (AA (.ptr (some (K 3,0))) (.agg (a.row sv)) g) (Pd C D K T Z g (globA p r h k (heldI h k a.b))):=by
 obtain⟨bx,X,k01,fin⟩:=do_pre W a hsv
 refine Ok.eq ?_ (by simp -implicitDefEqProofs only [AA,bx,mk_some]<;>rfl)
 generalize g.new (.cells true (a.row sv))=g1 at *
 have W1:=X.W
 have row:=X.row (KpX.refl _ _)
 have ho:=W1.on hk
 have hB:=held_ok W1 S.sm hk a.b
 refine Ok.eq ?_ (by simp -implicitDefEqProofs only [faP_ptr,Nat.zero_add,Option.bind_some,row 1 _ rfl,and3,hid,row 0 _ rfl,hop,eql_int,show((6:Int)=0)=False by simp,show((6:Int)=1)=False by simp,show((6:Int)=2)=False by simp,show((6:Int)=3)=False by simp,show((6:Int)=4)=False by simp,show((6:Int)=9)=False by simp,show((6:Int)=5)=False by simp,decide_false,decide_true,condE_false,condE_true,AG,row 3 _ rfl,hB,cl_some]<;>rfl)
 unfold globA
 by_cases h0:heldI h k a.b=0
 ·rw [if_pos (.inl h0)]
  exact ok_val (v:=.bool true) (g:=g1) (by simp -implicitDefEqProofs only [h0,decide_true,gdW_tf,gQ_false,pickP_bool,if_true,Option.bind_some,condE_true]) (fin (A:=(true,p,r,h)) W1 (KpX.refl _ _))
 cases hon:h.on k with
 | false=>
  rw [hon] at ho
  rw [if_pos (.inr rfl)]
  exact ok_val (v:=.bool true) (g:=g1) (by simp -implicitDefEqProofs only [h0,decide_false,gdW_ff,gQ_true,cl_some,nilV_ptr,faP_ptr,Nat.zero_add,W1.pl3 2 _ rfl,iaO4 K hk,ho,un_not,Bool.not_false,pickP_bool,Bool.false_eq_true,if_false,Option.bind_some,condE_true]) (fin (A:=(true,p,r,h)) W1 (KpX.refl _ _))
 | true=>
  rw [hon] at ho
  rw [if_neg (by rintro(h | h);exact h0 h;cases h)]
  obtain⟨y,ly,hy⟩:=W1.ls (k:=0) (by omega)
  have hl:=S.sm 0 (by omega)
  refine Ok.eq ?_ (by simp -implicitDefEqProofs only [h0,decide_false,gdW_ff,gQ_true,cl_some,nilV_ptr,faP_ptr,Nat.zero_add,W1.pl3 2 _ rfl,iaO4 K hk,ho,un_not,Bool.not_true,pickP_bool,Bool.false_eq_true,if_false,Option.bind_some,condE_false,ly,hy.lnL,bin_gtr]<;>rfl)
  by_cases h3:3<(h.L 0).length
  ·have hgt:((h.L 0).length:Int) > 3:=by omega
   rw [if_pos h3]
   obtain⟨z,sl,c1,c2⟩:=slc1 hy (k:=1) (by omega) (by omega)
   have hI:Ird g1 (v.lb 0).toList y (h.L 0):=ird_slg hy (fun j hj=>by simp [hj])
   obtain⟨old,hold⟩:∃ old,(h.L 0)[0]?=some old:=⟨_,List.getElem?_eq_getElem (by omega)⟩
   obtain⟨q,hix,hld⟩:=hI.2 0 old hold
   have ld:=hld g1 (KpX.refl _ _)
   have ix0:=hix .i64
   simp only [show((0:Nat):Int)=0 from rfl] at ix0
   rw [hold,Option.getD_some]
   have W10:=W1.keep (hpN_same g1 1)
   have lh:ldS (hpN g1 1) (.ptr (some (K 3,2)))=some (.ptr (some (K 4,0))):=W10.pl3 2 _ rfl
   have ly10:ldS (hpN g1 1) (.ptr (some (K 4,0)))=some y:=ly
   have sl1:slcP 1 y (some (.int .i64 1)) none none=some z:=sl
   refine Ok.eq (hold_lit W1 (i:=0) (by omega) (x:=z) (xs:=(h.L 0).drop 1) c1 c2 (by rw [List.length_drop];omega) (Kk:=fun ga gb=>chk [hpN g1 1,ga,gb] [((fun g=>ldS g (.ptr (some (K 3,2)))),.ptr (some (K 4,0)),0,1)] (B2 (.ptr (some (K 3,0))) (.int .i64 (k:Int)) (.int .i64 (heldI h k a.b)) (.int .i64 old) gb)) fun v' ga gb Wb kb lb=>?_) (by
    simp -implicitDefEqProofs only [hgt,decide_true,condE_true,nilV_ptr,faP_ptr,Nat.zero_add,Option.bind_some,W1.pl3 2 _ rfl,ly,ix0,ld,rdC_some (f:=fun g=>ldS g (.ptr (some (K 3,2)))) (h:=hpN g1 1) lh,lh,clC_some,ly10,sl1]
    rfl)
   rw [chk_two (same_ptr _) lh lb]
   refine Ok.mono (glob_j0 Wb ⟨fun i hi=>by
    show(upd h.L 0 ((h.L 0).drop 1) i).length≤_
    by_cases e:i=0
    ·subst e;rw [upd_eq,List.length_drop];omega
    ·rw [upd_ne _ _ e];exact S.sm i hi,S.qp,S.qr,S.bp,S.br⟩ hk old (heldI h k a.b)) ?_
   rintro⟨_,gc⟩ ⟨rfl,vc,Wc,kc⟩
   simp only at Wc kc
   have e:(h.set 0 ((h.L 0).drop 1)).set 0 ((h.set 0 ((h.L 0).drop 1)).L 0 ++ [heldI h k a.b])=h.set 0 ((h.L 0).drop 1 ++ [heldI h k a.b]):=by
    unfold SH.set
    simp only [upd_eq]
    congr 1
    funext i
    by_cases e:i=0
    ·subst e;rw [upd_eq,upd_eq]
    ·rw [upd_ne _ _ e,upd_ne _ _ e,upd_ne _ _ e]
   rw [e] at Wc
   exact fin (A:=(true,p.barrier old (heldI h k a.b) (k+1),r.barrier old (heldI h k a.b) (k+1),h.set 0 ((h.L 0).drop 1 ++ [heldI h k a.b]))) Wc (kb.trans kc)
  ·have hgt : ¬ ((h.L 0).length:Int) > 3:=by omega
   rw [if_neg h3]
   refine Ok.eq ?_ (by simp -implicitDefEqProofs only [hgt,decide_false,condE_false]<;>rfl)
   refine Ok.mono (glob_j0 W1 S.toSz2 hk 0 (heldI h k a.b)) ?_
   rintro⟨_,gc⟩ ⟨rfl,vc,Wc,kc⟩
   exact fin (A:=(true,p.barrier 0 (heldI h k a.b) (k+1),r.barrier 0 (heldI h k a.b) (k+1),h.set 0 (h.L 0 ++ [heldI h k a.b]))) Wc kc
end
set_option linter.all false
attribute [local congr] c_bind c_cl c_mk c_lp c_clC c_gQ c_gV c_condE c_thenK
theorem sh7_at {k:Int}(h:0≤k∧k < 6):∃ s,sh7[k.toNat]?=some s∧0≤s.kind∧s.kind≤3:=by
 rcases (by omega:k=0∨k=1∨k=2∨k=3∨k=4∨k=5) with rfl | rfl | rfl | rfl | rfl | rfl<;>exact⟨_,rfl,by decide,by decide⟩
def kindW (sh:Int):Int:=((sh7[(shT sh).toNat]?).getD ⟨0,0,0⟩).kind
def hdW (sh wd:Int):Int:=sizeT sh wd+128*kindW sh+1024*shT sh
theorem kindW_rng (sh:Int):0≤kindW sh∧kindW sh≤3:=by
 obtain⟨s,h1,h2,h3⟩:=sh7_at (shT_rng sh)
 unfold kindW;rw [h1];exact⟨h2,h3⟩
theorem hdW_wf (sh wd:Int):wf64 (hdW sh wd):=by
 have h1:=sizeT_rng sh wd
 have h2:=kindW_rng sh
 have h3:=shT_rng sh
 unfold hdW wf64;omega
theorem size_cls (sh wd:Int):classOf (sizeT sh wd)≠-1:=by
 have hn:=sizeT_rng sh wd
 rcases classOf_range (sizeT sh wd) with h | h
 ·unfold classOf at h
  repeat (split at h<;>try omega)
 ·omega
def takA (p r:SC)(h:SH)(k:Nat)(x:Ac):Bool × SC × SC × SH:=
 if h.on k=false then(true,p,r,h) else
 if (p.take (sizeT x.sh x.wd)).1.1≠(r.take (sizeT x.sh x.wd)).1.1∨¬ ((p.take (sizeT x.sh x.wd)).1.2=0↔(r.take (sizeT x.sh x.wd)).1.1≠0) then(false,(p.take (sizeT x.sh x.wd)).2,(r.take (sizeT x.sh x.wd)).2,h) else
 if (p.take (sizeT x.sh x.wd)).1.2≠0 then(decide ((p.take (sizeT x.sh x.wd)).1.2=5),(p.take (sizeT x.sh x.wd)).2,(r.take (sizeT x.sh x.wd)).2,h) else
 (true,(p.take (sizeT x.sh x.wd)).2.wr (p.take (sizeT x.sh x.wd)).1.1 0 (hdW x.sh x.wd),(r.take (sizeT x.sh x.wd)).2.wr (p.take (sizeT x.sh x.wd)).1.1 0 (hdW x.sh x.wd),⟨upd h.L (k+1) (h.L (k+1) ++ [(p.take (sizeT x.sh x.wd)).1.1]),h.on,h.ms ++ [(p.take (sizeT x.sh x.wd)).1.1]⟩)
section
variable {g g':Heap}{C D K:Nat→Nat}{v:Vb}{p r:SC}{h:SH}{T:List Shp}{Z:List Nat}{c:Nat}{vG vI vS x:AV}
theorem do0_ok (W:Wi g C D K v p r h T Z)(S:Sz3 p r h)(a:Ac){sv:AV}(hsv:scalar sv=true)(hop:a.op=0){k:Nat}(hk:k < 4)(hid:a.id % 4=(k:Int)):Ok (AA (.ptr (some (K 3,0))) (.agg (a.row sv)) g) (Pd C D K T Z g (takA p r h k a)):=by
 obtain⟨bx,X,k01,fin⟩:=do_pre W a hsv
 refine Ok.eq ?_ (by simp -implicitDefEqProofs only [AA,bx,mk_some]<;>rfl)
 generalize g.new (.cells true (a.row sv))=g1 at *
 have W1:=X.W
 have row:=X.row (KpX.refl _ _)
 have lo:=W1.on hk
 refine Ok.eq ?_ (by simp -implicitDefEqProofs only [faP_ptr,Nat.zero_add,Option.bind_some,row 1 _ rfl,and3,hid,row 0 _ rfl,hop,eql_int,decide_true,condE_true,nilV_ptr,W1.pl3 2 _ rfl,iaO4 K hk,lo,un_not]<;>rfl)
 unfold takA
 cases ho:h.on k with
 | false=>
  rw [if_pos rfl]
  exact ok_val (v:=.bool true) (g:=g1) (by simp -implicitDefEqProofs only [Bool.not_false,condE_true]) (fin (A:=(true,p,r,h)) W1 (KpX.refl _ _))
 | true=>
  rw [if_neg (by simp)]
  have la:ldA 3 g1 (.ptr (some (g.next,6)))=some (.agg [.int .i64 a.sh,.int .i64 a.wd,sv]):=by rw [ldA_at X.c1];rfl
  refine Ok.eq ?_ (by simp -implicitDefEqProofs only [Bool.not_true,condE_false,faP_ptr,Nat.zero_add,Option.bind_some,la]<;>rfl)
  refine ok_cl (size_ok a.sh a.wd hsv g1) ?_
  rintro _ g2 ⟨rfl,s2⟩
  simp only at s2
  have W2:=W1.keep s2
  refine Ok.eq ?_ (by simp -implicitDefEqProofs only [nilV_ptr,faP_ptr,Nat.zero_add,Option.bind_some,W2.pl3 0 _ rfl]<;>rfl)
  refine ok_cl (ctake_ok W2 S.up (sizeT a.sh a.wd)) ?_
  rintro _ g3 ⟨rfl,v3,W3,k3⟩
  simp only at W3 k3
  refine Ok.eq ?_ (by simp -implicitDefEqProofs only [extractV_tup,e0,e1,nilV_ptr,faP_ptr,Nat.zero_add,Option.bind_some,W3.pl3 1 _ rfl]<;>rfl)
  refine ok_cl (rctake_ok W3 S.ur S.le (size_cls a.sh a.wd)) ?_
  rintro _ g4 ⟨rfl,hgood,v4,W4,k4⟩
  simp only at W4 k4
  have k14:=((KpX.same (X:=g.next::Z) s2).trans k3).trans k4
  refine Ok.eq ?_ (by simp -implicitDefEqProofs only [neq_int,Option.bind_some]<;>rfl)
  by_cases hab:(p.take (sizeT a.sh a.wd)).1.1=(r.take (sizeT a.sh a.wd)).1.1
  ·by_cases heq:((p.take (sizeT a.sh a.wd)).1.2=0↔(r.take (sizeT a.sh a.wd)).1.1≠0)
   ·rw [if_neg (by rintro(h | h);exact h hab;exact h heq)]
    have hbb:(!(decide ((p.take (sizeT a.sh a.wd)).1.2=0) == !decide ((r.take (sizeT a.sh a.wd)).1.1=0)))=false:=by
     by_cases e1:(p.take (sizeT a.sh a.wd)).1.2=0
     ·have:=heq.1 e1;simp [e1,this]
     ·have:(r.take (sizeT a.sh a.wd)).1.1=0:=Classical.byContradiction fun h=>e1 (heq.2 h)
      simp [e1,this]
    refine Ok.eq ?_ (by simp -implicitDefEqProofs only [hab,decide_true,Bool.not_true,gdW_ff,gQ_true,cl_some,eql_int,neq_int,neq_bool,hbb,pickP_bool,Bool.false_eq_true,if_false,Option.bind_some,condE_false]<;>rfl)
    by_cases he:(p.take (sizeT a.sh a.wd)).1.2=0
    ·have hne : ¬ (p.take (sizeT a.sh a.wd)).1.2≠0:=fun h=>h he
     rw [if_neg hne]
     have row4:=X.row k14
     have hrg:=sizeT_rng a.sh a.wd
     have hkk:=shT_rng a.sh
     obtain⟨s,hs,hk0,hk3⟩:=sh7_at hkk
     have hkw:kindW a.sh=s.kind:=by unfold kindW;rw [hs];rfl
     refine Ok.eq ?_ (by simp -implicitDefEqProofs only [he,decide_true,Bool.not_true,condE_false,Option.bind_some,faP_ptr,Nat.zero_add,Nat.add_zero,row4 6 _ rfl,and7,rem6,shapes7,cl_some]<;>rfl)
     have s5:Same [] g4 (g4.new (.cells true (shC sh7))):=Same.new _ _
     have c5:(g4.new (.cells true (shC sh7))).get g4.next=some (.cells true (shC sh7)):=get_new_eq
     generalize g4.new (.cells true (shC sh7))=g5 at *
     have W5:=W4.keep s5
     have ixs:iaS 3 (.sl (some (g4.next,0)) 6 (.ex 6)) (.int .i64 (shT a.sh))=some (.ptr (some (g4.next,(shT a.sh).toNat * 3))):=by
      rw [iaS_sl 3 (g4.next,0) _ _ .i64 _ ⟨by omega,by omega⟩];simp
     have lk:ldS g5 (.ptr (some (g4.next,(shT a.sh).toNat * 3)))=some (.int .i64 s.kind):=by
      rw [ldS_at c5]
      exact flt_cell (row:=Shp.row) (k:=3) (j:=0) (fun _=>rfl) hs rfl
     have bl:bldS [(0,1),(1,1),(2,1)] [(AV.int .i64 0),(AV.int .i64 0),(AV.int .i64 0)] [(0,.int .i64 (sizeT a.sh a.wd)),(1,.int .i64 s.kind),(2,.int .i64 (shT a.sh))]=some (.agg (hdC (sizeT a.sh a.wd) s.kind (shT a.sh))):=rfl
     refine Ok.eq ?_ (by simp -implicitDefEqProofs only [ixs,faP_ptr,Nat.add_zero,Option.bind_some,lk,bl]<;>rfl)
     refine ok_cl (pack_ok _ _ _ g5 (show mayP (sizeT a.sh a.wd) s.kind (shT a.sh) from⟨hrg.1,hrg.2,hk0,hk3,hkk.1,by omega⟩)) ?_
     rintro _ g6 ⟨rfl,s6⟩
     simp only at s6
     have W6:=W5.keep s6
     have e6:sizeT a.sh a.wd+128*s.kind+1024*shT a.sh=hdW a.sh a.wd:=by unfold hdW;rw [hkw]
     rw [e6]
     refine Ok.eq ?_ (by simp -implicitDefEqProofs only [extractV_tup,e0,e1,Option.bind_some]<;>rfl)
     rw [hab] at *
     refine ok_cl (pput_ok W6 (ad:=(r.take (sizeT a.sh a.wd)).1.1) (k:=0) (hdW_wf a.sh a.wd) (by omega)) ?_
     rintro _ g7 ⟨v7,W7,k7⟩
     simp only at W7 k7
     obtain⟨y,ly,_⟩:=W7.at_
     refine Ok.eq ?_ (by simp -implicitDefEqProofs only [nilV_ptr,faP_ptr,Nat.zero_add,Option.bind_some,ly]<;>rfl)
     have hms:=S.ms
     refine made_app W7 (by omega) ly (r.take (sizeT a.sh a.wd)).1.1 (Kk:=fun g8=>(nilV (.ptr (some (K 3,0)))).bind fun t122=>(faP 2 t122).bind fun t123=>clC (rdC (fun g=>ldS g t123) (hpN g8 1) 0 1 []) fun t124 cs=>(nilV (.ptr (some (K 3,0)))).bind fun t127=>(faP 2 t127).bind fun t128=>(ldS (hpN g8 1) t128).bind fun t129=>(nilV t129).bind fun t131=>(faP 1 t131).bind fun t132=>(iaA 4 1 t132 (.int .i64 (k:Int))).bind fun t133=>(ldS (hpN g8 1) t133).bind fun t134=>cl (mkAt Heap.put (bsP 1 [(AV.int .i64 0)] 1 [(0,.int .i64 (r.take (sizeT a.sh a.wd)).1.1)]) (g8.next+0) (hpN g8 1)) fun t136 h440=>cl (appendA h440 1 8 t134 t136) fun t137 h441=>(nilV t124).bind fun t138=>(faP 1 t138).bind fun t139=>(iaA 4 1 t139 (.int .i64 (k:Int))).bind fun t140=>cl (stP 1 h441 t140 t137) fun u_442 h443=>chk [(hpN g8 1),h441,h443] cs (some ((AV.bool true),h443))) fun v8 g8 W8 k8=>?_
     obtain⟨z,lz,_⟩:=W8.ls (k:=k+1) (by omega)
     have W10:=W8.keep (hpN_same g8 1)
     have lh:ldS (hpN g8 1) (.ptr (some (K 3,2)))=some (.ptr (some (K 4,0))):=W10.pl3 2 _ rfl
     have lz10:ldS (hpN g8 1) (.ptr (some (K 4,k+1)))=some z:=lz
     refine Ok.eq (hold_app W8 S.sm (i:=k+1) (by omega) lz (r.take (sizeT a.sh a.wd)).1.1 (Kk:=fun ga gb=>chk [hpN g8 1,ga,gb] [((fun g=>ldS g (.ptr (some (K 3,2)))),.ptr (some (K 4,0)),0,1)] (some (.bool true,gb))) fun v' ga gb Wb kb lb=>?_) (by
      simp -implicitDefEqProofs only [nilV_ptr,faP_ptr,Nat.zero_add,Option.bind_some,rdC_some (f:=fun g=>ldS g (.ptr (some (K 3,2)))) (h:=hpN g8 1) lh,lh,clC_some,iaS4 K hk,lz10]
      rfl)
     rw [chk_two (same_ptr _) lh lb]
     exact ok_val (v:=.bool true) (g:=gb) rfl (fin (A:=(true,(p.take (sizeT a.sh a.wd)).2.wr (r.take (sizeT a.sh a.wd)).1.1 0 (hdW a.sh a.wd),(r.take (sizeT a.sh a.wd)).2.wr (r.take (sizeT a.sh a.wd)).1.1 0 (hdW a.sh a.wd),⟨upd h.L (k+1) (h.L (k+1) ++ [(r.take (sizeT a.sh a.wd)).1.1]),h.on,h.ms ++ [(r.take (sizeT a.sh a.wd)).1.1]⟩)) Wb (((((k14.trans (KpX.same s5)).trans (KpX.same s6)).trans k7).trans k8).trans kb))
    ·have hne:(p.take (sizeT a.sh a.wd)).1.2≠0:=he
     rw [if_pos hne]
     exact ok_val (v:=.bool (decide ((p.take (sizeT a.sh a.wd)).1.2=5))) (g:=g4) (by simp -implicitDefEqProofs only [he,decide_false,Bool.not_false,condE_true,Option.bind_some]) (fin (A:=(decide ((p.take (sizeT a.sh a.wd)).1.2=5),(p.take (sizeT a.sh a.wd)).2,(r.take (sizeT a.sh a.wd)).2,h)) W4 k14)
   ·rw [if_pos (.inr heq)]
    have hbb:(!(decide ((p.take (sizeT a.sh a.wd)).1.2=0) == !decide ((r.take (sizeT a.sh a.wd)).1.1=0)))=true:=by
     by_cases e1:(p.take (sizeT a.sh a.wd)).1.2=0<;>by_cases e2:(r.take (sizeT a.sh a.wd)).1.1=0
     ·simp [e1,e2]
     ·exact absurd ⟨fun _=>e2,fun _=>e1⟩ heq
     ·exact absurd ⟨fun h=>absurd h e1,fun h=>absurd e2 h⟩ heq
     ·simp [e1,e2]
    exact ok_val (v:=.bool false) (g:=g4) (by simp -implicitDefEqProofs only [hab,decide_true,Bool.not_true,gdW_ff,gQ_true,cl_some,eql_int,neq_int,neq_bool,hbb,pickP_bool,Bool.false_eq_true,if_false,Option.bind_some,condE_true]) (fin (A:=(false,(p.take (sizeT a.sh a.wd)).2,(r.take (sizeT a.sh a.wd)).2,h)) W4 k14)
  ·rw [if_pos (.inl hab)]
   exact ok_val (v:=.bool false) (g:=g4) (by simp -implicitDefEqProofs only [hab,decide_false,Bool.not_false,gdW_tf,gQ_false,pickP_bool,if_true,Option.bind_some,condE_true]) (fin (A:=(false,(p.take (sizeT a.sh a.wd)).2,(r.take (sizeT a.sh a.wd)).2,h)) W4 k14)
def act (T:List Shp)(p r:SC)(h:SH)(x:Ac):Bool × SC × SC × SH:=
 if x.op=0 then takA p r h (x.id % 4).toNat x else
 if x.op=1 then startA p r h else
 if x.op=2 then stepA T p r h else
 if x.op=3 then scanA p r h x.id else
 if x.op=4∨x.op=9 then wrF T p r h x (x.id % 4).toNat else
 if x.op=5 then dropA p r h (x.id % 4).toNat x.n else
 if x.op=6 then globA p r h (x.id % 4).toNat (heldI h (x.id % 4).toNat x.b) else
 if x.op=7 then bornA p r h (x.id % 4).toNat else
 if x.op=10 then onA p r h (x.id % 4).toNat else
 if x.op=8 then wholeA T p r h else(true,p,r,h)
theorem act_ok (W:Wi g C D K v p r h T Z)(S:Sz3 p r h)(hqp:p.gq.length≤2 ^ 27)(hqr:r.gq.length≤2 ^ 27)(a:Ac){sv:AV}(hsv:scalar sv=true):Ok (AA (.ptr (some (K 3,0))) (.agg (a.row sv)) g) (Pd C D K T Z g (act T p r h a)):=by
 have hk:(a.id % 4).toNat < 4:=by omega
 have hid:a.id % 4=((a.id % 4).toNat:Int):=by omega
 unfold act
 by_cases h0:a.op=0
 ·rw [if_pos h0];exact do0_ok W S a hsv h0 hk hid
 rw [if_neg h0]
 by_cases h1:a.op=1
 ·rw [if_pos h1];exact do1_ok W S a hsv h1
 rw [if_neg h1]
 by_cases h2:a.op=2
 ·rw [if_pos h2];exact do2_ok W S a hsv h2
 rw [if_neg h2]
 by_cases h3:a.op=3
 ·rw [if_pos h3];exact do3_ok W S a hsv h3
 rw [if_neg h3]
 by_cases h4:a.op=4∨a.op=9
 ·rw [if_pos h4];exact do4_ok W S a hsv h4 hk hid
 rw [if_neg h4]
 by_cases h5:a.op=5
 ·rw [if_pos h5];exact do5_ok W S a hsv h5 hk hid
 rw [if_neg h5]
 by_cases h6:a.op=6
 ·rw [if_pos h6];exact do6_ok W S a hsv h6 hk hid
 rw [if_neg h6]
 by_cases h7:a.op=7
 ·rw [if_pos h7];exact do7_ok W S a hsv h7 hk hid
 rw [if_neg h7]
 by_cases h10:a.op=10
 ·rw [if_pos h10];exact do10_ok W a hsv h10 hk hid
 rw [if_neg h10]
 by_cases h8:a.op=8
 ·rw [if_pos h8];exact do8_ok W S hqp hqr a hsv h8
 rw [if_neg h8]
 refine doX_ok W a hsv fun n hn=>?_
 simp only [List.mem_cons,List.not_mem_nil,or_false] at hn
 rcases hn with rfl | rfl | rfl | rfl | rfl | rfl | rfl | rfl | rfl | rfl | rfl
 ·exact h0
 ·exact h1
 ·exact h2
 ·exact h3
 ·exact fun h=>h4 (.inl h)
 ·exact h5
 ·exact h6
 ·exact h7
 ·exact h8
 ·exact fun h=>h4 (.inr h)
 ·exact h10
end
end Go.Ab.F
