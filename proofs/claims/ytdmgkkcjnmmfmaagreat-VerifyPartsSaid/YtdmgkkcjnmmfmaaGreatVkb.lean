import Derived.Test.YtdmgkkcjnmmfmaaGreatVka
namespace Go.Ab.F
open Go Go.Ab
set_option linter.all false
set_option linter.all false
attribute [local congr] BI D1 Dy D2 Bu D3 Dz Aw Av
def argsB (f f':Fn)(first a n:Int):Bool:=(List.range n.toNat).all fun k=>kdB f (a+(k:Int)) == kdB f' (first+(k:Int))
theorem O2 {f:Fn}{a n:Int}(h:runB f a n=true){k:Nat}(hk:(k:Int)<n):slotB f (a+(k:Int))=true:=by
 simp only [runB,slotB,Bool.or_eq_true,Bool.and_eq_true,decide_eq_true_eq] at h ⊢
 omega
structure FkB (g:Heap)(q:Nat)(f:Fn):Prop where
 ex:∃ kv,ldS g (.ptr (some (q,4)))=some kv∧RdW g 1 kv (f.kinds.map AV.bool) f.kinds.length
theorem FkB.at_ {g:Heap}{q:Nat}{f:Fn}(H:FkB g q f){n:Int}(h0:0≤n)(h1:n<f.kinds.length):∃ kv b o,ldS g (.ptr (some (q,4)))=some kv∧iaS 1 kv (.int .i64 n)=some (.ptr (some (b,o)))∧ldS g (.ptr (some (b,o)))=some (.bool (kdB f n)):=by
 obtain⟨kv,e,R⟩:=H.ex
 have hn:n.toNat<f.kinds.length:=by omega
 have hk:f.kinds[n.toNat]?=some (kdB f n):=by rw [kdB,List.getD_eq_getElem?_getD,List.getElem?_eq_getElem hn];rfl
 obtain⟨b,o,_,hix,hla⟩:=R.at (i:=n.toNat) (x:=.bool (kdB f n)) (by rw [List.getElem?_map,hk];rfl)
 have:=hix .i64
 rw [show((n.toNat:Nat):Int)=n by omega] at this
 exact⟨kv,b,o,e,this,hla⟩
theorem NZ {g:Heap}{p:Nat}{m:Md}{f:Fn}{pc:Int}{i:Ins}{c:Cv}(H:CkB g p m f pc i c){f':Fn}{kv cv mv:AV}(FR:FnRd g [.int .i64 f'.pa,.int .i64 f'.ca,.int .i64 f'.sl,.int .i64 f'.re,kv,cv,mv] f')(first a n:Int)(hr:runB f a n=true)(h0:0≤first)(h1:first+n≤f'.kinds.length)(h2:f'.kinds.length≤64) :
  Ok (Bv (.ptr (some (p,0))) (.agg [.int .i64 f'.pa,.int .i64 f'.ca,.int .i64 f'.sl,.int .i64 f'.re,kv,cv,mv]) (.int .i64 first) (.int .i64 a) (.int .i64 n) g) fun r=>Same [] g r.2∧r.1 = .bool (argsB f f' first a n):=by
 have hsc:([AV.int .i64 f'.pa,.int .i64 f'.ca,.int .i64 f'.sl,.int .i64 f'.re,kv,cv,mv]:List AV).all scalar=true:=FR.sc
 have bx:=GL hsc
 have s:Same [] g (g.new (.cells true [AV.int .i64 f'.pa,.int .i64 f'.ca,.int .i64 f'.sl,.int .i64 f'.re,kv,cv,mv])):=Same.new _ _
 have b1:(g.new (.cells true [AV.int .i64 f'.pa,.int .i64 f'.ca,.int .i64 f'.sl,.int .i64 f'.re,kv,cv,mv])).get g.next=some (.cells true [AV.int .i64 f'.pa,.int .i64 f'.ca,.int .i64 f'.sl,.int .i64 f'.re,kv,cv,mv]):=Am
 generalize hg1:g.new (.cells true [AV.int .i64 f'.pa,.int .i64 f'.ca,.int .i64 f'.sl,.int .i64 f'.re,kv,cv,mv])=g1 at *
 have H1:=H.mono s
 have FR1:=FR.mono s.next fun j hj=>s.get j hj (by simp)
 have F:FkB g1 g.next f':=⟨kv,by rw [Ai b1];rfl,by obtain⟨_,_,_,e,h,_⟩:=FR1;cases e;exact h⟩
 have w1:=H.wh.a4
 have w2:=H.wh.a5
 refine Ok.eq ?_ (by simp -implicitDefEqProofs only [Bv,bx,Af,hg1]<;>rfl)
 refine CJ (P:=fun r=>r.2.2=g1∧((r.1 = .exit 0∧argsB f f' first a n=true)∨(r.1 = .ret∧r.2.1.getD 0 .bot = .bool false∧argsB f f' first a n=false))) ?_ ?_
 ·refine BF (fun q us g'=>∃ k:Nat,us = [.bool false,.int .i64 (k:Nat)]∧q+k=n.toNat∧g'=g1∧∀ j:Nat,j<k→(kdB f (a+(j:Int)) == kdB f' (first+(j:Int)))=true) ?_ (n:=n.toNat) (by simp only [runB,Bool.or_eq_true,Bool.and_eq_true,decide_eq_true_eq] at hr;omega) ⟨0,rfl,rfl,rfl,fun j h=>by omega⟩
  rintro q us g' ⟨k,rfl,hq,rfl,hall⟩
  rw [gD0,gD1]
  by_cases hk:(k:Int)<n
  ·have hs:=O2 hr hk
   obtain⟨b,o,e1,e2⟩:=H1.kd hs
   obtain⟨kv',b',o',e3,e4,e5⟩:=F.at_ (n:=first+(k:Int)) (by omega) (by omega)
   have q10:=H1.l10
   have hs':0≤a+(k:Int)∧a+(k:Int)<f.sl:=by simpa only [slotB,Bool.and_eq_true,decide_eq_true_eq] using hs
   have wa:IntKind.i64.wrap (a+(k:Int))=a+(k:Int):=B9 (by omega) (by omega)
   have wb:IntKind.i64.wrap (first+(k:Int))=first+(k:Int):=B9 (by omega) (by omega)
   cases d:kdB f (a+(k:Int)) == kdB f' (first+(k:Int)) with
   | true=>
    exact(Ok.of (r:=(Ex.normal,[AV.bool false,.int .i64 ((k+1:Nat):Int)],g')) (.inl ⟨rfl,q - 1,by omega,k+1,rfl,by omega,rfl,fun j hj=>by
     rcases (by omega:j<k∨j=k) with h | rfl
     ·exact hall j h
     ·exact d⟩)).eq (by simp -implicitDefEqProofs only [Cj,hk,q10,Ap,wa,wb,e1,e2,e3,e4,e5,MC,Nat.zero_add,d,suc64 k (by omega),AO,AF,Option.bind_some,AZ,AY,Ac,AX,AL,AH,AD,Ad,AQ,AE,AM,AC,if_true,if_false,Bool.false_eq_true,AJ,AP,AG,AR,AK,AU,Int.reduceEq,Int.reduceLT,Int.reduceLE,decide_true,decide_false,AB,AA,Ae,Bool.not_true,Bool.not_false,AW])
   | false=>
    exact(Ok.of (r:=(Ex.ret,[AV.bool false,.int .i64 (k:Nat)],g')) (.inr ⟨by simp,rfl,.inr ⟨rfl,rfl,by
     rw [argsB,List.all_eq_false]
     exact⟨k,List.mem_range.2 (by omega),by rw [d];simp⟩⟩⟩)).eq (by simp -implicitDefEqProofs only [Cj,hk,q10,Ap,wa,wb,e1,e2,e3,e4,e5,MC,Nat.zero_add,d,AO,AF,Option.bind_some,AZ,AY,Ac,AX,AL,AH,AD,Ad,AQ,AE,AM,AC,if_true,if_false,Bool.false_eq_true,AJ,AP,AG,AR,AK,AU,Int.reduceEq,Int.reduceLT,Int.reduceLE,decide_true,decide_false,AB,AA,Ae,Bool.not_true,Bool.not_false,AW])
  ·refine(Ok.of (r:=(Ex.exit 0,[AV.bool false,.int .i64 (k:Nat)],g')) (.inr ⟨by simp,rfl,.inl ⟨rfl,?_⟩⟩)).eq (by
    simp -implicitDefEqProofs only [Cj,AG,hk,decide_false,Option.bind_some,AA])
   rw [argsB,List.all_eq_true]
   exact fun j hj=>hall j (by have:=List.mem_range.1 hj;omega)
 ·rintro e us g2 ⟨hg2,⟨rfl,h⟩ | ⟨rfl,hv,h⟩⟩
  ·simp only at hg2
   exact Ah (v:=.bool true) (g:=g2) (by simp -implicitDefEqProofs only [if_true,Al]) ⟨by rw [hg2];exact s,by rw [h]⟩
  ·simp only at hg2 hv
   exact Ah (v:=.bool false) (g:=g2) (by simp -implicitDefEqProofs only [reduceCtorEq,if_false,Cm,Dx,hv]) ⟨by rw [hg2];exact s,by rw [h]⟩
theorem Cy {g:Heap}{p:Nat}{m:Md}{f:Fn}{pc:Int}{i:Ins}{c:Cv}(H:CkB g p m f pc i c)(b:Bool){a:Int}(ha:slotB f a=true){R:Type}{K:AV→Heap→Option R}{Q:R→Prop}(hk:∀ g',Same [] g g'→Ok (K (.bool (kdB f a == b)) g') Q) :
  Ok (cl (Aj (.ptr (some (p,0))) (.bool b) (.sl (some (g.next,0)) 1 (.ex 1)) (g.new (.cells true (wI [a])))) K) Q:=by
 have L:=Lst.lit (Same.refl [] g) [a]
 refine Ao (QO (H.mono L.same) b L.rd (by simp) (by simpa using ha)) ?_
 rintro _ g' ⟨s,rfl⟩
 simp only at s
 have:=hk g' (L.same.trans s)
 simpa using this
theorem Qp {g:Heap}{p:Nat}{m:Md}{f:Fn}{pc:Int}{i:Ins}{c:Cv}(H:CkB g p m f pc i c)(b:Bool){a a':Int}(ha:slotB f a=true)(ha':slotB f a'=true){R:Type}{K:AV→Heap→Option R}{Q:R→Prop}(hk:∀ g',Same [] g g'→Ok (K (.bool (kdB f a == b && kdB f a' == b)) g') Q) :
  Ok (cl (Aj (.ptr (some (p,0))) (.bool b) (.sl (some (g.next,0)) 2 (.ex 2)) (g.new (.cells true (wI [a,a'])))) K) Q:=by
 have L:=Lst.lit (Same.refl [] g) [a,a']
 refine Ao (QO (H.mono L.same) b L.rd (by simp) (by simpa using ⟨ha,ha'⟩)) ?_
 rintro _ g' ⟨s,rfl⟩
 simp only at s
 have:=hk g' (L.same.trans s)
 simpa using this
theorem SE {g:Heap}{p:Nat}{m:Md}{f:Fn}{pc:Int}{i:Ins}{c:Cv}(H:CkB g p m f pc i c)(b:Bool){a a' a'':Int}(ha:slotB f a=true)(ha':slotB f a'=true)(ha'':slotB f a''=true){R:Type}{K:AV→Heap→Option R}{Q:R→Prop}(hk:∀ g',Same [] g g'→Ok (K (.bool (kdB f a == b && (kdB f a' == b && kdB f a'' == b))) g') Q) :
  Ok (cl (Aj (.ptr (some (p,0))) (.bool b) (.sl (some (g.next,0)) 3 (.ex 3)) (g.new (.cells true (wI [a,a',a''])))) K) Q:=by
 have L:=Lst.lit (Same.refl [] g) [a,a',a'']
 refine Ao (QO (H.mono L.same) b L.rd (by simp) (by simpa using ⟨ha,ha',ha''⟩)) ?_
 rintro _ g' ⟨s,rfl⟩
 simp only at s
 have:=hk g' (L.same.trans s)
 simpa using this
theorem Nh {g:Heap}{p:Nat}{m:Md}{f:Fn}{pc:Int}{i:Ins}{c:Cv}(H:CkB g p m f pc i c)(b:Bool){a:Int}(ha:slotB f a=true){R:Type}{K:AV→Heap→Option R}{Q:R→Prop}(hk:∀ g',Same [] g g'→Ok (K (.bool (kdB f a == b)) g') Q) :
  Ok (cl (Aj (.ptr (some (p,0))) (.bool b) (.sl (some (g.next,0)) 1 (.ex 1)) ((hpN g 1).put g.next (some (.cells true (wI [a]))))) K) Q:=by
 have s0:Same [] g ((hpN g 1).put g.next (some (.cells true (wI [a])))):=(FM g 1).old (Same.put _ _ _) (fun j hj=>.inr (by simp at hj;omega))
 have R0:RdW ((hpN g 1).put g.next (some (.cells true (wI [a])))) 1 (.sl (some (g.next,0)) 1 (.ex 1)) (wI [a]) [a].length:=
  ⟨by simp [wI],.inr ⟨g.next,0,.ex 1,rfl,Nat.lt_succ_self _,fun _=>⟨true,[],[],rfl,by rw [An];simp⟩⟩⟩
 refine Ao (QO (H.mono s0) b R0 (by simp) (by simpa using ha)) ?_
 rintro _ g' ⟨s,rfl⟩
 simp only at s
 have:=hk g' (s0.trans s)
 simpa using this
theorem MI {f:Fn}{n:Int}(h:mayB f n=true)(hn : ¬ n = -1):slotB f n=true:=by
 simp only [mayB,Bool.or_eq_true,decide_eq_true_eq] at h
 exact h.resolve_left hn
def callsB (m:Md)(f:Fn)(i:Ins):Bool:=
 if i.op=20 then argsB f (fnD m i.b) 0 i.c (fnD m i.b).pa && (decide (i.a = -1)||(decide (0<(fnD m i.b).re) && (kdB f i.a == decide ((fnD m i.b).re=2))))
 else if i.op=23 then argsB f (fnD m i.a) 0 i.b (fnD m i.a).pa
 else if i.op=36 then(kdB f i.a == true) && argsB f (fnD m i.b) (fnD m i.b).pa i.c (fnD m i.b).ca
 else if i.op=22 then(if i.a = -1 then decide (f.re=0) else decide (0<f.re) && (kdB f i.a == decide (f.re=2)))
 else true
theorem Kj {m:Md}{n:Int}(h:(fnAt m n).isSome=true)(w:∀ (k:Nat) f',m.funcs[k]?=some f'→Whole f'):Whole (fnD m n):=by
 unfold fnD
 cases e:fnAt m n with
 | none=>rw [e] at h;cases h
 | some f'=>
  unfold fnAt at e
  split at e
  ·cases e
  ·exact w _ _ e
theorem Qe {g:Heap}{p:Nat}{m:Md}{f:Fn}{pc:Int}{i:Ins}{c:Cv}(H:CkB g p m f pc i c)(h4:slotsB m f i=true)(h5 : ¬ i.op=41→thereB m i=true) :
  Ok (B7 (.ptr (some (p,0))) g) fun r=>Same [] g r.2∧r.1 = .bool (callsB m f i):=by
 have li:=H.li
 have h4' : ¬ i.op < 0∧¬ 44<i.op:=by
  unfold slotsB at h4
  constructor
  ·intro h;rw [if_pos h] at h4;cases h4
  ·intro h;rw [if_neg (by omega),if_pos h] at h4;cases h4
 rw [slotsB,if_neg h4'.1,if_neg h4'.2] at h4
 refine Ok.eq ?_ (by simp -implicitDefEqProofs only [B7,Option.bind_some,AO,AF,Nat.zero_add,li]<;>rfl)
 refine EV (cs:=i.row) (n:=5) (by rfl) (by rfl) (Ins.sc i) fun g1 s n1 b1=>?_
 have H1:=H.mono s
 have ild:∀ g',Same [] g1 g'→∀ (k:Nat) x,i.row[k]?=some x→ldS g' (.ptr (some (g.next,k)))=some x:=fun g' s k x hx=>by rw [Ai (w:=true) (vs:=i.row) (by rw [s.get _ (by omega) (by simp)];exact b1)];exact hx
 have S1:=Same.refl [] g1
 have i0:=ild g1 S1 0 _ rfl;have i1:=ild g1 S1 1 _ rfl;have i2:=ild g1 S1 2 _ rfl;have i3:=ild g1 S1 3 _ rfl
 generalize g.next=ib at *
 have fin:∀ (b:Bool) (x:Option (AV × Heap)) (g2:Heap),Same [] g1 g2→x=some (.bool b,g2)→callsB m f i=b→Ok x fun r=>Same [] g r.2∧r.1 = .bool (callsB m f i):=fun b x g2 s2 hx hb=>by rw [hx,hb];exact Ok.of (r:=(AV.bool b,g2)) ⟨s.trans s2,rfl⟩
 by_cases c20:i.op=20
 ·have e:callsB m f i=(argsB f (fnD m i.b) 0 i.c (fnD m i.b).pa && (decide (i.a = -1)||(decide (0<(fnD m i.b).re) && (kdB f i.a == decide ((fnD m i.b).re=2))))):=by rw [callsB,if_pos c20]
  rw [if_pos c20,Bool.and_eq_true] at h4
  have h5':=h5 (by omega)
  have e5:thereB m i=((fnAt m i.b).isSome && decide ((fnD m i.b).ca=0)):=by rw [thereB,if_neg (by omega),if_neg (by omega),if_neg (by omega),if_neg (by omega),if_neg (by omega),if_neg (by omega),if_pos c20]
  rw [e5,Bool.and_eq_true] at h5'
  have wf:=Kj h5'.1 H.fs
  refine Ok.eq ?_ (by simp -implicitDefEqProofs only [i0,i1,i2,i3,c20,AO,AF,Option.bind_some,AZ,AY,Ac,AX,AL,AH,AD,Ad,AQ,AE,AM,AC,if_true,if_false,Bool.false_eq_true,AJ,AP,AG,AR,AK,AU,Int.reduceEq,Int.reduceLT,Int.reduceLE,decide_true,decide_false,AB,AA,Ae,Bool.not_true,Bool.not_false,AW]<;>rfl)
  refine Ao (JZ H1 i.b) ?_
  rintro _ g4 ⟨s4,kv,cv,mv,rfl,FR⟩
  simp only at s4 FR
  have hsc:([AV.int .i64 (fnD m i.b).pa,.int .i64 (fnD m i.b).ca,.int .i64 (fnD m i.b).sl,.int .i64 (fnD m i.b).re,kv,cv,mv]:List AV).all scalar=true:=FR.sc
  refine Ok.eq ?_ (by simp -implicitDefEqProofs only [Br,List.getElem?_cons_zero,List.getElem?_cons_succ,Option.bind_some,Af]<;>rfl)
  refine Er (cs:=[AV.int .i64 (fnD m i.b).pa,.int .i64 (fnD m i.b).ca,.int .i64 (fnD m i.b).sl,.int .i64 (fnD m i.b).re,kv,cv,mv]) (n:=7) (by rfl) (by rfl) hsc fun _ g5 s5 n5 b5=>?_
  have l0:ldS g5 (.ptr (some (g4.next,0)))=some (.int .i64 (fnD m i.b).pa):=by rw [Ai b5];rfl
  have l1:ldS g5 (.ptr (some (g4.next,1)))=some (.int .i64 (fnD m i.b).ca):=by rw [Ai b5];rfl
  have l3:ldS g5 (.ptr (some (g4.next,3)))=some (.int .i64 (fnD m i.b).re):=by rw [Ai b5];rfl
  have s5':=s4.trans s5
  obtain⟨s6,l0,l3,FR5,e7⟩:Same [] g1 g5∧ldS g5 (.ptr (some (g4.next,0)))=some (.int .i64 (fnD m i.b).pa)∧ldS g5 (.ptr (some (g4.next,3)))=some (.int .i64 (fnD m i.b).re)∧FnRd g5 [AV.int .i64 (fnD m i.b).pa,.int .i64 (fnD m i.b).ca,.int .i64 (fnD m i.b).sl,.int .i64 (fnD m i.b).re,kv,cv,mv] (fnD m i.b)∧ldA 7 g5 (.ptr (some (g4.next,0)))=some (.agg [AV.int .i64 (fnD m i.b).pa,.int .i64 (fnD m i.b).ca,.int .i64 (fnD m i.b).sl,.int .i64 (fnD m i.b).re,kv,cv,mv]):=⟨s5',l0,l3,FR.mono s5.next fun j hj=>s5.get j hj (by simp),Ck b5 rfl⟩
  have j3:=ild g5 s6 3 _ rfl
  refine Ok.eq ?_ (by simp -implicitDefEqProofs only [e7,l0,j3,AF,Nat.zero_add,Option.bind_some]<;>rfl)
  refine Ao (NZ (H1.mono s6) FR5 0 i.c (fnD m i.b).pa h4.2 (by omega) (by have:=wf.a8;have:=wf.a6;omega) (by have:=wf.a8;have:=wf.a5;omega)) ?_
  rintro _ g6 ⟨s7,rfl⟩
  simp only at s7
  have s17:=s6.trans s7
  cases d1:argsB f (fnD m i.b) 0 i.c (fnD m i.b).pa
  ·exact fin false _ g6 s17 (by simp -implicitDefEqProofs only [d1,AO,AF,Option.bind_some,AZ,AY,Ac,AX,AL,AH,AD,Ad,AQ,AE,AM,AC,if_true,if_false,Bool.false_eq_true,AJ,AP,AG,AR,AK,AU,Int.reduceEq,Int.reduceLT,Int.reduceLE,decide_true,decide_false,AB,AA,Ae,Bool.not_true,Bool.not_false,AW]) (by rw [e,d1];rfl)
  have k1:=ild g6 s17 1 _ rfl
  have m3:ldS g6 (.ptr (some (g4.next,3)))=some (.int .i64 (fnD m i.b).re):=by rw [Ai (by rw [s7.get _ (by omega) (by simp)];exact b5)];rfl
  by_cases d2:i.a = -1
  ·exact fin true _ g6 s17 (by simp -implicitDefEqProofs only [k1,d2,Nat.zero_add,AO,AF,Option.bind_some,AZ,AY,Ac,AX,AL,AH,AD,Ad,AQ,AE,AM,AC,if_true,if_false,Bool.false_eq_true,AJ,AP,AG,AR,AK,AU,Int.reduceEq,Int.reduceLT,Int.reduceLE,decide_true,decide_false,AB,AA,Ae,Bool.not_true,Bool.not_false,AW]) (by rw [e,d1,decide_eq_true d2];rfl)
  by_cases d3:0<(fnD m i.b).re
  ·have ha:=MI h4.1 d2
   refine Ok.eq ?_ (by simp -implicitDefEqProofs only [k1,m3,d2,d3,Nat.zero_add,bs1,Af,AO,AF,Option.bind_some,AZ,AY,Ac,AX,AL,AH,AD,Ad,AQ,AE,AM,AC,if_true,if_false,Bool.false_eq_true,AJ,AP,AG,AR,AK,AU,Int.reduceEq,Int.reduceLT,Int.reduceLE,decide_true,decide_false,AB,AA,Ae,Bool.not_true,Bool.not_false,AW]<;>rfl)
   refine Ao (P:=fun r=>Same [] g1 r.2∧r.1 = .bool (kdB f i.a == decide ((fnD m i.b).re=2))) (Cy (H1.mono s17) (decide ((fnD m i.b).re=2)) ha fun g' s'=>Ok.of ⟨s17.trans s',rfl⟩) ?_
   rintro _ g8 ⟨s8,rfl⟩
   simp only at s8
   exact fin (kdB f i.a == decide ((fnD m i.b).re=2)) _ g8 s8 (by simp -implicitDefEqProofs only [d2,AO,AF,Option.bind_some,AZ,AY,Ac,AX,AL,AH,AD,Ad,AQ,AE,AM,AC,if_true,if_false,Bool.false_eq_true,AJ,AP,AG,AR,AK,AU,Int.reduceEq,Int.reduceLT,Int.reduceLE,decide_true,decide_false,AB,AA,Ae,Bool.not_true,Bool.not_false,AW]) (by rw [e,d1,decide_eq_false d2,decide_eq_true d3];simp)
  ·exact fin false _ g6 s17 (by simp -implicitDefEqProofs only [k1,m3,d2,d3,Nat.zero_add,AO,AF,Option.bind_some,AZ,AY,Ac,AX,AL,AH,AD,Ad,AQ,AE,AM,AC,if_true,if_false,Bool.false_eq_true,AJ,AP,AG,AR,AK,AU,Int.reduceEq,Int.reduceLT,Int.reduceLE,decide_true,decide_false,AB,AA,Ae,Bool.not_true,Bool.not_false,AW]) (by rw [e,d1,decide_eq_false d2,decide_eq_false d3];rfl)
 by_cases c23:i.op=23
 ·have e:callsB m f i=argsB f (fnD m i.a) 0 i.b (fnD m i.a).pa:=by rw [callsB,if_neg c20,if_pos c23]
  rw [if_neg c20,if_neg (by omega),if_neg (by omega),if_pos c23] at h4
  have h5':=h5 (by omega)
  have e5:thereB m i=((fnAt m i.a).isSome && decide ((fnD m i.a).ca=0) && decide ((fnD m i.a).re=0)):=by rw [thereB,if_neg (by omega),if_neg (by omega),if_neg (by omega),if_neg (by omega),if_neg (by omega),if_neg (by omega),if_neg (by omega),if_pos c23]
  rw [e5,Bool.and_eq_true,Bool.and_eq_true] at h5'
  have wf:=Kj h5'.1.1 H.fs
  refine Ok.eq ?_ (by simp -implicitDefEqProofs only [i0,i1,i2,i3,c23,AO,AF,Option.bind_some,AZ,AY,Ac,AX,AL,AH,AD,Ad,AQ,AE,AM,AC,if_true,if_false,Bool.false_eq_true,AJ,AP,AG,AR,AK,AU,Int.reduceEq,Int.reduceLT,Int.reduceLE,decide_true,decide_false,AB,AA,Ae,Bool.not_true,Bool.not_false,AW]<;>rfl)
  refine Ao (JZ H1 i.a) ?_
  rintro _ g4 ⟨s4,kv,cv,mv,rfl,FR⟩
  simp only at s4 FR
  have hsc:([AV.int .i64 (fnD m i.a).pa,.int .i64 (fnD m i.a).ca,.int .i64 (fnD m i.a).sl,.int .i64 (fnD m i.a).re,kv,cv,mv]:List AV).all scalar=true:=FR.sc
  refine Ok.eq ?_ (by simp -implicitDefEqProofs only [Br,List.getElem?_cons_zero,List.getElem?_cons_succ,Option.bind_some,Af]<;>rfl)
  refine Er (cs:=[AV.int .i64 (fnD m i.a).pa,.int .i64 (fnD m i.a).ca,.int .i64 (fnD m i.a).sl,.int .i64 (fnD m i.a).re,kv,cv,mv]) (n:=7) (by rfl) (by rfl) hsc fun _ g5 s5 n5 b5=>?_
  have l0:ldS g5 (.ptr (some (g4.next,0)))=some (.int .i64 (fnD m i.a).pa):=by rw [Ai b5];rfl
  have l1:ldS g5 (.ptr (some (g4.next,1)))=some (.int .i64 (fnD m i.a).ca):=by rw [Ai b5];rfl
  have l3:ldS g5 (.ptr (some (g4.next,3)))=some (.int .i64 (fnD m i.a).re):=by rw [Ai b5];rfl
  have s5':=s4.trans s5
  have FR5:FnRd g5 [AV.int .i64 (fnD m i.a).pa,.int .i64 (fnD m i.a).ca,.int .i64 (fnD m i.a).sl,.int .i64 (fnD m i.a).re,kv,cv,mv] (fnD m i.a):=FR.mono s5.next fun j hj=>s5.get j hj (by simp)
  have e7:ldA 7 g5 (.ptr (some (g4.next,0)))=some (.agg [AV.int .i64 (fnD m i.a).pa,.int .i64 (fnD m i.a).ca,.int .i64 (fnD m i.a).sl,.int .i64 (fnD m i.a).re,kv,cv,mv]):=Ck b5 rfl
  have j2:=ild g5 s5' 2 _ rfl
  refine Ok.eq ?_ (by simp -implicitDefEqProofs only [e7,l0,j2,AF,Nat.zero_add,Option.bind_some]<;>rfl)
  refine Ao (NZ (H1.mono s5') FR5 0 i.b (fnD m i.a).pa h4 (by omega) (by have:=wf.a8;have:=wf.a6;omega) (by have:=wf.a8;have:=wf.a5;omega)) ?_
  rintro _ g6 ⟨s7,rfl⟩
  simp only at s7
  exact fin _ _ g6 (s5'.trans s7) rfl e
 by_cases c36:i.op=36
 ·have e:callsB m f i=((kdB f i.a == true) && argsB f (fnD m i.b) (fnD m i.b).pa i.c (fnD m i.b).ca):=by rw [callsB,if_neg c20,if_neg c23,if_pos c36]
  rw [if_neg c20,if_neg (by omega),if_neg (by omega),if_neg c23,if_neg (by omega),if_pos c36,Bool.and_eq_true] at h4
  have h5':=h5 (by omega)
  have e5:thereB m i=(fnAt m i.b).isSome:=by rw [thereB,if_neg (by omega),if_neg (by omega),if_neg (by omega),if_neg (by omega),if_neg (by omega),if_neg (by omega),if_neg (by omega),if_neg (by omega),if_pos c36]
  rw [e5] at h5'
  have wf:=Kj h5' H.fs
  refine Ok.eq ?_ (by simp -implicitDefEqProofs only [i0,i1,i2,i3,c36,AO,AF,Option.bind_some,AZ,AY,Ac,AX,AL,AH,AD,Ad,AQ,AE,AM,AC,if_true,if_false,Bool.false_eq_true,AJ,AP,AG,AR,AK,AU,Int.reduceEq,Int.reduceLT,Int.reduceLE,decide_true,decide_false,AB,AA,Ae,Bool.not_true,Bool.not_false,AW]<;>rfl)
  refine Ao (JZ H1 i.b) ?_
  rintro _ g4 ⟨s4,kv,cv,mv,rfl,FR⟩
  simp only at s4 FR
  have hsc:([AV.int .i64 (fnD m i.b).pa,.int .i64 (fnD m i.b).ca,.int .i64 (fnD m i.b).sl,.int .i64 (fnD m i.b).re,kv,cv,mv]:List AV).all scalar=true:=FR.sc
  refine Ok.eq ?_ (by simp -implicitDefEqProofs only [Br,List.getElem?_cons_zero,List.getElem?_cons_succ,Option.bind_some,Af]<;>rfl)
  refine Er (cs:=[AV.int .i64 (fnD m i.b).pa,.int .i64 (fnD m i.b).ca,.int .i64 (fnD m i.b).sl,.int .i64 (fnD m i.b).re,kv,cv,mv]) (n:=7) (by rfl) (by rfl) hsc fun _ g5 s5 n5 b5=>?_
  have l0:ldS g5 (.ptr (some (g4.next,0)))=some (.int .i64 (fnD m i.b).pa):=by rw [Ai b5];rfl
  have l1:ldS g5 (.ptr (some (g4.next,1)))=some (.int .i64 (fnD m i.b).ca):=by rw [Ai b5];rfl
  have l3:ldS g5 (.ptr (some (g4.next,3)))=some (.int .i64 (fnD m i.b).re):=by rw [Ai b5];rfl
  have s5':=s4.trans s5
  have j1:=ild g5 s5' 1 _ rfl
  refine Ok.eq ?_ (by simp -implicitDefEqProofs only [j1,AF,Nat.zero_add,Option.bind_some,bs1,Af]<;>rfl)
  refine Cy (H1.mono s5') true h4.1 fun g6 s7=>?_
  have s17:=s5'.trans s7
  cases d1:kdB f i.a == true
  ·exact fin false _ g6 s17 (by simp -implicitDefEqProofs only [d1,AO,AF,Option.bind_some,AZ,AY,Ac,AX,AL,AH,AD,Ad,AQ,AE,AM,AC,if_true,if_false,Bool.false_eq_true,AJ,AP,AG,AR,AK,AU,Int.reduceEq,Int.reduceLT,Int.reduceLE,decide_true,decide_false,AB,AA,Ae,Bool.not_true,Bool.not_false,AW]) (by rw [e,d1];rfl)
  have b6:=(s7.get _ (by omega) (by simp)).trans b5
  have FR6:FnRd g6 [AV.int .i64 (fnD m i.b).pa,.int .i64 (fnD m i.b).ca,.int .i64 (fnD m i.b).sl,.int .i64 (fnD m i.b).re,kv,cv,mv] (fnD m i.b):=FR.mono (s5.trans s7).next fun j hj=>(s5.trans s7).get j hj (by simp)
  have e7:ldA 7 g6 (.ptr (some (g4.next,0)))=some (.agg [AV.int .i64 (fnD m i.b).pa,.int .i64 (fnD m i.b).ca,.int .i64 (fnD m i.b).sl,.int .i64 (fnD m i.b).re,kv,cv,mv]):=Ck b6 rfl
  have j3:=ild g6 s17 3 _ rfl
  have r0:ldS g6 (.ptr (some (g4.next,0)))=some (.int .i64 (fnD m i.b).pa):=by rw [Ai b6];rfl
  have r1:ldS g6 (.ptr (some (g4.next,1)))=some (.int .i64 (fnD m i.b).ca):=by rw [Ai b6];rfl
  refine Ok.eq ?_ (by simp -implicitDefEqProofs only [d1,e7,j3,r0,r1,Nat.zero_add,AO,AF,Option.bind_some,AZ,AY,Ac,AX,AL,AH,AD,Ad,AQ,AE,AM,AC,if_true,if_false,Bool.false_eq_true,AJ,AP,AG,AR,AK,AU,Int.reduceEq,Int.reduceLT,Int.reduceLE,decide_true,decide_false,AB,AA,Ae,Bool.not_true,Bool.not_false,AW]<;>rfl)
  refine Ao (P:=fun r=>Same [] g6 r.2∧r.1 = .bool (argsB f (fnD m i.b) (fnD m i.b).pa i.c (fnD m i.b).ca)) (Ao (NZ (H1.mono s17) FR6 (fnD m i.b).pa i.c (fnD m i.b).ca h4.2 wf.a1 (by have:=wf.a8;have:=wf.a7;omega) (by have:=wf.a8;have:=wf.a5;omega)) fun v g' hh=>Ok.of (r:=(v,g')) hh) ?_
  rintro _ g7 ⟨s8,rfl⟩
  simp only at s8
  exact fin _ _ g7 (s17.trans s8) rfl (by rw [e,d1,Bool.true_and])
 by_cases c22:i.op=22
 ·rw [if_neg c20,if_neg (by omega),if_pos c22] at h4
  have q9:=H1.l9
  have q9':ldS (hpN g1 1) (.ptr (some (p,9)))=some (.int .i64 f.re):=(H1.mono (FM g1 1)).l9
  have i1':=ild (hpN g1 1) (FM g1 1) 1 _ rfl
  by_cases d1:i.a = -1
  ·exact fin (decide (f.re=0)) _ g1 S1 (by simp -implicitDefEqProofs only [i0,i1,q9,c22,d1,Nat.zero_add,AO,AF,Option.bind_some,AZ,AY,Ac,AX,AL,AH,AD,Ad,AQ,AE,AM,AC,if_true,if_false,Bool.false_eq_true,AJ,AP,AG,AR,AK,AU,Int.reduceEq,Int.reduceLT,Int.reduceLE,decide_true,decide_false,AB,AA,Ae,Bool.not_true,Bool.not_false,AW]) (by rw [callsB,if_neg c20,if_neg c23,if_neg c36,if_pos c22,if_pos d1])
  have e:callsB m f i=(decide (0<f.re) && (kdB f i.a == decide (f.re=2))):=by rw [callsB,if_neg c20,if_neg c23,if_neg c36,if_pos c22,if_neg d1]
  have ha:=MI h4 d1
  by_cases d2:0<f.re
  ·refine Ok.eq ?_ (by simp -implicitDefEqProofs only [i0,i1,q9',i1',c22,d1,d2,Nat.zero_add,Nat.add_zero,bs1,Eu,AO,AF,Option.bind_some,AZ,AY,Ac,AX,AL,AH,AD,Ad,AQ,AE,AM,AC,if_true,if_false,Bool.false_eq_true,AJ,AP,AG,AR,AK,AU,Int.reduceEq,Int.reduceLT,Int.reduceLE,decide_true,decide_false,AB,AA,Ae,Bool.not_true,Bool.not_false,AW]<;>rfl)
   refine Ao (P:=fun r=>Same [] g1 r.2∧r.1 = .bool (kdB f i.a == decide (f.re=2))) (Nh H1 (decide (f.re=2)) ha fun g' s'=>Ok.of ⟨s',rfl⟩) ?_
   rintro _ g8 ⟨s8,rfl⟩
   simp only at s8
   exact fin (kdB f i.a == decide (f.re=2)) _ g8 s8 (by simp -implicitDefEqProofs only [d2,AO,AF,Option.bind_some,AZ,AY,Ac,AX,AL,AH,AD,Ad,AQ,AE,AM,AC,if_true,if_false,Bool.false_eq_true,AJ,AP,AG,AR,AK,AU,Int.reduceEq,Int.reduceLT,Int.reduceLE,decide_true,decide_false,AB,AA,Ae,Bool.not_true,Bool.not_false,AW]) (by rw [e,decide_eq_true d2,Bool.true_and])
  ·exact fin false _ (hpN g1 1) (FM g1 1) (by simp -implicitDefEqProofs only [i0,i1,q9',i1',c22,d1,d2,Nat.zero_add,AO,AF,Option.bind_some,AZ,AY,Ac,AX,AL,AH,AD,Ad,AQ,AE,AM,AC,if_true,if_false,Bool.false_eq_true,AJ,AP,AG,AR,AK,AU,Int.reduceEq,Int.reduceLT,Int.reduceLE,decide_true,decide_false,AB,AA,Ae,Bool.not_true,Bool.not_false,AW]) (by rw [e,decide_eq_false d2,Bool.false_and])
 exact fin true _ g1 S1 (by simp -implicitDefEqProofs only [i0,c20,c23,c36,c22,AO,AF,Option.bind_some,AZ,AY,Ac,AX,AL,AH,AD,Ad,AQ,AE,AM,AC,if_true,if_false,Bool.false_eq_true,AJ,AP,AG,AR,AK,AU,Int.reduceEq,Int.reduceLT,Int.reduceLE,decide_true,decide_false,AB,AA,Ae,Bool.not_true,Bool.not_false,AW]) (by rw [callsB,if_neg c20,if_neg c23,if_neg c36,if_neg c22])
set_option linter.all false
attribute [local congr] BI D1 Dy D2 Bu D3 Dz Aw Av
def glB (m:Md)(n:Int):Bool:=m.globals.getD n.toNat false
def badKd (f:Fn)(x:Cas):Bool:=!decide (x.kind=2) && !(kdB f x.chan == true)
def kind6B (m:Md)(f:Fn)(i:Ins):Bool:=
 if i.op=0∨i.op=19∨i.op=42 then kdB f i.a == false
 else if i.op=1 then kdB f i.a == kdB f i.b
 else if i.op=2∨i.op=25∨i.op=40 then kdB f i.a == true
 else if 3≤i.op∧i.op≤15 then(kdB f i.a == false && (kdB f i.b == false && kdB f i.c == false))
 else if i.op=16 then(kdB f i.a == false) && (kdB f i.b == true && kdB f i.c == true)
 else if i.op=17 then(kdB f i.a == false && kdB f i.b == false)
 else if i.op=26∨i.op=37 then(kdB f i.a == true) && (kdB f i.c == false)
 else if i.op=27∨i.op=21 then kdB f i.b == true
 else if i.op=28∨i.op=29∨i.op=24∨i.op=38 then kdB f i.a == true
 else if i.op=30 then(kdB f i.b == true) && (kdB f i.c == false)
 else if i.op=31∨i.op=32 then(kdB f i.a == true) && (kdB f i.b == false)
 else if i.op=33 then(kdB f i.a == false) && (kdB f i.b == true)
 else if i.op=34 then kdB f i.a == glB m i.b
 else if i.op=35 then kdB f i.b == glB m i.a
 else if i.op=39 then(kdB f i.b == true) && (decide (i.c = -1)||(kdB f i.c == false))
 else if i.op=41 then !((casesOf m i.a i.b).any (badKd f))
 else callsB m f i
structure KdW (g:Heap)(p q ib:Nat)(m:Md)(f:Fn)(pc:Int)(i:Ins)(c:Cv):Prop where
 ck:CkB g p m f pc i c
 qg:g.get q=some (.cells true [.ptr (some (p,0))])
 ig:g.get ib=some (.cells true i.row)
 ql:q<g.next
 il:ib<g.next
section
variable {g:Heap}{p q ib:Nat}{m:Md}{f:Fn}{pc:Int}{i:Ins}{c:Cv}(W:KdW g p q ib m f pc i c)
include W
theorem KdW.mono {g':Heap}(s:Same [] g g'):KdW g' p q ib m f pc i c:=
 ⟨W.ck.mono s,(s.get _ W.ql (by simp)).trans W.qg,(s.get _ W.il (by simp)).trans W.ig,Nat.lt_of_lt_of_le W.ql s.next,Nat.lt_of_lt_of_le W.il s.next⟩
theorem KdW.q0:ldS g (.ptr (some (q,0)))=some (.ptr (some (p,0))):=by rw [Ai W.qg];rfl
theorem KdW.i0:ldS g (.ptr (some (ib,0)))=some (.int .i64 i.op):=by rw [Ai W.ig];rfl
theorem KdW.i1:ldS g (.ptr (some (ib,1)))=some (.int .i64 i.a):=by rw [Ai W.ig];rfl
theorem KdW.i2:ldS g (.ptr (some (ib,2)))=some (.int .i64 i.b):=by rw [Ai W.ig];rfl
theorem KdW.i3:ldS g (.ptr (some (ib,3)))=some (.int .i64 i.c):=by rw [Ai W.ig];rfl
end
theorem sl0 {m:Md}{f:Fn}{i:Ins}(h:slotsB m f i=true)(c:i.op=0):slotB f i.a=true:=by
 simp only [slotsB,readsL,writesL,c,Int.reduceEq,Int.reduceLE,Int.reduceLT,true_or,or_true,false_or,or_false,or_self,and_self,and_true,true_and,and_false,false_and,if_true,if_false,ite_true] at h
 simpa using h
theorem sl19 {m:Md}{f:Fn}{i:Ins}(h:slotsB m f i=true)(c:i.op=19):slotB f i.a=true:=by
 simp only [slotsB,readsL,writesL,c,Int.reduceEq,Int.reduceLE,Int.reduceLT,true_or,or_true,false_or,or_false,or_self,and_self,and_true,true_and,and_false,false_and,if_true,if_false,ite_true] at h
 simpa using h
theorem sl42 {m:Md}{f:Fn}{i:Ins}(h:slotsB m f i=true)(c:i.op=42):slotB f i.a=true:=by
 simp only [slotsB,readsL,writesL,c,Int.reduceEq,Int.reduceLE,Int.reduceLT,true_or,or_true,false_or,or_false,or_self,and_self,and_true,true_and,and_false,false_and,if_true,if_false,ite_true] at h
 simpa using h
theorem sl1 {m:Md}{f:Fn}{i:Ins}(h:slotsB m f i=true)(c:i.op=1):slotB f i.b=true∧slotB f i.a=true:=by
 simp only [slotsB,readsL,writesL,c,Int.reduceEq,Int.reduceLE,Int.reduceLT,true_or,or_true,false_or,or_false,or_self,and_self,and_true,true_and,and_false,false_and,if_true,if_false,ite_true] at h
 simpa using h
theorem sl2 {m:Md}{f:Fn}{i:Ins}(h:slotsB m f i=true)(c:i.op=2):slotB f i.a=true:=by
 simp only [slotsB,readsL,writesL,c,Int.reduceEq,Int.reduceLE,Int.reduceLT,true_or,or_true,false_or,or_false,or_self,and_self,and_true,true_and,and_false,false_and,if_true,if_false,ite_true] at h
 simpa using h
theorem sl25 {m:Md}{f:Fn}{i:Ins}(h:slotsB m f i=true)(c:i.op=25):slotB f i.a=true:=by
 simp only [slotsB,readsL,writesL,c,Int.reduceEq,Int.reduceLE,Int.reduceLT,true_or,or_true,false_or,or_false,or_self,and_self,and_true,true_and,and_false,false_and,if_true,if_false,ite_true] at h
 simpa using h
theorem sl40 {m:Md}{f:Fn}{i:Ins}(h:slotsB m f i=true)(c:i.op=40):slotB f i.a=true:=by
 simp only [slotsB,readsL,writesL,c,Int.reduceEq,Int.reduceLE,Int.reduceLT,true_or,or_true,false_or,or_false,or_self,and_self,and_true,true_and,and_false,false_and,if_true,if_false,ite_true] at h
 simpa using h
theorem sl16 {m:Md}{f:Fn}{i:Ins}(h:slotsB m f i=true)(c:i.op=16):slotB f i.b=true∧slotB f i.c=true∧slotB f i.a=true:=by
 simp only [slotsB,readsL,writesL,c,Int.reduceEq,Int.reduceLE,Int.reduceLT,true_or,or_true,false_or,or_false,or_self,and_self,and_true,true_and,and_false,false_and,if_true,if_false,ite_true] at h
 simpa using h
theorem sl17 {m:Md}{f:Fn}{i:Ins}(h:slotsB m f i=true)(c:i.op=17):slotB f i.b=true∧slotB f i.a=true:=by
 simp only [slotsB,readsL,writesL,c,Int.reduceEq,Int.reduceLE,Int.reduceLT,true_or,or_true,false_or,or_false,or_self,and_self,and_true,true_and,and_false,false_and,if_true,if_false,ite_true] at h
 simpa using h
theorem sl26 {m:Md}{f:Fn}{i:Ins}(h:slotsB m f i=true)(c:i.op=26):slotB f i.c=true∧slotB f i.a=true:=by
 simp only [slotsB,readsL,writesL,c,Int.reduceEq,Int.reduceLE,Int.reduceLT,true_or,or_true,false_or,or_false,or_self,and_self,and_true,true_and,and_false,false_and,if_true,if_false,ite_true] at h
 simpa using h
theorem sl37 {m:Md}{f:Fn}{i:Ins}(h:slotsB m f i=true)(c:i.op=37):slotB f i.c=true∧slotB f i.a=true:=by
 simp only [slotsB,readsL,writesL,c,Int.reduceEq,Int.reduceLE,Int.reduceLT,true_or,or_true,false_or,or_false,or_self,and_self,and_true,true_and,and_false,false_and,if_true,if_false,ite_true] at h
 simpa using h
theorem sl27 {m:Md}{f:Fn}{i:Ins}(h:slotsB m f i=true)(c:i.op=27):slotB f i.b=true∧slotB f i.a=true:=by
 simp only [slotsB,readsL,writesL,c,Int.reduceEq,Int.reduceLE,Int.reduceLT,true_or,or_true,false_or,or_false,or_self,and_self,and_true,true_and,and_false,false_and,if_true,if_false,ite_true] at h
 simpa using h
theorem sl28 {m:Md}{f:Fn}{i:Ins}(h:slotsB m f i=true)(c:i.op=28):slotB f i.a=true∧slotB f i.c=true:=by
 simp only [slotsB,readsL,writesL,c,Int.reduceEq,Int.reduceLE,Int.reduceLT,true_or,or_true,false_or,or_false,or_self,and_self,and_true,true_and,and_false,false_and,if_true,if_false,ite_true] at h
 simpa using h
theorem sl29 {m:Md}{f:Fn}{i:Ins}(h:slotsB m f i=true)(c:i.op=29):slotB f i.a=true∧slotB f i.c=true:=by
 simp only [slotsB,readsL,writesL,c,Int.reduceEq,Int.reduceLE,Int.reduceLT,true_or,or_true,false_or,or_false,or_self,and_self,and_true,true_and,and_false,false_and,if_true,if_false,ite_true] at h
 simpa using h
theorem sl38 {m:Md}{f:Fn}{i:Ins}(h:slotsB m f i=true)(c:i.op=38):slotB f i.a=true∧slotB f i.b=true:=by
 simp only [slotsB,readsL,writesL,c,Int.reduceEq,Int.reduceLE,Int.reduceLT,true_or,or_true,false_or,or_false,or_self,and_self,and_true,true_and,and_false,false_and,if_true,if_false,ite_true] at h
 simpa using h
theorem sl30 {m:Md}{f:Fn}{i:Ins}(h:slotsB m f i=true)(c:i.op=30):slotB f i.b=true∧slotB f i.c=true∧slotB f i.a=true:=by
 simp only [slotsB,readsL,writesL,c,Int.reduceEq,Int.reduceLE,Int.reduceLT,true_or,or_true,false_or,or_false,or_self,and_self,and_true,true_and,and_false,false_and,if_true,if_false,ite_true] at h
 simpa using h
theorem sl31 {m:Md}{f:Fn}{i:Ins}(h:slotsB m f i=true)(c:i.op=31):slotB f i.a=true∧slotB f i.b=true∧slotB f i.c=true:=by
 simp only [slotsB,readsL,writesL,c,Int.reduceEq,Int.reduceLE,Int.reduceLT,true_or,or_true,false_or,or_false,or_self,and_self,and_true,true_and,and_false,false_and,if_true,if_false,ite_true] at h
 simpa using h
theorem sl32 {m:Md}{f:Fn}{i:Ins}(h:slotsB m f i=true)(c:i.op=32):slotB f i.a=true∧slotB f i.b=true∧slotB f i.c=true:=by
 simp only [slotsB,readsL,writesL,c,Int.reduceEq,Int.reduceLE,Int.reduceLT,true_or,or_true,false_or,or_false,or_self,and_self,and_true,true_and,and_false,false_and,if_true,if_false,ite_true] at h
 simpa using h
theorem sl33 {m:Md}{f:Fn}{i:Ins}(h:slotsB m f i=true)(c:i.op=33):slotB f i.b=true∧slotB f i.a=true:=by
 simp only [slotsB,readsL,writesL,c,Int.reduceEq,Int.reduceLE,Int.reduceLT,true_or,or_true,false_or,or_false,or_self,and_self,and_true,true_and,and_false,false_and,if_true,if_false,ite_true] at h
 simpa using h
theorem sl34 {m:Md}{f:Fn}{i:Ins}(h:slotsB m f i=true)(c:i.op=34):slotB f i.a=true:=by
 simp only [slotsB,readsL,writesL,c,Int.reduceEq,Int.reduceLE,Int.reduceLT,true_or,or_true,false_or,or_false,or_self,and_self,and_true,true_and,and_false,false_and,if_true,if_false,ite_true] at h
 simpa using h
theorem sl35 {m:Md}{f:Fn}{i:Ins}(h:slotsB m f i=true)(c:i.op=35):slotB f i.b=true:=by
 simp only [slotsB,readsL,writesL,c,Int.reduceEq,Int.reduceLE,Int.reduceLT,true_or,or_true,false_or,or_false,or_self,and_self,and_true,true_and,and_false,false_and,if_true,if_false,ite_true] at h
 simpa using h
theorem slr {m:Md}{f:Fn}{i:Ins}(h:slotsB m f i=true)(r1:3≤i.op)(r2:i.op≤15):slotB f i.b=true∧slotB f i.c=true∧slotB f i.a=true:=by
 have n1 : ¬ i.op=1:=by omega
 have n17 : ¬ i.op=17:=by omega
 have n33 : ¬ i.op=33:=by omega
 have n35 : ¬ i.op=35:=by omega
 have n27 : ¬ i.op=27:=by omega
 have n39 : ¬ i.op=39:=by omega
 have n20 : ¬ i.op=20:=by omega
 have n21 : ¬ i.op=21:=by omega
 have n22 : ¬ i.op=22:=by omega
 have n23 : ¬ i.op=23:=by omega
 have n24 : ¬ i.op=24:=by omega
 have n36 : ¬ i.op=36:=by omega
 have n41 : ¬ i.op=41:=by omega
 have e1 : ¬ i.op < 0:=by omega
 have e2 : ¬ 44<i.op:=by omega
 have e3:i.op≤16:=by omega
 have e4:0≤i.op:=by omega
 have e5:i.op≤17:=by omega
 simp only [slotsB,readsL,writesL,r1,e1,e2,e3,e4,e5,n1,n17,n33,n35,n27,n39,n20,n21,n22,n23,n24,n36,n41,Int.reduceEq,Int.reduceLE,Int.reduceLT,true_or,or_true,false_or,or_false,or_self,and_self,and_true,true_and,and_false,false_and,if_true,if_false,ite_true] at h
 simpa using h
theorem sl21 {m:Md}{f:Fn}{i:Ins}(h:slotsB m f i=true)(c:i.op=21):slotB f i.b=true:=by
 simp only [slotsB,c,Int.reduceEq,Int.reduceLE,Int.reduceLT,true_or,or_true,false_or,or_false,or_self,and_self,and_true,true_and,and_false,false_and,if_true,if_false,ite_true] at h
 simp only [Bool.and_eq_true] at h
 exact h.1.2
theorem sl24 {m:Md}{f:Fn}{i:Ins}(h:slotsB m f i=true)(c:i.op=24):slotB f i.a=true:=by
 simp only [slotsB,c,Int.reduceEq,Int.reduceLE,Int.reduceLT,true_or,or_true,false_or,or_false,or_self,and_self,and_true,true_and,and_false,false_and,if_true,if_false,ite_true] at h
 simp only [Bool.and_eq_true] at h
 exact h.1
theorem sl39 {m:Md}{f:Fn}{i:Ins}(h:slotsB m f i=true)(c:i.op=39):slotB f i.b=true∧mayB f i.c=true:=by
 simp only [slotsB,c,Int.reduceEq,Int.reduceLE,Int.reduceLT,true_or,or_true,false_or,or_false,or_self,and_self,and_true,true_and,and_false,false_and,if_true,if_false,ite_true] at h
 simp only [Bool.and_eq_true] at h
 exact⟨h.1.2,h.2⟩
theorem sl41 {m:Md}{f:Fn}{i:Ins}(h:slotsB m f i=true)(c:i.op=41):∀ x∈casesOf m i.a i.b,badC f x=false:=by
 simp only [slotsB,c,Int.reduceEq,Int.reduceLE,Int.reduceLT,true_or,or_true,false_or,or_false,or_self,and_self,and_true,true_and,and_false,false_and,if_true,if_false,ite_true] at h
 simpa using h
theorem NF {m:Md}{i:Ins}{nm:List Bool}(h:(freshR m i nm).1=true):∀ x∈casesOf m i.a i.b,0≤x.kind∧x.kind≤2:=by
 intro x hx
 unfold freshR at h
 split at h
 ·cases h
 ·split at h
  ·cases h
  ·rename_i h1 h2
   obtain⟨k,hk⟩:=List.getElem?_of_mem hx
   have hl:=(List.getElem?_eq_some_iff.1 hk).1
   have h2':(List.range (casesOf m i.a i.b).length).any (badK (casesOf m i.a i.b) nm i.a.toNat)=false:=by simpa using h2
   rw [List.any_eq_false] at h2'
   have:=h2' k (List.mem_range.2 hl)
   simp only [badK,hk,Bool.not_eq_true,Bool.or_eq_false_iff,decide_eq_false_iff_not] at this
   omega
theorem P1 {g:Heap}{p q ib:Nat}{m:Md}{f:Fn}{pc:Int}{i:Ins}{c:Cv}(W:KdW g p q ib m f pc i c)(x:Cas)(hx : ¬ x.kind=2→slotB f x.chan=true) :
  Ok (CC (.agg x.row) (.ptr (some (q,0))) g) fun r=>r.1 = .bool (badKd f x)∧Same [] g r.2:=by
 have bx:bxP (.agg x.row)=some (.cells true x.row,fun i=>.ptr (some (i,0))):=rfl
 have hg:=Lt g (.cells true x.row)
 have sm:Same [] g (g.new (.cells true x.row)):=Same.new _ _
 have W1:=W.mono sm
 generalize hG:g.new (.cells true x.row)=g1 at *
 have l0:ldS g1 (.ptr (some (g.next,0)))=some (.int .i64 x.kind):=by rw [Ai hg];rfl
 have l1:ldS g1 (.ptr (some (g.next,1)))=some (.int .i64 x.chan):=by rw [Ai hg];rfl
 have q0:=W1.q0
 by_cases c2:x.kind=2
 ·exact Ah (v:=.bool false) (g:=g1) (by simp -implicitDefEqProofs only [CC,bx,Af,hG,l0,l1,q0,c2,Nat.zero_add,bs1,AO,AF,Option.bind_some,AZ,AY,Ac,AX,AL,AH,AD,Ad,AQ,AE,AM,AC,if_true,if_false,Bool.false_eq_true,AJ,AP,AG,AR,AK,AU,Int.reduceEq,Int.reduceLT,Int.reduceLE,decide_true,decide_false,AB,AA,Ae,Bool.not_true,Bool.not_false,AW]) ⟨by rw [badKd,decide_eq_true c2];rfl,sm⟩
 ·refine Ok.eq ?_ (by simp -implicitDefEqProofs only [CC,bx,Af,hG,l0,l1,q0,c2,Nat.zero_add,bs1,AO,AF,Option.bind_some,AZ,AY,Ac,AX,AL,AH,AD,Ad,AQ,AE,AM,AC,if_true,if_false,Bool.false_eq_true,AJ,AP,AG,AR,AK,AU,Int.reduceEq,Int.reduceLT,Int.reduceLE,decide_true,decide_false,AB,AA,Ae,Bool.not_true,Bool.not_false,AW]<;>rfl)
  refine Ao (P:=fun r=>Same [] g1 r.2∧r.1 = .bool (kdB f x.chan == true)) (Cy W1.ck true (hx c2) fun g' s'=>Ok.of ⟨s',rfl⟩) ?_
  rintro _ g8 ⟨s8,rfl⟩
  simp only at s8
  exact Ah (v:=.bool (!(kdB f x.chan == true))) (g:=g8) (by first | rfl | simp -implicitDefEqProofs only [c2,AO,AF,Option.bind_some,AZ,AY,Ac,AX,AL,AH,AD,Ad,AQ,AE,AM,AC,if_true,if_false,Bool.false_eq_true,AJ,AP,AG,AR,AK,AU,Int.reduceEq,Int.reduceLT,Int.reduceLE,decide_true,decide_false,AB,AA,Ae,Bool.not_true,Bool.not_false,AW]) ⟨by rw [badKd,decide_eq_false c2];rfl,sm.trans s8⟩
theorem Qc {g:Heap}{p:Nat}{m:Md}{f:Fn}{pc:Int}{i:Ins}{c:Cv}{nm:List Bool}(H:CkB g p m f pc i c)(h4:slotsB m f i=true)(h5:(thereR m i nm).1=true) :
  Ok (CU (.ptr (some (p,0))) g) fun r=>Same [] g r.2∧r.1 = .bool (kind6B m f i):=by
 have b1:bxP (.ptr (some (p,0)))=some (.cells true [.ptr (some (p,0))],fun i=>.ptr (some (i,0))):=rfl
 have s1:Same [] g (g.new (.cells true [.ptr (some (p,0))])):=Same.new _ _
 have g1:(g.new (.cells true [.ptr (some (p,0))])).get g.next=some (.cells true [.ptr (some (p,0))]):=Am
 generalize hg1:g.new (.cells true [.ptr (some (p,0))])=h1 at *
 have n1:h1.next=g.next+1:=by rw [← hg1];rfl
 have H1:=H.mono s1
 have q1:ldS h1 (.ptr (some (g.next,0)))=some (.ptr (some (p,0))):=by rw [Ai g1];rfl
 have li:=H1.li
 refine Ok.eq ?_ (by simp -implicitDefEqProofs only [CU,b1,Af,hg1,q1,Option.bind_some,AO,AF,Nat.zero_add,li]<;>rfl)
 refine Er (cs:=i.row) (n:=5) (by rfl) (by rfl) (Ins.sc i) fun _ h3 s2 n2 g2=>?_
 have W:KdW h3 p g.next h1.next m f pc i c:=⟨H1.mono s2,(s2.get _ (by omega) (by simp)).trans g1,g2,by omega,by omega⟩
 have s:=s1.trans s2
 generalize h1.next=ib at *
 clear g1 g2 n1 n2 s1 s2 H1 q1 li hg1 b1
 generalize g.next=q at *
 have q0:=W.q0;have i0:=W.i0;have i1:=W.i1;have i2:=W.i2;have i3:=W.i3
 have Sp:=FM h3 1
 have Wp:=W.mono Sp
 have p0:=Wp.q0;have p1:=Wp.i1;have p2:=Wp.i2;have p10:=Wp.ck.l10;have pg1:=Wp.ck.l1
 have S0:=Same.refl [] h3
 have fin:∀ (b:Bool) (x:Option (AV × Heap)) (g2:Heap),Same [] h3 g2→x=some (.bool b,g2)→kind6B m f i=b→Ok x fun r=>Same [] g r.2∧r.1 = .bool (kind6B m f i):=fun b x g2 s2 hx hb=>by rw [hx,hb];exact Ok.of (r:=(AV.bool b,g2)) ⟨s.trans s2,rfl⟩
 have h5' : ¬ i.op=41→thereB m i=true:=fun hn=>by rw [thereR,if_neg hn] at h5;exact h5
 by_cases c0:i.op=0
 ·have sa:=sl0 h4 c0
  refine Ok.eq ?_ (by simp -implicitDefEqProofs only [q0,i0,i1,i2,i3,c0,Nat.zero_add,bs1,Af,AO,AF,Option.bind_some,AZ,AY,Ac,AX,AL,AH,AD,Ad,AQ,AE,AM,AC,if_true,if_false,Bool.false_eq_true,AJ,AP,AG,AR,AK,AU,Int.reduceEq,Int.reduceLT,Int.reduceLE,decide_true,decide_false,AB,AA,Ae,Bool.not_true,Bool.not_false,AW]<;>rfl)
  refine Cy W.ck false sa fun g8 s8=>?_
  exact fin (kdB f i.a == false) _ g8 s8 rfl (by simp only [kind6B,c0,Int.reduceEq,Int.reduceLE,Int.reduceLT,true_or,or_true,false_or,or_false,or_self,and_self,and_true,true_and,and_false,false_and,if_true,if_false,ite_true])
 by_cases c19:i.op=19
 ·have sa:=sl19 h4 c19
  refine Ok.eq ?_ (by simp -implicitDefEqProofs only [q0,i0,i1,i2,i3,c19,Nat.zero_add,bs1,Af,AO,AF,Option.bind_some,AZ,AY,Ac,AX,AL,AH,AD,Ad,AQ,AE,AM,AC,if_true,if_false,Bool.false_eq_true,AJ,AP,AG,AR,AK,AU,Int.reduceEq,Int.reduceLT,Int.reduceLE,decide_true,decide_false,AB,AA,Ae,Bool.not_true,Bool.not_false,AW]<;>rfl)
  refine Cy W.ck false sa fun g8 s8=>?_
  exact fin (kdB f i.a == false) _ g8 s8 rfl (by simp only [kind6B,c19,Int.reduceEq,Int.reduceLE,Int.reduceLT,true_or,or_true,false_or,or_false,or_self,and_self,and_true,true_and,and_false,false_and,if_true,if_false,ite_true])
 by_cases c42:i.op=42
 ·have sa:=sl42 h4 c42
  refine Ok.eq ?_ (by simp -implicitDefEqProofs only [q0,i0,i1,i2,i3,c42,Nat.zero_add,bs1,Af,AO,AF,Option.bind_some,AZ,AY,Ac,AX,AL,AH,AD,Ad,AQ,AE,AM,AC,if_true,if_false,Bool.false_eq_true,AJ,AP,AG,AR,AK,AU,Int.reduceEq,Int.reduceLT,Int.reduceLE,decide_true,decide_false,AB,AA,Ae,Bool.not_true,Bool.not_false,AW]<;>rfl)
  refine Cy W.ck false sa fun g8 s8=>?_
  exact fin (kdB f i.a == false) _ g8 s8 rfl (by simp only [kind6B,c42,Int.reduceEq,Int.reduceLE,Int.reduceLT,true_or,or_true,false_or,or_false,or_self,and_self,and_true,true_and,and_false,false_and,if_true,if_false,ite_true])
 by_cases c1:i.op=1
 ·obtain⟨sb,sa⟩:=sl1 h4 c1
  obtain⟨bb,oo,e1,e2⟩:=Wp.ck.kd sb
  refine Ok.eq ?_ (by simp -implicitDefEqProofs only [q0,i0,i1,i2,i3,c1,p0,p1,p2,p10,e1,e2,Nat.zero_add,Nat.add_zero,bs1,Eu,AO,AF,Option.bind_some,AZ,AY,Ac,AX,AL,AH,AD,Ad,AQ,AE,AM,AC,if_true,if_false,Bool.false_eq_true,AJ,AP,AG,AR,AK,AU,Int.reduceEq,Int.reduceLT,Int.reduceLE,decide_true,decide_false,AB,AA,Ae,Bool.not_true,Bool.not_false,AW]<;>rfl)
  refine Nh W.ck (kdB f i.b) sa fun g8 s8=>?_
  exact fin (kdB f i.a == kdB f i.b) _ g8 s8 rfl (by simp only [kind6B,c1,Int.reduceEq,Int.reduceLE,Int.reduceLT,true_or,or_true,false_or,or_false,or_self,and_self,and_true,true_and,and_false,false_and,if_true,if_false,ite_true])
 by_cases c2:i.op=2
 ·have sa:=sl2 h4 c2
  refine Ok.eq ?_ (by simp -implicitDefEqProofs only [q0,i0,i1,i2,i3,c2,Nat.zero_add,bs1,Af,AO,AF,Option.bind_some,AZ,AY,Ac,AX,AL,AH,AD,Ad,AQ,AE,AM,AC,if_true,if_false,Bool.false_eq_true,AJ,AP,AG,AR,AK,AU,Int.reduceEq,Int.reduceLT,Int.reduceLE,decide_true,decide_false,AB,AA,Ae,Bool.not_true,Bool.not_false,AW]<;>rfl)
  refine Cy W.ck true sa fun g8 s8=>?_
  exact fin (kdB f i.a == true) _ g8 s8 rfl (by simp only [kind6B,c2,Int.reduceEq,Int.reduceLE,Int.reduceLT,true_or,or_true,false_or,or_false,or_self,and_self,and_true,true_and,and_false,false_and,if_true,if_false,ite_true])
 by_cases c25:i.op=25
 ·have sa:=sl25 h4 c25
  refine Ok.eq ?_ (by simp -implicitDefEqProofs only [q0,i0,i1,i2,i3,c25,Nat.zero_add,bs1,Af,AO,AF,Option.bind_some,AZ,AY,Ac,AX,AL,AH,AD,Ad,AQ,AE,AM,AC,if_true,if_false,Bool.false_eq_true,AJ,AP,AG,AR,AK,AU,Int.reduceEq,Int.reduceLT,Int.reduceLE,decide_true,decide_false,AB,AA,Ae,Bool.not_true,Bool.not_false,AW]<;>rfl)
  refine Cy W.ck true sa fun g8 s8=>?_
  exact fin (kdB f i.a == true) _ g8 s8 rfl (by simp only [kind6B,c25,Int.reduceEq,Int.reduceLE,Int.reduceLT,true_or,or_true,false_or,or_false,or_self,and_self,and_true,true_and,and_false,false_and,if_true,if_false,ite_true])
 by_cases c40:i.op=40
 ·have sa:=sl40 h4 c40
  refine Ok.eq ?_ (by simp -implicitDefEqProofs only [q0,i0,i1,i2,i3,c40,Nat.zero_add,bs1,Af,AO,AF,Option.bind_some,AZ,AY,Ac,AX,AL,AH,AD,Ad,AQ,AE,AM,AC,if_true,if_false,Bool.false_eq_true,AJ,AP,AG,AR,AK,AU,Int.reduceEq,Int.reduceLT,Int.reduceLE,decide_true,decide_false,AB,AA,Ae,Bool.not_true,Bool.not_false,AW]<;>rfl)
  refine Cy W.ck true sa fun g8 s8=>?_
  exact fin (kdB f i.a == true) _ g8 s8 rfl (by simp only [kind6B,c40,Int.reduceEq,Int.reduceLE,Int.reduceLT,true_or,or_true,false_or,or_false,or_self,and_self,and_true,true_and,and_false,false_and,if_true,if_false,ite_true])
 by_cases r0:3≤i.op∧i.op≤15
 ·obtain⟨r1,r2⟩:=r0
  obtain⟨sb,sc,sa⟩:=slr h4 r1 r2
  refine Ok.eq ?_ (by simp -implicitDefEqProofs only [q0,i0,i1,i2,i3,r1,r2,c0,c19,c42,c1,c2,c25,c40,Nat.zero_add,bs3,Af,AO,AF,Option.bind_some,AZ,AY,Ac,AX,AL,AH,AD,Ad,AQ,AE,AM,AC,if_true,if_false,Bool.false_eq_true,AJ,AP,AG,AR,AK,AU,Int.reduceEq,Int.reduceLT,Int.reduceLE,decide_true,decide_false,AB,AA,Ae,Bool.not_true,Bool.not_false,AW]<;>rfl)
  refine SE W.ck false sa sb sc fun g8 s8=>?_
  exact fin (kdB f i.a == false && (kdB f i.b == false && kdB f i.c == false)) _ g8 s8 rfl (by simp only [kind6B,r1,r2,c0,c19,c42,c1,c2,c25,c40,Int.reduceEq,Int.reduceLE,Int.reduceLT,true_or,or_true,false_or,or_false,or_self,and_self,and_true,true_and,and_false,false_and,if_true,if_false,ite_true])
 by_cases c16:i.op=16
 ·obtain⟨sb,sc,sa⟩:=sl16 h4 c16
  refine Ok.eq ?_ (by simp -implicitDefEqProofs only [q0,i0,i1,i2,i3,c16,Nat.zero_add,bs1,Af,AO,AF,Option.bind_some,AZ,AY,Ac,AX,AL,AH,AD,Ad,AQ,AE,AM,AC,if_true,if_false,Bool.false_eq_true,AJ,AP,AG,AR,AK,AU,Int.reduceEq,Int.reduceLT,Int.reduceLE,decide_true,decide_false,AB,AA,Ae,Bool.not_true,Bool.not_false,AW]<;>rfl)
  have e:kind6B m f i=((kdB f i.a == false) && (kdB f i.b == true && kdB f i.c == true)):=by simp only [kind6B,c16,Int.reduceEq,Int.reduceLE,Int.reduceLT,true_or,or_true,false_or,or_false,or_self,and_self,and_true,true_and,and_false,false_and,if_true,if_false,ite_true]
  refine Cy W.ck false sa fun g' s'=>?_
  have W':=W.mono s'
  have j0:=W'.q0;have j1:=W'.i1;have j2:=W'.i2;have j3:=W'.i3
  cases d1:(kdB f i.a == false)
  ·exact fin false _ g' s' (by simp -implicitDefEqProofs only [d1,AO,AF,Option.bind_some,AZ,AY,Ac,AX,AL,AH,AD,Ad,AQ,AE,AM,AC,if_true,if_false,Bool.false_eq_true,AJ,AP,AG,AR,AK,AU,Int.reduceEq,Int.reduceLT,Int.reduceLE,decide_true,decide_false,AB,AA,Ae,Bool.not_true,Bool.not_false,AW]) (by rw [e,d1];rfl)
  refine Ok.eq ?_ (by simp -implicitDefEqProofs only [d1,j0,j1,j2,j3,Nat.zero_add,bs2,Af,AO,AF,Option.bind_some,AZ,AY,Ac,AX,AL,AH,AD,Ad,AQ,AE,AM,AC,if_true,if_false,Bool.false_eq_true,AJ,AP,AG,AR,AK,AU,Int.reduceEq,Int.reduceLT,Int.reduceLE,decide_true,decide_false,AB,AA,Ae,Bool.not_true,Bool.not_false,AW]<;>rfl)
  refine Ao (P:=fun r=>Same [] g' r.2∧r.1 = .bool (kdB f i.b == true && kdB f i.c == true)) (Qp W'.ck true sb sc fun g' s'=>Ok.of ⟨s',rfl⟩) ?_
  rintro _ g8 ⟨s8,rfl⟩
  simp only at s8
  exact fin (kdB f i.b == true && kdB f i.c == true) _ g8 (s'.trans s8) (by first | rfl | simp -implicitDefEqProofs only [d1,AO,AF,Option.bind_some,AZ,AY,Ac,AX,AL,AH,AD,Ad,AQ,AE,AM,AC,if_true,if_false,Bool.false_eq_true,AJ,AP,AG,AR,AK,AU,Int.reduceEq,Int.reduceLT,Int.reduceLE,decide_true,decide_false,AB,AA,Ae,Bool.not_true,Bool.not_false,AW]) (by rw [e,d1,Bool.true_and])
 by_cases c17:i.op=17
 ·obtain⟨sb,sa⟩:=sl17 h4 c17
  refine Ok.eq ?_ (by simp -implicitDefEqProofs only [q0,i0,i1,i2,i3,c17,Nat.zero_add,bs2,Af,AO,AF,Option.bind_some,AZ,AY,Ac,AX,AL,AH,AD,Ad,AQ,AE,AM,AC,if_true,if_false,Bool.false_eq_true,AJ,AP,AG,AR,AK,AU,Int.reduceEq,Int.reduceLT,Int.reduceLE,decide_true,decide_false,AB,AA,Ae,Bool.not_true,Bool.not_false,AW]<;>rfl)
  refine Qp W.ck false sa sb fun g8 s8=>?_
  exact fin (kdB f i.a == false && kdB f i.b == false) _ g8 s8 rfl (by simp only [kind6B,c17,Int.reduceEq,Int.reduceLE,Int.reduceLT,true_or,or_true,false_or,or_false,or_self,and_self,and_true,true_and,and_false,false_and,if_true,if_false,ite_true])
 by_cases c26:i.op=26
 ·obtain⟨sc,sa⟩:=sl26 h4 c26
  refine Ok.eq ?_ (by simp -implicitDefEqProofs only [q0,i0,i1,i2,i3,c26,Nat.zero_add,bs1,Af,AO,AF,Option.bind_some,AZ,AY,Ac,AX,AL,AH,AD,Ad,AQ,AE,AM,AC,if_true,if_false,Bool.false_eq_true,AJ,AP,AG,AR,AK,AU,Int.reduceEq,Int.reduceLT,Int.reduceLE,decide_true,decide_false,AB,AA,Ae,Bool.not_true,Bool.not_false,AW]<;>rfl)
  have e:kind6B m f i=((kdB f i.a == true) && (kdB f i.c == false)):=by simp only [kind6B,c26,Int.reduceEq,Int.reduceLE,Int.reduceLT,true_or,or_true,false_or,or_false,or_self,and_self,and_true,true_and,and_false,false_and,if_true,if_false,ite_true]
  refine Cy W.ck true sa fun g' s'=>?_
  have W':=W.mono s'
  have j0:=W'.q0;have j1:=W'.i1;have j2:=W'.i2;have j3:=W'.i3
  cases d1:(kdB f i.a == true)
  ·exact fin false _ g' s' (by simp -implicitDefEqProofs only [d1,AO,AF,Option.bind_some,AZ,AY,Ac,AX,AL,AH,AD,Ad,AQ,AE,AM,AC,if_true,if_false,Bool.false_eq_true,AJ,AP,AG,AR,AK,AU,Int.reduceEq,Int.reduceLT,Int.reduceLE,decide_true,decide_false,AB,AA,Ae,Bool.not_true,Bool.not_false,AW]) (by rw [e,d1];rfl)
  refine Ok.eq ?_ (by simp -implicitDefEqProofs only [d1,j0,j1,j2,j3,Nat.zero_add,bs1,Af,AO,AF,Option.bind_some,AZ,AY,Ac,AX,AL,AH,AD,Ad,AQ,AE,AM,AC,if_true,if_false,Bool.false_eq_true,AJ,AP,AG,AR,AK,AU,Int.reduceEq,Int.reduceLT,Int.reduceLE,decide_true,decide_false,AB,AA,Ae,Bool.not_true,Bool.not_false,AW]<;>rfl)
  refine Ao (P:=fun r=>Same [] g' r.2∧r.1 = .bool (kdB f i.c == false)) (Cy W'.ck false sc fun g' s'=>Ok.of ⟨s',rfl⟩) ?_
  rintro _ g8 ⟨s8,rfl⟩
  simp only at s8
  exact fin (kdB f i.c == false) _ g8 (s'.trans s8) (by first | rfl | simp -implicitDefEqProofs only [d1,AO,AF,Option.bind_some,AZ,AY,Ac,AX,AL,AH,AD,Ad,AQ,AE,AM,AC,if_true,if_false,Bool.false_eq_true,AJ,AP,AG,AR,AK,AU,Int.reduceEq,Int.reduceLT,Int.reduceLE,decide_true,decide_false,AB,AA,Ae,Bool.not_true,Bool.not_false,AW]) (by rw [e,d1,Bool.true_and])
 by_cases c37:i.op=37
 ·obtain⟨sc,sa⟩:=sl37 h4 c37
  refine Ok.eq ?_ (by simp -implicitDefEqProofs only [q0,i0,i1,i2,i3,c37,Nat.zero_add,bs1,Af,AO,AF,Option.bind_some,AZ,AY,Ac,AX,AL,AH,AD,Ad,AQ,AE,AM,AC,if_true,if_false,Bool.false_eq_true,AJ,AP,AG,AR,AK,AU,Int.reduceEq,Int.reduceLT,Int.reduceLE,decide_true,decide_false,AB,AA,Ae,Bool.not_true,Bool.not_false,AW]<;>rfl)
  have e:kind6B m f i=((kdB f i.a == true) && (kdB f i.c == false)):=by simp only [kind6B,c37,Int.reduceEq,Int.reduceLE,Int.reduceLT,true_or,or_true,false_or,or_false,or_self,and_self,and_true,true_and,and_false,false_and,if_true,if_false,ite_true]
  refine Cy W.ck true sa fun g' s'=>?_
  have W':=W.mono s'
  have j0:=W'.q0;have j1:=W'.i1;have j2:=W'.i2;have j3:=W'.i3
  cases d1:(kdB f i.a == true)
  ·exact fin false _ g' s' (by simp -implicitDefEqProofs only [d1,AO,AF,Option.bind_some,AZ,AY,Ac,AX,AL,AH,AD,Ad,AQ,AE,AM,AC,if_true,if_false,Bool.false_eq_true,AJ,AP,AG,AR,AK,AU,Int.reduceEq,Int.reduceLT,Int.reduceLE,decide_true,decide_false,AB,AA,Ae,Bool.not_true,Bool.not_false,AW]) (by rw [e,d1];rfl)
  refine Ok.eq ?_ (by simp -implicitDefEqProofs only [d1,j0,j1,j2,j3,Nat.zero_add,bs1,Af,AO,AF,Option.bind_some,AZ,AY,Ac,AX,AL,AH,AD,Ad,AQ,AE,AM,AC,if_true,if_false,Bool.false_eq_true,AJ,AP,AG,AR,AK,AU,Int.reduceEq,Int.reduceLT,Int.reduceLE,decide_true,decide_false,AB,AA,Ae,Bool.not_true,Bool.not_false,AW]<;>rfl)
  refine Ao (P:=fun r=>Same [] g' r.2∧r.1 = .bool (kdB f i.c == false)) (Cy W'.ck false sc fun g' s'=>Ok.of ⟨s',rfl⟩) ?_
  rintro _ g8 ⟨s8,rfl⟩
  simp only at s8
  exact fin (kdB f i.c == false) _ g8 (s'.trans s8) (by first | rfl | simp -implicitDefEqProofs only [d1,AO,AF,Option.bind_some,AZ,AY,Ac,AX,AL,AH,AD,Ad,AQ,AE,AM,AC,if_true,if_false,Bool.false_eq_true,AJ,AP,AG,AR,AK,AU,Int.reduceEq,Int.reduceLT,Int.reduceLE,decide_true,decide_false,AB,AA,Ae,Bool.not_true,Bool.not_false,AW]) (by rw [e,d1,Bool.true_and])
 by_cases c27:i.op=27
 ·obtain⟨sb,sa⟩:=sl27 h4 c27
  refine Ok.eq ?_ (by simp -implicitDefEqProofs only [q0,i0,i1,i2,i3,c27,Nat.zero_add,bs1,Af,AO,AF,Option.bind_some,AZ,AY,Ac,AX,AL,AH,AD,Ad,AQ,AE,AM,AC,if_true,if_false,Bool.false_eq_true,AJ,AP,AG,AR,AK,AU,Int.reduceEq,Int.reduceLT,Int.reduceLE,decide_true,decide_false,AB,AA,Ae,Bool.not_true,Bool.not_false,AW]<;>rfl)
  refine Cy W.ck true sb fun g8 s8=>?_
  exact fin (kdB f i.b == true) _ g8 s8 rfl (by simp only [kind6B,c27,Int.reduceEq,Int.reduceLE,Int.reduceLT,true_or,or_true,false_or,or_false,or_self,and_self,and_true,true_and,and_false,false_and,if_true,if_false,ite_true])
 by_cases c21:i.op=21
 ·have sb:=sl21 h4 c21
  refine Ok.eq ?_ (by simp -implicitDefEqProofs only [q0,i0,i1,i2,i3,c21,Nat.zero_add,bs1,Af,AO,AF,Option.bind_some,AZ,AY,Ac,AX,AL,AH,AD,Ad,AQ,AE,AM,AC,if_true,if_false,Bool.false_eq_true,AJ,AP,AG,AR,AK,AU,Int.reduceEq,Int.reduceLT,Int.reduceLE,decide_true,decide_false,AB,AA,Ae,Bool.not_true,Bool.not_false,AW]<;>rfl)
  refine Cy W.ck true sb fun g8 s8=>?_
  exact fin (kdB f i.b == true) _ g8 s8 rfl (by simp only [kind6B,c21,Int.reduceEq,Int.reduceLE,Int.reduceLT,true_or,or_true,false_or,or_false,or_self,and_self,and_true,true_and,and_false,false_and,if_true,if_false,ite_true])
 by_cases c28:i.op=28
 ·obtain⟨sa,sc⟩:=sl28 h4 c28
  refine Ok.eq ?_ (by simp -implicitDefEqProofs only [q0,i0,i1,i2,i3,c28,Nat.zero_add,bs1,Af,AO,AF,Option.bind_some,AZ,AY,Ac,AX,AL,AH,AD,Ad,AQ,AE,AM,AC,if_true,if_false,Bool.false_eq_true,AJ,AP,AG,AR,AK,AU,Int.reduceEq,Int.reduceLT,Int.reduceLE,decide_true,decide_false,AB,AA,Ae,Bool.not_true,Bool.not_false,AW]<;>rfl)
  refine Cy W.ck true sa fun g8 s8=>?_
  exact fin (kdB f i.a == true) _ g8 s8 rfl (by simp only [kind6B,c28,Int.reduceEq,Int.reduceLE,Int.reduceLT,true_or,or_true,false_or,or_false,or_self,and_self,and_true,true_and,and_false,false_and,if_true,if_false,ite_true])
 by_cases c29:i.op=29
 ·obtain⟨sa,sc⟩:=sl29 h4 c29
  refine Ok.eq ?_ (by simp -implicitDefEqProofs only [q0,i0,i1,i2,i3,c29,Nat.zero_add,bs1,Af,AO,AF,Option.bind_some,AZ,AY,Ac,AX,AL,AH,AD,Ad,AQ,AE,AM,AC,if_true,if_false,Bool.false_eq_true,AJ,AP,AG,AR,AK,AU,Int.reduceEq,Int.reduceLT,Int.reduceLE,decide_true,decide_false,AB,AA,Ae,Bool.not_true,Bool.not_false,AW]<;>rfl)
  refine Cy W.ck true sa fun g8 s8=>?_
  exact fin (kdB f i.a == true) _ g8 s8 rfl (by simp only [kind6B,c29,Int.reduceEq,Int.reduceLE,Int.reduceLT,true_or,or_true,false_or,or_false,or_self,and_self,and_true,true_and,and_false,false_and,if_true,if_false,ite_true])
 by_cases c24:i.op=24
 ·have sa:=sl24 h4 c24
  refine Ok.eq ?_ (by simp -implicitDefEqProofs only [q0,i0,i1,i2,i3,c24,Nat.zero_add,bs1,Af,AO,AF,Option.bind_some,AZ,AY,Ac,AX,AL,AH,AD,Ad,AQ,AE,AM,AC,if_true,if_false,Bool.false_eq_true,AJ,AP,AG,AR,AK,AU,Int.reduceEq,Int.reduceLT,Int.reduceLE,decide_true,decide_false,AB,AA,Ae,Bool.not_true,Bool.not_false,AW]<;>rfl)
  refine Cy W.ck true sa fun g8 s8=>?_
  exact fin (kdB f i.a == true) _ g8 s8 rfl (by simp only [kind6B,c24,Int.reduceEq,Int.reduceLE,Int.reduceLT,true_or,or_true,false_or,or_false,or_self,and_self,and_true,true_and,and_false,false_and,if_true,if_false,ite_true])
 by_cases c38:i.op=38
 ·obtain⟨sa,sb⟩:=sl38 h4 c38
  refine Ok.eq ?_ (by simp -implicitDefEqProofs only [q0,i0,i1,i2,i3,c38,Nat.zero_add,bs1,Af,AO,AF,Option.bind_some,AZ,AY,Ac,AX,AL,AH,AD,Ad,AQ,AE,AM,AC,if_true,if_false,Bool.false_eq_true,AJ,AP,AG,AR,AK,AU,Int.reduceEq,Int.reduceLT,Int.reduceLE,decide_true,decide_false,AB,AA,Ae,Bool.not_true,Bool.not_false,AW]<;>rfl)
  refine Cy W.ck true sa fun g8 s8=>?_
  exact fin (kdB f i.a == true) _ g8 s8 rfl (by simp only [kind6B,c38,Int.reduceEq,Int.reduceLE,Int.reduceLT,true_or,or_true,false_or,or_false,or_self,and_self,and_true,true_and,and_false,false_and,if_true,if_false,ite_true])
 by_cases c30:i.op=30
 ·obtain⟨sb,sc,sa⟩:=sl30 h4 c30
  refine Ok.eq ?_ (by simp -implicitDefEqProofs only [q0,i0,i1,i2,i3,c30,Nat.zero_add,bs1,Af,AO,AF,Option.bind_some,AZ,AY,Ac,AX,AL,AH,AD,Ad,AQ,AE,AM,AC,if_true,if_false,Bool.false_eq_true,AJ,AP,AG,AR,AK,AU,Int.reduceEq,Int.reduceLT,Int.reduceLE,decide_true,decide_false,AB,AA,Ae,Bool.not_true,Bool.not_false,AW]<;>rfl)
  have e:kind6B m f i=((kdB f i.b == true) && (kdB f i.c == false)):=by simp only [kind6B,c30,Int.reduceEq,Int.reduceLE,Int.reduceLT,true_or,or_true,false_or,or_false,or_self,and_self,and_true,true_and,and_false,false_and,if_true,if_false,ite_true]
  refine Cy W.ck true sb fun g' s'=>?_
  have W':=W.mono s'
  have j0:=W'.q0;have j1:=W'.i1;have j2:=W'.i2;have j3:=W'.i3
  cases d1:(kdB f i.b == true)
  ·exact fin false _ g' s' (by simp -implicitDefEqProofs only [d1,AO,AF,Option.bind_some,AZ,AY,Ac,AX,AL,AH,AD,Ad,AQ,AE,AM,AC,if_true,if_false,Bool.false_eq_true,AJ,AP,AG,AR,AK,AU,Int.reduceEq,Int.reduceLT,Int.reduceLE,decide_true,decide_false,AB,AA,Ae,Bool.not_true,Bool.not_false,AW]) (by rw [e,d1];rfl)
  refine Ok.eq ?_ (by simp -implicitDefEqProofs only [d1,j0,j1,j2,j3,Nat.zero_add,bs1,Af,AO,AF,Option.bind_some,AZ,AY,Ac,AX,AL,AH,AD,Ad,AQ,AE,AM,AC,if_true,if_false,Bool.false_eq_true,AJ,AP,AG,AR,AK,AU,Int.reduceEq,Int.reduceLT,Int.reduceLE,decide_true,decide_false,AB,AA,Ae,Bool.not_true,Bool.not_false,AW]<;>rfl)
  refine Ao (P:=fun r=>Same [] g' r.2∧r.1 = .bool (kdB f i.c == false)) (Cy W'.ck false sc fun g' s'=>Ok.of ⟨s',rfl⟩) ?_
  rintro _ g8 ⟨s8,rfl⟩
  simp only at s8
  exact fin (kdB f i.c == false) _ g8 (s'.trans s8) (by first | rfl | simp -implicitDefEqProofs only [d1,AO,AF,Option.bind_some,AZ,AY,Ac,AX,AL,AH,AD,Ad,AQ,AE,AM,AC,if_true,if_false,Bool.false_eq_true,AJ,AP,AG,AR,AK,AU,Int.reduceEq,Int.reduceLT,Int.reduceLE,decide_true,decide_false,AB,AA,Ae,Bool.not_true,Bool.not_false,AW]) (by rw [e,d1,Bool.true_and])
 by_cases c31:i.op=31
 ·obtain⟨sa,sb,sc⟩:=sl31 h4 c31
  refine Ok.eq ?_ (by simp -implicitDefEqProofs only [q0,i0,i1,i2,i3,c31,Nat.zero_add,bs1,Af,AO,AF,Option.bind_some,AZ,AY,Ac,AX,AL,AH,AD,Ad,AQ,AE,AM,AC,if_true,if_false,Bool.false_eq_true,AJ,AP,AG,AR,AK,AU,Int.reduceEq,Int.reduceLT,Int.reduceLE,decide_true,decide_false,AB,AA,Ae,Bool.not_true,Bool.not_false,AW]<;>rfl)
  have e:kind6B m f i=((kdB f i.a == true) && (kdB f i.b == false)):=by simp only [kind6B,c31,Int.reduceEq,Int.reduceLE,Int.reduceLT,true_or,or_true,false_or,or_false,or_self,and_self,and_true,true_and,and_false,false_and,if_true,if_false,ite_true]
  refine Cy W.ck true sa fun g' s'=>?_
  have W':=W.mono s'
  have j0:=W'.q0;have j1:=W'.i1;have j2:=W'.i2;have j3:=W'.i3
  cases d1:(kdB f i.a == true)
  ·exact fin false _ g' s' (by simp -implicitDefEqProofs only [d1,AO,AF,Option.bind_some,AZ,AY,Ac,AX,AL,AH,AD,Ad,AQ,AE,AM,AC,if_true,if_false,Bool.false_eq_true,AJ,AP,AG,AR,AK,AU,Int.reduceEq,Int.reduceLT,Int.reduceLE,decide_true,decide_false,AB,AA,Ae,Bool.not_true,Bool.not_false,AW]) (by rw [e,d1];rfl)
  refine Ok.eq ?_ (by simp -implicitDefEqProofs only [d1,j0,j1,j2,j3,Nat.zero_add,bs1,Af,AO,AF,Option.bind_some,AZ,AY,Ac,AX,AL,AH,AD,Ad,AQ,AE,AM,AC,if_true,if_false,Bool.false_eq_true,AJ,AP,AG,AR,AK,AU,Int.reduceEq,Int.reduceLT,Int.reduceLE,decide_true,decide_false,AB,AA,Ae,Bool.not_true,Bool.not_false,AW]<;>rfl)
  refine Ao (P:=fun r=>Same [] g' r.2∧r.1 = .bool (kdB f i.b == false)) (Cy W'.ck false sb fun g' s'=>Ok.of ⟨s',rfl⟩) ?_
  rintro _ g8 ⟨s8,rfl⟩
  simp only at s8
  exact fin (kdB f i.b == false) _ g8 (s'.trans s8) (by first | rfl | simp -implicitDefEqProofs only [d1,AO,AF,Option.bind_some,AZ,AY,Ac,AX,AL,AH,AD,Ad,AQ,AE,AM,AC,if_true,if_false,Bool.false_eq_true,AJ,AP,AG,AR,AK,AU,Int.reduceEq,Int.reduceLT,Int.reduceLE,decide_true,decide_false,AB,AA,Ae,Bool.not_true,Bool.not_false,AW]) (by rw [e,d1,Bool.true_and])
 by_cases c32:i.op=32
 ·obtain⟨sa,sb,sc⟩:=sl32 h4 c32
  refine Ok.eq ?_ (by simp -implicitDefEqProofs only [q0,i0,i1,i2,i3,c32,Nat.zero_add,bs1,Af,AO,AF,Option.bind_some,AZ,AY,Ac,AX,AL,AH,AD,Ad,AQ,AE,AM,AC,if_true,if_false,Bool.false_eq_true,AJ,AP,AG,AR,AK,AU,Int.reduceEq,Int.reduceLT,Int.reduceLE,decide_true,decide_false,AB,AA,Ae,Bool.not_true,Bool.not_false,AW]<;>rfl)
  have e:kind6B m f i=((kdB f i.a == true) && (kdB f i.b == false)):=by simp only [kind6B,c32,Int.reduceEq,Int.reduceLE,Int.reduceLT,true_or,or_true,false_or,or_false,or_self,and_self,and_true,true_and,and_false,false_and,if_true,if_false,ite_true]
  refine Cy W.ck true sa fun g' s'=>?_
  have W':=W.mono s'
  have j0:=W'.q0;have j1:=W'.i1;have j2:=W'.i2;have j3:=W'.i3
  cases d1:(kdB f i.a == true)
  ·exact fin false _ g' s' (by simp -implicitDefEqProofs only [d1,AO,AF,Option.bind_some,AZ,AY,Ac,AX,AL,AH,AD,Ad,AQ,AE,AM,AC,if_true,if_false,Bool.false_eq_true,AJ,AP,AG,AR,AK,AU,Int.reduceEq,Int.reduceLT,Int.reduceLE,decide_true,decide_false,AB,AA,Ae,Bool.not_true,Bool.not_false,AW]) (by rw [e,d1];rfl)
  refine Ok.eq ?_ (by simp -implicitDefEqProofs only [d1,j0,j1,j2,j3,Nat.zero_add,bs1,Af,AO,AF,Option.bind_some,AZ,AY,Ac,AX,AL,AH,AD,Ad,AQ,AE,AM,AC,if_true,if_false,Bool.false_eq_true,AJ,AP,AG,AR,AK,AU,Int.reduceEq,Int.reduceLT,Int.reduceLE,decide_true,decide_false,AB,AA,Ae,Bool.not_true,Bool.not_false,AW]<;>rfl)
  refine Ao (P:=fun r=>Same [] g' r.2∧r.1 = .bool (kdB f i.b == false)) (Cy W'.ck false sb fun g' s'=>Ok.of ⟨s',rfl⟩) ?_
  rintro _ g8 ⟨s8,rfl⟩
  simp only at s8
  exact fin (kdB f i.b == false) _ g8 (s'.trans s8) (by first | rfl | simp -implicitDefEqProofs only [d1,AO,AF,Option.bind_some,AZ,AY,Ac,AX,AL,AH,AD,Ad,AQ,AE,AM,AC,if_true,if_false,Bool.false_eq_true,AJ,AP,AG,AR,AK,AU,Int.reduceEq,Int.reduceLT,Int.reduceLE,decide_true,decide_false,AB,AA,Ae,Bool.not_true,Bool.not_false,AW]) (by rw [e,d1,Bool.true_and])
 by_cases c33:i.op=33
 ·obtain⟨sb,sa⟩:=sl33 h4 c33
  refine Ok.eq ?_ (by simp -implicitDefEqProofs only [q0,i0,i1,i2,i3,c33,Nat.zero_add,bs1,Af,AO,AF,Option.bind_some,AZ,AY,Ac,AX,AL,AH,AD,Ad,AQ,AE,AM,AC,if_true,if_false,Bool.false_eq_true,AJ,AP,AG,AR,AK,AU,Int.reduceEq,Int.reduceLT,Int.reduceLE,decide_true,decide_false,AB,AA,Ae,Bool.not_true,Bool.not_false,AW]<;>rfl)
  have e:kind6B m f i=((kdB f i.a == false) && (kdB f i.b == true)):=by simp only [kind6B,c33,Int.reduceEq,Int.reduceLE,Int.reduceLT,true_or,or_true,false_or,or_false,or_self,and_self,and_true,true_and,and_false,false_and,if_true,if_false,ite_true]
  refine Cy W.ck false sa fun g' s'=>?_
  have W':=W.mono s'
  have j0:=W'.q0;have j1:=W'.i1;have j2:=W'.i2;have j3:=W'.i3
  cases d1:(kdB f i.a == false)
  ·exact fin false _ g' s' (by simp -implicitDefEqProofs only [d1,AO,AF,Option.bind_some,AZ,AY,Ac,AX,AL,AH,AD,Ad,AQ,AE,AM,AC,if_true,if_false,Bool.false_eq_true,AJ,AP,AG,AR,AK,AU,Int.reduceEq,Int.reduceLT,Int.reduceLE,decide_true,decide_false,AB,AA,Ae,Bool.not_true,Bool.not_false,AW]) (by rw [e,d1];rfl)
  refine Ok.eq ?_ (by simp -implicitDefEqProofs only [d1,j0,j1,j2,j3,Nat.zero_add,bs1,Af,AO,AF,Option.bind_some,AZ,AY,Ac,AX,AL,AH,AD,Ad,AQ,AE,AM,AC,if_true,if_false,Bool.false_eq_true,AJ,AP,AG,AR,AK,AU,Int.reduceEq,Int.reduceLT,Int.reduceLE,decide_true,decide_false,AB,AA,Ae,Bool.not_true,Bool.not_false,AW]<;>rfl)
  refine Ao (P:=fun r=>Same [] g' r.2∧r.1 = .bool (kdB f i.b == true)) (Cy W'.ck true sb fun g' s'=>Ok.of ⟨s',rfl⟩) ?_
  rintro _ g8 ⟨s8,rfl⟩
  simp only at s8
  exact fin (kdB f i.b == true) _ g8 (s'.trans s8) (by first | rfl | simp -implicitDefEqProofs only [d1,AO,AF,Option.bind_some,AZ,AY,Ac,AX,AL,AH,AD,Ad,AQ,AE,AM,AC,if_true,if_false,Bool.false_eq_true,AJ,AP,AG,AR,AK,AU,Int.reduceEq,Int.reduceLT,Int.reduceLE,decide_true,decide_false,AB,AA,Ae,Bool.not_true,Bool.not_false,AW]) (by rw [e,d1,Bool.true_and])
 by_cases c34:i.op=34
 ·have sa:=sl34 h4 c34
  have h6:=h5' (by omega)
  rw [thereB,if_neg (show ¬ i.op=0 by omega),if_neg (show ¬ i.op=25 by omega),if_neg (show ¬ i.op=26 by omega),if_neg (show ¬ i.op=37 by omega),if_pos c34,Bool.and_eq_true,decide_eq_true_eq,decide_eq_true_eq] at h6
  have hgl:m.globals[i.b.toNat]?=some (glB m i.b):=by rw [glB,List.getD_eq_getElem?_getD,List.getElem?_eq_getElem (by omega)];rfl
  obtain⟨bb,oo,_,e1,e2⟩:=Wp.ck.gl.at (i:=i.b.toNat) (x:=.bool (glB m i.b)) (by rw [List.getElem?_map,hgl];rfl)
  have e1':=e1 .i64
  rw [show((i.b.toNat:Nat):Int)=i.b by omega] at e1'
  refine Ok.eq ?_ (by simp -implicitDefEqProofs only [q0,i0,i1,i2,i3,c34,p0,p1,p2,pg1,e1',e2,Nat.zero_add,Nat.add_zero,bs1,Eu,AO,AF,Option.bind_some,AZ,AY,Ac,AX,AL,AH,AD,Ad,AQ,AE,AM,AC,if_true,if_false,Bool.false_eq_true,AJ,AP,AG,AR,AK,AU,Int.reduceEq,Int.reduceLT,Int.reduceLE,decide_true,decide_false,AB,AA,Ae,Bool.not_true,Bool.not_false,AW]<;>rfl)
  refine Nh W.ck (glB m i.b) sa fun g8 s8=>?_
  exact fin (kdB f i.a == glB m i.b) _ g8 s8 rfl (by simp only [kind6B,c34,Int.reduceEq,Int.reduceLE,Int.reduceLT,true_or,or_true,false_or,or_false,or_self,and_self,and_true,true_and,and_false,false_and,if_true,if_false,ite_true])
 by_cases c35:i.op=35
 ·have sb:=sl35 h4 c35
  have h6:=h5' (by omega)
  rw [thereB,if_neg (show ¬ i.op=0 by omega),if_neg (show ¬ i.op=25 by omega),if_neg (show ¬ i.op=26 by omega),if_neg (show ¬ i.op=37 by omega),if_neg (show ¬ i.op=34 by omega),if_pos c35,Bool.and_eq_true,decide_eq_true_eq,decide_eq_true_eq] at h6
  have hgl:m.globals[i.a.toNat]?=some (glB m i.a):=by rw [glB,List.getD_eq_getElem?_getD,List.getElem?_eq_getElem (by omega)];rfl
  obtain⟨bb,oo,_,e1,e2⟩:=Wp.ck.gl.at (i:=i.a.toNat) (x:=.bool (glB m i.a)) (by rw [List.getElem?_map,hgl];rfl)
  have e1':=e1 .i64
  rw [show((i.a.toNat:Nat):Int)=i.a by omega] at e1'
  refine Ok.eq ?_ (by simp -implicitDefEqProofs only [q0,i0,i1,i2,i3,c35,p0,p1,p2,pg1,e1',e2,Nat.zero_add,Nat.add_zero,bs1,Eu,AO,AF,Option.bind_some,AZ,AY,Ac,AX,AL,AH,AD,Ad,AQ,AE,AM,AC,if_true,if_false,Bool.false_eq_true,AJ,AP,AG,AR,AK,AU,Int.reduceEq,Int.reduceLT,Int.reduceLE,decide_true,decide_false,AB,AA,Ae,Bool.not_true,Bool.not_false,AW]<;>rfl)
  refine Nh W.ck (glB m i.a) sb fun g8 s8=>?_
  exact fin (kdB f i.b == glB m i.a) _ g8 s8 rfl (by simp only [kind6B,c35,Int.reduceEq,Int.reduceLE,Int.reduceLT,true_or,or_true,false_or,or_false,or_self,and_self,and_true,true_and,and_false,false_and,if_true,if_false,ite_true])
 by_cases c39:i.op=39
 ·obtain⟨sb,mc⟩:=sl39 h4 c39
  have e:kind6B m f i=((kdB f i.b == true) && (decide (i.c = -1)||(kdB f i.c == false))):=by simp only [kind6B,c39,Int.reduceEq,Int.reduceLE,Int.reduceLT,true_or,or_true,false_or,or_false,or_self,and_self,and_true,true_and,and_false,false_and,if_true,if_false,ite_true]
  refine Ok.eq ?_ (by simp -implicitDefEqProofs only [q0,i0,i1,i2,i3,c39,Nat.zero_add,bs1,Af,AO,AF,Option.bind_some,AZ,AY,Ac,AX,AL,AH,AD,Ad,AQ,AE,AM,AC,if_true,if_false,Bool.false_eq_true,AJ,AP,AG,AR,AK,AU,Int.reduceEq,Int.reduceLT,Int.reduceLE,decide_true,decide_false,AB,AA,Ae,Bool.not_true,Bool.not_false,AW]<;>rfl)
  refine Cy W.ck true sb fun g' s'=>?_
  have W':=W.mono s'
  have j0:=W'.q0;have j3:=W'.i3
  cases d1:(kdB f i.b == true)
  ·exact fin false _ g' s' (by simp -implicitDefEqProofs only [d1,AO,AF,Option.bind_some,AZ,AY,Ac,AX,AL,AH,AD,Ad,AQ,AE,AM,AC,if_true,if_false,Bool.false_eq_true,AJ,AP,AG,AR,AK,AU,Int.reduceEq,Int.reduceLT,Int.reduceLE,decide_true,decide_false,AB,AA,Ae,Bool.not_true,Bool.not_false,AW]) (by rw [e,d1];rfl)
  by_cases d2:i.c = -1
  ·exact fin true _ g' s' (by simp -implicitDefEqProofs only [d1,d2,j3,Nat.zero_add,AO,AF,Option.bind_some,AZ,AY,Ac,AX,AL,AH,AD,Ad,AQ,AE,AM,AC,if_true,if_false,Bool.false_eq_true,AJ,AP,AG,AR,AK,AU,Int.reduceEq,Int.reduceLT,Int.reduceLE,decide_true,decide_false,AB,AA,Ae,Bool.not_true,Bool.not_false,AW]) (by rw [e,d1,decide_eq_true d2];rfl)
  have sc:=MI mc d2
  refine Ok.eq ?_ (by simp -implicitDefEqProofs only [d1,d2,j0,j3,Nat.zero_add,bs1,Af,AO,AF,Option.bind_some,AZ,AY,Ac,AX,AL,AH,AD,Ad,AQ,AE,AM,AC,if_true,if_false,Bool.false_eq_true,AJ,AP,AG,AR,AK,AU,Int.reduceEq,Int.reduceLT,Int.reduceLE,decide_true,decide_false,AB,AA,Ae,Bool.not_true,Bool.not_false,AW]<;>rfl)
  refine Ao (P:=fun r=>Same [] g' r.2∧r.1 = .bool (kdB f i.c == false)) (Cy W'.ck false sc fun g' s'=>Ok.of ⟨s',rfl⟩) ?_
  rintro _ g8 ⟨s8,rfl⟩
  simp only at s8
  exact fin (kdB f i.c == false) _ g8 (s'.trans s8) (by first | rfl | simp -implicitDefEqProofs only [d1,d2,AO,AF,Option.bind_some,AZ,AY,Ac,AX,AL,AH,AD,Ad,AQ,AE,AM,AC,if_true,if_false,Bool.false_eq_true,AJ,AP,AG,AR,AK,AU,Int.reduceEq,Int.reduceLT,Int.reduceLE,decide_true,decide_false,AB,AA,Ae,Bool.not_true,Bool.not_false,AW]) (by rw [e,d1,decide_eq_false d2];rfl)
 by_cases c41:i.op=41
 ·have e:kind6B m f i = !((casesOf m i.a i.b).any (badKd f)):=by simp only [kind6B,c41,Int.reduceEq,Int.reduceLE,Int.reduceLT,true_or,or_true,false_or,or_false,or_self,and_self,and_true,true_and,and_false,false_and,if_true,if_false,ite_true]
  have hb:=sl41 h4 c41
  have hk:∀ x∈casesOf m i.a i.b,0≤x.kind∧x.kind≤2:=by rw [thereR,if_pos c41] at h5;exact NF h5
  obtain⟨v,ec,hv⟩:=Iu W.ck
  refine Ok.eq ?_ (by simp -implicitDefEqProofs only [q0,i0,i1,i2,i3,c41,ec,Br,List.getElem?_cons_zero,List.getElem?_cons_succ,AO,AF,Option.bind_some,AZ,AY,Ac,AX,AL,AH,AD,Ad,AQ,AE,AM,AC,if_true,if_false,Bool.false_eq_true,AJ,AP,AG,AR,AK,AU,Int.reduceEq,Int.reduceLT,Int.reduceLE,decide_true,decide_false,AB,AA,Ae,Bool.not_true,Bool.not_false,AW]<;>rfl)
  refine Ao (Nw hv (by have:=FD W.ck.sm.2.1 i.a i.b;omega) (P:=badKd f) fun g' x hx sx=>⟨111,[.agg x.row,.ptr (some (q,0))],rfl,?_⟩) ?_
  ·refine P1 (W.mono sx) x fun hn=>?_
   have h1:=hb x hx
   have h2:=hk x hx
   simp only [badC,Bool.or_eq_false_iff,Bool.and_eq_false_iff,decide_eq_false_iff_not,Bool.not_eq_false',Bool.and_eq_true] at h1
   rcases (by omega:x.kind=0∨x.kind=1) with h | h
   ·exact(h1.1.resolve_left (fun hh=>hh h)).1
   ·exact(h1.2.resolve_left (fun hh=>hh h)).1
  ·rintro _ g4 ⟨rfl,s4⟩
   simp only at s4
   exact fin (!((casesOf m i.a i.b).any (badKd f))) _ g4 s4 (by simp -implicitDefEqProofs only [q0,AO,AF,Option.bind_some,AZ,AY,Ac,AX,AL,AH,AD,Ad,AQ,AE,AM,AC,if_true,if_false,Bool.false_eq_true,AJ,AP,AG,AR,AK,AU,Int.reduceEq,Int.reduceLT,Int.reduceLE,decide_true,decide_false,AB,AA,Ae,Bool.not_true,Bool.not_false,AW]) e
 have e:kind6B m f i=callsB m f i:=by simp only [kind6B,r0,c0,c19,c42,c1,c2,c25,c40,c16,c17,c26,c37,c27,c21,c28,c29,c24,c38,c30,c31,c32,c33,c34,c35,c39,c41,Int.reduceEq,Int.reduceLE,Int.reduceLT,true_or,or_true,false_or,or_false,or_self,and_self,and_true,true_and,and_false,false_and,if_true,if_false,ite_true]
 refine Ok.eq (y:=cl (B7 (.ptr (some (p,0))) h3) fun t272 h153=>some (t272,h153)) ?_ ?_
 ·refine Ao (Qe W.ck h4 h5') ?_
  rintro _ g4 ⟨s4,rfl⟩
  simp only at s4
  exact fin _ _ g4 s4 rfl e
 ·by_cases r1:3≤i.op
  ·have r2 : ¬ i.op≤15:=fun h=>r0 ⟨r1,h⟩
   simp -implicitDefEqProofs only [q0,i0,i1,i2,i3,r1,r2,c0,c19,c42,c1,c2,c25,c40,c16,c17,c26,c37,c27,c21,c28,c29,c24,c38,c30,c31,c32,c33,c34,c35,c39,c41,AO,AF,Option.bind_some,AZ,AY,Ac,AX,AL,AH,AD,Ad,AQ,AE,AM,AC,if_true,if_false,Bool.false_eq_true,AJ,AP,AG,AR,AK,AU,Int.reduceEq,Int.reduceLT,Int.reduceLE,decide_true,decide_false,AB,AA,Ae,Bool.not_true,Bool.not_false,AW]
  ·simp -implicitDefEqProofs only [q0,i0,i1,i2,i3,r1,c0,c19,c42,c1,c2,c25,c40,c16,c17,c26,c37,c27,c21,c28,c29,c24,c38,c30,c31,c32,c33,c34,c35,c39,c41,AO,AF,Option.bind_some,AZ,AY,Ac,AX,AL,AH,AD,Ad,AQ,AE,AM,AC,if_true,if_false,Bool.false_eq_true,AJ,AP,AG,AR,AK,AU,Int.reduceEq,Int.reduceLT,Int.reduceLE,decide_true,decide_false,AB,AA,Ae,Bool.not_true,Bool.not_false,AW]
set_option linter.all false
attribute [local congr] BI D1 Dy D2 Bu D3 Dz Aw Av
def tgtL (m:Md)(i:Ins):List Int:=if i.op=18 then [i.a] else if i.op=19 then [i.b] else if i.op=41 then(casesOf m i.a i.b).map Cas.to else []
theorem Ni {m:Md}(hc:m.cases.length≤60)(i:Ins):(tgtL m i).length≤60:=by
 unfold tgtL
 repeat' (first | refine EN ?_ ?_ | simp)
 have:=FD hc i.a i.b;omega
def insB (f:Fn)(n:Int):Bool:=decide (0≤n) && decide (n<f.code.length)
def endB (op:Int):Bool:=decide (op=18)||decide (op=22)||decide (op=44)||decide (op=41)
def onB (m:Md)(f:Fn)(pc:Int)(i:Ins):Bool:=(tgtL m i).all (insB f) && (decide (pc<(f.code.length:Int) - 1)||endB i.op)
def opAt (f:Fn)(n:Int):Int:=match f.code[n.toNat]? with | some x=>x.op | none=>0
def backB (m:Md)(f:Fn)(pc:Int)(i:Ins):Bool:=(tgtL m i).all fun n=>!(decide (n≤pc) && !decide (opAt f n=43))
theorem NH {g h:Heap}{v:AV}{cs:List Cas}(H:RwC h 4 v (cs.map Cas.row))(hs:Same [] g h)(hl:cs.length≤1048576) :
  Ok (EG v (.int .i64 cs.length) (.sl none 0 (.ex 0)) (.int .i64 0) h) fun r=>r.1 = .exit 1∧∃ q,r.2.1.getD 0 .bot=q∧Lst g r.2.2 q (cs.map Cas.to):=by
 refine BF (fun k vs g'=>∃ (i:Nat) (q:AV) (b:Option Nat),vs = [q,.int .i64 i]∧k+i=cs.length∧SlB g' b 1 q (wI ((cs.take i).map Cas.to)) i∧(∀ j,b=some j→h.next≤j)∧Same [] h g') ?_ (n:=cs.length) (by omega)
  ⟨0,_,none,rfl,rfl,SlB.mt,(fun j hj=>by cases hj),Same.refl _ _⟩
 rintro k vs g' ⟨i,q,b,rfl,hk,hq,hb,s⟩
 rw [gD0,gD1]
 by_cases hi:i<cs.length
 ·obtain⟨c,hc⟩:∃ c,cs[i]?=some c:=⟨_,List.getElem?_eq_getElem hi⟩
  have hi':(i:Int)<cs.length:=by omega
  obtain⟨b2,o2,hb2,hix,hla,hls⟩:=(H.mono s.next (fun j hj=>s.get j hj (by simp))).at (i:=i) (r:=c.row) (by rw [List.getElem?_map,hc];rfl)
  refine Ok.eq ?_ (by simp -implicitDefEqProofs only [Cs,AG,hi',decide_true,Option.bind_some,AB,hix,hla]<;>rfl)
  refine EV (cs:=c.row) (n:=4) (by rfl) (by rfl) (Cas.sc c) fun g2 s' n' hg'=>?_
  have l3:ldS g2 (.ptr (some (g'.next,3)))=some (.int .i64 c.to):=by rw [Ai hg'];rfl
  have hq':=hq.same s' (fun j _=>by simp)
  refine Ok.eq ?_ (by simp -implicitDefEqProofs only [AF,Nat.zero_add,Option.bind_some,l3]<;>rfl)
  refine app1 hq' rfl rfl rfl (by decide) (by omega) fun v' g3 h3 s3 n3=>?_
  have e:wI ((cs.take i).map Cas.to)++(AV.int .i64 c.to).cells=wI ((cs.take (i+1)).map Cas.to):=by rw [List.take_add_one,hc];simp [wI,AV.cells]
  rw [e] at h3
  refine(Ok.of (r:=(.normal,[v',.int .i64 ((i+1:Nat):Int)],g3)) (.inl ⟨rfl,k - 1,by omega,i+1,v',some (g2.next+1),rfl,by omega,h3,fun j hj=>?_,?_⟩)).eq (by simp -implicitDefEqProofs only [Ap,suc64 i (by omega),Option.bind_some])
  ·cases hj;have:=s.next;omega
  ·exact(s.trans s').old s3 fun j hj=>by
    cases b with
    | none=>simp at hj
    | some x=>simp at hj;subst hj;exact .inr (hb _ rfl)
 ·have hi' : ¬ (i:Int)<cs.length:=by omega
  refine(Ok.of (r:=(.exit 1,[q,.int .i64 (i:Int)],g')) (.inr ⟨by simp,rfl,q,rfl,?_⟩)).eq (by simp -implicitDefEqProofs only [Cs,AG,hi',decide_false,Option.bind_some,AA])
  have htk:cs.take i=cs:=List.take_of_length_le (by omega)
  rw [htk] at hq
  exact(Lst.of_slb hq hb s).old hs
section
variable {g:Heap}{p:Nat}{m:Md}{f:Fn}{pc:Int}{i:Ins}{c:Cv}(H:CkB g p m f pc i c)
include H
theorem Kc:Ok (BM (.ptr (some (p,0))) g) fun r=>Lst g r.2 r.1 (tgtL m i):=by
 have q17:=H.l17;have q18:=H.l18;have q19:=H.l19
 by_cases c18:i.op=18
 ·exact Ah (v:=.sl (some (g.next,0)) 1 (.ex 1)) (g:=g.new (.cells true (wI [i.a]))) (by simp -implicitDefEqProofs only [BM,q17,q18,q19,Nat.zero_add,c18,bs1,Af,AO,AF,Option.bind_some,AZ,AY,Ac,AX,AL,AH,AD,Ad,AQ,AE,AM,AC,if_true,if_false,Bool.false_eq_true,AJ,AP,AG,AR,AK,AU,Int.reduceEq,Int.reduceLT,Int.reduceLE,decide_true,decide_false,AB,AA,Ae,Bool.not_true,Bool.not_false,AW]) (by rw [tgtL,if_pos c18];exact Lst.lit (Same.refl _ _) [i.a])
 by_cases c19:i.op=19
 ·exact Ah (v:=.sl (some (g.next,0)) 1 (.ex 1)) (g:=g.new (.cells true (wI [i.b]))) (by simp -implicitDefEqProofs only [BM,q17,q18,q19,Nat.zero_add,c19,bs1,Af,AO,AF,Option.bind_some,AZ,AY,Ac,AX,AL,AH,AD,Ad,AQ,AE,AM,AC,if_true,if_false,Bool.false_eq_true,AJ,AP,AG,AR,AK,AU,Int.reduceEq,Int.reduceLT,Int.reduceLE,decide_true,decide_false,AB,AA,Ae,Bool.not_true,Bool.not_false,AW]) (by rw [tgtL,if_neg c18,if_pos c19];exact Lst.lit (Same.refl _ _) [i.b])
 by_cases c41:i.op=41
 ·have e:tgtL m i=(casesOf m i.a i.b).map Cas.to:=by rw [tgtL,if_neg c18,if_neg c19,if_pos c41]
  obtain⟨v,ec,V⟩:=Iu H
  have hln:=V.lnL
  rw [List.length_map] at hln
  refine Ok.eq ?_ (by simp -implicitDefEqProofs only [BM,q17,q18,q19,Nat.zero_add,c41,ec,Br,List.getElem?_cons_zero,List.getElem?_cons_succ,hln,AO,AF,Option.bind_some,AZ,AY,Ac,AX,AL,AH,AD,Ad,AQ,AE,AM,AC,if_true,if_false,Bool.false_eq_true,AJ,AP,AG,AR,AK,AU,Int.reduceEq,Int.reduceLT,Int.reduceLE,decide_true,decide_false,AB,AA,Ae,Bool.not_true,Bool.not_false,AW]<;>rfl)
  refine CJ (NH V (Same.refl _ _) (by have:=FD H.sm.2.1 i.a i.b;omega)) ?_
  rintro _ vs g2 ⟨rfl,q,hv,L⟩
  simp only at hv L
  exact Ah (v:=q) (g:=g2) (by simp -implicitDefEqProofs only [if_true,Al,hv]) (by rw [e];exact L)
 ·exact Ah (v:=.sl none 0 (.ex 0)) (g:=g) (by simp -implicitDefEqProofs only [BM,q17,q18,q19,Nat.zero_add,c18,c19,c41,AO,AF,Option.bind_some,AZ,AY,Ac,AX,AL,AH,AD,Ad,AQ,AE,AM,AC,if_true,if_false,Bool.false_eq_true,AJ,AP,AG,AR,AK,AU,Int.reduceEq,Int.reduceLT,Int.reduceLE,decide_true,decide_false,AB,AA,Ae,Bool.not_true,Bool.not_false,AW]) (by rw [tgtL,if_neg c18,if_neg c19,if_neg c41];exact Lst.mt (Same.refl _ _))
theorem TI:Ok (Ct (.ptr (some (p,0))) g) fun r=>Same [] g r.2∧r.1 = .bool (onB m f pc i):=by
 refine Ok.eq ?_ (by simp -implicitDefEqProofs only [Ct]<;>rfl)
 refine Ao (Kc H) ?_
 intro v g1 L
 simp only at L
 have H1:=H.mono L.same
 have hlen:=Ni H.sm.2.1 i
 have hcl:=H.wh.a12
 have hc1:=H.wh.a11
 have q11:=H1.l11;have lnd:=H1.lnd
 have hln:=L.lnL
 generalize hl:tgtL m i=l at *
 refine Ok.eq ?_ (by simp -implicitDefEqProofs only [hln,Option.bind_some]<;>rfl)
 refine CJ (P:=fun r=>r.2.2=g1∧((r.1 = .exit 0∧l.all (insB f)=true)∨(r.1 = .ret∧r.2.1.getD 0 .bot = .bool false∧l.all (insB f)=false))) ?_ ?_
 ·refine BF (fun q us g'=>∃ k:Nat,us = [.bool false,.int .i64 (k:Nat)]∧q+k=l.length∧g'=g1∧(l.take k).all (insB f)=true) ?_ (n:=l.length) (by omega) ⟨0,rfl,rfl,rfl,rfl⟩
  rintro q us g' ⟨k,rfl,hq,rfl,hall⟩
  rw [gD0,gD1]
  by_cases hk:k<l.length
  ·have hk':(k:Int)<l.length:=by omega
   obtain⟨n,hn⟩:∃ n,l[k]?=some n:=⟨_,List.getElem?_eq_getElem hk⟩
   obtain⟨b,_,_,hix,hla⟩:=L.at hn
   have et:l.take (k+1)=l.take k ++ [n]:=by rw [List.take_succ,hn];rfl
   have bad:insB f n=false→l.all (insB f)=false:=fun h=>by rw [List.all_eq_false];exact⟨n,List.mem_of_getElem? hn,by rw [h];simp⟩
   by_cases d1:n < 0
   ·exact(Ok.of (r:=(Ex.ret,[AV.bool false,.int .i64 (k:Nat)],g')) (.inr ⟨by simp,rfl,.inr ⟨rfl,rfl,bad (by rw [insB,decide_eq_false (show ¬ 0≤n by omega)];rfl)⟩⟩)).eq (by simp -implicitDefEqProofs only [CV,hk',hix,hla,q11,lnd,Nat.zero_add,d1,AO,AF,Option.bind_some,AZ,AY,Ac,AX,AL,AH,AD,Ad,AQ,AE,AM,AC,if_true,if_false,Bool.false_eq_true,AJ,AP,AG,AR,AK,AU,Int.reduceEq,Int.reduceLT,Int.reduceLE,decide_true,decide_false,AB,AA,Ae,Bool.not_true,Bool.not_false,AW])
   by_cases d2:(f.code.length:Int)≤n
   ·exact(Ok.of (r:=(Ex.ret,[AV.bool false,.int .i64 (k:Nat)],g')) (.inr ⟨by simp,rfl,.inr ⟨rfl,rfl,bad (by rw [insB,decide_eq_false (show ¬ n<f.code.length by omega),Bool.and_false])⟩⟩)).eq (by simp -implicitDefEqProofs only [CV,hk',hix,hla,q11,lnd,Nat.zero_add,d1,d2,AO,AF,Option.bind_some,AZ,AY,Ac,AX,AL,AH,AD,Ad,AQ,AE,AM,AC,if_true,if_false,Bool.false_eq_true,AJ,AP,AG,AR,AK,AU,Int.reduceEq,Int.reduceLT,Int.reduceLE,decide_true,decide_false,AB,AA,Ae,Bool.not_true,Bool.not_false,AW])
   ·exact(Ok.of (r:=(Ex.normal,[AV.bool false,.int .i64 ((k+1:Nat):Int)],g')) (.inl ⟨rfl,q - 1,by omega,k+1,rfl,by omega,rfl,by rw [et,List.all_append,hall];simp [insB];omega⟩)).eq (by simp -implicitDefEqProofs only [CV,hk',hix,hla,q11,lnd,Nat.zero_add,d1,d2,Ap,suc64 k (by omega),AO,AF,Option.bind_some,AZ,AY,Ac,AX,AL,AH,AD,Ad,AQ,AE,AM,AC,if_true,if_false,Bool.false_eq_true,AJ,AP,AG,AR,AK,AU,Int.reduceEq,Int.reduceLT,Int.reduceLE,decide_true,decide_false,AB,AA,Ae,Bool.not_true,Bool.not_false,AW])
  ·have hk' : ¬ (k:Int)<l.length:=by omega
   exact(Ok.of (r:=(Ex.exit 0,[AV.bool false,.int .i64 (k:Nat)],g')) (.inr ⟨by simp,rfl,.inl ⟨rfl,by rw [List.take_of_length_le (by omega)] at hall;exact hall⟩⟩)).eq (by
    simp -implicitDefEqProofs only [CV,AG,hk',decide_false,Option.bind_some,AA])
 ·rintro e us g2 ⟨hg2,⟨rfl,h⟩ | ⟨rfl,hv,h⟩⟩
  ·simp only at hg2
   subst hg2
   have e:onB m f pc i=(decide (pc<(f.code.length:Int) - 1)||endB i.op):=by rw [onB,hl,h,Bool.true_and]
   have q16:=H1.l16;have q17:=H1.l17
   have w:IntKind.i64.wrap ((f.code.length:Int) - 1)=(f.code.length:Int) - 1:=B9 (by omega) (by omega)
   by_cases d1:pc<(f.code.length:Int) - 1
   ·exact Ah (v:=.bool true) (g:=g2) (by simp -implicitDefEqProofs only [Al,q16,q17,q11,lnd,Bc,w,Nat.zero_add,d1,AO,AF,Option.bind_some,AZ,AY,Ac,AX,AL,AH,AD,Ad,AQ,AE,AM,AC,if_true,if_false,Bool.false_eq_true,AJ,AP,AG,AR,AK,AU,Int.reduceEq,Int.reduceLT,Int.reduceLE,decide_true,decide_false,AB,AA,Ae,Bool.not_true,Bool.not_false,AW]) ⟨L.same,by rw [e,decide_eq_true d1];rfl⟩
   have e2:onB m f pc i=endB i.op:=by rw [e,decide_eq_false d1,Bool.false_or]
   by_cases c18:i.op=18
   ·exact Ah (v:=.bool true) (g:=g2) (by simp -implicitDefEqProofs only [Al,q16,q17,q11,lnd,Bc,w,Nat.zero_add,d1,c18,AO,AF,Option.bind_some,AZ,AY,Ac,AX,AL,AH,AD,Ad,AQ,AE,AM,AC,if_true,if_false,Bool.false_eq_true,AJ,AP,AG,AR,AK,AU,Int.reduceEq,Int.reduceLT,Int.reduceLE,decide_true,decide_false,AB,AA,Ae,Bool.not_true,Bool.not_false,AW]) ⟨L.same,by rw [e2,c18];rfl⟩
   by_cases c22:i.op=22
   ·exact Ah (v:=.bool true) (g:=g2) (by simp -implicitDefEqProofs only [Al,q16,q17,q11,lnd,Bc,w,Nat.zero_add,d1,c22,AO,AF,Option.bind_some,AZ,AY,Ac,AX,AL,AH,AD,Ad,AQ,AE,AM,AC,if_true,if_false,Bool.false_eq_true,AJ,AP,AG,AR,AK,AU,Int.reduceEq,Int.reduceLT,Int.reduceLE,decide_true,decide_false,AB,AA,Ae,Bool.not_true,Bool.not_false,AW]) ⟨L.same,by rw [e2,c22];rfl⟩
   by_cases c44:i.op=44
   ·exact Ah (v:=.bool true) (g:=g2) (by simp -implicitDefEqProofs only [Al,q16,q17,q11,lnd,Bc,w,Nat.zero_add,d1,c44,AO,AF,Option.bind_some,AZ,AY,Ac,AX,AL,AH,AD,Ad,AQ,AE,AM,AC,if_true,if_false,Bool.false_eq_true,AJ,AP,AG,AR,AK,AU,Int.reduceEq,Int.reduceLT,Int.reduceLE,decide_true,decide_false,AB,AA,Ae,Bool.not_true,Bool.not_false,AW]) ⟨L.same,by rw [e2,c44];rfl⟩
   by_cases c41:i.op=41
   ·exact Ah (v:=.bool true) (g:=g2) (by simp -implicitDefEqProofs only [Al,q16,q17,q11,lnd,Bc,w,Nat.zero_add,d1,c41,AO,AF,Option.bind_some,AZ,AY,Ac,AX,AL,AH,AD,Ad,AQ,AE,AM,AC,if_true,if_false,Bool.false_eq_true,AJ,AP,AG,AR,AK,AU,Int.reduceEq,Int.reduceLT,Int.reduceLE,decide_true,decide_false,AB,AA,Ae,Bool.not_true,Bool.not_false,AW]) ⟨L.same,by rw [e2,c41];rfl⟩
   ·exact Ah (v:=.bool false) (g:=g2) (by simp -implicitDefEqProofs only [Al,q16,q17,q11,lnd,Bc,w,Nat.zero_add,d1,c18,c22,c44,c41,AO,AF,Option.bind_some,AZ,AY,Ac,AX,AL,AH,AD,Ad,AQ,AE,AM,AC,if_true,if_false,Bool.false_eq_true,AJ,AP,AG,AR,AK,AU,Int.reduceEq,Int.reduceLT,Int.reduceLE,decide_true,decide_false,AB,AA,Ae,Bool.not_true,Bool.not_false,AW]) ⟨L.same,by rw [e2,endB,decide_eq_false c18,decide_eq_false c22,decide_eq_false c44,decide_eq_false c41];rfl⟩
  ·simp only at hg2 hv
   exact Ah (v:=.bool false) (g:=g2) (by simp -implicitDefEqProofs only [reduceCtorEq,if_false,Cm,Dx,hv]) ⟨by rw [hg2];exact L.same,by rw [onB,hl,h];rfl⟩
theorem Qw (h7:(tgtL m i).all (insB f)=true):Ok (Cg (.ptr (some (p,0))) g) fun r=>Same [] g r.2∧r.1 = .bool (backB m f pc i):=by
 refine Ok.eq ?_ (by simp -implicitDefEqProofs only [Cg]<;>rfl)
 refine Ao (Kc H) ?_
 intro v g1 L
 simp only at L
 have H1:=H.mono L.same
 have hlen:=Ni H.sm.2.1 i
 have hcl:=H.wh.a12
 have q11:=H1.l11;have q16:=H1.l16
 have hln:=L.lnL
 unfold backB
 generalize hl:tgtL m i=l at *
 refine Ok.eq ?_ (by simp -implicitDefEqProofs only [hln,Option.bind_some]<;>rfl)
 refine CJ (P:=fun r=>r.2.2=g1∧((r.1 = .exit 0∧(l.all fun n=>!(decide (n≤pc) && !decide (opAt f n=43)))=true)∨(r.1 = .ret∧r.2.1.getD 0 .bot = .bool false∧(l.all fun n=>!(decide (n≤pc) && !decide (opAt f n=43)))=false))) ?_ ?_
 ·refine BF (fun q us g'=>∃ k:Nat,us = [.bool false,.int .i64 (k:Nat)]∧q+k=l.length∧g'=g1∧((l.take k).all fun n=>!(decide (n≤pc) && !decide (opAt f n=43)))=true) ?_ (n:=l.length) (by omega) ⟨0,rfl,rfl,rfl,rfl⟩
  rintro q us g' ⟨k,rfl,hq,rfl,hall⟩
  rw [gD0,gD1]
  by_cases hk:k<l.length
  ·have hk':(k:Int)<l.length:=by omega
   obtain⟨n,hn⟩:∃ n,l[k]?=some n:=⟨_,List.getElem?_eq_getElem hk⟩
   obtain⟨b,_,_,hix,hla⟩:=L.at hn
   have et:l.take (k+1)=l.take k ++ [n]:=by rw [List.take_succ,hn];rfl
   have hin:=List.all_eq_true.1 h7 n (List.mem_of_getElem? hn)
   simp only [insB,Bool.and_eq_true,decide_eq_true_eq] at hin
   obtain⟨x,hx⟩:∃ x,f.code[n.toNat]?=some x:=⟨_,List.getElem?_eq_getElem (by omega)⟩
   have eo:opAt f n=x.op:=by rw [opAt,hx]
   obtain⟨b2,o2,_,hix2,_,hls2⟩:=H1.cd.at (i:=n.toNat) (r:=x.row) (by rw [List.getElem?_map,hx];rfl)
   have hix3:=hix2 .i64
   rw [show((n.toNat:Nat):Int)=n by omega] at hix3
   have l0:=hls2 0 _ rfl
   have good:(!(decide (n≤pc) && !decide (opAt f n=43)))=true→Ok (some (Ex.normal,[AV.bool false,.int .i64 ((k+1:Nat):Int)],g')) fun r=>(r.1 = .normal∧∃ m,m<q∧∃ k:Nat,r.2.1 = [.bool false,.int .i64 (k:Nat)]∧m+k=l.length∧r.2.2=g'∧((l.take k).all fun n=>!(decide (n≤pc) && !decide (opAt f n=43)))=true)∨(r.1≠.normal∧r.2.2=g'∧((r.1 = .exit 0∧(l.all fun n=>!(decide (n≤pc) && !decide (opAt f n=43)))=true)∨(r.1 = .ret∧r.2.1.getD 0 .bot = .bool false∧(l.all fun n=>!(decide (n≤pc) && !decide (opAt f n=43)))=false))):=fun h=>
    Ok.of (r:=(Ex.normal,[AV.bool false,.int .i64 ((k+1:Nat):Int)],g')) (.inl ⟨rfl,q - 1,by omega,k+1,rfl,by omega,rfl,by rw [et,List.all_append,hall,List.all_cons,h];rfl⟩)
   by_cases d1:n≤pc
   ·by_cases d2:x.op=43
    ·exact(good (by rw [eo,decide_eq_true d2];simp)).eq (by simp -implicitDefEqProofs only [CH,hk',hix,hla,q11,q16,hix3,l0,Nat.zero_add,d1,d2,Ap,suc64 k (by omega),AO,AF,Option.bind_some,AZ,AY,Ac,AX,AL,AH,AD,Ad,AQ,AE,AM,AC,if_true,if_false,Bool.false_eq_true,AJ,AP,AG,AR,AK,AU,Int.reduceEq,Int.reduceLT,Int.reduceLE,decide_true,decide_false,AB,AA,Ae,Bool.not_true,Bool.not_false,AW])
    ·exact(Ok.of (r:=(Ex.ret,[AV.bool false,.int .i64 (k:Nat)],g')) (.inr ⟨by simp,rfl,.inr ⟨rfl,rfl,by rw [List.all_eq_false];exact⟨n,List.mem_of_getElem? hn,by rw [eo,decide_eq_false d2,decide_eq_true d1];simp⟩⟩⟩)).eq (by simp -implicitDefEqProofs only [CH,hk',hix,hla,q11,q16,hix3,l0,Nat.zero_add,d1,d2,AO,AF,Option.bind_some,AZ,AY,Ac,AX,AL,AH,AD,Ad,AQ,AE,AM,AC,if_true,if_false,Bool.false_eq_true,AJ,AP,AG,AR,AK,AU,Int.reduceEq,Int.reduceLT,Int.reduceLE,decide_true,decide_false,AB,AA,Ae,Bool.not_true,Bool.not_false,AW])
   ·exact(good (by rw [decide_eq_false d1];rfl)).eq (by simp -implicitDefEqProofs only [CH,hk',hix,hla,q11,q16,hix3,l0,Nat.zero_add,d1,Ap,suc64 k (by omega),AO,AF,Option.bind_some,AZ,AY,Ac,AX,AL,AH,AD,Ad,AQ,AE,AM,AC,if_true,if_false,Bool.false_eq_true,AJ,AP,AG,AR,AK,AU,Int.reduceEq,Int.reduceLT,Int.reduceLE,decide_true,decide_false,AB,AA,Ae,Bool.not_true,Bool.not_false,AW])
  ·have hk' : ¬ (k:Int)<l.length:=by omega
   exact(Ok.of (r:=(Ex.exit 0,[AV.bool false,.int .i64 (k:Nat)],g')) (.inr ⟨by simp,rfl,.inl ⟨rfl,by rw [List.take_of_length_le (by omega)] at hall;exact hall⟩⟩)).eq (by
    simp -implicitDefEqProofs only [CH,AG,hk',decide_false,Option.bind_some,AA])
 ·rintro e us g2 ⟨hg2,⟨rfl,h⟩ | ⟨rfl,hv,h⟩⟩
  ·simp only at hg2
   exact Ah (v:=.bool true) (g:=g2) (by simp -implicitDefEqProofs only [if_true,Al]) ⟨by rw [hg2];exact L.same,by rw [h]⟩
  ·simp only at hg2 hv
   exact Ah (v:=.bool false) (g:=g2) (by simp -implicitDefEqProofs only [reduceCtorEq,if_false,Cm,Dx,hv]) ⟨by rw [hg2];exact L.same,by rw [h]⟩
end
end Go.Ab.F
