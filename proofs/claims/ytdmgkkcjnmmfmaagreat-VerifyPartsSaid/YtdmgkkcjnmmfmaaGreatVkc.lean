import Derived.Test.YtdmgkkcjnmmfmaaGreatVkb
namespace Go.Ab.F
open Go Go.Ab
set_option linter.all false
set_option linter.all false
attribute [local congr] BI D1 Dy D2 Bu D3 Dz Aw Av
def spareB (f:Fn)(T:List (List St))(pc:Nat)(i:Ins):Bool:=
 if i.op=28∨i.op=29∨i.op=31∨i.op=32 then
  if i.a < 0∨64≤i.a∨i.c < 0∨64≤i.c then false
  else if i.c<f.kinds.length∧kdB f i.c=false then true
  else(getN (T.getD pc []) i.a).o && (getN (T.getD pc []) i.c).y && (if i.op=28∨i.op=29 then decide ((getN (T.getD pc []) i.a).w &&& bitB i.b=0#64) else decide ((getN (T.getD pc []) i.a).w=0#64))
 else false
theorem Px (x:BitVec 64):eqP (some (.int .u64)) none false .eql (w64 x) (AV.int .u64 0)=some (.bool (decide (x=0#64))):=by
 rw [w64,AK]
 congr 2
 rw [decide_eq_decide]
 constructor
 ·intro h;exact BitVec.eq_of_toNat_eq (by simpa using h)
 ·rintro rfl;rfl
theorem StsRd.at_ {g:Heap}{q:AV}{T:List (List St)}{lo:Nat}(H:StsRd g q T lo){pc:Nat}(hp:pc<T.length):∃ b v b',(∀ k,iaS 1 q (.int k (pc:Int))=some (.ptr (some (b,pc))))∧ldS g (.ptr (some (b,pc)))=some v∧Ste g b' v (T.getD pc []):=by
 obtain⟨b,vs,Q,hb,hl,hE⟩:=H.ex
 obtain⟨v,hv⟩:∃ v,vs[pc]?=some v:=⟨_,List.getElem?_eq_getElem (by omega)⟩
 obtain⟨j,hj,hix⟩:=Q.ix (i:=pc) (by omega)
 obtain⟨b',l,S1,_,hT⟩:=hE pc v hv
 have eT:T.getD pc []=l:=by rw [List.getD_eq_getElem?_getD,hT];rfl
 refine⟨j,v,b',fun k=>by have:=hix k;rwa [Nat.mul_one] at this,by rw [Q.ld hj];exact hv,by rw [eT];exact S1⟩
theorem OG {h:Heap}{r:List AV}{f:Fn}{yv:AV}{T:List (List St)}{lo pc:Nat}{i:Ins}(G:FnRd h r f)(Y:StsRd h yv T lo)(hT:T.length=f.code.length)(hi:f.code[pc]?=some i) :
  Ok (EA (.agg r) yv (.int .i64 (pc:Int)) h) fun r=>Same [] h r.2∧r.1 = .bool (spareB f T pc i):=by
 obtain⟨kv,cv,mv,rfl,hbf,FB⟩:=G.box
 have FB:=FB _ (Same.refl _ _)
 have s0:Same [] h (h.new (.cells true [.int .i64 f.pa,.int .i64 f.ca,.int .i64 f.sl,.int .i64 f.re,kv,cv,mv])):=Same.new _ _
 generalize hg0:h.new (.cells true [.int .i64 f.pa,.int .i64 f.ca,.int .i64 f.sl,.int .i64 f.re,kv,cv,mv])=g0 at *
 have hp:=(List.getElem?_eq_some_iff.1 hi).1
 obtain⟨b1,o1,hix,hla,_⟩:=FB.code hi
 have l5:=FB.l5
 refine Ok.eq ?_ (by simp -implicitDefEqProofs only [EA,hbf,Af,hg0,AF,l5,hix,hla,Option.bind_some]<;>rfl)
 refine Er (cs:=i.row) (n:=5) (by rfl) (by rfl) (Ins.sc i) fun _ g s1 n1 bi=>?_
 have s:=s0.trans s1
 have F:=FB.mono s1
 have ild:∀ g',Same [] g g'→∀ (k:Nat) x,i.row[k]?=some x→ldS g' (.ptr (some (g0.next,k)))=some x:=fun g' s k x hx=>by rw [Ai (w:=true) (vs:=i.row) (by rw [s.get _ (by omega) (by simp)];exact bi)];exact hx
 have i0:=ild g (Same.refl _ _) 0 _ rfl;have i1:=ild g (Same.refl _ _) 1 _ rfl;have i2:=ild g (Same.refl _ _) 2 _ rfl;have i3:=ild g (Same.refl _ _) 3 _ rfl
 have l4:ldS g (.ptr (some (h.next,4)))=some kv:=by have:=F.l4;simpa using this
 have ln4:=F.ln4
 have fin:∀ (b:Bool) (x:Option (AV × Heap)),x=some (.bool b,g)→spareB f T pc i=b→Ok x fun r=>Same [] h r.2∧r.1 = .bool (spareB f T pc i):=fun b x hx hb=>by rw [hx,hb];exact Ok.of (r:=(AV.bool b,g)) ⟨s,rfl⟩
 obtain⟨bT,v,b',ixT,ldT,ST⟩:=(Y.mono s (by simp)).at_ (pc:=pc) (by rw [hT];exact hp)
 have ixT:=ixT .i64
 generalize hl:T.getD pc []=l at *
 have Sp:=FM g 2
 have p1:=ild (hpN g 2) Sp 1 _ rfl
 have STp:=ST.mono Sp (by simp)
 have kdE:0≤i.c→i.c<f.kinds.length→∃ b o,iaS 1 kv (.int .i64 i.c)=some (.ptr (some (b,o)))∧ldS g (.ptr (some (b,o)))=some (.bool (kdB f i.c)):=fun h0 h1=>by
  have hk:f.kinds[i.c.toNat]?=some (kdB f i.c):=by rw [kdB,List.getD_eq_getElem?_getD,List.getElem?_eq_getElem (by omega)];rfl
  obtain⟨b,o,_,hix,hla⟩:=F.ks.at (i:=i.c.toNat) (x:=.bool (kdB f i.c)) (by rw [List.getElem?_map,hk];rfl)
  have:=hix .i64
  rw [show((i.c.toNat:Nat):Int)=i.c by omega] at this
  exact⟨b,o,this,hla⟩
 -- what is behind the tests
 have two:∀ (K:Heap→Option (AV × Heap)),(∀ g',Same [] g g'→g.next+1<g'.next→g'.get g.next=some (.cells true (getN l i.a).row)→g'.get (g.next+1)=some (.cells true (getN l i.c).row)→Ok (K g') fun r=>Same [] h r.2∧r.1 = .bool (spareB f T pc i))→
   Ok (cl (As v (.int .i64 i.a) (hpN g 2)) fun t77 h53=>
    clC (rdC (fun k=>ldS k (.ptr (some (g0.next,3)))) h53 0 1 []) fun t80 cs=>
    cl (As v t80 h53) fun t81 h54=>
    cl (mkAt Heap.put (some (Blk.cells true [(AV.bool false),(AV.bool false),(AV.int .u64 0)],fun i=>AV.ptr (some (i,0)))) (g.next+0) h54) fun t10 h55=>
    cl (mkAt Heap.put (some (Blk.cells true [(AV.bool false),(AV.bool false),(AV.int .u64 0)],fun i=>AV.ptr (some (i,0)))) (g.next+1) h55) fun t11 h56=>
    cl (stP 3 h56 t10 t77) fun u_57 h58=>
    cl (stP 3 h58 t11 t81) fun u_59 h60=>
    chk [(hpN g 2),h53,h54,h58,h60] cs (K h60)) fun r=>Same [] h r.2∧r.1 = .bool (spareB f T pc i):=by
  intro K hK
  refine Ao (Ov i.a STp) ?_
  rintro _ g1 ⟨t1,rfl⟩
  simp only at t1
  have j3:=ild g1 (Sp.trans t1) 3 _ rfl
  refine Ok.eq ?_ (by simp -implicitDefEqProofs only [Bp (f:=fun k=>ldS k (.ptr (some (g0.next,3)))) (h:=g1) j3,AM]<;>rfl)
  refine Ao (Ov i.c (STp.mono t1 (by simp))) ?_
  rintro _ g2 ⟨t2,rfl⟩
  simp only at t2
  have e1:((g2.put g.next (some (Blk.cells true [(AV.bool false),(AV.bool false),(AV.int .u64 0)]))).put (g.next+1) (some (Blk.cells true [(AV.bool false),(AV.bool false),(AV.int .u64 0)]))).get g.next=some (.cells true [(AV.bool false),(AV.bool false),(AV.int .u64 0)]):=by rw [Bd (by omega),An]
  have st1:=Ds (n:=3) e1 rfl (show(getN l i.a).row.length=3 from rfl) rfl
  generalize hx:((g2.put g.next (some (Blk.cells true [(AV.bool false),(AV.bool false),(AV.int .u64 0)]))).put (g.next+1) (some (Blk.cells true [(AV.bool false),(AV.bool false),(AV.int .u64 0)])))=g3 at *
  have e2:(g3.put g.next (some (.cells true (getN l i.a).row))).get (g.next+1)=some (.cells true [(AV.bool false),(AV.bool false),(AV.int .u64 0)]):=by rw [Bd (by omega),← hx,An]
  have st2:=Ds (n:=3) e2 rfl (show(getN l i.c).row.length=3 from rfl) rfl
  have u2:Same [] g g2:=(Sp.trans t1).trans t2
  have u3:Same [] g g3:=by rw [← hx];exact(u2.old (Same.put _ _ _) (fun j hj=>.inr (by simp at hj;omega))).old (Same.put _ _ _) (fun j hj=>.inr (by simp at hj;omega))
  have u4:Same [] g (g3.put g.next (some (.cells true (getN l i.a).row))):=u3.old (Same.put _ _ _) (fun j hj=>.inr (by simp at hj;omega))
  generalize h4:g3.put g.next (some (.cells true (getN l i.a).row))=g4 at *
  have u5:Same [] g (g4.put (g.next+1) (some (.cells true (getN l i.c).row))):=u4.old (Same.put _ _ _) (fun j hj=>.inr (by simp at hj;omega))
  have b5:(g4.put (g.next+1) (some (.cells true (getN l i.c).row))).get g.next=some (.cells true (getN l i.a).row):=by rw [Bd (by omega),← h4,An]
  have b6:(g4.put (g.next+1) (some (.cells true (getN l i.c).row))).get (g.next+1)=some (.cells true (getN l i.c).row):=An
  have hn5:(g4.put (g.next+1) (some (.cells true (getN l i.c).row))).next=g2.next:=by rw [← h4,← hx];rfl
  generalize h5:g4.put (g.next+1) (some (.cells true (getN l i.c).row))=g5 at *
  refine Ok.eq (hK g5 u5 (by rw [hn5];have:=(t1.trans t2).next;simp only [hpN] at this;omega) b5 b6) ?_
  simp -implicitDefEqProofs only [Nat.add_zero,Eu,AE,hx,st1,st2]
  rw [Cq (Fg _ _) (by simp only [List.mem_cons,List.not_mem_nil,or_false,forall_eq_or_imp,forall_eq];exact⟨ild _ Sp 3 _ rfl,j3,ild _ u2 3 _ rfl,ild _ u4 3 _ rfl,ild _ u5 3 _ rfl⟩) (by simp),AW]
 by_cases c28:i.op=28
 ·have cc:(i.op=28∨i.op=29∨i.op=31∨i.op=32):=by omega
  have no:(i.a < 0∨64≤i.a∨i.c < 0∨64≤i.c)→spareB f T pc i=false:=fun h=>by rw [spareB,if_pos cc,if_pos h]
  by_cases d1:i.a < 0
  ·exact fin false _ (by simp -implicitDefEqProofs only [i0,i1,i2,i3,l4,ln4,c28,d1,AO,AF,Option.bind_some,AZ,AY,Ac,AX,AL,AH,AD,Ad,AQ,AE,AM,AC,if_true,if_false,Bool.false_eq_true,AJ,AP,AG,AR,AK,AU,Int.reduceEq,Int.reduceLT,Int.reduceLE,decide_true,decide_false,AB,AA,Ae,Bool.not_true,Bool.not_false,AW]) (no (by omega))
  by_cases d2:(64:Int)≤i.a
  ·exact fin false _ (by simp -implicitDefEqProofs only [i0,i1,i2,i3,l4,ln4,c28,d1,d2,AO,AF,Option.bind_some,AZ,AY,Ac,AX,AL,AH,AD,Ad,AQ,AE,AM,AC,if_true,if_false,Bool.false_eq_true,AJ,AP,AG,AR,AK,AU,Int.reduceEq,Int.reduceLT,Int.reduceLE,decide_true,decide_false,AB,AA,Ae,Bool.not_true,Bool.not_false,AW]) (no (by omega))
  by_cases d3:i.c < 0
  ·exact fin false _ (by simp -implicitDefEqProofs only [i0,i1,i2,i3,l4,ln4,c28,d1,d2,d3,AO,AF,Option.bind_some,AZ,AY,Ac,AX,AL,AH,AD,Ad,AQ,AE,AM,AC,if_true,if_false,Bool.false_eq_true,AJ,AP,AG,AR,AK,AU,Int.reduceEq,Int.reduceLT,Int.reduceLE,decide_true,decide_false,AB,AA,Ae,Bool.not_true,Bool.not_false,AW]) (no (by omega))
  by_cases d4:(64:Int)≤i.c
  ·exact fin false _ (by simp -implicitDefEqProofs only [i0,i1,i2,i3,l4,ln4,c28,d1,d2,d3,d4,AO,AF,Option.bind_some,AZ,AY,Ac,AX,AL,AH,AD,Ad,AQ,AE,AM,AC,if_true,if_false,Bool.false_eq_true,AJ,AP,AG,AR,AK,AU,Int.reduceEq,Int.reduceLT,Int.reduceLE,decide_true,decide_false,AB,AA,Ae,Bool.not_true,Bool.not_false,AW]) (no (by omega))
  have e : ¬ (i.c<f.kinds.length∧kdB f i.c=false)→spareB f T pc i=((getN l i.a).o && (getN l i.c).y && decide ((getN l i.a).w &&& bitB i.b=0#64)):=fun h=>by rw [spareB,if_pos cc,if_neg (by omega),if_neg h,hl];rw [if_pos (by omega)]
  have main:spareB f T pc i=((getN l i.a).o && (getN l i.c).y && decide ((getN l i.a).w &&& bitB i.b=0#64))→Ok (  (faP 1 (AV.ptr (some (g0.next,0)))).bind fun t75=>
 (ldS (hpN g 2) t75).bind fun t76=>
 cl (As v t76 (hpN g 2)) fun t77 h53=>
 (faP 3 (AV.ptr (some (g0.next,0)))).bind fun t79=>
 clC (rdC (fun g=>ldS g t79) h53 0 1 []) fun t80 cs=>
 cl (As v t80 h53) fun t81 h54=>
 cl (mkAt Heap.put (some (Blk.cells true [(AV.bool false),(AV.bool false),(AV.int .u64 0)],fun i=>AV.ptr (some (i,0)))) (g.next+0) h54) fun t10 h55=>
 cl (mkAt Heap.put (some (Blk.cells true [(AV.bool false),(AV.bool false),(AV.int .u64 0)],fun i=>AV.ptr (some (i,0)))) (g.next+1) h55) fun t11 h56=>
 cl (stP 3 h56 t10 t77) fun u_57 h58=>
 cl (stP 3 h58 t11 t81) fun u_59 h60=>
 chk [(hpN g 2),h53,h54,h58,h60] cs (
 condE (AV.bool true) (
 (faP 1 t10).bind fun t83=>
 (ldS h60 t83).bind fun t84=>
 (gV (gdW t84 true) (faP 0 t11) (.tup [])).bind fun t86=>
 (gV (gdW t84 true) (ldS h60 t86) (.tup [])).bind fun t87=>
 (pickP t84 t87 (AV.bool false)).bind fun t88=>
 (gV (gdW t88 true) (faP 2 t10) (.tup [])).bind fun t90=>
 clC (gV (gdW t88 true) (rdC (fun g=>ldS g t90) h60 0 1 []) (.tup [],[])) fun t91 cs_61=>
 (gV (gdW t88 true) (faP 2 (AV.ptr (some (g0.next,0)))) (.tup [])).bind fun t92=>
 (gV (gdW t88 true) (ldS h60 t92) (.tup [])).bind fun t93=>
 gQ (gdW t88 true) h60 (cl (Bt t93 h60) fun t94 h62=>
 some (t94,h62)) fun t94_63 h64=>
 (gV (gdW t88 true) (binP .and t91 t94_63) (.tup [])).bind fun t95=>
 (gV (gdW t88 true) (eqP (some (.int .u64)) none false .eql t95 (AV.int .u64 0)) (.tup [])).bind fun t96=>
 (pickP t88 t96 (AV.bool false)).bind fun t97=>
 chk [h60,h64] cs_61 (
 some (t97,h64))) (
 (faP 1 t10).bind fun t98=>
 (ldS h60 t98).bind fun t99=>
 gQ (gdW t99 true) h60 ((faP 0 t11).bind fun t101=>
 some (t101,h60)) fun t101_65 h66=>
 gQ (gdW t99 true) h66 ((ldS h66 t101_65).bind fun t102=>
 some (t102,h66)) fun t102_67 h68=>
 (pickP t99 t102_67 (AV.bool false)).bind fun t103=>
 gQ (gdW t103 true) h68 ((faP 2 t10).bind fun t105=>
 some (t105,h68)) fun t105_69 h70=>
 gQ (gdW t103 true) h70 ((ldS h70 t105_69).bind fun t106=>
 some (t106,h70)) fun t106_71 h72=>
 gQ (gdW t103 true) h72 ((eqP (some (.int .u64)) none false .eql t106_71 (AV.int .u64 0)).bind fun t107=>
 some (t107,h72)) fun t107_73 h74=>
 (pickP t103 t107_73 (AV.bool false)).bind fun t108=>
 some (t108,h74)))) fun r=>Same [] h r.2∧r.1 = .bool (spareB f T pc i):=fun e=>by
   refine Ok.eq (two (fun h60 => 
 condE (AV.bool true) (
 (faP 1 (AV.ptr (some (g.next,0)))).bind fun t83=>
 (ldS h60 t83).bind fun t84=>
 (gV (gdW t84 true) (faP 0 (AV.ptr (some (g.next+1,0)))) (.tup [])).bind fun t86=>
 (gV (gdW t84 true) (ldS h60 t86) (.tup [])).bind fun t87=>
 (pickP t84 t87 (AV.bool false)).bind fun t88=>
 (gV (gdW t88 true) (faP 2 (AV.ptr (some (g.next,0)))) (.tup [])).bind fun t90=>
 clC (gV (gdW t88 true) (rdC (fun g=>ldS g t90) h60 0 1 []) (.tup [],[])) fun t91 cs_61=>
 (gV (gdW t88 true) (faP 2 (AV.ptr (some (g0.next,0)))) (.tup [])).bind fun t92=>
 (gV (gdW t88 true) (ldS h60 t92) (.tup [])).bind fun t93=>
 gQ (gdW t88 true) h60 (cl (Bt t93 h60) fun t94 h62=>
 some (t94,h62)) fun t94_63 h64=>
 (gV (gdW t88 true) (binP .and t91 t94_63) (.tup [])).bind fun t95=>
 (gV (gdW t88 true) (eqP (some (.int .u64)) none false .eql t95 (AV.int .u64 0)) (.tup [])).bind fun t96=>
 (pickP t88 t96 (AV.bool false)).bind fun t97=>
 chk [h60,h64] cs_61 (
 some (t97,h64))) (
 (faP 1 (AV.ptr (some (g.next,0)))).bind fun t98=>
 (ldS h60 t98).bind fun t99=>
 gQ (gdW t99 true) h60 ((faP 0 (AV.ptr (some (g.next+1,0)))).bind fun t101=>
 some (t101,h60)) fun t101_65 h66=>
 gQ (gdW t99 true) h66 ((ldS h66 t101_65).bind fun t102=>
 some (t102,h66)) fun t102_67 h68=>
 (pickP t99 t102_67 (AV.bool false)).bind fun t103=>
 gQ (gdW t103 true) h68 ((faP 2 (AV.ptr (some (g.next,0)))).bind fun t105=>
 some (t105,h68)) fun t105_69 h70=>
 gQ (gdW t103 true) h70 ((ldS h70 t105_69).bind fun t106=>
 some (t106,h70)) fun t106_71 h72=>
 gQ (gdW t103 true) h72 ((eqP (some (.int .u64)) none false .eql t106_71 (AV.int .u64 0)).bind fun t107=>
 some (t107,h72)) fun t107_73 h74=>
 (pickP t103 t107_73 (AV.bool false)).bind fun t108=>
 some (t108,h74))) fun g5 u5 hn5 b5 b6=>?_) (by simp -implicitDefEqProofs only [Option.bind_some,AF,Nat.zero_add,p1]<;>rfl)
   have a0:ldS g5 (.ptr (some (g.next,1)))=some (.bool (getN l i.a).o):=by rw [Ai b5];rfl
   have a1:ldS g5 (.ptr (some (g.next,2)))=some (w64 (getN l i.a).w):=by rw [Ai b5];rfl
   have a2:ldS g5 (.ptr (some (g.next+1,0)))=some (.bool (getN l i.c).y):=by rw [Ai b6];rfl
   have j2:=ild g5 u5 2 _ rfl
   have fin5:∀ (b:Bool) (x:Option (AV × Heap)),x=some (.bool b,g5)→spareB f T pc i=b→Ok x fun r=>Same [] h r.2∧r.1 = .bool (spareB f T pc i):=fun b x hx hb=>by rw [hx,hb];exact Ok.of (r:=(AV.bool b,g5)) ⟨s.trans u5,rfl⟩
   cases d7:(getN l i.a).o
   ·rw [d7] at a0
    exact fin5 false _ (by simp -implicitDefEqProofs only [a0,a1,a2,j2,d7,Nat.zero_add,AO,AF,Option.bind_some,AZ,AY,Ac,AX,AL,AH,AD,Ad,AQ,AE,AM,AC,if_true,if_false,Bool.false_eq_true,AJ,AP,AG,AR,AK,AU,Int.reduceEq,Int.reduceLT,Int.reduceLE,decide_true,decide_false,AB,AA,Ae,Bool.not_true,Bool.not_false,AW]) (by rw [e,d7];rfl)
   rw [d7] at a0
   cases d8:(getN l i.c).y
   ·rw [d8] at a2
    exact fin5 false _ (by simp -implicitDefEqProofs only [a0,a1,a2,j2,d7,Nat.zero_add,AO,AF,Option.bind_some,AZ,AY,Ac,AX,AL,AH,AD,Ad,AQ,AE,AM,AC,if_true,if_false,Bool.false_eq_true,AJ,AP,AG,AR,AK,AU,Int.reduceEq,Int.reduceLT,Int.reduceLE,decide_true,decide_false,AB,AA,Ae,Bool.not_true,Bool.not_false,AW]) (by rw [e,d7,d8];rfl)
   rw [d8] at a2
   refine fin5 (decide ((getN l i.a).w &&& bitB i.b=0#64)) _ ?_ (by rw [e,d7,d8];rfl)
   simp -implicitDefEqProofs only [a0,a1,a2,j2,d7,Nat.zero_add,NL,Q3,Px,Bp (f:=fun k=>ldS k (.ptr (some (g.next,2)))) (h:=g5) a1,AO,AF,Option.bind_some,AZ,AY,Ac,AX,AL,AH,AD,Ad,AQ,AE,AM,AC,if_true,if_false,Bool.false_eq_true,AJ,AP,AG,AR,AK,AU,Int.reduceEq,Int.reduceLT,Int.reduceLE,decide_true,decide_false,AB,AA,Ae,Bool.not_true,Bool.not_false,AW]
   rw [Cq (by simp [same,sameS,w64]) (by simp only [List.mem_cons,List.not_mem_nil,or_false,forall_eq_or_imp,forall_eq];exact⟨a1,a1⟩) (by simp),AW]
  by_cases d5:i.c<f.kinds.length
  ·obtain⟨bk,ok,x1,x2⟩:=kdE (by omega) d5
   cases d6:kdB f i.c
   ·rw [d6] at x2
    exact fin true _ (by simp -implicitDefEqProofs only [i0,i1,i2,i3,l4,ln4,c28,d1,d2,d3,d4,d5,x1,x2,AO,AF,Option.bind_some,AZ,AY,Ac,AX,AL,AH,AD,Ad,AQ,AE,AM,AC,if_true,if_false,Bool.false_eq_true,AJ,AP,AG,AR,AK,AU,Int.reduceEq,Int.reduceLT,Int.reduceLE,decide_true,decide_false,AB,AA,Ae,Bool.not_true,Bool.not_false,AW]) (by rw [spareB,if_pos cc,if_neg (by omega),if_pos ⟨d5,d6⟩])
   ·rw [d6] at x2
    refine Ok.eq (main (e fun h=>by rw [d6] at h;exact Bool.noConfusion h.2)) (by simp -implicitDefEqProofs only [i0,i1,i2,i3,l4,ln4,c28,d1,d2,d3,d4,d5,x1,x2,ixT,ldT,Nat.zero_add,AO,AF,Option.bind_some,AZ,AY,Ac,AX,AL,AH,AD,Ad,AQ,AE,AM,AC,if_true,if_false,Bool.false_eq_true,AJ,AP,AG,AR,AK,AU,Int.reduceEq,Int.reduceLT,Int.reduceLE,decide_true,decide_false,AB,AA,Ae,Bool.not_true,Bool.not_false,AW]<;>rfl)
  ·refine Ok.eq (main (e fun h=>d5 h.1)) (by simp -implicitDefEqProofs only [i0,i1,i2,i3,l4,ln4,c28,d1,d2,d3,d4,d5,ixT,ldT,Nat.zero_add,AO,AF,Option.bind_some,AZ,AY,Ac,AX,AL,AH,AD,Ad,AQ,AE,AM,AC,if_true,if_false,Bool.false_eq_true,AJ,AP,AG,AR,AK,AU,Int.reduceEq,Int.reduceLT,Int.reduceLE,decide_true,decide_false,AB,AA,Ae,Bool.not_true,Bool.not_false,AW]<;>rfl)
 by_cases c29:i.op=29
 ·have cc:(i.op=28∨i.op=29∨i.op=31∨i.op=32):=by omega
  have no:(i.a < 0∨64≤i.a∨i.c < 0∨64≤i.c)→spareB f T pc i=false:=fun h=>by rw [spareB,if_pos cc,if_pos h]
  by_cases d1:i.a < 0
  ·exact fin false _ (by simp -implicitDefEqProofs only [i0,i1,i2,i3,l4,ln4,c29,d1,AO,AF,Option.bind_some,AZ,AY,Ac,AX,AL,AH,AD,Ad,AQ,AE,AM,AC,if_true,if_false,Bool.false_eq_true,AJ,AP,AG,AR,AK,AU,Int.reduceEq,Int.reduceLT,Int.reduceLE,decide_true,decide_false,AB,AA,Ae,Bool.not_true,Bool.not_false,AW]) (no (by omega))
  by_cases d2:(64:Int)≤i.a
  ·exact fin false _ (by simp -implicitDefEqProofs only [i0,i1,i2,i3,l4,ln4,c29,d1,d2,AO,AF,Option.bind_some,AZ,AY,Ac,AX,AL,AH,AD,Ad,AQ,AE,AM,AC,if_true,if_false,Bool.false_eq_true,AJ,AP,AG,AR,AK,AU,Int.reduceEq,Int.reduceLT,Int.reduceLE,decide_true,decide_false,AB,AA,Ae,Bool.not_true,Bool.not_false,AW]) (no (by omega))
  by_cases d3:i.c < 0
  ·exact fin false _ (by simp -implicitDefEqProofs only [i0,i1,i2,i3,l4,ln4,c29,d1,d2,d3,AO,AF,Option.bind_some,AZ,AY,Ac,AX,AL,AH,AD,Ad,AQ,AE,AM,AC,if_true,if_false,Bool.false_eq_true,AJ,AP,AG,AR,AK,AU,Int.reduceEq,Int.reduceLT,Int.reduceLE,decide_true,decide_false,AB,AA,Ae,Bool.not_true,Bool.not_false,AW]) (no (by omega))
  by_cases d4:(64:Int)≤i.c
  ·exact fin false _ (by simp -implicitDefEqProofs only [i0,i1,i2,i3,l4,ln4,c29,d1,d2,d3,d4,AO,AF,Option.bind_some,AZ,AY,Ac,AX,AL,AH,AD,Ad,AQ,AE,AM,AC,if_true,if_false,Bool.false_eq_true,AJ,AP,AG,AR,AK,AU,Int.reduceEq,Int.reduceLT,Int.reduceLE,decide_true,decide_false,AB,AA,Ae,Bool.not_true,Bool.not_false,AW]) (no (by omega))
  have e : ¬ (i.c<f.kinds.length∧kdB f i.c=false)→spareB f T pc i=((getN l i.a).o && (getN l i.c).y && decide ((getN l i.a).w &&& bitB i.b=0#64)):=fun h=>by rw [spareB,if_pos cc,if_neg (by omega),if_neg h,hl];rw [if_pos (by omega)]
  have main:spareB f T pc i=((getN l i.a).o && (getN l i.c).y && decide ((getN l i.a).w &&& bitB i.b=0#64))→Ok (  (faP 1 (AV.ptr (some (g0.next,0)))).bind fun t75=>
 (ldS (hpN g 2) t75).bind fun t76=>
 cl (As v t76 (hpN g 2)) fun t77 h53=>
 (faP 3 (AV.ptr (some (g0.next,0)))).bind fun t79=>
 clC (rdC (fun g=>ldS g t79) h53 0 1 []) fun t80 cs=>
 cl (As v t80 h53) fun t81 h54=>
 cl (mkAt Heap.put (some (Blk.cells true [(AV.bool false),(AV.bool false),(AV.int .u64 0)],fun i=>AV.ptr (some (i,0)))) (g.next+0) h54) fun t10 h55=>
 cl (mkAt Heap.put (some (Blk.cells true [(AV.bool false),(AV.bool false),(AV.int .u64 0)],fun i=>AV.ptr (some (i,0)))) (g.next+1) h55) fun t11 h56=>
 cl (stP 3 h56 t10 t77) fun u_57 h58=>
 cl (stP 3 h58 t11 t81) fun u_59 h60=>
 chk [(hpN g 2),h53,h54,h58,h60] cs (
 condE (AV.bool true) (
 (faP 1 t10).bind fun t83=>
 (ldS h60 t83).bind fun t84=>
 (gV (gdW t84 true) (faP 0 t11) (.tup [])).bind fun t86=>
 (gV (gdW t84 true) (ldS h60 t86) (.tup [])).bind fun t87=>
 (pickP t84 t87 (AV.bool false)).bind fun t88=>
 (gV (gdW t88 true) (faP 2 t10) (.tup [])).bind fun t90=>
 clC (gV (gdW t88 true) (rdC (fun g=>ldS g t90) h60 0 1 []) (.tup [],[])) fun t91 cs_61=>
 (gV (gdW t88 true) (faP 2 (AV.ptr (some (g0.next,0)))) (.tup [])).bind fun t92=>
 (gV (gdW t88 true) (ldS h60 t92) (.tup [])).bind fun t93=>
 gQ (gdW t88 true) h60 (cl (Bt t93 h60) fun t94 h62=>
 some (t94,h62)) fun t94_63 h64=>
 (gV (gdW t88 true) (binP .and t91 t94_63) (.tup [])).bind fun t95=>
 (gV (gdW t88 true) (eqP (some (.int .u64)) none false .eql t95 (AV.int .u64 0)) (.tup [])).bind fun t96=>
 (pickP t88 t96 (AV.bool false)).bind fun t97=>
 chk [h60,h64] cs_61 (
 some (t97,h64))) (
 (faP 1 t10).bind fun t98=>
 (ldS h60 t98).bind fun t99=>
 gQ (gdW t99 true) h60 ((faP 0 t11).bind fun t101=>
 some (t101,h60)) fun t101_65 h66=>
 gQ (gdW t99 true) h66 ((ldS h66 t101_65).bind fun t102=>
 some (t102,h66)) fun t102_67 h68=>
 (pickP t99 t102_67 (AV.bool false)).bind fun t103=>
 gQ (gdW t103 true) h68 ((faP 2 t10).bind fun t105=>
 some (t105,h68)) fun t105_69 h70=>
 gQ (gdW t103 true) h70 ((ldS h70 t105_69).bind fun t106=>
 some (t106,h70)) fun t106_71 h72=>
 gQ (gdW t103 true) h72 ((eqP (some (.int .u64)) none false .eql t106_71 (AV.int .u64 0)).bind fun t107=>
 some (t107,h72)) fun t107_73 h74=>
 (pickP t103 t107_73 (AV.bool false)).bind fun t108=>
 some (t108,h74)))) fun r=>Same [] h r.2∧r.1 = .bool (spareB f T pc i):=fun e=>by
   refine Ok.eq (two (fun h60 => 
 condE (AV.bool true) (
 (faP 1 (AV.ptr (some (g.next,0)))).bind fun t83=>
 (ldS h60 t83).bind fun t84=>
 (gV (gdW t84 true) (faP 0 (AV.ptr (some (g.next+1,0)))) (.tup [])).bind fun t86=>
 (gV (gdW t84 true) (ldS h60 t86) (.tup [])).bind fun t87=>
 (pickP t84 t87 (AV.bool false)).bind fun t88=>
 (gV (gdW t88 true) (faP 2 (AV.ptr (some (g.next,0)))) (.tup [])).bind fun t90=>
 clC (gV (gdW t88 true) (rdC (fun g=>ldS g t90) h60 0 1 []) (.tup [],[])) fun t91 cs_61=>
 (gV (gdW t88 true) (faP 2 (AV.ptr (some (g0.next,0)))) (.tup [])).bind fun t92=>
 (gV (gdW t88 true) (ldS h60 t92) (.tup [])).bind fun t93=>
 gQ (gdW t88 true) h60 (cl (Bt t93 h60) fun t94 h62=>
 some (t94,h62)) fun t94_63 h64=>
 (gV (gdW t88 true) (binP .and t91 t94_63) (.tup [])).bind fun t95=>
 (gV (gdW t88 true) (eqP (some (.int .u64)) none false .eql t95 (AV.int .u64 0)) (.tup [])).bind fun t96=>
 (pickP t88 t96 (AV.bool false)).bind fun t97=>
 chk [h60,h64] cs_61 (
 some (t97,h64))) (
 (faP 1 (AV.ptr (some (g.next,0)))).bind fun t98=>
 (ldS h60 t98).bind fun t99=>
 gQ (gdW t99 true) h60 ((faP 0 (AV.ptr (some (g.next+1,0)))).bind fun t101=>
 some (t101,h60)) fun t101_65 h66=>
 gQ (gdW t99 true) h66 ((ldS h66 t101_65).bind fun t102=>
 some (t102,h66)) fun t102_67 h68=>
 (pickP t99 t102_67 (AV.bool false)).bind fun t103=>
 gQ (gdW t103 true) h68 ((faP 2 (AV.ptr (some (g.next,0)))).bind fun t105=>
 some (t105,h68)) fun t105_69 h70=>
 gQ (gdW t103 true) h70 ((ldS h70 t105_69).bind fun t106=>
 some (t106,h70)) fun t106_71 h72=>
 gQ (gdW t103 true) h72 ((eqP (some (.int .u64)) none false .eql t106_71 (AV.int .u64 0)).bind fun t107=>
 some (t107,h72)) fun t107_73 h74=>
 (pickP t103 t107_73 (AV.bool false)).bind fun t108=>
 some (t108,h74))) fun g5 u5 hn5 b5 b6=>?_) (by simp -implicitDefEqProofs only [Option.bind_some,AF,Nat.zero_add,p1]<;>rfl)
   have a0:ldS g5 (.ptr (some (g.next,1)))=some (.bool (getN l i.a).o):=by rw [Ai b5];rfl
   have a1:ldS g5 (.ptr (some (g.next,2)))=some (w64 (getN l i.a).w):=by rw [Ai b5];rfl
   have a2:ldS g5 (.ptr (some (g.next+1,0)))=some (.bool (getN l i.c).y):=by rw [Ai b6];rfl
   have j2:=ild g5 u5 2 _ rfl
   have fin5:∀ (b:Bool) (x:Option (AV × Heap)),x=some (.bool b,g5)→spareB f T pc i=b→Ok x fun r=>Same [] h r.2∧r.1 = .bool (spareB f T pc i):=fun b x hx hb=>by rw [hx,hb];exact Ok.of (r:=(AV.bool b,g5)) ⟨s.trans u5,rfl⟩
   cases d7:(getN l i.a).o
   ·rw [d7] at a0
    exact fin5 false _ (by simp -implicitDefEqProofs only [a0,a1,a2,j2,d7,Nat.zero_add,AO,AF,Option.bind_some,AZ,AY,Ac,AX,AL,AH,AD,Ad,AQ,AE,AM,AC,if_true,if_false,Bool.false_eq_true,AJ,AP,AG,AR,AK,AU,Int.reduceEq,Int.reduceLT,Int.reduceLE,decide_true,decide_false,AB,AA,Ae,Bool.not_true,Bool.not_false,AW]) (by rw [e,d7];rfl)
   rw [d7] at a0
   cases d8:(getN l i.c).y
   ·rw [d8] at a2
    exact fin5 false _ (by simp -implicitDefEqProofs only [a0,a1,a2,j2,d7,Nat.zero_add,AO,AF,Option.bind_some,AZ,AY,Ac,AX,AL,AH,AD,Ad,AQ,AE,AM,AC,if_true,if_false,Bool.false_eq_true,AJ,AP,AG,AR,AK,AU,Int.reduceEq,Int.reduceLT,Int.reduceLE,decide_true,decide_false,AB,AA,Ae,Bool.not_true,Bool.not_false,AW]) (by rw [e,d7,d8];rfl)
   rw [d8] at a2
   refine fin5 (decide ((getN l i.a).w &&& bitB i.b=0#64)) _ ?_ (by rw [e,d7,d8];rfl)
   simp -implicitDefEqProofs only [a0,a1,a2,j2,d7,Nat.zero_add,NL,Q3,Px,Bp (f:=fun k=>ldS k (.ptr (some (g.next,2)))) (h:=g5) a1,AO,AF,Option.bind_some,AZ,AY,Ac,AX,AL,AH,AD,Ad,AQ,AE,AM,AC,if_true,if_false,Bool.false_eq_true,AJ,AP,AG,AR,AK,AU,Int.reduceEq,Int.reduceLT,Int.reduceLE,decide_true,decide_false,AB,AA,Ae,Bool.not_true,Bool.not_false,AW]
   rw [Cq (by simp [same,sameS,w64]) (by simp only [List.mem_cons,List.not_mem_nil,or_false,forall_eq_or_imp,forall_eq];exact⟨a1,a1⟩) (by simp),AW]
  by_cases d5:i.c<f.kinds.length
  ·obtain⟨bk,ok,x1,x2⟩:=kdE (by omega) d5
   cases d6:kdB f i.c
   ·rw [d6] at x2
    exact fin true _ (by simp -implicitDefEqProofs only [i0,i1,i2,i3,l4,ln4,c29,d1,d2,d3,d4,d5,x1,x2,AO,AF,Option.bind_some,AZ,AY,Ac,AX,AL,AH,AD,Ad,AQ,AE,AM,AC,if_true,if_false,Bool.false_eq_true,AJ,AP,AG,AR,AK,AU,Int.reduceEq,Int.reduceLT,Int.reduceLE,decide_true,decide_false,AB,AA,Ae,Bool.not_true,Bool.not_false,AW]) (by rw [spareB,if_pos cc,if_neg (by omega),if_pos ⟨d5,d6⟩])
   ·rw [d6] at x2
    refine Ok.eq (main (e fun h=>by rw [d6] at h;exact Bool.noConfusion h.2)) (by simp -implicitDefEqProofs only [i0,i1,i2,i3,l4,ln4,c29,d1,d2,d3,d4,d5,x1,x2,ixT,ldT,Nat.zero_add,AO,AF,Option.bind_some,AZ,AY,Ac,AX,AL,AH,AD,Ad,AQ,AE,AM,AC,if_true,if_false,Bool.false_eq_true,AJ,AP,AG,AR,AK,AU,Int.reduceEq,Int.reduceLT,Int.reduceLE,decide_true,decide_false,AB,AA,Ae,Bool.not_true,Bool.not_false,AW]<;>rfl)
  ·refine Ok.eq (main (e fun h=>d5 h.1)) (by simp -implicitDefEqProofs only [i0,i1,i2,i3,l4,ln4,c29,d1,d2,d3,d4,d5,ixT,ldT,Nat.zero_add,AO,AF,Option.bind_some,AZ,AY,Ac,AX,AL,AH,AD,Ad,AQ,AE,AM,AC,if_true,if_false,Bool.false_eq_true,AJ,AP,AG,AR,AK,AU,Int.reduceEq,Int.reduceLT,Int.reduceLE,decide_true,decide_false,AB,AA,Ae,Bool.not_true,Bool.not_false,AW]<;>rfl)
 by_cases c31:i.op=31
 ·have cc:(i.op=28∨i.op=29∨i.op=31∨i.op=32):=by omega
  have no:(i.a < 0∨64≤i.a∨i.c < 0∨64≤i.c)→spareB f T pc i=false:=fun h=>by rw [spareB,if_pos cc,if_pos h]
  by_cases d1:i.a < 0
  ·exact fin false _ (by simp -implicitDefEqProofs only [i0,i1,i2,i3,l4,ln4,c31,d1,AO,AF,Option.bind_some,AZ,AY,Ac,AX,AL,AH,AD,Ad,AQ,AE,AM,AC,if_true,if_false,Bool.false_eq_true,AJ,AP,AG,AR,AK,AU,Int.reduceEq,Int.reduceLT,Int.reduceLE,decide_true,decide_false,AB,AA,Ae,Bool.not_true,Bool.not_false,AW]) (no (by omega))
  by_cases d2:(64:Int)≤i.a
  ·exact fin false _ (by simp -implicitDefEqProofs only [i0,i1,i2,i3,l4,ln4,c31,d1,d2,AO,AF,Option.bind_some,AZ,AY,Ac,AX,AL,AH,AD,Ad,AQ,AE,AM,AC,if_true,if_false,Bool.false_eq_true,AJ,AP,AG,AR,AK,AU,Int.reduceEq,Int.reduceLT,Int.reduceLE,decide_true,decide_false,AB,AA,Ae,Bool.not_true,Bool.not_false,AW]) (no (by omega))
  by_cases d3:i.c < 0
  ·exact fin false _ (by simp -implicitDefEqProofs only [i0,i1,i2,i3,l4,ln4,c31,d1,d2,d3,AO,AF,Option.bind_some,AZ,AY,Ac,AX,AL,AH,AD,Ad,AQ,AE,AM,AC,if_true,if_false,Bool.false_eq_true,AJ,AP,AG,AR,AK,AU,Int.reduceEq,Int.reduceLT,Int.reduceLE,decide_true,decide_false,AB,AA,Ae,Bool.not_true,Bool.not_false,AW]) (no (by omega))
  by_cases d4:(64:Int)≤i.c
  ·exact fin false _ (by simp -implicitDefEqProofs only [i0,i1,i2,i3,l4,ln4,c31,d1,d2,d3,d4,AO,AF,Option.bind_some,AZ,AY,Ac,AX,AL,AH,AD,Ad,AQ,AE,AM,AC,if_true,if_false,Bool.false_eq_true,AJ,AP,AG,AR,AK,AU,Int.reduceEq,Int.reduceLT,Int.reduceLE,decide_true,decide_false,AB,AA,Ae,Bool.not_true,Bool.not_false,AW]) (no (by omega))
  have e : ¬ (i.c<f.kinds.length∧kdB f i.c=false)→spareB f T pc i=((getN l i.a).o && (getN l i.c).y && decide ((getN l i.a).w=0#64)):=fun h=>by rw [spareB,if_pos cc,if_neg (by omega),if_neg h,hl];rw [if_neg (by omega)]
  have main:spareB f T pc i=((getN l i.a).o && (getN l i.c).y && decide ((getN l i.a).w=0#64))→Ok (  (faP 1 (AV.ptr (some (g0.next,0)))).bind fun t75=>
 (ldS (hpN g 2) t75).bind fun t76=>
 cl (As v t76 (hpN g 2)) fun t77 h53=>
 (faP 3 (AV.ptr (some (g0.next,0)))).bind fun t79=>
 clC (rdC (fun g=>ldS g t79) h53 0 1 []) fun t80 cs=>
 cl (As v t80 h53) fun t81 h54=>
 cl (mkAt Heap.put (some (Blk.cells true [(AV.bool false),(AV.bool false),(AV.int .u64 0)],fun i=>AV.ptr (some (i,0)))) (g.next+0) h54) fun t10 h55=>
 cl (mkAt Heap.put (some (Blk.cells true [(AV.bool false),(AV.bool false),(AV.int .u64 0)],fun i=>AV.ptr (some (i,0)))) (g.next+1) h55) fun t11 h56=>
 cl (stP 3 h56 t10 t77) fun u_57 h58=>
 cl (stP 3 h58 t11 t81) fun u_59 h60=>
 chk [(hpN g 2),h53,h54,h58,h60] cs (
 condE (AV.bool false) (
 (faP 1 t10).bind fun t83=>
 (ldS h60 t83).bind fun t84=>
 (gV (gdW t84 true) (faP 0 t11) (.tup [])).bind fun t86=>
 (gV (gdW t84 true) (ldS h60 t86) (.tup [])).bind fun t87=>
 (pickP t84 t87 (AV.bool false)).bind fun t88=>
 (gV (gdW t88 true) (faP 2 t10) (.tup [])).bind fun t90=>
 clC (gV (gdW t88 true) (rdC (fun g=>ldS g t90) h60 0 1 []) (.tup [],[])) fun t91 cs_61=>
 (gV (gdW t88 true) (faP 2 (AV.ptr (some (g0.next,0)))) (.tup [])).bind fun t92=>
 (gV (gdW t88 true) (ldS h60 t92) (.tup [])).bind fun t93=>
 gQ (gdW t88 true) h60 (cl (Bt t93 h60) fun t94 h62=>
 some (t94,h62)) fun t94_63 h64=>
 (gV (gdW t88 true) (binP .and t91 t94_63) (.tup [])).bind fun t95=>
 (gV (gdW t88 true) (eqP (some (.int .u64)) none false .eql t95 (AV.int .u64 0)) (.tup [])).bind fun t96=>
 (pickP t88 t96 (AV.bool false)).bind fun t97=>
 chk [h60,h64] cs_61 (
 some (t97,h64))) (
 (faP 1 t10).bind fun t98=>
 (ldS h60 t98).bind fun t99=>
 gQ (gdW t99 true) h60 ((faP 0 t11).bind fun t101=>
 some (t101,h60)) fun t101_65 h66=>
 gQ (gdW t99 true) h66 ((ldS h66 t101_65).bind fun t102=>
 some (t102,h66)) fun t102_67 h68=>
 (pickP t99 t102_67 (AV.bool false)).bind fun t103=>
 gQ (gdW t103 true) h68 ((faP 2 t10).bind fun t105=>
 some (t105,h68)) fun t105_69 h70=>
 gQ (gdW t103 true) h70 ((ldS h70 t105_69).bind fun t106=>
 some (t106,h70)) fun t106_71 h72=>
 gQ (gdW t103 true) h72 ((eqP (some (.int .u64)) none false .eql t106_71 (AV.int .u64 0)).bind fun t107=>
 some (t107,h72)) fun t107_73 h74=>
 (pickP t103 t107_73 (AV.bool false)).bind fun t108=>
 some (t108,h74)))) fun r=>Same [] h r.2∧r.1 = .bool (spareB f T pc i):=fun e=>by
   refine Ok.eq (two (fun h60 => 
 condE (AV.bool false) (
 (faP 1 (AV.ptr (some (g.next,0)))).bind fun t83=>
 (ldS h60 t83).bind fun t84=>
 (gV (gdW t84 true) (faP 0 (AV.ptr (some (g.next+1,0)))) (.tup [])).bind fun t86=>
 (gV (gdW t84 true) (ldS h60 t86) (.tup [])).bind fun t87=>
 (pickP t84 t87 (AV.bool false)).bind fun t88=>
 (gV (gdW t88 true) (faP 2 (AV.ptr (some (g.next,0)))) (.tup [])).bind fun t90=>
 clC (gV (gdW t88 true) (rdC (fun g=>ldS g t90) h60 0 1 []) (.tup [],[])) fun t91 cs_61=>
 (gV (gdW t88 true) (faP 2 (AV.ptr (some (g0.next,0)))) (.tup [])).bind fun t92=>
 (gV (gdW t88 true) (ldS h60 t92) (.tup [])).bind fun t93=>
 gQ (gdW t88 true) h60 (cl (Bt t93 h60) fun t94 h62=>
 some (t94,h62)) fun t94_63 h64=>
 (gV (gdW t88 true) (binP .and t91 t94_63) (.tup [])).bind fun t95=>
 (gV (gdW t88 true) (eqP (some (.int .u64)) none false .eql t95 (AV.int .u64 0)) (.tup [])).bind fun t96=>
 (pickP t88 t96 (AV.bool false)).bind fun t97=>
 chk [h60,h64] cs_61 (
 some (t97,h64))) (
 (faP 1 (AV.ptr (some (g.next,0)))).bind fun t98=>
 (ldS h60 t98).bind fun t99=>
 gQ (gdW t99 true) h60 ((faP 0 (AV.ptr (some (g.next+1,0)))).bind fun t101=>
 some (t101,h60)) fun t101_65 h66=>
 gQ (gdW t99 true) h66 ((ldS h66 t101_65).bind fun t102=>
 some (t102,h66)) fun t102_67 h68=>
 (pickP t99 t102_67 (AV.bool false)).bind fun t103=>
 gQ (gdW t103 true) h68 ((faP 2 (AV.ptr (some (g.next,0)))).bind fun t105=>
 some (t105,h68)) fun t105_69 h70=>
 gQ (gdW t103 true) h70 ((ldS h70 t105_69).bind fun t106=>
 some (t106,h70)) fun t106_71 h72=>
 gQ (gdW t103 true) h72 ((eqP (some (.int .u64)) none false .eql t106_71 (AV.int .u64 0)).bind fun t107=>
 some (t107,h72)) fun t107_73 h74=>
 (pickP t103 t107_73 (AV.bool false)).bind fun t108=>
 some (t108,h74))) fun g5 u5 hn5 b5 b6=>?_) (by simp -implicitDefEqProofs only [Option.bind_some,AF,Nat.zero_add,p1]<;>rfl)
   have a0:ldS g5 (.ptr (some (g.next,1)))=some (.bool (getN l i.a).o):=by rw [Ai b5];rfl
   have a1:ldS g5 (.ptr (some (g.next,2)))=some (w64 (getN l i.a).w):=by rw [Ai b5];rfl
   have a2:ldS g5 (.ptr (some (g.next+1,0)))=some (.bool (getN l i.c).y):=by rw [Ai b6];rfl
   have j2:=ild g5 u5 2 _ rfl
   have fin5:∀ (b:Bool) (x:Option (AV × Heap)),x=some (.bool b,g5)→spareB f T pc i=b→Ok x fun r=>Same [] h r.2∧r.1 = .bool (spareB f T pc i):=fun b x hx hb=>by rw [hx,hb];exact Ok.of (r:=(AV.bool b,g5)) ⟨s.trans u5,rfl⟩
   cases d7:(getN l i.a).o
   ·rw [d7] at a0
    exact fin5 false _ (by simp -implicitDefEqProofs only [a0,a1,a2,j2,d7,Nat.zero_add,AO,AF,Option.bind_some,AZ,AY,Ac,AX,AL,AH,AD,Ad,AQ,AE,AM,AC,if_true,if_false,Bool.false_eq_true,AJ,AP,AG,AR,AK,AU,Int.reduceEq,Int.reduceLT,Int.reduceLE,decide_true,decide_false,AB,AA,Ae,Bool.not_true,Bool.not_false,AW]) (by rw [e,d7];rfl)
   rw [d7] at a0
   cases d8:(getN l i.c).y
   ·rw [d8] at a2
    exact fin5 false _ (by simp -implicitDefEqProofs only [a0,a1,a2,j2,d7,Nat.zero_add,AO,AF,Option.bind_some,AZ,AY,Ac,AX,AL,AH,AD,Ad,AQ,AE,AM,AC,if_true,if_false,Bool.false_eq_true,AJ,AP,AG,AR,AK,AU,Int.reduceEq,Int.reduceLT,Int.reduceLE,decide_true,decide_false,AB,AA,Ae,Bool.not_true,Bool.not_false,AW]) (by rw [e,d7,d8];rfl)
   rw [d8] at a2
   refine fin5 (decide ((getN l i.a).w=0#64)) _ ?_ (by rw [e,d7,d8];rfl)
   simp -implicitDefEqProofs only [a0,a1,a2,j2,d7,Nat.zero_add,Px,AO,AF,Option.bind_some,AZ,AY,Ac,AX,AL,AH,AD,Ad,AQ,AE,AM,AC,if_true,if_false,Bool.false_eq_true,AJ,AP,AG,AR,AK,AU,Int.reduceEq,Int.reduceLT,Int.reduceLE,decide_true,decide_false,AB,AA,Ae,Bool.not_true,Bool.not_false,AW]
  by_cases d5:i.c<f.kinds.length
  ·obtain⟨bk,ok,x1,x2⟩:=kdE (by omega) d5
   cases d6:kdB f i.c
   ·rw [d6] at x2
    exact fin true _ (by simp -implicitDefEqProofs only [i0,i1,i2,i3,l4,ln4,c31,d1,d2,d3,d4,d5,x1,x2,AO,AF,Option.bind_some,AZ,AY,Ac,AX,AL,AH,AD,Ad,AQ,AE,AM,AC,if_true,if_false,Bool.false_eq_true,AJ,AP,AG,AR,AK,AU,Int.reduceEq,Int.reduceLT,Int.reduceLE,decide_true,decide_false,AB,AA,Ae,Bool.not_true,Bool.not_false,AW]) (by rw [spareB,if_pos cc,if_neg (by omega),if_pos ⟨d5,d6⟩])
   ·rw [d6] at x2
    refine Ok.eq (main (e fun h=>by rw [d6] at h;exact Bool.noConfusion h.2)) (by simp -implicitDefEqProofs only [i0,i1,i2,i3,l4,ln4,c31,d1,d2,d3,d4,d5,x1,x2,ixT,ldT,Nat.zero_add,AO,AF,Option.bind_some,AZ,AY,Ac,AX,AL,AH,AD,Ad,AQ,AE,AM,AC,if_true,if_false,Bool.false_eq_true,AJ,AP,AG,AR,AK,AU,Int.reduceEq,Int.reduceLT,Int.reduceLE,decide_true,decide_false,AB,AA,Ae,Bool.not_true,Bool.not_false,AW]<;>rfl)
  ·refine Ok.eq (main (e fun h=>d5 h.1)) (by simp -implicitDefEqProofs only [i0,i1,i2,i3,l4,ln4,c31,d1,d2,d3,d4,d5,ixT,ldT,Nat.zero_add,AO,AF,Option.bind_some,AZ,AY,Ac,AX,AL,AH,AD,Ad,AQ,AE,AM,AC,if_true,if_false,Bool.false_eq_true,AJ,AP,AG,AR,AK,AU,Int.reduceEq,Int.reduceLT,Int.reduceLE,decide_true,decide_false,AB,AA,Ae,Bool.not_true,Bool.not_false,AW]<;>rfl)
 by_cases c32:i.op=32
 ·have cc:(i.op=28∨i.op=29∨i.op=31∨i.op=32):=by omega
  have no:(i.a < 0∨64≤i.a∨i.c < 0∨64≤i.c)→spareB f T pc i=false:=fun h=>by rw [spareB,if_pos cc,if_pos h]
  by_cases d1:i.a < 0
  ·exact fin false _ (by simp -implicitDefEqProofs only [i0,i1,i2,i3,l4,ln4,c32,d1,AO,AF,Option.bind_some,AZ,AY,Ac,AX,AL,AH,AD,Ad,AQ,AE,AM,AC,if_true,if_false,Bool.false_eq_true,AJ,AP,AG,AR,AK,AU,Int.reduceEq,Int.reduceLT,Int.reduceLE,decide_true,decide_false,AB,AA,Ae,Bool.not_true,Bool.not_false,AW]) (no (by omega))
  by_cases d2:(64:Int)≤i.a
  ·exact fin false _ (by simp -implicitDefEqProofs only [i0,i1,i2,i3,l4,ln4,c32,d1,d2,AO,AF,Option.bind_some,AZ,AY,Ac,AX,AL,AH,AD,Ad,AQ,AE,AM,AC,if_true,if_false,Bool.false_eq_true,AJ,AP,AG,AR,AK,AU,Int.reduceEq,Int.reduceLT,Int.reduceLE,decide_true,decide_false,AB,AA,Ae,Bool.not_true,Bool.not_false,AW]) (no (by omega))
  by_cases d3:i.c < 0
  ·exact fin false _ (by simp -implicitDefEqProofs only [i0,i1,i2,i3,l4,ln4,c32,d1,d2,d3,AO,AF,Option.bind_some,AZ,AY,Ac,AX,AL,AH,AD,Ad,AQ,AE,AM,AC,if_true,if_false,Bool.false_eq_true,AJ,AP,AG,AR,AK,AU,Int.reduceEq,Int.reduceLT,Int.reduceLE,decide_true,decide_false,AB,AA,Ae,Bool.not_true,Bool.not_false,AW]) (no (by omega))
  by_cases d4:(64:Int)≤i.c
  ·exact fin false _ (by simp -implicitDefEqProofs only [i0,i1,i2,i3,l4,ln4,c32,d1,d2,d3,d4,AO,AF,Option.bind_some,AZ,AY,Ac,AX,AL,AH,AD,Ad,AQ,AE,AM,AC,if_true,if_false,Bool.false_eq_true,AJ,AP,AG,AR,AK,AU,Int.reduceEq,Int.reduceLT,Int.reduceLE,decide_true,decide_false,AB,AA,Ae,Bool.not_true,Bool.not_false,AW]) (no (by omega))
  have e : ¬ (i.c<f.kinds.length∧kdB f i.c=false)→spareB f T pc i=((getN l i.a).o && (getN l i.c).y && decide ((getN l i.a).w=0#64)):=fun h=>by rw [spareB,if_pos cc,if_neg (by omega),if_neg h,hl];rw [if_neg (by omega)]
  have main:spareB f T pc i=((getN l i.a).o && (getN l i.c).y && decide ((getN l i.a).w=0#64))→Ok (  (faP 1 (AV.ptr (some (g0.next,0)))).bind fun t75=>
 (ldS (hpN g 2) t75).bind fun t76=>
 cl (As v t76 (hpN g 2)) fun t77 h53=>
 (faP 3 (AV.ptr (some (g0.next,0)))).bind fun t79=>
 clC (rdC (fun g=>ldS g t79) h53 0 1 []) fun t80 cs=>
 cl (As v t80 h53) fun t81 h54=>
 cl (mkAt Heap.put (some (Blk.cells true [(AV.bool false),(AV.bool false),(AV.int .u64 0)],fun i=>AV.ptr (some (i,0)))) (g.next+0) h54) fun t10 h55=>
 cl (mkAt Heap.put (some (Blk.cells true [(AV.bool false),(AV.bool false),(AV.int .u64 0)],fun i=>AV.ptr (some (i,0)))) (g.next+1) h55) fun t11 h56=>
 cl (stP 3 h56 t10 t77) fun u_57 h58=>
 cl (stP 3 h58 t11 t81) fun u_59 h60=>
 chk [(hpN g 2),h53,h54,h58,h60] cs (
 condE (AV.bool false) (
 (faP 1 t10).bind fun t83=>
 (ldS h60 t83).bind fun t84=>
 (gV (gdW t84 true) (faP 0 t11) (.tup [])).bind fun t86=>
 (gV (gdW t84 true) (ldS h60 t86) (.tup [])).bind fun t87=>
 (pickP t84 t87 (AV.bool false)).bind fun t88=>
 (gV (gdW t88 true) (faP 2 t10) (.tup [])).bind fun t90=>
 clC (gV (gdW t88 true) (rdC (fun g=>ldS g t90) h60 0 1 []) (.tup [],[])) fun t91 cs_61=>
 (gV (gdW t88 true) (faP 2 (AV.ptr (some (g0.next,0)))) (.tup [])).bind fun t92=>
 (gV (gdW t88 true) (ldS h60 t92) (.tup [])).bind fun t93=>
 gQ (gdW t88 true) h60 (cl (Bt t93 h60) fun t94 h62=>
 some (t94,h62)) fun t94_63 h64=>
 (gV (gdW t88 true) (binP .and t91 t94_63) (.tup [])).bind fun t95=>
 (gV (gdW t88 true) (eqP (some (.int .u64)) none false .eql t95 (AV.int .u64 0)) (.tup [])).bind fun t96=>
 (pickP t88 t96 (AV.bool false)).bind fun t97=>
 chk [h60,h64] cs_61 (
 some (t97,h64))) (
 (faP 1 t10).bind fun t98=>
 (ldS h60 t98).bind fun t99=>
 gQ (gdW t99 true) h60 ((faP 0 t11).bind fun t101=>
 some (t101,h60)) fun t101_65 h66=>
 gQ (gdW t99 true) h66 ((ldS h66 t101_65).bind fun t102=>
 some (t102,h66)) fun t102_67 h68=>
 (pickP t99 t102_67 (AV.bool false)).bind fun t103=>
 gQ (gdW t103 true) h68 ((faP 2 t10).bind fun t105=>
 some (t105,h68)) fun t105_69 h70=>
 gQ (gdW t103 true) h70 ((ldS h70 t105_69).bind fun t106=>
 some (t106,h70)) fun t106_71 h72=>
 gQ (gdW t103 true) h72 ((eqP (some (.int .u64)) none false .eql t106_71 (AV.int .u64 0)).bind fun t107=>
 some (t107,h72)) fun t107_73 h74=>
 (pickP t103 t107_73 (AV.bool false)).bind fun t108=>
 some (t108,h74)))) fun r=>Same [] h r.2∧r.1 = .bool (spareB f T pc i):=fun e=>by
   refine Ok.eq (two (fun h60 => 
 condE (AV.bool false) (
 (faP 1 (AV.ptr (some (g.next,0)))).bind fun t83=>
 (ldS h60 t83).bind fun t84=>
 (gV (gdW t84 true) (faP 0 (AV.ptr (some (g.next+1,0)))) (.tup [])).bind fun t86=>
 (gV (gdW t84 true) (ldS h60 t86) (.tup [])).bind fun t87=>
 (pickP t84 t87 (AV.bool false)).bind fun t88=>
 (gV (gdW t88 true) (faP 2 (AV.ptr (some (g.next,0)))) (.tup [])).bind fun t90=>
 clC (gV (gdW t88 true) (rdC (fun g=>ldS g t90) h60 0 1 []) (.tup [],[])) fun t91 cs_61=>
 (gV (gdW t88 true) (faP 2 (AV.ptr (some (g0.next,0)))) (.tup [])).bind fun t92=>
 (gV (gdW t88 true) (ldS h60 t92) (.tup [])).bind fun t93=>
 gQ (gdW t88 true) h60 (cl (Bt t93 h60) fun t94 h62=>
 some (t94,h62)) fun t94_63 h64=>
 (gV (gdW t88 true) (binP .and t91 t94_63) (.tup [])).bind fun t95=>
 (gV (gdW t88 true) (eqP (some (.int .u64)) none false .eql t95 (AV.int .u64 0)) (.tup [])).bind fun t96=>
 (pickP t88 t96 (AV.bool false)).bind fun t97=>
 chk [h60,h64] cs_61 (
 some (t97,h64))) (
 (faP 1 (AV.ptr (some (g.next,0)))).bind fun t98=>
 (ldS h60 t98).bind fun t99=>
 gQ (gdW t99 true) h60 ((faP 0 (AV.ptr (some (g.next+1,0)))).bind fun t101=>
 some (t101,h60)) fun t101_65 h66=>
 gQ (gdW t99 true) h66 ((ldS h66 t101_65).bind fun t102=>
 some (t102,h66)) fun t102_67 h68=>
 (pickP t99 t102_67 (AV.bool false)).bind fun t103=>
 gQ (gdW t103 true) h68 ((faP 2 (AV.ptr (some (g.next,0)))).bind fun t105=>
 some (t105,h68)) fun t105_69 h70=>
 gQ (gdW t103 true) h70 ((ldS h70 t105_69).bind fun t106=>
 some (t106,h70)) fun t106_71 h72=>
 gQ (gdW t103 true) h72 ((eqP (some (.int .u64)) none false .eql t106_71 (AV.int .u64 0)).bind fun t107=>
 some (t107,h72)) fun t107_73 h74=>
 (pickP t103 t107_73 (AV.bool false)).bind fun t108=>
 some (t108,h74))) fun g5 u5 hn5 b5 b6=>?_) (by simp -implicitDefEqProofs only [Option.bind_some,AF,Nat.zero_add,p1]<;>rfl)
   have a0:ldS g5 (.ptr (some (g.next,1)))=some (.bool (getN l i.a).o):=by rw [Ai b5];rfl
   have a1:ldS g5 (.ptr (some (g.next,2)))=some (w64 (getN l i.a).w):=by rw [Ai b5];rfl
   have a2:ldS g5 (.ptr (some (g.next+1,0)))=some (.bool (getN l i.c).y):=by rw [Ai b6];rfl
   have j2:=ild g5 u5 2 _ rfl
   have fin5:∀ (b:Bool) (x:Option (AV × Heap)),x=some (.bool b,g5)→spareB f T pc i=b→Ok x fun r=>Same [] h r.2∧r.1 = .bool (spareB f T pc i):=fun b x hx hb=>by rw [hx,hb];exact Ok.of (r:=(AV.bool b,g5)) ⟨s.trans u5,rfl⟩
   cases d7:(getN l i.a).o
   ·rw [d7] at a0
    exact fin5 false _ (by simp -implicitDefEqProofs only [a0,a1,a2,j2,d7,Nat.zero_add,AO,AF,Option.bind_some,AZ,AY,Ac,AX,AL,AH,AD,Ad,AQ,AE,AM,AC,if_true,if_false,Bool.false_eq_true,AJ,AP,AG,AR,AK,AU,Int.reduceEq,Int.reduceLT,Int.reduceLE,decide_true,decide_false,AB,AA,Ae,Bool.not_true,Bool.not_false,AW]) (by rw [e,d7];rfl)
   rw [d7] at a0
   cases d8:(getN l i.c).y
   ·rw [d8] at a2
    exact fin5 false _ (by simp -implicitDefEqProofs only [a0,a1,a2,j2,d7,Nat.zero_add,AO,AF,Option.bind_some,AZ,AY,Ac,AX,AL,AH,AD,Ad,AQ,AE,AM,AC,if_true,if_false,Bool.false_eq_true,AJ,AP,AG,AR,AK,AU,Int.reduceEq,Int.reduceLT,Int.reduceLE,decide_true,decide_false,AB,AA,Ae,Bool.not_true,Bool.not_false,AW]) (by rw [e,d7,d8];rfl)
   rw [d8] at a2
   refine fin5 (decide ((getN l i.a).w=0#64)) _ ?_ (by rw [e,d7,d8];rfl)
   simp -implicitDefEqProofs only [a0,a1,a2,j2,d7,Nat.zero_add,Px,AO,AF,Option.bind_some,AZ,AY,Ac,AX,AL,AH,AD,Ad,AQ,AE,AM,AC,if_true,if_false,Bool.false_eq_true,AJ,AP,AG,AR,AK,AU,Int.reduceEq,Int.reduceLT,Int.reduceLE,decide_true,decide_false,AB,AA,Ae,Bool.not_true,Bool.not_false,AW]
  by_cases d5:i.c<f.kinds.length
  ·obtain⟨bk,ok,x1,x2⟩:=kdE (by omega) d5
   cases d6:kdB f i.c
   ·rw [d6] at x2
    exact fin true _ (by simp -implicitDefEqProofs only [i0,i1,i2,i3,l4,ln4,c32,d1,d2,d3,d4,d5,x1,x2,AO,AF,Option.bind_some,AZ,AY,Ac,AX,AL,AH,AD,Ad,AQ,AE,AM,AC,if_true,if_false,Bool.false_eq_true,AJ,AP,AG,AR,AK,AU,Int.reduceEq,Int.reduceLT,Int.reduceLE,decide_true,decide_false,AB,AA,Ae,Bool.not_true,Bool.not_false,AW]) (by rw [spareB,if_pos cc,if_neg (by omega),if_pos ⟨d5,d6⟩])
   ·rw [d6] at x2
    refine Ok.eq (main (e fun h=>by rw [d6] at h;exact Bool.noConfusion h.2)) (by simp -implicitDefEqProofs only [i0,i1,i2,i3,l4,ln4,c32,d1,d2,d3,d4,d5,x1,x2,ixT,ldT,Nat.zero_add,AO,AF,Option.bind_some,AZ,AY,Ac,AX,AL,AH,AD,Ad,AQ,AE,AM,AC,if_true,if_false,Bool.false_eq_true,AJ,AP,AG,AR,AK,AU,Int.reduceEq,Int.reduceLT,Int.reduceLE,decide_true,decide_false,AB,AA,Ae,Bool.not_true,Bool.not_false,AW]<;>rfl)
  ·refine Ok.eq (main (e fun h=>d5 h.1)) (by simp -implicitDefEqProofs only [i0,i1,i2,i3,l4,ln4,c32,d1,d2,d3,d4,d5,ixT,ldT,Nat.zero_add,AO,AF,Option.bind_some,AZ,AY,Ac,AX,AL,AH,AD,Ad,AQ,AE,AM,AC,if_true,if_false,Bool.false_eq_true,AJ,AP,AG,AR,AK,AU,Int.reduceEq,Int.reduceLT,Int.reduceLE,decide_true,decide_false,AB,AA,Ae,Bool.not_true,Bool.not_false,AW]<;>rfl)
 exact fin false _ (by simp -implicitDefEqProofs only [i0,i1,i2,i3,l4,ln4,c28,c29,c31,c32,AO,AF,Option.bind_some,AZ,AY,Ac,AX,AL,AH,AD,Ad,AQ,AE,AM,AC,if_true,if_false,Bool.false_eq_true,AJ,AP,AG,AR,AK,AU,Int.reduceEq,Int.reduceLT,Int.reduceLE,decide_true,decide_false,AB,AA,Ae,Bool.not_true,Bool.not_false,AW]) (by rw [spareB,if_neg (by omega)])
set_option linter.all false
attribute [local congr] BI D1 Dy D2 Bu D3 Dz Aw Av
def YOk (g:Heap)(yv:AV)(m:Md)(f:Fn)(p nb:Nat):Prop:=yv = .sl none 0 (.ex 0)∨∃ lo,p<lo∧nb<lo∧StsRd g yv (fsetsT m f) lo∧(fsetsT m f).length=f.code.length
theorem YOk.mono {g g':Heap}{yv:AV}{m:Md}{f:Fn}{p nb:Nat}{S:List Nat}(H:YOk g yv m f p nb)(s:Same S g g')(hS:∀ j∈S,j=p∨j=nb):YOk g' yv m f p nb:=by
 rcases H with h | ⟨lo,h1,h2,h3,h4⟩
 ·exact .inl h
 ·exact .inr ⟨lo,h1,h2,h3.mono s (fun j hj=>by rcases hS j hj with rfl | rfl<;>assumption),h4⟩
structure ChkS (g0 g:Heap)(p nb:Nat)(m:Md)(f:Fn)(pc:Nat)(i:Ins)(c:Cv)(nm:List Bool)(xs:List (BitVec 64)):Prop where
 at_:g.get p=some (.cells true (c.row m f (pc:Int) i))
 plt:p<g.next
 md:MdRd g0 (.agg [c.sv,c.gv,c.kv,c.cv,c.fv,.int .i64 m.main]) m
 fn:FnRd g0 [.int .i64 f.pa,.int .i64 f.ca,.int .i64 f.sl,.int .i64 f.re,c.ks,c.co,c.mv] f
 s:Same [] g0 g
 hp:g0.next≤p
 hn:g0.next≤nb
 sm:SmV m
 fs:∀ (n:Nat) f',m.funcs[n]?=some f'→Whole f'
 wh:Whole f
 hi:f.code[pc]?=some i
 f200:f.code.length≤4096
 nblk:g.get nb=some (.cells true (nm.map AV.bool))
 nlt:nb<g.next
 neq:c.nv = .sl (some (nb,0)) nm.length (.ex nm.length)
 nlen:nm.length=m.cases.length
 ne:nb≠p
 xv:∃ b,c.xv = .sl (some (b,0)) xs.length (.ex xs.length)∧g.get b=some (.cells true (xs.map w64))∧b<g.next∧b≠p∧b≠nb
 xlen:xs.length=f.code.length
 yv:YOk g c.yv m f p nb
section
variable {g0 g:Heap}{p nb:Nat}{m:Md}{f:Fn}{pc:Nat}{i:Ins}{c:Cv}{nm:List Bool}{xs:List (BitVec 64)}(S:ChkS g0 g p nb m f pc i c nm xs)
include S
theorem ChkS.iw:i.wf:=by
 obtain⟨_,_,_,_,_,_,_,_,_,_,_,_,_,_,_,_,_,h,_⟩:=S.fn
 exact h i (List.mem_of_getElem? S.hi)
theorem ChkS.ck:CkB g p m f (pc:Int) i c:=by
 have mo:∀ j,j<g0.next→g.get j=g0.get j:=fun j hj=>S.s.get j hj (by simp)
 exact⟨S.at_,S.plt,S.md.mono S.s.next mo,S.fn.mono S.s.next mo,S.sm,S.wh,S.iw,S.fs⟩
theorem ChkS.nmb:NmB g p nb m c nm:=⟨S.nblk,S.nlt,S.neq,S.nlen,S.ne⟩
theorem ChkS.keep {g':Heap}(s:Same [] g g'):ChkS g0 g' p nb m f pc i c nm xs:=by
 obtain⟨b,h1,h2,h3,h4,h5⟩:=S.xv
 exact⟨(s.get _ S.plt (by simp)).trans S.at_,Nat.lt_of_lt_of_le S.plt s.next,S.md,S.fn,S.s.trans s,S.hp,S.hn,S.sm,S.fs,S.wh,S.hi,S.f200,(s.get _ S.nlt (by simp)).trans S.nblk,Nat.lt_of_lt_of_le S.nlt s.next,S.neq,S.nlen,S.ne,⟨b,h1,(s.get _ h3 (by simp)).trans h2,Nat.lt_of_lt_of_le h3 s.next,h4,h5⟩,S.xlen,S.yv.mono s (by simp)⟩
theorem ChkS.named {g':Heap}{nm':List Bool}(s:Same [nb] g g')(hb:g'.get nb=some (.cells true (nm'.map AV.bool)))(hl:nm'.length=nm.length):ChkS g0 g' p nb m f pc i c nm' xs:=by
 obtain⟨b,h1,h2,h3,h4,h5⟩:=S.xv
 exact⟨(s.get _ S.plt (by simpa using S.ne.symm)).trans S.at_,Nat.lt_of_lt_of_le S.plt s.next,S.md,S.fn,S.s.old s (fun j hj=>.inr (by simp at hj;subst hj;exact S.hn)),S.hp,S.hn,S.sm,S.fs,S.wh,S.hi,S.f200,hb,Nat.lt_of_lt_of_le S.nlt s.next,by rw [hl];exact S.neq,hl.trans S.nlen,S.ne,⟨b,h1,(s.get _ h3 (by simpa using h5)).trans h2,Nat.lt_of_lt_of_le h3 s.next,h4,h5⟩,S.xlen,S.yv.mono s (by simp)⟩
noncomputable def bareB (m:Md)(f:Fn)(pc:Nat)(i:Ins):Bool:=if i.op=29∨i.op=32 then spareB f (fsetsT m f) pc i else true
theorem RJ:Ok (BP (.ptr (some (p,0))) g) fun r=>(∃ v,ChkS g0 r.2 p nb m f pc i { c with yv:=v } nm xs)∧r.1 = .bool (bareB m f pc i):=by
 have H:=S.ck
 have q17:=H.l17;have q14:=H.l14
 by_cases c0 : ¬ (i.op=29∨i.op=32)
 ·have c29 : ¬ i.op=29:=fun h=>c0 (.inl h)
  have c32 : ¬ i.op=32:=fun h=>c0 (.inr h)
  exact Ah (v:=.bool true) (g:=g) (by simp -implicitDefEqProofs only [BP,q17,q14,Nat.zero_add,c29,c32,AO,AF,Option.bind_some,AZ,AY,Ac,AX,AL,AH,AD,Ad,AQ,AE,AM,AC,if_true,if_false,Bool.false_eq_true,AJ,AP,AG,AR,AK,AU,Int.reduceEq,Int.reduceLT,Int.reduceLE,decide_true,decide_false,AB,AA,Ae,Bool.not_true,Bool.not_false,AW]) ⟨⟨c.yv,S⟩,by rw [bareB,if_neg c0]⟩
 have c0:i.op=29∨i.op=32:=Decidable.not_not.1 c0
 have e:bareB m f pc i=spareB f (fsetsT m f) pc i:=by rw [bareB,if_pos c0]
 rw [e]
 -- the tail
 have tail:∀ (g':Heap) (v:AV),ChkS g0 g' p nb m f pc i { c with yv:=v } nm xs→(∃ lo,p<lo∧nb<lo∧StsRd g' v (fsetsT m f) lo∧(fsetsT m f).length=f.code.length)→
   Ok (CI (.ptr (some (p,0))) g') fun r=>(∃ v,ChkS g0 r.2 p nb m f pc i { c with yv:=v } nm xs)∧r.1 = .bool (spareB f (fsetsT m f) pc i):=by
  rintro g' v S' ⟨lo,h1,h2,h3,h4⟩
  have H':=S'.ck
  have r14:=H'.l14;have r16:=H'.l16;have rf:=H'.lf
  refine Ok.eq ?_ (by simp -implicitDefEqProofs only [CI,r14,r16,rf,Nat.zero_add,AO,AF,Option.bind_some,AZ,AY,Ac,AX,AL,AH,AD,Ad,AQ,AE,AM,AC,if_true,if_false,Bool.false_eq_true,AJ,AP,AG,AR,AK,AU,Int.reduceEq,Int.reduceLT,Int.reduceLE,decide_true,decide_false,AB,AA,Ae,Bool.not_true,Bool.not_false,AW]<;>rfl)
  refine Ao (OG H'.fn h3 h4 S.hi) ?_
  rintro _ g2 ⟨s2,rfl⟩
  simp only at s2
  exact Ah (v:=.bool (spareB f (fsetsT m f) pc i)) (g:=g2) (by simp -implicitDefEqProofs only [AW]) ⟨⟨v,S'.keep s2⟩,rfl⟩
 rcases S.yv with hy | ⟨lo,h1,h2,h3,h4⟩
 ·have hnil:eqP (some (.slice 0)) none false .eql c.yv (.sl none 0 (.ex 0))=some (.bool true):=by rw [hy];rfl
  have qm:=H.lm;have qf:=H.lf
  refine Ok.eq (y:=cl (ED (.agg [c.sv,c.gv,c.kv,c.cv,c.fv,.int .i64 m.main]) (.agg [.int .i64 f.pa,.int .i64 f.ca,.int .i64 f.sl,.int .i64 f.re,c.ks,c.co,c.mv]) g) fun t31 h13=>cl (stP 1 h13 (.ptr (some (p,14))) t31) fun u h14=>CI (.ptr (some (p,0))) h14) ?_ ?_
  ·refine Ao (P7 H.md H.fn S.sm.2.1 S.f200) ?_
   rintro v g1 ⟨s1,R1,I1⟩
   simp only at s1 R1
   obtain⟨L,cl,_,eT⟩:=I1
   have hTl:(fsetsT m f).length=f.code.length:=by rw [eT,outT,List.length_map,cl.len]
   have S1:=S.keep s1
   have hsc:scalar v=true:=by
    obtain⟨b,vs,Q,_⟩:=R1.ex
    rw [Q.eq]
    cases b<;>rfl
   have st:=Cl (v:=v) (o:=14) S1.at_ (by show 14 < 22;omega) hsc
   have er:(c.row m f (pc:Int) i).set 14 v=({ c with yv:=v }:Cv).row m f (pc:Int) i:=rfl
   rw [er] at st
   rw [st,AE]
   have s2:Same [p] g1 (g1.put p (some (.cells true (({ c with yv:=v }:Cv).row m f (pc:Int) i)))):=Same.put _ _ _
   have hlo:∃ lo,p<lo∧nb<lo∧StsRd (g1.put p (some (.cells true (({ c with yv:=v }:Cv).row m f (pc:Int) i)))) v (fsetsT m f) lo∧(fsetsT m f).length=f.code.length:=⟨g.next,S.plt,S.nlt,R1.mono s2 (fun j hj=>by simp at hj;subst hj;exact S.plt),hTl⟩
   obtain⟨b,x1,x2,x3,x4,x5⟩:=S1.xv
   refine tail _ v ⟨An,Nat.lt_of_lt_of_le S1.plt s2.next,S1.md,S1.fn,S1.s.old s2 (fun j hj=>.inr (by simp at hj;subst hj;exact S.hp)),S1.hp,S1.hn,S1.sm,S1.fs,S1.wh,S1.hi,S1.f200,(s2.get _ S1.nlt (by simpa using S1.ne)).trans S1.nblk,Nat.lt_of_lt_of_le S1.nlt s2.next,S1.neq,S1.nlen,S1.ne,⟨b,x1,(s2.get _ x3 (by simpa using x4)).trans x2,Nat.lt_of_lt_of_le x3 s2.next,x4,x5⟩,S1.xlen,.inr hlo⟩ hlo
  ·rcases c0 with c29 | c32
   ·simp -implicitDefEqProofs only [BP,q17,q14,Nat.zero_add,c29,hnil,qm,qf,AO,AF,Option.bind_some,AZ,AY,Ac,AX,AL,AH,AD,Ad,AQ,AE,AM,AC,if_true,if_false,Bool.false_eq_true,AJ,AP,AG,AR,AK,AU,Int.reduceEq,Int.reduceLT,Int.reduceLE,decide_true,decide_false,AB,AA,Ae,Bool.not_true,Bool.not_false,AW]
   ·simp -implicitDefEqProofs only [BP,q17,q14,Nat.zero_add,c32,hnil,qm,qf,AO,AF,Option.bind_some,AZ,AY,Ac,AX,AL,AH,AD,Ad,AQ,AE,AM,AC,if_true,if_false,Bool.false_eq_true,AJ,AP,AG,AR,AK,AU,Int.reduceEq,Int.reduceLT,Int.reduceLE,decide_true,decide_false,AB,AA,Ae,Bool.not_true,Bool.not_false,AW]
 ·have hnil:eqP (some (.slice 0)) none false .eql c.yv (.sl none 0 (.ex 0))=some (.bool false):=by
   obtain⟨b,vs,Q,_,hl,_⟩:=h3.ex
   have:=S.wh.a11
   have hb:b≠none:=fun hn=>by have:=Q.nil hn;omega
   rw [Q.eq]
   cases b with
   | none=>exact absurd rfl hb
   | some b=>rfl
  refine Ok.eq (tail g c.yv S ⟨lo,h1,h2,h3,h4⟩) ?_
  rcases c0 with c29 | c32
  ·simp -implicitDefEqProofs only [BP,q17,q14,Nat.zero_add,c29,hnil,AO,AF,Option.bind_some,AZ,AY,Ac,AX,AL,AH,AD,Ad,AQ,AE,AM,AC,if_true,if_false,Bool.false_eq_true,AJ,AP,AG,AR,AK,AU,Int.reduceEq,Int.reduceLT,Int.reduceLE,decide_true,decide_false,AB,AA,Ae,Bool.not_true,Bool.not_false,AW]
  ·simp -implicitDefEqProofs only [BP,q17,q14,Nat.zero_add,c32,hnil,AO,AF,Option.bind_some,AZ,AY,Ac,AX,AL,AH,AD,Ad,AQ,AE,AM,AC,if_true,if_false,Bool.false_eq_true,AJ,AP,AG,AR,AK,AU,Int.reduceEq,Int.reduceLT,Int.reduceLE,decide_true,decide_false,AB,AA,Ae,Bool.not_true,Bool.not_false,AW]
def mapB (f:Fn)(xs:List (BitVec 64))(pc:Nat):Bool:=decide (f.maps.getD pc 0=(((xs.getD pc 0#64).toNat:Nat):Int))
noncomputable def ruleR (m:Md)(f:Fn)(xs:List (BitVec 64))(pc:Nat)(i:Ins)(nm:List Bool)(n:Int):Bool × List Bool:=
 if n=4 then(slotsB m f i,nm) else if n=5 then thereR m i nm else if n=6 then(kind6B m f i,nm) else if n=7 then(onB m f pc i,nm) else if n=8 then(backB m f pc i,nm) else if n=9 then(mapB f xs pc,nm) else(bareB m f pc i,nm)
omit S in
theorem OB (m:Md)(i:Ins)(nm:List Bool):(thereR m i nm).2.length=nm.length:=by
 unfold thereR
 split
 ·unfold freshR
  split
  ·rfl
  ·split
   ·rfl
   ·exact KB _ _ _
 ·rfl
theorem RR (n:Int)(h6:n=6→slotsB m f i=true∧∃ nm0,(thereR m i nm0).1=true)(h8:n=8→(tgtL m i).all (insB f)=true) :
  Ok (BJ (.ptr (some (p,0))) (.int .i64 n) g) fun r=>(∃ v,ChkS g0 r.2 p nb m f pc i { c with yv:=v } (ruleR m f xs pc i nm n).2 xs)∧r.1 = .bool (ruleR m f xs pc i nm n).1:=by
 have H:=S.ck
 have st:∀ {x:Option (AV × Heap)} {b:Bool},Ok x (fun r=>Same [] g r.2∧r.1 = .bool b)→Ok (cl x fun t9 h0=>some (t9,h0)) fun r=>(∃ v,ChkS g0 r.2 p nb m f pc i { c with yv:=v } nm xs)∧r.1 = .bool b:=fun hx=>by
  refine Ao hx ?_
  rintro _ g1 ⟨s1,rfl⟩
  exact Ok.of (r:=(AV.bool _,g1)) ⟨⟨c.yv,S.keep s1⟩,rfl⟩
 by_cases n4:n=4
 ·rw [show ruleR m f xs pc i nm n=(slotsB m f i,nm) by rw [ruleR,if_pos n4]]
  exact(st (QN H)).eq (by simp -implicitDefEqProofs only [BJ,n4,AO,AF,Option.bind_some,AZ,AY,Ac,AX,AL,AH,AD,Ad,AQ,AE,AM,AC,if_true,if_false,Bool.false_eq_true,AJ,AP,AG,AR,AK,AU,Int.reduceEq,Int.reduceLT,Int.reduceLE,decide_true,decide_false,AB,AA,Ae,Bool.not_true,Bool.not_false,AW])
 by_cases n5:n=5
 ·rw [show ruleR m f xs pc i nm n=thereR m i nm by rw [ruleR,if_neg n4,if_pos n5]]
  refine Ok.eq (y:=cl (B0 (.ptr (some (p,0))) g) fun t9 h0=>some (t9,h0)) ?_ (by simp -implicitDefEqProofs only [BJ,n5,AO,AF,Option.bind_some,AZ,AY,Ac,AX,AL,AH,AD,Ad,AQ,AE,AM,AC,if_true,if_false,Bool.false_eq_true,AJ,AP,AG,AR,AK,AU,Int.reduceEq,Int.reduceLT,Int.reduceLE,decide_true,decide_false,AB,AA,Ae,Bool.not_true,Bool.not_false,AW])
  refine Ao (P4 H S.nmb) ?_
  rintro _ g1 ⟨s1,rfl,hb⟩
  exact Ok.of (r:=(AV.bool _,g1)) ⟨⟨c.yv,S.named s1 hb (OB _ _ _)⟩,rfl⟩
 by_cases n6:n=6
 ·rw [show ruleR m f xs pc i nm n=(kind6B m f i,nm) by rw [ruleR,if_neg n4,if_neg n5,if_pos n6]]
  obtain⟨h4,nm0,h5⟩:=h6 n6
  exact(st (Qc H h4 h5)).eq (by simp -implicitDefEqProofs only [BJ,n6,AO,AF,Option.bind_some,AZ,AY,Ac,AX,AL,AH,AD,Ad,AQ,AE,AM,AC,if_true,if_false,Bool.false_eq_true,AJ,AP,AG,AR,AK,AU,Int.reduceEq,Int.reduceLT,Int.reduceLE,decide_true,decide_false,AB,AA,Ae,Bool.not_true,Bool.not_false,AW])
 by_cases n7:n=7
 ·rw [show ruleR m f xs pc i nm n=(onB m f pc i,nm) by rw [ruleR,if_neg n4,if_neg n5,if_neg n6,if_pos n7]]
  exact(st (TI H)).eq (by simp -implicitDefEqProofs only [BJ,n7,AO,AF,Option.bind_some,AZ,AY,Ac,AX,AL,AH,AD,Ad,AQ,AE,AM,AC,if_true,if_false,Bool.false_eq_true,AJ,AP,AG,AR,AK,AU,Int.reduceEq,Int.reduceLT,Int.reduceLE,decide_true,decide_false,AB,AA,Ae,Bool.not_true,Bool.not_false,AW])
 by_cases n8:n=8
 ·rw [show ruleR m f xs pc i nm n=(backB m f pc i,nm) by rw [ruleR,if_neg n4,if_neg n5,if_neg n6,if_neg n7,if_pos n8]]
  exact(st (Qw H (h8 n8))).eq (by simp -implicitDefEqProofs only [BJ,n8,AO,AF,Option.bind_some,AZ,AY,Ac,AX,AL,AH,AD,Ad,AQ,AE,AM,AC,if_true,if_false,Bool.false_eq_true,AJ,AP,AG,AR,AK,AU,Int.reduceEq,Int.reduceLT,Int.reduceLE,decide_true,decide_false,AB,AA,Ae,Bool.not_true,Bool.not_false,AW])
 by_cases n9:n=9
 ·rw [show ruleR m f xs pc i nm n=(mapB f xs pc,nm) by rw [ruleR,if_neg n4,if_neg n5,if_neg n6,if_neg n7,if_neg n8,if_pos n9]]
  have hp:=(List.getElem?_eq_some_iff.1 S.hi).1
  have hw:=S.wh.a13
  have q12:=H.l12;have q13:=H.l13;have q16:=H.l16
  have hm:f.maps[pc]?=some (f.maps.getD pc 0):=by rw [List.getD_eq_getElem?_getD,List.getElem?_eq_getElem (by omega)];rfl
  obtain⟨b1,o1,_,x1,x2⟩:=H.mp.at (i:=pc) (x:=.int .u64 (f.maps.getD pc 0)) (by rw [List.getElem?_map,hm];rfl)
  have x1:=x1 .i64
  obtain⟨b,y1,y2,y3,_⟩:=S.xv
  have y4:iaS 1 c.xv (.int .i64 (pc:Int))=some (.ptr (some (b,pc))):=by
   rw [y1,E7 1 (b,0) _ _ _ _ ⟨by omega,by rw [S.xlen];omega⟩];simp
  have hx:xs[pc]?=some (xs.getD pc 0#64):=by rw [List.getD_eq_getElem?_getD,List.getElem?_eq_getElem (by rw [S.xlen];exact hp)];rfl
  have y5:ldS g (.ptr (some (b,pc)))=some (.int .u64 (((xs.getD pc 0#64).toNat:Nat):Int)):=by rw [Ai y2,List.getElem?_map,hx];rfl
  exact Ah (v:=.bool (mapB f xs pc)) (g:=g) (by simp -implicitDefEqProofs only [BJ,n9,q12,q13,q16,x1,x2,y4,y5,mapB,Nat.zero_add,AO,AF,Option.bind_some,AZ,AY,Ac,AX,AL,AH,AD,Ad,AQ,AE,AM,AC,if_true,if_false,Bool.false_eq_true,AJ,AP,AG,AR,AK,AU,Int.reduceEq,Int.reduceLT,Int.reduceLE,decide_true,decide_false,AB,AA,Ae,Bool.not_true,Bool.not_false,AW]) ⟨⟨c.yv,S⟩,rfl⟩
 rw [show ruleR m f xs pc i nm n=(bareB m f pc i,nm) by rw [ruleR,if_neg n4,if_neg n5,if_neg n6,if_neg n7,if_neg n8,if_neg n9]]
 refine Ok.eq (y:=cl (BP (.ptr (some (p,0))) g) fun t9 h0=>some (t9,h0)) ?_ (by simp -implicitDefEqProofs only [BJ,n4,n5,n6,n7,n8,n9,AO,AF,Option.bind_some,AZ,AY,Ac,AX,AL,AH,AD,Ad,AQ,AE,AM,AC,if_true,if_false,Bool.false_eq_true,AJ,AP,AG,AR,AK,AU,Int.reduceEq,Int.reduceLT,Int.reduceLE,decide_true,decide_false,AB,AA,Ae,Bool.not_true,Bool.not_false,AW])
 refine Ao (RJ S) ?_
 rintro _ g1 ⟨⟨v,S'⟩,rfl⟩
 exact Ok.of (r:=(AV.bool _,g1)) ⟨⟨v,S'⟩,rfl⟩
end
set_option linter.all false
attribute [local congr] BI D1 Dy D2 Bu D3 Dz Aw Av
theorem NV {h:Heap}{v:AV}{l:List Int}(V:RdW h 1 v (wI l) l.length)(hl:l.length≤1048576)(n:Int):Ok (B8 v (.int .i64 n) h) fun r=>r.2=h∧r.1 = .bool (decide (n∈l)):=by
 have lnv:lnL v=some (.int .i64 l.length):=V.lnL
 refine Ok.eq ?_ (by simp -implicitDefEqProofs only [B8,Cx,lnv,Option.bind_some]<;>rfl)
 refine Ao (P:=fun r=>r.2=h∧((r.1 = .int .i64 (-1)∧n∉l)∨∃ k:Nat,r.1 = .int .i64 k∧n∈l)) ?_ ?_
 ·refine CJ (P:=fun r=>r.2.2=h∧((r.1 = .exit 0∧n∉l)∨∃ k:Nat,r.1 = .ret∧r.2.1.getD 0 .bot = .int .i64 k∧n∈l)) ?_ ?_
  ·refine BF (fun m vs g=>∃ i:Nat,(∃ q,vs = [q,.int .i64 i])∧g=h∧m+i=l.length∧∀ (j:Nat) x,j<i→l[j]?=some x→n≠x) ?_ (n:=l.length) (by omega) ⟨0,⟨_,rfl⟩,rfl,rfl,fun j x hj=>by omega⟩
   rintro m vs _ ⟨i,⟨q,rfl⟩,rfl,hm,hall⟩
   rw [gD0,gD1]
   by_cases hi:i<l.length
   ·obtain⟨s,hs⟩:∃ s,l[i]?=some s:=⟨_,List.getElem?_eq_getElem hi⟩
    have hi':(i:Int)<l.length:=by omega
    obtain⟨b,o,_,hix,hla⟩:=V.at (i:=i) (x:=.int .i64 s) (by simp [wI,hs])
    by_cases e:n=s
    ·exact(Ok.of (r:=(Ex.ret,[AV.int .i64 (i:Int),.int .i64 (i:Int)],_)) (.inr ⟨by simp,rfl,.inr ⟨i,rfl,rfl,by rw [e];exact List.mem_of_getElem? hs⟩⟩)).eq (by simp -implicitDefEqProofs only [Cb,AG,hi',decide_true,Option.bind_some,AB,hix,hla,AK,e])
    ·exact(Ok.of (r:=(Ex.normal,[q,AV.int .i64 ((i+1:Nat):Int)],_)) (.inl ⟨rfl,m - 1,by omega,i+1,⟨_,rfl⟩,rfl,by omega,fun j x hj hx=>by
      rcases (by omega:j<i∨j=i) with h | rfl
      ·exact hall j x h hx
      ·rw [hs] at hx;cases hx;exact e⟩)).eq (by simp -implicitDefEqProofs only [Cb,AG,hi',decide_true,Option.bind_some,AB,hix,hla,AK,e,decide_false,AA,Ap,suc64 i (by omega)])
   ·have hi' : ¬ (i:Int)<l.length:=by omega
    refine(Ok.of (r:=(Ex.exit 0,[q,AV.int .i64 (i:Int)],_)) (.inr ⟨by simp,rfl,.inl ⟨rfl,fun hn=>?_⟩⟩)).eq (by simp -implicitDefEqProofs only [Cb,AG,hi',decide_false,Option.bind_some,AA])
    obtain⟨j,hj⟩:=List.getElem?_of_mem hn
    have:=(List.getElem?_eq_some_iff.1 hj).1
    exact hall j n (by omega) hj rfl
  ·rintro _ vs g ⟨sg,⟨rfl,hall⟩ | ⟨k,rfl,hv,h2⟩⟩
   ·exact Ah (v:=.int .i64 (-1)) (g:=g) (by simp -implicitDefEqProofs only [if_true,Al]) ⟨sg,.inl ⟨rfl,hall⟩⟩
   ·exact Ah (v:=.int .i64 (k:Int)) (g:=g) (by simp only at hv;simp -implicitDefEqProofs only [reduceCtorEq,if_false,Cm,Dx,hv]) ⟨sg,.inr ⟨k,rfl,h2⟩⟩
 ·rintro _ g ⟨sg,⟨rfl,hall⟩ | ⟨k,rfl,h2⟩⟩
  ·exact Ah (v:=.bool false) (g:=g) (by simp -implicitDefEqProofs only [AJ,show ¬ (0:Int)≤-1 by omega,decide_false,Option.bind_some]) ⟨sg,by rw [decide_eq_false hall]⟩
  ·exact Ah (v:=.bool true) (g:=g) (by simp -implicitDefEqProofs only [AJ,show(0:Int)≤(k:Int) by omega,decide_true,Option.bind_some]) ⟨sg,by rw [decide_eq_true h2]⟩
noncomputable def runR (sk:List Int)(m:Md)(f:Fn)(xs:List (BitVec 64))(pc:Nat)(i:Ins):Nat→Int→List Bool→Option Int × List Bool
 | 0,_,nm=>(none,nm)
 | k+1,q,nm=>if q∈sk then runR sk m f xs pc i k (q+1) nm else if (ruleR m f xs pc i nm q).1=true then runR sk m f xs pc i k (q+1) (ruleR m f xs pc i nm q).2 else(some q,(ruleR m f xs pc i nm q).2)
noncomputable def insR (sk:List Int)(m:Md)(f:Fn)(xs:List (BitVec 64))(pc:Nat)(i:Ins)(nm:List Bool):Option Int × List Bool:=runR sk m f xs pc i 7 4 nm
def faultC (n pc r:Int):List AV:=[.int .i64 n,.int .i64 pc,.int .i64 r]
theorem TN {g0 g:Heap}{p nb pf:Nat}{m:Md}{f:Fn}{pc:Nat}{i:Ins}{c:Cv}{nm:List Bool}{xs:List (BitVec 64)}{sk:List Int}{x1:AV}{z:List AV}{n:Nat}
  (S:ChkS g0 g p nb m f pc i c nm xs) (X:RdW g0 1 x1 (wI sk) sk.length) (hsk:sk.length≤1048576) (h4:(4:Int)∉sk) (h5:(5:Int)∉sk) (h7:(7:Int)∉sk) (hz:g0.get pf=some (.cells true z)) (hzl:z.length=3) (hpf:pf<g0.next) :
  Ok (GH x1 (.ptr (some (pf,0))) (.int .i64 (n:Int)) (.ptr (some (p,0))) (.int .i64 (pc:Int)) (.bool false) (.int .i64 4) g) fun r=>
   (r.1 = .exit 6∧r.2.1.getD 0 .bot = .bool false∧(insR sk m f xs pc i nm).1=none∧∃ v,ChkS g0 r.2.2 p nb m f pc i { c with yv:=v } (insR sk m f xs pc i nm).2 xs)∨
   (r.1 = .ret∧r.2.1.getD 0 .bot = .bool false∧∃ q,(insR sk m f xs pc i nm).1=some q∧Same [pf] g0 r.2.2∧r.2.2.get pf=some (.cells true (faultC n pc q))):=by
 refine BF (fun k vs g'=>∃ (q:Int) (nm':List Bool) (v:AV),vs = [.bool false,.int .i64 q]∧4≤q∧q+k=11∧ChkS g0 g' p nb m f pc i { c with yv:=v } nm' xs∧insR sk m f xs pc i nm=runR sk m f xs pc i k q nm'∧(4<q→slotsB m f i=true)∧(5<q→∃ nm0,(thereR m i nm0).1=true)∧(7<q→onB m f pc i=true)) ?_ (n:=7) (by omega) ⟨4,nm,c.yv,rfl,by omega,by omega,S,rfl,fun h=>by omega,fun h=>by omega,fun h=>by omega⟩
 rintro k vs g' ⟨q,nm',v,rfl,hq4,hqk,S',hE,e4,e5,e7⟩
 rw [gD0,gD1]
 by_cases hq:q≤10
 ·obtain⟨k',rfl⟩:∃ k',k=k'+1:=⟨k - 1,by omega⟩
  have w:IntKind.i64.wrap (q+1)=q+1:=B9 (by omega) (by omega)
  have X':RdW g' 1 x1 (wI sk) sk.length:=X.mono S'.s.next fun j hj=>S'.s.get j hj (by simp)
  refine Ok.eq ?_ (by simp -implicitDefEqProofs only [Ec,hq,w,AO,AF,Option.bind_some,AZ,AY,Ac,AX,AL,AH,AD,Ad,AQ,AE,AM,AC,if_true,if_false,Bool.false_eq_true,AJ,AP,AG,AR,AK,AU,Int.reduceEq,Int.reduceLT,Int.reduceLE,decide_true,decide_false,AB,AA,Ae,Bool.not_true,Bool.not_false,AW]<;>rfl)
  refine Ao (NV X' hsk q) ?_
  rintro _ g1 ⟨hg1,rfl⟩
  simp only at hg1
  subst hg1
  by_cases hin:q∈sk
  ·have hn4:q≠4:=fun h=>h4 (h ▸ hin)
   have hn5:q≠5:=fun h=>h5 (h ▸ hin)
   have hn7:q≠7:=fun h=>h7 (h ▸ hin)
   exact(Ok.of (r:=(Ex.normal,[AV.bool false,.int .i64 (q+1)],g1)) (.inl ⟨rfl,k',by omega,q+1,nm',v,rfl,by omega,by omega,S',by rw [hE,runR,if_pos hin],(fun h=>e4 (by omega)),(fun h=>e5 (by omega)),fun h=>e7 (by omega)⟩)).eq (by simp -implicitDefEqProofs only [hin,Ap,w,AO,AF,Option.bind_some,AZ,AY,Ac,AX,AL,AH,AD,Ad,AQ,AE,AM,AC,if_true,if_false,Bool.false_eq_true,AJ,AP,AG,AR,AK,AU,Int.reduceEq,Int.reduceLT,Int.reduceLE,decide_true,decide_false,AB,AA,Ae,Bool.not_true,Bool.not_false,AW])
  ·have pre6:q=6→slotsB m f i=true∧∃ nm0,(thereR m i nm0).1=true:=fun h=>⟨e4 (by omega),e5 (by omega)⟩
   have pre8:q=8→(tgtL m i).all (insB f)=true:=fun h=>by have:=e7 (by omega);simp only [onB,Bool.and_eq_true] at this;exact this.1
   refine Ok.eq ?_ (by simp -implicitDefEqProofs only [hin,AO,AF,Option.bind_some,AZ,AY,Ac,AX,AL,AH,AD,Ad,AQ,AE,AM,AC,if_true,if_false,Bool.false_eq_true,AJ,AP,AG,AR,AK,AU,Int.reduceEq,Int.reduceLT,Int.reduceLE,decide_true,decide_false,AB,AA,Ae,Bool.not_true,Bool.not_false,AW]<;>rfl)
   refine Ao (P:=fun r=>(∃ v',ChkS g0 r.2 p nb m f pc i { c with yv:=v' } (ruleR m f xs pc i nm' q).2 xs)∧r.1 = .bool (ruleR m f xs pc i nm' q).1) (Ao (RR S' q pre6 pre8) fun v g' hh=>Ok.of (r:=(v,g')) hh) ?_
   rintro _ g2 ⟨⟨v',S2⟩,rfl⟩
   simp only at S2
   cases hr:(ruleR m f xs pc i nm' q).1
   ·have hz2:g2.get pf=some (.cells true z):=by rw [S2.s.get _ hpf (by simp)];exact hz
    have st:=Ds (n:=3) hz2 hzl (show(faultC n pc q).length=3 from rfl) rfl
    have eb:bldS [(0,1),(1,1),(2,1)] [(AV.int .i64 0),(AV.int .i64 0),(AV.int .i64 0)] [(0,.int .i64 (n:Int)),(1,.int .i64 (pc:Int)),(2,.int .i64 q)]=some (.agg (faultC n pc q)):=rfl
    exact(Ok.of (r:=(Ex.ret,[AV.bool false,.int .i64 q],_)) (.inr ⟨by simp,.inr ⟨rfl,rfl,q,by rw [hE,runR,if_neg hin,if_neg (by rw [hr];simp)],(S2.s.sub (by simp)).trans (Same.put _ _ _),An⟩⟩)).eq (by simp -implicitDefEqProofs only [hr,eb,st,AO,AF,Option.bind_some,AZ,AY,Ac,AX,AL,AH,AD,Ad,AQ,AE,AM,AC,if_true,if_false,Bool.false_eq_true,AJ,AP,AG,AR,AK,AU,Int.reduceEq,Int.reduceLT,Int.reduceLE,decide_true,decide_false,AB,AA,Ae,Bool.not_true,Bool.not_false,AW];rfl)
   ·refine(Ok.of (r:=(Ex.normal,[AV.bool false,.int .i64 (q+1)],g2)) (.inl ⟨rfl,k',by omega,q+1,_,v',rfl,by omega,by omega,S2,by rw [hE,runR,if_neg hin,if_pos hr],(fun h=>?_),(fun h=>?_),fun h=>?_⟩)).eq (by simp -implicitDefEqProofs only [hr,Ap,w,AO,AF,Option.bind_some,AZ,AY,Ac,AX,AL,AH,AD,Ad,AQ,AE,AM,AC,if_true,if_false,Bool.false_eq_true,AJ,AP,AG,AR,AK,AU,Int.reduceEq,Int.reduceLT,Int.reduceLE,decide_true,decide_false,AB,AA,Ae,Bool.not_true,Bool.not_false,AW])
    ·rcases (by omega:q=4∨4<q) with rfl | h
     ·exact hr
     ·exact e4 h
    ·rcases (by omega:q=5∨5<q) with rfl | h
     ·exact⟨nm',hr⟩
     ·exact e5 h
    ·rcases (by omega:q=7∨7<q) with rfl | h
     ·exact hr
     ·exact e7 h
 ·have hk:k=0:=by omega
  subst hk
  exact(Ok.of (r:=(Ex.exit 6,[AV.bool false,.int .i64 q],g')) (.inr ⟨by simp,.inl ⟨rfl,rfl,by rw [hE,runR],v,by rw [hE,runR];exact S'⟩⟩)).eq (by simp -implicitDefEqProofs only [Ec,hq,AO,AF,Option.bind_some,AZ,AY,Ac,AX,AL,AH,AD,Ad,AQ,AE,AM,AC,if_true,if_false,Bool.false_eq_true,AJ,AP,AG,AR,AK,AU,Int.reduceEq,Int.reduceLT,Int.reduceLE,decide_true,decide_false,AB,AA,Ae,Bool.not_true,Bool.not_false,AW])
noncomputable def fnR (sk:List Int)(m:Md)(f:Fn)(xs:List (BitVec 64)):List Ins→Nat→List Bool→Option (Nat × Int) × List Bool
 | [],_,nm=>(none,nm)
 | i::l,pc,nm=>match insR sk m f xs pc i nm with | (some r,nm')=>(some (pc,r),nm') | (none,nm')=>fnR sk m f xs l (pc+1) nm'
theorem Nq {sk:List Int}{m:Md}{f:Fn}{xs:List (BitVec 64)}{pc:Nat}{i:Ins}(h:f.code[pc]?=some i)(nm:List Bool):fnR sk m f xs (f.code.drop pc) pc nm=match insR sk m f xs pc i nm with | (some r,nm')=>(some (pc,r),nm') | (none,nm')=>fnR sk m f xs (f.code.drop (pc+1)) (pc+1) nm':=by
 have hp:=(List.getElem?_eq_some_iff.1 h).1
 have e:f.code[pc]=i:=by rw [List.getElem?_eq_getElem hp] at h;exact Option.some.inj h
 rw [List.drop_eq_getElem_cons hp,e,fnR]
set_option linter.all false
attribute [local congr] BI D1 Dy D2 Bu D3 Dz Aw Av
structure ChkF (g0 g:Heap)(p nb:Nat)(m:Md)(f:Fn)(c:Cv)(nm:List Bool)(xs:List (BitVec 64)):Prop where
 at_:∃ pc i,g.get p=some (.cells true (c.row m f pc i))
 plt:p<g.next
 md:MdRd g0 (.agg [c.sv,c.gv,c.kv,c.cv,c.fv,.int .i64 m.main]) m
 fn:FnRd g0 [.int .i64 f.pa,.int .i64 f.ca,.int .i64 f.sl,.int .i64 f.re,c.ks,c.co,c.mv] f
 s:Same [] g0 g
 hp:g0.next≤p
 hn:g0.next≤nb
 sm:SmV m
 fs:∀ (n:Nat) f',m.funcs[n]?=some f'→Whole f'
 wh:Whole f
 f200:f.code.length≤4096
 nblk:g.get nb=some (.cells true (nm.map AV.bool))
 nlt:nb<g.next
 neq:c.nv = .sl (some (nb,0)) nm.length (.ex nm.length)
 nlen:nm.length=m.cases.length
 ne:nb≠p
 xv:∃ b,c.xv = .sl (some (b,0)) xs.length (.ex xs.length)∧g.get b=some (.cells true (xs.map w64))∧b<g.next∧b≠p∧b≠nb
 xlen:xs.length=f.code.length
 yv:YOk g c.yv m f p nb
theorem ChkS.toF {g0 g:Heap}{p nb:Nat}{m:Md}{f:Fn}{pc:Nat}{i:Ins}{c:Cv}{nm:List Bool}{xs:List (BitVec 64)}(S:ChkS g0 g p nb m f pc i c nm xs):ChkF g0 g p nb m f c nm xs:=
 ⟨⟨_,_,S.at_⟩,S.plt,S.md,S.fn,S.s,S.hp,S.hn,S.sm,S.fs,S.wh,S.f200,S.nblk,S.nlt,S.neq,S.nlen,S.ne,S.xv,S.xlen,S.yv⟩
theorem ChkF.keep {g0 g g':Heap}{p nb:Nat}{m:Md}{f:Fn}{c:Cv}{nm:List Bool}{xs:List (BitVec 64)}(S:ChkF g0 g p nb m f c nm xs)(s:Same [] g g'):ChkF g0 g' p nb m f c nm xs:=by
 obtain⟨b,h1,h2,h3,h4,h5⟩:=S.xv
 obtain⟨pc,i,ha⟩:=S.at_
 exact⟨⟨pc,i,(s.get _ S.plt (by simp)).trans ha⟩,Nat.lt_of_lt_of_le S.plt s.next,S.md,S.fn,S.s.trans s,S.hp,S.hn,S.sm,S.fs,S.wh,S.f200,(s.get _ S.nlt (by simp)).trans S.nblk,Nat.lt_of_lt_of_le S.nlt s.next,S.neq,S.nlen,S.ne,⟨b,h1,(s.get _ h3 (by simp)).trans h2,Nat.lt_of_lt_of_le h3 s.next,h4,h5⟩,S.xlen,S.yv.mono s (by simp)⟩
theorem ChkF.toS {g0 g g':Heap}{p nb:Nat}{m:Md}{f:Fn}{c:Cv}{nm:List Bool}{xs:List (BitVec 64)}(S:ChkF g0 g p nb m f c nm xs){pc:Nat}{i:Ins}(hi:f.code[pc]?=some i)(s:Same [p] g g')(ha:g'.get p=some (.cells true (c.row m f (pc:Int) i))):ChkS g0 g' p nb m f pc i c nm xs:=by
 obtain⟨b,h1,h2,h3,h4,h5⟩:=S.xv
 exact⟨ha,Nat.lt_of_lt_of_le S.plt s.next,S.md,S.fn,S.s.old s (fun j hj=>.inr (by simp at hj;subst hj;exact S.hp)),S.hp,S.hn,S.sm,S.fs,S.wh,hi,S.f200,(s.get _ S.nlt (by simpa using S.ne)).trans S.nblk,Nat.lt_of_lt_of_le S.nlt s.next,S.neq,S.nlen,S.ne,⟨b,h1,(s.get _ h3 (by simpa using h4)).trans h2,Nat.lt_of_lt_of_le h3 s.next,h4,h5⟩,S.xlen,S.yv.mono s (by simp)⟩
theorem SD {h:Heap}{b o n:Nat}{vs cs vs':List AV}(hb:h.get b=some (.cells true vs))(hn:cs.length=n)(hs:cs.all scalar=true)(e:splice vs o cs=some vs') :
  stP n h (.ptr (some (b,o))) (.agg cs)=some (.bot,h.put b (some (.cells true vs'))):=by
 have e':(AV.agg cs).cells=cs:=rfl
 simp only [stP,e',hn,ne_eq,not_true_eq_false,if_false,storeN,hs,if_true,hb,DW,e]
 rfl
theorem Sy {g0 g:Heap}{p nb pf:Nat}{m:Md}{f:Fn}{c:Cv}{nm:List Bool}{xs:List (BitVec 64)}{sk:List Int}{x1:AV}{z:List AV}{n:Nat}
  (S:ChkF g0 g p nb m f c nm xs) (X:RdW g0 1 x1 (wI sk) sk.length) (hsk:sk.length≤1048576) (h4:(4:Int)∉sk) (h5:(5:Int)∉sk) (h7:(7:Int)∉sk) (hz:g0.get pf=some (.cells true z)) (hzl:z.length=3) (hpf:pf<g0.next) :
  Ok (F8 x1 (.ptr (some (pf,0))) (.int .i64 (n:Int)) (.ptr (some (p,0))) c.co (.int .i64 f.code.length) (.bool false) (.int .i64 0) g) fun r=>
   (r.1 = .exit 4∧r.2.1.getD 0 .bot = .bool false∧(fnR sk m f xs f.code 0 nm).1=none∧∃ v,ChkF g0 r.2.2 p nb m f { c with yv:=v } (fnR sk m f xs f.code 0 nm).2 xs)∨
   (r.1 = .ret∧r.2.1.getD 0 .bot = .bool false∧∃ pc q,(fnR sk m f xs f.code 0 nm).1=some (pc,q)∧Same [pf] g0 r.2.2∧r.2.2.get pf=some (.cells true (faultC n (pc:Nat) q))):=by
 have h200:=S.f200
 refine BF (fun k vs g'=>∃ (pc:Nat) (nm':List Bool) (v:AV),vs = [.bool false,.int .i64 (pc:Nat)]∧k+pc=f.code.length∧ChkF g0 g' p nb m f { c with yv:=v } nm' xs∧fnR sk m f xs f.code 0 nm=fnR sk m f xs (f.code.drop pc) pc nm') ?_ (n:=f.code.length) (by omega) ⟨0,nm,c.yv,rfl,by omega,S,rfl⟩
 rintro k vs g' ⟨pc,nm',v,rfl,hk,S',hE⟩
 rw [gD0,gD1]
 by_cases hp:pc<f.code.length
 ·have hp':(pc:Int)<f.code.length:=by omega
  obtain⟨i,hi⟩:∃ i,f.code[pc]?=some i:=⟨_,List.getElem?_eq_getElem hp⟩
  have cd:RwC g0 5 c.co (f.code.map Ins.row):=by obtain⟨_,_,_,e,_,h,_⟩:=S.fn;cases e;exact h
  obtain⟨b1,o1,_,hix,hla,_⟩:=(cd.mono S'.s.next fun j hj=>S'.s.get j hj (by simp)).at (i:=pc) (r:=i.row) (by rw [List.getElem?_map,hi];rfl)
  refine Ok.eq ?_ (by simp -implicitDefEqProofs only [Ed,AG,hp',decide_true,Option.bind_some,AB,hix,hla]<;>rfl)
  refine EV (cs:=i.row) (n:=5) (by rfl) (by rfl) (Ins.sc i) fun g1 s1 n1 b1=>?_
  obtain⟨c',hc'⟩:∃ c':Cv,c' = { c with yv:=v }:=⟨_,rfl⟩
  rw [← hc'] at S'
  have S1:=S'.keep s1
  have la:ldA 5 g1 (.ptr (some (g'.next,0)))=some (.agg i.row):=Ck b1 rfl
  obtain⟨pc0,i0,ha⟩:=S1.at_
  have hne:g'.next≠p:=fun h=>by have:=S'.plt;omega
  have st1:=Cl (v:=.int .i64 (pc:Int)) (o:=16) ha (by show 16 < 22;omega) rfl
  have er:(c'.row m f pc0 i0).set 16 (.int .i64 (pc:Int))=c'.row m f (pc:Int) i0:=rfl
  rw [er] at st1
  have hb2:(g1.put p (some (.cells true (c'.row m f (pc:Int) i0)))).get p=some (.cells true (c'.row m f (pc:Int) i0)):=An
  have st2:=SD (n:=5) (cs:=i.row) (o:=17) hb2 rfl (Ins.sc i) (vs':=c'.row m f (pc:Int) i) rfl
  have sA:Same [p] g1 (g1.put p (some (.cells true (c'.row m f (pc:Int) i0)))):=Same.put _ _ _
  have sB:Same [p] (g1.put p (some (.cells true (c'.row m f (pc:Int) i0)))) ((g1.put p (some (.cells true (c'.row m f (pc:Int) i0)))).put p (some (.cells true (c'.row m f (pc:Int) i)))):=Same.put _ _ _
  have hb3:((g1.put p (some (.cells true (c'.row m f (pc:Int) i0)))).put p (some (.cells true (c'.row m f (pc:Int) i)))).get p=some (.cells true (c'.row m f (pc:Int) i)):=An
  have laA:ldA 5 (g1.put p (some (.cells true (c'.row m f (pc:Int) i0)))) (.ptr (some (g'.next,0)))=some (.agg i.row):=Ck (by rw [Bd hne];exact b1) rfl
  have laB:ldA 5 ((g1.put p (some (.cells true (c'.row m f (pc:Int) i0)))).put p (some (.cells true (c'.row m f (pc:Int) i)))) (.ptr (some (g'.next,0)))=some (.agg i.row):=Ck (by rw [Bd hne,Bd hne];exact b1) rfl
  have SS:=S1.toS hi (sA.trans sB) hb3
  generalize (g1.put p (some (.cells true (c'.row m f (pc:Int) i0))))=gA at *
  generalize (gA.put p (some (.cells true (c'.row m f (pc:Int) i))))=gB at *
  have L1:=TN (n:=n) SS X hsk h4 h5 h7 hz hzl hpf
  refine Ok.eq ?_ (by simp -implicitDefEqProofs only [Bp (f:=fun k=>ldA 5 k (.ptr (some (g'.next,0)))) (h:=g1) la,st1,st2,Nat.zero_add,AO,AF,Option.bind_some,AZ,AY,Ac,AX,AL,AH,AD,Ad,AQ,AE,AM,AC,if_true,if_false,Bool.false_eq_true,AJ,AP,AG,AR,AK,AU,Int.reduceEq,Int.reduceLT,Int.reduceLE,decide_true,decide_false,AB,AA,Ae,Bool.not_true,Bool.not_false,AW]<;>rfl)
  rw [Cq (ML i) (by simp only [List.mem_cons,List.not_mem_nil,or_false,forall_eq_or_imp,forall_eq];exact⟨la,laA,laB⟩) (by simp),AW]
  refine CJ L1 ?_
  rintro e vs g2 (⟨rfl,hv,hn,v2,S2⟩ | ⟨rfl,hv,q,hq,s2,hb⟩)
  ·simp only at hv S2
   rw [hc'] at S2
   refine(Ok.of (r:=(Ex.normal,[AV.bool false,.int .i64 ((pc+1:Nat):Int)],g2)) (.inl ⟨rfl,k - 1,by omega,pc+1,_,v2,rfl,by omega,S2.toF,?_⟩)).eq (by simp -implicitDefEqProofs only [hv,Al,reduceCtorEq,Ap,suc64 pc (by omega),AO,AF,Option.bind_some,AZ,AY,Ac,AX,AL,AH,AD,Ad,AQ,AE,AM,AC,if_true,if_false,Bool.false_eq_true,AJ,AP,AG,AR,AK,AU,Int.reduceEq,Int.reduceLT,Int.reduceLE,decide_true,decide_false,AB,AA,Ae,Bool.not_true,Bool.not_false,AW])
   rw [hE,Nq hi]
   cases hI:insR sk m f xs pc i nm' with
   | mk o nm2=>
    rw [hI] at hn
    simp only at hn
    rw [hn]
  ·simp only at hv s2 hb
   refine(Ok.of (r:=(Ex.ret,[AV.bool false,.int .i64 (pc:Nat)],g2)) (.inr ⟨by simp,.inr ⟨rfl,rfl,pc,q,?_,s2,hb⟩⟩)).eq (by simp -implicitDefEqProofs only [hv,Cm,reduceCtorEq,AO,AF,Option.bind_some,AZ,AY,Ac,AX,AL,AH,AD,Ad,AQ,AE,AM,AC,if_true,if_false,Bool.false_eq_true,AJ,AP,AG,AR,AK,AU,Int.reduceEq,Int.reduceLT,Int.reduceLE,decide_true,decide_false,AB,AA,Ae,Bool.not_true,Bool.not_false,AW])
   rw [hE,Nq hi]
   cases hI:insR sk m f xs pc i nm' with
   | mk o nm2=>
    rw [hI] at hq
    simp only at hq
    rw [hq]
 ·have hp' : ¬ (pc:Int)<f.code.length:=by omega
  have e0:f.code.drop pc = []:=List.drop_eq_nil_of_le (by omega)
  rw [e0] at hE
  exact(Ok.of (r:=(Ex.exit 4,[AV.bool false,.int .i64 (pc:Nat)],g')) (.inr ⟨by simp,.inl ⟨rfl,rfl,by rw [hE];rfl,v,by rw [hE];exact S'⟩⟩)).eq (by
   simp -implicitDefEqProofs only [Ed,AG,hp',decide_false,Option.bind_some,AA])
set_option linter.all false
attribute [local congr] BI D1 Dy D2 Bu D3 Dz Aw Av
theorem QV {m:Md}{f:Fn}{s t:List (BitVec 64)}(hs:s.length=f.code.length)(ht:t.length=f.code.length)(fs:Fix m f s)(ft:Fix m f t)(ls:Low m f s)(lt:Low m f t):s=t:=by
 have a:=ls t fun pc i hi=>by rw [ft pc i hi];exact SubW.refl _
 have b:=lt s fun pc i hi=>by rw [fs pc i hi];exact SubW.refl _
 apply List.ext_getElem (by omega)
 intro n h1 h2
 have:=(a n).antisymm (b n)
 rw [List.getD_eq_getElem?_getD,List.getD_eq_getElem?_getD,List.getElem?_eq_getElem h1,List.getElem?_eq_getElem h2] at this
 exact this
noncomputable def mapsT (m:Md)(f:Fn):List (BitVec 64):=open Classical in if h:∃ s:List (BitVec 64),s.length=f.code.length∧Fix m f s∧Low m f s then(Classical.choose h).map fun a=>a &&& kindsB (f.kinds.take 64) else []
theorem Ll {m:Md}{f:Fn}{s:List (BitVec 64)}(h1:s.length=f.code.length)(h2:Fix m f s)(h3:Low m f s):mapsT m f=s.map fun a=>a &&& kindsB (f.kinds.take 64):=by
 unfold mapsT
 rw [dif_pos ⟨s,h1,h2,h3⟩]
 obtain⟨a1,a2,a3⟩:=Classical.choose_spec (p:=fun s:List (BitVec 64)=>s.length=f.code.length∧Fix m f s∧Low m f s) ⟨s,h1,h2,h3⟩
 rw [QV a1 h1 a2 h2 a3 h3]
noncomputable def mdR (sk:List Int)(m:Md):List Fn→Nat→List Bool→Option (Nat × Nat × Int) × List Bool
 | [],_,nm=>(none,nm)
 | f::l,n,nm=>match fnR sk m f (mapsT m f) f.code 0 nm with | (some (pc,r),nm')=>(some (n,pc,r),nm') | (none,nm')=>mdR sk m l (n+1) nm'
theorem Ng {sk:List Int}{m:Md}{n:Nat}{f:Fn}(h:m.funcs[n]?=some f)(nm:List Bool):mdR sk m (m.funcs.drop n) n nm=match fnR sk m f (mapsT m f) f.code 0 nm with | (some (pc,r),nm')=>(some (n,pc,r),nm') | (none,nm')=>mdR sk m (m.funcs.drop (n+1)) (n+1) nm':=by
 have hp:=(List.getElem?_eq_some_iff.1 h).1
 have e:m.funcs[n]=f:=by rw [List.getElem?_eq_getElem hp] at h;exact Option.some.inj h
 rw [List.drop_eq_getElem_cons hp,e,mdR]
theorem M4 {place:Nat→Option (Nat × Nat)}{cells cs:List AV}{i off size:Nat}{v:AV}{rest:List (Nat × AV)}(h1:place i=some (off,size))(h2:v.cells.length=size)(h3:v.cells.all scalar=true)(h4:splice cells off v.cells=some cs):fillA place cells ((i,v)::rest)=fillA place cs rest:=by
 rw [fillA,h1,Option.bind_some]
 simp only [h2,h3,ne_eq,not_true_eq_false,Bool.true_eq_false,or_self,if_false,h4,Option.bind_some]
theorem RdW.sm {h:Heap}{sz n:Nat}{v:AV}{cs:List AV}(H:RdW h sz v cs n):sameS v v=true:=by
 rcases H.eq with⟨rfl,_⟩ | ⟨b,o,c,rfl,_⟩<;>simp [sameS]
theorem RwC.sm {h:Heap}{sz:Nat}{v:AV}{l:List (List AV)}(H:RwC h sz v l):sameS v v=true:=by
 obtain⟨cs,h1,_⟩:=H
 exact h1.sm
theorem MdRd.sm {h:Heap}{v:AV}{m:Md}(H:MdRd h v m):same v v=true:=by
 obtain⟨sv,gv,kv,cv,fv,rfl,h1,h2,h3,h4,⟨rows,h5,_⟩,_⟩:=H
 simp only [same,sameL,h1.sm,h2.sm,h3.sm,h4.sm,h5.sm,Bool.and_self,Bool.and_true]
 simp [sameS]
theorem FnRd.sm {h:Heap}{r:List AV}{f:Fn}(H:FnRd h r f):same (.agg r) (.agg r)=true:=by
 obtain⟨kv,cv,mv,rfl,h1,h2,h3,_⟩:=H
 simp only [same,sameL,h1.sm,h2.sm,h3.sm,Bool.and_self,Bool.and_true]
 simp [sameS]
theorem TQ {g0 g:Heap}{pm nb pf:Nat}{m:Md}{nm:List Bool}{sv gv kv cv fv:AV}{sk:List Int}{x1:AV}{z:List AV}
  (B:MdB g0 pm m sv gv kv cv fv) (hs:Same [] g0 g) (hn:g0.next≤nb) (hnb:g.get nb=some (.cells true (nm.map AV.bool))) (hnl:nb<g.next) (hnm:nm.length=m.cases.length) (sm:SmV m) (fs:∀ (n:Nat) f',m.funcs[n]?=some f'→Whole f')
  (X:RdW g0 1 x1 (wI sk) sk.length) (hsk:sk.length≤1048576) (h4:(4:Int)∉sk) (h5:(5:Int)∉sk) (h7:(7:Int)∉sk) (hz:g0.get pf=some (.cells true z)) (hzl:z.length=3) (hpf:pf<g0.next) :
  Ok (Fp x1 (.ptr (some (pm,0))) (.ptr (some (pf,0))) (.sl (some (nb,0)) m.cases.length (.ex m.cases.length)) fv (.int .i64 m.funcs.length) (.bool false) (.int .i64 0) g) fun r=>
   (r.1 = .exit 2∧r.2.1.getD 0 .bot = .bool false∧(mdR sk m m.funcs 0 nm).1=none∧Same [] g0 r.2.2)∨
   (r.1 = .ret∧r.2.1.getD 0 .bot = .bool false∧∃ n pc q,(mdR sk m m.funcs 0 nm).1=some (n,pc,q)∧Same [pf] g0 r.2.2∧r.2.2.get pf=some (.cells true (faultC (n:Nat) (pc:Nat) q))):=by
 have h20:=sm.1
 refine BF (fun k vs g'=>∃ (n:Nat) (nm':List Bool),vs = [.bool false,.int .i64 (n:Nat)]∧k+n=m.funcs.length∧Same [] g0 g'∧g'.get nb=some (.cells true (nm'.map AV.bool))∧nb<g'.next∧nm'.length=m.cases.length∧mdR sk m m.funcs 0 nm=mdR sk m (m.funcs.drop n) n nm') ?_ (n:=m.funcs.length) (by omega) ⟨0,nm,rfl,by omega,hs,hnb,hnl,hnm,rfl⟩
 rintro k vs g' ⟨n,nm',rfl,hk,s',hb',hl',hm',hE⟩
 rw [gD0,gD1]
 by_cases hp:n<m.funcs.length
 ·have hp':(n:Int)<m.funcs.length:=by omega
  obtain⟨f,hf⟩:∃ f,m.funcs[n]?=some f:=⟨_,List.getElem?_eq_getElem hp⟩
  obtain⟨b,o,ks,co,mv,hb,ix,FR,la,_⟩:=B.fn hf
  have la':ldA 7 g' (.ptr (some (b,o)))=some (.agg [.int .i64 f.pa,.int .i64 f.ca,.int .i64 f.sl,.int .i64 f.re,ks,co,mv]):=by rw [← la];simp only [ldA,loadN,s'.get b hb (by simp)]
  have hsc:([AV.int .i64 f.pa,.int .i64 f.ca,.int .i64 f.sl,.int .i64 f.re,ks,co,mv]:List AV).all scalar=true:=FR.sc
  refine Ok.eq ?_ (by simp -implicitDefEqProofs only [Ee,AG,hp',decide_true,Option.bind_some,AB,ix,la']<;>rfl)
  refine EV (cs:=[AV.int .i64 f.pa,.int .i64 f.ca,.int .i64 f.sl,.int .i64 f.re,ks,co,mv]) (n:=7) (by rfl) (by rfl) hsc fun g1 s1 n1 b1=>?_
  have sP:=FM g1 1
  have sG:=(s'.trans s1).trans sP
  have BG:=B.mono sG
  have lm:=BG.la
  have bG:(hpN g1 1).get g'.next=some (.cells true [AV.int .i64 f.pa,.int .i64 f.ca,.int .i64 f.sl,.int .i64 f.re,ks,co,mv]):=(sP.get _ (by omega) (by simp)).trans b1
  have lf:ldA 7 (hpN g1 1) (.ptr (some (g'.next,0)))=some (.agg [AV.int .i64 f.pa,.int .i64 f.ca,.int .i64 f.sl,.int .i64 f.re,ks,co,mv]):=Ck bG rfl
  have hnG:(hpN g1 1).next=g1.next+1:=rfl
  have h200:=(sm.2.2.1 n f hf).1
  refine Ok.eq ?_ (by simp -implicitDefEqProofs only [Bp (f:=fun k=>ldA 6 k (.ptr (some (pm,0)))) (h:=hpN g1 1) lm,Bp (f:=fun k=>ldA 7 k (.ptr (some (g'.next,0)))) (h:=hpN g1 1) lf,lm,lf,Nat.zero_add,AO,AF,Option.bind_some,AZ,AY,Ac,AX,AL,AH,AD,Ad,AQ,AE,AM,AC,if_true,if_false,Bool.false_eq_true,AJ,AP,AG,AR,AK,AU,Int.reduceEq,Int.reduceLT,Int.reduceLE,decide_true,decide_false,AB,AA,Ae,Bool.not_true,Bool.not_false,AW]<;>rfl)
  generalize hG:hpN g1 1=G at *
  refine Ao (Rn BG.rd (FR.mono sG.next fun j hj=>sG.get j hj (by simp)) sm.2.1 (by omega)) ?_
  rintro xv g2 ⟨s,M⟩
  simp only at M
  have sM:=M.same
  have hml:=M.len
  have hT:=Ll M.len M.fix M.low
  obtain⟨bx,rfl,hx1,hx2,hx3⟩:=M.eq
  have hxl:(mapsT m f).length=s.length:=by rw [hT,List.length_map]
  rw [← hxl]
  rw [← hT] at hx3
  have hscm:([sv,gv,kv,cv,fv,.int .i64 m.main]:List AV).all scalar=true:=by
   obtain⟨rows,hr,_⟩:=B.fs
   simp only [List.all_cons,List.all_nil,B.sh.sc,B.gl.sc,B.ks.sc,B.cs.sc,hr.sc,Bool.and_true,Bool.true_and];rfl
  have hbld:bldS [(0,6),(6,7),(13,1),(14,1),(15,1),(16,1),(17,5)] [(AV.sl none 0 (.ex 0)),(AV.sl none 0 (.ex 0)),(AV.sl none 0 (.ex 0)),(AV.sl none 0 (.ex 0)),(AV.sl none 0 (.ex 0)),(AV.int .i64 0),(AV.int .i64 0),(AV.int .i64 0),(AV.int .i64 0),(AV.int .i64 0),(AV.sl none 0 (.ex 0)),(AV.sl none 0 (.ex 0)),(AV.sl none 0 (.ex 0)),(AV.sl none 0 (.ex 0)),(AV.sl none 0 (.ex 0)),(AV.sl none 0 (.ex 0)),(AV.int .i64 0),(AV.int .i64 0),(AV.int .i64 0),(AV.int .i64 0),(AV.int .i64 0),(AV.int .i64 0)] [(0,.agg [sv,gv,kv,cv,fv,.int .i64 m.main]),(1,.agg [AV.int .i64 f.pa,.int .i64 f.ca,.int .i64 f.sl,.int .i64 f.re,ks,co,mv]),(2,.sl (some (bx,0)) (mapsT m f).length (.ex (mapsT m f).length)),(4,.sl (some (nb,0)) m.cases.length (.ex m.cases.length))]=some (.agg (Cv.row ⟨sv,gv,kv,cv,fv,ks,co,mv,.sl (some (bx,0)) (mapsT m f).length (.ex (mapsT m f).length),.sl none 0 (.ex 0),.sl (some (nb,0)) m.cases.length (.ex m.cases.length)⟩ m f 0 ⟨0,0,0,0,0⟩)):=by
   have e1:=M4 (place:=([(0,6),(6,7),(13,1),(14,1),(15,1),(16,1),(17,5)][·]?)) (cells:=[(AV.sl none 0 (.ex 0)),(AV.sl none 0 (.ex 0)),(AV.sl none 0 (.ex 0)),(AV.sl none 0 (.ex 0)),(AV.sl none 0 (.ex 0)),(AV.int .i64 0),(AV.int .i64 0),(AV.int .i64 0),(AV.int .i64 0),(AV.int .i64 0),(AV.sl none 0 (.ex 0)),(AV.sl none 0 (.ex 0)),(AV.sl none 0 (.ex 0)),(AV.sl none 0 (.ex 0)),(AV.sl none 0 (.ex 0)),(AV.sl none 0 (.ex 0)),(AV.int .i64 0),(AV.int .i64 0),(AV.int .i64 0),(AV.int .i64 0),(AV.int .i64 0),(AV.int .i64 0)]) (i:=0) (off:=0) (size:=6) (v:=.agg [sv,gv,kv,cv,fv,.int .i64 m.main]) (rest:=[(1,.agg [AV.int .i64 f.pa,.int .i64 f.ca,.int .i64 f.sl,.int .i64 f.re,ks,co,mv]),(2,.sl (some (bx,0)) (mapsT m f).length (.ex (mapsT m f).length)),(4,.sl (some (nb,0)) m.cases.length (.ex m.cases.length))]) rfl rfl hscm rfl
   have e2:=M4 (place:=([(0,6),(6,7),(13,1),(14,1),(15,1),(16,1),(17,5)][·]?)) (cells:=[sv,gv,kv,cv,fv,.int .i64 m.main,(AV.int .i64 0),(AV.int .i64 0),(AV.int .i64 0),(AV.int .i64 0),(AV.sl none 0 (.ex 0)),(AV.sl none 0 (.ex 0)),(AV.sl none 0 (.ex 0)),(AV.sl none 0 (.ex 0)),(AV.sl none 0 (.ex 0)),(AV.sl none 0 (.ex 0)),(AV.int .i64 0),(AV.int .i64 0),(AV.int .i64 0),(AV.int .i64 0),(AV.int .i64 0),(AV.int .i64 0)]) (i:=1) (off:=6) (size:=7) (v:=.agg [AV.int .i64 f.pa,.int .i64 f.ca,.int .i64 f.sl,.int .i64 f.re,ks,co,mv]) (rest:=[(2,.sl (some (bx,0)) (mapsT m f).length (.ex (mapsT m f).length)),(4,.sl (some (nb,0)) m.cases.length (.ex m.cases.length))]) rfl rfl hsc rfl
   unfold bldS
   rw [e1]
   refine(congrArg (Option.map AV.agg) e2).trans ?_
   rfl
  obtain⟨c,hc⟩:∃ c:Cv,c=⟨sv,gv,kv,cv,fv,ks,co,mv,.sl (some (bx,0)) (mapsT m f).length (.ex (mapsT m f).length),.sl none 0 (.ex 0),.sl (some (nb,0)) m.cases.length (.ex m.cases.length)⟩:=⟨_,rfl⟩
  rw [← hc] at hbld
  have hsc2:((c.row m f 0 ⟨0,0,0,0,0⟩).all scalar)=true:=by
   rw [hc]
   simp only [List.all_cons,List.all_nil,Bool.and_true,Bool.and_eq_true] at hsc
   obtain⟨rows,hr,_⟩:=B.fs
   simp only [Cv.row,List.all_cons,List.all_nil,hr.sc,B.sh.sc,B.gl.sc,B.ks.sc,B.cs.sc,hsc.1,hsc.2.1,hsc.2.2.1,hsc.2.2.2.1,hsc.2.2.2.2.1,hsc.2.2.2.2.2.1,hsc.2.2.2.2.2.2,Bool.and_true,Bool.true_and]
   rfl
  have hbx:=GL hsc2
  have sQ:Same [g1.next] g2 (g2.put g1.next (some (.cells true (c.row m f 0 ⟨0,0,0,0,0⟩)))):=Same.put _ _ _
  have hq:(g2.put g1.next (some (.cells true (c.row m f 0 ⟨0,0,0,0,0⟩)))).get g1.next=some (.cells true (c.row m f 0 ⟨0,0,0,0,0⟩)):=An
  have sM':=sM.next
  have s02:=sG.trans sM
  have lm2:=(B.mono s02).la
  have b2:g2.get g'.next=some (.cells true [AV.int .i64 f.pa,.int .i64 f.ca,.int .i64 f.sl,.int .i64 f.re,ks,co,mv]):=(sM.get _ (by omega) (by simp)).trans bG
  have lf2:ldA 7 g2 (.ptr (some (g'.next,0)))=some (.agg [AV.int .i64 f.pa,.int .i64 f.ca,.int .i64 f.sl,.int .i64 f.re,ks,co,mv]):=Ck b2 rfl
  have l5:ldS (g2.put g1.next (some (.cells true (c.row m f 0 ⟨0,0,0,0,0⟩)))) (.ptr (some (g'.next,5)))=some co:=by rw [Ai (by rw [Bd (by omega)];exact b2)];rfl
  have lnc:lnL co=some (.int .i64 f.code.length):=by
   obtain⟨_,_,_,e,_,h,_⟩:=FR
   cases e
   have:=h.lnL
   rwa [List.length_map] at this
  have C:ChkF g0 (g2.put g1.next (some (.cells true (c.row m f 0 ⟨0,0,0,0,0⟩)))) g1.next nb m f c nm' (mapsT m f):=by
   have:=s'.next;have:=s1.next
   refine⟨⟨_,_,hq⟩,by show g1.next<g2.next;omega,by rw [hc];exact B.rd,by rw [hc];exact FR,s02.old sQ (fun j hj=>.inr (by simp at hj;omega)),by omega,hn,sm,fs,fs n f hf,h200,?_,by show nb<g2.next;omega,by rw [hc,hm'],hm',by omega,⟨bx,by rw [hc],?_,by show bx<g2.next;omega,by omega,by omega⟩,hxl.trans hml,.inl (by rw [hc])⟩
   ·rw [Bd (by omega),sM.get _ (by omega) (by simp),sP.get _ (by omega) (by simp),s1.get _ (by omega) (by simp)];exact hb'
   ·rw [Bd (by omega)];exact hx3
  have hcco:c.co=co:=by rw [hc]
  generalize hg3:(g2.put g1.next (some (.cells true (c.row m f 0 ⟨0,0,0,0,0⟩))))=g3 at *
  have L2:=Sy (n:=n) C X hsk h4 h5 h7 hz hzl hpf
  rw [hcco] at L2
  refine Ok.eq ?_ (by simp -implicitDefEqProofs only [hbld,hbx,Eu,hg3,Nat.add_zero,AO,AF,Option.bind_some,AZ,AY,Ac,AX,AL,AH,AD,Ad,AQ,AE,AM,AC,if_true,if_false,Bool.false_eq_true,AJ,AP,AG,AR,AK,AU,Int.reduceEq,Int.reduceLT,Int.reduceLE,decide_true,decide_false,AB,AA,Ae,Bool.not_true,Bool.not_false,AW]<;>rfl)
  rw [Cq FR.sm (by simp only [List.mem_cons,List.not_mem_nil,or_false,forall_eq_or_imp,forall_eq];exact⟨lf,lf2⟩) (by simp),Cq B.rd.sm (by simp only [List.mem_cons,List.not_mem_nil,or_false,forall_eq_or_imp,forall_eq];exact⟨lm,lm2⟩) (by simp),AW]
  refine Ok.eq ?_ (by simp -implicitDefEqProofs only [l5,lnc,Nat.zero_add,AO,AF,Option.bind_some,AZ,AY,Ac,AX,AL,AH,AD,Ad,AQ,AE,AM,AC,if_true,if_false,Bool.false_eq_true,AJ,AP,AG,AR,AK,AU,Int.reduceEq,Int.reduceLT,Int.reduceLE,decide_true,decide_false,AB,AA,Ae,Bool.not_true,Bool.not_false,AW]<;>rfl)
  refine CJ L2 ?_
  rintro e vs g4 (⟨rfl,hv,hno,v2,C2⟩ | ⟨rfl,hv,pc,q,hq,s2,hb⟩)
  ·simp only at hv C2
   refine(Ok.of (r:=(Ex.normal,[AV.bool false,.int .i64 ((n+1:Nat):Int)],g4)) (.inl ⟨rfl,k - 1,by omega,n+1,_,rfl,by omega,C2.s,C2.nblk,C2.nlt,C2.nlen,?_⟩)).eq (by simp -implicitDefEqProofs only [hv,Al,reduceCtorEq,Ap,suc64 n (by omega),AO,AF,Option.bind_some,AZ,AY,Ac,AX,AL,AH,AD,Ad,AQ,AE,AM,AC,if_true,if_false,Bool.false_eq_true,AJ,AP,AG,AR,AK,AU,Int.reduceEq,Int.reduceLT,Int.reduceLE,decide_true,decide_false,AB,AA,Ae,Bool.not_true,Bool.not_false,AW])
   rw [hE,Ng hf]
   cases hI:fnR sk m f (mapsT m f) f.code 0 nm' with
   | mk o nm2=>
    rw [hI] at hno
    simp only at hno
    rw [hno]
  ·simp only at hv s2 hb
   refine(Ok.of (r:=(Ex.ret,[AV.bool false,.int .i64 (n:Nat)],g4)) (.inr ⟨by simp,.inr ⟨rfl,rfl,n,pc,q,?_,s2,hb⟩⟩)).eq (by simp -implicitDefEqProofs only [hv,Cm,reduceCtorEq,AO,AF,Option.bind_some,AZ,AY,Ac,AX,AL,AH,AD,Ad,AQ,AE,AM,AC,if_true,if_false,Bool.false_eq_true,AJ,AP,AG,AR,AK,AU,Int.reduceEq,Int.reduceLT,Int.reduceLE,decide_true,decide_false,AB,AA,Ae,Bool.not_true,Bool.not_false,AW])
   rw [hE,Ng hf]
   cases hI:fnR sk m f (mapsT m f) f.code 0 nm' with
   | mk o nm2=>
    rw [hI] at hq
    simp only at hq
    rw [hq]
 ·have hp' : ¬ (n:Int)<m.funcs.length:=by omega
  have e0:m.funcs.drop n = []:=List.drop_eq_nil_of_le (by omega)
  rw [e0] at hE
  exact(Ok.of (r:=(Ex.exit 2,[AV.bool false,.int .i64 (n:Nat)],g')) (.inr ⟨by simp,.inl ⟨rfl,rfl,by rw [hE];rfl,s'⟩⟩)).eq (by
   simp -implicitDefEqProofs only [Ee,AG,hp',decide_false,Option.bind_some,AA])
set_option linter.all false
attribute [local congr] BI D1 Dy D2 Bu D3 Dz Aw Av
def fbW:List Fn→Nat→Option Nat
 | [],_=>none
 | f::l,n=>if Whole f then fbW l (n+1) else some n
theorem LX:∀ {l:List Fn} {n:Nat},(∀ f∈l,Whole f)→fbW l n=none
 | [],_,_=>rfl
 | f::l,n,h=>by rw [fbW,if_pos (h f (List.mem_cons_self ..))];exact LX fun g hg=>h g (List.mem_cons_of_mem _ hg)
theorem Nj:∀ {l:List Fn} {n i:Nat} {f:Fn},l[i]?=some f→¬ Whole f→(∀ (j:Nat) f',j<i→l[j]?=some f'→Whole f')→fbW l n=some (n+i)
 | [],_,_,_,h,_,_=>by simp at h
 | g::l,n,0,f,h,hw,_=>by simp at h;subst h;rw [fbW,if_neg hw];rfl
 | g::l,n,i+1,f,h,hw,ha=>by
  rw [fbW,if_pos (ha 0 g (by omega) rfl),Nj (l:=l) (n:=n+1) (i:=i) (f:=f) (by simpa using h) hw fun j f' hj hf=>ha (j+1) f' (by omega) (by simpa using hf)]
  congr 1;omega
noncomputable def withR (sk:List Int)(m:Md)(shs:List Shp):Option (Int × Int × Int):=open Classical in
 if ¬ Mod1 m shs then some (-1,-1,1) else if ¬ Mod2 m then some (-1,-1,2) else
 match fbW m.funcs 0 with
 | some n=>some ((n:Int),-1,3)
 | none=>match (mdR sk m m.funcs 0 (List.replicate m.cases.length false)).1 with | some (n,pc,r)=>some ((n:Int),(pc:Int),r) | none=>none
def faultO:Option (Int × Int × Int)→List AV
 | none=>faultC 0 0 0
 | some (n,pc,r)=>faultC n pc r
theorem SU:∀ n:Nat,rep [AV.bool false] n=(List.replicate n false).map AV.bool
 | 0=>rfl
 | n+1=>by rw [rep,SU n,List.replicate_succ];rfl
theorem OU {h:Heap}{v x1:AV}{m:Md}{shs:List Shp}{sk:List Int}(H:MdRd h v m)(hs:m.shapes=shs.map Shp.row)(sm:SmV m)
  (X:RdW h 1 x1 (wI sk) sk.length) (hsk:sk.length≤1048576) (h4:(4:Int)∉sk) (h5:(5:Int)∉sk) (h7:(7:Int)∉sk) :
  Ok (Di v x1 h) fun r=>Same [] h r.2∧r.1 = .tup [.agg (faultO (withR sk m shs)),.bool (withR sk m shs).isNone]:=by
 have hs1:shs.length≤4611686018427387904:=by have:=sm.2.2.2.1;rw [hs,List.length_map] at this;omega
 have hs2:m.consts.length≤4611686018427387904:=by have:=sm.2.2.2.2.2;omega
 obtain⟨sv,gv,kv,cv,fv,rfl,hbx,B⟩:=H.box
 obtain⟨g,hg⟩:∃ g,g=h.new (.cells true [sv,gv,kv,cv,fv,.int .i64 m.main]):=⟨_,rfl⟩
 have s:Same [] h g:=by rw [hg];exact Same.new _ _
 rw [← hg] at B
 obtain⟨g1,hg1⟩:∃ g1,g1=g.new (.cells true [(AV.int .i64 0),(AV.int .i64 0),(AV.int .i64 0)]):=⟨_,rfl⟩
 have s1:Same [] g g1:=by rw [hg1];exact Same.new _ _
 have b1:g1.get g.next=some (.cells true [(AV.int .i64 0),(AV.int .i64 0),(AV.int .i64 0)]):=by rw [hg1];exact Am
 have n1:g1.next=g.next+1:=by rw [hg1];rfl
 have B1:=B.mono s1
 have la:=B1.la
 refine Ok.eq ?_ (by simp -implicitDefEqProofs only [Di,hbx,Af,← hg,← hg1,la,Option.bind_some]<;>rfl)
 have H1:=H.mono (s.trans s1).next fun j hj=>(s.trans s1).get j hj (by simp)
 refine Ao (OK H1 hs hs1 hs2) ?_
 rintro _ g2 ⟨s2,n,rfl,hn⟩
 simp only at s2
 have b2:=(s2.get g.next (by omega) (by simp)).trans b1
 have sh2:=(s.trans s1).trans s2
 have bad:∀ k:Int,0<k→n=k→withR sk m shs=some (-1,-1,k)→Ok (cl (stP 3 g2 (.ptr (some (g.next,0))) (.agg (faultC (-1) (-1) k))) fun u h3=>(ldA 3 h3 (.ptr (some (g.next,0)))).bind fun t=>some (AV.tup [t,(AV.bool false)],h3)) fun r=>Same [] h r.2∧r.1 = .tup [.agg (faultO (withR sk m shs)),.bool (withR sk m shs).isNone]:=fun k hk hnk hw=>by
  have st:=Ds (n:=3) b2 rfl (show(faultC (-1) (-1) k).length=3 from rfl) rfl
  have l3:ldA 3 (g2.put g.next (some (.cells true (faultC (-1) (-1) k)))) (.ptr (some (g.next,0)))=some (.agg (faultC (-1) (-1) k)):=Ck An rfl
  rw [st,AE,l3,Option.bind_some,hw]
  exact Ok.of (r:=(AV.tup [.agg (faultC (-1) (-1) k),.bool false],_)) ⟨sh2.old (Same.put _ _ _) (fun j hj=>.inr (by simp at hj;subst hj;exact s.next)),rfl⟩
 have ebl:∀ k:Int,bldS [(0,1),(1,1),(2,1)] [(AV.int .i64 0),(AV.int .i64 0),(AV.int .i64 0)] [(0,(AV.int .i64 (-1))),(1,(AV.int .i64 (-1))),(2,.int .i64 k)]=some (.agg (faultC (-1) (-1) k)):=fun k=>rfl
 rcases hn with⟨e,M1,M2⟩ | ⟨e,M1⟩ | ⟨e,M1,M2⟩
 rotate_left
 ·subst e
  exact(bad 1 (by omega) rfl (by rw [withR,if_pos M1])).eq (by simp -implicitDefEqProofs only [ebl,AO,AF,Option.bind_some,AZ,AY,Ac,AX,AL,AH,AD,Ad,AQ,AE,AM,AC,if_true,if_false,Bool.false_eq_true,AJ,AP,AG,AR,AK,AU,Int.reduceEq,Int.reduceLT,Int.reduceLE,decide_true,decide_false,AB,AA,Ae,Bool.not_true,Bool.not_false,AW])
 ·subst e
  exact(bad 2 (by omega) rfl (by rw [withR,if_neg (fun h=>h M1),if_pos M2])).eq (by simp -implicitDefEqProofs only [ebl,AO,AF,Option.bind_some,AZ,AY,Ac,AX,AL,AH,AD,Ad,AQ,AE,AM,AC,if_true,if_false,Bool.false_eq_true,AJ,AP,AG,AR,AK,AU,Int.reduceEq,Int.reduceLT,Int.reduceLE,decide_true,decide_false,AB,AA,Ae,Bool.not_true,Bool.not_false,AW])
 subst e
 have B2:=B1.mono s2
 have q4:=B2.l4
 have ln4:=B2.ln4
 refine Ok.eq ?_ (by simp -implicitDefEqProofs only [AR,show ¬ (0:Int) < 0 by omega,decide_false,Option.bind_some,AA,AF,q4,ln4]<;>rfl)
 refine CJ (S9 B2 b2 rfl (by have:=s2.next;omega)) ?_
 rintro e vs g3 (⟨rfl,hA,hv,s3⟩ | ⟨rfl,hv,s3,j,f',hf',hw',hall',hb⟩)
 ·simp only at hv s3
  have hfb:=LX (n:=0) hA
  have B3:=B2.mono s3
  have q3:=B3.l3;have ln3:=B3.ln3
  have hcl:=sm.2.1
  have hms:msP 1 1 [AV.bool false] (.int .i64 (m.cases.length:Int)) (.int .i64 (m.cases.length:Int))=some (.cells true ((List.replicate m.cases.length false).map AV.bool),fun i=>.sl (some (i,0)) m.cases.length (.ex m.cases.length)):=by
   simp only [msP]
   rw [if_pos ⟨by omega,by omega,by omega,by omega,rfl⟩]
   simp only [Int.toNat_natCast,SU]
  obtain⟨g4,hg4⟩:∃ g4,g4=g3.new (.cells true ((List.replicate m.cases.length false).map AV.bool)):=⟨_,rfl⟩
  have s4:Same [] g3 g4:=by rw [hg4];exact Same.new _ _
  have b4:g4.get g3.next=some (.cells true ((List.replicate m.cases.length false).map AV.bool)):=by rw [hg4];exact Am
  have n4:g4.next=g3.next+1:=by rw [hg4];rfl
  have q4':=(B3.mono s4).l4
  have ln4':=(B3.mono s4).ln4
  have s03:=sh2.trans s3
  have hpf:g.next<g3.next:=by have:=s2.next;have:=s3.next;omega
  have b3:=(s3.get g.next (by have:=s2.next;omega) (by simp)).trans b2
  refine Ok.eq ?_ (by simp -implicitDefEqProofs only [Al,q3,ln3,hms,Af,← hg4,q4',ln4',hv,Nat.zero_add,AO,AF,Option.bind_some,AZ,AY,Ac,AX,AL,AH,AD,Ad,AQ,AE,AM,AC,if_true,if_false,Bool.false_eq_true,AJ,AP,AG,AR,AK,AU,Int.reduceEq,Int.reduceLT,Int.reduceLE,decide_true,decide_false,AB,AA,Ae,Bool.not_true,Bool.not_false,AW]<;>rfl)
  refine CJ (TQ (sk:=sk) B3 s4 (Nat.le_refl _) b4 (by omega) (by simp) sm (fun n f' hf=>hA f' (List.mem_of_getElem? hf)) (X.mono s03.next fun j hj=>s03.get j hj (by simp)) hsk h4 h5 h7 b3 rfl hpf) ?_
  rintro e vs2 g5 (⟨rfl,hv2,hno,s5⟩ | ⟨rfl,hv2,n,pc,q,hq,s5,hb⟩)
  ·simp only at hv2 s5
   have hw:withR sk m shs=none:=by rw [withR,if_neg (fun h=>h M1),if_neg (fun h=>h M2),hfb];simp only [hno]
   have b5:=(s5.get g.next hpf (by simp)).trans b3
   have st:=Ds (n:=3) b5 rfl (show(faultC 0 0 0).length=3 from rfl) rfl
   have l3:ldA 3 (g5.put g.next (some (.cells true (faultC 0 0 0)))) (.ptr (some (g.next,0)))=some (.agg (faultC 0 0 0)):=Ck An rfl
   refine Ah (v:=.tup [.agg (faultC 0 0 0),.bool true]) (g:=g5.put g.next (some (.cells true (faultC 0 0 0)))) (by simp -implicitDefEqProofs only [Al,show bldS [(0,1),(1,1),(2,1)] [(AV.int .i64 0),(AV.int .i64 0),(AV.int .i64 0)] []=some (.agg (faultC 0 0 0)) from rfl,st,l3,AO,AF,Option.bind_some,AZ,AY,Ac,AX,AL,AH,AD,Ad,AQ,AE,AM,AC,if_true,if_false,Bool.false_eq_true,AJ,AP,AG,AR,AK,AU,Int.reduceEq,Int.reduceLT,Int.reduceLE,decide_true,decide_false,AB,AA,Ae,Bool.not_true,Bool.not_false,AW]) ⟨(s03.trans s5).old (Same.put _ _ _) (fun j hj=>.inr (by simp at hj;subst hj;exact s.next)),by rw [hw];rfl⟩
  ·simp only at hv2 s5 hb
   have hw:withR sk m shs=some ((n:Int),(pc:Int),q):=by rw [withR,if_neg (fun h=>h M1),if_neg (fun h=>h M2),hfb];simp only [hq]
   have l3:ldA 3 g5 (.ptr (some (g.next,0)))=some (.agg (faultC (n:Nat) (pc:Nat) q)):=Ck hb rfl
   exact Ah (v:=.tup [.agg (faultC (n:Nat) (pc:Nat) q),.bool false]) (g:=g5) (by simp -implicitDefEqProofs only [reduceCtorEq,Cm,Dx,l3,hv2,AO,AF,Option.bind_some,AZ,AY,Ac,AX,AL,AH,AD,Ad,AQ,AE,AM,AC,if_true,if_false,Bool.false_eq_true,AJ,AP,AG,AR,AK,AU,Int.reduceEq,Int.reduceLT,Int.reduceLE,decide_true,decide_false,AB,AA,Ae,Bool.not_true,Bool.not_false,AW]) ⟨s03.old s5 (fun j hj=>.inr (by simp at hj;subst hj;exact s.next)),by rw [hw];rfl⟩
 ·simp only at hv s3 hb
  have hw:withR sk m shs=some ((j:Int),-1,3):=by rw [withR,if_neg (fun h=>h M1),if_neg (fun h=>h M2),Nj hf' hw' hall',Nat.zero_add]
  have l3:ldA 3 g3 (.ptr (some (g.next,0)))=some (.agg (faultC (j:Nat) (-1) 3)):=Ck hb rfl
  exact Ah (v:=.tup [.agg (faultC (j:Nat) (-1) 3),.bool false]) (g:=g3) (by simp -implicitDefEqProofs only [reduceCtorEq,if_false,Cm,Dx,l3,Option.bind_some,hv]) ⟨sh2.old s3 (fun j hj=>.inr (by simp at hj;subst hj;exact s.next)),by rw [hw];rfl⟩
theorem QR {h:Heap}{v:AV}{m:Md}{shs:List Shp}(H:MdRd h v m)(hs:m.shapes=shs.map Shp.row)(sm:SmV m) :
  Ok (DG v h) fun r=>Same [] h r.2∧r.1 = .tup [.agg (faultO (withR [] m shs)),.bool (withR [] m shs).isNone]:=by
 obtain⟨sv,gv,kv,cv,fv,rfl,hbx,B⟩:=H.box
 obtain⟨g,hg⟩:∃ g,g=h.new (.cells true [sv,gv,kv,cv,fv,.int .i64 m.main]):=⟨_,rfl⟩
 have s:Same [] h g:=by rw [hg];exact Same.new _ _
 rw [← hg] at B
 obtain⟨g1,hg1⟩:∃ g1,g1=g.new (.cells true [(AV.int .i64 0),(AV.int .i64 0),(AV.int .i64 0)]):=⟨_,rfl⟩
 have s1:Same [] g g1:=by rw [hg1];exact Same.new _ _
 have b1:g1.get g.next=some (.cells true [(AV.int .i64 0),(AV.int .i64 0),(AV.int .i64 0)]):=by rw [hg1];exact Am
 have n1:g1.next=g.next+1:=by rw [hg1];rfl
 have B1:=B.mono s1
 have la:=B1.la
 refine Ok.eq ?_ (by simp -implicitDefEqProofs only [DG,hbx,Af,← hg,← hg1,la,Option.bind_some]<;>rfl)
 have H1:=H.mono (s.trans s1).next fun j hj=>(s.trans s1).get j hj (by simp)
 refine Ao (OU (sk:=[]) H1 hs sm ⟨rfl,.inl ⟨rfl,rfl⟩⟩ (by simp) (by simp) (by simp) (by simp)) ?_
 rintro _ g2 ⟨s2,rfl⟩
 simp only at s2
 generalize withR [] m shs=w
 have hfl:(faultO w).length=3:=by cases w<;>rfl
 have hfs:(faultO w).all scalar=true:=by cases w<;>rfl
 have b2:=(s2.get g.next (by omega) (by simp)).trans b1
 have st:=Ds (n:=3) b2 rfl hfl hfs
 have l3:ldA 3 (g2.put g.next (some (.cells true (faultO w)))) (.ptr (some (g.next,0)))=some (.agg (faultO w)):=Ck An hfl
 exact Ah (v:=.tup [.agg (faultO w),.bool w.isNone]) (g:=g2.put g.next (some (.cells true (faultO w)))) (by simp -implicitDefEqProofs only [Br,List.getElem?_cons_zero,List.getElem?_cons_succ,Option.bind_some,st,AE,l3]) ⟨((s.trans s1).trans s2).old (Same.put _ _ _) (fun j hj=>.inr (by simp at hj;subst hj;exact s.next)),rfl⟩
theorem Oj {h:Heap}{v:AV}{m:Md}{shs:List Shp}(H:MdRd h v m)(hs:m.shapes=shs.map Shp.row)(sm:SmV m) :
  Ok (Ch v h) fun r=>Same [] h r.2∧r.1 = .bool (withR [] m shs).isNone:=by
 obtain⟨sv,gv,kv,cv,fv,rfl,hbx,B⟩:=H.box
 obtain⟨g,hg⟩:∃ g,g=h.new (.cells true [sv,gv,kv,cv,fv,.int .i64 m.main]):=⟨_,rfl⟩
 have s:Same [] h g:=by rw [hg];exact Same.new _ _
 rw [← hg] at B
 have la:=B.la
 refine Ok.eq ?_ (by simp -implicitDefEqProofs only [Ch,hbx,Af,← hg,la,Option.bind_some]<;>rfl)
 refine Ao (QR (H.mono s.next fun j hj=>s.get j hj (by simp)) hs sm) ?_
 rintro _ g2 ⟨s2,rfl⟩
 simp only at s2
 generalize withR [] m shs=w
 have hfl:(faultO w).length=3:=by cases w<;>rfl
 have hfs:(faultO w).all scalar=true:=by cases w<;>rfl
 refine Ok.eq ?_ (by simp -implicitDefEqProofs only [Br,List.getElem?_cons_zero,List.getElem?_cons_succ,Option.bind_some,Af]<;>rfl)
 refine Er (cs:=faultO w) (n:=3) (by rfl) hfl hfs fun _ g3 s3 n3 b3=>?_
 exact Ok.of (r:=(AV.bool w.isNone,g3)) ⟨(s.trans s2).trans s3,rfl⟩
end Go.Ab.F
