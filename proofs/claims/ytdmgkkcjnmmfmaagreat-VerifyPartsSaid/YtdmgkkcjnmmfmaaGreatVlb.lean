import Derived.Test.YtdmgkkcjnmmfmaaGreatVla
namespace Go.Ab.F
open Go Go.Ab
set_option linter.all false
set_option linter.all false
attribute [local congr] BI D1 Dy D2 Bu D3 Dz Aw Av
def OneR {α:Type}(call:CallF)(h:Heap)(x1:AV)(q b:Nat)(bs:List Nat)(enc:α→List Nat)(wf:α→Prop)(Val:Heap→AV→α→Nat→Nat→Prop)(g:Heap):Prop:=
 ∃ fn args,cvP x1 []=some (fn,args)∧∀ g' n x rest,Same [q] g g'→Rdr h g' q b bs n→bs.drop n=enc x++rest→wf x→Ok (call fn args g') fun r=>Val r.2 r.1 x g'.next r.2.next∧Rdr h r.2 q b bs (n+(enc x).length)∧Same [q] g' r.2
structure LsO {α:Type}(g0 g:Heap)(sz:Nat)(v:AV)(xs:List α)(Val:Heap→AV→α→Nat→Nat→Prop)(b:Option Nat)(vs:List AV):Prop where
 sl:SlB g b sz v (vs.flatMap AV.cells) xs.length
 new:∀ j,b=some j→g0.next≤j
 len:vs.length=xs.length
 val:∃ rg:Nat→Nat × Nat,(∀ (k:Nat) v x,vs[k]?=some v→xs[k]?=some x→Val g v x (rg k).1 (rg k).2∧g0.next≤(rg k).1∧(rg k).1≤(rg k).2∧(rg k).2≤g.next∧∀ j,b=some j→j<(rg k).1∨(rg k).2≤j)∧∀ j k,j<k→k<xs.length→(rg j).2≤(rg k).1
theorem Hh {α:Type}(enc:α→List Nat)(hpos:∀ x,0<(enc x).length):∀ xs:List α,xs.length≤(xs.flatMap enc).length
 | []=>by simp
 | x::xs=>by have:=Hh enc hpos xs;have:=hpos x;simp only [List.flatMap_cons,List.length_append,List.length_cons];omega
theorem LH {α:Type}{h g:Heap}{q b n:Nat}{bs rest:List Nat}{x1:AV}{xs:List α}{enc:α→List Nat}{wf:α→Prop}{Val:Heap→AV→α→Nat→Nat→Prop}
  (stab:∀ g g' v x lo hi T,Val g v x lo hi→lo≤hi→hi≤g.next→Same T g g'→(∀ j∈T,j<lo∨hi≤j)→Val g' v x lo hi) (hcell:∀ g v x lo hi,Val g v x lo hi→v.cells.length=1∧v.cells.all scalar=true) (hpos:∀ x,0<(enc x).length)
  (H:Rdr h g q b bs n) (hd:bs.drop n=numB xs.length++(xs.flatMap enc++rest)) (hw:∀ x∈xs,wf x) (hn:xs.length≤1048576) (one:OneR (lookT T32) h x1 q b bs enc wf Val g) :
  Ok (C3 (.ptr (some (q,0))) x1 g) fun r=>(∃ b' vs,LsO g r.2 1 r.1 xs Val b' vs)∧Rdr h r.2 q b bs (n+(numB xs.length).length+(xs.flatMap enc).length)∧Same [q] g r.2:=by
 obtain⟨fn,args,ecv,hone⟩:=one
 have hge:=Hh enc hpos xs
 refine Ok.eq ?_ (by simp -implicitDefEqProofs only [C3]<;>rfl)
 refine Ao (HH H hd (by rw [List.length_append];omega)) ?_
 rintro _ g1 ⟨rfl,R1,s1⟩
 simp only at R1 s1
 have hd1:bs.drop (n+(numB xs.length).length)=xs.flatMap enc++rest:=by rw [← List.drop_drop,hd,List.drop_left]
 generalize hn1:n+(numB xs.length).length=n1 at *
 refine CJ (P:=fun r=>r.1 = .exit 0∧(∃ b' vs,LsO g r.2.2 1 (r.2.1.getD 1 .bot) xs Val b' vs)∧Rdr h r.2.2 q b bs (n1+(xs.flatMap enc).length)∧Same [q] g r.2.2) ?_ ?_
 ·refine BF (fun m us g'=>∃ (k:Nat) (v:AV) (b':Option Nat) (vs:List AV),us = [.sl none 0 (.ex 0),v,.int .i64 (k:Nat)]∧m+k=xs.length∧LsO g g' 1 v (xs.take k) Val b' vs∧Rdr h g' q b bs (n1+((xs.take k).flatMap enc).length)∧Same [q] g g') ?_ (n:=xs.length) (by omega)
   ⟨0,_,none,[],rfl,rfl,⟨SlB.mt,(fun j hj=>by cases hj),rfl,fun _=>(0,0),(fun k v x hv=>by simp at hv),fun j k _ hk=>by simp at hk⟩,by simpa using R1,s1⟩
  rintro m us g' ⟨k,v,b',vs,rfl,hm,LO,R,s⟩
  rw [gD0,gD1,gD2]
  by_cases hk:k<xs.length
  ·have hk':(k:Int)<xs.length:=by omega
   obtain⟨x,hx⟩:∃ x,xs[k]?=some x:=⟨_,List.getElem?_eq_getElem hk⟩
   have e1:=GX enc hx
   have hdk:bs.drop (n1+((xs.take k).flatMap enc).length)=enc x++((xs.drop (k+1)).flatMap enc++rest):=by
    have ex:xs[k]=x:=by rw [List.getElem?_eq_getElem hk] at hx;exact Option.some.inj hx
    rw [← List.drop_drop,hd1]
    conv=>lhs;rw [← List.take_append_drop k xs,List.flatMap_append,List.append_assoc]
    have hlen:((xs.take k++xs.drop k).take k)=xs.take k:=by rw [List.take_append_drop]
    rw [hlen,List.drop_left,List.drop_eq_getElem_cons hk,ex,List.flatMap_cons,List.append_assoc]
   obtain⟨o,c,h1,h2⟩:=R.at_
   have l1:ldS g' (.ptr (some (q,1)))=some (.bool false):=by rw [Ai h1];rfl
   have htl:(xs.take k).length=k:=by rw [List.length_take];omega
   refine Ok.eq ?_ (by simp -implicitDefEqProofs only [El,hk',l1,Nat.zero_add,ecv,FP,AO,AF,Option.bind_some,AZ,AY,Ac,AX,AL,AH,AD,Ad,AQ,AE,AM,AC,if_true,if_false,Bool.false_eq_true,AJ,AP,AG,AR,AK,AU,Int.reduceEq,Int.reduceLT,Int.reduceLE,decide_true,decide_false,AB,AA,Ae,Bool.not_true,Bool.not_false,AW]<;>rfl)
   refine Ao (hone g' _ x _ s R hdk (hw x (List.mem_of_getElem? hx))) ?_
   rintro w g2 ⟨V2,R2,s2⟩
   simp only at V2 R2 s2
   obtain⟨hcl,hcs⟩:=hcell _ _ _ _ _ V2
   have hqlt:q<g.next:=H.ltq
   have hbq:∀ j,b'=some j→j∉[q]:=fun j hj hm=>by have:=LO.new j hj;simp at hm;omega
   have LO2:=LO.sl.same s2 hbq
   have hb'lt:∀ j,b'=some j→j<g'.next:=fun j hj=>(LO.sl.blk j hj).1
   refine app1 (bytes:=1) (z:=[(AV.bool false)]) LO2 rfl hcl hcs (by decide) (by rw [htl];omega) fun v' g3 S3 s3 n3=>?_
   have s3n:=s2.next
   have sq3:Same [q] g g3:=(s.trans s2).old s3 fun j hj=>.inr (by cases b' with
    | none=>simp at hj
    | some y=>simp at hj;subst hj;exact LO.new _ rfl)
   have hg'n:=s.next
   obtain⟨rg,hrg,hord⟩:=LO.val
   have hvl:vs.length=k:=by rw [LO.len,htl]
   refine(Ok.of (r:=(Ex.normal,[.sl none 0 (.ex 0),v',.int .i64 ((k+1:Nat):Int)],g3)) (.inl ⟨rfl,m - 1,by omega,k+1,v',some (g2.next+1),vs ++ [w],rfl,by omega,⟨?_,(fun j hj=>by cases hj;omega),by simp [LO.len];omega,fun j=>if j=k then(g'.next,g2.next) else rg j,fun j v x hv hx'=>?_,fun i j hij hj=>?_⟩,?_,sq3⟩)).eq (by simp -implicitDefEqProofs only [Ap,suc64 k (by omega),AO,AF,Option.bind_some,AZ,AY,Ac,AX,AL,AH,AD,Ad,AQ,AE,AM,AC,if_true,if_false,Bool.false_eq_true,AJ,AP,AG,AR,AK,AU,Int.reduceEq,Int.reduceLT,Int.reduceLE,decide_true,decide_false,AB,AA,Ae,Bool.not_true,Bool.not_false,AW])
   ·have:(vs ++ [w]).flatMap AV.cells=vs.flatMap AV.cells++w.cells:=by simp
    rw [this,List.length_take,show min (k+1) xs.length=(xs.take k).length+1 by omega]
    exact S3
   ·have hlo:∀ y,b'=some y→y<g'.next:=hb'lt
    by_cases hj:j<vs.length
    ·rw [List.getElem?_append_left hj] at hv
     have hjk:j<k:=by have:=LO.len;omega
     have hx2:(xs.take k)[j]?=some x:=by
      rw [List.getElem?_take,if_pos (by omega)] at hx' ⊢;exact hx'
     obtain⟨y1,y2,y3,y4,y5⟩:=hrg j v x hv hx2
     have hjne : ¬ j=k:=by omega
     simp only [if_neg hjne]
     generalize (rg j).1=lo at *
     generalize (rg j).2=hi at *
     have z1:=stab _ _ _ _ _ _ _ y1 y3 y4 s2 (fun j hj=>by rw [List.mem_singleton] at hj;rw [hj];exact .inl (Nat.lt_of_lt_of_le hqlt y2))
     refine⟨stab _ _ _ _ _ _ _ z1 y3 (by omega) s3 (fun j hj=>?_),y2,y3,by show hi≤g3.next;omega,fun j hj=>by cases hj;omega⟩
     cases b' with
     | none=>simp at hj
     | some y=>simp at hj;subst hj;exact y5 _ rfl
    ·rw [List.getElem?_append_right (by omega)] at hv
     have hj0:j=vs.length:=by
      have:=(List.getElem?_eq_some_iff.1 hv).1
      simp at this;omega
     subst hj0
     rw [Nat.sub_self] at hv
     simp at hv;subst hv
     rw [hvl,List.getElem?_take,if_pos (by omega),hx] at hx'
     have hx':=Option.some.inj hx'
     subst hx'
     simp only [if_pos hvl]
     refine⟨stab _ _ _ _ _ _ _ V2 s3n (Nat.le_refl _) s3 (fun j hj=>?_),by omega,by omega,by have:=s3.next;exact this,fun j hj=>by cases hj;omega⟩
     cases b' with
     | none=>simp at hj
     | some y=>simp at hj;subst hj;exact .inl (hlo _ rfl)
   ·rw [List.length_take] at hj
    have hine : ¬ i=k:=by omega
    by_cases hjk:j=k
    ·simp only [if_neg hine,if_pos hjk]
     obtain⟨w1,hw1⟩:∃ w1,vs[i]?=some w1:=⟨_,List.getElem?_eq_getElem (by omega)⟩
     obtain⟨x1,hx1⟩:∃ x1,(xs.take k)[i]?=some x1:=⟨_,List.getElem?_eq_getElem (by omega)⟩
     exact(hrg i w1 x1 hw1 hx1).2.2.2.1
    ·simp only [if_neg hine,if_neg hjk]
     exact hord i j hij (by omega)
   ·rw [e1,List.length_append,← Nat.add_assoc]
    refine R2.keep' s3 ?_ ?_ ?_
    ·cases hb0:b' with
     | none=>simp
     | some y=>simp;have:=LO.new y hb0;omega
    ·cases hb0:b' with
     | none=>simp
     | some y=>simp;have:=LO.new y hb0;have:=H.ltb;omega
    ·intro j hj
     cases hb0:b' with
     | none=>rw [hb0] at hj;simp at hj
     | some y=>rw [hb0] at hj;simp at hj;subst hj;have:=LO.new _ hb0;have:=H.same.next;omega
  ·have hk' : ¬ (k:Int)<xs.length:=by omega
   rw [List.take_of_length_le (by omega)] at LO R
   exact(Ok.of (r:=(Ex.exit 0,[.sl none 0 (.ex 0),v,.int .i64 (k:Nat)],g')) (.inr ⟨by simp,rfl,⟨b',vs,LO⟩,R,s⟩)).eq (by
    simp -implicitDefEqProofs only [El,AG,hk',decide_false,Option.bind_some,AA])
 ·rintro _ us g' ⟨rfl,LO,R,s⟩
  exact Ah (v:=us.getD 1 .bot) (g:=g') (by simp -implicitDefEqProofs only [if_true,Al]) ⟨LO,R,s⟩
theorem Oi {α:Type}{h g:Heap}{q b n:Nat}{bs rest:List Nat}{x1:AV}{xs:List α}{enc:α→List Nat}{wf:α→Prop}{Val:Heap→AV→α→Nat→Nat→Prop}
  (stab:∀ g g' v x lo hi T,Val g v x lo hi→lo≤hi→hi≤g.next→Same T g g'→(∀ j∈T,j<lo∨hi≤j)→Val g' v x lo hi) (hcell:∀ g v x lo hi,Val g v x lo hi→v.cells.length=5∧v.cells.all scalar=true) (hpos:∀ x,0<(enc x).length)
  (H:Rdr h g q b bs n) (hd:bs.drop n=numB xs.length++(xs.flatMap enc++rest)) (hw:∀ x∈xs,wf x) (hn:xs.length≤1048576) (one:OneR (lookT T33) h x1 q b bs enc wf Val g) :
  Ok (CS (.ptr (some (q,0))) x1 g) fun r=>(∃ b' vs,LsO g r.2 5 r.1 xs Val b' vs)∧Rdr h r.2 q b bs (n+(numB xs.length).length+(xs.flatMap enc).length)∧Same [q] g r.2:=by
 obtain⟨fn,args,ecv,hone⟩:=one
 have hge:=Hh enc hpos xs
 refine Ok.eq ?_ (by simp -implicitDefEqProofs only [CS]<;>rfl)
 refine Ao (HH H hd (by rw [List.length_append];omega)) ?_
 rintro _ g1 ⟨rfl,R1,s1⟩
 simp only at R1 s1
 have hd1:bs.drop (n+(numB xs.length).length)=xs.flatMap enc++rest:=by rw [← List.drop_drop,hd,List.drop_left]
 generalize hn1:n+(numB xs.length).length=n1 at *
 refine CJ (P:=fun r=>r.1 = .exit 0∧(∃ b' vs,LsO g r.2.2 5 (r.2.1.getD 1 .bot) xs Val b' vs)∧Rdr h r.2.2 q b bs (n1+(xs.flatMap enc).length)∧Same [q] g r.2.2) ?_ ?_
 ·refine BF (fun m us g'=>∃ (k:Nat) (v:AV) (b':Option Nat) (vs:List AV),us = [.sl none 0 (.ex 0),v,.int .i64 (k:Nat)]∧m+k=xs.length∧LsO g g' 5 v (xs.take k) Val b' vs∧Rdr h g' q b bs (n1+((xs.take k).flatMap enc).length)∧Same [q] g g') ?_ (n:=xs.length) (by omega)
   ⟨0,_,none,[],rfl,rfl,⟨SlB.mt,(fun j hj=>by cases hj),rfl,fun _=>(0,0),(fun k v x hv=>by simp at hv),fun j k _ hk=>by simp at hk⟩,by simpa using R1,s1⟩
  rintro m us g' ⟨k,v,b',vs,rfl,hm,LO,R,s⟩
  rw [gD0,gD1,gD2]
  by_cases hk:k<xs.length
  ·have hk':(k:Int)<xs.length:=by omega
   obtain⟨x,hx⟩:∃ x,xs[k]?=some x:=⟨_,List.getElem?_eq_getElem hk⟩
   have e1:=GX enc hx
   have hdk:bs.drop (n1+((xs.take k).flatMap enc).length)=enc x++((xs.drop (k+1)).flatMap enc++rest):=by
    have ex:xs[k]=x:=by rw [List.getElem?_eq_getElem hk] at hx;exact Option.some.inj hx
    rw [← List.drop_drop,hd1]
    conv=>lhs;rw [← List.take_append_drop k xs,List.flatMap_append,List.append_assoc]
    have hlen:((xs.take k++xs.drop k).take k)=xs.take k:=by rw [List.take_append_drop]
    rw [hlen,List.drop_left,List.drop_eq_getElem_cons hk,ex,List.flatMap_cons,List.append_assoc]
   obtain⟨o,c,h1,h2⟩:=R.at_
   have l1:ldS g' (.ptr (some (q,1)))=some (.bool false):=by rw [Ai h1];rfl
   have htl:(xs.take k).length=k:=by rw [List.length_take];omega
   refine Ok.eq ?_ (by simp -implicitDefEqProofs only [DJ,hk',l1,Nat.zero_add,ecv,FP,AO,AF,Option.bind_some,AZ,AY,Ac,AX,AL,AH,AD,Ad,AQ,AE,AM,AC,if_true,if_false,Bool.false_eq_true,AJ,AP,AG,AR,AK,AU,Int.reduceEq,Int.reduceLT,Int.reduceLE,decide_true,decide_false,AB,AA,Ae,Bool.not_true,Bool.not_false,AW]<;>rfl)
   refine Ao (hone g' _ x _ s R hdk (hw x (List.mem_of_getElem? hx))) ?_
   rintro w g2 ⟨V2,R2,s2⟩
   simp only at V2 R2 s2
   obtain⟨hcl,hcs⟩:=hcell _ _ _ _ _ V2
   have hqlt:q<g.next:=H.ltq
   have hbq:∀ j,b'=some j→j∉[q]:=fun j hj hm=>by have:=LO.new j hj;simp at hm;omega
   have LO2:=LO.sl.same s2 hbq
   have hb'lt:∀ j,b'=some j→j<g'.next:=fun j hj=>(LO.sl.blk j hj).1
   refine app1 (bytes:=40) (z:=[(AV.int .i64 0),(AV.int .i64 0),(AV.int .i64 0),(AV.int .i64 0),(AV.int .i64 0)]) LO2 rfl hcl hcs (by decide) (by rw [htl];omega) fun v' g3 S3 s3 n3=>?_
   have s3n:=s2.next
   have sq3:Same [q] g g3:=(s.trans s2).old s3 fun j hj=>.inr (by cases b' with
    | none=>simp at hj
    | some y=>simp at hj;subst hj;exact LO.new _ rfl)
   have hg'n:=s.next
   obtain⟨rg,hrg,hord⟩:=LO.val
   have hvl:vs.length=k:=by rw [LO.len,htl]
   refine(Ok.of (r:=(Ex.normal,[.sl none 0 (.ex 0),v',.int .i64 ((k+1:Nat):Int)],g3)) (.inl ⟨rfl,m - 1,by omega,k+1,v',some (g2.next+1),vs ++ [w],rfl,by omega,⟨?_,(fun j hj=>by cases hj;omega),by simp [LO.len];omega,fun j=>if j=k then(g'.next,g2.next) else rg j,fun j v x hv hx'=>?_,fun i j hij hj=>?_⟩,?_,sq3⟩)).eq (by simp -implicitDefEqProofs only [Ap,suc64 k (by omega),AO,AF,Option.bind_some,AZ,AY,Ac,AX,AL,AH,AD,Ad,AQ,AE,AM,AC,if_true,if_false,Bool.false_eq_true,AJ,AP,AG,AR,AK,AU,Int.reduceEq,Int.reduceLT,Int.reduceLE,decide_true,decide_false,AB,AA,Ae,Bool.not_true,Bool.not_false,AW])
   ·have:(vs ++ [w]).flatMap AV.cells=vs.flatMap AV.cells++w.cells:=by simp
    rw [this,List.length_take,show min (k+1) xs.length=(xs.take k).length+1 by omega]
    exact S3
   ·have hlo:∀ y,b'=some y→y<g'.next:=hb'lt
    by_cases hj:j<vs.length
    ·rw [List.getElem?_append_left hj] at hv
     have hjk:j<k:=by have:=LO.len;omega
     have hx2:(xs.take k)[j]?=some x:=by
      rw [List.getElem?_take,if_pos (by omega)] at hx' ⊢;exact hx'
     obtain⟨y1,y2,y3,y4,y5⟩:=hrg j v x hv hx2
     have hjne : ¬ j=k:=by omega
     simp only [if_neg hjne]
     generalize (rg j).1=lo at *
     generalize (rg j).2=hi at *
     have z1:=stab _ _ _ _ _ _ _ y1 y3 y4 s2 (fun j hj=>by rw [List.mem_singleton] at hj;rw [hj];exact .inl (Nat.lt_of_lt_of_le hqlt y2))
     refine⟨stab _ _ _ _ _ _ _ z1 y3 (by omega) s3 (fun j hj=>?_),y2,y3,by show hi≤g3.next;omega,fun j hj=>by cases hj;omega⟩
     cases b' with
     | none=>simp at hj
     | some y=>simp at hj;subst hj;exact y5 _ rfl
    ·rw [List.getElem?_append_right (by omega)] at hv
     have hj0:j=vs.length:=by
      have:=(List.getElem?_eq_some_iff.1 hv).1
      simp at this;omega
     subst hj0
     rw [Nat.sub_self] at hv
     simp at hv;subst hv
     rw [hvl,List.getElem?_take,if_pos (by omega),hx] at hx'
     have hx':=Option.some.inj hx'
     subst hx'
     simp only [if_pos hvl]
     refine⟨stab _ _ _ _ _ _ _ V2 s3n (Nat.le_refl _) s3 (fun j hj=>?_),by omega,by omega,by have:=s3.next;exact this,fun j hj=>by cases hj;omega⟩
     cases b' with
     | none=>simp at hj
     | some y=>simp at hj;subst hj;exact .inl (hlo _ rfl)
   ·rw [List.length_take] at hj
    have hine : ¬ i=k:=by omega
    by_cases hjk:j=k
    ·simp only [if_neg hine,if_pos hjk]
     obtain⟨w1,hw1⟩:∃ w1,vs[i]?=some w1:=⟨_,List.getElem?_eq_getElem (by omega)⟩
     obtain⟨x1,hx1⟩:∃ x1,(xs.take k)[i]?=some x1:=⟨_,List.getElem?_eq_getElem (by omega)⟩
     exact(hrg i w1 x1 hw1 hx1).2.2.2.1
    ·simp only [if_neg hine,if_neg hjk]
     exact hord i j hij (by omega)
   ·rw [e1,List.length_append,← Nat.add_assoc]
    refine R2.keep' s3 ?_ ?_ ?_
    ·cases hb0:b' with
     | none=>simp
     | some y=>simp;have:=LO.new y hb0;omega
    ·cases hb0:b' with
     | none=>simp
     | some y=>simp;have:=LO.new y hb0;have:=H.ltb;omega
    ·intro j hj
     cases hb0:b' with
     | none=>rw [hb0] at hj;simp at hj
     | some y=>rw [hb0] at hj;simp at hj;subst hj;have:=LO.new _ hb0;have:=H.same.next;omega
  ·have hk' : ¬ (k:Int)<xs.length:=by omega
   rw [List.take_of_length_le (by omega)] at LO R
   exact(Ok.of (r:=(Ex.exit 0,[.sl none 0 (.ex 0),v,.int .i64 (k:Nat)],g')) (.inr ⟨by simp,rfl,⟨b',vs,LO⟩,R,s⟩)).eq (by
    simp -implicitDefEqProofs only [DJ,AG,hk',decide_false,Option.bind_some,AA])
 ·rintro _ us g' ⟨rfl,LO,R,s⟩
  exact Ah (v:=us.getD 1 .bot) (g:=g') (by simp -implicitDefEqProofs only [if_true,Al]) ⟨LO,R,s⟩
theorem Pv {α:Type}{h g:Heap}{q b n:Nat}{bs rest:List Nat}{x1:AV}{xs:List α}{enc:α→List Nat}{wf:α→Prop}{Val:Heap→AV→α→Nat→Nat→Prop}
  (stab:∀ g g' v x lo hi T,Val g v x lo hi→lo≤hi→hi≤g.next→Same T g g'→(∀ j∈T,j<lo∨hi≤j)→Val g' v x lo hi) (hcell:∀ g v x lo hi,Val g v x lo hi→v.cells.length=1∧v.cells.all scalar=true) (hpos:∀ x,0<(enc x).length)
  (H:Rdr h g q b bs n) (hd:bs.drop n=numB xs.length++(xs.flatMap enc++rest)) (hw:∀ x∈xs,wf x) (hn:xs.length≤1048576) (one:OneR (lookT T34) h x1 q b bs enc wf Val g) :
  Ok (C7 (.ptr (some (q,0))) x1 g) fun r=>(∃ b' vs,LsO g r.2 1 r.1 xs Val b' vs)∧Rdr h r.2 q b bs (n+(numB xs.length).length+(xs.flatMap enc).length)∧Same [q] g r.2:=by
 obtain⟨fn,args,ecv,hone⟩:=one
 have hge:=Hh enc hpos xs
 refine Ok.eq ?_ (by simp -implicitDefEqProofs only [C7]<;>rfl)
 refine Ao (HH H hd (by rw [List.length_append];omega)) ?_
 rintro _ g1 ⟨rfl,R1,s1⟩
 simp only at R1 s1
 have hd1:bs.drop (n+(numB xs.length).length)=xs.flatMap enc++rest:=by rw [← List.drop_drop,hd,List.drop_left]
 generalize hn1:n+(numB xs.length).length=n1 at *
 refine CJ (P:=fun r=>r.1 = .exit 0∧(∃ b' vs,LsO g r.2.2 1 (r.2.1.getD 1 .bot) xs Val b' vs)∧Rdr h r.2.2 q b bs (n1+(xs.flatMap enc).length)∧Same [q] g r.2.2) ?_ ?_
 ·refine BF (fun m us g'=>∃ (k:Nat) (v:AV) (b':Option Nat) (vs:List AV),us = [.sl none 0 (.ex 0),v,.int .i64 (k:Nat)]∧m+k=xs.length∧LsO g g' 1 v (xs.take k) Val b' vs∧Rdr h g' q b bs (n1+((xs.take k).flatMap enc).length)∧Same [q] g g') ?_ (n:=xs.length) (by omega)
   ⟨0,_,none,[],rfl,rfl,⟨SlB.mt,(fun j hj=>by cases hj),rfl,fun _=>(0,0),(fun k v x hv=>by simp at hv),fun j k _ hk=>by simp at hk⟩,by simpa using R1,s1⟩
  rintro m us g' ⟨k,v,b',vs,rfl,hm,LO,R,s⟩
  rw [gD0,gD1,gD2]
  by_cases hk:k<xs.length
  ·have hk':(k:Int)<xs.length:=by omega
   obtain⟨x,hx⟩:∃ x,xs[k]?=some x:=⟨_,List.getElem?_eq_getElem hk⟩
   have e1:=GX enc hx
   have hdk:bs.drop (n1+((xs.take k).flatMap enc).length)=enc x++((xs.drop (k+1)).flatMap enc++rest):=by
    have ex:xs[k]=x:=by rw [List.getElem?_eq_getElem hk] at hx;exact Option.some.inj hx
    rw [← List.drop_drop,hd1]
    conv=>lhs;rw [← List.take_append_drop k xs,List.flatMap_append,List.append_assoc]
    have hlen:((xs.take k++xs.drop k).take k)=xs.take k:=by rw [List.take_append_drop]
    rw [hlen,List.drop_left,List.drop_eq_getElem_cons hk,ex,List.flatMap_cons,List.append_assoc]
   obtain⟨o,c,h1,h2⟩:=R.at_
   have l1:ldS g' (.ptr (some (q,1)))=some (.bool false):=by rw [Ai h1];rfl
   have htl:(xs.take k).length=k:=by rw [List.length_take];omega
   refine Ok.eq ?_ (by simp -implicitDefEqProofs only [D7,hk',l1,Nat.zero_add,ecv,FP,AO,AF,Option.bind_some,AZ,AY,Ac,AX,AL,AH,AD,Ad,AQ,AE,AM,AC,if_true,if_false,Bool.false_eq_true,AJ,AP,AG,AR,AK,AU,Int.reduceEq,Int.reduceLT,Int.reduceLE,decide_true,decide_false,AB,AA,Ae,Bool.not_true,Bool.not_false,AW]<;>rfl)
   refine Ao (hone g' _ x _ s R hdk (hw x (List.mem_of_getElem? hx))) ?_
   rintro w g2 ⟨V2,R2,s2⟩
   simp only at V2 R2 s2
   obtain⟨hcl,hcs⟩:=hcell _ _ _ _ _ V2
   have hqlt:q<g.next:=H.ltq
   have hbq:∀ j,b'=some j→j∉[q]:=fun j hj hm=>by have:=LO.new j hj;simp at hm;omega
   have LO2:=LO.sl.same s2 hbq
   have hb'lt:∀ j,b'=some j→j<g'.next:=fun j hj=>(LO.sl.blk j hj).1
   refine app1 (bytes:=8) (z:=[(AV.int .u64 0)]) LO2 rfl hcl hcs (by decide) (by rw [htl];omega) fun v' g3 S3 s3 n3=>?_
   have s3n:=s2.next
   have sq3:Same [q] g g3:=(s.trans s2).old s3 fun j hj=>.inr (by cases b' with
    | none=>simp at hj
    | some y=>simp at hj;subst hj;exact LO.new _ rfl)
   have hg'n:=s.next
   obtain⟨rg,hrg,hord⟩:=LO.val
   have hvl:vs.length=k:=by rw [LO.len,htl]
   refine(Ok.of (r:=(Ex.normal,[.sl none 0 (.ex 0),v',.int .i64 ((k+1:Nat):Int)],g3)) (.inl ⟨rfl,m - 1,by omega,k+1,v',some (g2.next+1),vs ++ [w],rfl,by omega,⟨?_,(fun j hj=>by cases hj;omega),by simp [LO.len];omega,fun j=>if j=k then(g'.next,g2.next) else rg j,fun j v x hv hx'=>?_,fun i j hij hj=>?_⟩,?_,sq3⟩)).eq (by simp -implicitDefEqProofs only [Ap,suc64 k (by omega),AO,AF,Option.bind_some,AZ,AY,Ac,AX,AL,AH,AD,Ad,AQ,AE,AM,AC,if_true,if_false,Bool.false_eq_true,AJ,AP,AG,AR,AK,AU,Int.reduceEq,Int.reduceLT,Int.reduceLE,decide_true,decide_false,AB,AA,Ae,Bool.not_true,Bool.not_false,AW])
   ·have:(vs ++ [w]).flatMap AV.cells=vs.flatMap AV.cells++w.cells:=by simp
    rw [this,List.length_take,show min (k+1) xs.length=(xs.take k).length+1 by omega]
    exact S3
   ·have hlo:∀ y,b'=some y→y<g'.next:=hb'lt
    by_cases hj:j<vs.length
    ·rw [List.getElem?_append_left hj] at hv
     have hjk:j<k:=by have:=LO.len;omega
     have hx2:(xs.take k)[j]?=some x:=by
      rw [List.getElem?_take,if_pos (by omega)] at hx' ⊢;exact hx'
     obtain⟨y1,y2,y3,y4,y5⟩:=hrg j v x hv hx2
     have hjne : ¬ j=k:=by omega
     simp only [if_neg hjne]
     generalize (rg j).1=lo at *
     generalize (rg j).2=hi at *
     have z1:=stab _ _ _ _ _ _ _ y1 y3 y4 s2 (fun j hj=>by rw [List.mem_singleton] at hj;rw [hj];exact .inl (Nat.lt_of_lt_of_le hqlt y2))
     refine⟨stab _ _ _ _ _ _ _ z1 y3 (by omega) s3 (fun j hj=>?_),y2,y3,by show hi≤g3.next;omega,fun j hj=>by cases hj;omega⟩
     cases b' with
     | none=>simp at hj
     | some y=>simp at hj;subst hj;exact y5 _ rfl
    ·rw [List.getElem?_append_right (by omega)] at hv
     have hj0:j=vs.length:=by
      have:=(List.getElem?_eq_some_iff.1 hv).1
      simp at this;omega
     subst hj0
     rw [Nat.sub_self] at hv
     simp at hv;subst hv
     rw [hvl,List.getElem?_take,if_pos (by omega),hx] at hx'
     have hx':=Option.some.inj hx'
     subst hx'
     simp only [if_pos hvl]
     refine⟨stab _ _ _ _ _ _ _ V2 s3n (Nat.le_refl _) s3 (fun j hj=>?_),by omega,by omega,by have:=s3.next;exact this,fun j hj=>by cases hj;omega⟩
     cases b' with
     | none=>simp at hj
     | some y=>simp at hj;subst hj;exact .inl (hlo _ rfl)
   ·rw [List.length_take] at hj
    have hine : ¬ i=k:=by omega
    by_cases hjk:j=k
    ·simp only [if_neg hine,if_pos hjk]
     obtain⟨w1,hw1⟩:∃ w1,vs[i]?=some w1:=⟨_,List.getElem?_eq_getElem (by omega)⟩
     obtain⟨x1,hx1⟩:∃ x1,(xs.take k)[i]?=some x1:=⟨_,List.getElem?_eq_getElem (by omega)⟩
     exact(hrg i w1 x1 hw1 hx1).2.2.2.1
    ·simp only [if_neg hine,if_neg hjk]
     exact hord i j hij (by omega)
   ·rw [e1,List.length_append,← Nat.add_assoc]
    refine R2.keep' s3 ?_ ?_ ?_
    ·cases hb0:b' with
     | none=>simp
     | some y=>simp;have:=LO.new y hb0;omega
    ·cases hb0:b' with
     | none=>simp
     | some y=>simp;have:=LO.new y hb0;have:=H.ltb;omega
    ·intro j hj
     cases hb0:b' with
     | none=>rw [hb0] at hj;simp at hj
     | some y=>rw [hb0] at hj;simp at hj;subst hj;have:=LO.new _ hb0;have:=H.same.next;omega
  ·have hk' : ¬ (k:Int)<xs.length:=by omega
   rw [List.take_of_length_le (by omega)] at LO R
   exact(Ok.of (r:=(Ex.exit 0,[.sl none 0 (.ex 0),v,.int .i64 (k:Nat)],g')) (.inr ⟨by simp,rfl,⟨b',vs,LO⟩,R,s⟩)).eq (by
    simp -implicitDefEqProofs only [D7,AG,hk',decide_false,Option.bind_some,AA])
 ·rintro _ us g' ⟨rfl,LO,R,s⟩
  exact Ah (v:=us.getD 1 .bot) (g:=g') (by simp -implicitDefEqProofs only [if_true,Al]) ⟨LO,R,s⟩
theorem PI {α:Type}{h g:Heap}{q b n:Nat}{bs rest:List Nat}{x1:AV}{xs:List α}{enc:α→List Nat}{wf:α→Prop}{Val:Heap→AV→α→Nat→Nat→Prop}
  (stab:∀ g g' v x lo hi T,Val g v x lo hi→lo≤hi→hi≤g.next→Same T g g'→(∀ j∈T,j<lo∨hi≤j)→Val g' v x lo hi) (hcell:∀ g v x lo hi,Val g v x lo hi→v.cells.length=3∧v.cells.all scalar=true) (hpos:∀ x,0<(enc x).length)
  (H:Rdr h g q b bs n) (hd:bs.drop n=numB xs.length++(xs.flatMap enc++rest)) (hw:∀ x∈xs,wf x) (hn:xs.length≤1048576) (one:OneR (lookT T100) h x1 q b bs enc wf Val g) :
  Ok (CR (.ptr (some (q,0))) x1 g) fun r=>(∃ b' vs,LsO g r.2 3 r.1 xs Val b' vs)∧Rdr h r.2 q b bs (n+(numB xs.length).length+(xs.flatMap enc).length)∧Same [q] g r.2:=by
 obtain⟨fn,args,ecv,hone⟩:=one
 have hge:=Hh enc hpos xs
 refine Ok.eq ?_ (by simp -implicitDefEqProofs only [CR]<;>rfl)
 refine Ao (HH H hd (by rw [List.length_append];omega)) ?_
 rintro _ g1 ⟨rfl,R1,s1⟩
 simp only at R1 s1
 have hd1:bs.drop (n+(numB xs.length).length)=xs.flatMap enc++rest:=by rw [← List.drop_drop,hd,List.drop_left]
 generalize hn1:n+(numB xs.length).length=n1 at *
 refine CJ (P:=fun r=>r.1 = .exit 0∧(∃ b' vs,LsO g r.2.2 3 (r.2.1.getD 1 .bot) xs Val b' vs)∧Rdr h r.2.2 q b bs (n1+(xs.flatMap enc).length)∧Same [q] g r.2.2) ?_ ?_
 ·refine BF (fun m us g'=>∃ (k:Nat) (v:AV) (b':Option Nat) (vs:List AV),us = [.sl none 0 (.ex 0),v,.int .i64 (k:Nat)]∧m+k=xs.length∧LsO g g' 3 v (xs.take k) Val b' vs∧Rdr h g' q b bs (n1+((xs.take k).flatMap enc).length)∧Same [q] g g') ?_ (n:=xs.length) (by omega)
   ⟨0,_,none,[],rfl,rfl,⟨SlB.mt,(fun j hj=>by cases hj),rfl,fun _=>(0,0),(fun k v x hv=>by simp at hv),fun j k _ hk=>by simp at hk⟩,by simpa using R1,s1⟩
  rintro m us g' ⟨k,v,b',vs,rfl,hm,LO,R,s⟩
  rw [gD0,gD1,gD2]
  by_cases hk:k<xs.length
  ·have hk':(k:Int)<xs.length:=by omega
   obtain⟨x,hx⟩:∃ x,xs[k]?=some x:=⟨_,List.getElem?_eq_getElem hk⟩
   have e1:=GX enc hx
   have hdk:bs.drop (n1+((xs.take k).flatMap enc).length)=enc x++((xs.drop (k+1)).flatMap enc++rest):=by
    have ex:xs[k]=x:=by rw [List.getElem?_eq_getElem hk] at hx;exact Option.some.inj hx
    rw [← List.drop_drop,hd1]
    conv=>lhs;rw [← List.take_append_drop k xs,List.flatMap_append,List.append_assoc]
    have hlen:((xs.take k++xs.drop k).take k)=xs.take k:=by rw [List.take_append_drop]
    rw [hlen,List.drop_left,List.drop_eq_getElem_cons hk,ex,List.flatMap_cons,List.append_assoc]
   obtain⟨o,c,h1,h2⟩:=R.at_
   have l1:ldS g' (.ptr (some (q,1)))=some (.bool false):=by rw [Ai h1];rfl
   have htl:(xs.take k).length=k:=by rw [List.length_take];omega
   refine Ok.eq ?_ (by simp -implicitDefEqProofs only [DD,hk',l1,Nat.zero_add,ecv,FP,AO,AF,Option.bind_some,AZ,AY,Ac,AX,AL,AH,AD,Ad,AQ,AE,AM,AC,if_true,if_false,Bool.false_eq_true,AJ,AP,AG,AR,AK,AU,Int.reduceEq,Int.reduceLT,Int.reduceLE,decide_true,decide_false,AB,AA,Ae,Bool.not_true,Bool.not_false,AW]<;>rfl)
   refine Ao (hone g' _ x _ s R hdk (hw x (List.mem_of_getElem? hx))) ?_
   rintro w g2 ⟨V2,R2,s2⟩
   simp only at V2 R2 s2
   obtain⟨hcl,hcs⟩:=hcell _ _ _ _ _ V2
   have hqlt:q<g.next:=H.ltq
   have hbq:∀ j,b'=some j→j∉[q]:=fun j hj hm=>by have:=LO.new j hj;simp at hm;omega
   have LO2:=LO.sl.same s2 hbq
   have hb'lt:∀ j,b'=some j→j<g'.next:=fun j hj=>(LO.sl.blk j hj).1
   refine app1 (bytes:=24) (z:=[(AV.int .i64 0),(AV.int .i64 0),(AV.int .u64 0)]) LO2 rfl hcl hcs (by decide) (by rw [htl];omega) fun v' g3 S3 s3 n3=>?_
   have s3n:=s2.next
   have sq3:Same [q] g g3:=(s.trans s2).old s3 fun j hj=>.inr (by cases b' with
    | none=>simp at hj
    | some y=>simp at hj;subst hj;exact LO.new _ rfl)
   have hg'n:=s.next
   obtain⟨rg,hrg,hord⟩:=LO.val
   have hvl:vs.length=k:=by rw [LO.len,htl]
   refine(Ok.of (r:=(Ex.normal,[.sl none 0 (.ex 0),v',.int .i64 ((k+1:Nat):Int)],g3)) (.inl ⟨rfl,m - 1,by omega,k+1,v',some (g2.next+1),vs ++ [w],rfl,by omega,⟨?_,(fun j hj=>by cases hj;omega),by simp [LO.len];omega,fun j=>if j=k then(g'.next,g2.next) else rg j,fun j v x hv hx'=>?_,fun i j hij hj=>?_⟩,?_,sq3⟩)).eq (by simp -implicitDefEqProofs only [Ap,suc64 k (by omega),AO,AF,Option.bind_some,AZ,AY,Ac,AX,AL,AH,AD,Ad,AQ,AE,AM,AC,if_true,if_false,Bool.false_eq_true,AJ,AP,AG,AR,AK,AU,Int.reduceEq,Int.reduceLT,Int.reduceLE,decide_true,decide_false,AB,AA,Ae,Bool.not_true,Bool.not_false,AW])
   ·have:(vs ++ [w]).flatMap AV.cells=vs.flatMap AV.cells++w.cells:=by simp
    rw [this,List.length_take,show min (k+1) xs.length=(xs.take k).length+1 by omega]
    exact S3
   ·have hlo:∀ y,b'=some y→y<g'.next:=hb'lt
    by_cases hj:j<vs.length
    ·rw [List.getElem?_append_left hj] at hv
     have hjk:j<k:=by have:=LO.len;omega
     have hx2:(xs.take k)[j]?=some x:=by
      rw [List.getElem?_take,if_pos (by omega)] at hx' ⊢;exact hx'
     obtain⟨y1,y2,y3,y4,y5⟩:=hrg j v x hv hx2
     have hjne : ¬ j=k:=by omega
     simp only [if_neg hjne]
     generalize (rg j).1=lo at *
     generalize (rg j).2=hi at *
     have z1:=stab _ _ _ _ _ _ _ y1 y3 y4 s2 (fun j hj=>by rw [List.mem_singleton] at hj;rw [hj];exact .inl (Nat.lt_of_lt_of_le hqlt y2))
     refine⟨stab _ _ _ _ _ _ _ z1 y3 (by omega) s3 (fun j hj=>?_),y2,y3,by show hi≤g3.next;omega,fun j hj=>by cases hj;omega⟩
     cases b' with
     | none=>simp at hj
     | some y=>simp at hj;subst hj;exact y5 _ rfl
    ·rw [List.getElem?_append_right (by omega)] at hv
     have hj0:j=vs.length:=by
      have:=(List.getElem?_eq_some_iff.1 hv).1
      simp at this;omega
     subst hj0
     rw [Nat.sub_self] at hv
     simp at hv;subst hv
     rw [hvl,List.getElem?_take,if_pos (by omega),hx] at hx'
     have hx':=Option.some.inj hx'
     subst hx'
     simp only [if_pos hvl]
     refine⟨stab _ _ _ _ _ _ _ V2 s3n (Nat.le_refl _) s3 (fun j hj=>?_),by omega,by omega,by have:=s3.next;exact this,fun j hj=>by cases hj;omega⟩
     cases b' with
     | none=>simp at hj
     | some y=>simp at hj;subst hj;exact .inl (hlo _ rfl)
   ·rw [List.length_take] at hj
    have hine : ¬ i=k:=by omega
    by_cases hjk:j=k
    ·simp only [if_neg hine,if_pos hjk]
     obtain⟨w1,hw1⟩:∃ w1,vs[i]?=some w1:=⟨_,List.getElem?_eq_getElem (by omega)⟩
     obtain⟨x1,hx1⟩:∃ x1,(xs.take k)[i]?=some x1:=⟨_,List.getElem?_eq_getElem (by omega)⟩
     exact(hrg i w1 x1 hw1 hx1).2.2.2.1
    ·simp only [if_neg hine,if_neg hjk]
     exact hord i j hij (by omega)
   ·rw [e1,List.length_append,← Nat.add_assoc]
    refine R2.keep' s3 ?_ ?_ ?_
    ·cases hb0:b' with
     | none=>simp
     | some y=>simp;have:=LO.new y hb0;omega
    ·cases hb0:b' with
     | none=>simp
     | some y=>simp;have:=LO.new y hb0;have:=H.ltb;omega
    ·intro j hj
     cases hb0:b' with
     | none=>rw [hb0] at hj;simp at hj
     | some y=>rw [hb0] at hj;simp at hj;subst hj;have:=LO.new _ hb0;have:=H.same.next;omega
  ·have hk' : ¬ (k:Int)<xs.length:=by omega
   rw [List.take_of_length_le (by omega)] at LO R
   exact(Ok.of (r:=(Ex.exit 0,[.sl none 0 (.ex 0),v,.int .i64 (k:Nat)],g')) (.inr ⟨by simp,rfl,⟨b',vs,LO⟩,R,s⟩)).eq (by
    simp -implicitDefEqProofs only [DD,AG,hk',decide_false,Option.bind_some,AA])
 ·rintro _ us g' ⟨rfl,LO,R,s⟩
  exact Ah (v:=us.getD 1 .bot) (g:=g') (by simp -implicitDefEqProofs only [if_true,Al]) ⟨LO,R,s⟩
theorem Ps {α:Type}{h g:Heap}{q b n:Nat}{bs rest:List Nat}{x1:AV}{xs:List α}{enc:α→List Nat}{wf:α→Prop}{Val:Heap→AV→α→Nat→Nat→Prop}
  (stab:∀ g g' v x lo hi T,Val g v x lo hi→lo≤hi→hi≤g.next→Same T g g'→(∀ j∈T,j<lo∨hi≤j)→Val g' v x lo hi) (hcell:∀ g v x lo hi,Val g v x lo hi→v.cells.length=1∧v.cells.all scalar=true) (hpos:∀ x,0<(enc x).length)
  (H:Rdr h g q b bs n) (hd:bs.drop n=numB xs.length++(xs.flatMap enc++rest)) (hw:∀ x∈xs,wf x) (hn:xs.length≤1048576) (one:OneR (lookT T101) h x1 q b bs enc wf Val g) :
  Ok (DX (.ptr (some (q,0))) x1 g) fun r=>(∃ b' vs,LsO g r.2 1 r.1 xs Val b' vs)∧Rdr h r.2 q b bs (n+(numB xs.length).length+(xs.flatMap enc).length)∧Same [q] g r.2:=by
 obtain⟨fn,args,ecv,hone⟩:=one
 have hge:=Hh enc hpos xs
 refine Ok.eq ?_ (by simp -implicitDefEqProofs only [DX]<;>rfl)
 refine Ao (HH H hd (by rw [List.length_append];omega)) ?_
 rintro _ g1 ⟨rfl,R1,s1⟩
 simp only at R1 s1
 have hd1:bs.drop (n+(numB xs.length).length)=xs.flatMap enc++rest:=by rw [← List.drop_drop,hd,List.drop_left]
 generalize hn1:n+(numB xs.length).length=n1 at *
 refine CJ (P:=fun r=>r.1 = .exit 0∧(∃ b' vs,LsO g r.2.2 1 (r.2.1.getD 1 .bot) xs Val b' vs)∧Rdr h r.2.2 q b bs (n1+(xs.flatMap enc).length)∧Same [q] g r.2.2) ?_ ?_
 ·refine BF (fun m us g'=>∃ (k:Nat) (v:AV) (b':Option Nat) (vs:List AV),us = [.sl none 0 (.ex 0),v,.int .i64 (k:Nat)]∧m+k=xs.length∧LsO g g' 1 v (xs.take k) Val b' vs∧Rdr h g' q b bs (n1+((xs.take k).flatMap enc).length)∧Same [q] g g') ?_ (n:=xs.length) (by omega)
   ⟨0,_,none,[],rfl,rfl,⟨SlB.mt,(fun j hj=>by cases hj),rfl,fun _=>(0,0),(fun k v x hv=>by simp at hv),fun j k _ hk=>by simp at hk⟩,by simpa using R1,s1⟩
  rintro m us g' ⟨k,v,b',vs,rfl,hm,LO,R,s⟩
  rw [gD0,gD1,gD2]
  by_cases hk:k<xs.length
  ·have hk':(k:Int)<xs.length:=by omega
   obtain⟨x,hx⟩:∃ x,xs[k]?=some x:=⟨_,List.getElem?_eq_getElem hk⟩
   have e1:=GX enc hx
   have hdk:bs.drop (n1+((xs.take k).flatMap enc).length)=enc x++((xs.drop (k+1)).flatMap enc++rest):=by
    have ex:xs[k]=x:=by rw [List.getElem?_eq_getElem hk] at hx;exact Option.some.inj hx
    rw [← List.drop_drop,hd1]
    conv=>lhs;rw [← List.take_append_drop k xs,List.flatMap_append,List.append_assoc]
    have hlen:((xs.take k++xs.drop k).take k)=xs.take k:=by rw [List.take_append_drop]
    rw [hlen,List.drop_left,List.drop_eq_getElem_cons hk,ex,List.flatMap_cons,List.append_assoc]
   obtain⟨o,c,h1,h2⟩:=R.at_
   have l1:ldS g' (.ptr (some (q,1)))=some (.bool false):=by rw [Ai h1];rfl
   have htl:(xs.take k).length=k:=by rw [List.length_take];omega
   refine Ok.eq ?_ (by simp -implicitDefEqProofs only [EQ,hk',l1,Nat.zero_add,ecv,FP,AO,AF,Option.bind_some,AZ,AY,Ac,AX,AL,AH,AD,Ad,AQ,AE,AM,AC,if_true,if_false,Bool.false_eq_true,AJ,AP,AG,AR,AK,AU,Int.reduceEq,Int.reduceLT,Int.reduceLE,decide_true,decide_false,AB,AA,Ae,Bool.not_true,Bool.not_false,AW]<;>rfl)
   refine Ao (hone g' _ x _ s R hdk (hw x (List.mem_of_getElem? hx))) ?_
   rintro w g2 ⟨V2,R2,s2⟩
   simp only at V2 R2 s2
   obtain⟨hcl,hcs⟩:=hcell _ _ _ _ _ V2
   have hqlt:q<g.next:=H.ltq
   have hbq:∀ j,b'=some j→j∉[q]:=fun j hj hm=>by have:=LO.new j hj;simp at hm;omega
   have LO2:=LO.sl.same s2 hbq
   have hb'lt:∀ j,b'=some j→j<g'.next:=fun j hj=>(LO.sl.blk j hj).1
   refine app1 (bytes:=8) (z:=[(AV.int .i64 0)]) LO2 rfl hcl hcs (by decide) (by rw [htl];omega) fun v' g3 S3 s3 n3=>?_
   have s3n:=s2.next
   have sq3:Same [q] g g3:=(s.trans s2).old s3 fun j hj=>.inr (by cases b' with
    | none=>simp at hj
    | some y=>simp at hj;subst hj;exact LO.new _ rfl)
   have hg'n:=s.next
   obtain⟨rg,hrg,hord⟩:=LO.val
   have hvl:vs.length=k:=by rw [LO.len,htl]
   refine(Ok.of (r:=(Ex.normal,[.sl none 0 (.ex 0),v',.int .i64 ((k+1:Nat):Int)],g3)) (.inl ⟨rfl,m - 1,by omega,k+1,v',some (g2.next+1),vs ++ [w],rfl,by omega,⟨?_,(fun j hj=>by cases hj;omega),by simp [LO.len];omega,fun j=>if j=k then(g'.next,g2.next) else rg j,fun j v x hv hx'=>?_,fun i j hij hj=>?_⟩,?_,sq3⟩)).eq (by simp -implicitDefEqProofs only [Ap,suc64 k (by omega),AO,AF,Option.bind_some,AZ,AY,Ac,AX,AL,AH,AD,Ad,AQ,AE,AM,AC,if_true,if_false,Bool.false_eq_true,AJ,AP,AG,AR,AK,AU,Int.reduceEq,Int.reduceLT,Int.reduceLE,decide_true,decide_false,AB,AA,Ae,Bool.not_true,Bool.not_false,AW])
   ·have:(vs ++ [w]).flatMap AV.cells=vs.flatMap AV.cells++w.cells:=by simp
    rw [this,List.length_take,show min (k+1) xs.length=(xs.take k).length+1 by omega]
    exact S3
   ·have hlo:∀ y,b'=some y→y<g'.next:=hb'lt
    by_cases hj:j<vs.length
    ·rw [List.getElem?_append_left hj] at hv
     have hjk:j<k:=by have:=LO.len;omega
     have hx2:(xs.take k)[j]?=some x:=by
      rw [List.getElem?_take,if_pos (by omega)] at hx' ⊢;exact hx'
     obtain⟨y1,y2,y3,y4,y5⟩:=hrg j v x hv hx2
     have hjne : ¬ j=k:=by omega
     simp only [if_neg hjne]
     generalize (rg j).1=lo at *
     generalize (rg j).2=hi at *
     have z1:=stab _ _ _ _ _ _ _ y1 y3 y4 s2 (fun j hj=>by rw [List.mem_singleton] at hj;rw [hj];exact .inl (Nat.lt_of_lt_of_le hqlt y2))
     refine⟨stab _ _ _ _ _ _ _ z1 y3 (by omega) s3 (fun j hj=>?_),y2,y3,by show hi≤g3.next;omega,fun j hj=>by cases hj;omega⟩
     cases b' with
     | none=>simp at hj
     | some y=>simp at hj;subst hj;exact y5 _ rfl
    ·rw [List.getElem?_append_right (by omega)] at hv
     have hj0:j=vs.length:=by
      have:=(List.getElem?_eq_some_iff.1 hv).1
      simp at this;omega
     subst hj0
     rw [Nat.sub_self] at hv
     simp at hv;subst hv
     rw [hvl,List.getElem?_take,if_pos (by omega),hx] at hx'
     have hx':=Option.some.inj hx'
     subst hx'
     simp only [if_pos hvl]
     refine⟨stab _ _ _ _ _ _ _ V2 s3n (Nat.le_refl _) s3 (fun j hj=>?_),by omega,by omega,by have:=s3.next;exact this,fun j hj=>by cases hj;omega⟩
     cases b' with
     | none=>simp at hj
     | some y=>simp at hj;subst hj;exact .inl (hlo _ rfl)
   ·rw [List.length_take] at hj
    have hine : ¬ i=k:=by omega
    by_cases hjk:j=k
    ·simp only [if_neg hine,if_pos hjk]
     obtain⟨w1,hw1⟩:∃ w1,vs[i]?=some w1:=⟨_,List.getElem?_eq_getElem (by omega)⟩
     obtain⟨x1,hx1⟩:∃ x1,(xs.take k)[i]?=some x1:=⟨_,List.getElem?_eq_getElem (by omega)⟩
     exact(hrg i w1 x1 hw1 hx1).2.2.2.1
    ·simp only [if_neg hine,if_neg hjk]
     exact hord i j hij (by omega)
   ·rw [e1,List.length_append,← Nat.add_assoc]
    refine R2.keep' s3 ?_ ?_ ?_
    ·cases hb0:b' with
     | none=>simp
     | some y=>simp;have:=LO.new y hb0;omega
    ·cases hb0:b' with
     | none=>simp
     | some y=>simp;have:=LO.new y hb0;have:=H.ltb;omega
    ·intro j hj
     cases hb0:b' with
     | none=>rw [hb0] at hj;simp at hj
     | some y=>rw [hb0] at hj;simp at hj;subst hj;have:=LO.new _ hb0;have:=H.same.next;omega
  ·have hk' : ¬ (k:Int)<xs.length:=by omega
   rw [List.take_of_length_le (by omega)] at LO R
   exact(Ok.of (r:=(Ex.exit 0,[.sl none 0 (.ex 0),v,.int .i64 (k:Nat)],g')) (.inr ⟨by simp,rfl,⟨b',vs,LO⟩,R,s⟩)).eq (by
    simp -implicitDefEqProofs only [EQ,AG,hk',decide_false,Option.bind_some,AA])
 ·rintro _ us g' ⟨rfl,LO,R,s⟩
  exact Ah (v:=us.getD 1 .bot) (g:=g') (by simp -implicitDefEqProofs only [if_true,Al]) ⟨LO,R,s⟩
theorem PP {α:Type}{h g:Heap}{q b n:Nat}{bs rest:List Nat}{x1:AV}{xs:List α}{enc:α→List Nat}{wf:α→Prop}{Val:Heap→AV→α→Nat→Nat→Prop}
  (stab:∀ g g' v x lo hi T,Val g v x lo hi→lo≤hi→hi≤g.next→Same T g g'→(∀ j∈T,j<lo∨hi≤j)→Val g' v x lo hi) (hcell:∀ g v x lo hi,Val g v x lo hi→v.cells.length=4∧v.cells.all scalar=true) (hpos:∀ x,0<(enc x).length)
  (H:Rdr h g q b bs n) (hd:bs.drop n=numB xs.length++(xs.flatMap enc++rest)) (hw:∀ x∈xs,wf x) (hn:xs.length≤1048576) (one:OneR (lookT T102) h x1 q b bs enc wf Val g) :
  Ok (Cd (.ptr (some (q,0))) x1 g) fun r=>(∃ b' vs,LsO g r.2 4 r.1 xs Val b' vs)∧Rdr h r.2 q b bs (n+(numB xs.length).length+(xs.flatMap enc).length)∧Same [q] g r.2:=by
 obtain⟨fn,args,ecv,hone⟩:=one
 have hge:=Hh enc hpos xs
 refine Ok.eq ?_ (by simp -implicitDefEqProofs only [Cd]<;>rfl)
 refine Ao (HH H hd (by rw [List.length_append];omega)) ?_
 rintro _ g1 ⟨rfl,R1,s1⟩
 simp only at R1 s1
 have hd1:bs.drop (n+(numB xs.length).length)=xs.flatMap enc++rest:=by rw [← List.drop_drop,hd,List.drop_left]
 generalize hn1:n+(numB xs.length).length=n1 at *
 refine CJ (P:=fun r=>r.1 = .exit 0∧(∃ b' vs,LsO g r.2.2 4 (r.2.1.getD 1 .bot) xs Val b' vs)∧Rdr h r.2.2 q b bs (n1+(xs.flatMap enc).length)∧Same [q] g r.2.2) ?_ ?_
 ·refine BF (fun m us g'=>∃ (k:Nat) (v:AV) (b':Option Nat) (vs:List AV),us = [.sl none 0 (.ex 0),v,.int .i64 (k:Nat)]∧m+k=xs.length∧LsO g g' 4 v (xs.take k) Val b' vs∧Rdr h g' q b bs (n1+((xs.take k).flatMap enc).length)∧Same [q] g g') ?_ (n:=xs.length) (by omega)
   ⟨0,_,none,[],rfl,rfl,⟨SlB.mt,(fun j hj=>by cases hj),rfl,fun _=>(0,0),(fun k v x hv=>by simp at hv),fun j k _ hk=>by simp at hk⟩,by simpa using R1,s1⟩
  rintro m us g' ⟨k,v,b',vs,rfl,hm,LO,R,s⟩
  rw [gD0,gD1,gD2]
  by_cases hk:k<xs.length
  ·have hk':(k:Int)<xs.length:=by omega
   obtain⟨x,hx⟩:∃ x,xs[k]?=some x:=⟨_,List.getElem?_eq_getElem hk⟩
   have e1:=GX enc hx
   have hdk:bs.drop (n1+((xs.take k).flatMap enc).length)=enc x++((xs.drop (k+1)).flatMap enc++rest):=by
    have ex:xs[k]=x:=by rw [List.getElem?_eq_getElem hk] at hx;exact Option.some.inj hx
    rw [← List.drop_drop,hd1]
    conv=>lhs;rw [← List.take_append_drop k xs,List.flatMap_append,List.append_assoc]
    have hlen:((xs.take k++xs.drop k).take k)=xs.take k:=by rw [List.take_append_drop]
    rw [hlen,List.drop_left,List.drop_eq_getElem_cons hk,ex,List.flatMap_cons,List.append_assoc]
   obtain⟨o,c,h1,h2⟩:=R.at_
   have l1:ldS g' (.ptr (some (q,1)))=some (.bool false):=by rw [Ai h1];rfl
   have htl:(xs.take k).length=k:=by rw [List.length_take];omega
   refine Ok.eq ?_ (by simp -implicitDefEqProofs only [DT,hk',l1,Nat.zero_add,ecv,FP,AO,AF,Option.bind_some,AZ,AY,Ac,AX,AL,AH,AD,Ad,AQ,AE,AM,AC,if_true,if_false,Bool.false_eq_true,AJ,AP,AG,AR,AK,AU,Int.reduceEq,Int.reduceLT,Int.reduceLE,decide_true,decide_false,AB,AA,Ae,Bool.not_true,Bool.not_false,AW]<;>rfl)
   refine Ao (hone g' _ x _ s R hdk (hw x (List.mem_of_getElem? hx))) ?_
   rintro w g2 ⟨V2,R2,s2⟩
   simp only at V2 R2 s2
   obtain⟨hcl,hcs⟩:=hcell _ _ _ _ _ V2
   have hqlt:q<g.next:=H.ltq
   have hbq:∀ j,b'=some j→j∉[q]:=fun j hj hm=>by have:=LO.new j hj;simp at hm;omega
   have LO2:=LO.sl.same s2 hbq
   have hb'lt:∀ j,b'=some j→j<g'.next:=fun j hj=>(LO.sl.blk j hj).1
   refine app1 (bytes:=32) (z:=[(AV.int .i64 0),(AV.int .i64 0),(AV.int .i64 0),(AV.int .i64 0)]) LO2 rfl hcl hcs (by decide) (by rw [htl];omega) fun v' g3 S3 s3 n3=>?_
   have s3n:=s2.next
   have sq3:Same [q] g g3:=(s.trans s2).old s3 fun j hj=>.inr (by cases b' with
    | none=>simp at hj
    | some y=>simp at hj;subst hj;exact LO.new _ rfl)
   have hg'n:=s.next
   obtain⟨rg,hrg,hord⟩:=LO.val
   have hvl:vs.length=k:=by rw [LO.len,htl]
   refine(Ok.of (r:=(Ex.normal,[.sl none 0 (.ex 0),v',.int .i64 ((k+1:Nat):Int)],g3)) (.inl ⟨rfl,m - 1,by omega,k+1,v',some (g2.next+1),vs ++ [w],rfl,by omega,⟨?_,(fun j hj=>by cases hj;omega),by simp [LO.len];omega,fun j=>if j=k then(g'.next,g2.next) else rg j,fun j v x hv hx'=>?_,fun i j hij hj=>?_⟩,?_,sq3⟩)).eq (by simp -implicitDefEqProofs only [Ap,suc64 k (by omega),AO,AF,Option.bind_some,AZ,AY,Ac,AX,AL,AH,AD,Ad,AQ,AE,AM,AC,if_true,if_false,Bool.false_eq_true,AJ,AP,AG,AR,AK,AU,Int.reduceEq,Int.reduceLT,Int.reduceLE,decide_true,decide_false,AB,AA,Ae,Bool.not_true,Bool.not_false,AW])
   ·have:(vs ++ [w]).flatMap AV.cells=vs.flatMap AV.cells++w.cells:=by simp
    rw [this,List.length_take,show min (k+1) xs.length=(xs.take k).length+1 by omega]
    exact S3
   ·have hlo:∀ y,b'=some y→y<g'.next:=hb'lt
    by_cases hj:j<vs.length
    ·rw [List.getElem?_append_left hj] at hv
     have hjk:j<k:=by have:=LO.len;omega
     have hx2:(xs.take k)[j]?=some x:=by
      rw [List.getElem?_take,if_pos (by omega)] at hx' ⊢;exact hx'
     obtain⟨y1,y2,y3,y4,y5⟩:=hrg j v x hv hx2
     have hjne : ¬ j=k:=by omega
     simp only [if_neg hjne]
     generalize (rg j).1=lo at *
     generalize (rg j).2=hi at *
     have z1:=stab _ _ _ _ _ _ _ y1 y3 y4 s2 (fun j hj=>by rw [List.mem_singleton] at hj;rw [hj];exact .inl (Nat.lt_of_lt_of_le hqlt y2))
     refine⟨stab _ _ _ _ _ _ _ z1 y3 (by omega) s3 (fun j hj=>?_),y2,y3,by show hi≤g3.next;omega,fun j hj=>by cases hj;omega⟩
     cases b' with
     | none=>simp at hj
     | some y=>simp at hj;subst hj;exact y5 _ rfl
    ·rw [List.getElem?_append_right (by omega)] at hv
     have hj0:j=vs.length:=by
      have:=(List.getElem?_eq_some_iff.1 hv).1
      simp at this;omega
     subst hj0
     rw [Nat.sub_self] at hv
     simp at hv;subst hv
     rw [hvl,List.getElem?_take,if_pos (by omega),hx] at hx'
     have hx':=Option.some.inj hx'
     subst hx'
     simp only [if_pos hvl]
     refine⟨stab _ _ _ _ _ _ _ V2 s3n (Nat.le_refl _) s3 (fun j hj=>?_),by omega,by omega,by have:=s3.next;exact this,fun j hj=>by cases hj;omega⟩
     cases b' with
     | none=>simp at hj
     | some y=>simp at hj;subst hj;exact .inl (hlo _ rfl)
   ·rw [List.length_take] at hj
    have hine : ¬ i=k:=by omega
    by_cases hjk:j=k
    ·simp only [if_neg hine,if_pos hjk]
     obtain⟨w1,hw1⟩:∃ w1,vs[i]?=some w1:=⟨_,List.getElem?_eq_getElem (by omega)⟩
     obtain⟨x1,hx1⟩:∃ x1,(xs.take k)[i]?=some x1:=⟨_,List.getElem?_eq_getElem (by omega)⟩
     exact(hrg i w1 x1 hw1 hx1).2.2.2.1
    ·simp only [if_neg hine,if_neg hjk]
     exact hord i j hij (by omega)
   ·rw [e1,List.length_append,← Nat.add_assoc]
    refine R2.keep' s3 ?_ ?_ ?_
    ·cases hb0:b' with
     | none=>simp
     | some y=>simp;have:=LO.new y hb0;omega
    ·cases hb0:b' with
     | none=>simp
     | some y=>simp;have:=LO.new y hb0;have:=H.ltb;omega
    ·intro j hj
     cases hb0:b' with
     | none=>rw [hb0] at hj;simp at hj
     | some y=>rw [hb0] at hj;simp at hj;subst hj;have:=LO.new _ hb0;have:=H.same.next;omega
  ·have hk' : ¬ (k:Int)<xs.length:=by omega
   rw [List.take_of_length_le (by omega)] at LO R
   exact(Ok.of (r:=(Ex.exit 0,[.sl none 0 (.ex 0),v,.int .i64 (k:Nat)],g')) (.inr ⟨by simp,rfl,⟨b',vs,LO⟩,R,s⟩)).eq (by
    simp -implicitDefEqProofs only [DT,AG,hk',decide_false,Option.bind_some,AA])
 ·rintro _ us g' ⟨rfl,LO,R,s⟩
  exact Ah (v:=us.getD 1 .bot) (g:=g') (by simp -implicitDefEqProofs only [if_true,Al]) ⟨LO,R,s⟩
theorem Oa {α:Type}{h g:Heap}{q b n:Nat}{bs rest:List Nat}{x1:AV}{xs:List α}{enc:α→List Nat}{wf:α→Prop}{Val:Heap→AV→α→Nat→Nat→Prop}
  (stab:∀ g g' v x lo hi T,Val g v x lo hi→lo≤hi→hi≤g.next→Same T g g'→(∀ j∈T,j<lo∨hi≤j)→Val g' v x lo hi) (hcell:∀ g v x lo hi,Val g v x lo hi→v.cells.length=7∧v.cells.all scalar=true) (hpos:∀ x,0<(enc x).length)
  (H:Rdr h g q b bs n) (hd:bs.drop n=numB xs.length++(xs.flatMap enc++rest)) (hw:∀ x∈xs,wf x) (hn:xs.length≤1048576) (one:OneR (lookT T103) h x1 q b bs enc wf Val g) :
  Ok (Cf (.ptr (some (q,0))) x1 g) fun r=>(∃ b' vs,LsO g r.2 7 r.1 xs Val b' vs)∧Rdr h r.2 q b bs (n+(numB xs.length).length+(xs.flatMap enc).length)∧Same [q] g r.2:=by
 obtain⟨fn,args,ecv,hone⟩:=one
 have hge:=Hh enc hpos xs
 refine Ok.eq ?_ (by simp -implicitDefEqProofs only [Cf]<;>rfl)
 refine Ao (HH H hd (by rw [List.length_append];omega)) ?_
 rintro _ g1 ⟨rfl,R1,s1⟩
 simp only at R1 s1
 have hd1:bs.drop (n+(numB xs.length).length)=xs.flatMap enc++rest:=by rw [← List.drop_drop,hd,List.drop_left]
 generalize hn1:n+(numB xs.length).length=n1 at *
 refine CJ (P:=fun r=>r.1 = .exit 0∧(∃ b' vs,LsO g r.2.2 7 (r.2.1.getD 1 .bot) xs Val b' vs)∧Rdr h r.2.2 q b bs (n1+(xs.flatMap enc).length)∧Same [q] g r.2.2) ?_ ?_
 ·refine BF (fun m us g'=>∃ (k:Nat) (v:AV) (b':Option Nat) (vs:List AV),us = [.sl none 0 (.ex 0),v,.int .i64 (k:Nat)]∧m+k=xs.length∧LsO g g' 7 v (xs.take k) Val b' vs∧Rdr h g' q b bs (n1+((xs.take k).flatMap enc).length)∧Same [q] g g') ?_ (n:=xs.length) (by omega)
   ⟨0,_,none,[],rfl,rfl,⟨SlB.mt,(fun j hj=>by cases hj),rfl,fun _=>(0,0),(fun k v x hv=>by simp at hv),fun j k _ hk=>by simp at hk⟩,by simpa using R1,s1⟩
  rintro m us g' ⟨k,v,b',vs,rfl,hm,LO,R,s⟩
  rw [gD0,gD1,gD2]
  by_cases hk:k<xs.length
  ·have hk':(k:Int)<xs.length:=by omega
   obtain⟨x,hx⟩:∃ x,xs[k]?=some x:=⟨_,List.getElem?_eq_getElem hk⟩
   have e1:=GX enc hx
   have hdk:bs.drop (n1+((xs.take k).flatMap enc).length)=enc x++((xs.drop (k+1)).flatMap enc++rest):=by
    have ex:xs[k]=x:=by rw [List.getElem?_eq_getElem hk] at hx;exact Option.some.inj hx
    rw [← List.drop_drop,hd1]
    conv=>lhs;rw [← List.take_append_drop k xs,List.flatMap_append,List.append_assoc]
    have hlen:((xs.take k++xs.drop k).take k)=xs.take k:=by rw [List.take_append_drop]
    rw [hlen,List.drop_left,List.drop_eq_getElem_cons hk,ex,List.flatMap_cons,List.append_assoc]
   obtain⟨o,c,h1,h2⟩:=R.at_
   have l1:ldS g' (.ptr (some (q,1)))=some (.bool false):=by rw [Ai h1];rfl
   have htl:(xs.take k).length=k:=by rw [List.length_take];omega
   refine Ok.eq ?_ (by simp -implicitDefEqProofs only [Da,hk',l1,Nat.zero_add,ecv,FP,AO,AF,Option.bind_some,AZ,AY,Ac,AX,AL,AH,AD,Ad,AQ,AE,AM,AC,if_true,if_false,Bool.false_eq_true,AJ,AP,AG,AR,AK,AU,Int.reduceEq,Int.reduceLT,Int.reduceLE,decide_true,decide_false,AB,AA,Ae,Bool.not_true,Bool.not_false,AW]<;>rfl)
   refine Ao (hone g' _ x _ s R hdk (hw x (List.mem_of_getElem? hx))) ?_
   rintro w g2 ⟨V2,R2,s2⟩
   simp only at V2 R2 s2
   obtain⟨hcl,hcs⟩:=hcell _ _ _ _ _ V2
   have hqlt:q<g.next:=H.ltq
   have hbq:∀ j,b'=some j→j∉[q]:=fun j hj hm=>by have:=LO.new j hj;simp at hm;omega
   have LO2:=LO.sl.same s2 hbq
   have hb'lt:∀ j,b'=some j→j<g'.next:=fun j hj=>(LO.sl.blk j hj).1
   refine app1 (bytes:=104) (z:=[(AV.int .i64 0),(AV.int .i64 0),(AV.int .i64 0),(AV.int .i64 0),(AV.sl none 0 (.ex 0)),(AV.sl none 0 (.ex 0)),(AV.sl none 0 (.ex 0))]) LO2 rfl hcl hcs (by decide) (by rw [htl];omega) fun v' g3 S3 s3 n3=>?_
   have s3n:=s2.next
   have sq3:Same [q] g g3:=(s.trans s2).old s3 fun j hj=>.inr (by cases b' with
    | none=>simp at hj
    | some y=>simp at hj;subst hj;exact LO.new _ rfl)
   have hg'n:=s.next
   obtain⟨rg,hrg,hord⟩:=LO.val
   have hvl:vs.length=k:=by rw [LO.len,htl]
   refine(Ok.of (r:=(Ex.normal,[.sl none 0 (.ex 0),v',.int .i64 ((k+1:Nat):Int)],g3)) (.inl ⟨rfl,m - 1,by omega,k+1,v',some (g2.next+1),vs ++ [w],rfl,by omega,⟨?_,(fun j hj=>by cases hj;omega),by simp [LO.len];omega,fun j=>if j=k then(g'.next,g2.next) else rg j,fun j v x hv hx'=>?_,fun i j hij hj=>?_⟩,?_,sq3⟩)).eq (by simp -implicitDefEqProofs only [Ap,suc64 k (by omega),AO,AF,Option.bind_some,AZ,AY,Ac,AX,AL,AH,AD,Ad,AQ,AE,AM,AC,if_true,if_false,Bool.false_eq_true,AJ,AP,AG,AR,AK,AU,Int.reduceEq,Int.reduceLT,Int.reduceLE,decide_true,decide_false,AB,AA,Ae,Bool.not_true,Bool.not_false,AW])
   ·have:(vs ++ [w]).flatMap AV.cells=vs.flatMap AV.cells++w.cells:=by simp
    rw [this,List.length_take,show min (k+1) xs.length=(xs.take k).length+1 by omega]
    exact S3
   ·have hlo:∀ y,b'=some y→y<g'.next:=hb'lt
    by_cases hj:j<vs.length
    ·rw [List.getElem?_append_left hj] at hv
     have hjk:j<k:=by have:=LO.len;omega
     have hx2:(xs.take k)[j]?=some x:=by
      rw [List.getElem?_take,if_pos (by omega)] at hx' ⊢;exact hx'
     obtain⟨y1,y2,y3,y4,y5⟩:=hrg j v x hv hx2
     have hjne : ¬ j=k:=by omega
     simp only [if_neg hjne]
     generalize (rg j).1=lo at *
     generalize (rg j).2=hi at *
     have z1:=stab _ _ _ _ _ _ _ y1 y3 y4 s2 (fun j hj=>by rw [List.mem_singleton] at hj;rw [hj];exact .inl (Nat.lt_of_lt_of_le hqlt y2))
     refine⟨stab _ _ _ _ _ _ _ z1 y3 (by omega) s3 (fun j hj=>?_),y2,y3,by show hi≤g3.next;omega,fun j hj=>by cases hj;omega⟩
     cases b' with
     | none=>simp at hj
     | some y=>simp at hj;subst hj;exact y5 _ rfl
    ·rw [List.getElem?_append_right (by omega)] at hv
     have hj0:j=vs.length:=by
      have:=(List.getElem?_eq_some_iff.1 hv).1
      simp at this;omega
     subst hj0
     rw [Nat.sub_self] at hv
     simp at hv;subst hv
     rw [hvl,List.getElem?_take,if_pos (by omega),hx] at hx'
     have hx':=Option.some.inj hx'
     subst hx'
     simp only [if_pos hvl]
     refine⟨stab _ _ _ _ _ _ _ V2 s3n (Nat.le_refl _) s3 (fun j hj=>?_),by omega,by omega,by have:=s3.next;exact this,fun j hj=>by cases hj;omega⟩
     cases b' with
     | none=>simp at hj
     | some y=>simp at hj;subst hj;exact .inl (hlo _ rfl)
   ·rw [List.length_take] at hj
    have hine : ¬ i=k:=by omega
    by_cases hjk:j=k
    ·simp only [if_neg hine,if_pos hjk]
     obtain⟨w1,hw1⟩:∃ w1,vs[i]?=some w1:=⟨_,List.getElem?_eq_getElem (by omega)⟩
     obtain⟨x1,hx1⟩:∃ x1,(xs.take k)[i]?=some x1:=⟨_,List.getElem?_eq_getElem (by omega)⟩
     exact(hrg i w1 x1 hw1 hx1).2.2.2.1
    ·simp only [if_neg hine,if_neg hjk]
     exact hord i j hij (by omega)
   ·rw [e1,List.length_append,← Nat.add_assoc]
    refine R2.keep' s3 ?_ ?_ ?_
    ·cases hb0:b' with
     | none=>simp
     | some y=>simp;have:=LO.new y hb0;omega
    ·cases hb0:b' with
     | none=>simp
     | some y=>simp;have:=LO.new y hb0;have:=H.ltb;omega
    ·intro j hj
     cases hb0:b' with
     | none=>rw [hb0] at hj;simp at hj
     | some y=>rw [hb0] at hj;simp at hj;subst hj;have:=LO.new _ hb0;have:=H.same.next;omega
  ·have hk' : ¬ (k:Int)<xs.length:=by omega
   rw [List.take_of_length_le (by omega)] at LO R
   exact(Ok.of (r:=(Ex.exit 0,[.sl none 0 (.ex 0),v,.int .i64 (k:Nat)],g')) (.inr ⟨by simp,rfl,⟨b',vs,LO⟩,R,s⟩)).eq (by
    simp -implicitDefEqProofs only [Da,AG,hk',decide_false,Option.bind_some,AA])
 ·rintro _ us g' ⟨rfl,LO,R,s⟩
  exact Ah (v:=us.getD 1 .bot) (g:=g') (by simp -implicitDefEqProofs only [if_true,Al]) ⟨LO,R,s⟩
set_option linter.all false
attribute [local congr] BI D1 Dy D2 Bu D3 Dz Aw Av
def ValP {α:Type}(cell:α→AV):Heap→AV→α→Nat→Nat→Prop:=fun _ v x _ _=>v=cell x
theorem ValP.stab {α:Type}(cell:α→AV):∀ (g g':Heap) v x (lo hi:Nat) (T:List Nat),ValP cell g v x lo hi→lo≤hi→hi≤g.next→Same T g g'→(∀ j∈T,j<lo∨hi≤j)→ValP cell g' v x lo hi:=fun _ _ _ _ _ _ _ h _ _ _ _=>h
theorem Nx {h g:Heap}{q b:Nat}{bs:List Nat}:OneR (lookT T32) h (.fn 29 [.ptr (some (q,0))] []) q b bs (fun x:Bool=>numB (flgN x)) (fun _=>True) (ValP AV.bool) g:=by
 refine⟨29,[.ptr (some (q,0))],rfl,fun g' n x rest s R hd _=>?_⟩
 show Ok (C6 (.ptr (some (q,0))) g') _
 exact QS R hd
theorem Rp {h g:Heap}{q b:Nat}{bs:List Nat}:OneR (lookT T34) h (.fn 27 [.ptr (some (q,0))] []) q b bs (fun x:Int=>numB x.toNat) (fun x=>0≤x∧x < 18446744073709551616) (ValP (AV.int .u64)) g:=by
 refine⟨27,[.ptr (some (q,0))],rfl,fun g' n x rest s R hd hw=>?_⟩
 show Ok (Bq (.ptr (some (q,0))) g') _
 refine(I4 R hd (by omega)).mono ?_
 rintro r ⟨h1,h2⟩
 exact⟨by rw [h1,show((x.toNat:Nat):Int)=x by omega];rfl,h2⟩
theorem RH {h g:Heap}{q b vb:Nat}{bs:List Nat}(hv:g.get vb=some (.cells true [.ptr (some (q,0))]))(hlt:vb<g.next)(hne:vb≠q):OneR (lookT T101) h (.fn 31 [] [.ptr (some (vb,0))]) q b bs (fun x:Int=>numB (zigN x)) wfI (ValP (AV.int .i64)) g:=by
 refine⟨31,[.ptr (some (vb,0))],rfl,fun g' n x rest s R hd hw=>?_⟩
 show Ok (E4 (.ptr (some (vb,0))) g') _
 have l0:ldS g' (.ptr (some (vb,0)))=some (.ptr (some (q,0))):=by rw [Ai (by rw [s.get vb hlt (by simpa using hne)];exact hv)];rfl
 have hz:zigN x < 2 ^ 64:=LG (by have:=EW hw;omega) (by have:=EW hw;omega)
 refine Ok.eq ?_ (by simp -implicitDefEqProofs only [E4,l0,Option.bind_some]<;>rfl)
 refine Ao (I4 R hd hz) ?_
 rintro _ g1 ⟨rfl,R1,s1⟩
 exact Ah (v:=.int .i64 x) (g:=g1) (by simp -implicitDefEqProofs only [Qo hz,AE,Ob]) ⟨rfl,R1,s1⟩
theorem Bf {bs a rest:List Nat}{n:Nat}(h:bs.drop n=a++rest):bs.drop (n+a.length)=rest:=by rw [← List.drop_drop,h,List.drop_left]
theorem Qt {h g:Heap}{q b vb:Nat}{bs:List Nat}(hv:g.get vb=some (.cells true [.ptr (some (q,0))]))(hlt:vb<g.next)(hne:vb≠q):OneR (lookT T100) h (.fn 25 [] [.ptr (some (vb,0))]) q b bs shpE Shp.wf (ValP fun x:Shp=>.agg x.row) g:=by
 refine⟨25,[.ptr (some (vb,0))],rfl,fun g' n x rest s R hd hw=>?_⟩
 show Ok (Ev (.ptr (some (vb,0))) g') _
 have ld:∀ g'',Same [q] g g''→ldS g'' (.ptr (some (vb,0)))=some (.ptr (some (q,0))):=fun g'' s=>by rw [Ai (by rw [s.get vb hlt (by simpa using hne)];exact hv)];rfl
 obtain⟨wkind,wfields⟩:=hw
 have ee:shpE x=numB (zigN x.kind)++(numB (zigN x.fields)++(numB x.map.toNat)):=by simp [shpE,intsB]
 rw [ee] at hd ⊢
 simp only [List.append_assoc] at hd
 obtain⟨g0,hg0⟩:∃ g0,g0=g'.new (.cells true [(AV.int .i64 0),(AV.int .i64 0),(AV.int .u64 0)]):=⟨_,rfl⟩
 have s0:Same [] g' g0:=by rw [hg0];exact Same.new _ _
 have b0:g0.get g'.next=some (.cells true [(AV.int .i64 0),(AV.int .i64 0),(AV.int .u64 0)]):=by rw [hg0];exact Am
 have n0:g0.next=g'.next+1:=by rw [hg0];rfl
 have R0:=R.keep s0
 have t0:Same [q] g g0:=s.trans (s0.sub (by simp))
 have l0:=ld g0 t0
 have u0:Same [q] g0 g0:=Same.refl _ _
 refine Ok.eq ?_ (by simp -implicitDefEqProofs only [Ev,Af,← hg0,l0,Option.bind_some]<;>rfl)
 refine Ao (EO R0 hd wkind) ?_
 rintro _ g1 ⟨rfl,R1,s1⟩
 simp only at R1 s1
 have t1:=t0.trans s1
 have u1:=u0.trans s1
 have l1:=ld g1 t1
 have hd1:=Bf hd
 refine Ok.eq ?_ (by simp -implicitDefEqProofs only [Bp (f:=fun k=>ldS k (.ptr (some (vb,0)))) (h:=g1) l1,AM]<;>rfl)
 refine Ao (EO R1 hd1 wfields) ?_
 rintro _ g2 ⟨rfl,R2,s2⟩
 simp only at R2 s2
 have t2:=t1.trans s2
 have u2:=u1.trans s2
 have l2:=ld g2 t2
 have hd2:=Bf hd1
 refine Ok.eq ?_ (by simp -implicitDefEqProofs only [Bp (f:=fun k=>ldS k (.ptr (some (vb,0)))) (h:=g2) l2,AM]<;>rfl)
 refine Ao (I4 R2 hd2 x.map.isLt) ?_
 rintro _ g3 ⟨rfl,R3,s3⟩
 simp only at R3 s3
 have t3:=t2.trans s3
 have u3:=u2.trans s3
 have hlq:q<g'.next:=R.ltq
 have bk:=(u3.get g'.next (by omega) (by simp;omega)).trans b0
 have hb:bldS [(0,1),(1,1),(2,1)] [(AV.int .i64 0),(AV.int .i64 0),(AV.int .u64 0)] [(0,.int .i64 x.kind),(1,.int .i64 x.fields),(2,.int .u64 (x.map.toNat:Int))]=some (.agg x.row):=rfl
 have st:=Ds (n:=3) bk rfl (show x.row.length=3 from rfl) rfl
 have sP:Same [g'.next] g3 (g3.put g'.next (some (.cells true x.row))):=Same.put _ _ _
 have la:ldA 3 (g3.put g'.next (some (.cells true x.row))) (.ptr (some (g'.next,0)))=some (.agg x.row):=Ck An rfl
 have hbl:=R.ltb;have hnq:=R.newq;have hgn:=R.same.next
 have RF:=R3.keep' sP (by simp;omega) (by simp;omega) (fun j hj=>by simp at hj;omega)
 have hsg:=s.next
 have lF:ldS (g3.put g'.next (some (.cells true x.row))) (.ptr (some (vb,0)))=some (.ptr (some (q,0))):=by rw [Ai (by rw [Bd (by omega),t3.get vb hlt (by simpa using hne)];exact hv)];rfl
 refine Ok.eq ?_ (by simp -implicitDefEqProofs only [hb,st,AO,AF,Option.bind_some,AZ,AY,Ac,AX,AL,AH,AD,Ad,AQ,AE,AM,AC,if_true,if_false,Bool.false_eq_true,AJ,AP,AG,AR,AK,AU,Int.reduceEq,Int.reduceLT,Int.reduceLE,decide_true,decide_false,AB,AA,Ae,Bool.not_true,Bool.not_false,AW]<;>rfl)
 rw [Cq (Dw _) (by simp only [List.mem_cons,List.not_mem_nil,or_false,forall_eq_or_imp,forall_eq];exact⟨ld g0 t0,ld g1 t1,ld g2 t2,ld g3 t3,lF⟩) (by simp)]
 rw [Cq (Dw _) (by simp only [List.mem_cons,List.not_mem_nil,or_false,forall_eq_or_imp,forall_eq];exact⟨ld g0 t0,ld g1 t1,ld g2 t2,ld g3 t3,lF⟩) (by simp)]
 rw [AW,la,Option.bind_some]
 refine Ok.of (r:=(AV.agg x.row,g3.put g'.next (some (.cells true x.row)))) ⟨rfl,?_,?_⟩
 ·have:n+(numB (zigN x.kind)++(numB (zigN x.fields)++(numB x.map.toNat))).length=n+(numB (zigN x.kind)).length+(numB (zigN x.fields)).length+(numB x.map.toNat).length:=by simp only [List.length_append];omega
  rw [this];exact RF
 ·exact((s0.sub (by simp)).trans u3).old sP fun j hj=>.inr (by simp at hj;omega)
theorem Q5 {h g:Heap}{q b vb:Nat}{bs:List Nat}(hv:g.get vb=some (.cells true [.ptr (some (q,0))]))(hlt:vb<g.next)(hne:vb≠q):OneR (lookT T102) h (.fn 34 [] [.ptr (some (vb,0))]) q b bs casE Cas.wf (ValP fun x:Cas=>.agg x.row) g:=by
 refine⟨34,[.ptr (some (vb,0))],rfl,fun g' n x rest s R hd hw=>?_⟩
 show Ok (E5 (.ptr (some (vb,0))) g') _
 have ld:∀ g'',Same [q] g g''→ldS g'' (.ptr (some (vb,0)))=some (.ptr (some (q,0))):=fun g'' s=>by rw [Ai (by rw [s.get vb hlt (by simpa using hne)];exact hv)];rfl
 obtain⟨wkind,wchan,wval,wto⟩:=hw
 have ee:casE x=numB (zigN x.kind)++(numB (zigN x.chan)++(numB (zigN x.val)++(numB (zigN x.to)))):=by simp [casE,intsB]
 rw [ee] at hd ⊢
 simp only [List.append_assoc] at hd
 obtain⟨g0,hg0⟩:∃ g0,g0=g'.new (.cells true [(AV.int .i64 0),(AV.int .i64 0),(AV.int .i64 0),(AV.int .i64 0)]):=⟨_,rfl⟩
 have s0:Same [] g' g0:=by rw [hg0];exact Same.new _ _
 have b0:g0.get g'.next=some (.cells true [(AV.int .i64 0),(AV.int .i64 0),(AV.int .i64 0),(AV.int .i64 0)]):=by rw [hg0];exact Am
 have n0:g0.next=g'.next+1:=by rw [hg0];rfl
 have R0:=R.keep s0
 have t0:Same [q] g g0:=s.trans (s0.sub (by simp))
 have l0:=ld g0 t0
 have u0:Same [q] g0 g0:=Same.refl _ _
 refine Ok.eq ?_ (by simp -implicitDefEqProofs only [E5,Af,← hg0,l0,Option.bind_some]<;>rfl)
 refine Ao (EO R0 hd wkind) ?_
 rintro _ g1 ⟨rfl,R1,s1⟩
 simp only at R1 s1
 have t1:=t0.trans s1
 have u1:=u0.trans s1
 have l1:=ld g1 t1
 have hd1:=Bf hd
 refine Ok.eq ?_ (by simp -implicitDefEqProofs only [Bp (f:=fun k=>ldS k (.ptr (some (vb,0)))) (h:=g1) l1,AM]<;>rfl)
 refine Ao (EO R1 hd1 wchan) ?_
 rintro _ g2 ⟨rfl,R2,s2⟩
 simp only at R2 s2
 have t2:=t1.trans s2
 have u2:=u1.trans s2
 have l2:=ld g2 t2
 have hd2:=Bf hd1
 refine Ok.eq ?_ (by simp -implicitDefEqProofs only [Bp (f:=fun k=>ldS k (.ptr (some (vb,0)))) (h:=g2) l2,AM]<;>rfl)
 refine Ao (EO R2 hd2 wval) ?_
 rintro _ g3 ⟨rfl,R3,s3⟩
 simp only at R3 s3
 have t3:=t2.trans s3
 have u3:=u2.trans s3
 have l3:=ld g3 t3
 have hd3:=Bf hd2
 refine Ok.eq ?_ (by simp -implicitDefEqProofs only [Bp (f:=fun k=>ldS k (.ptr (some (vb,0)))) (h:=g3) l3,AM]<;>rfl)
 refine Ao (EO R3 hd3 wto) ?_
 rintro _ g4 ⟨rfl,R4,s4⟩
 simp only at R4 s4
 have t4:=t3.trans s4
 have u4:=u3.trans s4
 have l4:=ld g4 t4
 have hlq:q<g'.next:=R.ltq
 have bk:=(u4.get g'.next (by omega) (by simp;omega)).trans b0
 have hb:bldS [(0,1),(1,1),(2,1),(3,1)] [(AV.int .i64 0),(AV.int .i64 0),(AV.int .i64 0),(AV.int .i64 0)] [(0,.int .i64 x.kind),(1,.int .i64 x.chan),(2,.int .i64 x.val),(3,.int .i64 x.to)]=some (.agg x.row):=rfl
 have st:=Ds (n:=4) bk rfl (show x.row.length=4 from rfl) rfl
 have sP:Same [g'.next] g4 (g4.put g'.next (some (.cells true x.row))):=Same.put _ _ _
 have la:ldA 4 (g4.put g'.next (some (.cells true x.row))) (.ptr (some (g'.next,0)))=some (.agg x.row):=Ck An rfl
 have hbl:=R.ltb;have hnq:=R.newq;have hgn:=R.same.next
 have RF:=R4.keep' sP (by simp;omega) (by simp;omega) (fun j hj=>by simp at hj;omega)
 have hsg:=s.next
 have lF:ldS (g4.put g'.next (some (.cells true x.row))) (.ptr (some (vb,0)))=some (.ptr (some (q,0))):=by rw [Ai (by rw [Bd (by omega),t4.get vb hlt (by simpa using hne)];exact hv)];rfl
 refine Ok.eq ?_ (by simp -implicitDefEqProofs only [hb,st,AO,AF,Option.bind_some,AZ,AY,Ac,AX,AL,AH,AD,Ad,AQ,AE,AM,AC,if_true,if_false,Bool.false_eq_true,AJ,AP,AG,AR,AK,AU,Int.reduceEq,Int.reduceLT,Int.reduceLE,decide_true,decide_false,AB,AA,Ae,Bool.not_true,Bool.not_false,AW]<;>rfl)
 rw [Cq (Dw _) (by simp only [List.mem_cons,List.not_mem_nil,or_false,forall_eq_or_imp,forall_eq];exact⟨ld g0 t0,ld g1 t1,ld g2 t2,ld g3 t3,ld g4 t4,lF⟩) (by simp)]
 rw [Cq (Dw _) (by simp only [List.mem_cons,List.not_mem_nil,or_false,forall_eq_or_imp,forall_eq];exact⟨ld g0 t0,ld g1 t1,ld g2 t2,ld g3 t3,ld g4 t4,lF⟩) (by simp)]
 rw [Cq (Dw _) (by simp only [List.mem_cons,List.not_mem_nil,or_false,forall_eq_or_imp,forall_eq];exact⟨ld g0 t0,ld g1 t1,ld g2 t2,ld g3 t3,ld g4 t4,lF⟩) (by simp)]
 rw [AW,la,Option.bind_some]
 refine Ok.of (r:=(AV.agg x.row,g4.put g'.next (some (.cells true x.row)))) ⟨rfl,?_,?_⟩
 ·have:n+(numB (zigN x.kind)++(numB (zigN x.chan)++(numB (zigN x.val)++(numB (zigN x.to))))).length=n+(numB (zigN x.kind)).length+(numB (zigN x.chan)).length+(numB (zigN x.val)).length+(numB (zigN x.to)).length:=by simp only [List.length_append];omega
  rw [this];exact RF
 ·exact((s0.sub (by simp)).trans u4).old sP fun j hj=>.inr (by simp at hj;omega)
theorem Rw {h g:Heap}{q b vb:Nat}{bs:List Nat}(hv:g.get vb=some (.cells true [.ptr (some (q,0))]))(hlt:vb<g.next)(hne:vb≠q):OneR (lookT T33) h (.fn 62 [] [.ptr (some (vb,0))]) q b bs insE Ins.wf (ValP fun x:Ins=>.agg x.row) g:=by
 refine⟨62,[.ptr (some (vb,0))],rfl,fun g' n x rest s R hd hw=>?_⟩
 show Ok (Dv (.ptr (some (vb,0))) g') _
 have ld:∀ g'',Same [q] g g''→ldS g'' (.ptr (some (vb,0)))=some (.ptr (some (q,0))):=fun g'' s=>by rw [Ai (by rw [s.get vb hlt (by simpa using hne)];exact hv)];rfl
 obtain⟨wop,wa,wb,wc,wd⟩:=hw
 have ee:insE x=numB (zigN x.op)++(numB (zigN x.a)++(numB (zigN x.b)++(numB (zigN x.c)++(numB (zigN x.d))))):=by simp [insE,intsB]
 rw [ee] at hd ⊢
 simp only [List.append_assoc] at hd
 obtain⟨g0,hg0⟩:∃ g0,g0=g'.new (.cells true [(AV.int .i64 0),(AV.int .i64 0),(AV.int .i64 0),(AV.int .i64 0),(AV.int .i64 0)]):=⟨_,rfl⟩
 have s0:Same [] g' g0:=by rw [hg0];exact Same.new _ _
 have b0:g0.get g'.next=some (.cells true [(AV.int .i64 0),(AV.int .i64 0),(AV.int .i64 0),(AV.int .i64 0),(AV.int .i64 0)]):=by rw [hg0];exact Am
 have n0:g0.next=g'.next+1:=by rw [hg0];rfl
 have R0:=R.keep s0
 have t0:Same [q] g g0:=s.trans (s0.sub (by simp))
 have l0:=ld g0 t0
 have u0:Same [q] g0 g0:=Same.refl _ _
 refine Ok.eq ?_ (by simp -implicitDefEqProofs only [Dv,Af,← hg0,l0,Option.bind_some]<;>rfl)
 refine Ao (EO R0 hd wop) ?_
 rintro _ g1 ⟨rfl,R1,s1⟩
 simp only at R1 s1
 have t1:=t0.trans s1
 have u1:=u0.trans s1
 have l1:=ld g1 t1
 have hd1:=Bf hd
 refine Ok.eq ?_ (by simp -implicitDefEqProofs only [Bp (f:=fun k=>ldS k (.ptr (some (vb,0)))) (h:=g1) l1,AM]<;>rfl)
 refine Ao (EO R1 hd1 wa) ?_
 rintro _ g2 ⟨rfl,R2,s2⟩
 simp only at R2 s2
 have t2:=t1.trans s2
 have u2:=u1.trans s2
 have l2:=ld g2 t2
 have hd2:=Bf hd1
 refine Ok.eq ?_ (by simp -implicitDefEqProofs only [Bp (f:=fun k=>ldS k (.ptr (some (vb,0)))) (h:=g2) l2,AM]<;>rfl)
 refine Ao (EO R2 hd2 wb) ?_
 rintro _ g3 ⟨rfl,R3,s3⟩
 simp only at R3 s3
 have t3:=t2.trans s3
 have u3:=u2.trans s3
 have l3:=ld g3 t3
 have hd3:=Bf hd2
 refine Ok.eq ?_ (by simp -implicitDefEqProofs only [Bp (f:=fun k=>ldS k (.ptr (some (vb,0)))) (h:=g3) l3,AM]<;>rfl)
 refine Ao (EO R3 hd3 wc) ?_
 rintro _ g4 ⟨rfl,R4,s4⟩
 simp only at R4 s4
 have t4:=t3.trans s4
 have u4:=u3.trans s4
 have l4:=ld g4 t4
 have hd4:=Bf hd3
 refine Ok.eq ?_ (by simp -implicitDefEqProofs only [Bp (f:=fun k=>ldS k (.ptr (some (vb,0)))) (h:=g4) l4,AM]<;>rfl)
 refine Ao (EO R4 hd4 wd) ?_
 rintro _ g5 ⟨rfl,R5,s5⟩
 simp only at R5 s5
 have t5:=t4.trans s5
 have u5:=u4.trans s5
 have l5:=ld g5 t5
 have hlq:q<g'.next:=R.ltq
 have bk:=(u5.get g'.next (by omega) (by simp;omega)).trans b0
 have hb:bldS [(0,1),(1,1),(2,1),(3,1),(4,1)] [(AV.int .i64 0),(AV.int .i64 0),(AV.int .i64 0),(AV.int .i64 0),(AV.int .i64 0)] [(0,.int .i64 x.op),(1,.int .i64 x.a),(2,.int .i64 x.b),(3,.int .i64 x.c),(4,.int .i64 x.d)]=some (.agg x.row):=rfl
 have st:=Ds (n:=5) bk rfl (show x.row.length=5 from rfl) rfl
 have sP:Same [g'.next] g5 (g5.put g'.next (some (.cells true x.row))):=Same.put _ _ _
 have la:ldA 5 (g5.put g'.next (some (.cells true x.row))) (.ptr (some (g'.next,0)))=some (.agg x.row):=Ck An rfl
 have hbl:=R.ltb;have hnq:=R.newq;have hgn:=R.same.next
 have RF:=R5.keep' sP (by simp;omega) (by simp;omega) (fun j hj=>by simp at hj;omega)
 have hsg:=s.next
 have lF:ldS (g5.put g'.next (some (.cells true x.row))) (.ptr (some (vb,0)))=some (.ptr (some (q,0))):=by rw [Ai (by rw [Bd (by omega),t5.get vb hlt (by simpa using hne)];exact hv)];rfl
 refine Ok.eq ?_ (by simp -implicitDefEqProofs only [hb,st,AO,AF,Option.bind_some,AZ,AY,Ac,AX,AL,AH,AD,Ad,AQ,AE,AM,AC,if_true,if_false,Bool.false_eq_true,AJ,AP,AG,AR,AK,AU,Int.reduceEq,Int.reduceLT,Int.reduceLE,decide_true,decide_false,AB,AA,Ae,Bool.not_true,Bool.not_false,AW]<;>rfl)
 rw [Cq (Dw _) (by simp only [List.mem_cons,List.not_mem_nil,or_false,forall_eq_or_imp,forall_eq];exact⟨ld g0 t0,ld g1 t1,ld g2 t2,ld g3 t3,ld g4 t4,ld g5 t5,lF⟩) (by simp)]
 rw [Cq (Dw _) (by simp only [List.mem_cons,List.not_mem_nil,or_false,forall_eq_or_imp,forall_eq];exact⟨ld g0 t0,ld g1 t1,ld g2 t2,ld g3 t3,ld g4 t4,ld g5 t5,lF⟩) (by simp)]
 rw [Cq (Dw _) (by simp only [List.mem_cons,List.not_mem_nil,or_false,forall_eq_or_imp,forall_eq];exact⟨ld g0 t0,ld g1 t1,ld g2 t2,ld g3 t3,ld g4 t4,ld g5 t5,lF⟩) (by simp)]
 rw [Cq (Dw _) (by simp only [List.mem_cons,List.not_mem_nil,or_false,forall_eq_or_imp,forall_eq];exact⟨ld g0 t0,ld g1 t1,ld g2 t2,ld g3 t3,ld g4 t4,ld g5 t5,lF⟩) (by simp)]
 rw [AW,la,Option.bind_some]
 refine Ok.of (r:=(AV.agg x.row,g5.put g'.next (some (.cells true x.row)))) ⟨rfl,?_,?_⟩
 ·have:n+(numB (zigN x.op)++(numB (zigN x.a)++(numB (zigN x.b)++(numB (zigN x.c)++(numB (zigN x.d)))))).length=n+(numB (zigN x.op)).length+(numB (zigN x.a)).length+(numB (zigN x.b)).length+(numB (zigN x.c)).length+(numB (zigN x.d)).length:=by simp only [List.length_append];omega
  rw [this];exact RF
 ·exact((s0.sub (by simp)).trans u5).old sP fun j hj=>.inr (by simp at hj;omega)
set_option linter.all false
attribute [local congr] BI D1 Dy D2 Bu D3 Dz Aw Av
theorem LsO.vals {α:Type}{g0 g:Heap}{sz:Nat}{v:AV}{xs:List α}{cell:α→AV}{b:Option Nat}{vs:List AV}(L:LsO g0 g sz v xs (ValP cell) b vs):vs=xs.map cell:=by
 apply List.ext_getElem?
 intro k
 by_cases hk:k<xs.length
 ·obtain⟨x,hx⟩:∃ x,xs[k]?=some x:=⟨_,List.getElem?_eq_getElem hk⟩
  obtain⟨w,hw⟩:∃ w,vs[k]?=some w:=⟨_,List.getElem?_eq_getElem (by rw [L.len];exact hk)⟩
  obtain⟨rg,hrg,_⟩:=L.val
  have:=(hrg k w x hw hx).1
  rw [hw,List.getElem?_map,hx]
  exact congrArg some this
 ·rw [List.getElem?_eq_none (by rw [L.len];omega),List.getElem?_map,List.getElem?_eq_none (by omega)];rfl
theorem Il {α:Type}(cell:α→AV)(hc:∀ x,(cell x).cells = [cell x]):∀ xs:List α,(xs.map cell).flatMap AV.cells=xs.map cell
 | []=>rfl
 | x::xs=>by rw [List.map_cons,List.flatMap_cons,hc,Il cell hc xs];rfl
theorem Jy {α:Type}(row:α→List AV):∀ xs:List α,(xs.map fun x=>AV.agg (row x)).flatMap AV.cells=(xs.map row).flatten
 | []=>rfl
 | x::xs=>by rw [List.map_cons,List.flatMap_cons,Jy row xs];rfl
def FnO (g:Heap)(v:AV)(f:Fn)(lo hi:Nat):Prop:=
 ∃ kv cv mv bk bc bm,v = .agg [.int .i64 f.pa,.int .i64 f.ca,.int .i64 f.sl,.int .i64 f.re,kv,cv,mv]∧
  SlB g bk 1 kv (f.kinds.map AV.bool) f.kinds.length∧SlB g bc 5 cv ((f.code.map Ins.row).flatten) f.code.length∧SlB g bm 1 mv (f.maps.map (AV.int .u64)) f.maps.length∧
  (∀ j,bk=some j→lo≤j∧j<hi)∧(∀ j,bc=some j→lo≤j∧j<hi)∧(∀ j,bm=some j→lo≤j∧j<hi∧bk≠some j∧bc≠some j)
theorem FnO.stab:∀ (g g':Heap) v f (lo hi:Nat) (T:List Nat),FnO g v f lo hi→lo≤hi→hi≤g.next→Same T g g'→(∀ j∈T,j<lo∨hi≤j)→FnO g' v f lo hi:=by
 rintro g g' v f lo hi T ⟨kv,cv,mv,bk,bc,bm,e,h1,h2,h3,r1,r2,r3⟩ _ _ s hT
 refine⟨kv,cv,mv,bk,bc,bm,e,h1.same s ?_,h2.same s ?_,h3.same s ?_,r1,r2,r3⟩
 ·intro j hj hm;have:=r1 j hj;have:=hT j hm;omega
 ·intro j hj hm;have:=r2 j hj;have:=hT j hm;omega
 ·intro j hj hm;have:=r3 j hj;have:=hT j hm;omega
theorem FnO.cell:∀ (g:Heap) v f (lo hi:Nat),FnO g v f lo hi→v.cells.length=7∧v.cells.all scalar=true:=by
 rintro g v f lo hi ⟨kv,cv,mv,bk,bc,bm,rfl,h1,h2,h3,_⟩
 refine⟨rfl,?_⟩
 have e:(AV.agg [.int .i64 f.pa,.int .i64 f.ca,.int .i64 f.sl,.int .i64 f.re,kv,cv,mv]).cells = [.int .i64 f.pa,.int .i64 f.ca,.int .i64 f.sl,.int .i64 f.re,kv,cv,mv]:=rfl
 rw [e]
 simp only [List.all_cons,List.all_nil,h1.scv,h2.scv,h3.scv,Bool.and_true];rfl
structure Fn.wf (f:Fn):Prop where
 w1:wfI f.pa
 w2:wfI f.ca
 w3:wfI f.sl
 w4:wfI f.re
 code:∀ i∈f.code,i.wf
 maps:∀ n∈f.maps,0≤n∧n < 18446744073709551616
 k:f.kinds.length≤1048576
 c:f.code.length≤1048576
 m:f.maps.length≤1048576
theorem Ke (a:Int)(l:List Int):0<(intsB (a::l)).length:=by
 have:=HK (zigN a)
 simp only [intsB,List.flatMap_cons,List.length_append];omega
theorem Se {h g:Heap}{q b n:Nat}{bs rest:List Nat}{f:Fn}(R:Rdr h g q b bs n)(hd:bs.drop n=fnE f++rest)(hw:f.wf) :
  Ok (Dk (.ptr (some (q,0))) g) fun r=>FnO r.2 r.1 f g.next r.2.next∧Rdr h r.2 q b bs (n+(fnE f).length)∧Same [q] g r.2:=by
 obtain⟨w1,w2,w3,w4,wc,wm,hk,hc,hm⟩:=hw
 have hlq:=R.ltq;have hlb:=R.ltb;have hnq:=R.newq;have hhg:=R.same.next
 -- the blocks: a variable,the result,and what is filled
 obtain⟨g1,hg1⟩:∃ g1,g1=g.new (.cells true [.ptr (some (q,0))]):=⟨_,rfl⟩
 have bx:bxP (.ptr (some (q,0)))=some (.cells true [.ptr (some (q,0))],fun i=>.ptr (some (i,0))):=rfl
 have s1:Same [] g g1:=by rw [hg1];exact Same.new _ _
 have n1:g1.next=g.next+1:=by rw [hg1];rfl
 have b1:g1.get g.next=some (.cells true [.ptr (some (q,0))]):=by rw [hg1];exact Am
 obtain⟨g2,hg2⟩:∃ g2,g2=g1.new (.cells true [(AV.int .i64 0),(AV.int .i64 0),(AV.int .i64 0),(AV.int .i64 0),(AV.sl none 0 (.ex 0)),(AV.sl none 0 (.ex 0)),(AV.sl none 0 (.ex 0))]):=⟨_,rfl⟩
 have s2:Same [] g1 g2:=by rw [hg2];exact Same.new _ _
 have n2:g2.next=g1.next+1:=by rw [hg2];rfl
 have b2:g2.get g1.next=some (.cells true [(AV.int .i64 0),(AV.int .i64 0),(AV.int .i64 0),(AV.int .i64 0),(AV.sl none 0 (.ex 0)),(AV.sl none 0 (.ex 0)),(AV.sl none 0 (.ex 0))]):=by rw [hg2];exact Am
 have sP:=FM g2 1
 obtain⟨g3,hg3⟩:∃ g3,g3=hpN g2 1:=⟨_,rfl⟩
 rw [← hg3] at sP
 have n3:g3.next=g2.next+1:=by rw [hg3];rfl
 have s03:Same [] g g3:=(s1.trans s2).trans sP
 have R3:=R.keep s03
 have v3:g3.get g.next=some (.cells true [.ptr (some (q,0))]):=(sP.get _ (by omega) (by simp)).trans ((s2.get _ (by omega) (by simp)).trans b1)
 have t3:g3.get g1.next=some (.cells true [(AV.int .i64 0),(AV.int .i64 0),(AV.int .i64 0),(AV.int .i64 0),(AV.sl none 0 (.ex 0)),(AV.sl none 0 (.ex 0)),(AV.sl none 0 (.ex 0))]):=(sP.get _ (by omega) (by simp)).trans b2
 have ld:∀ T g',Same T g3 g'→g.next∉T→ldS g' (.ptr (some (g.next,0)))=some (.ptr (some (q,0))):=fun T g' s hT=>by rw [Ai (by rw [s.get g.next (by omega) hT];exact v3)];rfl
 have hvq:g.next∉[q]:=by simp;omega
 have l3:=ld [] g3 (Same.refl _ _) (by simp)
 -- the numbers
 have ee:fnE f=numB (zigN f.pa)++(numB (zigN f.ca)++(numB (zigN f.sl)++(numB (zigN f.re)++(numB f.kinds.length++((f.kinds.flatMap fun b=>numB (flgN b))++(numB f.code.length++(f.code.flatMap insE++(numB f.maps.length++f.maps.flatMap fun v=>numB v.toNat)))))))):=by simp [fnE,intsB,flagsB]
 rw [ee] at hd ⊢
 simp only [List.append_assoc] at hd
 refine Ok.eq ?_ (by simp -implicitDefEqProofs only [Dk,bx,Af,← hg1,← hg2,← hg3,l3,AO,AF,Option.bind_some,AZ,AY,Ac,AX,AL,AH,AD,Ad,AQ,AE,AM,AC,if_true,if_false,Bool.false_eq_true,AJ,AP,AG,AR,AK,AU,Int.reduceEq,Int.reduceLT,Int.reduceLE,decide_true,decide_false,AB,AA,Ae,Bool.not_true,Bool.not_false,AW]<;>rfl)
 refine Ao (EO R3 hd w1) ?_
 rintro _ k1 ⟨rfl,Ra0,y1⟩
 simp only at Ra0 y1
 have z1:Same [q] g3 k1:=y1
 have hd1:=Bf hd
 refine Ok.eq ?_ (by simp -implicitDefEqProofs only [Bp (f:=fun k=>ldS k (.ptr (some (g.next,0)))) (h:=k1) (ld _ k1 z1 hvq),AM]<;>rfl)
 refine Ao (EO Ra0 hd1 w2) ?_
 rintro _ k2 ⟨rfl,Rb0,y2⟩
 simp only at Rb0 y2
 have z2:Same [q] g3 k2:=z1.trans y2
 have hd2:=Bf hd1
 refine Ok.eq ?_ (by simp -implicitDefEqProofs only [Bp (f:=fun k=>ldS k (.ptr (some (g.next,0)))) (h:=k2) (ld _ k2 z2 hvq),AM]<;>rfl)
 refine Ao (EO Rb0 hd2 w3) ?_
 rintro _ k3 ⟨rfl,Rc0,y3⟩
 simp only at Rc0 y3
 have z3:Same [q] g3 k3:=z2.trans y3
 have hd3:=Bf hd2
 refine Ok.eq ?_ (by simp -implicitDefEqProofs only [Bp (f:=fun k=>ldS k (.ptr (some (g.next,0)))) (h:=k3) (ld _ k3 z3 hvq),AM]<;>rfl)
 refine Ao (EO Rc0 hd3 w4) ?_
 rintro _ k4 ⟨rfl,R4,y4⟩
 simp only at R4 y4
 have z4:Same [q] g3 k4:=z3.trans y4
 have hd4:=hd3
 have hb7:bldS [(0,1),(1,1),(2,1),(3,1),(4,1),(5,1),(6,1)] [(AV.int .i64 0),(AV.int .i64 0),(AV.int .i64 0),(AV.int .i64 0),(AV.sl none 0 (.ex 0)),(AV.sl none 0 (.ex 0)),(AV.sl none 0 (.ex 0))] [(0,.int .i64 f.pa),(1,.int .i64 f.ca),(2,.int .i64 f.sl),(3,.int .i64 f.re)]=some (.agg [.int .i64 f.pa,.int .i64 f.ca,.int .i64 f.sl,.int .i64 f.re,.sl none 0 (.ex 0),.sl none 0 (.ex 0),.sl none 0 (.ex 0)]):=rfl
 obtain⟨g8,hg8⟩:∃ g8,g8=k4.put g2.next (some (.cells true [(AV.int .i64 0),(AV.int .i64 0),(AV.int .i64 0),(AV.int .i64 0),(AV.sl none 0 (.ex 0)),(AV.sl none 0 (.ex 0)),(AV.sl none 0 (.ex 0))])):=⟨_,rfl⟩
 have b8:g8.get g2.next=some (.cells true [(AV.int .i64 0),(AV.int .i64 0),(AV.int .i64 0),(AV.int .i64 0),(AV.sl none 0 (.ex 0)),(AV.sl none 0 (.ex 0)),(AV.sl none 0 (.ex 0))]):=by rw [hg8];exact An
 have st8:=Ds (n:=7) b8 rfl (show [AV.int .i64 f.pa,.int .i64 f.ca,.int .i64 f.sl,.int .i64 f.re,.sl none 0 (.ex 0),.sl none 0 (.ex 0),.sl none 0 (.ex 0)].length=7 from rfl) rfl
 obtain⟨g9,hg9⟩:∃ g9,g9=g8.put g2.next (some (.cells true [.int .i64 f.pa,.int .i64 f.ca,.int .i64 f.sl,.int .i64 f.re,.sl none 0 (.ex 0),.sl none 0 (.ex 0),.sl none 0 (.ex 0)])):=⟨_,rfl⟩
 have b9:g9.get g2.next=some (.cells true [.int .i64 f.pa,.int .i64 f.ca,.int .i64 f.sl,.int .i64 f.re,.sl none 0 (.ex 0),.sl none 0 (.ex 0),.sl none 0 (.ex 0)]):=by rw [hg9];exact An
 rw [← hg9] at st8
 have s89:Same [g2.next] k4 g9:=by rw [hg9,hg8];exact(Same.put _ _ _).trans (Same.put _ _ _)
 have n89:g9.next=k4.next:=by rw [hg9,hg8];rfl
 have hk4n:=z4.next
 have u9:Same [q,g2.next] g3 g9:=(z4.sub (by simp)).trans (s89.sub (by simp))
 have hv9:g.next∉[q,g2.next]:=by simp;omega
 have R9:=R4.keep' s89 (by simp;omega) (by simp;omega) (fun j hj=>by simp at hj;omega)
 have l9:=ld _ g9 u9 hv9
 refine Ok.eq ?_ (by simp -implicitDefEqProofs only [hb7,Eu,Nat.add_zero,← hg8,st8,AO,AF,Option.bind_some,AZ,AY,Ac,AX,AL,AH,AD,Ad,AQ,AE,AM,AC,if_true,if_false,Bool.false_eq_true,AJ,AP,AG,AR,AK,AU,Int.reduceEq,Int.reduceLT,Int.reduceLE,decide_true,decide_false,AB,AA,Ae,Bool.not_true,Bool.not_false,AW]<;>rfl)
 rw [Cq (Dw _) (by simp only [List.mem_cons,List.not_mem_nil,or_false,forall_eq_or_imp,forall_eq];exact⟨l3,ld _ k1 z1 hvq,ld _ k2 z2 hvq,ld _ k3 z3 hvq,ld _ k4 z4 hvq,l9⟩) (by simp)]
 rw [Cq (Dw _) (by simp only [List.mem_cons,List.not_mem_nil,or_false,forall_eq_or_imp,forall_eq];exact⟨l3,ld _ k1 z1 hvq,ld _ k2 z2 hvq,ld _ k3 z3 hvq,ld _ k4 z4 hvq,l9⟩) (by simp)]
 rw [Cq (Dw _) (by simp only [List.mem_cons,List.not_mem_nil,or_false,forall_eq_or_imp,forall_eq];exact⟨l3,ld _ k1 z1 hvq,ld _ k2 z2 hvq,ld _ k3 z3 hvq,ld _ k4 z4 hvq,l9⟩) (by simp),AW]
 refine Ok.eq ?_ (by simp -implicitDefEqProofs only [l9,Option.bind_some]<;>rfl)
 -- the kinds
 have hd5:=Bf hd4
 refine Ao (LH (xs:=f.kinds) (ValP.stab AV.bool) (fun g v x lo hi hv=>by rw [hv];exact⟨rfl,rfl⟩) (fun x=>HK _) R9 (rest:=numB f.code.length++(f.code.flatMap insE++(numB f.maps.length++((f.maps.flatMap fun v=>numB v.toNat)++rest)))) hd5 (fun _ _=>trivial) hk Nx) ?_
 rintro kv ga ⟨⟨bk,vk,LK⟩,Ra,sa⟩
 simp only at LK Ra sa
 have SK:=LK.sl
 rw [LK.vals,Il AV.bool (fun _=>rfl)] at SK
 have hna:=sa.next
 have ba:=(sa.get g2.next (by omega) (by simp;omega)).trans b9
 have sta:=Cl (v:=kv) (o:=4) ba (by simp) SK.scv
 obtain⟨gb,hgb⟩:∃ gb,gb=ga.put g2.next (some (.cells true [.int .i64 f.pa,.int .i64 f.ca,.int .i64 f.sl,.int .i64 f.re,kv,.sl none 0 (.ex 0),.sl none 0 (.ex 0)])):=⟨_,rfl⟩
 have era : [AV.int .i64 f.pa,.int .i64 f.ca,.int .i64 f.sl,.int .i64 f.re,.sl none 0 (.ex 0),.sl none 0 (.ex 0),.sl none 0 (.ex 0)].set 4 kv = [.int .i64 f.pa,.int .i64 f.ca,.int .i64 f.sl,.int .i64 f.re,kv,.sl none 0 (.ex 0),.sl none 0 (.ex 0)]:=rfl
 rw [era,← hgb] at sta
 have sb:Same [g2.next] ga gb:=by rw [hgb];exact Same.put _ _ _
 have nb:gb.next=ga.next:=by rw [hgb];rfl
 have bb:gb.get g2.next=some (.cells true [.int .i64 f.pa,.int .i64 f.ca,.int .i64 f.sl,.int .i64 f.re,kv,.sl none 0 (.ex 0),.sl none 0 (.ex 0)]):=by rw [hgb];exact An
 have ub:Same [q,g2.next] g3 gb:=(u9.trans (sa.sub (by simp))).trans (sb.sub (by simp))
 have lb:=ld _ gb ub hv9
 have vb:gb.get g.next=some (.cells true [.ptr (some (q,0))]):=(ub.get _ (by omega) hv9).trans v3
 have Rb:=Ra.keep' sb (by simp;omega) (by simp;omega) (fun j hj=>by simp at hj;omega)
 have SKb:=SK.same sb (fun j hj hm=>by have:=LK.new j hj;simp at hm;omega)
 have hkb:∀ j,bk=some j→g9.next≤j∧j<gb.next:=fun j hj=>⟨LK.new j hj,by have:=(SK.blk j hj).1;omega⟩
 refine Ok.eq ?_ (by simp -implicitDefEqProofs only [sta,lb,Nat.zero_add,AO,AF,Option.bind_some,AZ,AY,Ac,AX,AL,AH,AD,Ad,AQ,AE,AM,AC,if_true,if_false,Bool.false_eq_true,AJ,AP,AG,AR,AK,AU,Int.reduceEq,Int.reduceLT,Int.reduceLE,decide_true,decide_false,AB,AA,Ae,Bool.not_true,Bool.not_false,AW]<;>rfl)
 -- the code
 have hd6:=Bf hd5
 have hd7:=Bf hd6
 refine Ao (Oi (xs:=f.code) (ValP.stab fun x:Ins=>.agg x.row) (fun g v x lo hi hv=>by rw [hv];exact⟨rfl,Ins.sc x⟩) (fun x=>Ke _ _) Rb (rest:=numB f.maps.length++((f.maps.flatMap fun v=>numB v.toNat)++rest)) hd7 wc hc (Rw vb (by omega) (by omega))) ?_
 rintro cv gc ⟨⟨bc,vc,LC⟩,Rc,sc⟩
 simp only at LC Rc sc
 have SC:=LC.sl
 rw [LC.vals,Jy Ins.row] at SC
 have hnc:=sc.next
 have bc':=(sc.get g2.next (by omega) (by simp;omega)).trans bb
 have stc:=Cl (v:=cv) (o:=5) bc' (by simp) SC.scv
 obtain⟨gd,hgd⟩:∃ gd,gd=gc.put g2.next (some (.cells true [.int .i64 f.pa,.int .i64 f.ca,.int .i64 f.sl,.int .i64 f.re,kv,cv,.sl none 0 (.ex 0)])):=⟨_,rfl⟩
 have erc : [AV.int .i64 f.pa,.int .i64 f.ca,.int .i64 f.sl,.int .i64 f.re,kv,.sl none 0 (.ex 0),.sl none 0 (.ex 0)].set 5 cv = [.int .i64 f.pa,.int .i64 f.ca,.int .i64 f.sl,.int .i64 f.re,kv,cv,.sl none 0 (.ex 0)]:=rfl
 rw [erc,← hgd] at stc
 have sd:Same [g2.next] gc gd:=by rw [hgd];exact Same.put _ _ _
 have nd:gd.next=gc.next:=by rw [hgd];rfl
 have bd:gd.get g2.next=some (.cells true [.int .i64 f.pa,.int .i64 f.ca,.int .i64 f.sl,.int .i64 f.re,kv,cv,.sl none 0 (.ex 0)]):=by rw [hgd];exact An
 have ud:Same [q,g2.next] g3 gd:=(ub.trans (sc.sub (by simp))).trans (sd.sub (by simp))
 have lbd:=ld _ gd ud hv9
 have Rd:=Rc.keep' sd (by simp;omega) (by simp;omega) (fun j hj=>by simp at hj;omega)
 have sbd:Same [q,g2.next] gb gd:=(sc.sub (by simp)).trans (sd.sub (by simp))
 have SKd:=SKb.same sbd (fun j hj hm=>by have:=hkb j hj;simp at hm;omega)
 have SCd:=SC.same sd (fun j hj hm=>by have:=LC.new j hj;simp at hm;omega)
 have hcb:∀ j,bc=some j→gb.next≤j∧j<gd.next:=fun j hj=>⟨LC.new j hj,by have:=(SC.blk j hj).1;omega⟩
 refine Ok.eq ?_ (by simp -implicitDefEqProofs only [stc,lbd,Nat.zero_add,AO,AF,Option.bind_some,AZ,AY,Ac,AX,AL,AH,AD,Ad,AQ,AE,AM,AC,if_true,if_false,Bool.false_eq_true,AJ,AP,AG,AR,AK,AU,Int.reduceEq,Int.reduceLT,Int.reduceLE,decide_true,decide_false,AB,AA,Ae,Bool.not_true,Bool.not_false,AW]<;>rfl)
 -- the maps
 have hd8:=Bf hd7
 have hd9:=Bf hd8
 refine Ao (Pv (xs:=f.maps) (ValP.stab (AV.int .u64)) (fun g v x lo hi hv=>by rw [hv];exact⟨rfl,rfl⟩) (fun x=>HK _) Rd (rest:=rest) hd9 wm hm Rp) ?_
 rintro mv gE ⟨⟨bm,vm,LM⟩,Re,sE⟩
 simp only at LM Re sE
 have SM:=LM.sl
 rw [LM.vals,Il (AV.int .u64) (fun _=>rfl)] at SM
 have hnE:=sE.next
 have bE:=(sE.get g2.next (by omega) (by simp;omega)).trans bd
 have stE:=Cl (v:=mv) (o:=6) bE (by simp) SM.scv
 obtain⟨gF,hgF⟩:∃ gF,gF=gE.put g2.next (some (.cells true [.int .i64 f.pa,.int .i64 f.ca,.int .i64 f.sl,.int .i64 f.re,kv,cv,mv])):=⟨_,rfl⟩
 have erE : [AV.int .i64 f.pa,.int .i64 f.ca,.int .i64 f.sl,.int .i64 f.re,kv,cv,.sl none 0 (.ex 0)].set 6 mv = [.int .i64 f.pa,.int .i64 f.ca,.int .i64 f.sl,.int .i64 f.re,kv,cv,mv]:=rfl
 rw [erE,← hgF] at stE
 have sF:Same [g2.next] gE gF:=by rw [hgF];exact Same.put _ _ _
 have nF:gF.next=gE.next:=by rw [hgF];rfl
 have bF:gF.get g2.next=some (.cells true [.int .i64 f.pa,.int .i64 f.ca,.int .i64 f.sl,.int .i64 f.re,kv,cv,mv]):=by rw [hgF];exact An
 have laF:ldA 7 gF (.ptr (some (g2.next,0)))=some (.agg [.int .i64 f.pa,.int .i64 f.ca,.int .i64 f.sl,.int .i64 f.re,kv,cv,mv]):=Ck bF rfl
 have hsc:([AV.int .i64 f.pa,.int .i64 f.ca,.int .i64 f.sl,.int .i64 f.re,kv,cv,mv]:List AV).all scalar=true:=by
  simp only [List.all_cons,List.all_nil,SK.scv,SC.scv,SM.scv,Bool.and_true];rfl
 have uF:Same [q,g2.next] g3 gF:=(ud.trans (sE.sub (by simp))).trans (sF.sub (by simp))
 have tF:=(uF.get g1.next (by omega) (by simp;omega)).trans t3
 have stF:=Ds (n:=7) tF rfl (show [AV.int .i64 f.pa,.int .i64 f.ca,.int .i64 f.sl,.int .i64 f.re,kv,cv,mv].length=7 from rfl) hsc
 obtain⟨gG,hgG⟩:∃ gG,gG=gF.put g1.next (some (.cells true [.int .i64 f.pa,.int .i64 f.ca,.int .i64 f.sl,.int .i64 f.re,kv,cv,mv])):=⟨_,rfl⟩
 rw [← hgG] at stF
 have sG:Same [g1.next] gF gG:=by rw [hgG];exact Same.put _ _ _
 have nG:gG.next=gF.next:=by rw [hgG];rfl
 have laG:ldA 7 gG (.ptr (some (g1.next,0)))=some (.agg [.int .i64 f.pa,.int .i64 f.ca,.int .i64 f.sl,.int .i64 f.re,kv,cv,mv]):=Ck (by rw [hgG];exact An) rfl
 have sEG:Same [g2.next,g1.next] gE gG:=(sF.sub (by simp)).trans (sG.sub (by simp))
 have sdG:Same [q,g2.next,g1.next] gd gG:=(sE.sub (by simp)).trans (sEG.sub (by simp))
 have SKG:=SKd.same sdG (fun j hj hm=>by have:=hkb j hj;simp at hm;omega)
 have SCG:=SCd.same sdG (fun j hj hm=>by have:=hcb j hj;simp at hm;omega)
 have SMG:=SM.same sEG (fun j hj hm=>by have:=LM.new j hj;simp at hm;omega)
 have hmb:∀ j,bm=some j→gd.next≤j∧j<gE.next:=fun j hj=>⟨LM.new j hj,(SM.blk j hj).1⟩
 have RG:=Re.keep' sEG (by simp;omega) (by simp;omega) (fun j hj=>by simp at hj;omega)
 refine Ah (v:=.agg [.int .i64 f.pa,.int .i64 f.ca,.int .i64 f.sl,.int .i64 f.re,kv,cv,mv]) (g:=gG) (by simp -implicitDefEqProofs only [stE,laF,stF,laG,Nat.zero_add,AO,AF,Option.bind_some,AZ,AY,Ac,AX,AL,AH,AD,Ad,AQ,AE,AM,AC,if_true,if_false,Bool.false_eq_true,AJ,AP,AG,AR,AK,AU,Int.reduceEq,Int.reduceLT,Int.reduceLE,decide_true,decide_false,AB,AA,Ae,Bool.not_true,Bool.not_false,AW]) ⟨⟨kv,cv,mv,bk,bc,bm,rfl,SKG,SCG,SMG,fun j hj=>?_,fun j hj=>?_,fun j hj=>?_⟩,?_,?_⟩
 ·have:=hkb j hj;show g.next≤j∧j<gG.next;omega
 ·have:=hcb j hj;show g.next≤j∧j<gG.next;omega
 ·have h0:=hmb j hj
  refine⟨by omega,by show j<gG.next;omega,fun e=>?_,fun e=>?_⟩
  ·have:=hkb j e;omega
  ·have:=hcb j e;omega
 ·have:n+(numB (zigN f.pa)++(numB (zigN f.ca)++(numB (zigN f.sl)++(numB (zigN f.re)++(numB f.kinds.length++((f.kinds.flatMap fun b=>numB (flgN b))++(numB f.code.length++(f.code.flatMap insE++(numB f.maps.length++f.maps.flatMap fun v=>numB v.toNat))))))))).length=n+(numB (zigN f.pa)).length+(numB (zigN f.ca)).length+(numB (zigN f.sl)).length+(numB (zigN f.re)).length+(numB f.kinds.length).length+(f.kinds.flatMap fun b=>numB (flgN b)).length+(numB f.code.length).length+(f.code.flatMap insE).length+(numB f.maps.length).length+(f.maps.flatMap fun v=>numB v.toNat).length:=by simp only [List.length_append];omega
  rw [this];exact RG
 ·have:Same [q,g2.next,g1.next] g gG:=(s03.sub (by simp)).trans ((uF.sub (by simp)).trans (sG.sub (by simp)))
  refine(Same.refl [q] g).old this fun j hj=>?_
  simp at hj
  rcases hj with rfl | rfl | rfl
  ·exact .inl (by simp)
  ·exact .inr (by omega)
  ·exact .inr (by omega)
theorem Q7 {h g:Heap}{q b:Nat}{bs:List Nat}:OneR (lookT T103) h (.fn 36 [.ptr (some (q,0))] []) q b bs fnE Fn.wf FnO g:=by
 refine⟨36,[.ptr (some (q,0))],rfl,fun g' n x rest s R hd hw=>?_⟩
 show Ok (Dk (.ptr (some (q,0))) g') _
 exact Se R hd hw
set_option linter.all false
attribute [local congr] BI D1 Dy D2 Bu D3 Dz Aw Av
theorem OW {g:Heap}{a b:AV}{l:List Nat}(A:RdW g 1 a (byB l) l.length)(B:RdW g 1 b (byB l) l.length)(hl:l.length≤1048576):Ok (CF a b g) fun r=>r=(.bool true,g):=by
 have la:=A.lnL
 have lb:=B.lnL
 refine Ok.eq ?_ (by simp -implicitDefEqProofs only [CF,la,lb,Option.bind_some,AU,decide_true,Bool.not_true,AA]<;>rfl)
 refine CJ (P:=fun r=>r.1 = .exit 0∧r.2.2=g) ?_ ?_
 ·refine BF (fun k vs g'=>∃ j:Nat,vs = [.bool false,.int .i64 j]∧k+j=l.length∧g'=g) ?_ (n:=l.length) (by omega) ⟨0,rfl,rfl,rfl⟩
  rintro k vs g' ⟨j,rfl,hk,rfl⟩
  rw [gD0,gD1]
  by_cases hj:j<l.length
  ·have hj':(j:Int)<l.length:=by omega
   obtain⟨x,hx⟩:∃ x,l[j]?=some x:=⟨_,List.getElem?_eq_getElem hj⟩
   obtain⟨b1,o1,_,i1,d1⟩:=A.at (i:=j) (x:=.int .u8 (x:Int)) (by simp [byB,hx])
   obtain⟨b2,o2,_,i2,d2⟩:=B.at (i:=j) (x:=.int .u8 (x:Int)) (by simp [byB,hx])
   exact(Ok.of (r:=(Ex.normal,[AV.bool false,.int .i64 ((j+1:Nat):Int)],g')) (.inl ⟨rfl,k - 1,by omega,j+1,rfl,by omega,rfl⟩)).eq (by
    simp -implicitDefEqProofs only [Cu,AG,hj',decide_true,Option.bind_some,AB,AA,i1,d1,i2,d2,AU,Bool.not_true,AW,Ap,suc64 j (by omega)])
  ·have hj' : ¬ (j:Int)<l.length:=by omega
   exact(Ok.of (r:=(Ex.exit 0,[AV.bool false,.int .i64 (j:Nat)],g')) (.inr ⟨by simp,rfl,rfl⟩)).eq (by
    simp -implicitDefEqProofs only [Cu,AG,hj',decide_false,Option.bind_some,AA])
 ·rintro _ vs g' ⟨rfl,hg⟩
  simp only at hg
  exact Ah (v:=.bool true) (g:=g') (by simp -implicitDefEqProofs only [if_true,Al]) (by rw [hg])
structure MdO (g0 g:Heap)(v:AV)(m:Md)(shs:List Shp)(sv gv kv cv fv:AV)(bs bg bk bc bf:Option Nat)(vs:List AV)(e1 e2 e3 e4:Nat):Prop where
 eq:v = .agg [sv,gv,kv,cv,fv,.int .i64 m.main]
 os:SlB g bs 3 sv ((shs.map Shp.row).flatten) shs.length
 og:SlB g bg 1 gv (m.globals.map AV.bool) m.globals.length
 ok:SlB g bk 1 kv (m.consts.map (AV.int .i64)) m.consts.length
 oc:SlB g bc 4 cv ((m.cases.map Cas.row).flatten) m.cases.length
 of:LsO g0 g 7 fv m.funcs FnO bf vs
 rs:∀ j,bs=some j→j<e1
 rg:∀ j,bg=some j→e1≤j∧j<e2
 rk:∀ j,bk=some j→e2≤j∧j<e3
 rc:∀ j,bc=some j→e3≤j∧j<e4
 le:e1≤e2∧e2≤e3∧e3≤e4∧e4≤g0.next
structure Md.wf (m:Md)(shs:List Shp):Prop where
 ws:∀ s∈shs,s.wf
 wk:∀ v∈m.consts,wfI v
 wc:∀ c∈m.cases,c.wf
 wf:∀ f∈m.funcs,f.wf
 wm:wfI m.main
 ls:shs.length≤1048576
 lg:m.globals.length≤1048576
 lk:m.consts.length≤1048576
 lc:m.cases.length≤1048576
 lf:m.funcs.length≤1048576
theorem PO {h:Heap}{b:Nat}{c:Cap}{m:Md}{shs:List Shp}(hb:h.get b=some (.cells true (byB (encB m shs))))(hbl:b<h.next)(hc:c = .un 1∨∃ k,c = .ex k∧(encB m shs).length≤k)(hby:∀ x∈encB m shs,x < 256)(hl:(encB m shs).length≤2 ^ 30)(W:m.wf shs) :
  Ok (EJ (.sl (some (b,0)) (encB m shs).length c) h) fun r=>Same [] h r.2∧∃ v sv gv kv cv fv bs bg bk bc bf vs e1 e2 e3 e4 g0,r.1 = .tup [v,.int .i64 0]∧MdO g0 r.2 v m shs sv gv kv cv fv bs bg bk bc bf vs e1 e2 e3 e4∧h.next≤g0.next∧g0.next≤r.2.next∧(∀ j,bs=some j→h.next≤j)∧h.next≤e1:=by
 have hel:4≤(encB m shs).length:=by unfold encB;simp
 -- blocks: the result,two magics
 obtain⟨g1,hg1⟩:∃ g1,g1=h.new (.cells true [(AV.sl none 0 (.ex 0)),(AV.sl none 0 (.ex 0)),(AV.sl none 0 (.ex 0)),(AV.sl none 0 (.ex 0)),(AV.sl none 0 (.ex 0)),(AV.int .i64 0)]):=⟨_,rfl⟩
 have s1:Same [] h g1:=by rw [hg1];exact Same.new _ _
 have n1:g1.next=h.next+1:=by rw [hg1];rfl
 have b1:g1.get h.next=some (.cells true [(AV.sl none 0 (.ex 0)),(AV.sl none 0 (.ex 0)),(AV.sl none 0 (.ex 0)),(AV.sl none 0 (.ex 0)),(AV.sl none 0 (.ex 0)),(AV.int .i64 0)]):=by rw [hg1];exact Am
 have hmg:bsP 1 [(AV.int .u8 0)] 4 [(0,(AV.int .u8 71)),(1,(AV.int .u8 79)),(2,(AV.int .u8 76)),(3,(AV.int .u8 49))]=some (.cells true (byB [71,79,76,49]),fun i=>.sl (some (i,0)) 4 (.ex 4)):=rfl
 obtain⟨g2,hg2⟩:∃ g2,g2=g1.new (.cells true (byB [71,79,76,49])):=⟨_,rfl⟩
 have s2:Same [] g1 g2:=by rw [hg2];exact Same.new _ _
 have n2:g2.next=g1.next+1:=by rw [hg2];rfl
 obtain⟨g3,hg3⟩:∃ g3,g3=g2.new (.cells true (byB [71,79,76,49])):=⟨_,rfl⟩
 have s3:Same [] g2 g3:=by rw [hg3];exact Same.new _ _
 have n3:g3.next=g2.next+1:=by rw [hg3];rfl
 have b3:g3.get g2.next=some (.cells true (byB [71,79,76,49])):=by rw [hg3];exact Am
 have s03:Same [] h g3:=(s1.trans s2).trans s3
 have hcl:CapL (encB m shs).length c:=by
  rcases hc with rfl | ⟨k,rfl,hk⟩
  ·rfl
  ·exact hk
 obtain⟨ch,e4',hch⟩:=Od (b:=b) (k:=4) hel hcl
 have hmin:minP (.int .i64 4) (.int .i64 ((encB m shs).length:Int))=some (.int .i64 4):=by
  simp only [minP];rw [if_neg (by omega)]
 have lx:lnL (.sl (some (b,0)) (encB m shs).length c)=some (.int .i64 (encB m shs).length):=by simp
 have lm4:∀ i:Nat,lnL (.sl (some (i,0)) 4 (.ex 4))=some (.int .i64 4):=fun i=>by simp
 have e4'':slcP 1 (.sl (some (b,0)) (encB m shs).length c) none (some (.int .i64 4)) none=some (.sl (some (b,0)) 4 ch):=e4'
 refine Ok.eq ?_ (by simp -implicitDefEqProofs only [EJ,C8,hmg,Af,← hg1,← hg2,← hg3,lx,lm4,hmin,e4'',AO,AF,Option.bind_some,AZ,AY,Ac,AX,AL,AH,AD,Ad,AQ,AE,AM,AC,if_true,if_false,Bool.false_eq_true,AJ,AP,AG,AR,AK,AU,Int.reduceEq,Int.reduceLT,Int.reduceLE,decide_true,decide_false,AB,AA,Ae,Bool.not_true,Bool.not_false,AW]<;>rfl)
 have A:RdW g3 1 (.sl (some (b,0)) 4 ch) (byB [71,79,76,49]) 4:=⟨rfl,.inr ⟨b,0,ch,rfl,by omega,fun _=>⟨true,[],byB (modE m shs),rfl,by rw [s03.get b hbl (by simp),hb];rfl⟩⟩⟩
 have B:RdW g3 1 (.sl (some (g2.next,0)) 4 (.ex 4)) (byB [71,79,76,49]) 4:=⟨rfl,.inr ⟨g2.next,0,.ex 4,rfl,by omega,fun _=>⟨true,[],[],rfl,by rw [b3];rfl⟩⟩⟩
 refine Ao (OW (l:=[71,79,76,49]) A B (by simp)) ?_
 intro vv gg hh
 obtain⟨rfl,hgg⟩:=Prod.mk.inj hh
 rw [hgg]
 -- the reader
 obtain⟨g5,hg5⟩:∃ g5,g5=g3.new (.cells true (byB [71,79,76,49])):=⟨_,rfl⟩
 have s5:Same [] g3 g5:=by rw [hg5];exact Same.new _ _
 have n5:g5.next=g3.next+1:=by rw [hg5];rfl
 obtain⟨o',cr,er,ho',hcr⟩:=Om (b:=b) (o:=0) (n:=(encB m shs).length) (lo:=4) hel hc
 have er':slcP 1 (.sl (some (b,0)) (encB m shs).length c) (some (.int .i64 4)) none none=some (.sl (some (b,o')) ((encB m shs).length - 4) cr):=er
 obtain⟨g6,hg6⟩:∃ g6,g6=g5.new (.cells true [.sl (some (b,o')) ((encB m shs).length - 4) cr,.bool false]):=⟨_,rfl⟩
 have s6:Same [] g5 g6:=by rw [hg6];exact Same.new _ _
 have n6:g6.next=g5.next+1:=by rw [hg6];rfl
 have b6:g6.get g5.next=some (.cells true [.sl (some (b,o')) ((encB m shs).length - 4) cr,.bool false]):=by rw [hg6];exact Am
 have hbr:bldS [(0,1),(1,1)] [(AV.sl none 0 (.ex 0)),(AV.bool false)] [(0,.sl (some (b,o')) ((encB m shs).length - 4) cr)]=some (.agg [.sl (some (b,o')) ((encB m shs).length - 4) cr,.bool false]):=rfl
 have hbr2:bxP (.agg [.sl (some (b,o')) ((encB m shs).length - 4) cr,.bool false])=some (.cells true [.sl (some (b,o')) ((encB m shs).length - 4) cr,.bool false],fun i=>.ptr (some (i,0))):=rfl
 refine Ok.eq ?_ (by simp -implicitDefEqProofs only [C8,hmg,Af,← hg5,lm4,er',hbr,hbr2,← hg6,AO,AF,Option.bind_some,AZ,AY,Ac,AX,AL,AH,AD,Ad,AQ,AE,AM,AC,if_true,if_false,Bool.false_eq_true,AJ,AP,AG,AR,AK,AU,Int.reduceEq,Int.reduceLT,Int.reduceLE,decide_true,decide_false,AB,AA,Ae,Bool.not_true,Bool.not_false,AW]<;>rfl)
 refine PK (v:=.ptr (some (g5.next,0))) (by rfl) fun _ g9 s9 n9 b9=>?_
 have s09:Same [] h g9:=((s03.trans s5).trans s6).trans s9
 have R0:Rdr h g9 g5.next b (encB m shs) 4:=⟨⟨o',cr,(s9.get _ (by omega) (by simp)).trans b6,fun hlt=>by have:=ho' (by omega);omega,hcr⟩,⟨true,(s09.get b hbl (by simp)).trans hb⟩,hby,by omega,hel,by omega,by omega,by omega,by omega,s09⟩
 have b19:g9.get h.next=some (.cells true [(AV.sl none 0 (.ex 0)),(AV.sl none 0 (.ex 0)),(AV.sl none 0 (.ex 0)),(AV.sl none 0 (.ex 0)),(AV.sl none 0 (.ex 0)),(AV.int .i64 0)]):=(s9.get _ (by omega) (by simp)).trans ((s6.get _ (by omega) (by simp)).trans ((s5.get _ (by omega) (by simp)).trans ((s3.get _ (by omega) (by simp)).trans ((s2.get _ (by omega) (by simp)).trans b1))))
 obtain⟨q,hq⟩:∃ q,q=g5.next:=⟨_,rfl⟩
 obtain⟨vb,hvb⟩:∃ vb,vb=g6.next:=⟨_,rfl⟩
 rw [← hq] at R0 b9
 rw [← hvb] at b9
 rw [← hvb]
 obtain⟨g10,hg10⟩:∃ g10,g10=g9.new (.cells true [(AV.sl none 0 (.ex 0)),(AV.sl none 0 (.ex 0)),(AV.sl none 0 (.ex 0)),(AV.sl none 0 (.ex 0)),(AV.sl none 0 (.ex 0)),(AV.int .i64 0)]):=⟨_,rfl⟩
 have s10:Same [] g9 g10:=by rw [hg10];exact Same.new _ _
 have n10:g10.next=g9.next+1:=by rw [hg10];rfl
 have b10:g10.get g9.next=some (.cells true [(AV.sl none 0 (.ex 0)),(AV.sl none 0 (.ex 0)),(AV.sl none 0 (.ex 0)),(AV.sl none 0 (.ex 0)),(AV.sl none 0 (.ex 0)),(AV.int .i64 0)]):=by rw [hg10];exact Am
 have R10:=R0.keep s10
 have v10:g10.get vb=some (.cells true [.ptr (some (q,0))]):=(s10.get _ (by omega) (by simp)).trans b9
 have t10:g10.get h.next=some (.cells true [(AV.sl none 0 (.ex 0)),(AV.sl none 0 (.ex 0)),(AV.sl none 0 (.ex 0)),(AV.sl none 0 (.ex 0)),(AV.sl none 0 (.ex 0)),(AV.int .i64 0)]):=(s10.get _ (by omega) (by simp)).trans b19
 obtain⟨tb,htb⟩:∃ tb,tb=g9.next:=⟨_,rfl⟩
 rw [← htb] at b10
 have hord:h.next<q∧q<vb∧vb<tb∧tb<g10.next:=by omega
 have ld:∀ g',Same [q,tb] g10 g'→ldS g' (.ptr (some (vb,0)))=some (.ptr (some (q,0))):=fun g' s=>by rw [Ai (by rw [s.get vb (by omega) (by simp;omega)];exact v10)];rfl
 have vbk:∀ g',Same [q,tb] g10 g'→g'.get vb=some (.cells true [.ptr (some (q,0))]):=fun g' s=>(s.get vb (by omega) (by simp;omega)).trans v10
 have u0:Same [q,tb] g10 g10:=Same.refl _ _
 have l0:=ld g10 u0
 have hh10:h.next≤g10.next:=by omega
 -- what is to be read
 have hd0:(encB m shs).drop 4=numB shs.length++(shs.flatMap shpE++(numB m.globals.length++((m.globals.flatMap fun b=>numB (flgN b))++(numB m.consts.length++((m.consts.flatMap fun v=>numB (zigN v))++(numB m.cases.length++(m.cases.flatMap casE++(numB m.funcs.length++(m.funcs.flatMap fnE++(numB (zigN m.main) ++ [])))))))))):=by
  simp [encB,modE,flagsB,intsB]
 generalize hbsd:encB m shs=bs at *
 refine Ok.eq ?_ (by simp -implicitDefEqProofs only [Af,← hg10,← htb,l0,AO,AF,Option.bind_some,AZ,AY,Ac,AX,AL,AH,AD,Ad,AQ,AE,AM,AC,if_true,if_false,Bool.false_eq_true,AJ,AP,AG,AR,AK,AU,Int.reduceEq,Int.reduceLT,Int.reduceLE,decide_true,decide_false,AB,AA,Ae,Bool.not_true,Bool.not_false,AW]<;>rfl)
 refine Ao (PI (enc:=shpE) (xs:=shs) (ValP.stab fun x:Shp=>.agg x.row) (fun g v x lo hi hv=>by rw [hv];exact⟨rfl,rfl⟩) (fun x=>by unfold shpE;rw [List.length_append];have:=HK x.map.toNat;omega) R10 hd0 (W.ws) W.ls (Qt (vbk _ u0) (by omega) (by omega))) ?_
 rintro sv a0 ⟨⟨bs',vs,Ls⟩,Ra0,sa0⟩
 simp only at Ls Ra0 sa0
 have hna0:=sa0.next
 have u1:Same [q,tb] g10 a0:=u0.trans (sa0.sub (by simp))
 have hd1:=Bf hd0
 have hd2:=Bf hd1
 have ba0:=(sa0.get tb (by omega) (by simp;omega)).trans b10
 have sta0:=Cl (v:=sv) (o:=0) ba0 (by simp) Ls.sl.scv
 obtain⟨d0,hd0⟩:∃ d0,d0=a0.put tb (some (.cells true [sv,(AV.sl none 0 (.ex 0)),(AV.sl none 0 (.ex 0)),(AV.sl none 0 (.ex 0)),(AV.sl none 0 (.ex 0)),(AV.int .i64 0)])):=⟨_,rfl⟩
 have era0:([(AV.sl none 0 (.ex 0)),(AV.sl none 0 (.ex 0)),(AV.sl none 0 (.ex 0)),(AV.sl none 0 (.ex 0)),(AV.sl none 0 (.ex 0)),(AV.int .i64 0)]:List AV).set 0 sv = [sv,(AV.sl none 0 (.ex 0)),(AV.sl none 0 (.ex 0)),(AV.sl none 0 (.ex 0)),(AV.sl none 0 (.ex 0)),(AV.int .i64 0)]:=rfl
 rw [era0,← hd0] at sta0
 have sd0:Same [tb] a0 d0:=by rw [hd0];exact Same.put _ _ _
 have nd0:d0.next=a0.next:=by rw [hd0];rfl
 have bd0:d0.get tb=some (.cells true [sv,(AV.sl none 0 (.ex 0)),(AV.sl none 0 (.ex 0)),(AV.sl none 0 (.ex 0)),(AV.sl none 0 (.ex 0)),(AV.int .i64 0)]):=by rw [hd0];exact An
 have u2:Same [q,tb] g10 d0:=u1.trans (sd0.sub (by simp))
 have ld0:=ld d0 u2
 have hRba0:=Ra0.ltb
 have Rd0:=Ra0.keep' sd0 (by simp;omega) (by simp;have:=R10.ltb;omega) (fun j hj=>by simp at hj;omega)
 have Ss:=Ls.sl
 rw [Ls.vals,Jy Shp.row] at Ss
 have rs:∀ j,bs'=some j→g10.next≤j∧j<a0.next:=fun j hj=>⟨Ls.new j hj,(Ls.sl.blk j hj).1⟩
 refine Ok.eq ?_ (by simp -implicitDefEqProofs only [← htb,sta0,ld0,Nat.zero_add,AO,AF,Option.bind_some,AZ,AY,Ac,AX,AL,AH,AD,Ad,AQ,AE,AM,AC,if_true,if_false,Bool.false_eq_true,AJ,AP,AG,AR,AK,AU,Int.reduceEq,Int.reduceLT,Int.reduceLE,decide_true,decide_false,AB,AA,Ae,Bool.not_true,Bool.not_false,AW]<;>rfl)
 refine Ao (LH (enc:=fun b:Bool=>numB (flgN b)) (xs:=m.globals) (ValP.stab AV.bool) (fun g v x lo hi hv=>by rw [hv];exact⟨rfl,rfl⟩) (fun x=>HK _) Rd0 hd2 (fun _ _=>trivial) W.lg (Nx)) ?_
 rintro gv a1 ⟨⟨bg,vg,Lg⟩,Ra1,sa1⟩
 simp only at Lg Ra1 sa1
 have hna1:=sa1.next
 have u3:Same [q,tb] g10 a1:=u2.trans (sa1.sub (by simp))
 have hd3:=Bf hd2
 have hd4:=Bf hd3
 have ba1:=(sa1.get tb (by omega) (by simp;omega)).trans bd0
 have sta1:=Cl (v:=gv) (o:=1) ba1 (by simp) Lg.sl.scv
 obtain⟨d1,hd1⟩:∃ d1,d1=a1.put tb (some (.cells true [sv,gv,(AV.sl none 0 (.ex 0)),(AV.sl none 0 (.ex 0)),(AV.sl none 0 (.ex 0)),(AV.int .i64 0)])):=⟨_,rfl⟩
 have era1:([sv,(AV.sl none 0 (.ex 0)),(AV.sl none 0 (.ex 0)),(AV.sl none 0 (.ex 0)),(AV.sl none 0 (.ex 0)),(AV.int .i64 0)]:List AV).set 1 gv = [sv,gv,(AV.sl none 0 (.ex 0)),(AV.sl none 0 (.ex 0)),(AV.sl none 0 (.ex 0)),(AV.int .i64 0)]:=rfl
 rw [era1,← hd1] at sta1
 have sd1:Same [tb] a1 d1:=by rw [hd1];exact Same.put _ _ _
 have nd1:d1.next=a1.next:=by rw [hd1];rfl
 have bd1:d1.get tb=some (.cells true [sv,gv,(AV.sl none 0 (.ex 0)),(AV.sl none 0 (.ex 0)),(AV.sl none 0 (.ex 0)),(AV.int .i64 0)]):=by rw [hd1];exact An
 have u4:Same [q,tb] g10 d1:=u3.trans (sd1.sub (by simp))
 have ld1:=ld d1 u4
 have hRba1:=Ra1.ltb
 have Rd1:=Ra1.keep' sd1 (by simp;omega) (by simp;have:=R10.ltb;omega) (fun j hj=>by simp at hj;omega)
 have Sg:=Lg.sl
 rw [Lg.vals,Il AV.bool (fun _=>rfl)] at Sg
 have rg:∀ j,bg=some j→d0.next≤j∧j<a1.next:=fun j hj=>⟨Lg.new j hj,(Lg.sl.blk j hj).1⟩
 refine Ok.eq ?_ (by simp -implicitDefEqProofs only [← htb,sta1,ld1,Nat.zero_add,AO,AF,Option.bind_some,AZ,AY,Ac,AX,AL,AH,AD,Ad,AQ,AE,AM,AC,if_true,if_false,Bool.false_eq_true,AJ,AP,AG,AR,AK,AU,Int.reduceEq,Int.reduceLT,Int.reduceLE,decide_true,decide_false,AB,AA,Ae,Bool.not_true,Bool.not_false,AW]<;>rfl)
 refine Ao (Ps (enc:=fun v:Int=>numB (zigN v)) (xs:=m.consts) (ValP.stab (AV.int .i64)) (fun g v x lo hi hv=>by rw [hv];exact⟨rfl,rfl⟩) (fun x=>HK _) Rd1 hd4 (W.wk) W.lk (RH (vbk _ u4) (by omega) (by omega))) ?_
 rintro kv a2 ⟨⟨bk,vk,Lk⟩,Ra2,sa2⟩
 simp only at Lk Ra2 sa2
 have hna2:=sa2.next
 have u5:Same [q,tb] g10 a2:=u4.trans (sa2.sub (by simp))
 have hd5:=Bf hd4
 have hd6:=Bf hd5
 have ba2:=(sa2.get tb (by omega) (by simp;omega)).trans bd1
 have sta2:=Cl (v:=kv) (o:=2) ba2 (by simp) Lk.sl.scv
 obtain⟨d2,hd2⟩:∃ d2,d2=a2.put tb (some (.cells true [sv,gv,kv,(AV.sl none 0 (.ex 0)),(AV.sl none 0 (.ex 0)),(AV.int .i64 0)])):=⟨_,rfl⟩
 have era2:([sv,gv,(AV.sl none 0 (.ex 0)),(AV.sl none 0 (.ex 0)),(AV.sl none 0 (.ex 0)),(AV.int .i64 0)]:List AV).set 2 kv = [sv,gv,kv,(AV.sl none 0 (.ex 0)),(AV.sl none 0 (.ex 0)),(AV.int .i64 0)]:=rfl
 rw [era2,← hd2] at sta2
 have sd2:Same [tb] a2 d2:=by rw [hd2];exact Same.put _ _ _
 have nd2:d2.next=a2.next:=by rw [hd2];rfl
 have bd2:d2.get tb=some (.cells true [sv,gv,kv,(AV.sl none 0 (.ex 0)),(AV.sl none 0 (.ex 0)),(AV.int .i64 0)]):=by rw [hd2];exact An
 have u6:Same [q,tb] g10 d2:=u5.trans (sd2.sub (by simp))
 have ld2:=ld d2 u6
 have hRba2:=Ra2.ltb
 have Rd2:=Ra2.keep' sd2 (by simp;omega) (by simp;have:=R10.ltb;omega) (fun j hj=>by simp at hj;omega)
 have Sk:=Lk.sl
 rw [Lk.vals,Il (AV.int .i64) (fun _=>rfl)] at Sk
 have rk:∀ j,bk=some j→d1.next≤j∧j<a2.next:=fun j hj=>⟨Lk.new j hj,(Lk.sl.blk j hj).1⟩
 refine Ok.eq ?_ (by simp -implicitDefEqProofs only [← htb,sta2,ld2,Nat.zero_add,AO,AF,Option.bind_some,AZ,AY,Ac,AX,AL,AH,AD,Ad,AQ,AE,AM,AC,if_true,if_false,Bool.false_eq_true,AJ,AP,AG,AR,AK,AU,Int.reduceEq,Int.reduceLT,Int.reduceLE,decide_true,decide_false,AB,AA,Ae,Bool.not_true,Bool.not_false,AW]<;>rfl)
 refine Ao (PP (enc:=casE) (xs:=m.cases) (ValP.stab fun x:Cas=>.agg x.row) (fun g v x lo hi hv=>by rw [hv];exact⟨rfl,Cas.sc x⟩) (fun x=>Ke _ _) Rd2 hd6 (W.wc) W.lc (Q5 (vbk _ u6) (by omega) (by omega))) ?_
 rintro cv a3 ⟨⟨bc,vc,Lc⟩,Ra3,sa3⟩
 simp only at Lc Ra3 sa3
 have hna3:=sa3.next
 have u7:Same [q,tb] g10 a3:=u6.trans (sa3.sub (by simp))
 have hd7:=Bf hd6
 have hd8:=Bf hd7
 have ba3:=(sa3.get tb (by omega) (by simp;omega)).trans bd2
 have sta3:=Cl (v:=cv) (o:=3) ba3 (by simp) Lc.sl.scv
 obtain⟨d3,hd3⟩:∃ d3,d3=a3.put tb (some (.cells true [sv,gv,kv,cv,(AV.sl none 0 (.ex 0)),(AV.int .i64 0)])):=⟨_,rfl⟩
 have era3:([sv,gv,kv,(AV.sl none 0 (.ex 0)),(AV.sl none 0 (.ex 0)),(AV.int .i64 0)]:List AV).set 3 cv = [sv,gv,kv,cv,(AV.sl none 0 (.ex 0)),(AV.int .i64 0)]:=rfl
 rw [era3,← hd3] at sta3
 have sd3:Same [tb] a3 d3:=by rw [hd3];exact Same.put _ _ _
 have nd3:d3.next=a3.next:=by rw [hd3];rfl
 have bd3:d3.get tb=some (.cells true [sv,gv,kv,cv,(AV.sl none 0 (.ex 0)),(AV.int .i64 0)]):=by rw [hd3];exact An
 have u8:Same [q,tb] g10 d3:=u7.trans (sd3.sub (by simp))
 have ld3:=ld d3 u8
 have hRba3:=Ra3.ltb
 have Rd3:=Ra3.keep' sd3 (by simp;omega) (by simp;have:=R10.ltb;omega) (fun j hj=>by simp at hj;omega)
 have Sc:=Lc.sl
 rw [Lc.vals,Jy Cas.row] at Sc
 have rc:∀ j,bc=some j→d2.next≤j∧j<a3.next:=fun j hj=>⟨Lc.new j hj,(Lc.sl.blk j hj).1⟩
 refine Ok.eq ?_ (by simp -implicitDefEqProofs only [← htb,sta3,ld3,Nat.zero_add,AO,AF,Option.bind_some,AZ,AY,Ac,AX,AL,AH,AD,Ad,AQ,AE,AM,AC,if_true,if_false,Bool.false_eq_true,AJ,AP,AG,AR,AK,AU,Int.reduceEq,Int.reduceLT,Int.reduceLE,decide_true,decide_false,AB,AA,Ae,Bool.not_true,Bool.not_false,AW]<;>rfl)
 refine Ao (Oa (enc:=fnE) (xs:=m.funcs) (FnO.stab) (FnO.cell) (fun x=>by unfold fnE;simp only [List.length_append];have:=Ke x.pa [x.ca,x.sl,x.re];omega) Rd3 hd8 (W.wf) W.lf (Q7)) ?_
 rintro fv a4 ⟨⟨bf,vf,Lf⟩,Ra4,sa4⟩
 simp only at Lf Ra4 sa4
 have hna4:=sa4.next
 have u9:Same [q,tb] g10 a4:=u8.trans (sa4.sub (by simp))
 have hd9:=Bf hd8
 have hd10:=Bf hd9
 have ba4:=(sa4.get tb (by omega) (by simp;omega)).trans bd3
 have sta4:=Cl (v:=fv) (o:=4) ba4 (by simp) Lf.sl.scv
 obtain⟨d4,hd4⟩:∃ d4,d4=a4.put tb (some (.cells true [sv,gv,kv,cv,fv,(AV.int .i64 0)])):=⟨_,rfl⟩
 have era4:([sv,gv,kv,cv,(AV.sl none 0 (.ex 0)),(AV.int .i64 0)]:List AV).set 4 fv = [sv,gv,kv,cv,fv,(AV.int .i64 0)]:=rfl
 rw [era4,← hd4] at sta4
 have sd4:Same [tb] a4 d4:=by rw [hd4];exact Same.put _ _ _
 have nd4:d4.next=a4.next:=by rw [hd4];rfl
 have bd4:d4.get tb=some (.cells true [sv,gv,kv,cv,fv,(AV.int .i64 0)]):=by rw [hd4];exact An
 have u10:Same [q,tb] g10 d4:=u9.trans (sd4.sub (by simp))
 have ld4:=ld d4 u10
 have hRba4:=Ra4.ltb
 have Rd4:=Ra4.keep' sd4 (by simp;omega) (by simp;have:=R10.ltb;omega) (fun j hj=>by simp at hj;omega)
 refine Ok.eq ?_ (by simp -implicitDefEqProofs only [← htb,sta4,ld4,Nat.zero_add,AO,AF,Option.bind_some,AZ,AY,Ac,AX,AL,AH,AD,Ad,AQ,AE,AM,AC,if_true,if_false,Bool.false_eq_true,AJ,AP,AG,AR,AK,AU,Int.reduceEq,Int.reduceLT,Int.reduceLE,decide_true,decide_false,AB,AA,Ae,Bool.not_true,Bool.not_false,AW]<;>rfl)
 have hd10':=hd10
 refine Ao (EO Rd4 hd10' W.wm) ?_
 rintro _ a5 ⟨rfl,Ra5,sa5⟩
 simp only at Ra5 sa5
 have hna5:=sa5.next
 have u11:Same [q,tb] g10 a5:=u10.trans (sa5.sub (by simp))
 have ba5:=(sa5.get tb (by omega) (by simp;omega)).trans bd4
 have sta5:=Cl (v:=.int .i64 m.main) (o:=5) ba5 (by simp) rfl
 obtain⟨d5,hd5'⟩:∃ d5,d5=a5.put tb (some (.cells true [sv,gv,kv,cv,fv,.int .i64 m.main])):=⟨_,rfl⟩
 have era5:([sv,gv,kv,cv,fv,(AV.int .i64 0)]:List AV).set 5 (.int .i64 m.main) = [sv,gv,kv,cv,fv,.int .i64 m.main]:=rfl
 rw [era5,← hd5'] at sta5
 have sd5:Same [tb] a5 d5:=by rw [hd5'];exact Same.put _ _ _
 have nd5:d5.next=a5.next:=by rw [hd5'];rfl
 have bd5:d5.get tb=some (.cells true [sv,gv,kv,cv,fv,.int .i64 m.main]):=by rw [hd5'];exact An
 have u12:Same [q,tb] g10 d5:=u11.trans (sd5.sub (by simp))
 have ld5:=ld d5 u12
 have Rd5:=Ra5.keep' sd5 (by simp;omega) (by simp;have:=R10.ltb;omega) (fun j hj=>by simp at hj;omega)
 obtain⟨of,cf,z1,_,_⟩:=Rd5.at_
 have zz:=congrArg List.length (Bf hd10')
 rw [List.length_drop,List.length_nil] at zz
 rw [zz] at z1
 have q0:ldS d5 (.ptr (some (q,0)))=some (.sl (some (b,of)) 0 cf):=by rw [Ai z1];rfl
 have q1:ldS d5 (.ptr (some (q,1)))=some (.bool false):=by rw [Ai z1];rfl
 have qn:lnL (.sl (some (b,of)) 0 cf)=some (.int .i64 0):=by simp
 have la6:ldA 6 d5 (.ptr (some (tb,0)))=some (.agg [sv,gv,kv,cv,fv,.int .i64 m.main]):=Ck bd5 rfl
 have hsc:([sv,gv,kv,cv,fv,.int .i64 m.main]:List AV).all scalar=true:=by
  simp only [List.all_cons,List.all_nil,Ls.sl.scv,Lg.sl.scv,Lk.sl.scv,Lc.sl.scv,Lf.sl.scv,Bool.and_true];rfl
 have t12:=(u12.get h.next (by omega) (by simp;omega)).trans t10
 have st6:=Ds (n:=6) t12 rfl (show([sv,gv,kv,cv,fv,.int .i64 m.main]:List AV).length=6 from rfl) hsc
 obtain⟨d6,hd6'⟩:∃ d6,d6=d5.put h.next (some (.cells true [sv,gv,kv,cv,fv,.int .i64 m.main])):=⟨_,rfl⟩
 rw [← hd6'] at st6
 have sd6:Same [h.next] d5 d6:=by rw [hd6'];exact Same.put _ _ _
 have nd6:d6.next=d5.next:=by rw [hd6'];rfl
 have la7:ldA 6 d6 (.ptr (some (h.next,0)))=some (.agg [sv,gv,kv,cv,fv,.int .i64 m.main]):=Ck (by rw [hd6'];exact An) rfl
 -- everything later leaves what was read
 have T5:Same [q,tb,h.next] a4 d6:=((sd4.sub (by simp)).trans ((sa5.sub (by simp)).trans (sd5.sub (by simp)))).trans (sd6.sub (by simp))
 have T4:Same [q,tb,h.next] a3 d6:=((sd3.sub (by simp)).trans (sa4.sub (by simp))).trans T5
 have T3:Same [q,tb,h.next] a2 d6:=((sd2.sub (by simp)).trans (sa3.sub (by simp))).trans T4
 have T2:Same [q,tb,h.next] a1 d6:=((sd1.sub (by simp)).trans (sa2.sub (by simp))).trans T3
 have T1:Same [q,tb,h.next] a0 d6:=((sd0.sub (by simp)).trans (sa1.sub (by simp))).trans T2
 have s10d:Same [] h d6:=by
  have:Same [q,tb,h.next] h d6:=(s09.trans s10).sub (by simp) |>.trans ((u12.sub (by simp)).trans (sd6.sub (by simp)))
  exact(Same.refl [] h).old this fun j hj=>by
   simp at hj
   exact .inr (by omega)
 refine Ah (v:=.tup [.agg [sv,gv,kv,cv,fv,.int .i64 m.main],.int .i64 0]) (g:=d6) (by simp -implicitDefEqProofs only [sta5,ld5,q0,q1,qn,la6,st6,la7,Nat.zero_add,AO,AF,Option.bind_some,AZ,AY,Ac,AX,AL,AH,AD,Ad,AQ,AE,AM,AC,if_true,if_false,Bool.false_eq_true,AJ,AP,AG,AR,AK,AU,Int.reduceEq,Int.reduceLT,Int.reduceLE,decide_true,decide_false,AB,AA,Ae,Bool.not_true,Bool.not_false,AW]) ⟨s10d,.agg [sv,gv,kv,cv,fv,.int .i64 m.main],sv,gv,kv,cv,fv,bs',bg,bk,bc,bf,vf,d0.next,d1.next,d2.next,d3.next,d3,rfl,⟨rfl,Ss.same T1 (fun j hj hm=>by have:=rs j hj;simp at hm;omega),Sg.same T2 (fun j hj hm=>by have:=rg j hj;simp at hm;omega),Sk.same T3 (fun j hj hm=>by have:=rk j hj;simp at hm;omega),Sc.same T4 (fun j hj hm=>by have:=rc j hj;simp at hm;omega),?_,fun j hj=>by have:=rs j hj;omega,fun j hj=>by have:=rg j hj;omega,fun j hj=>by have:=rk j hj;omega,fun j hj=>by have:=rc j hj;omega,by omega⟩,by omega,by show d3.next≤d6.next;omega,fun j hj=>by have:=rs j hj;omega,by omega⟩
 obtain⟨rgf,hrg,hordf⟩:=Lf.val
 refine⟨Lf.sl.same T5 (fun j hj hm=>by have:=Lf.new j hj;simp at hm;omega),Lf.new,Lf.len,rgf,fun k v x hv hx=>?_,hordf⟩
 obtain⟨x1,x2,x3,x4,x5⟩:=hrg k v x hv hx
 exact⟨FnO.stab _ _ _ _ _ _ _ x1 x3 x4 T5 (fun j hj=>by simp at hj;omega),x2,x3,by show(rgf k).2≤d6.next;omega,x5⟩
end Go.Ab.F
