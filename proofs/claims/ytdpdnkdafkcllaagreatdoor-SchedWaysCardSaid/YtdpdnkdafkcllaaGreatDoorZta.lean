import Derived.Test.YtdpdnkdafkcllaaGreatDoorZsq
namespace Go.Ab.F
open Go Go.Ab
set_option linter.all false
set_option linter.all false
attribute [local congr] c_bind c_cl c_mk c_lp c_clC c_gQ c_gV c_condE c_thenK
structure Sd where
 pl:Int
 sd:Bool
 ch:Int
def Sd.row (s:Sd):List AV:=[.int .i64 s.pl,.bool s.sd,.int .i64 s.ch]
def fnK (x:Go3):Int:=x.fn % 8 % 7
def inR (n:Nat)(a:Int):Int:=if a < 0∨(n:Int)≤a then -1 else a
def sideL (n:Nat)(x:Go3):List Sd:=
 if fnK x=1 then [⟨-1,true,inR n x.a⟩]
 else if fnK x=2 then [⟨-1,false,inR n x.a⟩]
 else if fnK x=3 then [⟨-1,false,inR n x.b⟩]
 else if fnK x=4∨fnK x=5 then [⟨0,false,inR n x.a⟩,⟨1,true,inR n x.b⟩]
 else []
theorem fnK_lo (x:Go3):0≤fnK x∧fnK x < 7:=by unfold fnK;omega
theorem and_7 (n:Int):binP .and (.int .i64 n) (.int .i64 7)=some (.int .i64 (n % 8)):=and_mask n 3 (by omega)
theorem rem_7 (n:Int):binP .rem (.int .i64 (n % 8)) (.int .i64 7)=some (.int .i64 (n % 8 % 7)):=by
 rw [bin_rem,if_neg (by decide),Int.tmod_eq_emod_of_nonneg (by omega)]
theorem sd_mt {g0 g:Heap}{sz:Nat}(s:Same [] g0 g):Nw g0 g sz (.sl none 0 (.ex 0)) []:=⟨none,⟨.inl ⟨rfl,rfl,rfl⟩,by simp⟩,s,by simp⟩
theorem sd_one {g0 g g':Heap}{i:Nat}{r:List AV}{sz:Nat}(s:Same [] g0 g)(h:g'.get g.next=some (.cells true r))(hn:g'.next=g.next+1)(s':Same [] g g')(hl:r.length=sz):Nw g0 g' sz (.sl (some (g.next,0)) 1 (.ex 1)) [r]:=
 ⟨some g.next,Vw.lit (by omega) (by simpa using h) (by simpa using hl) rfl,s.trans s',fun j hj=>by cases hj;exact s.next⟩
section
variable {g:Heap}{n:Nat}{x:Go3}{p:Nat}
theorem sides_j1 (l0:ldS g (.ptr (some (p,0+0)))=some (.int .i64 x.fn)) :
  Ok (Bl (.ptr (some (p,0))) (.int .i64 (inR n x.a)) (.int .i64 (inR n x.b)) g) fun r=>Nw g r.2 3 r.1 ((sideL n x).map Sd.row):=by
 have fe:x.fn % 8 % 7=fnK x:=rfl
 refine Ok.eq ?_ (by simp -implicitDefEqProofs only [Bl,faP_ptr,l0,Option.bind_some,and_7,rem_7,fe,eql_int]<;>rfl)
 have lo:=fnK_lo x
 generalize hf:fnK x=f at *
 have es:∀ L,sideL n x=L→(sideL n x).map Sd.row=L.map Sd.row:=fun L h=>by rw [h]
 unfold sideL
 rw [hf]
 have one:∀ a b c,Ok ((bldS [(0,1),(1,1),(2,1)] [(AV.int .i64 0),(AV.bool false),(AV.int .i64 0)] [(0,(AV.int .i64 a)),(1,(AV.bool b)),(2,(AV.int .i64 c))]).bind fun t34=>
   mk Heap.new (bsP 3 [(AV.int .i64 0),(AV.bool false),(AV.int .i64 0)] 1 [(0,t34)]) g fun t35 h15=>some (t35,h15)) fun r=>Nw g r.2 3 r.1 [Sd.row ⟨a,b,c⟩]:=fun a b c=>by
  refine Ok.eq ?_ (by rw [show bldS [(0,1),(1,1),(2,1)] [(AV.int .i64 0),(AV.bool false),(AV.int .i64 0)] [(0,(AV.int .i64 a)),(1,(AV.bool b)),(2,(AV.int .i64 c))]=some (.agg (Sd.row ⟨a,b,c⟩)) from rfl,Option.bind_some])
  refine ok_lit1 rfl rfl rfl fun g1 s1 n1 b1=>Ok.of (sd_one (i:=0) (Same.refl _ _) b1 n1 s1 rfl)
 by_cases h1:f=1
 ·rw [if_pos h1]
  exact(one _ _ _).eq (by simp -implicitDefEqProofs only [h1,decide_true,Option.bind_some,condE_true]<;>rfl)
 rw [if_neg h1]
 by_cases h2:f=2
 ·rw [if_pos h2]
  exact(one _ _ _).eq (by simp -implicitDefEqProofs only [h2,decide_true,show decide ((2:Int)=1)=false from rfl,Option.bind_some,condE_true,condE_false]<;>rfl)
 rw [if_neg h2]
 by_cases h3:f=3
 ·rw [if_pos h3]
  exact(one _ _ _).eq (by simp -implicitDefEqProofs only [h3,decide_true,show decide ((3:Int)=1)=false from rfl,show decide ((3:Int)=2)=false from rfl,Option.bind_some,condE_true,condE_false]<;>rfl)
 rw [if_neg h3]
 have two:Ok (Bj (.int .i64 (inR n x.a)) (.int .i64 (inR n x.b)) (.bool true) g) fun r=>Nw g r.2 3 r.1 ([Sd.mk 0 false (inR n x.a),Sd.mk 1 true (inR n x.b)].map Sd.row):=by
  generalize inR n x.a=a
  generalize inR n x.b=b
  have e:bsP 3 [(AV.int .i64 0),(AV.bool false),(AV.int .i64 0)] 2 [(0,.agg [.int .i64 0,.bool false,.int .i64 a]),(1,.agg [.int .i64 1,.bool true,.int .i64 b])]=some (.cells true [.int .i64 0,.bool false,.int .i64 a,.int .i64 1,.bool true,.int .i64 b],fun i=>.sl (some (i,0)) 2 (.ex 2)):=rfl
  obtain⟨g1,e1⟩:∃ g1,g1=g.new (.cells true [.int .i64 0,.bool false,.int .i64 a,.int .i64 1,.bool true,.int .i64 b]):=⟨_,rfl⟩
  have b1:g1.get g.next=some (.cells true [.int .i64 0,.bool false,.int .i64 a,.int .i64 1,.bool true,.int .i64 b]):=by rw [e1];exact get_new_eq
  have s1:Same [] g g1:=by rw [e1];exact Same.new _ _
  have n1:g1.next=g.next+1:=by rw [e1];rfl
  refine(Ok.of (r:=((.sl (some (g.next,0)) 2 (.ex 2),g1):AV × Heap)) ⟨some g.next,Vw.lit (by show g.next<g1.next;omega) b1 (by simp [Sd.row]) rfl,s1,fun j hj=>by cases hj;exact Nat.le_refl _⟩).eq (by
   simp -implicitDefEqProofs only [Bj,condE_true,show bldS [(0,1),(1,1),(2,1)] [(AV.int .i64 0),(AV.bool false),(AV.int .i64 0)] [(0,(AV.int .i64 0)),(1,(AV.bool false)),(2,(AV.int .i64 a))]=some (.agg [.int .i64 0,.bool false,.int .i64 a]) from rfl,show bldS [(0,1),(1,1),(2,1)] [(AV.int .i64 0),(AV.bool false),(AV.int .i64 0)] [(0,(AV.int .i64 1)),(1,(AV.bool true)),(2,(AV.int .i64 b))]=some (.agg [.int .i64 1,.bool true,.int .i64 b]) from rfl,Option.bind_some,e,mk_some,← e1])
 by_cases h4:f=4
 ·rw [if_pos (.inl h4)]
  exact two.eq (by simp -implicitDefEqProofs only [h4,decide_true,show decide ((4:Int)=1)=false from rfl,show decide ((4:Int)=2)=false from rfl,show decide ((4:Int)=3)=false from rfl,Option.bind_some,condE_true,condE_false])
 by_cases h5:f=5
 ·rw [if_pos (.inr h5)]
  exact two.eq (by simp -implicitDefEqProofs only [h5,decide_true,show decide ((5:Int)=1)=false from rfl,show decide ((5:Int)=2)=false from rfl,show decide ((5:Int)=3)=false from rfl,show decide ((5:Int)=4)=false from rfl,Option.bind_some,condE_false])
 rw [if_neg (by omega)]
 exact(Ok.of (r:=((.sl none 0 (.ex 0),g):AV × Heap)) (sd_mt (Same.refl _ _))).eq (by simp -implicitDefEqProofs only [decide_eq_false h1,decide_eq_false h2,decide_eq_false h3,decide_eq_false h4,decide_eq_false h5,Option.bind_some,condE_false,Bj])
theorem sides_ok {x0:AV}(hl:lnL x0=some (.int .i64 n)):Ok (B8 x0 (.agg x.row) g) fun r=>Nw g r.2 3 r.1 ((sideL n x).map Sd.row):=by
 refine Ok.eq ?_ (by unfold B8;rfl)
 refine ok_box (cs:=x.row) rfl fun g1 s1 n1 b1=>?_
 have l0:ldS g1 (.ptr (some (g.next,0+0)))=some (.int .i64 x.fn):=by rw [ldS_at b1];rfl
 have l1:ldS g1 (.ptr (some (g.next,0+1)))=some (.int .i64 x.a):=by rw [ldS_at b1];rfl
 have l2:ldS g1 (.ptr (some (g.next,0+2)))=some (.int .i64 x.b):=by rw [ldS_at b1];rfl
 have fin:Ok (Bl (.ptr (some (g.next,0))) (.int .i64 (inR n x.a)) (.int .i64 (inR n x.b)) g1) fun r=>Nw g r.2 3 r.1 ((sideL n x).map Sd.row):=
  (sides_j1 l0).mono fun r ⟨b,V,s,h⟩=>⟨b,V,s1.trans s,fun j hj=>by have:=h j hj;have:=s1.next;omega⟩
 have j2:Ok (BI x0 (.ptr (some (g.next,0))) (.int .i64 x.b) (.int .i64 (inR n x.a)) g1) fun r=>Nw g r.2 3 r.1 ((sideL n x).map Sd.row):=by
  by_cases h:x.b < 0
  ·have e:inR n x.b = -1:=if_pos (.inl h)
   rw [e] at fin
   exact fin.eq (by simp -implicitDefEqProofs only [BI,bin_lss,h,decide_true,Option.bind_some,gdW_tf,gQ_false,pickP_bool,if_true,condE_true])
  by_cases h':(n:Int)≤x.b
  ·have e:inR n x.b = -1:=if_pos (.inr h')
   rw [e] at fin
   exact fin.eq (by simp -implicitDefEqProofs only [BI,bin_lss,h,decide_false,Option.bind_some,gdW_ff,gQ_true,cl_some,hl,bin_geq,h',decide_true,pickP_bool,if_false,Bool.false_eq_true,condE_true])
  ·have e:inR n x.b=x.b:=if_neg (by omega)
   rw [e] at fin
   exact fin.eq (by simp -implicitDefEqProofs only [BI,bin_lss,h,decide_false,Option.bind_some,gdW_ff,gQ_true,cl_some,hl,bin_geq,h',pickP_bool,if_false,Bool.false_eq_true,condE_false])
 by_cases h:x.a < 0
 ·have e:inR n x.a = -1:=if_pos (.inl h)
  rw [e] at j2
  exact j2.eq (by simp -implicitDefEqProofs only [faP_ptr,l1,l2,chk_nil,bin_lss,h,decide_true,Option.bind_some,gdW_tf,gQ_false,pickP_bool,if_true,condE_true])
 by_cases h':(n:Int)≤x.a
 ·have e:inR n x.a = -1:=if_pos (.inr h')
  rw [e] at j2
  exact j2.eq (by simp -implicitDefEqProofs only [faP_ptr,l1,l2,chk_nil,bin_lss,h,decide_false,Option.bind_some,gdW_ff,gQ_true,cl_some,hl,bin_geq,h',decide_true,pickP_bool,if_false,Bool.false_eq_true,condE_true])
 ·have e:inR n x.a=x.a:=if_neg (by omega)
  rw [e] at j2
  exact j2.eq (by simp -implicitDefEqProofs only [faP_ptr,l1,l2,chk_nil,bin_lss,h,decide_false,Option.bind_some,gdW_ff,gQ_true,cl_some,hl,bin_geq,h',pickP_bool,if_false,Bool.false_eq_true,condE_false])
end
set_option linter.all false
attribute [local congr] c_bind c_cl c_mk c_lp c_clC c_gQ c_gV c_condE c_thenK
structure One where
 room:Int
 count:Int
 closed:Bool
def One.row (c:One):List AV:=[.int .i64 c.room,.int .i64 c.count,.bool c.closed]
def fitsS (s o:Sd):Bool:=decide (o.ch=s.ch) && (o.sd != s.sd)
def lwP1 (s:Sd)(p:Int)(os:List Sd):List (List AV):=(os.filter (fitsS s)).map fun o=>wyC s.pl p o.pl
def lwP (n i:Nat)(s:Sd):Nat→List Go3→List (List AV)
 | _,[]=>[]
 | k,y::xs=>(if k=i then [] else lwP1 s ((k+1:Nat):Int) (sideL n y))++lwP n i s (k+1) xs
def opn (c:One)(s:Sd):Bool:=c.closed||(s.sd && decide (c.count<c.room))||(!s.sd && decide (0<c.count))
theorem lwP1_app (s:Sd)(p:Int)(ys:List Sd)(y:Sd):lwP1 s p (ys ++ [y])=lwP1 s p ys++(if fitsS s y then [wyC s.pl p y.pl] else []):=by
 unfold lwP1
 rw [List.filter_append,List.map_append]
 congr 1
 cases h:fitsS s y<;>simp [List.filter,h]
theorem lwP1_len (s:Sd)(p:Int)(ys:List Sd):(lwP1 s p ys).length≤ys.length:=by
 unfold lwP1
 rw [List.length_map];exact List.length_filter_le ..
theorem lwP_app (n i:Nat)(s:Sd)(x:Go3):∀ (gs:List Go3) (k:Nat),lwP n i s k (gs ++ [x])=lwP n i s k gs++(if k+gs.length=i then [] else lwP1 s ((k+gs.length+1:Nat):Int) (sideL n x))
 | [],k=>by simp [lwP]
 | y::gs,k=>by
  rw [List.cons_append,lwP,lwP_app n i s x gs (k+1),lwP,List.append_assoc,List.length_cons,show k+1+gs.length=k+(gs.length+1) by omega]
theorem sideL_len (n:Nat)(x:Go3):(sideL n x).length≤2:=by
 unfold sideL
 repeat (split<;>try (simp;done))
 all_goals simp
theorem cl_put {h:Heap}{x:Option (Blk × (Nat→AV))}{R:Type}{K:AV→Heap→Option R}:cl (mkAt Heap.put x (h.next+0) (hpN h 1)) K=Go.Ab.mk Heap.new x h K:=by
 cases x with
 | none=>rfl
 | some x=>rfl
theorem lw_L0 {g0 g:Heap}{s:Sd}{i k p:Nat}{b ob:Option Nat}{q v:AV}{rows:List (List AV)}{os:List Sd}(H:Ow g0 g b 3 q rows)(V:Vw g ob 3 v (os.map Sd.row))(hq:g.get p=some (.cells true s.row))(hl:p<g.next)(h1:b≠some p)(h2:∀ j,ob=some j→b≠some j)(hy:os.length≤2)(hr:rows.length≤1000)(hk:k≤100) :
  Ok (Eb (.int .i64 (i:Int)) (.ptr (some (p,0))) (.int .i64 (k:Int)) v q (.int .i64 0) g) fun r=>r.1 = .exit 4∧∃ b',Ow g0 r.2.2 b' 3 (r.2.1.getD 0 .bot) (rows++(if k=i then [] else lwP1 s ((k+1:Nat):Int) os))∧Same b.toList g r.2.2∧(b'=b∨∀ j,b'=some j→g.next≤j):=by
 have lnv:lnL v=some (.int .i64 os.length):=by have:=V.lnL;rwa [List.length_map] at this
 by_cases hki:k=i
 ·subst hki
  rw [if_pos rfl,List.append_nil]
  refine ok_loop (fun m vs g2=>vs = [q,.int .i64 0]∧g2=g) ?_ (n:=0) (by omega) ⟨rfl,rfl⟩
  rintro m vs g2 ⟨rfl,rfl⟩
  rw [gd0,gd1]
  refine(Ok.of (r:=(Ex.exit 4,[q,.int .i64 0],g2)) (.inr ⟨by simp,rfl,b,H,Same.refl _ _,.inl rfl⟩)).eq ?_
  by_cases h0:(0:Int)<os.length
  ·simp -implicitDefEqProofs only [BD,lnv,bin_lss,h0,decide_true,Option.bind_some,gdW_tt,gQ_true,cl_some,neq_int,Bool.not_true,pickP_bool,if_true,condE_false]
  ·simp -implicitDefEqProofs only [BD,lnv,bin_lss,h0,decide_false,Option.bind_some,gdW_ft,gQ_false,pickP_bool,Bool.false_eq_true,if_false,condE_false]
 ·rw [if_neg hki]
  have hki':decide ((k:Int)=(i:Int))=false:=decide_eq_false (by omega)
  refine ok_loop (fun m vs g2=>∃ (j:Nat) (q':AV) (b':Option Nat),vs = [q',.int .i64 (j:Int)]∧m+j=os.length∧Ow g0 g2 b' 3 q' (rows++lwP1 s ((k+1:Nat):Int) (os.take j))∧Same b.toList g g2∧(b'=b∨∀ j,b'=some j→g.next≤j)) ?_ (n:=os.length) (by omega) ⟨0,q,b,rfl,by omega,by simpa [lwP1] using H,Same.refl _ _,.inl rfl⟩
  rintro m vs g2 ⟨j,q',b',rfl,hm,H',s2,hb'⟩
  rw [gd0,gd1]
  have V2:=V.same s2 (fun j hj hm=>h2 j hj (by simpa using hm))
  have hq2:g2.get p=some (.cells true s.row):=(s2.get _ hl (fun hm=>h1 (by simpa using hm))).trans hq
  by_cases hi:j<os.length
  ·have hlt:(j:Int)<os.length:=by omega
   obtain⟨y,hyy⟩:∃ y,os[j]?=some y:=⟨_,List.getElem?_eq_getElem hi⟩
   have et:os.take (j+1)=os.take j ++ [y]:=by rw [List.take_succ,hyy];rfl
   obtain⟨pp,oo,_,hpl,ix,_,ld⟩:=V2.at (i:=j) (r:=y.row) (by rw [List.getElem?_map,hyy];rfl)
   have f0:=ld 0 (.int .i64 y.pl) (hpN g2 1) rfl rfl
   have f1:=ld 1 (.bool y.sd) g2 rfl rfl
   have f2:=ld 2 (.int .i64 y.ch) g2 rfl rfl
   have o0:ldS (hpN g2 1) (.ptr (some (p,0+0)))=some (.int .i64 s.pl):=by rw [ldS_at (show(hpN g2 1).get p=_ from hq2)];rfl
   have o1:ldS g2 (.ptr (some (p,0+1)))=some (.bool s.sd):=by rw [ldS_at hq2];rfl
   have o2:ldS g2 (.ptr (some (p,0+2)))=some (.int .i64 s.ch):=by rw [ldS_at hq2];rfl
   have no:fitsS s y=false→Ok (B2 (.int .i64 (j:Int)) q' g2) fun r=>(r.1 = .normal∧∃ m',m'<m∧∃ (j:Nat) (q':AV) (b':Option Nat),r.2.1 = [q',.int .i64 (j:Int)]∧m'+j=os.length∧Ow g0 r.2.2 b' 3 q' (rows++lwP1 s ((k+1:Nat):Int) (os.take j))∧Same b.toList g r.2.2∧(b'=b∨∀ j,b'=some j→g.next≤j))∨(r.1≠.normal∧(r.1 = .exit 4∧∃ b',Ow g0 r.2.2 b' 3 (r.2.1.getD 0 .bot) (rows++lwP1 s ((k+1:Nat):Int) os)∧Same b.toList g r.2.2∧(b'=b∨∀ j,b'=some j→g.next≤j))):=fun hf=>
    (Ok.of (r:=(Ex.normal,[q',.int .i64 ((j+1:Nat):Int)],g2)) (.inl ⟨rfl,m - 1,by omega,j+1,q',b',rfl,by omega,by rw [et,lwP1_app,hf];simpa using H',s2,hb'⟩)).eq (by
     simp -implicitDefEqProofs only [B2,bin_add,Option.bind_some,suc64 j (by omega)])
   by_cases k2:y.ch=s.ch
   ·by_cases k1:y.sd=s.sd
    ·have hf:fitsS s y=false:=by unfold fitsS;rw [k1];simp
     refine(no hf).eq (by simp -implicitDefEqProofs only [BD,lnv,bin_lss,hlt,decide_true,Option.bind_some,gdW_tt,gQ_true,cl_some,neq_int,hki',Bool.not_false,pickP_bool,if_true,condE_true,ix,faP_ptr,f2,o2,eql_int,decide_eq_true k2,gV_true,f1,o1,neq_bool,k1,beq_self_eq_true,Bool.not_true,chk_nil,condE_false])
    ·have hf:fitsS s y=true:=by unfold fitsS;rw [decide_eq_true k2];simpa using k1
     have hb:(!(y.sd == s.sd))=true:=by simpa using k1
     have hpl:=lwP1_len s ((k+1:Nat):Int) (os.take j)
     have htl:=List.length_take_le j os
     refine Ok.eq ?_ (by simp -implicitDefEqProofs only [BD,lnv,bin_lss,hlt,decide_true,Option.bind_some,gdW_tt,gQ_true,cl_some,neq_int,hki',Bool.not_false,pickP_bool,if_true,condE_true,ix,faP_ptr,f2,o2,eql_int,decide_eq_true k2,gV_true,f1,o1,neq_bool,hb,chk_nil,o0,f0,bin_add,suc64 k (by omega),show bldS [(0,1),(1,1),(2,1)] [(AV.int .i64 0),(AV.int .i64 0),(AV.int .i64 0)] [(0,.int .i64 s.pl),(1,.int .i64 ((k+1:Nat):Int)),(2,.int .i64 y.pl)]=some (.agg (wyC s.pl ((k+1:Nat):Int) y.pl)) from rfl,cl_put]<;>rfl)
     have hbd:(rows++lwP1 s ((k+1:Nat):Int) (os.take j)).length≤1002:=by rw [List.length_append];omega
     refine H'.push (bytes:=24) rfl rfl rfl (by omega) (by omega) fun v' g4 H4 s4 n4=>?_
     refine(Ok.of (r:=(Ex.normal,[v',.int .i64 ((j+1:Nat):Int)],g4)) (.inl ⟨rfl,m - 1,by omega,j+1,v',some (g2.next+1),rfl,by omega,by rw [et,lwP1_app,hf];simpa [List.append_assoc] using H4,?_,.inr fun j hj=>?_⟩)).eq (by
      simp -implicitDefEqProofs only [B2,bin_add,Option.bind_some,suc64 j (by omega),chk_nil])
     ·refine s2.old s4 fun j hj=>?_
      rcases hb' with rfl | h
      ·exact .inl hj
      ·exact .inr (h j (by simpa using hj))
     ·cases hj;have:=s2.next;omega
   ·have hf:fitsS s y=false:=by unfold fitsS;rw [decide_eq_false k2];simp
    refine(no hf).eq (by simp -implicitDefEqProofs only [BD,lnv,bin_lss,hlt,decide_true,Option.bind_some,gdW_tt,gdW_ft,gQ_true,cl_some,neq_int,hki',Bool.not_false,pickP_bool,if_true,condE_true,ix,faP_ptr,f2,o2,eql_int,decide_eq_false k2,gV_false,Bool.false_eq_true,if_false,chk_nil,condE_false])
  ·have hlt : ¬ (j:Int)<os.length:=by omega
   have e:os.take j=os:=List.take_of_length_le (by omega)
   rw [e] at H'
   exact(Ok.of (r:=(Ex.exit 4,[q',.int .i64 (j:Int)],g2)) (.inr ⟨by simp,rfl,b',H',s2,hb'⟩)).eq (by
    simp -implicitDefEqProofs only [BD,lnv,bin_lss,hlt,decide_false,Option.bind_some,gdW_ft,gQ_false,pickP_bool,Bool.false_eq_true,if_false,condE_false])
set_option linter.all false
attribute [local congr] c_bind c_cl c_mk c_lp c_clC c_gQ c_gV c_condE c_thenK
theorem lwP_len (n i:Nat)(s:Sd):∀ (xs:List Go3) (k:Nat),(lwP n i s k xs).length≤2*xs.length
 | [],k=>by simp [lwP]
 | y::xs,k=>by
  have h1:=lwP_len n i s xs (k+1)
  have h2:=lwP1_len s ((k+1:Nat):Int) (sideL n y)
  have h3:=sideL_len n y
  rw [lwP,List.length_append,List.length_cons]
  split
  ·simp;omega
  ·omega
theorem gos_ld {h:Heap}{v:AV}{xs:List Go3}(H:GosRd h v xs){i:Nat}{x:Go3}(hx:xs[i]?=some x):∃ p,iaS 3 v (.int .i64 (i:Int))=some (.ptr (some p))∧ldA 3 h (.ptr (some p))=some (.agg x.row):=by
 obtain⟨b,o,_,ix,la,_⟩:=H.at_ hx
 exact⟨(b,o),ix .i64,la⟩
section
variable {g0 g:Heap}{s:Sd}{c:One}{i p pc:Nat}{b:Option Nat}{q:AV}{rows:List (List AV)}{x0 x1:AV}{n:Nat}{xs:List Go3}
theorem lw_L1 (hx:∀ g',Same [] g0 g'→GosRd g' x1 xs)(hl:lnL x0=some (.int .i64 n))(H:Ow g0 g b 3 q rows)(hq:g.get p=some (.cells true s.row))(lp:p<g.next)(hc:g.get pc=some (.cells true c.row))(lc:pc<g.next)(h1:b≠some p)(h1':b≠some pc)(hxs:xs.length≤8)(hr:rows.length≤100) :
  Ok (C4 x0 x1 (.int .i64 (i:Int)) (.ptr (some (p,0))) (.ptr (some (pc,0))) q (.int .i64 0) g) fun r=>r.1 = .exit 2∧∃ b',Ow g0 r.2.2 b' 3 (r.2.1.getD 0 .bot) (rows++(if c.room=0 then lwP n i s 0 xs else []))∧Same b.toList g r.2.2∧(b'=b∨∀ j,b'=some j→g.next≤j):=by
 have lnx:=(hx g H.same).lnL
 have c0:∀ g',g'.get pc=some (.cells true c.row)→ldS g' (.ptr (some (pc,0+0)))=some (.int .i64 c.room):=fun g' h=>by rw [ldS_at h];rfl
 by_cases hrm:c.room=0
 ·rw [if_pos hrm]
  refine ok_loop (fun m vs g2=>∃ (j:Nat) (q':AV) (b':Option Nat),vs = [q',.int .i64 (j:Int)]∧m+j=xs.length∧Ow g0 g2 b' 3 q' (rows++lwP n i s 0 (xs.take j))∧Same b.toList g g2∧(b'=b∨∀ j,b'=some j→g.next≤j)) ?_ (n:=xs.length) (by omega) ⟨0,q,b,rfl,by omega,by simpa [lwP] using H,Same.refl _ _,.inl rfl⟩
  rintro m vs g2 ⟨j,q',b',rfl,hm,H',s2,hb'⟩
  rw [gd0,gd1]
  have hq2:g2.get p=some (.cells true s.row):=(s2.get _ lp (fun hm=>h1 (by simpa using hm))).trans hq
  have hc2:g2.get pc=some (.cells true c.row):=(s2.get _ lc (fun hm=>h1' (by simpa using hm))).trans hc
  have r0:=c0 g2 hc2
  by_cases hi:j<xs.length
  ·have hlt:(j:Int)<xs.length:=by omega
   obtain⟨y,hyy⟩:∃ y,xs[j]?=some y:=⟨_,List.getElem?_eq_getElem hi⟩
   have et:xs.take (j+1)=xs.take j ++ [y]:=by rw [List.take_succ,hyy];rfl
   have htl:(xs.take j).length=j:=by rw [List.length_take];omega
   obtain⟨pp,ix,la⟩:=gos_ld (hx g2 H'.same) hyy
   refine Ok.eq ?_ (by simp -implicitDefEqProofs only [B3,lnx,bin_lss,hlt,decide_true,Option.bind_some,gdW_tt,gQ_true,cl_some,faP_ptr,r0,eql_int,decide_eq_true hrm,pickP_bool,if_true,condE_true,ix,la]<;>rfl)
   refine ok_cl (sides_ok hl) ?_
   rintro v g3 ⟨ob,V,s3,hob⟩
   simp only at V s3 hob
   have lp2:p<g2.next:=Nat.lt_of_lt_of_le lp s2.next
   have hbp:b'≠some p:=by
    rcases hb' with rfl | h
    ·exact h1
    ·intro e;have:=h p e;omega
   have hlw:=lwP_len n i s (xs.take j) 0
   rw [htl] at hlw
   refine ok_lp (lw_L0 (i:=i) (k:=j) (H'.keep s3) V ((s3.get _ lp2 (by simp)).trans hq2) (Nat.lt_of_lt_of_le lp2 s3.next) hbp (fun k hk e=>by
    have a:=hob k hk
    have b:=(H'.S.blk k e).1
    omega) (sideL_len n y) (by rw [List.length_append];omega) (by omega)) ?_
   rintro _ vs g4 ⟨rfl,b4,H4,s4,hb4⟩
   simp only at H4 s4 hb4
   refine(Ok.of (r:=(Ex.normal,[vs.getD 0 .bot,.int .i64 ((j+1:Nat):Int)],g4)) (.inl ⟨rfl,m - 1,by omega,j+1,vs.getD 0 .bot,b4,rfl,by omega,?_,?_,?_⟩)).eq (by
    simp -implicitDefEqProofs only [if_true,show(if Ex.normal=Ex.exit 3 then Ex.normal else Ex.normal)=Ex.normal from rfl,thenK_normal,bin_add,Option.bind_some,suc64 j (by omega)])
   ·rw [et,lwP_app,htl,Nat.zero_add,← List.append_assoc];exact H4
   ·refine(s2.trans (s3.sub (by simp))).old s4 fun k hk=>?_
    rcases hb' with rfl | h
    ·exact .inl hk
    ·exact .inr (h k (by simpa using hk))
   ·rcases hb4 with rfl | h
    ·exact hb'
    ·exact .inr fun k hk=>by have:=h k hk;have:=s2.next;have:=s3.next;omega
  ·have hlt : ¬ (j:Int)<xs.length:=by omega
   have e:xs.take j=xs:=List.take_of_length_le (by omega)
   rw [e] at H'
   exact(Ok.of (r:=(Ex.exit 2,[q',.int .i64 (j:Int)],g2)) (.inr ⟨by simp,rfl,b',H',s2,hb'⟩)).eq (by
    simp -implicitDefEqProofs only [B3,lnx,bin_lss,hlt,decide_false,Option.bind_some,gdW_ft,gQ_false,pickP_bool,Bool.false_eq_true,if_false,condE_false])
 ·rw [if_neg hrm,List.append_nil]
  refine ok_loop (fun m vs g2=>vs = [q,.int .i64 0]∧g2=g) ?_ (n:=0) (by omega) ⟨rfl,rfl⟩
  rintro m vs g2 ⟨rfl,rfl⟩
  rw [gd0,gd1]
  have r0:=c0 g2 hc
  refine(Ok.of (r:=(Ex.exit 2,[q,.int .i64 0],g2)) (.inr ⟨by simp,rfl,b,H,Same.refl _ _,.inl rfl⟩)).eq ?_
  by_cases h0:(0:Int)<xs.length
  ·simp -implicitDefEqProofs only [B3,lnx,bin_lss,h0,decide_true,Option.bind_some,gdW_tt,gQ_true,cl_some,faP_ptr,r0,eql_int,decide_eq_false hrm,pickP_bool,if_true,condE_false]
  ·simp -implicitDefEqProofs only [B3,lnx,bin_lss,h0,decide_false,Option.bind_some,gdW_ft,gQ_false,pickP_bool,Bool.false_eq_true,if_false,condE_false]
end
set_option linter.all false
attribute [local congr] c_bind c_cl c_mk c_lp c_clC c_gQ c_gV c_condE c_thenK
def lw1 (ol:List One)(xs:List Go3)(i:Nat)(fn:Int)(s:Sd):List (List AV):=
 if s.ch < 0 then(if fn < 4 then [wyC (-1) 0 (-1)] else [])
 else match ol[s.ch.toNat]? with
  | none=>[]
  | some c=>if opn c s then [wyC s.pl 0 (-1)] else if c.room=0 then lwP ol.length i s 0 xs else []
def lwL (ol:List One)(xs:List Go3)(i:Nat)(fn:Int):List Sd→List (List AV)
 | []=>[]
 | s::ss=>lw1 ol xs i fn s++lwL ol xs i fn ss
def lwG (ol:List One)(xs:List Go3)(i:Nat)(x:Go3):List (List AV):=
 if fnK x=0∨fnK x=6 then [wyC (-1) 0 (-1)]
 else if (lwL ol xs i (fnK x) (sideL ol.length x)).length=0∧fnK x=5 then [wyC 2 0 (-1)] else lwL ol xs i (fnK x) (sideL ol.length x)
theorem lw1_len (ol:List One)(xs:List Go3)(i:Nat)(fn:Int)(s:Sd):(lw1 ol xs i fn s).length≤2*xs.length+1:=by
 unfold lw1
 have h:=fun n=>lwP_len n i s xs 0
 split
 ·split<;>simp
 ·split
  ·simp
  ·split
   ·simp
   ·split
    ·have:=h ol.length;omega
    ·simp
theorem lwL_app (ol:List One)(xs:List Go3)(i:Nat)(fn:Int)(s:Sd):∀ ss,lwL ol xs i fn (ss ++ [s])=lwL ol xs i fn ss++lw1 ol xs i fn s
 | []=>by simp [lwL]
 | t::ss=>by rw [List.cons_append,lwL,lwL_app ol xs i fn s ss,lwL,List.append_assoc]
section
variable {g0 g:Heap}{s:Sd}{i:Nat}{b bc:Option Nat}{q:AV}{rows:List (List AV)}{x0 x1 v:AV}{ol:List One}{xs:List Go3}
theorem lw_step (hx:∀ g',Same [] g0 g'→GosRd g' x1 xs)(hcl:∀ g',Same [] g0 g'→Vw g' bc 3 x0 (ol.map One.row))(H:Ow g0 g b 3 q rows){ob:Option Nat}{os:List Sd}(V:Vw g ob 3 v (os.map Sd.row)){j:Nat}(hj:os[j]?=some s)(hch:s.ch<ol.length)(hxs:xs.length≤8)(hr:rows.length≤50)(hos:os.length≤2)(fn:Int) :
  Ok (CZ x0 x1 (.int .i64 (i:Int)) (.int .i64 fn) v q (.int .i64 (j:Int)) g) fun r=>r.1 = .normal∧∃ q' b',r.2.1 = [q',.int .i64 ((j+1:Nat):Int)]∧Ow g0 r.2.2 b' 3 q' (rows++lw1 ol xs i fn s)∧Same b.toList g r.2.2∧(b'=b∨∀ j,b'=some j→g.next≤j):=by
 have lnv:lnL v=some (.int .i64 os.length):=by have:=V.lnL;rwa [List.length_map] at this
 have hjl:=(List.getElem?_eq_some_iff.1 hj).1
 have hlt:(j:Int)<os.length:=by omega
 obtain⟨pp,oo,_,hpl,ix,la,_⟩:=V.at (i:=j) (r:=s.row) (by rw [List.getElem?_map,hj];rfl)
 have lnc:lnL x0=some (.int .i64 ol.length):=by have:=(hcl g H.same).lnL;rwa [List.length_map] at this
 refine Ok.eq ?_ (by simp -implicitDefEqProofs only [CZ,lnv,bin_lss,hlt,decide_true,Option.bind_some,condE_true,ix,la g rfl]<;>rfl)
 refine ok_tmp (cs:=s.row) (n:=3) rfl rfl rfl fun g1 s1 n1 b1=>?_
 have f2:ldS g1 (.ptr (some (g.next,0+2)))=some (.int .i64 s.ch):=by rw [ldS_at b1];rfl
 have H1:=H.keep s1
 have bl:∀ k,b=some k→k<g.next:=fun k e=>(H.S.blk k e).1
 by_cases h0:s.ch < 0
 ·have e1:lw1 ol xs i fn s=if fn < 4 then [wyC (-1) 0 (-1)] else []:=by unfold lw1;rw [if_pos h0]
  rw [e1]
  by_cases h4:fn < 4
  ·rw [if_pos h4]
   refine Ok.eq ?_ (by simp -implicitDefEqProofs only [faP_ptr,f2,Option.bind_some,bin_lss,h0,h4,decide_true,condE_true,show bldS [(0,1),(1,1),(2,1)] [(AV.int .i64 0),(AV.int .i64 0),(AV.int .i64 0)] [(0,(AV.int .i64 (-1))),(2,(AV.int .i64 (-1)))]=some (.agg (wyC (-1) 0 (-1))) from rfl]<;>rfl)
   refine H1.push (bytes:=24) rfl rfl rfl (by omega) (by omega) fun v' g4 H4 s4 n4=>?_
   refine(Ok.of (r:=(Ex.normal,[v',.int .i64 ((j+1:Nat):Int)],g4)) ⟨rfl,v',_,rfl,H4,?_,.inr fun k hk=>?_⟩).eq (by
    simp -implicitDefEqProofs only [bin_add,Option.bind_some,suc64 j (by omega)])
   ·exact(s1.sub (by simp)).old s4 fun k hk=>.inl hk
   ·cases hk;omega
  ·rw [if_neg h4,List.append_nil]
   refine(Ok.of (r:=(Ex.normal,[q,.int .i64 ((j+1:Nat):Int)],g1)) ⟨rfl,q,b,rfl,H1,s1.sub (by simp),.inl rfl⟩).eq (by
    simp -implicitDefEqProofs only [faP_ptr,f2,Option.bind_some,bin_lss,h0,h4,decide_true,decide_false,condE_true,condE_false,bin_add,suc64 j (by omega)])
 ·obtain⟨c,hc⟩:∃ c,ol[s.ch.toNat]?=some c:=⟨_,List.getElem?_eq_getElem (by omega)⟩
  obtain⟨pc,oc,_,_,ixc,lac,_⟩:=(hcl g1 H1.same).at (i:=s.ch.toNat) (r:=c.row) (by rw [List.getElem?_map,hc];rfl)
  have ixc':=ixc .i64
  rw [show((s.ch.toNat:Nat):Int)=s.ch by omega] at ixc'
  have e1:lw1 ol xs i fn s=if opn c s then [wyC s.pl 0 (-1)] else if c.room=0 then lwP ol.length i s 0 xs else []:=by unfold lw1;rw [if_neg h0,hc]
  rw [e1]
  refine Ok.eq ?_ (by simp -implicitDefEqProofs only [faP_ptr,f2,Option.bind_some,bin_lss,h0,decide_false,condE_false,ixc',lac g1 rfl]<;>rfl)
  refine ok_tmp (cs:=c.row) (n:=3) rfl rfl rfl fun g2 s2 n2 b2=>?_
  have H2:=H1.keep s2
  have b12:=(s2.get _ (by omega) (by simp)).trans b1
  have p0:ldS g2 (.ptr (some (g.next,0+0)))=some (.int .i64 s.pl):=by rw [ldS_at b12];rfl
  have p1:ldS g2 (.ptr (some (g.next,0+1)))=some (.bool s.sd):=by rw [ldS_at b12];rfl
  have c0:ldS g2 (.ptr (some (g1.next,0+0)))=some (.int .i64 c.room):=by rw [ldS_at b2];rfl
  have c1:ldS g2 (.ptr (some (g1.next,0+1)))=some (.int .i64 c.count):=by rw [ldS_at b2];rfl
  have c2:ldS g2 (.ptr (some (g1.next,0+2)))=some (.bool c.closed):=by rw [ldS_at b2];rfl
  have s02:Same b.toList g g2:=(s1.trans s2).sub (by simp)
  have yes:opn c s=true→Ok ((faP 0 (.ptr (some (g.next,0)))).bind fun t85=>(ldS g2 t85).bind fun t86=>
    (bldS [(0,1),(1,1),(2,1)] [(AV.int .i64 0),(AV.int .i64 0),(AV.int .i64 0)] [(0,t86),(2,(AV.int .i64 (-1)))]).bind fun t87=>
    mk Heap.new (bsP 3 [(AV.int .i64 0),(AV.int .i64 0),(AV.int .i64 0)] 1 [(0,t87)]) g2 fun t88 h56=>
    cl (appendA h56 3 24 q t88) fun t89 h57=>(binP .add (.int .i64 (j:Int)) (AV.int .i64 1)).bind fun t42_58=>some (Ex.normal,[t89,t42_58],h57)) fun r=>r.1 = .normal∧∃ q' b',r.2.1 = [q',.int .i64 ((j+1:Nat):Int)]∧Ow g0 r.2.2 b' 3 q' (rows++(if opn c s then [wyC s.pl 0 (-1)] else if c.room=0 then lwP ol.length i s 0 xs else []))∧Same b.toList g r.2.2∧(b'=b∨∀ j,b'=some j→g.next≤j):=fun ho=>by
   rw [if_pos ho]
   refine Ok.eq ?_ (by simp -implicitDefEqProofs only [faP_ptr,p0,Option.bind_some,show bldS [(0,1),(1,1),(2,1)] [(AV.int .i64 0),(AV.int .i64 0),(AV.int .i64 0)] [(0,(AV.int .i64 s.pl)),(2,(AV.int .i64 (-1)))]=some (.agg (wyC s.pl 0 (-1))) from rfl]<;>rfl)
   refine H2.push (bytes:=24) rfl rfl rfl (by omega) (by omega) fun v' g4 H4 s4 n4=>?_
   refine(Ok.of (r:=(Ex.normal,[v',.int .i64 ((j+1:Nat):Int)],g4)) ⟨rfl,v',_,rfl,H4,s02.old s4 fun k hk=>.inl hk,.inr fun k hk=>?_⟩).eq (by
    simp -implicitDefEqProofs only [bin_add,Option.bind_some,suc64 j (by omega)])
   cases hk;omega
  have no:opn c s=false→Ok (lp (C4 x0 x1 (.int .i64 (i:Int)) (.ptr (some (g.next,0))) (.ptr (some (g1.next,0))) q (AV.int .i64 0) g2) fun e_128 vs_129 h130=>
    thenK (if (if e_128 = .exit 2 then .normal else e_128) = .exit 1 then .normal else(if e_128 = .exit 2 then .normal else e_128)) (
    (binP .add (.int .i64 (j:Int)) (AV.int .i64 1)).bind fun t42_131=>some (.normal,[(vs_129.getD 0 .bot),t42_131],h130)) (fun e_132=>some (e_132,[(vs_129.getD 0 .bot),.int .i64 (j:Int)],h130))) fun r=>r.1 = .normal∧∃ q' b',r.2.1 = [q',.int .i64 ((j+1:Nat):Int)]∧Ow g0 r.2.2 b' 3 q' (rows++(if opn c s then [wyC s.pl 0 (-1)] else if c.room=0 then lwP ol.length i s 0 xs else []))∧Same b.toList g r.2.2∧(b'=b∨∀ j,b'=some j→g.next≤j):=fun ho=>by
   rw [ho,if_neg (by simp)]
   refine ok_lp (lw_L1 (i:=i) hx lnc H2 b12 (by omega) b2 (by omega) (fun e=>by have:=bl _ e;omega) (fun e=>by have:=bl _ e;omega) hxs (by omega)) ?_
   rintro _ vs g4 ⟨rfl,b4,H4,s4,hb4⟩
   simp only at H4 s4 hb4
   refine(Ok.of (r:=(Ex.normal,[vs.getD 0 .bot,.int .i64 ((j+1:Nat):Int)],g4)) ⟨rfl,vs.getD 0 .bot,b4,rfl,H4,s02.trans s4,hb4.imp_right fun h k hk=>by have:=h k hk;omega⟩).eq (by
    simp -implicitDefEqProofs only [if_true,show(if Ex.normal=Ex.exit 1 then Ex.normal else Ex.normal)=Ex.normal from rfl,thenK_normal,bin_add,Option.bind_some,suc64 j (by omega)])
  cases hcd:c.closed
  ·cases hsd:s.sd
   ·by_cases hcm:0<c.count
    ·refine(yes (by unfold opn;rw [hcd,hsd,decide_eq_true hcm];rfl)).eq ?_
     rw [hcd] at c2;rw [hsd] at p1
     simp -implicitDefEqProofs only [faP_ptr,c2,p1,c0,c1,Option.bind_some,gdW_ff,gdW_ft,gdW_tt,gQ_true,gQ_false,cl_some,pickP_bool,un_not,Bool.not_false,bin_gtr,hcm,decide_true,if_true,if_false,Bool.false_eq_true,condE_true]
    ·refine(no (by unfold opn;rw [hcd,hsd,decide_eq_false hcm];rfl)).eq ?_
     rw [hcd] at c2;rw [hsd] at p1
     simp -implicitDefEqProofs only [faP_ptr,c2,p1,c0,c1,Option.bind_some,gdW_ff,gdW_ft,gdW_tt,gQ_true,gQ_false,cl_some,pickP_bool,un_not,Bool.not_false,bin_gtr,hcm,decide_false,if_true,if_false,Bool.false_eq_true,condE_false]
   ·by_cases hcm:c.count<c.room
    ·refine(yes (by unfold opn;rw [hcd,hsd,decide_eq_true hcm];rfl)).eq ?_
     rw [hcd] at c2;rw [hsd] at p1
     simp -implicitDefEqProofs only [faP_ptr,c2,p1,c0,c1,Option.bind_some,gdW_ff,gdW_tf,gdW_ft,gdW_tt,gdW_tup,gQ_true,gQ_false,cl_some,pickP_bool,un_not,Bool.not_true,bin_lss,hcm,decide_true,if_true,if_false,Bool.false_eq_true,condE_true]
    ·refine(no (by unfold opn;rw [hcd,hsd,decide_eq_false hcm];rfl)).eq ?_
     rw [hcd] at c2;rw [hsd] at p1
     simp -implicitDefEqProofs only [faP_ptr,c2,p1,c0,c1,Option.bind_some,gdW_ff,gdW_tf,gdW_ft,gdW_tt,gdW_tup,gQ_true,gQ_false,cl_some,pickP_bool,un_not,Bool.not_true,bin_lss,hcm,decide_false,if_true,if_false,Bool.false_eq_true,condE_false]
  ·refine(yes (by unfold opn;rw [hcd];rfl)).eq ?_
   rw [hcd] at c2
   simp -implicitDefEqProofs only [faP_ptr,c2,p1,c0,c1,Option.bind_some,gdW_ff,gdW_tf,gdW_ft,gdW_tt,gdW_tup,gQ_true,gQ_false,cl_some,pickP_bool,if_true,condE_true]
end
set_option linter.all false
attribute [local congr] c_bind c_cl c_mk c_lp c_clC c_gQ c_gV c_condE c_thenK
theorem inR_lt (n:Nat)(a:Int):inR n a<n:=by unfold inR;split<;>omega
theorem inR_lo (n:Nat)(a:Int) : -1≤inR n a:=by unfold inR;split<;>omega
theorem sideL_lt {n:Nat}{x:Go3}:∀ s∈sideL n x,s.ch<n:=by
 intro s hs
 have ha:=inR_lt n x.a
 have hb:=inR_lt n x.b
 unfold sideL at hs
 split at hs
 ·simp at hs;subst hs;exact ha
 ·split at hs
  ·simp at hs;subst hs;exact ha
  ·split at hs
   ·simp at hs;subst hs;exact hb
   ·split at hs
    ·simp at hs
     rcases hs with rfl | rfl
     ·exact ha
     ·exact hb
    ·cases hs
theorem lwP_row {n i:Nat}{s:Sd}:∀ {xs:List Go3} {k:Nat},∀ r∈lwP n i s k xs,r.length=3
 | [],k,r,h=>by simp [lwP] at h
 | y::xs,k,r,h=>by
  rw [lwP,List.mem_append] at h
  rcases h with h | h
  ·split at h
   ·cases h
   ·unfold lwP1 at h
    obtain⟨o,_,rfl⟩:=List.mem_map.1 h;rfl
  ·exact lwP_row r h
theorem lw1_row {ol:List One}{xs:List Go3}{i:Nat}{fn:Int}{s:Sd}:∀ r∈lw1 ol xs i fn s,r.length=3:=by
 intro r h
 unfold lw1 at h
 split at h
 ·split at h
  ·simp at h;subst h;rfl
  ·cases h
 ·split at h
  ·cases h
  ·split at h
   ·simp at h;subst h;rfl
   ·split at h
    ·exact lwP_row r h
    ·cases h
theorem lwL_row {ol:List One}{xs:List Go3}{i:Nat}{fn:Int}:∀ {ss:List Sd},∀ r∈lwL ol xs i fn ss,r.length=3
 | [],r,h=>by simp [lwL] at h
 | s::ss,r,h=>by
  rw [lwL,List.mem_append] at h
  exact h.elim (lw1_row r) (lwL_row r)
theorem lwL_len {ol:List One}{xs:List Go3}{i:Nat}{fn:Int}:∀ {ss:List Sd},(lwL ol xs i fn ss).length≤ss.length*(2*xs.length+1)
 | []=>by simp [lwL]
 | s::ss=>by
  have h:=lw1_len ol xs i fn s
  have:=lwL_len (ol:=ol) (xs:=xs) (i:=i) (fn:=fn) (ss:=ss)
  rw [lwL,List.length_append,List.length_cons,Nat.succ_mul];omega
section
variable {g:Heap}{i:Nat}{bc:Option Nat}{x0 x1 v:AV}{ol:List One}{xs:List Go3}{x:Go3}
theorem lw_L2 (hx:∀ g',Same [] g g'→GosRd g' x1 xs)(hcl:∀ g',Same [] g g'→Vw g' bc 3 x0 (ol.map One.row)){ob:Option Nat}{os:List Sd}(V:Vw g ob 3 v (os.map Sd.row))(hos:os.length≤2)(hlt:∀ s∈os,s.ch<ol.length)(hxs:xs.length≤8)(fn:Int) :
  Ok (EM x0 x1 (.int .i64 (i:Int)) (.int .i64 fn) v (.sl none 0 (.ex 0)) (.int .i64 0) g) fun r=>r.1 = .exit 0∧∃ b',Ow g r.2.2 b' 3 (r.2.1.getD 0 .bot) (lwL ol xs i fn os):=by
 refine ok_loop (fun m vs g2=>∃ (j:Nat) (q':AV) (b':Option Nat),vs = [q',.int .i64 (j:Int)]∧m+j=os.length∧Ow g g2 b' 3 q' (lwL ol xs i fn (os.take j))) ?_ (n:=os.length) (by omega) ⟨0,_,none,rfl,by omega,Ow.mt (Same.refl _ _)⟩
 rintro m vs g2 ⟨j,q',b',rfl,hm,H⟩
 rw [gd0,gd1]
 have V2:=V.keep H.same
 by_cases hi:j<os.length
 ·obtain⟨s,hs⟩:∃ s,os[j]?=some s:=⟨_,List.getElem?_eq_getElem hi⟩
  have et:os.take (j+1)=os.take j ++ [s]:=by rw [List.take_succ,hs];rfl
  have hl:=lwL_len (ol:=ol) (xs:=xs) (i:=i) (fn:=fn) (ss:=os.take j)
  have htl:(os.take j).length=j:=by rw [List.length_take];omega
  rw [htl] at hl
  have hb:j*(2*xs.length+1)≤2 * 17:=Nat.mul_le_mul (by omega) (by omega)
  refine(lw_step (i:=i) hx hcl H V2 hs (hlt s (List.mem_of_getElem? hs)) hxs (by omega) hos fn).mono fun r ⟨e,q2,b2,e2,H2,_,_⟩=>.inl ⟨e,m - 1,by omega,j+1,q2,b2,e2,by omega,?_⟩
  rw [et,lwL_app];exact H2
 ·have lnv:lnL v=some (.int .i64 os.length):=by have:=V.lnL;rwa [List.length_map] at this
  have hlt : ¬ (j:Int)<os.length:=by omega
  have e:os.take j=os:=List.take_of_length_le (by omega)
  rw [e] at H
  exact(Ok.of (r:=(Ex.exit 0,[q',.int .i64 (j:Int)],g2)) (.inr ⟨by simp,rfl,b',H⟩)).eq (by
   simp -implicitDefEqProofs only [CZ,lnv,bin_lss,hlt,decide_false,Option.bind_some,condE_false])
theorem lw_ok (hx:∀ g',Same [] g g'→GosRd g' x1 xs)(hcl:∀ g',Same [] g g'→Vw g' bc 3 x0 (ol.map One.row))(hi:xs[i]?=some x)(hxs:xs.length≤8) :
  Ok (Cp x0 x1 (.int .i64 (i:Int)) g) fun r=>Nw g r.2 3 r.1 (lwG ol xs i x):=by
 obtain⟨bb,oo,_,ix,la,ld⟩:=(hx g (Same.refl _ _)).at_ hi
 have f0:=ld 0 _ rfl
 have lnc:lnL x0=some (.int .i64 ol.length):=by have:=(hcl g (Same.refl _ _)).lnL;rwa [List.length_map] at this
 have fe:x.fn % 8 % 7=fnK x:=rfl
 have lo:=fnK_lo x
 refine Ok.eq ?_ (by simp -implicitDefEqProofs only [Cp,ix,faP_ptr,f0,Option.bind_some,and_7,rem_7,fe,eql_int,la]<;>rfl)
 unfold lwG
 generalize hf:fnK x=fn at *
 by_cases h06:fn=0∨fn=6
 ·rw [if_pos h06]
  have one:Ok ((bldS [(0,1),(1,1),(2,1)] [(AV.int .i64 0),(AV.int .i64 0),(AV.int .i64 0)] [(0,(AV.int .i64 (-1))),(2,(AV.int .i64 (-1)))]).bind fun t29=>
    mk Heap.new (bsP 3 [(AV.int .i64 0),(AV.int .i64 0),(AV.int .i64 0)] 1 [(0,t29)]) g fun t30 h3=>some (t30,h3)) fun r=>Nw g r.2 3 r.1 [wyC (-1) 0 (-1)]:=by
   refine Ok.eq ?_ (by rw [show bldS [(0,1),(1,1),(2,1)] [(AV.int .i64 0),(AV.int .i64 0),(AV.int .i64 0)] [(0,(AV.int .i64 (-1))),(2,(AV.int .i64 (-1)))]=some (.agg (wyC (-1) 0 (-1))) from rfl,Option.bind_some])
   exact ok_lit1 rfl rfl rfl fun g1 s1 n1 b1=>Ok.of (sd_one (i:=0) (Same.refl _ _) b1 n1 s1 rfl)
  rcases h06 with e | e
  ·exact one.eq (by simp -implicitDefEqProofs only [e,decide_true,Option.bind_some,gdW_tf,gQ_false,pickP_bool,if_true,condE_true]<;>rfl)
  ·exact one.eq (by simp -implicitDefEqProofs only [e,show decide ((6:Int)=0)=false from rfl,decide_true,Option.bind_some,gdW_ff,gQ_true,cl_some,pickP_bool,Bool.false_eq_true,if_false,condE_true]<;>rfl)
 ·rw [if_neg h06]
  have n0:decide (fn=0)=false:=decide_eq_false fun e=>h06 (.inl e)
  have n6:decide (fn=6)=false:=decide_eq_false fun e=>h06 (.inr e)
  refine Ok.eq ?_ (by simp -implicitDefEqProofs only [n0,n6,eql_int,la,Option.bind_some,gdW_ff,gQ_true,cl_some,pickP_bool,Bool.false_eq_true,if_false,condE_false]<;>rfl)
  refine ok_cl (sides_ok (x:=x) lnc) ?_
  rintro v g1 ⟨ob,V,s1,_⟩
  simp only at V s1
  refine ok_lp (lw_L2 (i:=i) (fun g' s=>hx g' (s1.trans s)) (fun g' s=>hcl g' (s1.trans s)) V (sideL_len _ x) sideL_lt hxs fn) ?_
  rintro _ vs g2 ⟨rfl,b2,H⟩
  simp only at H
  generalize hW:lwL ol xs i fn (sideL ol.length x)=W at *
  have hWr:∀ r∈W,r.length=3:=by rw [← hW];exact lwL_row
  have ln:=(H.S.vw hWr).lnL
  refine Ok.eq ?_ (by rw [if_pos rfl,thenK_normal])
  have nw:∀ {g':Heap} {v:AV} {rows:List (List AV)},Nw g1 g' 3 v rows→Nw g g' 3 v rows:=fun⟨b,V,s,h⟩=>⟨b,V,s1.trans s,fun j hj=>by have:=h j hj;have:=s1.next;omega⟩
  by_cases hz:W.length=0
  ·have hz':((W.length:Nat):Int)=0:=by omega
   by_cases h5:fn=5
   ·rw [if_pos ⟨hz,h5⟩]
    refine Ok.eq ?_ (by simp -implicitDefEqProofs only [ln,Option.bind_some,eql_int,decide_eq_true hz',decide_eq_true h5,gdW_tt,gQ_true,cl_some,pickP_bool,if_true,condE_true,show bldS [(0,1),(1,1),(2,1)] [(AV.int .i64 0),(AV.int .i64 0),(AV.int .i64 0)] [(0,(AV.int .i64 2)),(2,(AV.int .i64 (-1)))]=some (.agg (wyC 2 0 (-1))) from rfl]<;>rfl)
    have hW0:W = []:=List.eq_nil_of_length_eq_zero hz
    rw [hW0] at H
    refine H.push (bytes:=24) rfl rfl rfl (by omega) (by simp) fun v' g4 H4 s4 n4=>?_
    exact Ok.of (r:=((v',g4):AV × Heap)) (nw (H4.nw (by simp [wyC])))
   ·rw [if_neg fun h=>h5 h.2]
    exact ok_val (v:=vs.getD 0 .bot) (g:=g2) (by simp -implicitDefEqProofs only [ln,Option.bind_some,eql_int,decide_eq_true hz',decide_eq_false h5,gdW_tt,gQ_true,cl_some,pickP_bool,if_true,condE_false]) (nw (H.nw hWr))
  ·have hz' : ¬ ((W.length:Nat):Int)=0:=by omega
   rw [if_neg fun h=>hz h.1]
   exact ok_val (v:=vs.getD 0 .bot) (g:=g2) (by simp -implicitDefEqProofs only [ln,Option.bind_some,eql_int,decide_eq_false hz',gdW_ft,gQ_false,pickP_bool,Bool.false_eq_true,if_false,condE_false]) (nw (H.nw hWr))
end
set_option linter.all false
def oneC (x:Int × Chan):One:=⟨x.2.room,x.2.count,decide (x.2.closed≠0)⟩
def adI (cs:CnL)(a:Int):Int:=if a < 0 then 0 else((cs[a.toNat]?).map Prod.fst).getD 0
def gkS (cs:CnL)(x:Go3):Gk:=⟨fnK x,adI cs x.a,adI cs x.b,7⟩
def toOf (cs:CnL)(s:Sd):Of:=⟨s.pl,s.sd,adI cs s.ch,decide (0≤s.ch)⟩
section
variable {l:PAl}{cs:CnL}
theorem adI_in {a:Int}(h0:0≤a)(h1:a<cs.length):∃ c,cs[a.toNat]?=some c∧c∈cs∧adI cs a=c.1:=by
 obtain⟨c,hc⟩:∃ c,cs[a.toNat]?=some c:=⟨_,List.getElem?_eq_getElem (by omega)⟩
 exact⟨c,hc,List.mem_of_getElem? hc,by unfold adI;rw [if_neg (by omega),hc];rfl⟩
theorem adI_out {a:Int}(h:a < 0∨(cs.length:Int)≤a):adI cs a=0:=by
 unfold adI
 split
 ·rfl
 ·rw [List.getElem?_eq_none (by omega)];rfl
theorem adI_inR (a:Int):adI cs (inR cs.length a)=adI cs a:=by
 unfold inR
 split
 ·rename_i h;rw [adI_out (.inl (by omega)),adI_out h]
 ·rfl
theorem isC_adI (W:Wf l.ar)(H:ChL l cs)(a:Int):isC l (adI cs a) false=decide (0≤inR cs.length a):=by
 by_cases h:a < 0∨(cs.length:Int)≤a
 ·rw [adI_out h,isC_zero W];unfold inR;rw [if_pos h];rfl
 ·obtain⟨c,_,hm,e⟩:=adI_in (cs:=cs) (a:=a) (by omega) (by omega)
  rw [e,isC_mem W H hm];unfold inR;rw [if_neg h,decide_eq_true (by omega)];rfl
theorem isC_adI' (W:Wf l.ar)(H:ChL l cs)(a:Int):isC l (adI cs a) true=false:=by
 by_cases h:a < 0∨(cs.length:Int)≤a
 ·rw [adI_out h,isC_zero W]
 ·obtain⟨c,_,hm,e⟩:=adI_in (cs:=cs) (a:=a) (by omega) (by omega)
  rw [e,isC_mem W H hm];rfl
theorem offS (W:Wf l.ar)(H:ChL l cs){x:Go3}(h6:fnK x≠6):offL l (gkS cs x)=(sideL cs.length x).map (toOf cs):=by
 have lo:=fnK_lo x
 have ef:(gkS cs x).fn=fnK x:=rfl
 have ea:(gkS cs x).a=adI cs x.a:=rfl
 have eb:(gkS cs x).b=adI cs x.b:=rfl
 unfold offL sideL
 rw [ef,ea,eb,isC_adI W H,isC_adI W H,isC_adI' W H,isC_adI' W H]
 rcases (by omega:fnK x=0∨fnK x=1∨fnK x=2∨fnK x=3∨fnK x=4∨fnK x=5) with e | e | e | e | e | e<;>rw [e]<;>simp [toOf,adI_inR]
theorem off6 (W:Wf l.ar)(H:ChL l cs){x:Go3}(h6:fnK x=6):offL l (gkS cs x) = [⟨-1,false,adI cs x.a,false⟩]∧sideL cs.length x = []:=by
 have ef:(gkS cs x).fn=fnK x:=rfl
 have ea:(gkS cs x).a=adI cs x.a:=rfl
 refine⟨?_,?_⟩
 ·unfold offL
  rw [ef,h6,ea,isC_adI' W H];rfl
 ·unfold sideL
  rw [h6];rfl
theorem sideL_lo {n:Nat}{x:Go3}:∀ s∈sideL n x,-1≤s.ch∧s.ch<n∧(s.pl = -1↔fnK x < 4):=by
 intro s hs
 have lo:=fnK_lo x
 have a1:=inR_lt n x.a
 have a2:=inR_lo n x.a
 have b1:=inR_lt n x.b
 have b2:=inR_lo n x.b
 unfold sideL at hs
 split at hs
 ·simp at hs;subst hs;exact⟨a2,a1,by simp;omega⟩
 ·split at hs
  ·simp at hs;subst hs;exact⟨a2,a1,by simp;omega⟩
  ·split at hs
   ·simp at hs;subst hs;exact⟨b2,b1,by simp;omega⟩
   ·split at hs
    ·simp at hs
     rcases hs with rfl | rfl
     ·exact⟨a2,a1,by simp;omega⟩
     ·exact⟨b2,b1,by simp;omega⟩
    ·cases hs
theorem nd_ix (H:ChL l cs){i j:Nat}{c d:Int × Chan}(hi:cs[i]?=some c)(hj:cs[j]?=some d)(e:c.1=d.1):i=j:=by
 have hn:=H.nd
 have i1:(cs.map Prod.fst)[i]?=some c.1:=by rw [List.getElem?_map,hi];rfl
 have j1:(cs.map Prod.fst)[j]?=some c.1:=by rw [List.getElem?_map,hj,e];rfl
 have li:=(List.getElem?_eq_some_iff.1 i1).1
 exact(List.getElem?_inj li hn).1 (i1.trans j1.symm)
theorem fits_eq (H:ChL l cs){s o:Sd}(hs0:0≤s.ch)(hs1:s.ch<cs.length)(ho : -1≤o.ch∧o.ch<cs.length):fitsO (toOf cs s) (toOf cs o)=fitsS s o:=by
 have e1:fitsO (toOf cs s) (toOf cs o)=(decide (0≤o.ch) && decide (adI cs o.ch=adI cs s.ch) && (o.sd != s.sd)):=rfl
 have e2:fitsS s o=(decide (o.ch=s.ch) && (o.sd != s.sd)):=rfl
 rw [e1,e2]
 congr 1
 by_cases h0:0≤o.ch
 ·rw [decide_eq_true h0,Bool.true_and]
  obtain⟨c,hc,_,ec⟩:=adI_in (cs:=cs) hs0 hs1
  obtain⟨d,hd,_,ed⟩:=adI_in (cs:=cs) h0 ho.2
  rw [ec,ed]
  by_cases h:o.ch=s.ch
  ·rw [decide_eq_true h]
   rw [h,hc] at hd
   cases hd
   exact decide_eq_true rfl
  ·rw [decide_eq_false h]
   refine decide_eq_false fun e=>h ?_
   have:=nd_ix H hd hc e
   omega
 ·rw [decide_eq_false h0,Bool.false_and,decide_eq_false (by omega)]
theorem prt_eq (W:Wf l.ar)(H:ChL l cs){s:Sd}(hs0:0≤s.ch)(hs1:s.ch<cs.length)(p:Int)(y:Go3):prt1 (toOf cs s) p (offL l (gkS cs y))=lwP1 s p (sideL cs.length y):=by
 by_cases h6:fnK y=6
 ·obtain⟨e1,e2⟩:=off6 W H h6
  rw [e1,e2]
  have:fitsO (toOf cs s) ⟨-1,false,adI cs y.a,false⟩=false:=rfl
  unfold prt1 lwP1
  rw [List.filter_cons_of_neg (by rw [this];simp)];rfl
 ·rw [offS W H h6]
  unfold prt1 lwP1
  rw [List.filter_map,List.map_map]
  have hf:(sideL cs.length y).filter (fitsO (toOf cs s) ∘ toOf cs)=(sideL cs.length y).filter (fitsS s):=by
   refine List.filter_congr fun o ho=>?_
   have:=sideL_lo o ho
   exact fits_eq H hs0 hs1 ⟨this.1,this.2.1⟩
  rw [hf];rfl
theorem prtI_eq (W:Wf l.ar)(H:ChL l cs){s:Sd}(hs0:0≤s.ch)(hs1:s.ch<cs.length)(i:Nat):∀ (xs:List Go3) (k:Nat),prtI l ((i+1:Nat):Int) (toOf cs s) k (xs.map (gkS cs))=lwP cs.length i s k xs
 | [],k=>rfl
 | y::xs,k=>by
  rw [List.map_cons,prtI,lwP,prtI_eq W H hs0 hs1 i xs (k+1),prt_eq W H hs0 hs1]
  congr 1
  by_cases h:k=i
  ·rw [if_pos h,if_pos (by omega)]
  ·rw [if_neg h,if_neg (by omega)]
theorem way_eq (W:Wf l.ar)(H:ChL l cs){xs:List Go3}{x:Go3}{s:Sd}(hs:s∈sideL cs.length x)(i:Nat):wayO l (xs.map (gkS cs)) (stC cs) ((i+1:Nat):Int) (toOf cs s)=lw1 (cs.map oneC) xs i (fnK x) s:=by
 obtain⟨s1,s2,s3⟩:=sideL_lo s hs
 have ek:(toOf cs s).ok=decide (0≤s.ch):=rfl
 have ep:(toOf cs s).pl=s.pl:=rfl
 have ed:(toOf cs s).sd=s.sd:=rfl
 have ead:(toOf cs s).ad=adI cs s.ch:=rfl
 unfold wayO lw1
 by_cases h0:s.ch < 0
 ·rw [if_pos h0,ek,decide_eq_false (by omega),if_pos rfl,ep]
  by_cases h:fnK x < 4
  ·rw [if_pos h,if_pos (s3.2 h),s3.2 h]
  ·rw [if_neg h,if_neg fun e=>h (s3.1 e)]
 ·obtain⟨c,hc,hm,ec⟩:=adI_in (cs:=cs) (a:=s.ch) (by omega) s2
  have hst:=stC_mem H hm
  rw [if_neg h0,ek,decide_eq_true (by omega),if_neg (by simp),ead,ec,hst,List.getElem?_map,hc]
  simp only [Option.map_some,ep,ed]
  have ho:(opn (oneC c) s=true)↔(c.2.closed≠0∨(s.sd=true∧c.2.count<c.2.room)∨(s.sd=false∧0<c.2.count)):=by
   unfold opn oneC
   simp only [Bool.or_eq_true,Bool.and_eq_true,decide_eq_true_eq,Bool.not_eq_true',or_assoc]
  by_cases h:opn (oneC c) s=true
  ·rw [if_pos h,if_pos (ho.1 h)]
  ·rw [if_neg h,if_neg fun e=>h (ho.2 e)]
   rw [prtI_eq W H (by omega) s2,List.length_map];rfl
theorem waysL_eq (W:Wf l.ar)(H:ChL l cs){xs:List Go3}{x:Go3}(i:Nat):∀ ss:List Sd,(∀ s∈ss,s∈sideL cs.length x)→waysL l (xs.map (gkS cs)) (stC cs) ((i+1:Nat):Int) (ss.map (toOf cs))=lwL (cs.map oneC) xs i (fnK x) ss
 | [],_=>rfl
 | s::ss,h=>by
  rw [List.map_cons,waysL,lwL,way_eq W H (h s (List.mem_cons_self ..)),waysL_eq W H i ss fun t ht=>h t (List.mem_cons_of_mem _ ht)]
theorem waysG_eq (W:Wf l.ar)(H:ChL l cs){xs:List Go3}(x:Go3)(i:Nat):waysG l (xs.map (gkS cs)) (stC cs) ((i+1:Nat):Int) (gkS cs x)=lwG (cs.map oneC) xs i x:=by
 have ef:(gkS cs x).fn=fnK x:=rfl
 have es:stdK (gkS cs x)=if fnK x=5 then 2 else -1:=rfl
 by_cases h0:fnK x=0
 ·unfold waysG lwG
  rw [ef,if_pos h0,if_pos (.inl h0)]
 have e1:waysG l (xs.map (gkS cs)) (stC cs) ((i+1:Nat):Int) (gkS cs x)=if (waysL l (xs.map (gkS cs)) (stC cs) ((i+1:Nat):Int) (offL l (gkS cs x))).length=0∧stdK (gkS cs x)≠-1 then [wyC (stdK (gkS cs x)) 0 (-1)] else waysL l (xs.map (gkS cs)) (stC cs) ((i+1:Nat):Int) (offL l (gkS cs x)):=by
  unfold waysG
  rw [if_neg (by rw [ef];exact h0)]
 rw [e1]
 by_cases h6:fnK x=6
 ·obtain⟨e2,_⟩:=off6 W H h6
  have:waysL l (xs.map (gkS cs)) (stC cs) ((i+1:Nat):Int) [⟨-1,false,adI cs x.a,false⟩] = [wyC (-1) 0 (-1)]:=rfl
  rw [e2,this,if_neg fun h=>by simp at h]
  unfold lwG
  rw [if_pos (.inr h6)]
 have e2:lwG (cs.map oneC) xs i x=if (lwL (cs.map oneC) xs i (fnK x) (sideL cs.length x)).length=0∧fnK x=5 then [wyC 2 0 (-1)] else lwL (cs.map oneC) xs i (fnK x) (sideL cs.length x):=by
  unfold lwG
  rw [if_neg fun h=>h.elim h0 h6,List.length_map]
 rw [e2,offS W H h6,waysL_eq W H i _ fun s h=>h]
 by_cases h5:fnK x=5
 ·have e3:stdK (gkS cs x)=2:=by rw [es,if_pos h5]
  rw [e3]
  by_cases hz:(lwL (cs.map oneC) xs i (fnK x) (sideL cs.length x)).length=0
  ·rw [if_pos ⟨hz,by decide⟩,if_pos ⟨hz,h5⟩]
  ·rw [if_neg fun h=>hz h.1,if_neg fun h=>hz h.1]
 ·have e3:stdK (gkS cs x) = -1:=by rw [es,if_neg h5]
  rw [e3,if_neg fun h=>h.2 rfl,if_neg fun h=>h5 h.2]
theorem gkS_st (W:Wf l.ar)(H:ChL l cs){xs:List Go3}:∀ x∈xs.map (gkS cs),∀ o∈offL l x,o.ok=true→∃ c,stC cs o.ad=some c∧Chn l o.ad c:=by
 intro g hg o ho hk
 obtain⟨x,_,rfl⟩:=List.mem_map.1 hg
 by_cases h6:fnK x=6
 ·rw [(off6 W H h6).1,List.mem_singleton] at ho
  subst ho;cases hk
 ·rw [offS W H h6] at ho
  obtain⟨s,hs,rfl⟩:=List.mem_map.1 ho
  obtain⟨s1,s2,_⟩:=sideL_lo s hs
  have h0:0≤s.ch:=of_decide_eq_true hk
  obtain⟨c,_,hm,ec⟩:=adI_in (cs:=cs) h0 s2
  have e:(toOf cs s).ad=c.1:=ec
  rw [e]
  exact⟨c.2,stC_mem H hm,⟨H.at_ c hm⟩⟩
end
end Go.Ab.F
