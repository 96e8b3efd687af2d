import Derived.Test.YtdmgkkcjnmmfmaaGreatQuFn
import Derived.Test.YtdmgkkcjnmmfmaaGreatKit
namespace Go.Ab.F
open Go Go.Ab
set_option linter.all false
attribute [local congr] BI D1 Dy D2 Bu D3 Dz Aw Av
theorem gD0 (a:AV)(l:List AV):(a::l).getD 0 .bot=a:=rfl
theorem gD1 (a b:AV)(l:List AV):(a::b::l).getD 1 .bot=b:=rfl
theorem gD2 (a b c:AV)(l:List AV):(a::b::c::l).getD 2 .bot=c:=rfl
theorem gD3 (a b c d:AV)(l:List AV):(a::b::c::d::l).getD 3 .bot=d:=rfl
theorem suc64 (i:Nat)(h:i < 9223372036854775807):IntKind.i64.wrap ((i:Int)+1)=((i+1:Nat):Int):=by rw [B9 (by omega) (by omega)];rfl
theorem mxl:maxLen=9223372036854775807:=by decide
structure MdB (g:Heap)(p:Nat)(m:Md)(sv gv kv cv fv:AV):Prop where
 at_:∃ w,g.get p=some (.cells w [sv,gv,kv,cv,fv,.int .i64 m.main])
 lt:p<g.next
 rd:MdRd g (.agg [sv,gv,kv,cv,fv,.int .i64 m.main]) m
 sh:RwC g 3 sv m.shapes
 gl:RdW g 1 gv (m.globals.map AV.bool) m.globals.length
 ks:RdW g 1 kv (m.consts.map (AV.int .i64)) m.consts.length
 cs:RwC g 4 cv (m.cases.map Cas.row)
 fs:FnsRd g fv m.funcs
theorem MdRd.box {h:Heap}{v:AV}{m:Md}(H:MdRd h v m):∃ sv gv kv cv fv,v = .agg [sv,gv,kv,cv,fv,.int .i64 m.main]∧
  bxP v=some (.cells true [sv,gv,kv,cv,fv,.int .i64 m.main],fun i=>.ptr (some (i,0)))∧MdB (h.new (.cells true [sv,gv,kv,cv,fv,.int .i64 m.main])) h.next m sv gv kv cv fv:=by
 have H0:=H
 obtain⟨sv,gv,kv,cv,fv,rfl,h1,h2,h3,h4,h5,h6⟩:=H
 have s:Same [] h (h.new (.cells true [sv,gv,kv,cv,fv,.int .i64 m.main])):=Same.new _ _
 have mo:∀ j,j<h.next→(h.new (.cells true [sv,gv,kv,cv,fv,.int .i64 m.main])).get j=h.get j:=fun j hj=>s.get j hj (by simp)
 refine⟨sv,gv,kv,cv,fv,rfl,GL ?_,⟨true,Am⟩,Nat.lt_succ_self _,H0.mono s.next mo,h1.mono s.next mo,h2.mono s.next mo,h3.mono s.next mo,h4.mono s.next mo,h5.mono s.next mo⟩
 simp only [List.all_cons,List.all_nil,h1.sc,h2.sc,h3.sc,h4.sc,h5.sc,Bool.and_true,Bool.and_self];rfl
theorem MdB.mono {g g':Heap}{p:Nat}{m:Md}{sv gv kv cv fv:AV}(H:MdB g p m sv gv kv cv fv)(s:Same [] g g'):MdB g' p m sv gv kv cv fv:=by
 have mo:∀ j,j<g.next→g'.get j=g.get j:=fun j hj=>s.get j hj (by simp)
 obtain⟨⟨w,h1⟩,h2,h3,h4,h5,h6,h7,h8⟩:=H
 exact⟨⟨w,by rw [mo p h2];exact h1⟩,Nat.lt_of_lt_of_le h2 s.next,h3.mono s.next mo,h4.mono s.next mo,h5.mono s.next mo,h6.mono s.next mo,h7.mono s.next mo,h8.mono s.next mo⟩
section
variable {g:Heap}{p:Nat}{m:Md}{sv gv kv cv fv:AV}(H:MdB g p m sv gv kv cv fv)
include H
theorem MdB.l0:ldS g (.ptr (some (p,0+0)))=some sv:=by obtain⟨w,h⟩:=H.at_;rw [Ai h];rfl
theorem MdB.l1:ldS g (.ptr (some (p,0+1)))=some gv:=by obtain⟨w,h⟩:=H.at_;rw [Ai h];rfl
theorem MdB.l2:ldS g (.ptr (some (p,0+2)))=some kv:=by obtain⟨w,h⟩:=H.at_;rw [Ai h];rfl
theorem MdB.l3:ldS g (.ptr (some (p,0+3)))=some cv:=by obtain⟨w,h⟩:=H.at_;rw [Ai h];rfl
theorem MdB.l4:ldS g (.ptr (some (p,0+4)))=some fv:=by obtain⟨w,h⟩:=H.at_;rw [Ai h];rfl
theorem MdB.la:ldA 6 g (.ptr (some (p,0)))=some (.agg [sv,gv,kv,cv,fv,.int .i64 m.main]):=by obtain⟨w,h⟩:=H.at_;rw [Eo h];rfl
theorem MdB.ln0:lnL sv=some (.int .i64 m.shapes.length):=H.sh.lnL
theorem MdB.ln1:lnL gv=some (.int .i64 m.globals.length):=H.gl.lnL
theorem MdB.ln2:lnL kv=some (.int .i64 m.consts.length):=H.ks.lnL
theorem MdB.ln3:lnL cv=some (.int .i64 m.cases.length):=by have:=H.cs.lnL;rwa [List.length_map] at this
theorem MdB.ln4:lnL fv=some (.int .i64 m.funcs.length):=by
 obtain⟨rows,h1,h2,_⟩:=H.fs
 rw [h1.lnL,h2]
theorem MdB.bnd:m.funcs.length≤maxLen∧m.cases.length≤maxLen:=by
 obtain⟨_,_,_,_,_,_,_,_,_,_,_,_,_,_,h1,h2,_⟩:=H.rd
 exact⟨h2,h1⟩
theorem MdB.fn {i:Nat}{f:Fn}(hf:m.funcs[i]?=some f):∃ b o kv' cv' mv',b<g.next∧(∀ k,iaS 7 fv (.int k (i:Int))=some (.ptr (some (b,o))))∧
  FnRd g [.int .i64 f.pa,.int .i64 f.ca,.int .i64 f.sl,.int .i64 f.re,kv',cv',mv'] f∧
  ldA 7 g (.ptr (some (b,o)))=some (.agg [.int .i64 f.pa,.int .i64 f.ca,.int .i64 f.sl,.int .i64 f.re,kv',cv',mv'])∧
  ldS g (.ptr (some (b,o+4)))=some kv'∧ldS g (.ptr (some (b,o+5)))=some cv'∧ldS g (.ptr (some (b,o+6)))=some mv'∧
  lnL kv'=some (.int .i64 f.kinds.length)∧lnL cv'=some (.int .i64 f.code.length)∧lnL mv'=some (.int .i64 f.maps.length):=by
 obtain⟨rows,h1,h2,h3⟩:=H.fs
 have hi:=(List.getElem?_eq_some_iff.1 hf).1
 obtain⟨r,hr⟩:∃ r,rows[i]?=some r:=⟨_,List.getElem?_eq_getElem (by omega)⟩
 have hfr:=h3 i r f hr hf
 obtain⟨b,o,hb,hix,hla,hls⟩:=h1.at hr
 have hfr0:=hfr
 obtain⟨kv',cv',mv',rfl,e1,e2,e3,_⟩:=hfr
 have:=e2.lnL
 rw [List.length_map] at this
 exact⟨b,o,kv',cv',mv',hb,hix,hfr0,hla,hls 4 _ rfl,hls 5 _ rfl,hls 6 _ rfl,e1.lnL,this,e3.lnL⟩
end
def Small (m:Md):Prop:=m.funcs.length≤20∧m.cases.length≤60∧(∀ (i:Nat) f,m.funcs[i]?=some f→f.code.length≤200∧f.maps.length≤300∧f.kinds.length≤100)∧m.shapes.length≤40∧m.globals.length≤300∧m.consts.length≤100
theorem QF {g:Heap}{p:Nat}{m:Md}{sv gv kv cv fv:AV}(H:MdB g p m sv gv kv cv fv) :
  Ok (IH (.ptr (some (p,0))) (.bool false) (.int .i64 0) g) fun r=>r.2.2=g∧((r.1 = .exit 0∧∀ (i:Nat) f,m.funcs[i]?=some f→f.code.length≤200∧f.maps.length≤300∧f.kinds.length≤100)∨(r.1 = .ret∧r.2.1.getD 0 .bot = .bool true)):=by
 have hm:=H.bnd
 rw [mxl] at hm
 refine BF (fun n vs h=>∃ i:Nat,vs = [.bool false,.int .i64 i]∧h=g∧n+i=m.funcs.length∧∀ (j:Nat) f,j<i→m.funcs[j]?=some f→f.code.length≤200∧f.maps.length≤300∧f.kinds.length≤100) ?_ (n:=m.funcs.length) (by omega)
  ⟨0,rfl,rfl,rfl,fun j f hj=>by omega⟩
 rintro n vs h ⟨i,rfl,rfl,hn,hall⟩
 rw [gD0,gD1]
 by_cases hi:i<m.funcs.length
 ·obtain⟨f,hf⟩:∃ f,m.funcs[i]?=some f:=⟨_,List.getElem?_eq_getElem hi⟩
  obtain⟨b,o,kv',cv',mv',hb,hix,hfr,hla,s4,s5,s6,n4,n5,n6⟩:=H.fn hf
  have hi':(i:Int)<m.funcs.length:=by omega
  have bad:∀ x,x=(AV.bool true)→Ok (some (Ex.ret,[x,AV.int .i64 (i:Int)],h)) fun r=>(r.1 = .normal∧∃ m',m'<n∧∃ i:Nat,r.2.1 = [.bool false,.int .i64 i]∧r.2.2=h∧m'+i=m.funcs.length∧∀ (j:Nat) f,j<i→m.funcs[j]?=some f→f.code.length≤200∧f.maps.length≤300∧f.kinds.length≤100)∨(r.1≠.normal∧r.2.2=h∧((r.1 = .exit 0∧∀ (i:Nat) f,m.funcs[i]?=some f→f.code.length≤200∧f.maps.length≤300∧f.kinds.length≤100)∨(r.1 = .ret∧r.2.1.getD 0 .bot = .bool true))):=fun x hx=>Ok.of (.inr ⟨by simp,rfl,.inr ⟨rfl,hx⟩⟩)
  by_cases c1:(200:Int)<f.code.length
  ·exact(bad _ rfl).eq (by simp -implicitDefEqProofs only [Dp,AF,H.l4,H.ln4,Option.bind_some,AG,hi',decide_true,AB,hix,s5,n5,AR,c1,AY,AL,AD,AC,if_true])
  ·by_cases c2:(300:Int)<f.maps.length
   ·exact(bad _ rfl).eq (by simp -implicitDefEqProofs only [Dp,AF,H.l4,H.ln4,Option.bind_some,AG,hi',decide_true,decide_false,AB,hix,s5,n5,s6,n6,AR,c1,c2,AY,AX,AL,AD,AH,AE,AC,Bool.false_eq_true,if_false,if_true])
   ·by_cases c3:(100:Int)<f.kinds.length
    ·exact(bad _ rfl).eq (by simp -implicitDefEqProofs only [Dp,AF,H.l4,H.ln4,Option.bind_some,AG,hi',decide_true,decide_false,AB,hix,s4,n4,s5,n5,s6,n6,AR,c1,c2,c3,AY,AX,AL,AD,AH,AE,AC,Bool.false_eq_true,if_false,if_true])
    ·refine(Ok.of (r:=(.normal,[.bool false,.int .i64 ((i+1:Nat):Int)],h)) (.inl ⟨rfl,n - 1,by omega,i+1,rfl,rfl,by omega,fun j f' hj hf'=>?_⟩)).eq (by
      simp -implicitDefEqProofs only [Dp,AF,H.l4,H.ln4,Option.bind_some,AG,hi',decide_true,decide_false,AB,AA,hix,s4,n4,s5,n5,s6,n6,AR,c1,c2,c3,AY,AX,AL,AD,AH,AE,AC,Bool.false_eq_true,if_false,Ap,suc64 i (by omega)])
     rcases (by omega:j<i∨j=i) with hj | rfl
     ·exact hall j f' hj hf'
     ·rw [hf] at hf';cases hf';omega
 ·have hi' : ¬ (i:Int)<m.funcs.length:=by omega
  refine(Ok.of (r:=(.exit 0,[.bool false,.int .i64 (i:Int)],h)) (.inr ⟨by simp,rfl,.inl ⟨rfl,fun j f hf=>?_⟩⟩)).eq (by
   simp -implicitDefEqProofs only [Dp,AF,H.l4,H.ln4,Option.bind_some,AG,hi',decide_false,AA])
  have:=(List.getElem?_eq_some_iff.1 hf).1
  exact hall j f (by omega) hf
theorem SF {h:Heap}{v:AV}{m:Md}(H:MdRd h v m):Ok (DI v h) fun r=>Same [] h r.2∧∃ b,r.1 = .bool b∧(b=false→Small m):=by
 obtain⟨sv,gv,kv,cv,fv,rfl,hbx,B⟩:=H.box
 have s:Same [] h (h.new (.cells true [sv,gv,kv,cv,fv,.int .i64 m.main])):=Same.new _ _
 generalize hg:h.new (.cells true [sv,gv,kv,cv,fv,.int .i64 m.main])=g at *
 have l0:=B.l0
 have bad:Ok (some (AV.bool true,g)) fun r=>Same [] h r.2∧∃ b,r.1 = .bool b∧(b=false→Small m):=Ok.of ⟨s,true,rfl,fun h=>by cases h⟩
 by_cases c1:(40:Int)<m.shapes.length
 ·exact bad.eq (by simp -implicitDefEqProofs only [DI,hbx,Af,hg,AF,B.l0,B.ln0,Option.bind_some,AR,c1,decide_true,AY,AL,AD,AC,if_true,AB])
 by_cases c2:(300:Int)<m.globals.length
 ·exact bad.eq (by simp -implicitDefEqProofs only [DI,hbx,Af,hg,AF,B.l0,B.ln0,B.l1,B.ln1,Option.bind_some,AR,c1,c2,decide_true,decide_false,AY,AX,AL,AD,AH,AE,AC,Bool.false_eq_true,if_false,if_true,AB])
 by_cases c3:(100:Int)<m.consts.length
 ·exact bad.eq (by simp -implicitDefEqProofs only [DI,hbx,Af,hg,AF,B.l0,B.ln0,B.l1,B.ln1,B.l2,B.ln2,Option.bind_some,AR,c1,c2,c3,decide_true,decide_false,AY,AX,AL,AD,AH,AE,AC,Bool.false_eq_true,if_false,if_true,AB])
 by_cases c4:(60:Int)<m.cases.length
 ·exact bad.eq (by simp -implicitDefEqProofs only [DI,hbx,Af,hg,AF,B.l0,B.ln0,B.l1,B.ln1,B.l2,B.ln2,B.l3,B.ln3,Option.bind_some,AR,c1,c2,c3,c4,decide_true,decide_false,AY,AX,AL,AD,AH,AE,AC,Bool.false_eq_true,if_false,if_true,AB])
 by_cases c5:(20:Int)<m.funcs.length
 ·exact bad.eq (by simp -implicitDefEqProofs only [DI,hbx,Af,hg,AF,B.l0,B.ln0,B.l1,B.ln1,B.l2,B.ln2,B.l3,B.ln3,B.l4,B.ln4,Option.bind_some,AR,c1,c2,c3,c4,c5,decide_true,decide_false,AY,AX,AL,AD,AH,AE,AC,Bool.false_eq_true,if_false,if_true,AB])
 refine Ok.eq ?_ (by simp -implicitDefEqProofs only [DI,hbx,Af,hg,AF,B.l0,B.ln0,B.l1,B.ln1,B.l2,B.ln2,B.l3,B.ln3,B.l4,B.ln4,Option.bind_some,AR,c1,c2,c3,c4,c5,decide_true,decide_false,AY,AX,AL,AD,AH,AE,AC,Bool.false_eq_true,if_false,if_true,AA];rfl)
 refine CJ (QF B) ?_
 rintro e vs g' ⟨hg',hr⟩
 simp only at hg' hr
 subst hg'
 rcases hr with⟨rfl,hr⟩ | ⟨rfl,hr⟩
 ·exact Ok.of (r:=(AV.bool false,g')) ⟨s,false,rfl,fun _=>⟨by omega,by omega,hr,by omega,by omega,by omega⟩⟩
 ·rw [hr]
  exact Ok.of (r:=(AV.bool true,g')) ⟨s,true,rfl,fun h=>by cases h⟩
def wI (l:List Int):List AV:=l.map (AV.int .i64)
theorem ND (l:List Int):(wI l).all scalar=true:=by simp [wI,scalar]
theorem EM (l:List Int):(wI l).length=l.length:=by simp [wI]
def CapL (n:Nat):Cap→Prop
 | .ex k=>n≤k
 | .un s=>s=1
structure Lst (h g:Heap)(v:AV)(l:List Int):Prop where
 same:Same [] h g
 eq:(v = .sl none 0 (.ex 0)∧l = [])∨∃ b c rest,v = .sl (some (b,0)) l.length c∧h.next≤b∧b<g.next∧CapL l.length c∧g.get b=some (.cells true (wI l++rest))∧rest.all scalar=true
theorem Lst.mt {h g:Heap}(s:Same [] h g):Lst h g (.sl none 0 (.ex 0)) []:=⟨s,.inl ⟨rfl,rfl⟩⟩
theorem Lst.lnL {h g:Heap}{v:AV}{l:List Int}(H:Lst h g v l):Go.Ab.lnL v=some (.int .i64 l.length):=by
 rcases H.eq with⟨rfl,rfl⟩ | ⟨b,c,rest,rfl,_⟩
 ·rfl
 ·simp
theorem Lst.at {h g:Heap}{v:AV}{l:List Int}(H:Lst h g v l){i:Nat}{x:Int}(hx:l[i]?=some x) :
  ∃ b,h.next≤b∧b<g.next∧(∀ k,iaS 1 v (.int k (i:Int))=some (.ptr (some (b,i))))∧ldS g (.ptr (some (b,i)))=some (.int .i64 x):=by
 have hi:=(List.getElem?_eq_some_iff.1 hx).1
 rcases H.eq with⟨rfl,rfl⟩ | ⟨b,c,rest,rfl,h1,h2,h3,h4,_⟩
 ·simp at hx
 ·refine⟨b,h1,h2,fun k=>?_,?_⟩
  ·rw [E7 1 (b,0) _ _ k _ ⟨by omega,by omega⟩];simp
  ·rw [Ai h4,List.getElem?_append_left (by rw [EM];exact hi)]
   simp [wI,hx]
theorem Lst.rd {h g:Heap}{v:AV}{l:List Int}(H:Lst h g v l):RdW g 1 v (wI l) l.length:=by
 refine⟨by simp [wI],?_⟩
 rcases H.eq with⟨rfl,rfl⟩ | ⟨b,c,rest,rfl,h1,h2,h3,h4,_⟩
 ·exact .inl ⟨rfl,rfl⟩
 ·exact .inr ⟨b,0,c,rfl,h2,fun _=>⟨true,[],rest,rfl,by simpa using h4⟩⟩
theorem Lst.keep {h g g':Heap}{v:AV}{l:List Int}(H:Lst h g v l)(s:Same [] g g'):Lst h g' v l:=by
 refine⟨H.same.trans s,?_⟩
 rcases H.eq with e | ⟨b,c,rest,rfl,h1,h2,h3,h4,h5⟩
 ·exact .inl e
 ·exact .inr ⟨b,c,rest,rfl,h1,Nat.lt_of_lt_of_le h2 s.next,h3,by rw [s.get b h2 (by simp)];exact h4,h5⟩
theorem Lst.old {h0 h g:Heap}{v:AV}{l:List Int}(H:Lst h g v l)(s:Same [] h0 h):Lst h0 g v l:=by
 refine⟨s.trans H.same,?_⟩
 rcases H.eq with e | ⟨b,c,rest,rfl,h1,h2,h3,h4,h5⟩
 ·exact .inl e
 ·exact .inr ⟨b,c,rest,rfl,Nat.le_trans s.next h1,h2,h3,h4,h5⟩
theorem Lst.of_slb {h g:Heap}{b:Option Nat}{v:AV}{l:List Int}{n:Nat}(H:SlB g b 1 v (wI l) n)(hb:∀ j,b=some j→h.next≤j)(s:Same [] h g):Lst h g v l:=by
 have hn:n=l.length:=by have:=H.len;rw [EM] at this;omega
 subst hn
 refine⟨s,?_⟩
 cases b with
 | none=>exact .inl ⟨H.eq,List.eq_nil_of_length_eq_zero (H.nil rfl)⟩
 | some b=>
  obtain⟨h1,h2,h3⟩:=H.blk b rfl
  exact .inr ⟨b,.un 1,[],H.eq,hb b rfl,h1,rfl,by rw [List.append_nil];exact h2,rfl⟩
theorem Lst.sc {h g:Heap}{v:AV}{l:List Int}(H:Lst h g v l):scalar v=true:=H.rd.sc
theorem Lst.lit {h g:Heap}(s:Same [] h g)(l:List Int):Lst h (g.new (.cells true (wI l))) (.sl (some (g.next,0)) l.length (.ex l.length)) l:=
 ⟨s.trans (Same.new _ _),.inr ⟨g.next,_,[],rfl,s.next,Nat.lt_succ_self _,Nat.le_refl _,by rw [List.append_nil];exact Am,rfl⟩⟩
theorem bs1 (z a:Int):bsP 1 [.int .i64 z] 1 [(0,.int .i64 a)]=some (.cells true (wI [a]),fun i=>.sl (some (i,0)) 1 (.ex 1)):=rfl
theorem bs2 (z a b:Int):bsP 1 [.int .i64 z] 2 [(0,.int .i64 a),(1,.int .i64 b)]=some (.cells true (wI [a,b]),fun i=>.sl (some (i,0)) 2 (.ex 2)):=rfl
theorem bs3 (z a b c:Int):bsP 1 [.int .i64 z] 3 [(0,.int .i64 a),(1,.int .i64 b),(2,.int .i64 c)]=some (.cells true (wI [a,b,c]),fun i=>.sl (some (i,0)) 3 (.ex 3)):=rfl
theorem Od {b n k:Nat}{c:Cap}(hk:k≤n)(hc:CapL n c):∃ c',slcP 1 (.sl (some (b,0)) n c) none (some (.int .i64 (k:Int))) none=some (.sl (some (b,0)) k c')∧CapL k c':=by
 cases c with
 | ex m=>
  simp only [CapL] at hc
  refine⟨.ex m,?_,by simp only [CapL];omega⟩
  simp only [slcP,sliceEx,mostA,highA,lowA,boundA,Option.bind_some]
  rw [if_pos ⟨by omega,by omega⟩]
  simp only [Option.bind_some,Int.toNat_natCast,Nat.zero_mul,addA,Option.map_some,Nat.add_zero,Nat.sub_zero,ite_self]
 | un s=>
  simp only [CapL] at hc
  subst hc
  refine⟨.un 1,?_,rfl⟩
  simp only [slcP,sliceUn,ne_eq,not_true_eq_false,if_false,highA,lowA,boundA]
  rw [if_pos ⟨by omega,by omega⟩]
  simp only [Option.bind_some,Int.toNat_natCast,Nat.zero_mul,addA,Option.map_some,Nat.add_zero,Nat.sub_zero]
theorem LR {b n k:Nat}{c:Cap}(hk:k<n)(hc:CapL n c):∃ c',slcP 1 (.sl (some (b,0)) n c) (some (.int .i64 (k:Int))) none none=some (.sl (some (b,k)) (n-k) c')∧CapL (n-k) c':=by
 cases c with
 | ex m=>
  simp only [CapL] at hc
  refine⟨.ex (m-k),?_,by simp only [CapL];omega⟩
  simp only [slcP,sliceEx,mostA,highA,lowA,boundA,Option.bind_some]
  rw [if_pos ⟨by omega,by omega⟩]
  simp only [Option.bind_some,Int.toNat_natCast,Nat.mul_one,addA,Option.map_some,Nat.zero_add]
  rw [if_neg (by omega)]
 | un s=>
  simp only [CapL] at hc
  subst hc
  refine⟨.un 1,?_,rfl⟩
  simp only [slcP,sliceUn,ne_eq,not_true_eq_false,if_false,highA,lowA,boundA,Option.bind_some]
  rw [if_pos ⟨by omega,by omega⟩]
  simp only [Option.bind_some,Int.toNat_natCast,Nat.mul_one,addA,Option.map_some,Nat.zero_add]
theorem NM:∀ n:Nat,(rep [AV.int .i64 0] n).all scalar=true
 | 0=>rfl
 | n+1=>by simp only [rep,List.all_append,NM n,Bool.and_true];rfl
theorem Ju:∀ n:Nat,(rep [AV.int .i64 0] n).length=n
 | 0=>rfl
 | n+1=>by simp only [rep,List.length_append,Ju n,List.length_singleton];omega
theorem Qj {h:Heap}{b k n:Nat}{c:Cap}{cs:List AV}(hb:h.get b=some (.cells true cs))(hl:k+n≤cs.length) :
  ∃ cs',clL 1 [AV.int .i64 0] h (.sl (some (b,k)) n c)=some (.tup [],if n=0 then h else h.put b (some (.cells true cs')))∧cs'.take k=cs.take k∧(cs.all scalar=true→cs'.all scalar=true)∧cs'.length=cs.length:=by
 by_cases hn:n=0
 ·exact⟨cs,by simp only [clL,hn,if_true],rfl,id,rfl⟩
 ·refine⟨cs.take k++rep [AV.int .i64 0] n++cs.drop (k+n),?_,?_,fun hs=>?_,?_⟩
  ·simp only [clL,hn,if_false,List.length_singleton,ne_eq,not_true_eq_false,storeN,NM,if_true,hb,DW]
   rw [F3 cs k _ (by rw [Ju];exact hl),Ju];rfl
  ·rw [List.append_assoc,List.take_append_of_le_length (by simp;omega),List.take_take,Nat.min_self]
  ·simp only [List.all_append,Bool.and_eq_true]
   refine⟨⟨?_,NM n⟩,?_⟩<;>simp only [List.all_eq_true] at hs ⊢
   ·exact fun x hx=>hs x (List.mem_of_mem_take hx)
   ·exact fun x hx=>hs x (List.mem_of_mem_drop hx)
  ·simp only [List.length_append,List.length_take,Ju,List.length_drop];omega
theorem N5 {α:Type}{a b:List α}{n:Nat}(h:n=a.length):(a++b).take n=a:=by subst h;simp
def Tst (call:CallF)(x:AV)(P:Int→Bool)(h:Heap)(S:List Nat):Prop:=
 ∀ g n,Same S h g→∃ f args,cvP x [.int .i64 n]=some (f,args)∧call f args g=some (.bool (P n),g)
theorem Tst.run {R:Type}{call:CallF}{x:AV}{P:Int→Bool}{h g:Heap}{S:List Nat}(H:Tst call x P h S)(n:Int)(s:Same S h g)(K:AV→Heap→Option R):clF call (cvP x [.int .i64 n]) g K=K (.bool (P n)) g:=by
 obtain⟨f,args,e1,e2⟩:=H g n s
 rw [e1]
 show cl (call f args g) K=_
 rw [e2];rfl
theorem QZ {h0 h:Heap}{v x:AV}{l:List Int}{P:Int→Bool}(H:Lst h0 h v l)(hl:l.length≤4611686018427387904)(hP:Tst (lookT T21) x P h []) :
  Ok (BW v x h) fun r=>r.2=h∧((r.1 = .int .i64 (-1)∧∀ n∈l,P n=false)∨∃ k:Nat,r.1 = .int .i64 k∧k<l.length∧(∀ (j:Nat) n,j<k→l[j]?=some n→P n=false)∧∀ n,l[k]?=some n→P n=true):=by
 refine Ok.eq ?_ (by simp -implicitDefEqProofs only [BW,H.lnL,Option.bind_some];rfl)
 refine CJ (P:=fun r=>r.2.2=h∧((r.1 = .exit 0∧∀ n∈l,P n=false)∨∃ k:Nat,r.1 = .ret∧r.2.1.getD 0 .bot = .int .i64 k∧k<l.length∧(∀ (j:Nat) n,j<k→l[j]?=some n→P n=false)∧∀ n,l[k]?=some n→P n=true)) ?_ ?_
 ·refine BF (fun m vs g=>∃ i:Nat,(∃ q,vs = [q,.int .i64 i])∧g=h∧m+i=l.length∧∀ (j:Nat) n,j<i→l[j]?=some n→P n=false) ?_ (n:=l.length) (by omega)
   ⟨0,⟨_,rfl⟩,rfl,rfl,fun j n hj=>by omega⟩
  rintro m vs g ⟨i,⟨q,rfl⟩,rfl,hm,hall⟩
  rw [gD0,gD1]
  by_cases hi:i<l.length
  ·obtain⟨n,hn⟩:∃ n,l[i]?=some n:=⟨_,List.getElem?_eq_getElem hi⟩
   have hi':(i:Int)<l.length:=by omega
   obtain⟨b,_,_,hix,hld⟩:=H.at hn
   refine Ok.eq ?_ (by simp -implicitDefEqProofs only [Bn,AG,hi',decide_true,Option.bind_some,AB,hix,hld,hP.run n (Same.refl _ _)];rfl)
   cases hp:P n with
   | true=>exact Ok.of (r:=(Ex.ret,[AV.int .i64 (i:Int),.int .i64 (i:Int)],g)) (.inr ⟨by simp,rfl,.inr ⟨i,rfl,rfl,hi,hall,fun n' hn'=>by rw [hn] at hn';cases hn';exact hp⟩⟩)
   | false=>
    refine(Ok.of (r:=(Ex.normal,[q,AV.int .i64 ((i+1:Nat):Int)],g)) (.inl ⟨rfl,m - 1,by omega,i+1,⟨_,rfl⟩,rfl,by omega,fun j n' hj hn'=>?_⟩)).eq (by simp -implicitDefEqProofs only [AA,Ap,suc64 i (by omega),Option.bind_some])
    rcases (by omega:j<i∨j=i) with hj | rfl
    ·exact hall j n' hj hn'
    ·rw [hn] at hn';cases hn';exact hp
  ·have hi' : ¬ (i:Int)<l.length:=by omega
   refine(Ok.of (r:=(Ex.exit 0,[q,AV.int .i64 (i:Int)],g)) (.inr ⟨by simp,rfl,.inl ⟨rfl,fun n hn=>?_⟩⟩)).eq (by simp -implicitDefEqProofs only [Bn,AG,hi',decide_false,Option.bind_some,AA])
   obtain⟨j,hj⟩:=List.getElem?_of_mem hn
   have:=(List.getElem?_eq_some_iff.1 hj).1
   exact hall j n (by omega) hj
 ·rintro _ vs g ⟨rfl,⟨rfl,hall⟩ | ⟨k,rfl,hv,hk,h1,h2⟩⟩
  ·exact Ah (v:=.int .i64 (-1)) (g:=g) (by simp -implicitDefEqProofs only [if_true,Al]) ⟨rfl,.inl ⟨rfl,hall⟩⟩
  ·exact Ah (v:=.int .i64 (k:Int)) (g:=g) (by simp only at hv;simp -implicitDefEqProofs only [reduceCtorEq,if_false,Cm,Dx,hv]) ⟨rfl,.inr ⟨k,rfl,hk,h1,h2⟩⟩
theorem HS {P:Int→Bool}{l:List Int}{i:Nat}{x:Int}(hx:l[i]?=some x):(l.take (i+1)).filter P=(l.take i).filter P++(if P x then [x] else []):=by
 rw [List.take_add_one,hx,List.filter_append]
 cases hp:P x<;>simp [hp]
theorem IW {P:Int→Bool}:∀ {l:List Int},(∀ n∈l,P n=false)→l.filter (fun n=>!P n)=l
 | [],_=>rfl
 | x::l,h=>by rw [List.filter_cons_of_pos (by simp [h x (List.mem_cons_self ..)]),IW fun n hn=>h n (List.mem_cons_of_mem _ hn)]
theorem Mj {h0 h:Heap}{v x:AV}{l:List Int}{P:Int→Bool}(H:Lst h0 h v l)(hl:l.length≤4611686018427387904)(hP:Tst (lookT T21) x P h [])(hQ:∀ b n c,v = .sl (some (b,0)) n c→Tst (lookT T22) x P h [b]) :
  Ok (BK v x h) fun r=>Lst h0 r.2 r.1 (l.filter fun n=>!P n):=by
 refine Ok.eq ?_ (by simp -implicitDefEqProofs only [BK];rfl)
 refine Ao (QZ H hl hP) ?_
 rintro w g ⟨rfl,hr⟩
 simp only at hr
 rcases hr with⟨rfl,hall⟩ | ⟨k,rfl,hk,h1,h2⟩
 ·refine Ah (by simp -implicitDefEqProofs only [AK,decide_true,Option.bind_some,AB];rfl) ?_
  rw [IW hall];exact H
 ·obtain⟨hs,heq⟩:=H
  rcases heq with⟨rfl,rfl⟩ | ⟨b,c,rest,rfl,hb1,hb2,hc,hbl,hsc⟩
  ·simp at hk
  have hQ:=hQ b _ c rfl
  have hne : ¬ ((k:Int) = -1):=by omega
  have hf0:(l.take k).filter (fun n=>!P n)=l.take k:=IW fun n hn=>by
   obtain⟨j,hj⟩:=List.getElem?_of_mem hn
   have hjk:j<k:=by have:=(List.getElem?_eq_some_iff.1 hj).1;simp at this;omega
   rw [List.getElem?_take,if_pos hjk] at hj
   exact h1 j n hjk hj
  refine Ok.eq ?_ (by simp -implicitDefEqProofs only [AK,hne,decide_false,Option.bind_some,AA,Ap,suc64 k (by omega)];rfl)
  refine CJ (P:=fun r=>∃ (i:Nat) (cs:List AV) ,r.1 = .exit 0∧r.2.1.getD 0 .bot = .int .i64 i∧i=(l.filter fun n=>!P n).length∧i<l.length∧cs.length=l.length+rest.length∧cs.all scalar=true∧cs.take i=wI (l.filter fun n=>!P n)∧
   Same [b] g r.2.2∧r.2.2.get b=some (.cells true cs)) ?_ ?_
  ·refine BF (fun m vs g'=>∃ (i j:Nat) (cs:List AV),vs = [.int .i64 i,.int .i64 j]∧m+j=l.length∧i<j∧i=((l.take j).filter fun n=>!P n).length∧cs.length=l.length+rest.length∧cs.all scalar=true∧cs.take i=wI ((l.take j).filter fun n=>!P n)∧cs.drop j=wI (l.drop j)++rest∧
    Same [b] g g'∧g'.get b=some (.cells true cs)) ?_ (n:=l.length-(k+1)) (by omega) ?_
   ·rintro m vs g' ⟨i,j,cs,rfl,hm,hij,hi,hlen,hcs,ht,hd,hsame,hget⟩
    rw [gD0,gD1]
    have hlnL:lnL (.sl (some (b,0)) l.length c)=some (.int .i64 l.length):=by simp
    by_cases hj:j<l.length
    ·obtain⟨n,hn⟩:∃ n,l[j]?=some n:=⟨_,List.getElem?_eq_getElem hj⟩
     have hj':(j:Int)<l.length:=by omega
     have hcj:cs[j]?=some (.int .i64 n):=by
      have:=congrArg (fun l=>l[0]?) hd
      simp only [List.getElem?_drop,Nat.add_zero] at this
      rw [this,List.getElem?_append_left (by rw [EM];simp;omega)]
      simp [wI,hn]
     have hix:iaS 1 (.sl (some (b,0)) l.length c) (.int .i64 (j:Int))=some (.ptr (some (b,j))):=by rw [E7 1 (b,0) _ _ _ _ ⟨by omega,by omega⟩];simp
     have hix2:iaS 1 (.sl (some (b,0)) l.length c) (.int .i64 (i:Int))=some (.ptr (some (b,i))):=by rw [E7 1 (b,0) _ _ _ _ ⟨by omega,by omega⟩];simp
     have hld:ldS g' (.ptr (some (b,j)))=some (.int .i64 n):=by rw [Ai hget,hcj]
     have hdj:cs.drop (j+1)=wI (l.drop (j+1))++rest:=by
      have:=congrArg (List.drop 1) hd
      rw [List.drop_drop,List.drop_append_of_le_length (by rw [EM];simp;omega)] at this
      rw [this];simp [wI,List.map_drop,List.drop_drop]
     have ej:((j:Int)+1)=((j+1:Nat):Int):=by omega
     refine Ok.eq ?_ (by simp -implicitDefEqProofs only [Ce,hlnL,AG,hj',decide_true,Option.bind_some,AB,hix,hld,hQ.run n hsame,Ae];rfl)
     have hft:=HS (P:=fun n=>!P n) hn
     cases hp:P n with
     | true=>
      rw [hp] at hft
      simp only [Bool.not_true,Bool.false_eq_true,if_false,List.append_nil] at hft
      refine(Ok.of (r:=(Ex.normal,[AV.int .i64 (i:Int),.int .i64 ((j+1:Nat):Int)],g')) (.inl ⟨rfl,m - 1,by omega,i,j+1,cs,rfl,by omega,by omega,by rw [hft];exact hi,hlen,hcs,by rw [hft];exact ht,hdj,hsame,hget⟩)).eq (by simp -implicitDefEqProofs only [Bool.not_true,AA,Ap,suc64 j (by omega),Option.bind_some])
     | false=>
      rw [hp] at hft
      simp only [Bool.not_false,if_true] at hft
      have hst:stP 1 g' (.ptr (some (b,i))) (.int .i64 n)=some (.bot,g'.put b (some (.cells true (cs.set i (.int .i64 n))))):=Cl hget (by omega) rfl
      refine(Ok.of (r:=(Ex.normal,[AV.int .i64 ((i+1:Nat):Int),.int .i64 ((j+1:Nat):Int)],g'.put b (some (.cells true (cs.set i (.int .i64 n)))))) (.inl ⟨rfl,m - 1,by omega,i+1,j+1,cs.set i (.int .i64 n),rfl,by omega,by omega,by rw [hft];simp;exact hi,by simpa using hlen,?_,?_,?_,hsame.trans (Same.put _ _ _),An⟩)).eq (by simp -implicitDefEqProofs only [Bool.not_false,AB,hix2,hst,AE,Ap,suc64 i (by omega),suc64 j (by omega),Option.bind_some])
      ·simp only [List.all_eq_true] at hcs ⊢
       intro y hy
       rcases List.mem_or_eq_of_mem_set hy with hy | rfl
       ·exact hcs y hy
       ·rfl
      ·rw [hft,List.take_add_one,List.take_set_of_le (Nat.le_refl _),ht,List.getElem?_set_self (by omega)]
       simp [wI]
      ·rw [List.drop_set_of_lt (by omega)];exact hdj
    ·have hj' : ¬ (j:Int)<l.length:=by omega
     have htl:l.take j=l:=List.take_of_length_le (by omega)
     rw [htl] at hi ht
     refine(Ok.of (r:=(Ex.exit 0,[AV.int .i64 (i:Int),.int .i64 (j:Int)],g')) (.inr ⟨by simp,i,cs,rfl,rfl,hi,?_,hlen,hcs,ht,hsame,hget⟩)).eq (by simp -implicitDefEqProofs only [Ce,hlnL,AG,hj',decide_false,Option.bind_some,AA])
     omega
   ·obtain⟨n,hn⟩:∃ n,l[k]?=some n:=⟨_,List.getElem?_eq_getElem hk⟩
    have hft:=HS (P:=fun n=>!P n) hn
    rw [h2 n hn] at hft
    simp only [Bool.not_true,Bool.false_eq_true,if_false,List.append_nil,hf0] at hft
    refine⟨k,k+1,wI l++rest,rfl,by omega,by omega,by rw [hft];simp;omega,by simp [EM],by rw [List.all_append,ND,hsc];rfl,?_,?_,Same.refl _ _,hbl⟩
    ·rw [hft,List.take_append_of_le_length (by rw [EM];omega)];simp [wI,List.map_take]
    ·rw [List.drop_append_of_le_length (by rw [EM];omega)];simp [wI,List.map_drop]
  ·rintro _ vs g3 ⟨i,cs,rfl,hv,hi,hil,hlen,hcs,ht,hsame,hget⟩
   simp only at hv hsame hget
   obtain⟨c1,e1,_⟩:=LR (b:=b) hil hc
   obtain⟨c2,e2,hc2⟩:=Od (b:=b) (Nat.le_of_lt hil) hc
   obtain⟨cs',e3,t3,s3,l3⟩:=Qj (k:=i) (n:=l.length-i) (c:=c1) hget (by omega)
   rw [if_neg (by omega)] at e3
   refine Ah (by simp -implicitDefEqProofs only [if_true,Al,hv,e1,Option.bind_some,e3,AE,e2];rfl) ?_
   have hs3:Same [] h0 (g3.put b (some (.cells true cs'))):=hs.old (hsame.trans (Same.put _ _ _)) (fun j hj=>.inr (by simp at hj;omega))
   refine⟨hs3,.inr ⟨b,c2,cs'.drop i,?_,hb1,Nat.lt_of_lt_of_le hb2 hsame.next,by rw [← hi];exact hc2,?_,?_⟩⟩
   ·rw [← hi]
   ·have:wI (l.filter fun n=>!P n)=cs'.take i:=by rw [t3,ht]
    rw [this,List.take_append_drop];exact An
   ·have:=s3 hcs
    simp only [List.all_eq_true] at this ⊢
    exact fun y hy=>this y (List.mem_of_mem_drop hy)
theorem Qy {h0 h:Heap}{v:AV}{l:List Int}(H:Lst h0 h v l)(hl:l.length≤1099511627776):Ok (CE v h) fun r=>Lst h0 r.2 v (isort l):=by
 have H0:=H
 obtain⟨hs,heq⟩:=H
 rcases heq with⟨rfl,rfl⟩ | ⟨b,c,rest,rfl,hb1,hb2,hc,hbl,hsc⟩
 ·exact Ah (v:=.tup []) (g:=h) rfl H0
 ·cases l with
  | nil=>exact Ah (v:=.tup []) (g:=h) rfl H0
  | cons x l=>
   have hn:(isort (x::l)).length=(x::l).length:=(FH _).length_eq
   have e1:((wI (x::l)++rest).drop 0).take (l.length+1)=(x::l).map fun n=>AV.int .i64 n:=by
    rw [List.drop_zero,N5 (by simp [wI])];rfl
   have e2:CE (.sl (some (b,0)) (x::l).length c) h=some (.tup [],h.put b (some (.cells true (wI (isort (x::l))++rest)))):=by
    show sortV (.sl (some (b,0)) (l.length+1) c) h=_
    simp only [sortV,hbl]
    rw [if_pos ⟨by simp [EM],by simp at hl;omega⟩,e1,K7]
    simp only [Option.map_some,List.take_zero,List.nil_append,Nat.zero_add]
    rw [show(wI (x::l)++rest).drop (l.length+1)=rest by rw [List.drop_append,List.drop_eq_nil_of_le (by simp [EM])];simp [EM]]
    rfl
   refine Ah e2 ⟨hs.old (Same.put _ b _) (fun j hj=>.inr (by simp at hj;omega)),.inr ⟨b,c,rest,by rw [hn],hb1,hb2,by rw [hn];exact hc,An,hsc⟩⟩
def cpt:List Int→List Int
 | []=>[]
 | [x]=>[x]
 | x::y::l=>if x=y then cpt (y::l) else x::cpt (y::l)
theorem Nb (x:Int):∀ (l:List Int) (y:Int),l.getLast?=some y→cpt (l ++ [x])=cpt l++(if x=y then [] else [x])
 | [],y,h=>by simp at h
 | [a],y,h=>by
  simp at h;subst h
  by_cases e:x=a
  ·subst e;simp [cpt]
  ·have : ¬ a=x:=fun h=>e h.symm
   simp [cpt,e,this]
 | a::b::l,y,h=>by
  have ih:=Nb x (b::l) y (by simpa using h)
  simp only [List.cons_append] at ih ⊢
  by_cases e:a=b
  ·simp only [cpt,e,if_true];exact ih
  ·simp only [cpt,e,if_false,ih,List.cons_append]
theorem Lh {l:List Int}{i:Nat}{x y:Int}(hx:l[i+1]?=some x)(hy:l[i]?=some y):cpt (l.take (i+2))=cpt (l.take (i+1))++(if x=y then [] else [x]):=by
 rw [List.take_add_one,hx]
 refine Nb x _ y ?_
 rw [List.getLast?_eq_getElem?,List.length_take,List.getElem?_take]
 have:=(List.getElem?_eq_some_iff.1 hy).1
 have h2:=(List.getElem?_eq_some_iff.1 hx).1
 rw [Nat.min_eq_left (by omega),if_pos (by omega)]
 exact hy
theorem Og:∀ l:List Int,(cpt l).length≤l.length
 | []=>Nat.le_refl _
 | [x]=>Nat.le_refl _
 | x::y::l=>by
  have:=Og (y::l)
  rw [cpt]
  split
  ·simp at this ⊢;omega
  ·simp at this ⊢;omega
theorem O9 {n:Int}:∀ {l:List Int},n∈cpt l↔n∈l
 | []=>Iff.rfl
 | [x]=>Iff.rfl
 | x::y::l=>by
  have ih:=O9 (n:=n) (l:=y::l)
  rw [cpt]
  split
  ·rename_i e;subst e
   rw [ih];simp
  ·rw [List.mem_cons,ih,List.mem_cons (l:=y::l)]
theorem Nf {l:List Int}:(∀ (i:Nat) x y,l[i+1]?=some x→l[i]?=some y→x≠y)→cpt l=l:=by
 intro h
 have key:∀ i,i<l.length→cpt (l.take (i+1))=l.take (i+1):=fun i=>by
  induction i with
  | zero=>intro hi;cases l with | nil=>rfl | cons a l=>rfl
  | succ i ih=>
   intro hi
   rw [Lh (List.getElem?_eq_getElem hi) (List.getElem?_eq_getElem (by omega)),ih (by omega),if_neg (h i _ _ (List.getElem?_eq_getElem hi) (List.getElem?_eq_getElem (by omega)))]
   conv=>rhs;rw [List.take_add_one,List.getElem?_eq_getElem hi]
   rfl
 cases l with
 | nil=>rfl
 | cons a l=>
  have:=key l.length (by simp)
  rwa [List.take_of_length_le (by simp)] at this
theorem OP {h0 h:Heap}{v:AV}{l:List Int}(H:Lst h0 h v l)(hl:l.length≤4611686018427387904):Ok (BU v h) fun r=>Lst h0 r.2 r.1 (cpt l):=by
 have H0:=H
 by_cases hs2:(l.length:Int) < 2
 ·refine Ah (v:=v) (g:=h) (by simp -implicitDefEqProofs only [BU,H.lnL,Option.bind_some,AG,hs2,decide_true,AB]) ?_
  have:cpt l=l:=by
   match l,hs2 with
   | [],_=>rfl
   | [x],_=>rfl
   | x::y::l,h=>simp at h;omega
  rw [this];exact H
 obtain⟨hs,heq⟩:=H
 rcases heq with⟨rfl,rfl⟩ | ⟨b,c,rest,rfl,hb1,hb2,hc,hbl,hsc⟩
 ·simp at hs2
 have hlnL:lnL (.sl (some (b,0)) l.length c)=some (.int .i64 l.length):=by simp
 have hix:∀ j:Nat,j<l.length→iaS 1 (.sl (some (b,0)) l.length c) (.int .i64 (j:Int))=some (.ptr (some (b,j))):=fun j hj=>by rw [E7 1 (b,0) _ _ _ _ ⟨by omega,by omega⟩];simp
 refine Ok.eq ?_ (by simp -implicitDefEqProofs only [BU,hlnL,Option.bind_some,AG,hs2,decide_false,AA];rfl)
 refine CJ (P:=fun r=>(r.1 = .exit 0∧r.2.2=h∧cpt l=l)∨(r.1 = .ret∧Lst h0 r.2.2 (r.2.1.getD 0 .bot) (cpt l))) ?_ ?_
 ·refine BF (fun m vs g=>∃ i:Nat,(∃ q,vs = [q,.int .i64 ((i+1:Nat):Int)])∧g=h∧m+(i+1)=l.length∧∀ (j:Nat) x y,j<i→l[j+1]?=some x→l[j]?=some y→x≠y) ?_ (n:=l.length - 1) (by omega)
   ⟨0,⟨_,rfl⟩,rfl,by omega,fun j x y hj=>by omega⟩
  rintro m vs g ⟨i,⟨q,rfl⟩,rfl,hm,hall⟩
  rw [gD0,gD1]
  by_cases hi:i+1<l.length
  ·obtain⟨x,hx⟩:∃ x,l[i+1]?=some x:=⟨_,List.getElem?_eq_getElem hi⟩
   obtain⟨y,hy⟩:∃ y,l[i]?=some y:=⟨_,List.getElem?_eq_getElem (by omega)⟩
   have hi':((i+1:Nat):Int)<l.length:=by omega
   have hsub:IntKind.i64.wrap (((i+1:Nat):Int) - 1)=(i:Int):=by rw [B9 (by omega) (by omega)];omega
   have ld:∀ (j:Nat) z,l[j]?=some z→ldS g (.ptr (some (b,j)))=some (.int .i64 z):=fun j z hz=>by
    rw [Ai hbl,List.getElem?_append_left (by rw [EM];exact(List.getElem?_eq_some_iff.1 hz).1)];simp [wI,hz]
   by_cases e:x=y
   ·subst e
    obtain⟨c1,e1,hc1⟩:=LR (b:=b) hi hc
    have hln2:lnL (.sl (some (b,i+1)) (l.length-(i+1)) c1)=some (.int .i64 ((l.length-(i+1):Nat):Int)):=by simp
    refine Ok.eq ?_ (by simp -implicitDefEqProofs only [CO,hlnL,AG,hi',decide_true,Option.bind_some,AB,hix _ hi,ld _ _ hx,Bc,hsub,hix i (by omega),ld _ _ hy,AK,AW,e1];rfl)
    refine CJ (P:=fun r=>∃ (k:Nat) (cs:List AV),r.1 = .exit 2∧r.2.1.getD 0 .bot = .int .i64 k∧k=(cpt l).length∧k<l.length∧cs.length=l.length+rest.length∧cs.all scalar=true∧cs.take k=wI (cpt l)∧Same [b] g r.2.2∧r.2.2.get b=some (.cells true cs)) ?_ ?_
    ·refine BF (fun m' vs g'=>∃ (k j:Nat) (cs:List AV),vs = [.int .i64 k,.int .i64 ((j+1:Nat):Int)]∧m'+(i+1+(j+1))=l.length∧k≤i+1+j∧k=(cpt (l.take (i+1+(j+1)))).length∧cs.length=l.length+rest.length∧cs.all scalar=true∧cs.take k=wI (cpt (l.take (i+1+(j+1))))∧
      cs.drop (i+1+j)=wI (l.drop (i+1+j))++rest∧Same [b] g g'∧g'.get b=some (.cells true cs)) ?_ (n:=l.length-(i+1+1)) (by omega) ?_
     ·rintro m' vs g' ⟨k,j,cs,rfl,hm',hkj,hk,hlen,hcs,ht,hd,hsame,hget⟩
      rw [gD0,gD1]
      have cat:∀ (j':Nat) z,i+1+j≤j'→l[j']?=some z→cs[j']?=some (.int .i64 z):=fun j' z hj' hz=>by
       have:=congrArg (fun l=>l[j'-(i+1+j)]?) hd
       simp only [List.getElem?_drop] at this
       rw [show i+1+j+(j'-(i+1+j))=j' by omega] at this
       have hlt:=(List.getElem?_eq_some_iff.1 hz).1
       rw [this,List.getElem?_append_left (by rw [EM];simp;omega)]
       simp only [wI,List.getElem?_map,List.getElem?_drop]
       rw [show i+1+j+(j'-(i+1+j))=j' by omega,hz];rfl
      by_cases hj:i+1+(j+1)<l.length
      ·obtain⟨z,hz⟩:∃ z,l[i+1+(j+1)]?=some z:=⟨_,List.getElem?_eq_getElem hj⟩
       obtain⟨u,hu⟩:∃ u,l[i+1+j]?=some u:=⟨_,List.getElem?_eq_getElem (by omega)⟩
       have hj':((j+1:Nat):Int)<((l.length-(i+1):Nat):Int):=by omega
       have ix1:∀ t:Nat,t<l.length-(i+1)→iaS 1 (.sl (some (b,i+1)) (l.length-(i+1)) c1) (.int .i64 (t:Int))=some (.ptr (some (b,i+1+t))):=fun t ht=>by rw [E7 1 (b,i+1) _ _ _ _ ⟨by omega,by omega⟩];simp
       have hsub2:IntKind.i64.wrap (((j+1:Nat):Int) - 1)=(j:Int):=by rw [B9 (by omega) (by omega)];omega
       have l1:ldS g' (.ptr (some (b,i+1+(j+1))))=some (.int .i64 z):=by rw [Ai hget];exact cat _ z (by omega) hz
       have l2:ldS g' (.ptr (some (b,i+1+j)))=some (.int .i64 u):=by rw [Ai hget];exact cat _ u (by omega) hu
       have hct:cpt (l.take (i+1+(j+1+1)))=cpt (l.take (i+1+(j+1)))++(if z=u then [] else [z]):=Lh hz hu
       have hdj:cs.drop (i+1+(j+1))=wI (l.drop (i+1+(j+1)))++rest:=by
        have:=congrArg (List.drop 1) hd
        rw [List.drop_drop,List.drop_append_of_le_length (by rw [EM];simp;omega)] at this
        rw [show i+1+(j+1)=i+1+j+1 by omega,this];simp [wI,List.map_drop,List.drop_drop]
       by_cases ez:z=u
       ·rw [if_pos ez,List.append_nil] at hct
        refine(Ok.of (r:=(Ex.normal,[AV.int .i64 (k:Int),.int .i64 ((j+1+1:Nat):Int)],g')) (.inl ⟨rfl,m' - 1,by omega,k,j+1,cs,rfl,by omega,by omega,by rw [hk,hct],hlen,hcs,by rw [ht,hct],hdj,hsame,hget⟩)).eq (by
         simp -implicitDefEqProofs only [CN,hln2,AG,hj',decide_true,decide_false,Option.bind_some,AB,AA,ix1 (j+1) (by omega),ix1 j (by omega),l1,l2,Bc,hsub2,AU,ez,Bool.not_true,AW,Ap,suc64 (j+1) (by omega)])
       ·rw [if_neg ez] at hct
        have hst:stP 1 g' (.ptr (some (b,k))) (.int .i64 z)=some (.bot,g'.put b (some (.cells true (cs.set k (.int .i64 z))))):=Cl hget (by omega) rfl
        have hct':cpt (l.take (i+1+(j+1+1)))=cpt (l.take (i+1+(j+1))) ++ [z]:=hct
        refine(Ok.of (r:=(Ex.normal,[AV.int .i64 ((k+1:Nat):Int),.int .i64 ((j+1+1:Nat):Int)],g'.put b (some (.cells true (cs.set k (.int .i64 z)))))) (.inl ⟨rfl,m' - 1,by omega,k+1,j+1,cs.set k (.int .i64 z),rfl,by omega,by omega,by rw [hct',List.length_append,← hk];rfl,by simpa using hlen,?_,?_,?_,hsame.trans (Same.put _ _ _),An⟩)).eq (by
         simp -implicitDefEqProofs only [CN,hln2,AG,hj',decide_true,decide_false,Option.bind_some,AB,AA,ix1 (j+1) (by omega),ix1 j (by omega),l1,l2,Bc,hsub2,AU,ez,Bool.not_false,AW,hix k (by omega),hst,AE,Ap,suc64 k (by omega),suc64 (j+1) (by omega)])
        ·simp only [List.all_eq_true] at hcs ⊢
         intro w hw
         rcases List.mem_or_eq_of_mem_set hw with hw | rfl
         ·exact hcs w hw
         ·rfl
        ·rw [hct',List.take_add_one,List.take_set_of_le (Nat.le_refl _),ht,List.getElem?_set_self (by omega)]
         simp [wI]
        ·rw [List.drop_set_of_lt (by omega)];exact hdj
      ·have hj' : ¬ ((j+1:Nat):Int)<((l.length-(i+1):Nat):Int):=by omega
       have htl:l.take (i+1+(j+1))=l:=List.take_of_length_le (by omega)
       rw [htl] at hk ht
       refine(Ok.of (r:=(Ex.exit 2,[AV.int .i64 (k:Int),.int .i64 ((j+1:Nat):Int)],g')) (.inr ⟨by simp,k,cs,rfl,rfl,hk,by omega,hlen,hcs,ht,hsame,hget⟩)).eq (by
        simp -implicitDefEqProofs only [CN,hln2,AG,hj',decide_false,Option.bind_some,AA])
     ·have h0':cpt (l.take (i+1+1))=cpt (l.take (i+1)):=by rw [Lh hx hy,if_pos rfl,List.append_nil]
      have h1':cpt (l.take (i+1))=l.take (i+1):=Nf fun j x' y' hx' hy'=>by
       have hj1:j+1<i+1:=by
        have:=(List.getElem?_eq_some_iff.1 hx').1
        simp at this;omega
       rw [List.getElem?_take,if_pos hj1] at hx'
       rw [List.getElem?_take,if_pos (by omega)] at hy'
       exact hall j x' y' (by omega) hx' hy'
      refine⟨i+1,0,wI l++rest,rfl,by omega,by omega,?_,by simp [EM],by rw [List.all_append,ND,hsc];rfl,?_,?_,Same.refl _ _,hbl⟩
      ·show i+1=(cpt (l.take (i+1+1))).length
       rw [h0',h1'];simp;omega
      ·show(wI l++rest).take (i+1)=wI (cpt (l.take (i+1+1)))
       rw [h0',h1',List.take_append_of_le_length (by rw [EM];omega)];simp [wI,List.map_take]
      ·rw [List.drop_append_of_le_length (by rw [EM];omega)];simp [wI,List.map_drop]
    ·rintro _ vs g3 ⟨k,cs,rfl,hv,hk,hkl,hlen,hcs,ht,hsame,hget⟩
     simp only at hv hsame hget
     obtain⟨c3,e3,_⟩:=LR (b:=b) hkl hc
     obtain⟨c2,e2,hc2⟩:=Od (b:=b) (Nat.le_of_lt hkl) hc
     obtain⟨cs',e4,t4,s4,l4⟩:=Qj (k:=k) (n:=l.length-k) (c:=c3) hget (by omega)
     rw [if_neg (by omega)] at e4
     refine(Ok.of (r:=(Ex.ret,[AV.sl (some (b,0)) k c2,.int .i64 (k:Int)],g3.put b (some (.cells true cs')))) (.inr ⟨by simp,.inr ⟨rfl,?_,?_⟩⟩)).eq (by
      simp -implicitDefEqProofs only [if_true,Al,hv,e3,Option.bind_some,e4,AE,e2])
     ·exact hs.old (hsame.trans (Same.put _ _ _)) (fun j hj=>.inr (by simp at hj;omega))
     ·refine .inr ⟨b,c2,cs'.drop k,by rw [← hk];rfl,hb1,Nat.lt_of_lt_of_le hb2 hsame.next,by rw [← hk];exact hc2,?_,?_⟩
      ·have:wI (cpt l)=cs'.take k:=by rw [t4,ht]
       rw [this,List.take_append_drop];exact An
      ·have:=s4 hcs
       simp only [List.all_eq_true] at this ⊢
       exact fun w hw=>this w (List.mem_of_mem_drop hw)
   ·refine(Ok.of (r:=(Ex.normal,[q,AV.int .i64 ((i+1+1:Nat):Int)],g)) (.inl ⟨rfl,m - 1,by omega,i+1,⟨_,rfl⟩,rfl,by omega,fun j x' y' hj hx' hy'=>?_⟩)).eq (by
     simp -implicitDefEqProofs only [CO,hlnL,AG,hi',decide_true,decide_false,Option.bind_some,AB,AA,hix _ hi,ld _ _ hx,Bc,hsub,hix i (by omega),ld _ _ hy,AK,e,AW,Ap,suc64 (i+1) (by omega)])
    rcases (by omega:j<i∨j=i) with hj | rfl
    ·exact hall j x' y' hj hx' hy'
    ·rw [hx] at hx';rw [hy] at hy';cases hx';cases hy';exact e
  ·have hi' : ¬ ((i+1:Nat):Int)<l.length:=by omega
   refine(Ok.of (r:=(Ex.exit 0,[q,AV.int .i64 ((i+1:Nat):Int)],g)) (.inr ⟨by simp,.inl ⟨rfl,rfl,Nf fun j x y hx hy=>?_⟩⟩)).eq (by
    simp -implicitDefEqProofs only [CO,hlnL,AG,hi',decide_false,Option.bind_some,AA])
   have:=(List.getElem?_eq_some_iff.1 hx).1
   exact hall j x y (by omega) hx hy
 ·rintro e vs g3 (⟨rfl,hg,hcl⟩ | ⟨rfl,hL⟩)
  ·simp only at hg;subst hg
   refine Ah (v:=.sl (some (b,0)) l.length c) (g:=g3) (by simp -implicitDefEqProofs only [if_true,Al]) ?_
   rw [hcl];exact H0
  ·exact Ah (v:=vs.getD 0 .bot) (g:=g3) (by simp -implicitDefEqProofs only [reduceCtorEq,if_false,Cm,Dx]) hL
theorem RwC.part {h:Heap}{sz:Nat}{v:AV}{l:List (List AV)}(H:RwC h sz v l)(hc:CapV sz v){a b:Nat}(hab:a+b≤l.length) :
  ∃ v',slcP sz v (some (.int .i64 (a:Int))) (some (.int .i64 ((a+b:Nat):Int))) none=some v'∧RwC h sz v' ((l.drop a).take b):=by
 obtain⟨cs,h1,h2,h3⟩:=H
 have hlen:((l.drop a).take b).length=b:=by simp;omega
 have rows:∀ cs',cs'=(cs.drop (a*sz)).take (b*sz)→∀ (i:Nat) r,((l.drop a).take b)[i]?=some r→span cs' (i*sz) sz=some r:=fun cs' e i r hr=>by
  have hi:i<b:=by have:=(List.getElem?_eq_some_iff.1 hr).1;omega
  rw [List.getElem?_take,if_pos hi,List.getElem?_drop] at hr
  have hs:=h3 _ r hr
  have hl:=Gf hs
  have e1:(a+i)*sz=a*sz+i*sz:=Nat.add_mul _ _ _
  have e2:(i+1)*sz≤b*sz:=Nat.mul_le_mul_right _ hi
  rw [Nat.add_mul,Nat.one_mul] at e2
  rw [Bi _ _ _ hl] at hs
  have hcl:=h1.len
  have e3:(a+b)*sz≤l.length*sz:=Nat.mul_le_mul_right _ hab
  rw [Nat.add_mul] at e3
  rw [Bi _ _ _ (by rw [e];simp;omega),e]
  rw [← hs,e1,List.drop_take,List.drop_drop,List.take_take,Nat.min_eq_left (by omega)]
 rcases h1.eq with⟨rfl,h0⟩ | ⟨bb,o,c,rfl,hb,hg⟩
 ·have ea:a=0:=by omega
  have eb:b=0:=by omega
  subst ea eb
  refine⟨.sl none 0 (.ex 0),rfl,[],⟨by simp,.inl ⟨rfl,by simp⟩⟩,by simp,fun i r hr=>by simp at hr⟩
 ·have hcl:=h1.len
  have e3:(a+b)*sz≤l.length*sz:=Nat.mul_le_mul_right _ hab
  rw [Nat.add_mul] at e3
  have hap:CapOk sz l.length c:=by
   rcases hc with hc | ⟨p,n,c',hc,h4⟩
   ·cases hc
   ·cases hc;exact h4
  cases c with
  | ex k=>
   simp only [CapOk] at hap
   refine⟨.sl (if k=a then some (bb,o) else some (bb,o+a*sz)) b (.ex (k-a)),?_,(cs.drop (a*sz)).take (b*sz),⟨by rw [hlen];simp;omega,.inr ?_⟩,by rw [hlen];omega,rows _ rfl⟩
   ·simp only [slcP,sliceEx,mostA,highA,lowA,boundA,Option.bind_some]
    rw [if_pos ⟨by omega,by omega⟩]
    simp only [Option.bind_some,Int.toNat_natCast]
    rw [if_pos ⟨by omega,by omega⟩]
    simp only [Option.bind_some,Option.map_some,addA,Nat.add_sub_cancel_left]
   ·by_cases ek:k=a
    ·exact⟨bb,o,.ex (k-a),by rw [if_pos ek,hlen],hb,fun hne=>by rw [hlen] at hne;omega⟩
    ·refine⟨bb,o+a*sz,.ex (k-a),by rw [if_neg ek,hlen],hb,fun hne=>?_⟩
     rw [hlen] at hne
     obtain⟨w,pre,rest,ho,hget⟩:=hg (by omega)
     refine⟨w,pre++cs.take (a*sz),(cs.drop (a*sz)).drop (b*sz)++rest,by simp [ho];omega,?_⟩
     rw [hget]
     have:cs=cs.take (a*sz)++((cs.drop (a*sz)).take (b*sz)++(cs.drop (a*sz)).drop (b*sz)):=by rw [List.take_append_drop,List.take_append_drop]
     conv=>lhs;rw [this]
     simp only [List.append_assoc]
  | un s=>
   simp only [CapOk] at hap
   subst hap
   refine⟨.sl (some (bb,o+a*s)) b (.un s),?_,(cs.drop (a*s)).take (b*s),⟨by rw [hlen];simp;omega,.inr ⟨bb,o+a*s,.un s,by rw [hlen],hb,fun hne=>?_⟩⟩,by rw [hlen];omega,rows _ rfl⟩
   ·simp only [slcP,sliceUn,ne_eq,not_true_eq_false,if_false,highA,lowA,boundA]
    rw [if_pos ⟨by omega,by omega⟩]
    simp only [Option.bind_some,Int.toNat_natCast]
    rw [if_pos ⟨by omega,by omega⟩]
    simp only [Option.bind_some,Option.map_some,addA,Nat.add_sub_cancel_left]
   ·rw [hlen] at hne
    obtain⟨w,pre,rest,ho,hget⟩:=hg (by omega)
    refine⟨w,pre++cs.take (a*s),(cs.drop (a*s)).drop (b*s)++rest,by simp [ho];omega,?_⟩
    rw [hget]
    have:cs=cs.take (a*s)++((cs.drop (a*s)).take (b*s)++(cs.drop (a*s)).drop (b*s)):=by rw [List.take_append_drop,List.take_append_drop]
    conv=>lhs;rw [this]
    simp only [List.append_assoc]
theorem LS {h:Heap}{v:AV}{m:Md}(H:MdRd h v m)(i:Ins)(hwa:wfI i.a)(hwb:wfI i.b) :
  Ok (Ci v (.agg i.row) h) fun r=>Same [] h r.2∧RwC r.2 4 r.1 ((casesOf m i.a i.b).map Cas.row):=by
 have hcv:∀ sv gv kv cv fv,v = .agg [sv,gv,kv,cv,fv,.int .i64 m.main]→CapV 4 cv:=fun sv gv kv cv fv e=>by
  obtain⟨_,_,_,_,_,e',_,_,_,_,_,_,_,_,_,_,hc,_⟩:=H
  rw [e] at e'
  cases e'
  exact hc
 obtain⟨sv,gv,kv,cv,fv,rfl,hbx,B⟩:=H.box
 have hcv:=hcv _ _ _ _ _ rfl
 have s0:Same [] h (h.new (.cells true [sv,gv,kv,cv,fv,.int .i64 m.main])):=Same.new _ _
 have hi:=GL (Ins.sc i)
 generalize hg:h.new (.cells true [sv,gv,kv,cv,fv,.int .i64 m.main])=g at *
 have s1:Same [] g (g.new (.cells true i.row)):=Same.new _ _
 have B1:=B.mono s1
 have gn:(g.new (.cells true i.row)).get g.next=some (.cells true i.row):=Am
 generalize hg1:g.new (.cells true i.row)=g1 at *
 have l1:ldS g1 (.ptr (some (g.next,0+1)))=some (.int .i64 i.a):=by rw [Ai gn];rfl
 have l2:ldS g1 (.ptr (some (g.next,0+2)))=some (.int .i64 i.b):=by rw [Ai gn];rfl
 have wa:=EW hwa
 have wb:=EW hwb
 have hm:=B.bnd.2
 rw [mxl] at hm
 have bad:casesOf m i.a i.b = []→Ok (some (AV.sl none 0 (.ex 0),g1)) fun r=>Same [] h r.2∧RwC r.2 4 r.1 ((casesOf m i.a i.b).map Cas.row):=fun e=>by
  rw [e]
  exact Ok.of (r:=(AV.sl none 0 (.ex 0),g1)) ⟨s0.trans s1,[],⟨rfl,.inl ⟨rfl,rfl⟩⟩,Nat.zero_le _,fun i r hi=>by simp at hi⟩
 by_cases c1:i.a < 0
 ·exact(bad (by simp only [casesOf,c1,true_or,if_true])).eq (by simp -implicitDefEqProofs only [Ci,hbx,hi,Af,hg,hg1,AF,Option.bind_some,l1,AG,c1,decide_true,AY,AL,AD,AC,if_true,AB])
 by_cases c2:i.b < 0
 ·exact(bad (by simp only [casesOf,c2,true_or,or_true,if_true])).eq (by simp -implicitDefEqProofs only [Ci,hbx,hi,Af,hg,hg1,AF,Option.bind_some,l1,l2,AG,c1,c2,decide_true,decide_false,AY,AX,AL,AD,AH,AE,AC,if_true,Bool.false_eq_true,if_false,AB])
 by_cases c3:(m.cases.length:Int)<i.a
 ·exact(bad (by simp only [casesOf,c3,true_or,or_true,if_true])).eq (by simp -implicitDefEqProofs only [Ci,hbx,hi,Af,hg,hg1,AF,Option.bind_some,l1,l2,B1.l3,B1.ln3,AG,AR,c1,c2,c3,decide_true,decide_false,AY,AX,AL,AD,AH,AE,AC,if_true,Bool.false_eq_true,if_false,AB])
 have e4:IntKind.i64.wrap ((m.cases.length:Int)-i.a)=(m.cases.length:Int)-i.a:=B9 (by omega) (by omega)
 by_cases c4:(m.cases.length:Int)-i.a<i.b
 ·exact(bad (by simp only [casesOf,c4,or_true,if_true])).eq (by simp -implicitDefEqProofs only [Ci,hbx,hi,Af,hg,hg1,AF,Option.bind_some,l1,l2,B1.l3,B1.ln3,AG,AR,Bc,e4,c1,c2,c3,c4,decide_true,decide_false,AY,AX,AL,AD,AH,AE,AC,if_true,Bool.false_eq_true,if_false,AB])
 have hco:casesOf m i.a i.b=(m.cases.drop i.a.toNat).take i.b.toNat:=by simp only [casesOf,c1,c2,c3,c4,or_self,if_false]
 obtain⟨v',e5,hv'⟩:=B1.cs.part hcv (a:=i.a.toNat) (b:=i.b.toNat) (by simp;omega)
 have ea:((i.a.toNat:Nat):Int)=i.a:=by omega
 have eab:((i.a.toNat+i.b.toNat:Nat):Int)=i.a+i.b:=by omega
 have ew:IntKind.i64.wrap (i.a+i.b)=i.a+i.b:=B9 (by omega) (by omega)
 rw [ea,eab] at e5
 refine Ah (v:=v') (g:=g1) (by simp -implicitDefEqProofs only [Ci,hbx,hi,Af,hg,hg1,AF,Option.bind_some,l1,l2,B1.l3,B1.ln3,AG,AR,Bc,Ap,e4,ew,c1,c2,c3,c4,decide_true,decide_false,AY,AX,AL,AD,AH,AE,AC,if_true,Bool.false_eq_true,if_false,AA,e5]) ⟨s0.trans s1,?_⟩
 rw [hco,List.map_take,List.map_drop]
 exact hv'
def runP (a:Int)(k:Nat):List Int:=(List.range k).map fun i=>IntKind.i64.wrap (a+(i:Nat))
theorem PT (a:Int)(k:Nat):runP a (k+1)=runP a k ++ [IntKind.i64.wrap (a+(k:Nat))]:=by simp [runP,List.range_succ]
theorem QE (a:Int)(k:Nat):(runP a k).length=k:=by simp [runP]
def runL (a n:Int):List Int:=if n≤64 then runP a n.toNat else []
theorem HC (a n:Int):(runL a n).length≤64:=by
 unfold runL;split
 ·rw [QE];omega
 ·simp
theorem M7 (a n:Int)(h:Heap):Ok (Dr (.int .i64 a) (.int .i64 n) h) fun r=>Lst h r.2 r.1 (runL a n):=by
 by_cases h1:n≤64
 ·refine Ok.eq ?_ (by simp -implicitDefEqProofs only [Dr,AP,h1,decide_true,Option.bind_some,AB];rfl)
  refine CJ (P:=fun r=>r.1 = .exit 0∧∃ q,r.2.1.getD 0 .bot=q∧Lst h r.2.2 q (runL a n)) ?_ ?_
  ·refine BF (fun m vs g=>∃ (i:Nat) (q:AV) (b:Option Nat),vs = [q,.int .i64 i]∧m+i=n.toNat∧SlB g b 1 q (wI (runP a i)) i∧(∀ j,b=some j→h.next≤j)∧Same [] h g) ?_ (n:=n.toNat) (by omega)
    ⟨0,_,none,rfl,rfl,SlB.mt,(fun j hj=>by cases hj),Same.refl _ _⟩
   rintro m vs g ⟨i,q,b,rfl,hm,hq,hb,hs⟩
   rw [gD0,gD1]
   by_cases hi:(i:Int)<n
   ·refine Ok.eq ?_ (by simp -implicitDefEqProofs only [HD,AG,hi,decide_true,Option.bind_some,AB,Ap];rfl)
    refine app1 hq rfl rfl rfl (by decide) (by omega) fun q' g3 hq3 s3 n3=>?_
    refine(Ok.of (r:=(.normal,[q',.int .i64 ((i+1:Nat):Int)],g3)) ?_).eq (by
     simp -implicitDefEqProofs only [Ap,suc64 i (by omega),Option.bind_some])
    refine .inl ⟨rfl,m - 1,by omega,i+1,q',some (g.next+1),rfl,by omega,?_,?_,?_⟩
    ·have e:wI (runP a i)++(AV.int .i64 (IntKind.i64.wrap (a+i))).cells=wI (runP a (i+1)):=by rw [PT];simp [wI,AV.cells]
     rw [e] at hq3;exact hq3
    ·intro j hj;cases hj;have:=hs.next;omega
    ·exact hs.old s3 fun j hj=>by
      cases b with
      | none=>simp at hj
      | some x=>simp at hj;subst hj;exact .inr (hb _ rfl)
   ·refine(Ok.of (r:=(.exit 0,[q,.int .i64 (i:Int)],g)) ?_).eq (by
     simp -implicitDefEqProofs only [HD,AG,hi,decide_false,Option.bind_some,AA])
    refine .inr ⟨by simp,rfl,q,rfl,?_⟩
    have:i=n.toNat:=by omega
    subst this
    rw [runL,if_pos h1];exact Lst.of_slb hq hb hs
  ·rintro _ vs g ⟨rfl,q,rfl,H⟩
   exact Ah (v:=vs.getD 0 .bot) (g:=g) (by simp -implicitDefEqProofs only [if_true];rfl) H
 ·refine Ah (by simp -implicitDefEqProofs only [Dr,AP,h1,decide_false,Option.bind_some,AA];rfl) ?_
  rw [runL,if_neg h1]
  exact Lst.mt (Same.refl _ _)
def gvn (l:List Int):List Int:=l.filter fun n=>!decide (n = -1)
theorem M6 (h:Heap)(S:List Nat):Tst (lookT T21) (AV.fn 146 [] []) (fun n=>decide (n = -1)) h S∧Tst (lookT T22) (AV.fn 146 [] []) (fun n=>decide (n = -1)) h S:=by
 have e:∀ g (n:Int),FN (.int .i64 n) g=some (.bool (decide (n = -1)),g):=fun g n=>by
  simp -implicitDefEqProofs only [FN,AK,Option.bind_some]
 exact⟨fun g n _=>⟨146,[.int .i64 n],rfl,e g n⟩,fun g n _=>⟨146,[.int .i64 n],rfl,e g n⟩⟩
theorem Jw {h0 h:Heap}{v:AV}{l:List Int}(H:Lst h0 h v l)(hl:l.length≤4611686018427387904):Ok (D9 v h) fun r=>Lst h0 r.2 r.1 (gvn l):=by
 refine Ok.eq ?_ (by simp -implicitDefEqProofs only [D9,TK];rfl)
 exact Mj H hl (M6 h []).1 fun b n c _=>(M6 h [b]).2
def fnAt (m:Md)(n:Int):Option Fn:=if n < 0 then none else m.funcs[n.toNat]?
def fnP (m:Md)(n:Int):Int:=match fnAt m n with | some f=>f.pa | none=>0
def fnC (m:Md)(n:Int):Int:=match fnAt m n with | some f=>f.ca | none=>0
theorem RA {h:Heap}{v:AV}{m:Md}(H:MdRd h v m)(n:Int):Ok (Eq v (.int .i64 n) h) fun r=>Same [] h r.2∧∃ rest,r.1 = .agg (.int .i64 (fnP m n) :: .int .i64 (fnC m n)::rest):=by
 obtain⟨sv,gv,kv,cv,fv,rfl,hbx,B⟩:=H.box
 have s0:Same [] h (h.new (.cells true [sv,gv,kv,cv,fv,.int .i64 m.main])):=Same.new _ _
 generalize hg:h.new (.cells true [sv,gv,kv,cv,fv,.int .i64 m.main])=g at *
 generalize hz:Blk.cells true [AV.int .i64 0,AV.int .i64 0,AV.int .i64 0,AV.int .i64 0,AV.sl none 0 (.ex 0),AV.sl none 0 (.ex 0),AV.sl none 0 (.ex 0)]=z
 have s1:Same [] g (g.new z):=Same.new _ _
 have B1:=B.mono s1
 have gz:(g.new z).get g.next=some z:=Am
 generalize hg1:g.new z=g1 at *
 have hn1:g1.next=g.next+1:=by rw [← hg1];rfl
 have fin:∀ cs:List AV,cs.length=7→cs.all scalar=true→∃ g',stP 7 g1 (.ptr (some (g.next,0))) (.agg cs)=some (.bot,g')∧Same [] h g'∧ldA 7 g' (.ptr (some (g.next,0)))=some (.agg cs):=fun cs hc hs=>by
  rw [← hz] at gz
  refine⟨_,Ds gz rfl hc hs,(s0.trans s1).old (Same.put _ _ _) (fun j hj=>.inr (by simp at hj;have:=s0.next;omega)),?_⟩
  rw [Eo An,Bi _ _ _ (by omega),List.drop_zero,List.take_of_length_le (by omega)];rfl
 have hm:=B.bnd.1
 rw [mxl] at hm
 have eb:bldS [(0,1),(1,1),(2,1),(3,1),(4,1),(5,1),(6,1)] [AV.int .i64 0,.int .i64 0,.int .i64 0,.int .i64 0,.sl none 0 (.ex 0),.sl none 0 (.ex 0),.sl none 0 (.ex 0)] []=some (.agg [.int .i64 0,.int .i64 0,.int .i64 0,.int .i64 0,.sl none 0 (.ex 0),.sl none 0 (.ex 0),.sl none 0 (.ex 0)]):=rfl
 by_cases c1:n < 0
 ·obtain⟨g',e1,s2,e2⟩:=fin [.int .i64 0,.int .i64 0,.int .i64 0,.int .i64 0,.sl none 0 (.ex 0),.sl none 0 (.ex 0),.sl none 0 (.ex 0)] rfl rfl
  refine Ah (v:=.agg [.int .i64 0,.int .i64 0,.int .i64 0,.int .i64 0,.sl none 0 (.ex 0),.sl none 0 (.ex 0),.sl none 0 (.ex 0)]) (g:=g') (by
   simp -implicitDefEqProofs only [Eq,hbx,Af,hg,hz,hg1,AG,c1,decide_true,Option.bind_some,AY,AD,AC,if_true,AB,eb,e1,AE,e2]) ⟨s2,[.int .i64 0,.int .i64 0,.sl none 0 (.ex 0),.sl none 0 (.ex 0),.sl none 0 (.ex 0)],?_⟩
  simp only [fnP,fnC,fnAt,c1,if_true]
 ·by_cases c2:(m.funcs.length:Int)≤n
  ·obtain⟨g',e1,s2,e2⟩:=fin [.int .i64 0,.int .i64 0,.int .i64 0,.int .i64 0,.sl none 0 (.ex 0),.sl none 0 (.ex 0),.sl none 0 (.ex 0)] rfl rfl
   refine Ah (v:=.agg [.int .i64 0,.int .i64 0,.int .i64 0,.int .i64 0,.sl none 0 (.ex 0),.sl none 0 (.ex 0),.sl none 0 (.ex 0)]) (g:=g') (by
    simp -implicitDefEqProofs only [Eq,hbx,Af,hg,hz,hg1,AG,c1,c2,decide_false,decide_true,Option.bind_some,AX,AH,AE,AF,B1.l4,B1.ln4,AJ,AC,Bool.false_eq_true,if_false,AB,eb,e1,e2]) ⟨s2,[.int .i64 0,.int .i64 0,.sl none 0 (.ex 0),.sl none 0 (.ex 0),.sl none 0 (.ex 0)],?_⟩
   have:m.funcs[n.toNat]?=none:=List.getElem?_eq_none (by omega)
   simp only [fnP,fnC,fnAt,c1,if_false,this]
  ·obtain⟨f,hf⟩:∃ f,m.funcs[n.toNat]?=some f:=⟨_,List.getElem?_eq_getElem (by omega)⟩
   obtain⟨b,o,kv',cv',mv',hb,hix,hfr,hla,s4,s5,s6,n4,n5,n6⟩:=B1.fn hf
   have hix:=hix .i64
   rw [show((n.toNat:Nat):Int)=n by omega] at hix
   obtain⟨g',e1,s2,e2⟩:=fin [.int .i64 f.pa,.int .i64 f.ca,.int .i64 f.sl,.int .i64 f.re,kv',cv',mv'] rfl hfr.sc
   refine Ah (v:=.agg [.int .i64 f.pa,.int .i64 f.ca,.int .i64 f.sl,.int .i64 f.re,kv',cv',mv']) (g:=g') (by
    simp -implicitDefEqProofs only [Eq,hbx,Af,hg,hz,hg1,AG,c1,c2,decide_false,Option.bind_some,AX,AH,AE,AF,B1.l4,B1.ln4,AJ,AC,Bool.false_eq_true,if_false,AA,hix,hla,e1,e2]) ⟨s2,[.int .i64 f.sl,.int .i64 f.re,kv',cv',mv'],?_⟩
   simp only [fnP,fnC,fnAt,c1,if_false,hf]
def readsOf1 (c:Cas):List Int:=(if c.kind=2 then [] else [c.chan])++(if c.kind=1 then [c.val] else [])
def readsOfL (l:List Cas):List Int:=l.flatMap readsOf1
theorem JR (l:List Cas):(readsOfL l).length≤2*l.length:=by
 induction l with
 | nil=>simp [readsOfL]
 | cons c l ih=>
  have:(readsOf1 c).length≤2:=by unfold readsOf1;split<;>split<;>simp
  simp only [readsOfL,List.flatMap_cons,List.length_append,List.length_cons] at ih ⊢
  omega
theorem Mi {g:Heap}{q:Nat}{p:Nat}{c:Cas}(hc:∀ (f:Nat) x,c.row[f]?=some x→ldS g (.ptr (some (p,0+f)))=some x){v:AV}{b:Option Nat}{l:List Int}{h:Heap}(H:SlB g b 1 v (wI l) l.length)(hb:∀ j,b=some j→h.next≤j)(s:Same [] h g)(hq:q < 4611686018427387904)(hl:l.length≤1099511627776) :
  Ok (DR (.int .i64 (q:Nat)) (.ptr (some (p,0))) v g) fun r=>∃ v' b',r.1 = .normal∧r.2.1 = [v',.int .i64 ((q+1:Nat):Int)]∧SlB r.2.2 b' 1 v' (wI (l++(if c.kind=1 then [c.val] else []))) (l++(if c.kind=1 then [c.val] else [])).length∧(∀ j,b'=some j→h.next≤j)∧Same [] h r.2.2:=by
 have l0:ldS g (.ptr (some (p,0+0)))=some (.int .i64 c.kind):=hc 0 _ rfl
 have l2:ldS g (.ptr (some (p,0+2)))=some (.int .i64 c.val):=hc 2 _ rfl
 by_cases ck:c.kind=1
 ·rw [if_pos ck]
  refine Ok.eq ?_ (by simp -implicitDefEqProofs only [DR,AF,Option.bind_some,l0,l2,AK,ck,decide_true,AB];rfl)
  refine app1 H rfl rfl rfl (by decide) (by omega) fun v' g3 h3 s3 n3=>?_
  refine(Ok.of (r:=(.normal,[v',.int .i64 ((q+1:Nat):Int)],g3)) ⟨v',some (g.next+1),rfl,rfl,?_,?_,?_⟩).eq (by simp -implicitDefEqProofs only [Ap,suc64 q (by omega),Option.bind_some])
  ·have e:wI l++(AV.int .i64 c.val).cells=wI (l ++ [c.val]):=by simp [wI,AV.cells]
   rw [e] at h3
   rw [List.length_append];exact h3
  ·intro j hj;cases hj;have:=s.next;omega
  ·exact s.old s3 fun j hj=>by
    cases b with
    | none=>simp at hj
    | some x=>simp at hj;subst hj;exact .inr (hb _ rfl)
 ·rw [if_neg ck,List.append_nil]
  refine(Ok.of (r:=(.normal,[v,.int .i64 ((q+1:Nat):Int)],g)) ⟨v,b,rfl,rfl,H,hb,s⟩).eq (by simp -implicitDefEqProofs only [DR,AF,Option.bind_some,l0,AK,ck,decide_false,AA,Ap,suc64 q (by omega)])
theorem OL {h:Heap}{v:AV}{cs:List Cas}(H:RwC h 4 v (cs.map Cas.row))(hl:cs.length≤1073741824):Ok (EY v h) fun r=>Lst h r.2 r.1 (readsOfL cs):=by
 have hln:=H.lnL
 rw [List.length_map] at hln
 refine Ok.eq ?_ (by simp -implicitDefEqProofs only [EY,hln,Option.bind_some];rfl)
 refine CJ (P:=fun r=>r.1 = .exit 0∧∃ q,r.2.1.getD 0 .bot=q∧Lst h r.2.2 q (readsOfL cs)) ?_ ?_
 ·refine BF (fun m vs g=>∃ (i:Nat) (q:AV) (b:Option Nat),vs = [q,.int .i64 i]∧m+i=cs.length∧SlB g b 1 q (wI (readsOfL (cs.take i))) (readsOfL (cs.take i)).length∧(∀ j,b=some j→h.next≤j)∧Same [] h g) ?_ (n:=cs.length) (by omega)
   ⟨0,_,none,rfl,rfl,SlB.mt,(fun j hj=>by cases hj),Same.refl _ _⟩
  rintro m vs g ⟨i,q,b,rfl,hm,hq,hb,hs⟩
  rw [gD0,gD1]
  by_cases hi:i<cs.length
  ·obtain⟨c,hc⟩:∃ c,cs[i]?=some c:=⟨_,List.getElem?_eq_getElem hi⟩
   have hi':(i:Int)<cs.length:=by omega
   have hsucc:readsOfL (cs.take (i+1))=readsOfL (cs.take i)++readsOf1 c:=by
    unfold readsOfL;rw [List.take_add_one,hc,List.flatMap_append];simp
   have hlen:(readsOfL (cs.take i)).length≤2147483648:=by
    have:=JR (cs.take i)
    have h2:(cs.take i).length≤cs.length:=by simp;omega
    omega
   obtain⟨b2,o2,hb2,hix,hla,hls⟩:=(H.mono hs.next (fun j hj=>hs.get j hj (by simp))).at (i:=i) (r:=c.row) (by rw [List.getElem?_map,hc];rfl)
   refine Ok.eq ?_ (by simp -implicitDefEqProofs only [FF,AG,hi',decide_true,Option.bind_some,AB,hix,hla];rfl)
   refine EV (cs:=c.row) (n:=4) (by rfl) (by rfl) (Cas.sc c) fun g' s' n' hg'=>?_
   have hrow:∀ (f:Nat) x,c.row[f]?=some x→ldS g' (.ptr (some (g.next,0+f)))=some x:=fun f x hx=>by rw [Ai hg',Nat.zero_add];exact hx
   have l0:ldS g' (.ptr (some (g.next,0+0)))=some (.int .i64 c.kind):=hrow 0 _ rfl
   have l1:ldS g' (.ptr (some (g.next,0+1)))=some (.int .i64 c.chan):=hrow 1 _ rfl
   have hq':=hq.same s' (fun j _=>by simp)
   have tail:∀ r:Ex × List AV × Heap,(∃ v' b',r.1 = .normal∧r.2.1 = [v',.int .i64 ((i+1:Nat):Int)]∧SlB r.2.2 b' 1 v' (wI (readsOfL (cs.take (i+1)))) (readsOfL (cs.take (i+1))).length∧(∀ j,b'=some j→h.next≤j)∧Same [] h r.2.2)→
     (r.1=Ex.normal∧∃ m',m'<m∧∃ (i:Nat) (q:AV) (b:Option Nat),r.2.1 = [q,.int .i64 i]∧m'+i=cs.length∧SlB r.2.2 b 1 q (wI (readsOfL (cs.take i))) (readsOfL (cs.take i)).length∧(∀ j,b=some j→h.next≤j)∧Same [] h r.2.2)∨(r.1≠.normal∧r.1 = .exit 0∧∃ q,r.2.1.getD 0 .bot=q∧Lst h r.2.2 q (readsOfL cs)):=by
    rintro r ⟨v',b',e1,e2,e3,e4,e5⟩
    exact .inl ⟨e1,m - 1,by omega,i+1,v',b',e2,by omega,e3,e4,e5⟩
   by_cases ck:c.kind=2
   ·refine Ok.eq ?_ (by simp -implicitDefEqProofs only [AF,Option.bind_some,l0,AU,ck,decide_true,Bool.not_true,AA];rfl)
    refine Ok.mono ?_ tail
    refine(Mi hrow hq' hb (hs.trans s') (by omega) (by omega)).mono ?_
    rintro r ⟨v',b',e1,e2,e3,e4,e5⟩
    have e:readsOfL (cs.take (i+1))=readsOfL (cs.take i)++(if c.kind=1 then [c.val] else []):=by rw [hsucc];simp [readsOf1,ck]
    exact⟨v',b',e1,e2,by rw [e];exact e3,e4,e5⟩
   ·refine Ok.eq ?_ (by simp -implicitDefEqProofs only [AF,Option.bind_some,l0,l1,AU,ck,decide_false,Bool.not_false,AB];rfl)
    refine Ok.mono ?_ tail
    refine app1 hq' rfl rfl rfl (by decide) (by omega) fun v' g3 h3 s3 n3=>?_
    have s3':Same [] h g3:=(hs.trans s').old s3 fun j hj=>by
     cases b with
     | none=>simp at hj
     | some x=>simp at hj;subst hj;exact .inr (hb _ rfl)
    have hrow3:∀ (f:Nat) x,c.row[f]?=some x→ldS g3 (.ptr (some (g.next,0+f)))=some x:=fun f x hx=>by
     have:g3.get g.next=some (.cells true c.row):=by
      rw [s3.get g.next (by omega) ?_];exact hg'
      cases b with
      | none=>simp
      | some x=>have:=(hq.blk x rfl).1;simp;omega
     rw [Ai this,Nat.zero_add];exact hx
    have e:wI (readsOfL (cs.take i))++(AV.int .i64 c.chan).cells=wI (readsOfL (cs.take i) ++ [c.chan]):=by simp [wI,AV.cells]
    rw [e] at h3
    have h3':SlB g3 (some (g'.next+1)) 1 v' (wI (readsOfL (cs.take i) ++ [c.chan])) (readsOfL (cs.take i) ++ [c.chan]).length:=by rw [List.length_append];exact h3
    refine(Mi hrow3 h3' (h:=h) (fun j hj=>by cases hj;have:=hs.next;omega) s3' (by omega) (by rw [List.length_append];simp;omega)).mono ?_
    rintro r ⟨v2,b2,e1,e2,e3,e4,e5⟩
    have e:readsOfL (cs.take (i+1))=readsOfL (cs.take i) ++ [c.chan]++(if c.kind=1 then [c.val] else []):=by rw [hsucc];simp [readsOf1,ck]
    exact⟨v2,b2,e1,e2,by rw [e];exact e3,e4,e5⟩
  ·have hi' : ¬ (i:Int)<cs.length:=by omega
   refine(Ok.of (r:=(.exit 0,[q,.int .i64 (i:Int)],g)) ?_).eq (by simp -implicitDefEqProofs only [FF,AG,hi',decide_false,Option.bind_some,AA])
   refine .inr ⟨by simp,rfl,q,rfl,?_⟩
   rw [List.take_of_length_le (by omega)] at hq
   exact Lst.of_slb hq hb hs
 ·rintro _ vs g ⟨rfl,q,rfl,HL⟩
  exact Ah (v:=vs.getD 0 .bot) (g:=g) (by simp -implicitDefEqProofs only [if_true];rfl) HL
end Go.Ab.F
namespace Go.Ab.F
open Go Go.Ab
set_option linter.all false
set_option linter.unusedSimpArgs false
attribute [local congr] BI D1 Dy D2 Bu D3 Dz Aw Av
theorem Bp {f:Heap→Option AV}{h:Heap}{v:AV}(e:f h=some v)(lo hi:Nat)(cs:List Asked):rdC f h lo hi cs=some (v,(f,v,lo,hi)::cs):=by
 unfold rdC;rw [e];rfl
theorem fvS0 (a:AV)(l:List AV):fvS 0 (.agg (a::l))=some a:=rfl
theorem fvS1 (a b:AV)(l:List AV):fvS 1 (.agg (a::b::l))=some b:=rfl
theorem FM (h:Heap)(n:Nat):Same [] h (hpN h n):=⟨Nat.le_add_right _ _,fun j _ _=>rfl⟩
theorem Mb {h0 g:Heap}{b:Nat}{x:Int}{y:AV}{l:List Int}(hb:g.get b=some (.cells true (wI [x])))(h1:h0.next≤b)(h2:b<g.next)(s:Same [] h0 g)(H:RdW g 1 y (wI l) l.length)(hl:l.length≤1048576) :
  ∃ v' g',appendA g 1 8 (.sl (some (b,0)) 1 (.ex 1)) y=some (v',g')∧Lst h0 g' v' (x::l)∧∀ j,j≠b→j<g.next→g'.get j=g.get j:=by
 have hld:loadN g (b,0) (1 * 1)=some (wI [x]):=by
  simp only [loadN,hb,Cc];rfl
 have hcount:countA y=some l.length:=by
  rcases H.eq with⟨rfl,h⟩ | ⟨_,_,_,rfl,_⟩
  ·rw [h];rfl
  ·rfl
 have hadd:addedA g 1 y=some (wI l):=by
  rcases H.eq with⟨rfl,h⟩ | ⟨bb,o,c,rfl,hbb,hgg⟩
  ·have:=List.eq_nil_of_length_eq_zero h
   subst this;rfl
  ·by_cases hn:l.length=0
   ·have:=List.eq_nil_of_length_eq_zero hn
    subst this
    simp only [addedA,List.length_nil,Nat.zero_mul]
    cases hld':loadN g (bb,o) 0 with
    | none=>rfl
    | some q=>
     simp only [loadN] at hld'
     split at hld'
     ·rw [Cc] at hld'
      have:=Gf hld'
      rw [Bi _ _ _ this] at hld'
      cases hld'
      simp [wI]
     ·cases hld'
   ·obtain⟨w,pre,rest,ho,hget⟩:=hgg hn
    simp only [addedA,loadN,hget,Cc,Nat.mul_one]
    have:span (wI l) 0 l.length=some (wI l):=by rw [Bi _ _ _ (by rw [EM];omega),List.drop_zero,List.take_of_length_le (by rw [EM];omega)]
    have e:=NJ (pre:=pre) (rest:=rest) this
    rw [ho,Nat.add_zero] at e
    rw [e]
 by_cases hn:l.length=0
 ·have:=List.eq_nil_of_length_eq_zero hn
  subst this
  refine⟨.sl (some (b,0)) 1 (.ex 1),g.put b (some (.cells true (wI [x]))),?_,⟨s.old (Same.put _ _ _) (fun j hj=>.inr (by simp at hj;omega)),.inr ⟨b,.ex 1,[],rfl,h1,h2,Nat.le_refl _,An,rfl⟩⟩,fun j hj _=>Bd hj⟩
  simp only [appendA,hcount,hadd,Option.bind_some,List.length_nil,Nat.add_zero,Nat.le_refl,if_true,addA,storeN,hb,DW]
  rfl
 ·refine⟨.sl (some (g.next,0)) (1+l.length) (.un 1),g.new (.cells true (wI [x]++wI l)),?_,⟨s.trans (Same.new _ _),.inr ⟨g.next,.un 1,[],?_,s.next,Nat.lt_succ_self _,rfl,?_,rfl⟩⟩,fun j hj hlt=>FK (by omega)⟩
  ·simp only [appendA,hcount,hadd,Option.bind_some]
   rw [if_neg (by omega),if_pos (by omega),hld,Option.bind_some,if_pos (by rw [List.all_append,ND,ND];rfl)]
  ·rw [List.length_cons,Nat.add_comm]
  ·rw [List.append_nil];exact Am
def readsL (m:Md)(i:Ins):List Int:=
 if i.op=1∨i.op=17∨i.op=33∨i.op=35∨i.op=27∨i.op=39 then [i.b]
 else if 3≤i.op∧i.op≤16∨i.op=30 then [i.b,i.c]
 else if i.op=19∨i.op=40∨i.op=42 then [i.a]
 else if i.op=20 then runL i.c (fnP m i.b)
 else if i.op=21 then i.b::runL i.c i.d
 else if i.op=22 then gvn [i.a]
 else if i.op=23 then runL i.b (fnP m i.a)
 else if i.op=24 then i.a::runL i.b i.c
 else if i.op=26∨i.op=37 then [i.c]
 else if i.op=28∨i.op=29 then [i.a,i.c]
 else if i.op=31∨i.op=32 then [i.a,i.b,i.c]
 else if i.op=36 then runL i.c (fnC m i.b)
 else if i.op=38 then [i.a,i.b]
 else if i.op=41 then readsOfL (casesOf m i.a i.b)
 else []
theorem Lx {h:Heap}{v:AV}{m:Md}(H:MdRd h v m)(i:Ins)(hw:i.wf)(hs:m.cases.length≤60):Ok (Ak v (.agg i.row) h) fun r=>Lst h r.2 r.1 (readsL m i):=by
 obtain⟨sv,gv,kv,cv,fv,rfl,hbx,B⟩:=H.box
 have s0:Same [] h (h.new (.cells true [sv,gv,kv,cv,fv,.int .i64 m.main])):=Same.new _ _
 have hbi:=GL (Ins.sc i)
 generalize hg:h.new (.cells true [sv,gv,kv,cv,fv,.int .i64 m.main])=g at *
 have s1:Same [] g (g.new (.cells true i.row)):=Same.new _ _
 have B1:=B.mono s1
 have gn:(g.new (.cells true i.row)).get g.next=some (.cells true i.row):=Am
 generalize hg1:g.new (.cells true i.row)=g1 at *
 have hn1:g1.next=g.next+1:=by rw [← hg1];rfl
 have l0:ldS g1 (.ptr (some (g.next,0+0)))=some (.int .i64 i.op):=by rw [Ai gn];rfl
 have l1:ldS g1 (.ptr (some (g.next,0+1)))=some (.int .i64 i.a):=by rw [Ai gn];rfl
 have l2:ldS g1 (.ptr (some (g.next,0+2)))=some (.int .i64 i.b):=by rw [Ai gn];rfl
 have l3:ldS g1 (.ptr (some (g.next,0+3)))=some (.int .i64 i.c):=by rw [Ai gn];rfl
 have l4:ldS g1 (.ptr (some (g.next,0+4)))=some (.int .i64 i.d):=by rw [Ai gn];rfl
 have la:ldA 5 g1 (.ptr (some (g.next,0)))=some (.agg i.row):=by rw [Eo gn];rfl
 have s2:Same [] h g1:=s0.trans s1
 have later:∀ g' (f:Nat),Same [] g1 g'→ldS g' (.ptr (some (g.next,f)))=ldS g1 (.ptr (some (g.next,f))):=fun g' f s=>by
  rw [Ai (w:=true) (vs:=i.row) (by rw [s.get g.next (by omega) (by simp)];exact gn),Ai gn]
 by_cases c1:i.op=1
 ·exact Ah (v:=.sl (some (g1.next,0)) 1 (.ex 1)) (g:=g1.new (.cells true (wI [i.b]))) (by simp -implicitDefEqProofs only [Ak,hbx,hbi,Af,hg,hg1,AF,Option.bind_some,l0,AK,AJ,AP,Int.reduceEq,Int.reduceLE,decide_true,decide_false,AY,AX,AZ,Ac,AL,AD,AH,AE,AC,if_true,Bool.false_eq_true,if_false,AB,AA,c1,l2,bs1]) (by rw [show readsL m i = [i.b] by simp only [readsL,c1,Int.reduceEq,Int.reduceLE,true_or,or_true,false_or,or_false,or_self,and_self,and_true,true_and,and_false,false_and,if_true,if_false,ite_true]];exact Lst.lit s2 [i.b])
 by_cases c17:i.op=17
 ·exact Ah (v:=.sl (some (g1.next,0)) 1 (.ex 1)) (g:=g1.new (.cells true (wI [i.b]))) (by simp -implicitDefEqProofs only [Ak,hbx,hbi,Af,hg,hg1,AF,Option.bind_some,l0,AK,AJ,AP,Int.reduceEq,Int.reduceLE,decide_true,decide_false,AY,AX,AZ,Ac,AL,AD,AH,AE,AC,if_true,Bool.false_eq_true,if_false,AB,AA,c17,l2,bs1]) (by rw [show readsL m i = [i.b] by simp only [readsL,c17,Int.reduceEq,Int.reduceLE,true_or,or_true,false_or,or_false,or_self,and_self,and_true,true_and,and_false,false_and,if_true,if_false,ite_true]];exact Lst.lit s2 [i.b])
 by_cases c33:i.op=33
 ·exact Ah (v:=.sl (some (g1.next,0)) 1 (.ex 1)) (g:=g1.new (.cells true (wI [i.b]))) (by simp -implicitDefEqProofs only [Ak,hbx,hbi,Af,hg,hg1,AF,Option.bind_some,l0,AK,AJ,AP,Int.reduceEq,Int.reduceLE,decide_true,decide_false,AY,AX,AZ,Ac,AL,AD,AH,AE,AC,if_true,Bool.false_eq_true,if_false,AB,AA,c33,l2,bs1]) (by rw [show readsL m i = [i.b] by simp only [readsL,c33,Int.reduceEq,Int.reduceLE,true_or,or_true,false_or,or_false,or_self,and_self,and_true,true_and,and_false,false_and,if_true,if_false,ite_true]];exact Lst.lit s2 [i.b])
 by_cases c35:i.op=35
 ·exact Ah (v:=.sl (some (g1.next,0)) 1 (.ex 1)) (g:=g1.new (.cells true (wI [i.b]))) (by simp -implicitDefEqProofs only [Ak,hbx,hbi,Af,hg,hg1,AF,Option.bind_some,l0,AK,AJ,AP,Int.reduceEq,Int.reduceLE,decide_true,decide_false,AY,AX,AZ,Ac,AL,AD,AH,AE,AC,if_true,Bool.false_eq_true,if_false,AB,AA,c35,l2,bs1]) (by rw [show readsL m i = [i.b] by simp only [readsL,c35,Int.reduceEq,Int.reduceLE,true_or,or_true,false_or,or_false,or_self,and_self,and_true,true_and,and_false,false_and,if_true,if_false,ite_true]];exact Lst.lit s2 [i.b])
 by_cases c27:i.op=27
 ·exact Ah (v:=.sl (some (g1.next,0)) 1 (.ex 1)) (g:=g1.new (.cells true (wI [i.b]))) (by simp -implicitDefEqProofs only [Ak,hbx,hbi,Af,hg,hg1,AF,Option.bind_some,l0,AK,AJ,AP,Int.reduceEq,Int.reduceLE,decide_true,decide_false,AY,AX,AZ,Ac,AL,AD,AH,AE,AC,if_true,Bool.false_eq_true,if_false,AB,AA,c27,l2,bs1]) (by rw [show readsL m i = [i.b] by simp only [readsL,c27,Int.reduceEq,Int.reduceLE,true_or,or_true,false_or,or_false,or_self,and_self,and_true,true_and,and_false,false_and,if_true,if_false,ite_true]];exact Lst.lit s2 [i.b])
 by_cases c39:i.op=39
 ·exact Ah (v:=.sl (some (g1.next,0)) 1 (.ex 1)) (g:=g1.new (.cells true (wI [i.b]))) (by simp -implicitDefEqProofs only [Ak,hbx,hbi,Af,hg,hg1,AF,Option.bind_some,l0,AK,AJ,AP,Int.reduceEq,Int.reduceLE,decide_true,decide_false,AY,AX,AZ,Ac,AL,AD,AH,AE,AC,if_true,Bool.false_eq_true,if_false,AB,AA,c39,l2,bs1]) (by rw [show readsL m i = [i.b] by simp only [readsL,c39,Int.reduceEq,Int.reduceLE,true_or,or_true,false_or,or_false,or_self,and_self,and_true,true_and,and_false,false_and,if_true,if_false,ite_true]];exact Lst.lit s2 [i.b])
 by_cases r0:3≤i.op∧i.op≤16
 ·obtain⟨r1,r2⟩:=r0
  have n1 : ¬ i.op=1:=by omega
  have n17 : ¬ i.op=17:=by omega
  have n33 : ¬ i.op=33:=by omega
  have n35 : ¬ i.op=35:=by omega
  have n27 : ¬ i.op=27:=by omega
  have n39 : ¬ i.op=39:=by omega
  have n30 : ¬ i.op=30:=by omega
  exact Ah (v:=.sl (some (g1.next,0)) 2 (.ex 2)) (g:=g1.new (.cells true (wI [i.b,i.c]))) (by simp -implicitDefEqProofs only [Ak,hbx,hbi,Af,hg,hg1,AF,Option.bind_some,l0,AK,AJ,AP,Int.reduceEq,Int.reduceLE,decide_true,decide_false,AY,AX,AZ,Ac,AL,AD,AH,AE,AC,if_true,Bool.false_eq_true,if_false,AB,AA,r1,r2,n1,n17,n33,n35,n27,n39,n30,l2,l3,bs2]) (by rw [show readsL m i = [i.b,i.c] by simp only [readsL,r1,r2,n1,n17,n33,n35,n27,n39,n30,Int.reduceEq,Int.reduceLE,true_or,or_true,false_or,or_false,or_self,and_self,and_true,true_and,and_false,false_and,if_true,if_false,ite_true]];exact Lst.lit s2 [i.b,i.c])
 by_cases c30:i.op=30
 ·exact Ah (v:=.sl (some (g1.next,0)) 2 (.ex 2)) (g:=g1.new (.cells true (wI [i.b,i.c]))) (by simp -implicitDefEqProofs only [Ak,hbx,hbi,Af,hg,hg1,AF,Option.bind_some,l0,AK,AJ,AP,Int.reduceEq,Int.reduceLE,decide_true,decide_false,AY,AX,AZ,Ac,AL,AD,AH,AE,AC,if_true,Bool.false_eq_true,if_false,AB,AA,c30,l2,l3,bs2]) (by rw [show readsL m i = [i.b,i.c] by simp only [readsL,c30,Int.reduceEq,Int.reduceLE,true_or,or_true,false_or,or_false,or_self,and_self,and_true,true_and,and_false,false_and,if_true,if_false,ite_true]];exact Lst.lit s2 [i.b,i.c])
 by_cases c19:i.op=19
 ·exact Ah (v:=.sl (some (g1.next,0)) 1 (.ex 1)) (g:=g1.new (.cells true (wI [i.a]))) (by simp -implicitDefEqProofs only [Ak,hbx,hbi,Af,hg,hg1,AF,Option.bind_some,l0,AK,AJ,AP,Int.reduceEq,Int.reduceLE,decide_true,decide_false,AY,AX,AZ,Ac,AL,AD,AH,AE,AC,if_true,Bool.false_eq_true,if_false,AB,AA,c19,l1,bs1]) (by rw [show readsL m i = [i.a] by simp only [readsL,c19,Int.reduceEq,Int.reduceLE,true_or,or_true,false_or,or_false,or_self,and_self,and_true,true_and,and_false,false_and,if_true,if_false,ite_true]];exact Lst.lit s2 [i.a])
 by_cases c40:i.op=40
 ·exact Ah (v:=.sl (some (g1.next,0)) 1 (.ex 1)) (g:=g1.new (.cells true (wI [i.a]))) (by simp -implicitDefEqProofs only [Ak,hbx,hbi,Af,hg,hg1,AF,Option.bind_some,l0,AK,AJ,AP,Int.reduceEq,Int.reduceLE,decide_true,decide_false,AY,AX,AZ,Ac,AL,AD,AH,AE,AC,if_true,Bool.false_eq_true,if_false,AB,AA,c40,l1,bs1]) (by rw [show readsL m i = [i.a] by simp only [readsL,c40,Int.reduceEq,Int.reduceLE,true_or,or_true,false_or,or_false,or_self,and_self,and_true,true_and,and_false,false_and,if_true,if_false,ite_true]];exact Lst.lit s2 [i.a])
 by_cases c42:i.op=42
 ·exact Ah (v:=.sl (some (g1.next,0)) 1 (.ex 1)) (g:=g1.new (.cells true (wI [i.a]))) (by simp -implicitDefEqProofs only [Ak,hbx,hbi,Af,hg,hg1,AF,Option.bind_some,l0,AK,AJ,AP,Int.reduceEq,Int.reduceLE,decide_true,decide_false,AY,AX,AZ,Ac,AL,AD,AH,AE,AC,if_true,Bool.false_eq_true,if_false,AB,AA,c42,l1,bs1]) (by rw [show readsL m i = [i.a] by simp only [readsL,c42,Int.reduceEq,Int.reduceLE,true_or,or_true,false_or,or_false,or_self,and_self,and_true,true_and,and_false,false_and,if_true,if_false,ite_true]];exact Lst.lit s2 [i.a])
 by_cases c20:i.op=20
 ·refine Ok.eq ?_ (by simp -implicitDefEqProofs only [Ak,hbx,hbi,Af,hg,hg1,AF,Option.bind_some,l0,AK,AJ,AP,Int.reduceEq,Int.reduceLE,decide_true,decide_false,AY,AX,AZ,Ac,AL,AD,AH,AE,AC,if_true,Bool.false_eq_true,if_false,AB,AA,c20,Bp (f:=fun k=>ldS k (.ptr (some (g.next,0+3)))) (h:=g1) l3,AM,B1.la,l2];rfl)
  refine Ao (RA B1.rd i.b) ?_
  rintro _ g2 ⟨s3,rest,rfl⟩
  simp only at s3
  refine Ok.eq ?_ (by simp -implicitDefEqProofs only [fvS0,Option.bind_some];rfl)
  refine Ao (M7 i.c (fnP m i.b) g2) ?_
  intro v2 g3 h3
  simp only at h3
  refine Ah (v:=v2) (g:=g3) (I9 (Fg _ _) l3 (by rw [later g2 _ s3];exact l3)) ?_
  rw [show readsL m i=runL i.c (fnP m i.b) by simp only [readsL,c20,Int.reduceEq,Int.reduceLE,true_or,or_true,false_or,or_false,or_self,and_self,and_true,true_and,and_false,false_and,if_true,if_false,ite_true]]
  exact h3.old (s2.trans s3)
 by_cases c21:i.op=21
 ·have sp:=FM g1 1
  have p1:ldS (hpN g1 1) (.ptr (some (g.next,0+2)))=some (.int .i64 i.b):=by rw [later _ _ sp];exact l2
  have p2:ldS (hpN g1 1) (.ptr (some (g.next,0+3)))=some (.int .i64 i.c):=by rw [later _ _ sp];exact l3
  have p3:ldS (hpN g1 1) (.ptr (some (g.next,0+4)))=some (.int .i64 i.d):=by rw [later _ _ sp];exact l4
  refine Ok.eq ?_ (by simp -implicitDefEqProofs only [Ak,hbx,hbi,Af,hg,hg1,AF,Option.bind_some,l0,AK,AJ,AP,Int.reduceEq,Int.reduceLE,decide_true,decide_false,AY,AX,AZ,Ac,AL,AD,AH,AE,AC,if_true,Bool.false_eq_true,if_false,AB,AA,c21,Bp (f:=fun k=>ldS k (.ptr (some (g.next,0+2)))) (h:=hpN g1 1) p1,AM,p2,p3];rfl)
  refine Ao (M7 i.c i.d (hpN g1 1)) ?_
  intro v2 g2 h2
  simp only at h2
  have hlt:g1.next<g2.next:=by have:=h2.same.next;simp only [hpN] at this;omega
  have hput:Same [] h (g2.put (g1.next+0) (some (.cells true (wI [i.b])))):=(s2.trans (sp.trans h2.same)).old (Same.put _ _ _) (fun j hj=>.inr (by simp at hj;have:=s2.next;omega))
  have hrd:RdW (g2.put (g1.next+0) (some (.cells true (wI [i.b])))) 1 v2 (wI (runL i.c i.d)) (runL i.c i.d).length:=by
   refine⟨by simp [wI],?_⟩
   rcases h2.eq with⟨e1,e2⟩ | ⟨b,c,rest,e1,e2,e3,_,e5,_⟩
   ·exact .inl ⟨e1,by rw [e2];rfl⟩
   ·exact .inr ⟨b,0,c,e1,e3,fun _=>⟨true,[],rest,rfl,by rw [Bd (by simp only [hpN] at e2;omega)];simpa using e5⟩⟩
  obtain⟨v3,g3,e3,h3,h4⟩:=Mb (h0:=h) (b:=g1.next+0) (x:=i.b) An (by have:=s2.next;omega) (by simp only [Heap.next_put];omega) hput hrd (by have:=HC i.c i.d;omega)
  refine Ah (v:=v3) (g:=g3) (by
   simp -implicitDefEqProofs only [bs1,Eu,AE]
   show cl (appendA (g2.put (g1.next+0) (some (.cells true (wI [i.b])))) 1 8 (.sl (some (g1.next+0,0)) 1 (.ex 1)) v2) _=_
   rw [e3,AE]
   exact I9 (Fg _ _) p1 (by rw [later g2 _ (sp.trans h2.same)];exact l2)) ?_
  rw [show readsL m i=i.b::runL i.c i.d by simp only [readsL,c21,Int.reduceEq,Int.reduceLE,true_or,or_true,false_or,or_false,or_self,and_self,and_true,true_and,and_false,false_and,if_true,if_false,ite_true]]
  exact h3
 by_cases c22:i.op=22
 ·refine Ok.eq ?_ (by simp -implicitDefEqProofs only [Ak,hbx,hbi,Af,hg,hg1,AF,Option.bind_some,l0,AK,AJ,AP,Int.reduceEq,Int.reduceLE,decide_true,decide_false,AY,AX,AZ,Ac,AL,AD,AH,AE,AC,if_true,Bool.false_eq_true,if_false,AB,AA,c22,l1,bs1];rfl)
  refine Ao (Jw (Lst.lit (Same.refl [] g1) [i.a]) (by simp)) ?_
  intro v2 g2 h2
  refine Ah (v:=v2) (g:=g2) rfl ?_
  rw [show readsL m i=gvn [i.a] by simp only [readsL,c22,Int.reduceEq,Int.reduceLE,true_or,or_true,false_or,or_false,or_self,and_self,and_true,true_and,and_false,false_and,if_true,if_false,ite_true]]
  exact Lst.old h2 s2
 by_cases c23:i.op=23
 ·refine Ok.eq ?_ (by simp -implicitDefEqProofs only [Ak,hbx,hbi,Af,hg,hg1,AF,Option.bind_some,l0,AK,AJ,AP,Int.reduceEq,Int.reduceLE,decide_true,decide_false,AY,AX,AZ,Ac,AL,AD,AH,AE,AC,if_true,Bool.false_eq_true,if_false,AB,AA,c23,Bp (f:=fun k=>ldS k (.ptr (some (g.next,0+2)))) (h:=g1) l2,AM,B1.la,l1];rfl)
  refine Ao (RA B1.rd i.a) ?_
  rintro _ g2 ⟨s3,rest,rfl⟩
  simp only at s3
  refine Ok.eq ?_ (by simp -implicitDefEqProofs only [fvS0,Option.bind_some];rfl)
  refine Ao (M7 i.b (fnP m i.a) g2) ?_
  intro v2 g3 h3
  simp only at h3
  refine Ah (v:=v2) (g:=g3) (I9 (Fg _ _) l2 (by rw [later g2 _ s3];exact l2)) ?_
  rw [show readsL m i=runL i.b (fnP m i.a) by simp only [readsL,c23,Int.reduceEq,Int.reduceLE,true_or,or_true,false_or,or_false,or_self,and_self,and_true,true_and,and_false,false_and,if_true,if_false,ite_true]]
  exact h3.old (s2.trans s3)
 by_cases c24:i.op=24
 ·have sp:=FM g1 1
  have p1:ldS (hpN g1 1) (.ptr (some (g.next,0+1)))=some (.int .i64 i.a):=by rw [later _ _ sp];exact l1
  have p2:ldS (hpN g1 1) (.ptr (some (g.next,0+2)))=some (.int .i64 i.b):=by rw [later _ _ sp];exact l2
  have p3:ldS (hpN g1 1) (.ptr (some (g.next,0+3)))=some (.int .i64 i.c):=by rw [later _ _ sp];exact l3
  refine Ok.eq ?_ (by simp -implicitDefEqProofs only [Ak,hbx,hbi,Af,hg,hg1,AF,Option.bind_some,l0,AK,AJ,AP,Int.reduceEq,Int.reduceLE,decide_true,decide_false,AY,AX,AZ,Ac,AL,AD,AH,AE,AC,if_true,Bool.false_eq_true,if_false,AB,AA,c24,Bp (f:=fun k=>ldS k (.ptr (some (g.next,0+1)))) (h:=hpN g1 1) p1,AM,p2,p3];rfl)
  refine Ao (M7 i.b i.c (hpN g1 1)) ?_
  intro v2 g2 h2
  simp only at h2
  have hlt:g1.next<g2.next:=by have:=h2.same.next;simp only [hpN] at this;omega
  have hput:Same [] h (g2.put (g1.next+0) (some (.cells true (wI [i.a])))):=(s2.trans (sp.trans h2.same)).old (Same.put _ _ _) (fun j hj=>.inr (by simp at hj;have:=s2.next;omega))
  have hrd:RdW (g2.put (g1.next+0) (some (.cells true (wI [i.a])))) 1 v2 (wI (runL i.b i.c)) (runL i.b i.c).length:=by
   refine⟨by simp [wI],?_⟩
   rcases h2.eq with⟨e1,e2⟩ | ⟨b,c,rest,e1,e2,e3,_,e5,_⟩
   ·exact .inl ⟨e1,by rw [e2];rfl⟩
   ·exact .inr ⟨b,0,c,e1,e3,fun _=>⟨true,[],rest,rfl,by rw [Bd (by simp only [hpN] at e2;omega)];simpa using e5⟩⟩
  obtain⟨v3,g3,e3,h3,h4⟩:=Mb (h0:=h) (b:=g1.next+0) (x:=i.a) An (by have:=s2.next;omega) (by simp only [Heap.next_put];omega) hput hrd (by have:=HC i.b i.c;omega)
  refine Ah (v:=v3) (g:=g3) (by
   simp -implicitDefEqProofs only [bs1,Eu,AE]
   show cl (appendA (g2.put (g1.next+0) (some (.cells true (wI [i.a])))) 1 8 (.sl (some (g1.next+0,0)) 1 (.ex 1)) v2) _=_
   rw [e3,AE]
   exact I9 (Fg _ _) p1 (by rw [later g2 _ (sp.trans h2.same)];exact l1)) ?_
  rw [show readsL m i=i.a::runL i.b i.c by simp only [readsL,c24,Int.reduceEq,Int.reduceLE,true_or,or_true,false_or,or_false,or_self,and_self,and_true,true_and,and_false,false_and,if_true,if_false,ite_true]]
  exact h3
 by_cases c26:i.op=26
 ·exact Ah (v:=.sl (some (g1.next,0)) 1 (.ex 1)) (g:=g1.new (.cells true (wI [i.c]))) (by simp -implicitDefEqProofs only [Ak,hbx,hbi,Af,hg,hg1,AF,Option.bind_some,l0,AK,AJ,AP,Int.reduceEq,Int.reduceLE,decide_true,decide_false,AY,AX,AZ,Ac,AL,AD,AH,AE,AC,if_true,Bool.false_eq_true,if_false,AB,AA,c26,l3,bs1]) (by rw [show readsL m i = [i.c] by simp only [readsL,c26,Int.reduceEq,Int.reduceLE,true_or,or_true,false_or,or_false,or_self,and_self,and_true,true_and,and_false,false_and,if_true,if_false,ite_true]];exact Lst.lit s2 [i.c])
 by_cases c37:i.op=37
 ·exact Ah (v:=.sl (some (g1.next,0)) 1 (.ex 1)) (g:=g1.new (.cells true (wI [i.c]))) (by simp -implicitDefEqProofs only [Ak,hbx,hbi,Af,hg,hg1,AF,Option.bind_some,l0,AK,AJ,AP,Int.reduceEq,Int.reduceLE,decide_true,decide_false,AY,AX,AZ,Ac,AL,AD,AH,AE,AC,if_true,Bool.false_eq_true,if_false,AB,AA,c37,l3,bs1]) (by rw [show readsL m i = [i.c] by simp only [readsL,c37,Int.reduceEq,Int.reduceLE,true_or,or_true,false_or,or_false,or_self,and_self,and_true,true_and,and_false,false_and,if_true,if_false,ite_true]];exact Lst.lit s2 [i.c])
 by_cases c28:i.op=28
 ·exact Ah (v:=.sl (some (g1.next,0)) 2 (.ex 2)) (g:=g1.new (.cells true (wI [i.a,i.c]))) (by simp -implicitDefEqProofs only [Ak,hbx,hbi,Af,hg,hg1,AF,Option.bind_some,l0,AK,AJ,AP,Int.reduceEq,Int.reduceLE,decide_true,decide_false,AY,AX,AZ,Ac,AL,AD,AH,AE,AC,if_true,Bool.false_eq_true,if_false,AB,AA,c28,l1,l3,bs2]) (by rw [show readsL m i = [i.a,i.c] by simp only [readsL,c28,Int.reduceEq,Int.reduceLE,true_or,or_true,false_or,or_false,or_self,and_self,and_true,true_and,and_false,false_and,if_true,if_false,ite_true]];exact Lst.lit s2 [i.a,i.c])
 by_cases c29:i.op=29
 ·exact Ah (v:=.sl (some (g1.next,0)) 2 (.ex 2)) (g:=g1.new (.cells true (wI [i.a,i.c]))) (by simp -implicitDefEqProofs only [Ak,hbx,hbi,Af,hg,hg1,AF,Option.bind_some,l0,AK,AJ,AP,Int.reduceEq,Int.reduceLE,decide_true,decide_false,AY,AX,AZ,Ac,AL,AD,AH,AE,AC,if_true,Bool.false_eq_true,if_false,AB,AA,c29,l1,l3,bs2]) (by rw [show readsL m i = [i.a,i.c] by simp only [readsL,c29,Int.reduceEq,Int.reduceLE,true_or,or_true,false_or,or_false,or_self,and_self,and_true,true_and,and_false,false_and,if_true,if_false,ite_true]];exact Lst.lit s2 [i.a,i.c])
 by_cases c31:i.op=31
 ·exact Ah (v:=.sl (some (g1.next,0)) 3 (.ex 3)) (g:=g1.new (.cells true (wI [i.a,i.b,i.c]))) (by simp -implicitDefEqProofs only [Ak,hbx,hbi,Af,hg,hg1,AF,Option.bind_some,l0,AK,AJ,AP,Int.reduceEq,Int.reduceLE,decide_true,decide_false,AY,AX,AZ,Ac,AL,AD,AH,AE,AC,if_true,Bool.false_eq_true,if_false,AB,AA,c31,l1,l2,l3,bs3]) (by rw [show readsL m i = [i.a,i.b,i.c] by simp only [readsL,c31,Int.reduceEq,Int.reduceLE,true_or,or_true,false_or,or_false,or_self,and_self,and_true,true_and,and_false,false_and,if_true,if_false,ite_true]];exact Lst.lit s2 [i.a,i.b,i.c])
 by_cases c32:i.op=32
 ·exact Ah (v:=.sl (some (g1.next,0)) 3 (.ex 3)) (g:=g1.new (.cells true (wI [i.a,i.b,i.c]))) (by simp -implicitDefEqProofs only [Ak,hbx,hbi,Af,hg,hg1,AF,Option.bind_some,l0,AK,AJ,AP,Int.reduceEq,Int.reduceLE,decide_true,decide_false,AY,AX,AZ,Ac,AL,AD,AH,AE,AC,if_true,Bool.false_eq_true,if_false,AB,AA,c32,l1,l2,l3,bs3]) (by rw [show readsL m i = [i.a,i.b,i.c] by simp only [readsL,c32,Int.reduceEq,Int.reduceLE,true_or,or_true,false_or,or_false,or_self,and_self,and_true,true_and,and_false,false_and,if_true,if_false,ite_true]];exact Lst.lit s2 [i.a,i.b,i.c])
 by_cases c36:i.op=36
 ·refine Ok.eq ?_ (by simp -implicitDefEqProofs only [Ak,hbx,hbi,Af,hg,hg1,AF,Option.bind_some,l0,AK,AJ,AP,Int.reduceEq,Int.reduceLE,decide_true,decide_false,AY,AX,AZ,Ac,AL,AD,AH,AE,AC,if_true,Bool.false_eq_true,if_false,AB,AA,c36,Bp (f:=fun k=>ldS k (.ptr (some (g.next,0+3)))) (h:=g1) l3,AM,B1.la,l2];rfl)
  refine Ao (RA B1.rd i.b) ?_
  rintro _ g2 ⟨s3,rest,rfl⟩
  simp only at s3
  refine Ok.eq ?_ (by simp -implicitDefEqProofs only [fvS1,Option.bind_some];rfl)
  refine Ao (M7 i.c (fnC m i.b) g2) ?_
  intro v2 g3 h3
  simp only at h3
  refine Ah (v:=v2) (g:=g3) (I9 (Fg _ _) l3 (by rw [later g2 _ s3];exact l3)) ?_
  rw [show readsL m i=runL i.c (fnC m i.b) by simp only [readsL,c36,Int.reduceEq,Int.reduceLE,true_or,or_true,false_or,or_false,or_self,and_self,and_true,true_and,and_false,false_and,if_true,if_false,ite_true]]
  exact h3.old (s2.trans s3)
 by_cases c38:i.op=38
 ·exact Ah (v:=.sl (some (g1.next,0)) 2 (.ex 2)) (g:=g1.new (.cells true (wI [i.a,i.b]))) (by simp -implicitDefEqProofs only [Ak,hbx,hbi,Af,hg,hg1,AF,Option.bind_some,l0,AK,AJ,AP,Int.reduceEq,Int.reduceLE,decide_true,decide_false,AY,AX,AZ,Ac,AL,AD,AH,AE,AC,if_true,Bool.false_eq_true,if_false,AB,AA,c38,l1,l2,bs2]) (by rw [show readsL m i = [i.a,i.b] by simp only [readsL,c38,Int.reduceEq,Int.reduceLE,true_or,or_true,false_or,or_false,or_self,and_self,and_true,true_and,and_false,false_and,if_true,if_false,ite_true]];exact Lst.lit s2 [i.a,i.b])
 by_cases c41:i.op=41
 ·refine Ok.eq ?_ (by simp -implicitDefEqProofs only [Ak,hbx,hbi,Af,hg,hg1,AF,Option.bind_some,l0,AK,AJ,AP,Int.reduceEq,Int.reduceLE,decide_true,decide_false,AY,AX,AZ,Ac,AL,AD,AH,AE,AC,if_true,Bool.false_eq_true,if_false,AB,AA,c41,B1.la,la];rfl)
  refine Ao (LS B1.rd i hw.2.1 hw.2.2.1) ?_
  rintro v2 g2 ⟨s3,h3⟩
  simp only at s3 h3
  have hcl:(casesOf m i.a i.b).length≤m.cases.length:=by
   unfold casesOf
   split
   ·simp
   ·simp only [List.length_take,List.length_drop];omega
  refine Ao (OL h3 (by omega)) ?_
  intro v3 g3 h4
  refine Ah (v:=v3) (g:=g3) rfl ?_
  rw [show readsL m i=readsOfL (casesOf m i.a i.b) by simp only [readsL,c41,Int.reduceEq,Int.reduceLE,true_or,or_true,false_or,or_false,or_self,and_self,and_true,true_and,and_false,false_and,if_true,if_false,ite_true]]
  exact Lst.old h4 (s2.trans s3)
 have hr:(3≤i.op)=True∧(i.op≤16)=False∨(3≤i.op)=False:=by
  by_cases h3:3≤i.op
  ·exact .inl ⟨by simp [h3],by simp;omega⟩
  ·exact .inr (by simp [h3])
 rcases hr with⟨r1,r2⟩ | r1
 ·refine Ah (v:=.sl none 0 (.ex 0)) (g:=g1) (by simp -implicitDefEqProofs only [Ak,hbx,hbi,Af,hg,hg1,AF,Option.bind_some,l0,AK,AJ,AP,Int.reduceEq,Int.reduceLE,decide_true,decide_false,AY,AX,AZ,Ac,AL,AD,AH,AE,AC,if_true,Bool.false_eq_true,if_false,AB,AA,c1,c17,c33,c35,c27,c39,c30,c19,c40,c42,c20,c21,c22,c23,c24,c26,c37,c28,c29,c31,c32,c36,c38,c41,r1,r2]) ?_
  rw [show readsL m i = [] by simp only [readsL,c1,c17,c33,c35,c27,c39,c30,c19,c40,c42,c20,c21,c22,c23,c24,c26,c37,c28,c29,c31,c32,c36,c38,c41,r1,r2,or_self,and_false,if_false]]
  exact Lst.mt s2
 ·refine Ah (v:=.sl none 0 (.ex 0)) (g:=g1) (by simp -implicitDefEqProofs only [Ak,hbx,hbi,Af,hg,hg1,AF,Option.bind_some,l0,AK,AJ,AP,Int.reduceEq,Int.reduceLE,decide_true,decide_false,AY,AX,AZ,Ac,AL,AD,AH,AE,AC,if_true,Bool.false_eq_true,if_false,AB,AA,c1,c17,c33,c35,c27,c39,c30,c19,c40,c42,c20,c21,c22,c23,c24,c26,c37,c28,c29,c31,c32,c36,c38,c41,r1]) ?_
  rw [show readsL m i = [] by simp only [readsL,c1,c17,c33,c35,c27,c39,c30,c19,c40,c42,c20,c21,c22,c23,c24,c26,c37,c28,c29,c31,c32,c36,c38,c41,r1,or_self,false_and,if_false]]
  exact Lst.mt s2
set_option linter.unusedSimpArgs false
attribute [local congr] BI D1 Dy D2 Bu D3 Dz Aw Av
structure FnB (g:Heap)(p:Nat)(f:Fn)(kv cv mv:AV):Prop where
 at_:∃ w,g.get p=some (.cells w [.int .i64 f.pa,.int .i64 f.ca,.int .i64 f.sl,.int .i64 f.re,kv,cv,mv])
 lt:p<g.next
 rd:FnRd g [.int .i64 f.pa,.int .i64 f.ca,.int .i64 f.sl,.int .i64 f.re,kv,cv,mv] f
 ks:RdW g 1 kv (f.kinds.map AV.bool) f.kinds.length
 cs:RwC g 5 cv (f.code.map Ins.row)
theorem FnRd.box {h:Heap}{r:List AV}{f:Fn}(H:FnRd h r f):∃ kv cv mv,r = [.int .i64 f.pa,.int .i64 f.ca,.int .i64 f.sl,.int .i64 f.re,kv,cv,mv]∧
  bxP (.agg r)=some (.cells true r,fun i=>.ptr (some (i,0)))∧∀ g,Same [] h g→FnB (g.new (.cells true r)) g.next f kv cv mv:=by
 have H0:=H
 obtain⟨kv,cv,mv,rfl,h1,h2,h3,h4⟩:=H
 refine⟨kv,cv,mv,rfl,GL H0.sc,fun g s=>?_⟩
 have s':Same [] h (g.new (.cells true [.int .i64 f.pa,.int .i64 f.ca,.int .i64 f.sl,.int .i64 f.re,kv,cv,mv])):=s.trans (Same.new _ _)
 have mo:∀ j,j<h.next→(g.new (.cells true [.int .i64 f.pa,.int .i64 f.ca,.int .i64 f.sl,.int .i64 f.re,kv,cv,mv])).get j=h.get j:=fun j hj=>s'.get j hj (by simp)
 exact⟨⟨true,Am⟩,Nat.lt_succ_self _,H0.mono s'.next mo,h1.mono s'.next mo,h2.mono s'.next mo⟩
theorem FnB.mono {g g':Heap}{p:Nat}{f:Fn}{kv cv mv:AV}(H:FnB g p f kv cv mv)(s:Same [] g g'):FnB g' p f kv cv mv:=by
 have mo:∀ j,j<g.next→g'.get j=g.get j:=fun j hj=>s.get j hj (by simp)
 obtain⟨⟨w,h1⟩,h2,h3,h4,h5⟩:=H
 exact⟨⟨w,by rw [mo p h2];exact h1⟩,Nat.lt_of_lt_of_le h2 s.next,h3.mono s.next mo,h4.mono s.next mo,h5.mono s.next mo⟩
section
variable {g:Heap}{p:Nat}{f:Fn}{kv cv mv:AV}(H:FnB g p f kv cv mv)
include H
theorem FnB.l4:ldS g (.ptr (some (p,0+4)))=some kv:=by obtain⟨w,h⟩:=H.at_;rw [Ai h];rfl
theorem FnB.l5:ldS g (.ptr (some (p,0+5)))=some cv:=by obtain⟨w,h⟩:=H.at_;rw [Ai h];rfl
theorem FnB.la:ldA 7 g (.ptr (some (p,0)))=some (.agg [.int .i64 f.pa,.int .i64 f.ca,.int .i64 f.sl,.int .i64 f.re,kv,cv,mv]):=by obtain⟨w,h⟩:=H.at_;rw [Eo h];rfl
theorem FnB.ln4:lnL kv=some (.int .i64 f.kinds.length):=H.ks.lnL
theorem FnB.ln5:lnL cv=some (.int .i64 f.code.length):=by have:=H.cs.lnL;rwa [List.length_map] at this
theorem FnB.wf {i:Ins}(hi:i∈f.code):i.wf:=by
 obtain⟨_,_,_,_,_,_,_,_,_,_,_,_,_,_,_,_,_,h,_⟩:=H.rd
 exact h i hi
theorem FnB.bnd:f.code.length≤maxLen∧f.kinds.length≤maxLen:=by
 obtain⟨_,_,_,_,_,_,_,_,_,_,_,h1,h2,_⟩:=H.rd
 exact⟨h2,h1⟩
theorem FnB.code {i:Nat}{x:Ins}(hx:f.code[i]?=some x):∃ b o,(∀ k,iaS 5 cv (.int k (i:Int))=some (.ptr (some (b,o))))∧ldA 5 g (.ptr (some (b,o)))=some (.agg x.row)∧ldS g (.ptr (some (b,o+0)))=some (.int .i64 x.op):=by
 obtain⟨b,o,_,hix,hla,hls⟩:=H.cs.at (i:=i) (r:=x.row) (by rw [List.getElem?_map,hx];rfl)
 exact⟨b,o,hix,hla,hls 0 _ rfl⟩
end
def outB (f:Fn)(n:Int):Bool:=decide (n < 0)||decide ((f.code.length:Int)≤n)
theorem NT {g:Heap}{p:Nat}{f:Fn}{cv:AV}(h5:ldS g (.ptr (some (p,0+5)))=some cv)(hn:lnL cv=some (.int .i64 f.code.length))(n:Int):C4 (.int .i64 n) (.ptr (some (p,0))) g=some (.bool (outB f n),g):=by
 unfold outB
 by_cases c1:n < 0
 ·simp -implicitDefEqProofs only [C4,AG,c1,decide_true,Option.bind_some,AY,AD,AC,if_true,Bool.true_or]
 ·simp -implicitDefEqProofs only [C4,AG,c1,decide_false,Option.bind_some,AX,AH,AE,AF,h5,hn,AJ,AC,Bool.false_eq_true,if_false,Bool.false_or]
theorem KX {g:Heap}{p:Nat}{f:Fn}{kv cv mv:AV}(H:FnB g p f kv cv mv){h:Heap}(s:Same [] g h){S:List Nat}(hS:p∉S) :
  Tst (lookT T21) (AV.fn 124 [] [.ptr (some (p,0))]) (outB f) h S∧Tst (lookT T22) (AV.fn 124 [] [.ptr (some (p,0))]) (outB f) h S:=by
 have e:∀ g' (n:Int),Same S h g'→C4 (.int .i64 n) (.ptr (some (p,0))) g'=some (.bool (outB f n),g'):=fun g' n s'=>by
  refine NT (cv:=cv) ?_ H.ln5 n
  have H':=H.mono s
  obtain⟨w,hw⟩:=H'.at_
  rw [Ai (by rw [s'.get p H'.lt hS];exact hw)];rfl
 exact⟨fun g' n s'=>⟨124,[.int .i64 n,.ptr (some (p,0))],rfl,e g' n s'⟩,fun g' n s'=>⟨124,[.int .i64 n,.ptr (some (p,0))],rfl,e g' n s'⟩⟩
def rawL (m:Md)(pc:Int)(i:Ins):List Int:=
 if i.op=18 then [i.a]
 else if i.op=19 then [i.b,IntKind.i64.wrap (pc+1)]
 else if i.op=22 then []
 else if i.op=44 then []
 else if i.op=41 then(casesOf m i.a i.b).map Cas.to
 else [IntKind.i64.wrap (pc+1)]
def inL (f:Fn)(l:List Int):List Int:=cpt (isort (l.filter fun n=>!outB f n))
def insAt (f:Fn)(pc:Int):Option Ins:=if pc < 0 then none else f.code[pc.toNat]?
def followsL (m:Md)(f:Fn)(pc:Int):List Int:=
 match insAt f pc with
 | some i=>inL f (rawL m pc i)
 | none=>[]
theorem Pr {f:Fn}{l:List Int}{n:Int}:n∈inL f l↔n∈l∧0≤n∧n<f.code.length:=by
 unfold inL
 rw [O9,(FH _).mem_iff,List.mem_filter]
 simp only [outB,Bool.not_or,Bool.and_eq_true,Bool.not_eq_true',decide_eq_false_iff_not,Int.not_lt,Int.not_le]
theorem Ot (f:Fn)(l:List Int):(inL f l).length≤l.length:=by
 unfold inL
 have h1:=Og (isort (l.filter fun n=>!outB f n))
 have h2:=(FH (l.filter fun n=>!outB f n)).length_eq
 have h3:=List.length_filter_le (fun n=>!outB f n) l
 omega
theorem La {m:Md}(hs:m.cases.length≤60)(pc:Int)(i:Ins):(rawL m pc i).length≤60:=by
 have hcl:(casesOf m i.a i.b).length≤m.cases.length:=by
  unfold casesOf
  split
  ·simp
  ·simp only [List.length_take,List.length_drop];omega
 unfold rawL
 split
 ·simp
 ·split
  ·simp
  ·split
   ·simp
   ·split
    ·simp
    ·split
     ·simp;omega
     ·simp
theorem NN {R:Type}{h0 g h:Heap}{p:Nat}{f:Fn}{kv cv mv v:AV}{l:List Int}(B:FnB g p f kv cv mv)(s:Same [] g h)(H:Lst g h v l)(hl:l.length≤1048576)(hs:Same [] h0 g){K:AV→Heap→Option R}{Q:R→Prop}
  (hk:∀ w g',Lst h0 g' w (inL f l)→Ok (K w g') Q) :
  Ok (cl (BK v (AV.fn 124 [] [.ptr (some (p,0))]) h) fun t h'=>cl (CE t h') fun _ h''=>cl (BU t h'') K) Q:=by
 have fl:(l.filter fun n=>!outB f n).length≤l.length:=List.length_filter_le _ _
 refine Ao (Mj H (by omega) (KX B s (by simp)).1 fun b n c e=>(KX B s ?_).2) ?_
 ·rcases H.eq with⟨rfl,_⟩ | ⟨b',c',rest,rfl,hb1,_⟩
  ·cases e
  ·cases e
   have:=B.lt
   simp only [List.mem_singleton]
   omega
 ·intro t h' h1
  simp only at h1
  refine Ao (Qy h1 (by omega)) ?_
  intro _ h'' h2
  simp only at h2
  have il:(isort (l.filter fun n=>!outB f n)).length≤l.length:=by rw [(FH _).length_eq];exact fl
  refine Ao (OP h2 (by omega)) ?_
  intro w g' h3
  exact hk w g' (h3.old hs)
theorem OM {g h:Heap}{v:AV}{cs:List Cas}(H:RwC h 4 v (cs.map Cas.row))(hs:Same [] g h)(hl:cs.length≤1048576) :
  Ok (Gq v (.int .i64 cs.length) (.sl none 0 (.ex 0)) (.int .i64 0) h) fun r=>r.1 = .exit 1∧∃ q,r.2.1.getD 0 .bot=q∧Lst g r.2.2 q (cs.map Cas.to):=by
 refine BF (fun k vs g'=>∃ (i:Nat) (q:AV) (b:Option Nat),vs = [q,.int .i64 i]∧k+i=cs.length∧SlB g' b 1 q (wI ((cs.take i).map Cas.to)) i∧(∀ j,b=some j→h.next≤j)∧Same [] h g') ?_ (n:=cs.length) (by omega)
  ⟨0,_,none,rfl,rfl,SlB.mt,(fun j hj=>by cases hj),Same.refl _ _⟩
 rintro k vs g' ⟨i,q,b,rfl,hk,hq,hb,s⟩
 rw [gD0,gD1]
 by_cases hi:i<cs.length
 ·obtain⟨c,hc⟩:∃ c,cs[i]?=some c:=⟨_,List.getElem?_eq_getElem hi⟩
  have hi':(i:Int)<cs.length:=by omega
  obtain⟨b2,o2,hb2,hix,hla,hls⟩:=(H.mono s.next (fun j hj=>s.get j hj (by simp))).at (i:=i) (r:=c.row) (by rw [List.getElem?_map,hc];rfl)
  refine Ok.eq ?_ (by simp -implicitDefEqProofs only [FJ,AG,hi',decide_true,Option.bind_some,AB,hix,hla];rfl)
  refine EV (cs:=c.row) (n:=4) (by rfl) (by rfl) (Cas.sc c) fun g2 s' n' hg'=>?_
  have l3:ldS g2 (.ptr (some (g'.next,0+3)))=some (.int .i64 c.to):=by rw [Ai hg'];rfl
  have hq':=hq.same s' (fun j _=>by simp)
  refine Ok.eq ?_ (by simp -implicitDefEqProofs only [AF,Option.bind_some,l3];rfl)
  refine app1 hq' rfl rfl rfl (by decide) (by omega) fun v' g3 h3 s3 n3=>?_
  have e:wI ((cs.take i).map Cas.to)++(AV.int .i64 c.to).cells=wI ((cs.take (i+1)).map Cas.to):=by rw [List.take_add_one,hc];simp [wI,AV.cells]
  rw [e] at h3
  refine(Ok.of (r:=(.normal,[v',.int .i64 ((i+1:Nat):Int)],g3)) (.inl ⟨rfl,k - 1,by omega,i+1,v',some (g2.next+1),rfl,by omega,h3,fun j hj=>?_,?_⟩)).eq (by simp -implicitDefEqProofs only [Ap,suc64 i (by omega),Option.bind_some])
  ·cases hj;have:=s.next;omega
  ·exact(s.trans s').old s3 fun j hj=>by
    cases b with
    | none=>simp at hj
    | some x=>simp at hj;subst hj;exact .inr (hb _ rfl)
 ·have hi' : ¬ (i:Int)<cs.length:=by omega
  refine(Ok.of (r:=(.exit 1,[q,.int .i64 (i:Int)],g')) (.inr ⟨by simp,rfl,q,rfl,?_⟩)).eq (by simp -implicitDefEqProofs only [FJ,AG,hi',decide_false,Option.bind_some,AA])
  have htk:cs.take i=cs:=List.take_of_length_le (by omega)
  rw [htk] at hq
  exact(Lst.of_slb hq hb s).old hs
theorem K9 {h:Heap}{v:AV}{r:List AV}{m:Md}{f:Fn}(H:MdRd h v m)(F:FnRd h r f)(pc:Int)(hs:m.cases.length≤60)(hw:wfI pc) :
  Ok (CZ v (.agg r) (.int .i64 pc) h) fun r=>Lst h r.2 r.1 (followsL m f pc):=by
 obtain⟨kv,cv,mv,rfl,hbf,FB⟩:=F.box
 obtain⟨sv,gv,cv0,cv',fv,rfl,hbx,B⟩:=H.box
 have s0:Same [] h (h.new (.cells true [sv,gv,cv0,cv',fv,.int .i64 m.main])):=Same.new _ _
 have FB:=FB _ s0
 generalize hg:h.new (.cells true [sv,gv,cv0,cv',fv,.int .i64 m.main])=g at *
 have s1:Same [] g (g.new (.cells true [.int .i64 f.pa,.int .i64 f.ca,.int .i64 f.sl,.int .i64 f.re,kv,cv,mv])):=Same.new _ _
 have B1:=B.mono s1
 generalize hg1:g.new (.cells true [.int .i64 f.pa,.int .i64 f.ca,.int .i64 f.sl,.int .i64 f.re,kv,cv,mv])=g1 at *
 have s2:Same [] h g1:=s0.trans s1
 have hm:=FB.bnd.1
 rw [mxl] at hm
 by_cases c1:pc < 0
 ·refine Ah (v:=.sl none 0 (.ex 0)) (g:=g1) (by simp -implicitDefEqProofs only [CZ,hbx,hbf,Af,hg,hg1,AG,c1,decide_true,Option.bind_some,AY,AD,AC,if_true,AB]) ?_
  rw [show followsL m f pc = [] by simp only [followsL,insAt,c1,if_true]]
  exact Lst.mt s2
 by_cases c2:(f.code.length:Int)≤pc
 ·refine Ah (v:=.sl none 0 (.ex 0)) (g:=g1) (by simp -implicitDefEqProofs only [CZ,hbx,hbf,Af,hg,hg1,AG,c1,c2,decide_true,decide_false,Option.bind_some,AX,AH,AE,AF,FB.l5,FB.ln5,AJ,AC,Bool.false_eq_true,if_false,AB]) ?_
  rw [show followsL m f pc = [] by
   have:f.code[pc.toNat]?=none:=List.getElem?_eq_none (by omega)
   simp only [followsL,insAt,c1,if_false,this]]
  exact Lst.mt s2
 obtain⟨i,hi⟩:∃ i,f.code[pc.toNat]?=some i:=⟨_,List.getElem?_eq_getElem (by omega)⟩
 have hfl:followsL m f pc=inL f (rawL m pc i):=by simp only [followsL,insAt,c1,if_false,hi]
 rw [hfl]
 have hiw:=FB.wf (List.mem_of_getElem? hi)
 obtain⟨b,o,hix,hla,hls⟩:=FB.code hi
 have hix:=hix .i64
 rw [show((pc.toNat:Nat):Int)=pc by omega] at hix
 refine Ok.eq ?_ (by simp -implicitDefEqProofs only [CZ,hbx,hbf,Af,hg,hg1,AG,c1,c2,decide_false,Option.bind_some,AX,AH,AE,AF,FB.l5,FB.ln5,AJ,AC,Bool.false_eq_true,if_false,AA,hix,hla];rfl)
 refine Er (cs:=i.row) (n:=5) (by rfl) (by rfl) (Ins.sc i) fun _ g2 s3 n3 hg2=>?_
 have hlen:=La hs pc i
 have l0:ldS g2 (.ptr (some (g1.next,0+0)))=some (.int .i64 i.op):=by rw [Ai hg2];rfl
 have l1:ldS g2 (.ptr (some (g1.next,0+1)))=some (.int .i64 i.a):=by rw [Ai hg2];rfl
 have l2:ldS g2 (.ptr (some (g1.next,0+2)))=some (.int .i64 i.b):=by rw [Ai hg2];rfl
 have la:ldA 5 g2 (.ptr (some (g1.next,0)))=some (.agg i.row):=by rw [Eo hg2];rfl
 have FB2:=FB.mono s3
 have B2:=B1.mono s3
 have fin:∀ (q:AV) (g':Heap),Lst g2 g' q (rawL m pc i)→Ok (CX (.ptr (some (g.next,0))) q g') fun r=>Lst h r.2 r.1 (inL f (rawL m pc i)):=fun q g' hq=>
  (NN FB2 hq.same hq (by omega) (s2.trans s3) (K:=fun t h=>some (t,h)) fun w g'' hw=>Ok.of (r:=(w,g'')) hw).eq (by
   simp -implicitDefEqProofs only [CX])
 by_cases o18:i.op=18
 ·have e:rawL m pc i = [i.a]:=by simp only [rawL,o18,if_true]
  refine(fin (.sl (some (g2.next,0)) 1 (.ex 1)) (g2.new (.cells true (wI [i.a]))) (by rw [e];exact Lst.lit (Same.refl _ _) [i.a])).eq (by
   simp -implicitDefEqProofs only [AF,Option.bind_some,l0,l1,AK,o18,decide_true,AB,bs1,Af])
 by_cases o19:i.op=19
 ·have e:rawL m pc i = [i.b,IntKind.i64.wrap (pc+1)]:=by simp only [rawL,o19,Int.reduceEq,if_true,if_false]
  refine(fin (.sl (some (g2.next,0)) 2 (.ex 2)) (g2.new (.cells true (wI [i.b,IntKind.i64.wrap (pc+1)]))) (by rw [e];exact Lst.lit (Same.refl _ _) [i.b,IntKind.i64.wrap (pc+1)])).eq (by
   simp -implicitDefEqProofs only [AF,Option.bind_some,l0,l2,AK,o19,Int.reduceEq,decide_true,decide_false,AB,AA,Ap,bs2,Af])
 by_cases o22:i.op=22
 ·have e:rawL m pc i = []:=by simp only [rawL,o22,Int.reduceEq,if_true,if_false]
  refine(fin (.sl none 0 (.ex 0)) g2 (by rw [e];exact Lst.mt (Same.refl _ _))).eq (by
   simp -implicitDefEqProofs only [AF,Option.bind_some,l0,AK,o22,Int.reduceEq,decide_true,decide_false,AB,AA,Cp])
 by_cases o44:i.op=44
 ·have e:rawL m pc i = []:=by simp only [rawL,o44,Int.reduceEq,if_true,if_false]
  refine(fin (.sl none 0 (.ex 0)) g2 (by rw [e];exact Lst.mt (Same.refl _ _))).eq (by
   simp -implicitDefEqProofs only [AF,Option.bind_some,l0,AK,o44,Int.reduceEq,decide_true,decide_false,AB,AA,Cp])
 by_cases o41:i.op=41
 ·have e:rawL m pc i=(casesOf m i.a i.b).map Cas.to:=by simp only [rawL,o41,Int.reduceEq,if_true,if_false]
  have hcl:(casesOf m i.a i.b).length≤60:=by rw [e,List.length_map] at hlen;exact hlen
  refine Ok.eq ?_ (by simp -implicitDefEqProofs only [AF,Option.bind_some,l0,AK,o41,Int.reduceEq,decide_true,decide_false,AB,AA,Cp,B2.la,la];rfl)
  refine Ao (LS B2.rd i hiw.2.1 hiw.2.2.1) ?_
  rintro v3 g3 ⟨s4,h3⟩
  simp only at s4 h3
  have hln:=h3.lnL
  rw [List.length_map] at hln
  refine Ok.eq ?_ (by simp -implicitDefEqProofs only [hln,Option.bind_some];rfl)
  refine CJ (OM h3 s4 (by omega)) ?_
  rintro _ vs g4 ⟨rfl,q,rfl,hq⟩
  simp only at hq
  rw [← e] at hq
  refine(fin _ g4 hq).eq (by
   simp -implicitDefEqProofs only [if_true,reduceCtorEq,if_false,Al,CX])
 ·have e:rawL m pc i = [IntKind.i64.wrap (pc+1)]:=by simp only [rawL,o18,o19,o22,o44,o41,if_false]
  refine(fin (.sl (some (g2.next,0)) 1 (.ex 1)) (g2.new (.cells true (wI [IntKind.i64.wrap (pc+1)]))) (by rw [e];exact Lst.lit (Same.refl _ _) [IntKind.i64.wrap (pc+1)])).eq (by
   simp -implicitDefEqProofs only [AF,Option.bind_some,l0,AK,o18,o19,o22,o44,o41,decide_false,AA,Cp,Ap,bs1,Af])
set_option linter.unusedSimpArgs false
attribute [local congr] BI D1 Dy D2 Bu D3 Dz Aw Av
def writesL (i:Ins):List Int:=
 if 0≤i.op∧i.op≤17∨25≤i.op∧i.op≤27∨i.op=30∨i.op=33∨i.op=34∨i.op=36∨i.op=37 then [i.a]
 else if i.op=20∨i.op=21 then gvn [i.a]
 else if i.op=39 then gvn [i.a,i.c]
 else []
theorem IP (i:Ins):(writesL i).length≤2:=by
 unfold writesL
 split
 ·simp
 ·split
  ·exact Nat.le_trans (List.length_filter_le _ _) (by simp)
  ·split
   ·exact List.length_filter_le _ _
   ·simp
theorem Ko {h:Heap}(i:Ins):Ok (BH (.agg i.row) h) fun r=>Lst h r.2 r.1 (writesL i):=by
 have hbi:=GL (Ins.sc i)
 have s2:Same [] h (h.new (.cells true i.row)):=Same.new _ _
 have gn:(h.new (.cells true i.row)).get h.next=some (.cells true i.row):=Am
 generalize hg1:h.new (.cells true i.row)=g1 at *
 have l0:ldS g1 (.ptr (some (h.next,0+0)))=some (.int .i64 i.op):=by rw [Ai gn];rfl
 have l1:ldS g1 (.ptr (some (h.next,0+1)))=some (.int .i64 i.a):=by rw [Ai gn];rfl
 have l3:ldS g1 (.ptr (some (h.next,0+3)))=some (.int .i64 i.c):=by rw [Ai gn];rfl
 by_cases r0:0≤i.op∧i.op≤17
 ·obtain⟨r1,r2⟩:=r0
  exact Ah (v:=.sl (some (g1.next,0)) 1 (.ex 1)) (g:=g1.new (.cells true (wI [i.a]))) (by simp -implicitDefEqProofs only [BH,hbi,Af,hg1,AF,Option.bind_some,l0,AK,AJ,AP,Int.reduceEq,Int.reduceLE,decide_true,decide_false,AY,AX,AZ,Ac,AL,AD,AH,AE,AC,if_true,Bool.false_eq_true,if_false,AB,AA,r1,r2,l1,bs1]) (by rw [show writesL i = [i.a] by simp only [writesL,r1,r2,Int.reduceEq,Int.reduceLE,true_or,or_true,false_or,or_false,or_self,and_self,and_true,true_and,and_false,false_and,if_true,if_false,ite_true]];exact Lst.lit s2 [i.a])
 have hq:(0≤i.op)=True∧(i.op≤17)=False∨(0≤i.op)=False:=by
  by_cases h3:0≤i.op
  ·exact .inl ⟨by simp [h3],by simp;omega⟩
  ·exact .inr (by simp [h3])
 by_cases r3:25≤i.op∧i.op≤27
 ·obtain⟨r4,r5⟩:=r3
  have q1:0≤i.op:=by omega
  have q2 : ¬ i.op≤17:=by omega
  exact Ah (v:=.sl (some (g1.next,0)) 1 (.ex 1)) (g:=g1.new (.cells true (wI [i.a]))) (by simp -implicitDefEqProofs only [BH,hbi,Af,hg1,AF,Option.bind_some,l0,AK,AJ,AP,Int.reduceEq,Int.reduceLE,decide_true,decide_false,AY,AX,AZ,Ac,AL,AD,AH,AE,AC,if_true,Bool.false_eq_true,if_false,AB,AA,q1,q2,r4,r5,l1,bs1]) (by rw [show writesL i = [i.a] by simp only [writesL,q1,q2,r4,r5,Int.reduceEq,Int.reduceLE,true_or,or_true,false_or,or_false,or_self,and_self,and_true,true_and,and_false,false_and,if_true,if_false,ite_true]];exact Lst.lit s2 [i.a])
 by_cases c30:i.op=30
 ·exact Ah (v:=.sl (some (g1.next,0)) 1 (.ex 1)) (g:=g1.new (.cells true (wI [i.a]))) (by simp -implicitDefEqProofs only [BH,hbi,Af,hg1,AF,Option.bind_some,l0,AK,AJ,AP,Int.reduceEq,Int.reduceLE,decide_true,decide_false,AY,AX,AZ,Ac,AL,AD,AH,AE,AC,if_true,Bool.false_eq_true,if_false,AB,AA,c30,l1,bs1]) (by rw [show writesL i = [i.a] by simp only [writesL,c30,Int.reduceEq,Int.reduceLE,true_or,or_true,false_or,or_false,or_self,and_self,and_true,true_and,and_false,false_and,if_true,if_false,ite_true]];exact Lst.lit s2 [i.a])
 by_cases c33:i.op=33
 ·exact Ah (v:=.sl (some (g1.next,0)) 1 (.ex 1)) (g:=g1.new (.cells true (wI [i.a]))) (by simp -implicitDefEqProofs only [BH,hbi,Af,hg1,AF,Option.bind_some,l0,AK,AJ,AP,Int.reduceEq,Int.reduceLE,decide_true,decide_false,AY,AX,AZ,Ac,AL,AD,AH,AE,AC,if_true,Bool.false_eq_true,if_false,AB,AA,c33,l1,bs1]) (by rw [show writesL i = [i.a] by simp only [writesL,c33,Int.reduceEq,Int.reduceLE,true_or,or_true,false_or,or_false,or_self,and_self,and_true,true_and,and_false,false_and,if_true,if_false,ite_true]];exact Lst.lit s2 [i.a])
 by_cases c34:i.op=34
 ·exact Ah (v:=.sl (some (g1.next,0)) 1 (.ex 1)) (g:=g1.new (.cells true (wI [i.a]))) (by simp -implicitDefEqProofs only [BH,hbi,Af,hg1,AF,Option.bind_some,l0,AK,AJ,AP,Int.reduceEq,Int.reduceLE,decide_true,decide_false,AY,AX,AZ,Ac,AL,AD,AH,AE,AC,if_true,Bool.false_eq_true,if_false,AB,AA,c34,l1,bs1]) (by rw [show writesL i = [i.a] by simp only [writesL,c34,Int.reduceEq,Int.reduceLE,true_or,or_true,false_or,or_false,or_self,and_self,and_true,true_and,and_false,false_and,if_true,if_false,ite_true]];exact Lst.lit s2 [i.a])
 by_cases c36:i.op=36
 ·exact Ah (v:=.sl (some (g1.next,0)) 1 (.ex 1)) (g:=g1.new (.cells true (wI [i.a]))) (by simp -implicitDefEqProofs only [BH,hbi,Af,hg1,AF,Option.bind_some,l0,AK,AJ,AP,Int.reduceEq,Int.reduceLE,decide_true,decide_false,AY,AX,AZ,Ac,AL,AD,AH,AE,AC,if_true,Bool.false_eq_true,if_false,AB,AA,c36,l1,bs1]) (by rw [show writesL i = [i.a] by simp only [writesL,c36,Int.reduceEq,Int.reduceLE,true_or,or_true,false_or,or_false,or_self,and_self,and_true,true_and,and_false,false_and,if_true,if_false,ite_true]];exact Lst.lit s2 [i.a])
 by_cases c37:i.op=37
 ·exact Ah (v:=.sl (some (g1.next,0)) 1 (.ex 1)) (g:=g1.new (.cells true (wI [i.a]))) (by simp -implicitDefEqProofs only [BH,hbi,Af,hg1,AF,Option.bind_some,l0,AK,AJ,AP,Int.reduceEq,Int.reduceLE,decide_true,decide_false,AY,AX,AZ,Ac,AL,AD,AH,AE,AC,if_true,Bool.false_eq_true,if_false,AB,AA,c37,l1,bs1]) (by rw [show writesL i = [i.a] by simp only [writesL,c37,Int.reduceEq,Int.reduceLE,true_or,or_true,false_or,or_false,or_self,and_self,and_true,true_and,and_false,false_and,if_true,if_false,ite_true]];exact Lst.lit s2 [i.a])
 by_cases c20:i.op=20
 ·refine Ok.eq ?_ (by simp -implicitDefEqProofs only [BH,hbi,Af,hg1,AF,Option.bind_some,l0,AK,AJ,AP,Int.reduceEq,Int.reduceLE,decide_true,decide_false,AY,AX,AZ,Ac,AL,AD,AH,AE,AC,if_true,Bool.false_eq_true,if_false,AB,AA,c20,l1,l3,bs1];rfl)
  refine Ao (Jw (Lst.lit (Same.refl [] g1) [i.a]) (by simp)) ?_
  intro v2 g2 h2
  refine Ah (v:=v2) (g:=g2) rfl ?_
  rw [show writesL i=gvn [i.a] by simp only [writesL,c20,Int.reduceEq,Int.reduceLE,true_or,or_true,false_or,or_false,or_self,and_self,and_true,true_and,and_false,false_and,if_true,if_false,ite_true]]
  exact Lst.old h2 s2
 by_cases c21:i.op=21
 ·refine Ok.eq ?_ (by simp -implicitDefEqProofs only [BH,hbi,Af,hg1,AF,Option.bind_some,l0,AK,AJ,AP,Int.reduceEq,Int.reduceLE,decide_true,decide_false,AY,AX,AZ,Ac,AL,AD,AH,AE,AC,if_true,Bool.false_eq_true,if_false,AB,AA,c21,l1,l3,bs1];rfl)
  refine Ao (Jw (Lst.lit (Same.refl [] g1) [i.a]) (by simp)) ?_
  intro v2 g2 h2
  refine Ah (v:=v2) (g:=g2) rfl ?_
  rw [show writesL i=gvn [i.a] by simp only [writesL,c21,Int.reduceEq,Int.reduceLE,true_or,or_true,false_or,or_false,or_self,and_self,and_true,true_and,and_false,false_and,if_true,if_false,ite_true]]
  exact Lst.old h2 s2
 by_cases c39:i.op=39
 ·refine Ok.eq ?_ (by simp -implicitDefEqProofs only [BH,hbi,Af,hg1,AF,Option.bind_some,l0,AK,AJ,AP,Int.reduceEq,Int.reduceLE,decide_true,decide_false,AY,AX,AZ,Ac,AL,AD,AH,AE,AC,if_true,Bool.false_eq_true,if_false,AB,AA,c39,l1,l3,bs2];rfl)
  refine Ao (Jw (Lst.lit (Same.refl [] g1) [i.a,i.c]) (by simp)) ?_
  intro v2 g2 h2
  refine Ah (v:=v2) (g:=g2) rfl ?_
  rw [show writesL i=gvn [i.a,i.c] by simp only [writesL,c39,Int.reduceEq,Int.reduceLE,true_or,or_true,false_or,or_false,or_self,and_self,and_true,true_and,and_false,false_and,if_true,if_false,ite_true]]
  exact Lst.old h2 s2
 have hr:(25≤i.op)=True∧(i.op≤27)=False∨(25≤i.op)=False:=by
  by_cases h3:25≤i.op
  ·exact .inl ⟨by simp [h3],by simp;omega⟩
  ·exact .inr (by simp [h3])
 have goal:Ok (some (AV.sl none 0 (.ex 0),g1)) fun r=>Lst h r.2 r.1 []:=Ok.of (r:=(AV.sl none 0 (.ex 0),g1)) (Lst.mt s2)
 rcases hq with⟨q1,q2⟩ | q1<;>rcases hr with⟨r1,r2⟩ | r1
 ·rw [show writesL i = [] by simp only [writesL,c30,c33,c34,c36,c37,c20,c21,c39,q1,q2,r1,r2,Int.reduceEq,Int.reduceLE,true_or,or_true,false_or,or_false,or_self,and_self,and_true,true_and,and_false,false_and,if_true,if_false,ite_true]]
  exact goal.eq (by simp -implicitDefEqProofs only [BH,hbi,Af,hg1,AF,Option.bind_some,l0,AK,AJ,AP,Int.reduceEq,Int.reduceLE,decide_true,decide_false,AY,AX,AZ,Ac,AL,AD,AH,AE,AC,if_true,Bool.false_eq_true,if_false,AB,AA,c30,c33,c34,c36,c37,c20,c21,c39,q1,q2,r1,r2])
 ·rw [show writesL i = [] by simp only [writesL,c30,c33,c34,c36,c37,c20,c21,c39,q1,q2,r1,Int.reduceEq,Int.reduceLE,true_or,or_true,false_or,or_false,or_self,and_self,and_true,true_and,and_false,false_and,if_true,if_false,ite_true]]
  exact goal.eq (by simp -implicitDefEqProofs only [BH,hbi,Af,hg1,AF,Option.bind_some,l0,AK,AJ,AP,Int.reduceEq,Int.reduceLE,decide_true,decide_false,AY,AX,AZ,Ac,AL,AD,AH,AE,AC,if_true,Bool.false_eq_true,if_false,AB,AA,c30,c33,c34,c36,c37,c20,c21,c39,q1,q2,r1])
 ·rw [show writesL i = [] by simp only [writesL,c30,c33,c34,c36,c37,c20,c21,c39,q1,r1,r2,Int.reduceEq,Int.reduceLE,true_or,or_true,false_or,or_false,or_self,and_self,and_true,true_and,and_false,false_and,if_true,if_false,ite_true]]
  exact goal.eq (by simp -implicitDefEqProofs only [BH,hbi,Af,hg1,AF,Option.bind_some,l0,AK,AJ,AP,Int.reduceEq,Int.reduceLE,decide_true,decide_false,AY,AX,AZ,Ac,AL,AD,AH,AE,AC,if_true,Bool.false_eq_true,if_false,AB,AA,c30,c33,c34,c36,c37,c20,c21,c39,q1,r1,r2])
 ·rw [show writesL i = [] by simp only [writesL,c30,c33,c34,c36,c37,c20,c21,c39,q1,r1,Int.reduceEq,Int.reduceLE,true_or,or_true,false_or,or_false,or_self,and_self,and_true,true_and,and_false,false_and,if_true,if_false,ite_true]]
  exact goal.eq (by simp -implicitDefEqProofs only [BH,hbi,Af,hg1,AF,Option.bind_some,l0,AK,AJ,AP,Int.reduceEq,Int.reduceLE,decide_true,decide_false,AY,AX,AZ,Ac,AL,AD,AH,AE,AC,if_true,Bool.false_eq_true,if_false,AB,AA,c30,c33,c34,c36,c37,c20,c21,c39,q1,r1])
end Go.Ab.F
namespace Go.Ab.F
open Go Go.Ab
set_option linter.all false
attribute [local congr] BI D1 Dy D2 Bu D3 Dz Aw Av
def w64 (a:BitVec 64):AV:=.int .u64 (a.toNat:Int)
def bitB (n:Int):BitVec 64:=if 0≤n∧n < 64 then 1#64 <<< n.toNat else 0#64
def bitsB (l:List Int):BitVec 64:=l.foldl (fun a n=>a ||| bitB n) 0#64
theorem P3 (a b:BitVec 64):binP .or (w64 a) (w64 b)=some (w64 (a ||| b)):=by
 unfold w64;rw [PL,D4,D4]
theorem Q3 (a b:BitVec 64):binP .and (w64 a) (w64 b)=some (w64 (a &&& b)):=by
 unfold w64;rw [Lq,D4,D4]
theorem Lj (a b:BitVec 64):binP .andNot (w64 a) (w64 b)=some (w64 (a &&& ~~~b)):=by
 unfold w64;rw [OS,D4,D4]
theorem NA (n:Int)(h0:0≤n)(h1:n < 64):(cvI .u64 (.int .i64 n)).bind (fun t=>binP .shl (.int .u64 1) t)=some (w64 (1#64 <<< n.toNat)):=by
 have e:IntKind.u64.wrap n=n:=Ff h0 (by omega)
 simp only [Fs,e,Option.bind_some]
 exact Rt 1#64 .u64 n h0
theorem Kk {h:Heap}{v:AV}{l:List Int}(H:RdW h 1 v (wI l) l.length)(hl:l.length≤4611686018427387904):DC v h=some (w64 (bitsB l),h):=by
 suffices Ok (DC v h) fun r=>r=(w64 (bitsB l),h) by
  obtain⟨r,e,rfl⟩:=this
  exact e
 refine Ok.eq ?_ (by simp -implicitDefEqProofs only [DC,H.lnL,Option.bind_some];rfl)
 refine CJ (P:=fun r=>r.1 = .exit 0∧r.2.2=h∧r.2.1.getD 0 .bot=w64 (bitsB l)) ?_ ?_
 ·refine BF (fun m vs g=>∃ i:Nat,vs = [w64 (bitsB (l.take i)),.int .i64 i]∧g=h∧m+i=l.length) ?_ (n:=l.length) (by omega) ⟨0,rfl,rfl,rfl⟩
  rintro m vs g ⟨i,rfl,rfl,hm⟩
  rw [gD0,gD1]
  by_cases hi:i<l.length
  ·obtain⟨n,hn⟩:∃ n,l[i]?=some n:=⟨_,List.getElem?_eq_getElem hi⟩
   have hi':(i:Int)<l.length:=by omega
   obtain⟨b,o,_,hix,hld⟩:=H.at (i:=i) (x:=.int .i64 n) (by simp [wI,hn])
   have hb:bitsB (l.take (i+1))=bitsB (l.take i) ||| bitB n:=by
    unfold bitsB;rw [List.take_add_one,hn,List.foldl_append];rfl
   by_cases h0:0≤n
   ·by_cases h1:n < 64
    ·have e:=NA n h0 h1
     refine(Ok.of (r:=(.normal,[w64 (bitsB (l.take (i+1))),.int .i64 ((i+1:Nat):Int)],g)) (.inl ⟨rfl,m - 1,by omega,i+1,rfl,rfl,by omega⟩)).eq ?_
     simp only [Fs,Option.bind_some] at e
     simp -implicitDefEqProofs only [Dn,AG,hi',decide_true,Option.bind_some,AB,hix,hld,AJ,h0,h1,AZ,AH,AE,AC,if_true,Fs,e,P3,Ap,suc64 i (by omega),hb,bitB,and_self]
    ·refine(Ok.of (r:=(.normal,[w64 (bitsB (l.take (i+1))),.int .i64 ((i+1:Nat):Int)],g)) (.inl ⟨rfl,m - 1,by omega,i+1,rfl,rfl,by omega⟩)).eq ?_
     simp -implicitDefEqProofs only [Dn,AG,hi',decide_true,decide_false,Option.bind_some,AB,AA,hix,hld,AJ,h0,h1,AZ,AH,AE,AC,if_true,Ap,suc64 i (by omega),hb,bitB,and_false,if_false,BitVec.or_zero]
   ·refine(Ok.of (r:=(.normal,[w64 (bitsB (l.take (i+1))),.int .i64 ((i+1:Nat):Int)],g)) (.inl ⟨rfl,m - 1,by omega,i+1,rfl,rfl,by omega⟩)).eq ?_
    simp -implicitDefEqProofs only [Dn,AG,hi',decide_true,decide_false,Option.bind_some,AB,AA,hix,hld,AJ,h0,Ac,AL,AD,AC,Bool.false_eq_true,if_false,Ap,suc64 i (by omega),hb,bitB,false_and,BitVec.or_zero]
  ·have hi' : ¬ (i:Int)<l.length:=by omega
   refine(Ok.of (r:=(.exit 0,[w64 (bitsB (l.take i)),.int .i64 (i:Int)],g)) (.inr ⟨by simp,rfl,rfl,?_⟩)).eq (by simp -implicitDefEqProofs only [Dn,AG,hi',decide_false,Option.bind_some,AA])
   show w64 (bitsB (l.take i))=_
   rw [List.take_of_length_le (by omega)]
 ·rintro _ vs g ⟨rfl,hg,hv⟩
  simp only at hg hv
  subst hg
  refine Ah (v:=w64 (bitsB l)) (g:=g) (by simp -implicitDefEqProofs only [if_true,Al,hv]) rfl
end Go.Ab.F
namespace Go.Ab.F
open Go Go.Ab
set_option linter.all false
def SubW (a b:BitVec 64):Prop:=∀ k,a.getLsbD k=true→b.getLsbD k=true
theorem SubW.refl (a:BitVec 64):SubW a a:=fun _ h=>h
theorem SubW.trans {a b c:BitVec 64}(h:SubW a b)(h':SubW b c):SubW a c:=fun k e=>h' k (h k e)
theorem SubW.le {a b:BitVec 64}(h:SubW a b):a.toNat≤b.toNat:=by
 have e:a &&& b=a:=by
  apply BitVec.eq_of_getLsbD_eq
  intro i hi
  rw [BitVec.getLsbD_and]
  cases ha:a.getLsbD i with
  | false=>rfl
  | true=>simp [h i ha]
 have:(a &&& b).toNat≤b.toNat:=by rw [BitVec.toNat_and];exact Nat.and_le_right
 rw [e] at this;exact this
theorem SubW.antisymm {a b:BitVec 64}(h:SubW a b)(h':SubW b a):a=b:=by
 apply BitVec.eq_of_getLsbD_eq
 intro i _
 cases ha:a.getLsbD i with
 | true=>rw [h i ha]
 | false=>
  cases hb:b.getLsbD i with
  | true=>rw [h' i hb] at ha;cases ha
  | false=>rfl
def sAt (s:List (BitVec 64))(n:Int):BitVec 64:=s.getD n.toNat 0#64
def SubL (s t:List (BitVec 64)):Prop:=∀ n:Nat,SubW (s.getD n 0#64) (t.getD n 0#64)
def edgeC (f:Fn)(s:List (BitVec 64))(c:Cas):BitVec 64:=
 if outB f c.to then 0#64 else if c.kind=0 then sAt s c.to &&& ~~~ bitsB [c.val] else sAt s c.to
def outL (m:Md)(f:Fn)(s:List (BitVec 64))(pc:Nat)(i:Ins):BitVec 64:=
 if i.op=41 then(casesOf m i.a i.b).foldl (fun v c=>v ||| edgeC f s c) 0#64
 else(followsL m f pc).foldl (fun v n=>v ||| sAt s n) 0#64
def genL (m:Md)(f:Fn)(s:List (BitVec 64))(pc:Nat)(i:Ins):BitVec 64:=bitsB (readsL m i) ||| (outL m f s pc i &&& ~~~ bitsB (writesL i))
theorem NI {α:Type}(g:α→BitVec 64)(k:Nat):∀ (l:List α) (a:BitVec 64),(l.foldl (fun v x=>v ||| g x) a).getLsbD k=(a.getLsbD k||l.any fun x=>(g x).getLsbD k)
 | [],a=>by simp
 | x::l,a=>by rw [List.foldl_cons,NI g k l,BitVec.getLsbD_or,List.any_cons,Bool.or_assoc]
theorem Ml {α:Type}{g g':α→BitVec 64}{l:List α}(h:∀ x∈l,SubW (g x) (g' x))(a:BitVec 64):SubW (l.foldl (fun v x=>v ||| g x) a) (l.foldl (fun v x=>v ||| g' x) a):=by
 intro k
 rw [NI,NI,Bool.or_eq_true,Bool.or_eq_true]
 rintro(ha | hl)
 ·exact .inl ha
 ·obtain⟨x,hx,hg⟩:=List.any_eq_true.1 hl
  exact .inr (List.any_eq_true.2 ⟨x,hx,h x hx k hg⟩)
theorem N4 {a b c:BitVec 64}(h:SubW a b):SubW (a &&& c) (b &&& c):=by
 intro k
 rw [BitVec.getLsbD_and,BitVec.getLsbD_and,Bool.and_eq_true,Bool.and_eq_true]
 exact fun⟨h1,h2⟩=>⟨h k h1,h2⟩
theorem RP {a b c:BitVec 64}(h:SubW a b):SubW (c ||| a) (c ||| b):=by
 intro k
 rw [BitVec.getLsbD_or,BitVec.getLsbD_or,Bool.or_eq_true,Bool.or_eq_true]
 exact fun e=>e.imp id (h k)
theorem O3 {f:Fn}{s t:List (BitVec 64)}(h:SubL s t)(c:Cas):SubW (edgeC f s c) (edgeC f t c):=by
 unfold edgeC
 split
 ·exact SubW.refl _
 ·split
  ·exact N4 (h _)
  ·exact h _
theorem Nu {m:Md}{f:Fn}{s t:List (BitVec 64)}(h:SubL s t)(pc:Nat)(i:Ins):SubW (genL m f s pc i) (genL m f t pc i):=by
 unfold genL
 refine RP (N4 ?_)
 unfold outL
 split
 ·exact Ml (fun c _=>O3 h c) _
 ·exact Ml (fun n _=>h _) _
def Inc (m:Md)(f:Fn)(s:List (BitVec 64)):Prop:=s.length=f.code.length∧∀ (pc:Nat) i,f.code[pc]?=some i→SubW (s.getD pc 0#64) (genL m f s pc i)
def Low (m:Md)(f:Fn)(s:List (BitVec 64)):Prop:=∀ t:List (BitVec 64),(∀ (pc:Nat) i,f.code[pc]?=some i→SubW (genL m f t pc i) (t.getD pc 0#64))→SubL s t
def Fix (m:Md)(f:Fn)(s:List (BitVec 64)):Prop:=∀ (pc:Nat) i,f.code[pc]?=some i→s.getD pc 0#64=genL m f s pc i
theorem L0 {s:List (BitVec 64)}{pc n:Nat}{v:BitVec 64}(h:pc<s.length):(s.set pc v).getD n 0#64=if n=pc then v else s.getD n 0#64:=by
 rw [List.getD_eq_getElem?_getD,List.getD_eq_getElem?_getD]
 by_cases e:n=pc
 ·subst e;rw [List.getElem?_set_self h];simp
 ·rw [List.getElem?_set_ne (fun h=>e h.symm),if_neg e]
theorem RX {m:Md}{f:Fn}{s:List (BitVec 64)}{pc:Nat}{i:Ins}(h:Inc m f s)(hi:f.code[pc]?=some i):SubL s (s.set pc (genL m f s pc i)):=by
 intro n
 have hp:pc<s.length:=by rw [h.1];exact(List.getElem?_eq_some_iff.1 hi).1
 rw [L0 hp]
 split
 ·rename_i e;subst e;exact h.2 _ i hi
 ·exact SubW.refl _
theorem RD {m:Md}{f:Fn}{s:List (BitVec 64)}{pc:Nat}{i:Ins}(h:Inc m f s)(hi:f.code[pc]?=some i):Inc m f (s.set pc (genL m f s pc i)):=by
 have hs:=RX h hi
 refine⟨by rw [List.length_set];exact h.1,fun n j hj=>?_⟩
 have hp:pc<s.length:=by rw [h.1];exact(List.getElem?_eq_some_iff.1 hi).1
 refine SubW.trans ?_ (Nu hs n j)
 rw [L0 hp]
 split
 ·rename_i e;subst e;rw [hi] at hj;cases hj;exact SubW.refl _
 ·exact h.2 n j hj
theorem Ri {m:Md}{f:Fn}{s:List (BitVec 64)}{pc:Nat}{i:Ins}(h:Inc m f s)(hl:Low m f s)(hi:f.code[pc]?=some i):Low m f (s.set pc (genL m f s pc i)):=by
 intro t ht n
 have hp:pc<s.length:=by rw [h.1];exact(List.getElem?_eq_some_iff.1 hi).1
 rw [L0 hp]
 split
 ·rename_i e;subst e;exact SubW.trans (Nu (hl t ht) _ i) (ht _ i hi)
 ·exact hl t ht n
theorem Qg (m:Md)(f:Fn):Inc m f (List.replicate f.code.length 0#64):=by
 refine⟨by simp,fun pc i hi k h=>?_⟩
 rw [List.getD_eq_getElem?_getD,List.getElem?_replicate] at h
 split at h<;>simp at h
theorem QC (m:Md)(f:Fn):Low m f (List.replicate f.code.length 0#64):=by
 intro t _ n k h
 rw [List.getD_eq_getElem?_getD,List.getElem?_replicate] at h
 split at h<;>simp at h
def left:List (BitVec 64)→Nat
 | []=>0
 | a::s=>(18446744073709551615-a.toNat)+left s
theorem Oq:∀ s:List (BitVec 64),left s≤s.length * 18446744073709551615
 | []=>by simp [left]
 | a::s=>by have:=Oq s;simp only [left,List.length_cons,Nat.add_mul];omega
theorem N0:∀ {s:List (BitVec 64)} {pc:Nat} {v:BitVec 64},pc<s.length→SubW (s.getD pc 0#64) v→s.getD pc 0#64≠v→left (s.set pc v)<left s
 | [],_,_,h,_,_=>by simp at h
 | a::s,0,v,_,hs,hne=>by
  simp only [List.getD_cons_zero] at hs hne
  have h1:=hs.le
  have h2:a.toNat≠v.toNat:=fun e=>hne (BitVec.eq_of_toNat_eq e)
  have:=v.isLt
  simp only [List.set_cons_zero,left]
  omega
 | a::s,pc+1,v,h,hs,hne=>by
  have:=N0 (s:=s) (pc:=pc) (v:=v) (by simpa using h) (by simpa using hs) (by simpa using hne)
  simp only [List.set_cons_succ,left];omega
set_option linter.unusedSimpArgs false
attribute [local congr] BI D1 Dy D2 Bu D3 Dz Aw Av
theorem QK {R:Type}{f:Heap→Option AV}{v:AV}{g0 g1 g2 g3:Heap}{hs:List Heap}{x:Option R}(hv:same v v=true)(h0:f g0=some v)(h1:f g1=some v)(h2:f g2=some v)(h3:f g3=some v):chk (g0::g1::g2::g3::hs) [(f,v,0,3)] x=x:=by
 rw [Lp,EF,EF,EF,EF,GJ]
 simp [h0,h1,h2,h3,hv]
theorem ML (i:Ins):same (.agg i.row) (.agg i.row)=true:=by simp [same,sameL,sameS,Ins.row]
structure SwB (g:Heap)(p b:Nat)(s:List (BitVec 64)):Prop where
 box:g.get p=some (.cells true [.sl (some (b,0)) s.length (.ex s.length)])
 blk:g.get b=some (.cells true (s.map w64))
 plt:p<g.next
 blt:b<g.next
theorem SwB.mono {g g':Heap}{p b:Nat}{s:List (BitVec 64)}(H:SwB g p b s)(e:Same [] g g'):SwB g' p b s:=
 ⟨by rw [e.get p H.plt (by simp)];exact H.box,by rw [e.get b H.blt (by simp)];exact H.blk,Nat.lt_of_lt_of_le H.plt e.next,Nat.lt_of_lt_of_le H.blt e.next⟩
theorem SwB.l {g:Heap}{p b:Nat}{s:List (BitVec 64)}(H:SwB g p b s):ldS g (.ptr (some (p,0)))=some (.sl (some (b,0)) s.length (.ex s.length)):=by rw [Ai H.box];rfl
theorem SwB.ix {s:List (BitVec 64)}{b:Nat}{n:Int}(h0:0≤n)(h1:n<s.length):iaS 1 (.sl (some (b,0)) s.length (.ex s.length)) (.int .i64 n)=some (.ptr (some (b,n.toNat))):=by
 rw [E7 1 (b,0) _ _ _ _ ⟨h0,h1⟩];simp
theorem SwB.ld {g:Heap}{p b:Nat}{s:List (BitVec 64)}(H:SwB g p b s){n:Int}(h0:0≤n)(h1:n<s.length):ldS g (.ptr (some (b,n.toNat)))=some (w64 (sAt s n)):=by
 have:n.toNat<s.length:=by omega
 rw [Ai H.blk,List.getElem?_map,List.getElem?_eq_getElem this]
 simp [sAt,List.getElem?_eq_getElem this]
theorem Q4 {g:Heap}{pf pi b:Nat}{f:Fn}{kv cv mv v:AV}{s:List (BitVec 64)}{cs:List Cas}(F:FnB g pf f kv cv mv)(S:SwB g pi b s)(hs:s.length=f.code.length)(H:RwC g 4 v (cs.map Cas.row))(hl:cs.length≤1048576) :
  Ok (HR (.ptr (some (pf,0))) (.ptr (some (pi,0))) v (.int .i64 cs.length) (.int .u64 0) (.int .i64 0) g) fun r=>r.1 = .exit 0∧Same [] g r.2.2∧r.2.1.getD 0 .bot=w64 (cs.foldl (fun v c=>v ||| edgeC f s c) 0#64):=by
 refine BF (fun k vs g'=>∃ i:Nat,vs = [w64 ((cs.take i).foldl (fun v c=>v ||| edgeC f s c) 0#64),.int .i64 i]∧k+i=cs.length∧Same [] g g') ?_ (n:=cs.length) (by omega) ⟨0,rfl,rfl,Same.refl _ _⟩
 rintro k vs g' ⟨i,rfl,hk,e⟩
 rw [gD0,gD1]
 by_cases hi:i<cs.length
 ·obtain⟨c,hc⟩:∃ c,cs[i]?=some c:=⟨_,List.getElem?_eq_getElem hi⟩
  have hi':(i:Int)<cs.length:=by omega
  obtain⟨b2,o2,hb2,hix,hla,hls⟩:=(H.mono e.next (fun j hj=>e.get j hj (by simp))).at (i:=i) (r:=c.row) (by rw [List.getElem?_map,hc];rfl)
  refine Ok.eq ?_ (by simp -implicitDefEqProofs only [FX,AG,hi',decide_true,Option.bind_some,AB,hix,hla];rfl)
  refine EV (cs:=c.row) (n:=4) (by rfl) (by rfl) (Cas.sc c) fun g2 e2 n2 hg2=>?_
  have l0:ldS g2 (.ptr (some (g'.next,0+0)))=some (.int .i64 c.kind):=by rw [Ai hg2];rfl
  have l2:ldS g2 (.ptr (some (g'.next,0+2)))=some (.int .i64 c.val):=by rw [Ai hg2];rfl
  have l3:ldS g2 (.ptr (some (g'.next,0+3)))=some (.int .i64 c.to):=by rw [Ai hg2];rfl
  have F2:=F.mono (e.trans e2)
  have S2:=S.mono (e.trans e2)
  have hfold:(cs.take (i+1)).foldl (fun v c=>v ||| edgeC f s c) 0#64=((cs.take i).foldl (fun v c=>v ||| edgeC f s c) 0#64) ||| edgeC f s c:=by
   rw [List.take_add_one,hc,List.foldl_append];rfl
  have skip:∀ x,edgeC f s c=0#64→x=some (Ex.normal,[w64 ((cs.take i).foldl (fun v c=>v ||| edgeC f s c) 0#64),AV.int .i64 ((i+1:Nat):Int)],g2)→Ok x fun r=>(r.1 = .normal∧∃ k',k'<k∧∃ i:Nat,r.2.1 = [w64 ((cs.take i).foldl (fun v c=>v ||| edgeC f s c) 0#64),.int .i64 i]∧k'+i=cs.length∧Same [] g r.2.2)∨(r.1≠.normal∧r.1 = .exit 0∧Same [] g r.2.2∧r.2.1.getD 0 .bot=w64 (cs.foldl (fun v c=>v ||| edgeC f s c) 0#64)):=fun x h0 hx=>by
   subst hx
   exact Ok.of (.inl ⟨rfl,k - 1,by omega,i+1,by rw [hfold,h0,BitVec.or_zero],by omega,e.trans e2⟩)
  by_cases c1:c.to < 0
  ·refine skip _ (by simp only [edgeC,outB,c1,decide_true,Bool.true_or,if_true]) (by
    simp -implicitDefEqProofs only [AF,Option.bind_some,l3,AG,c1,decide_true,AY,AD,AC,if_true,AB,Ap,suc64 i (by omega)])
  by_cases c2:(f.code.length:Int)≤c.to
  ·refine skip _ (by simp only [edgeC,outB,c1,c2,decide_true,decide_false,Bool.or_true,if_true]) (by
    simp -implicitDefEqProofs only [AF,Option.bind_some,l3,AG,c1,c2,decide_true,decide_false,AX,AH,AE,F2.l5,F2.ln5,AJ,AC,Bool.false_eq_true,if_false,AB,Ap,suc64 i (by omega)])
  have hob:outB f c.to=false:=by simp only [outB,c1,c2,decide_false,Bool.or_false]
  have t0:0≤c.to:=by omega
  have t1:c.to<s.length:=by omega
  by_cases c3:c.kind=0
  ·refine Ok.eq ?_ (by
    simp -implicitDefEqProofs only [AF,Option.bind_some,l3,AG,c1,c2,decide_false,AX,AH,AE,F2.l5,F2.ln5,AJ,AC,Bool.false_eq_true,if_false,AA,S2.l,SwB.ix t0 t1,S2.ld t0 t1,l0,l2,AK,c3,decide_true,AB,bs1,Af];rfl)
   have e3:Same [] g2 (g2.new (.cells true (wI [c.val]))):=Same.new _ _
   have hb:=Kk (h:=g2.new (.cells true (wI [c.val]))) (v:=.sl (some (g2.next,0)) 1 (.ex 1)) (l:=[c.val]) (Lst.lit (Same.refl [] g2) [c.val]).rd (by simp)
   refine(Ok.of (r:=(Ex.normal,[w64 ((cs.take (i+1)).foldl (fun v c=>v ||| edgeC f s c) 0#64),AV.int .i64 ((i+1:Nat):Int)],g2.new (.cells true (wI [c.val])))) (.inl ⟨rfl,k - 1,by omega,i+1,rfl,by omega,(e.trans e2).trans e3⟩)).eq ?_
   have he:edgeC f s c=sAt s c.to &&& ~~~ bitsB [c.val]:=by simp only [edgeC,hob,c3,Bool.false_eq_true,if_false,if_true]
   simp -implicitDefEqProofs only [hb,AE,Lj,P3,Option.bind_some,Ap,suc64 i (by omega),hfold,he]
  ·have he:edgeC f s c=sAt s c.to:=by simp only [edgeC,hob,c3,Bool.false_eq_true,if_false]
   refine(Ok.of (r:=(Ex.normal,[w64 ((cs.take (i+1)).foldl (fun v c=>v ||| edgeC f s c) 0#64),AV.int .i64 ((i+1:Nat):Int)],g2)) (.inl ⟨rfl,k - 1,by omega,i+1,rfl,by omega,e.trans e2⟩)).eq ?_
   simp -implicitDefEqProofs only [AF,Option.bind_some,l3,AG,c1,c2,decide_false,AX,AH,AE,F2.l5,F2.ln5,AJ,AC,Bool.false_eq_true,if_false,AA,S2.l,SwB.ix t0 t1,S2.ld t0 t1,l0,AK,c3,P3,Ap,suc64 i (by omega),hfold,he]
 ·have hi' : ¬ (i:Int)<cs.length:=by omega
  refine(Ok.of (r:=(Ex.exit 0,[w64 ((cs.take i).foldl (fun v c=>v ||| edgeC f s c) 0#64),AV.int .i64 (i:Int)],g')) (.inr ⟨by simp,rfl,e,?_⟩)).eq (by simp -implicitDefEqProofs only [FX,AG,hi',decide_false,Option.bind_some,AA])
  show w64 ((cs.take i).foldl (fun v c=>v ||| edgeC f s c) 0#64)=_
  rw [List.take_of_length_le (by omega)]
theorem Rh {g:Heap}{pi b:Nat}{v:AV}{s:List (BitVec 64)}{l:List Int}(S:SwB g pi b s)(hr:∀ n∈l,0≤n∧n<s.length)(H:RdW g 1 v (wI l) l.length)(hl:l.length≤1048576) :
  Ok (HP (.ptr (some (pi,0))) v (.int .i64 l.length) (.int .u64 0) (.int .i64 0) g) fun r=>r.1 = .exit 2∧r.2.2=g∧r.2.1.getD 0 .bot=w64 (l.foldl (fun v n=>v ||| sAt s n) 0#64):=by
 refine BF (fun k vs g'=>∃ i:Nat,vs = [w64 ((l.take i).foldl (fun v n=>v ||| sAt s n) 0#64),.int .i64 i]∧k+i=l.length∧g'=g) ?_ (n:=l.length) (by omega) ⟨0,rfl,rfl,rfl⟩
 rintro k vs g' ⟨i,rfl,hk,rfl⟩
 rw [gD0,gD1]
 by_cases hi:i<l.length
 ·obtain⟨n,hn⟩:∃ n,l[i]?=some n:=⟨_,List.getElem?_eq_getElem hi⟩
  have hi':(i:Int)<l.length:=by omega
  obtain⟨t0,t1⟩:=hr n (List.mem_of_getElem? hn)
  obtain⟨b2,o,_,hix,hld⟩:=H.at (i:=i) (x:=.int .i64 n) (by simp [wI,hn])
  have hfold:(l.take (i+1)).foldl (fun v n=>v ||| sAt s n) 0#64=((l.take i).foldl (fun v n=>v ||| sAt s n) 0#64) ||| sAt s n:=by
   rw [List.take_add_one,hn,List.foldl_append];rfl
  refine(Ok.of (r:=(Ex.normal,[w64 ((l.take (i+1)).foldl (fun v n=>v ||| sAt s n) 0#64),AV.int .i64 ((i+1:Nat):Int)],g')) (.inl ⟨rfl,k - 1,by omega,i+1,rfl,by omega,rfl⟩)).eq ?_
  simp -implicitDefEqProofs only [Fb,AG,hi',decide_true,Option.bind_some,AB,hix,hld,S.l,SwB.ix t0 t1,S.ld t0 t1,P3,Ap,suc64 i (by omega),hfold]
 ·have hi' : ¬ (i:Int)<l.length:=by omega
  refine(Ok.of (r:=(Ex.exit 2,[w64 ((l.take i).foldl (fun v n=>v ||| sAt s n) 0#64),AV.int .i64 (i:Int)],g')) (.inr ⟨by simp,rfl,rfl,?_⟩)).eq (by simp -implicitDefEqProofs only [Fb,AG,hi',decide_false,Option.bind_some,AA])
  show w64 ((l.take i).foldl (fun v n=>v ||| sAt s n) 0#64)=_
  rw [List.take_of_length_le (by omega)]
theorem SL {g:Heap}{pf pm pi b:Nat}{m:Md}{f:Fn}{kv cv mv sv gv kv' cv' fv:AV}{s:List (BitVec 64)}(B:MdB g pm m sv gv kv' cv' fv)(F:FnB g pf f kv cv mv)(S:SwB g pi b s)(hs:s.length=f.code.length)(hc:m.cases.length≤60){pc:Nat}{i:Ins}(hi:f.code[pc]?=some i) :
  Ok (Es (.int .i64 (pc:Int)) (.ptr (some (pf,0))) (.ptr (some (pm,0))) (.ptr (some (pi,0))) g) fun r=>Same [] g r.2∧r.1=w64 (outL m f s pc i):=by
 have hiw:=F.wf (List.mem_of_getElem? hi)
 have hm:=F.bnd.1
 rw [mxl] at hm
 have hpc:=(List.getElem?_eq_some_iff.1 hi).1
 obtain⟨b1,o,hix,hla,_⟩:=F.code hi
 refine Ok.eq ?_ (by simp -implicitDefEqProofs only [Es,AF,F.l5,Option.bind_some,hix,hla];rfl)
 refine EV (cs:=i.row) (n:=5) (by rfl) (by rfl) (Ins.sc i) fun g2 e2 n2 hg2=>?_
 have l0:ldS g2 (.ptr (some (g.next,0+0)))=some (.int .i64 i.op):=by rw [Ai hg2];rfl
 have la:ldA 5 g2 (.ptr (some (g.next,0)))=some (.agg i.row):=by rw [Eo hg2];rfl
 have B2:=B.mono e2
 have F2:=F.mono e2
 have S2:=S.mono e2
 by_cases o41:i.op=41
 ·refine Ok.eq ?_ (by simp -implicitDefEqProofs only [AF,Option.bind_some,l0,AK,o41,decide_true,AB,B2.la,la];rfl)
  refine Ao (LS B2.rd i hiw.2.1 hiw.2.2.1) ?_
  rintro v3 g3 ⟨e3,h3⟩
  simp only at e3 h3
  have hln:=h3.lnL
  rw [List.length_map] at hln
  have hcl:(casesOf m i.a i.b).length≤m.cases.length:=by
   unfold casesOf
   split
   ·simp
   ·simp only [List.length_take,List.length_drop];omega
  refine Ok.eq ?_ (by simp -implicitDefEqProofs only [hln,Option.bind_some];rfl)
  refine CJ (Q4 (F2.mono e3) (S2.mono e3) hs h3 (by omega)) ?_
  rintro _ vs g4 ⟨rfl,e4,hv⟩
  simp only at e4 hv
  refine Ah (v:=w64 (outL m f s pc i)) (g:=g4) (by
   rw [show outL m f s pc i=(casesOf m i.a i.b).foldl (fun v c=>v ||| edgeC f s c) 0#64 by simp only [outL,o41,if_true]]
   simp -implicitDefEqProofs only [if_true,Al,hv]) ⟨(e2.trans e3).trans e4,rfl⟩
 ·refine Ok.eq ?_ (by simp -implicitDefEqProofs only [AF,Option.bind_some,l0,AK,o41,decide_false,AA,B2.la,F2.la];rfl)
  refine Ao (K9 B2.rd F2.rd (pc:Int) hc (by unfold wfI Lit.wf;simp only [Bool.and_eq_true,decide_eq_true_eq];have e1:IntKind.i64.min = -9223372036854775808:=rfl;have e2:IntKind.i64.max=9223372036854775807:=rfl;omega)) ?_
  intro v3 g3 h3
  simp only at h3
  have hfl:(followsL m f (pc:Int)).length≤60:=by
   unfold followsL
   split
   ·have h1:=Ot f (rawL m pc (by assumption))
    have h2:=La hc (pc:Int) (by assumption)
    omega
   ·simp
  have hmem:∀ n∈followsL m f (pc:Int),0≤n∧n<s.length:=fun n hn=>by
   unfold followsL at hn
   split at hn
   ·have:=(Pr.1 hn).2;omega
   ·simp at hn
  refine Ok.eq ?_ (by simp -implicitDefEqProofs only [h3.lnL,Option.bind_some];rfl)
  refine CJ (Rh (S2.mono h3.same) hmem h3.rd (by omega)) ?_
  rintro _ vs g4 ⟨rfl,e4,hv⟩
  simp only at e4 hv
  subst e4
  refine Ah (v:=w64 (outL m f s pc i)) (g:=g4) (by
   rw [show outL m f s pc i=(followsL m f pc).foldl (fun v n=>v ||| sAt s n) 0#64 by simp only [outL,o41,if_false]]
   simp -implicitDefEqProofs only [if_true,Al,hv]) ⟨e2.trans h3.same,rfl⟩
set_option linter.unusedSimpArgs false
attribute [local congr] BI D1 Dy D2 Bu D3 Dz Aw Av
theorem SQ (a b:BitVec 64):eqP (some (.int .u64)) none false .neq (w64 a) (w64 b)=some (.bool (!decide (a=b))):=by
 unfold w64
 rw [AU]
 have:((a.toNat:Int)=(b.toNat:Int))↔a=b:=⟨fun h=>BitVec.eq_of_toNat_eq (by omega),fun h=>by rw [h]⟩
 simp [this]
theorem TS (a:BitVec 64):scalar (w64 a)=true:=rfl
theorem Si:∀ n:Nat,rep [AV.int .u64 0] n=(List.replicate n 0#64).map w64
 | 0=>rfl
 | n+1=>by rw [rep,Si n,List.replicate_succ,List.map_cons];rfl
theorem look43 (x0 x1 x2 x3:AV)(h:Heap):lookT T49 92 [x0,x1,x2,x3] h=Es x0 x1 x2 x3 h:=rfl
theorem FP {R:Type}(call:CallF)(f:FuncId)(args:List AV)(h:Heap)(K:AV→Heap→Option R):clF call (some (f,args)) h K=cl (call f args h) K:=rfl
theorem EN {c:Prop} [Decidable c] {a b:List Int}{n:Nat}(ha:a.length≤n)(hb:b.length≤n):(if c then a else b).length≤n:=by split<;>assumption
theorem JB {m:Md}{i:Ins}(hs:m.cases.length≤60):(readsL m i).length≤130:=by
 have hcl:(casesOf m i.a i.b).length≤m.cases.length:=by
  unfold casesOf
  split
  ·simp
  ·simp only [List.length_take,List.length_drop];omega
 have h1:=HC i.c (fnP m i.b)
 have h2:=HC i.c i.d
 have h4:=HC i.b (fnP m i.a)
 have h5:=HC i.b i.c
 have h6:=HC i.c (fnC m i.b)
 have h7:=JR (casesOf m i.a i.b)
 have h8:(gvn [i.a]).length≤1:=List.length_filter_le _ _
 have k1:∀ x:Int,[x].length≤130:=fun x=>by simp
 have k2:∀ x y:Int,[x,y].length≤130:=fun x y=>by simp
 have k3:∀ x y z:Int,[x,y,z].length≤130:=fun x y z=>by simp
 unfold readsL
 exact EN (k1 _) (EN (k2 _ _) (EN (k1 _) (EN (by omega) (EN (by rw [List.length_cons];omega) (EN (by omega) (EN (by omega) (EN (by rw [List.length_cons];omega) (EN (k1 _) (EN (k2 _ _) (EN (k3 _ _ _) (EN (by omega) (EN (k2 _ _) (EN (by omega) (Nat.zero_le _))))))))))))))
theorem Q6 {g0 g:Heap}{pf pm pi b:Nat}{m:Md}{f:Fn}{kv cv mv sv gv kv' cv' fv:AV}{s:List (BitVec 64)}(B:MdB g0 pm m sv gv kv' cv' fv)(F:FnB g0 pf f kv cv mv)(e:Same [] g0 g)(S:SwB g pi b s)(hb:g0.next≤b)(hp:g0.next≤pi)(hpb:pi≠b)
  (hc:m.cases.length≤60) (hn:f.code.length≤1048576) (hI:Inc m f s) (hL:Low m f s) :
  Ok (IK (.ptr (some (pm,0))) (.ptr (some (pf,0))) (.ptr (some (pi,0))) (.bool false) (.int .i64 ((f.code.length:Int) - 1)) g) fun r=>r.1 = .exit 2∧∃ (c:Bool) (s':List (BitVec 64)),r.2.1.getD 0 .bot = .bool c∧Same [] g0 r.2.2∧SwB r.2.2 pi b s'∧Inc m f s'∧Low m f s'∧(c=true→left s'<left s)∧(c=false→s'=s∧Fix m f s):=by
 refine BF (fun k vs g'=>∃ (c:Bool) (s':List (BitVec 64)),vs = [.bool c,.int .i64 ((k:Int) - 1)]∧k≤f.code.length∧Same [] g0 g'∧SwB g' pi b s'∧Inc m f s'∧Low m f s'∧left s'≤left s∧(c=true→left s'<left s)∧(c=false→s'=s∧∀ (pc:Nat) i,k≤pc→f.code[pc]?=some i→s.getD pc 0#64=genL m f s pc i)) ?_ (n:=f.code.length) (by omega)
  ⟨false,s,rfl,Nat.le_refl _,e,S,hI,hL,Nat.le_refl _,(fun h=>by cases h),fun _=>⟨rfl,fun pc i h1 h2=>by have:=(List.getElem?_eq_some_iff.1 h2).1;omega⟩⟩
 rintro k vs g' ⟨c,s',rfl,hk,e',S',hI',hL',hle,ht,hf⟩
 rw [gD0,gD1]
 by_cases h0:k=0
 ·subst h0
  have hneg : ¬ (0:Int)≤((0:Nat):Int) - 1:=by omega
  refine(Ok.of (r:=(Ex.exit 2,[AV.bool c,.int .i64 (((0:Nat):Int) - 1)],g')) (.inr ⟨by simp,rfl,c,s',rfl,e',S',hI',hL',ht,fun hc=>?_⟩)).eq (by simp -implicitDefEqProofs only [GR,AJ,hneg,decide_false,Option.bind_some,AA])
  obtain⟨h1,h2⟩:=hf hc
  exact⟨h1,fun pc i hi=>h2 pc i (Nat.zero_le _) hi⟩
 ·obtain⟨pc,rfl⟩:∃ pc,k=pc+1:=⟨k - 1,by omega⟩
  have hpc:pc<f.code.length:=by omega
  obtain⟨i,hi⟩:∃ i,f.code[pc]?=some i:=⟨_,List.getElem?_eq_getElem hpc⟩
  have epc:((pc+1:Nat):Int) - 1=(pc:Int):=by omega
  rw [epc]
  have hge:(0:Int)≤(pc:Int):=by omega
  have B1:=B.mono e'
  have F1:=F.mono e'
  have hiw:=F1.wf (List.mem_of_getElem? hi)
  obtain⟨b1,o,hix,hla,_⟩:=F1.code hi
  refine Ok.eq ?_ (by simp -implicitDefEqProofs only [GR,AJ,hge,decide_true,Option.bind_some,AB,AF,F1.l5,hix,hla];rfl)
  refine EV (cs:=i.row) (n:=5) (by rfl) (by rfl) (Ins.sc i) fun g2 e2 n2 hg2=>?_
  have la:ldA 5 g2 (.ptr (some (g'.next,0)))=some (.agg i.row):=by rw [Eo hg2];rfl
  have lat:∀ g3,Same [] g2 g3→ldA 5 g3 (.ptr (some (g'.next,0)))=some (.agg i.row):=fun g3 e3=>by
   rw [Eo (by rw [e3.get g'.next (by omega) (by simp)];exact hg2)];rfl
  have B2:=B1.mono e2
  have F2:=F1.mono e2
  have S2:=S'.mono e2
  refine Ok.eq ?_ (by simp -implicitDefEqProofs only [B2.la,la,Option.bind_some];rfl)
  refine Ao (Lx B2.rd i hiw hc) ?_
  intro v3 g3 h3
  simp only at h3
  have hrl0:=JB (i:=i) hc
  have hrl:(readsL m i).length≤4611686018427387904:=by omega
  refine Ok.eq ?_ (by simp -implicitDefEqProofs only [Kk h3.rd hrl,AE,cvP,FP];rfl)
  have e3:=h3.same
  refine Ao ((SL (B2.mono e3) (F2.mono e3) (S2.mono e3) hI'.1 hc hi).eq (look43 _ _ _ _ _)) ?_
  rintro v4 g4 ⟨e4,hv4⟩
  simp only at e4 hv4
  subst hv4
  have e24:=e3.trans e4
  have hrd:(fun g=>ldA 5 g (.ptr (some (g'.next,0)))) g4=some (.agg i.row):=lat g4 e24
  refine Ok.eq ?_ (by simp -implicitDefEqProofs only [Bp (f:=fun g=>ldA 5 g (.ptr (some (g'.next,0)))) hrd,AM];rfl)
  refine Ao (Ko i) ?_
  intro v5 g5 h5
  simp only at h5
  have hwl:=IP i
  have hbo:=Kk h5.rd (by omega)
  have e5:=h5.same
  have e25:=e24.trans e5
  have S5:=S2.mono e25
  have gl:(pc:Int)<s'.length:=by rw [hI'.1];omega
  have hld:=S5.ld (n:=(pc:Int)) hge gl
  have hld2:ldS g5 (.ptr (some (b,pc)))=some (w64 (s'.getD pc 0#64)):=hld
  have hsat:sAt s' (pc:Int)=s'.getD pc 0#64:=rfl
  have hgen:bitsB (readsL m i) ||| (outL m f s' pc i &&& ~~~ bitsB (writesL i))=genL m f s' pc i:=rfl
  have hsub:IntKind.i64.wrap ((pc:Int) - 1)=(pc:Int) - 1:=B9 (by omega) (by omega)
  have eg5:Same [] g0 g5:=(e'.trans e2).trans e25
  have hchk:∀ {R:Type} (x:Option R),chk [g2,g3,g3,g4,g5,g5] [(fun g=>ldA 5 g (.ptr (some (g'.next,0))),.agg i.row,0,3)] x=x:=fun x=>QK (ML i) la (lat g3 e3) (lat g3 e3) (lat g4 e24)
  by_cases hv:genL m f s' pc i=s'.getD pc 0#64
  ·refine(Ok.of (r:=(Ex.normal,[AV.bool c,.int .i64 ((pc:Int) - 1)],g5)) (.inl ⟨rfl,pc,by omega,c,s',rfl,by omega,eg5,S5,hI',hL',hle,ht,fun hcf=>?_⟩)).eq (by
    simp -implicitDefEqProofs only [hbo,AE,Lj,P3,Option.bind_some,hchk,S5.l,SwB.ix hge gl,hld,hgen,hsat,SQ,hv,decide_true,Bool.not_true,AA,Bc,hsub])
   obtain⟨h1,h2⟩:=hf hcf
   subst h1
   refine⟨rfl,fun pc' i' hle' hi'=>?_⟩
   rcases (by omega:pc'=pc∨pc+1≤pc') with rfl | hlt
   ·rw [hi] at hi';cases hi';exact hv.symm
   ·exact h2 pc' i' hlt hi'
  ·have hst:stP 1 g5 (.ptr (some (b,pc))) (w64 (genL m f s' pc i))=some (.bot,g5.put b (some (.cells true ((s'.map w64).set pc (w64 (genL m f s' pc i)))))):=Cl S5.blk (by rw [List.length_map];omega) (TS _)
   have hset:(s'.map w64).set pc (w64 (genL m f s' pc i))=(s'.set pc (genL m f s' pc i)).map w64:=by rw [List.map_set]
   have hltl:pc<s'.length:=by omega
   have hleft:=N0 hltl (hI'.2 pc i hi) (fun h=>hv h.symm)
   have e6:Same [] g0 (g5.put b (some (.cells true ((s'.map w64).set pc (w64 (genL m f s' pc i)))))):=eg5.old (Same.put _ _ _) (fun j hj=>.inr (by simp at hj;omega))
   have S6:SwB (g5.put b (some (.cells true ((s'.map w64).set pc (w64 (genL m f s' pc i)))))) pi b (s'.set pc (genL m f s' pc i)):=by
    refine⟨by rw [Bd hpb,List.length_set];exact S5.box,by rw [An,hset],S5.plt,S5.blt⟩
   refine(Ok.of (r:=(Ex.normal,[AV.bool true,.int .i64 ((pc:Int) - 1)],g5.put b (some (.cells true ((s'.map w64).set pc (w64 (genL m f s' pc i))))))) (.inl ⟨rfl,pc,by omega,true,s'.set pc (genL m f s' pc i),rfl,by omega,e6,S6,RD hI' hi,Ri hI' hL' hi,by omega,fun _=>by omega,fun h=>by cases h⟩)).eq (by
    simp -implicitDefEqProofs only [hbo,AE,Lj,P3,Option.bind_some,hchk,S5.l,SwB.ix hge gl,hld2,hgen,SQ,hv,decide_false,Bool.not_false,AB,Int.toNat_natCast,hst,Bc,hsub])
structure SetsR (h g:Heap)(v:AV)(m:Md)(f:Fn)(s:List (BitVec 64)):Prop where
 same:Same [] h g
 eq:∃ b,v = .sl (some (b,0)) s.length (.ex s.length)∧h.next≤b∧b<g.next∧g.get b=some (.cells true (s.map w64))
 len:s.length=f.code.length
 fix:Fix m f s
 low:Low m f s
theorem Rs {h:Heap}{v:AV}{r:List AV}{m:Md}{f:Fn}(H:MdRd h v m)(G:FnRd h r f)(hc:m.cases.length≤60)(hn:f.code.length≤1048576):Ok (GE v (.agg r) h) fun r=>∃ s,SetsR h r.2 r.1 m f s:=by
 obtain⟨kv,cv,mv,rfl,hbf,FB⟩:=G.box
 obtain⟨sv,gv,cv0,cv',fv,rfl,hbx,B⟩:=H.box
 have s0:Same [] h (h.new (.cells true [sv,gv,cv0,cv',fv,.int .i64 m.main])):=Same.new _ _
 have FB:=FB _ s0
 generalize hg:h.new (.cells true [sv,gv,cv0,cv',fv,.int .i64 m.main])=g at *
 have s1:Same [] g (g.new (.cells true [.int .i64 f.pa,.int .i64 f.ca,.int .i64 f.sl,.int .i64 f.re,kv,cv,mv])):=Same.new _ _
 have B1:=B.mono s1
 generalize hg1:g.new (.cells true [.int .i64 f.pa,.int .i64 f.ca,.int .i64 f.sl,.int .i64 f.re,kv,cv,mv])=g1 at *
 have s2:Same [] h g1:=s0.trans s1
 have hms:msP 1 8 [AV.int .u64 0] (.int .i64 (f.code.length:Int)) (.int .i64 (f.code.length:Int))=some (.cells true ((List.replicate f.code.length 0#64).map w64),fun i=>.sl (some (i,0)) (List.replicate f.code.length 0#64).length (.ex (List.replicate f.code.length 0#64).length)):=by
  simp only [msP]
  rw [if_pos ⟨by omega,by omega,by omega,by omega,rfl⟩]
  simp only [Int.toNat_natCast,Si,List.length_replicate]
 generalize hz:List.replicate f.code.length 0#64=z at *
 have hI:Inc m f z:=hz ▸ Qg m f
 have hL:Low m f z:=hz ▸ QC m f
 refine Ok.eq ?_ (by simp -implicitDefEqProofs only [GE,hbx,hbf,Af,hg,hg1,AF,FB.l5,FB.ln5,Option.bind_some,hms];rfl)
 refine Er (h:=g1.new (.cells true (z.map w64))) (cs:=[AV.sl (some (g1.next,0)) z.length (.ex z.length)]) (n:=1) (by rfl) (by rfl) (by rfl) fun _ g3 s3 n3 hg3=>?_
 have sA:Same [] g1 (g1.new (.cells true (z.map w64))):=Same.new _ _
 have hnA:(g1.new (.cells true (z.map w64))).next=g1.next+1:=rfl
 have s13:Same [] g1 g3:=sA.trans s3
 have S3:SwB g3 (g1.next+1) g1.next z:=⟨hg3,by rw [s3.get g1.next (by omega) (by simp)];exact Am,by omega,by omega⟩
 have hmu:=Oq z
 have hzl:z.length≤1048576:=by rw [hI.1];exact hn
 refine CJ (P:=fun r=>r.1 = .exit 0∧∃ s,Same [] g1 r.2.2∧SwB r.2.2 (g1.next+1) g1.next s∧Inc m f s∧Low m f s∧Fix m f s) ?_ ?_
 ·refine BF (fun k vs g'=>∃ (c:Bool) (s:List (BitVec 64)),vs = [.bool c]∧Same [] g1 g'∧SwB g' (g1.next+1) g1.next s∧Inc m f s∧Low m f s∧(c=true→k=left s+1)∧(c=false→k=0∧Fix m f s)) ?_ (n:=left z+1)
   (by
    have:z.length * 18446744073709551615≤1048576 * 18446744073709551615:=Nat.mul_le_mul_right _ hzl
    omega) ⟨true,z,rfl,s13,S3,hI,hL,fun _=>rfl,fun h=>by cases h⟩
  rintro k vs g' ⟨c,s,rfl,e',S',hI',hL',ht,hf⟩
  rw [gD0]
  cases c with
  | false=>
   refine(Ok.of (r:=(Ex.exit 0,[AV.bool false],g')) (.inr ⟨by simp,rfl,s,e',S',hI',hL',(hf rfl).2⟩)).eq (by simp -implicitDefEqProofs only [Gc,AA])
  | true=>
   have F':=FB.mono e'
   have hk:=ht rfl
   have hsub:IntKind.i64.wrap ((f.code.length:Int) - 1)=(f.code.length:Int) - 1:=B9 (by omega) (by omega)
   refine Ok.eq ?_ (by simp -implicitDefEqProofs only [Gc,AB,AF,F'.l5,F'.ln5,Option.bind_some,Bc,hsub];rfl)
   refine CJ (Q6 B1 FB e' S' (Nat.le_refl _) (Nat.le_succ _) (by omega) hc hn hI' hL') ?_
   rintro _ vs g4 ⟨rfl,c4,s4,hv,e4,S4,hI4,hL4,ht4,hf4⟩
   simp only at hv e4 S4
   cases c4 with
   | true=>
    refine(Ok.of (r:=(Ex.normal,[AV.bool true],g4)) (.inl ⟨rfl,left s4+1,by have:=ht4 rfl;omega,true,s4,rfl,e4,S4,hI4,hL4,fun _=>rfl,fun h=>by cases h⟩)).eq (by simp -implicitDefEqProofs only [if_true,reduceCtorEq,if_false,hv])
   | false=>
    obtain⟨h1,h2⟩:=hf4 rfl
    subst h1
    refine(Ok.of (r:=(Ex.normal,[AV.bool false],g4)) (.inl ⟨rfl,0,by omega,false,s4,rfl,e4,S4,hI4,hL4,(fun h=>by cases h),fun _=>⟨rfl,h2⟩⟩)).eq (by simp -implicitDefEqProofs only [if_true,reduceCtorEq,if_false,hv])
 ·rintro _ vs g4 ⟨rfl,s,e4,S4,hI4,hL4,hF4⟩
  simp only at e4 S4
  refine Ah (v:=.sl (some (g1.next,0)) s.length (.ex s.length)) (g:=g4) (by
   simp -implicitDefEqProofs only [if_true,Al]
   rw [show(g1.new (.cells true (z.map w64))).next=g1.next+1 from rfl,S4.l];rfl) ⟨s,s2.trans e4,⟨g1.next,rfl,s2.next,S4.blt,S4.blk⟩,hI4.1,hF4,hL4⟩
set_option linter.unusedSimpArgs false
attribute [local congr] BI D1 Dy D2 Bu D3 Dz Aw Av
end Go.Ab.F
