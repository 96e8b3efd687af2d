import Derived.Test.YtdmgkkcjnmmfmaaGreatFrb
import Derived.Test.YtdmgkkcjnmmfmaaGreatVea
namespace Go.Ab.F
open Go Go.Ab
set_option linter.all false
set_option linter.all false
attribute [local congr] BI D1 Dy D2 Bu D3 Dz Aw Av
theorem Cq {R:Type}{f:Heap→Option AV}{v:AV}{hs:List Heap}{lo hi:Nat}{cs:List Asked}{x:Option R}(hv:same v v=true)(hh:∀ g∈hs,f g=some v)(hl:hi<hs.length):chk hs ((f,v,lo,hi)::cs) x=chk hs cs x:=by
 have key:∀ (n lo:Nat),lo+n≤hs.length→allFrom hs f v lo n=true:=by
  intro n
  induction n with
  | zero=>intro lo _;exact GJ _ _ _ _
  | succ n ih=>
   intro lo h
   rw [EF,ih (lo+1) (by omega),List.getElem?_eq_getElem (by omega)]
   simp only [hh _ (List.getElem_mem _),hv,Bool.and_true]
 rw [Lp]
 by_cases h:lo≤hi
 ·rw [key _ _ (by omega),if_pos rfl]
 ·rw [show hi+1-lo=0 by omega,GJ,if_pos rfl]
def SmV (m:Md):Prop:=m.funcs.length≤20∧m.cases.length≤60∧(∀ (i:Nat) f,m.funcs[i]?=some f→f.code.length≤4096∧f.maps.length≤4097∧f.kinds.length≤100)∧m.shapes.length≤40∧m.globals.length≤4096∧m.consts.length≤4096
theorem Small.v {m:Md}(h:Small m):SmV m:=⟨h.1,h.2.1,fun i f hf=>by have:=h.2.2.1 i f hf;omega,h.2.2.2.1,by have:=h.2.2.2.2.1;omega,by have:=h.2.2.2.2.2;omega⟩
structure Cv where
 sv:AV
 gv:AV
 kv:AV
 cv:AV
 fv:AV
 ks:AV
 co:AV
 mv:AV
 xv:AV
 yv:AV
 nv:AV
def Cv.row (c:Cv)(m:Md)(f:Fn)(pc:Int)(i:Ins):List AV:=[c.sv,c.gv,c.kv,c.cv,c.fv,.int .i64 m.main,.int .i64 f.pa,.int .i64 f.ca,.int .i64 f.sl,.int .i64 f.re,c.ks,c.co,c.mv,c.xv,c.yv,c.nv,.int .i64 pc,.int .i64 i.op,.int .i64 i.a,.int .i64 i.b,.int .i64 i.c,.int .i64 i.d]
structure CkB (g:Heap)(p:Nat)(m:Md)(f:Fn)(pc:Int)(i:Ins)(c:Cv):Prop where
 at_:g.get p=some (.cells true (c.row m f pc i))
 lt:p<g.next
 md:MdRd g (.agg [c.sv,c.gv,c.kv,c.cv,c.fv,.int .i64 m.main]) m
 fn:FnRd g [.int .i64 f.pa,.int .i64 f.ca,.int .i64 f.sl,.int .i64 f.re,c.ks,c.co,c.mv] f
 sm:SmV m
 wh:Whole f
 iw:i.wf
 fs:∀ (n:Nat) f',m.funcs[n]?=some f'→Whole f'
theorem CkB.mono {g g':Heap}{p:Nat}{m:Md}{f:Fn}{pc:Int}{i:Ins}{c:Cv}(H:CkB g p m f pc i c)(s:Same [] g g'):CkB g' p m f pc i c:=by
 have mo:∀ j,j<g.next→g'.get j=g.get j:=fun j hj=>s.get j hj (by simp)
 exact⟨by rw [mo p H.lt];exact H.at_,Nat.lt_of_lt_of_le H.lt s.next,H.md.mono s.next mo,H.fn.mono s.next mo,H.sm,H.wh,H.iw,H.fs⟩
section
variable {g:Heap}{p:Nat}{m:Md}{f:Fn}{pc:Int}{i:Ins}{c:Cv}(H:CkB g p m f pc i c)
include H
theorem CkB.l (k:Nat){x:AV}(h:(c.row m f pc i)[k]?=some x):ldS g (.ptr (some (p,k)))=some x:=by rw [Ai H.at_];exact h
theorem CkB.l0:ldS g (.ptr (some (p,0)))=some c.sv:=H.l 0 rfl
theorem CkB.l1:ldS g (.ptr (some (p,1)))=some c.gv:=H.l 1 rfl
theorem CkB.l2:ldS g (.ptr (some (p,2)))=some c.kv:=H.l 2 rfl
theorem CkB.l3:ldS g (.ptr (some (p,3)))=some c.cv:=H.l 3 rfl
theorem CkB.l4:ldS g (.ptr (some (p,4)))=some c.fv:=H.l 4 rfl
theorem CkB.l8:ldS g (.ptr (some (p,8)))=some (.int .i64 f.sl):=H.l 8 rfl
theorem CkB.l9:ldS g (.ptr (some (p,9)))=some (.int .i64 f.re):=H.l 9 rfl
theorem CkB.l10:ldS g (.ptr (some (p,10)))=some c.ks:=H.l 10 rfl
theorem CkB.l11:ldS g (.ptr (some (p,11)))=some c.co:=H.l 11 rfl
theorem CkB.l12:ldS g (.ptr (some (p,12)))=some c.mv:=H.l 12 rfl
theorem CkB.l13:ldS g (.ptr (some (p,13)))=some c.xv:=H.l 13 rfl
theorem CkB.l14:ldS g (.ptr (some (p,14)))=some c.yv:=H.l 14 rfl
theorem CkB.l15:ldS g (.ptr (some (p,15)))=some c.nv:=H.l 15 rfl
theorem CkB.l16:ldS g (.ptr (some (p,16)))=some (.int .i64 pc):=H.l 16 rfl
theorem CkB.l17:ldS g (.ptr (some (p,17)))=some (.int .i64 i.op):=H.l 17 rfl
theorem CkB.l18:ldS g (.ptr (some (p,18)))=some (.int .i64 i.a):=H.l 18 rfl
theorem CkB.l19:ldS g (.ptr (some (p,19)))=some (.int .i64 i.b):=H.l 19 rfl
theorem CkB.lm:ldA 6 g (.ptr (some (p,0)))=some (.agg [c.sv,c.gv,c.kv,c.cv,c.fv,.int .i64 m.main]):=by rw [Eo H.at_];rfl
theorem CkB.lf:ldA 7 g (.ptr (some (p,6)))=some (.agg [.int .i64 f.pa,.int .i64 f.ca,.int .i64 f.sl,.int .i64 f.re,c.ks,c.co,c.mv]):=by rw [Eo H.at_];rfl
theorem CkB.li:ldA 5 g (.ptr (some (p,17)))=some (.agg i.row):=by rw [Eo H.at_];rfl
theorem CkB.sh:RwC g 3 c.sv m.shapes:=by obtain⟨_,_,_,_,_,e,h,_⟩:=H.md;cases e;exact h
theorem CkB.gl:RdW g 1 c.gv (m.globals.map AV.bool) m.globals.length:=by obtain⟨_,_,_,_,_,e,_,h,_⟩:=H.md;cases e;exact h
theorem CkB.co:RdW g 1 c.kv (m.consts.map (AV.int .i64)) m.consts.length:=by obtain⟨_,_,_,_,_,e,_,_,h,_⟩:=H.md;cases e;exact h
theorem CkB.ca:RwC g 4 c.cv (m.cases.map Cas.row):=by obtain⟨_,_,_,_,_,e,_,_,_,h,_⟩:=H.md;cases e;exact h
theorem CkB.cap:CapV 4 c.cv:=by obtain⟨_,_,_,_,_,e,_,_,_,_,_,_,_,_,_,_,h,_⟩:=H.md;cases e;exact h
theorem CkB.fu:FnsRd g c.fv m.funcs:=by obtain⟨_,_,_,_,_,e,_,_,_,_,h,_⟩:=H.md;cases e;exact h
theorem CkB.ks:RdW g 1 c.ks (f.kinds.map AV.bool) f.kinds.length:=by obtain⟨_,_,_,e,h,_⟩:=H.fn;cases e;exact h
theorem CkB.cd:RwC g 5 c.co (f.code.map Ins.row):=by obtain⟨_,_,_,e,_,h,_⟩:=H.fn;cases e;exact h
theorem CkB.mp:RdW g 1 c.mv (f.maps.map (AV.int .u64)) f.maps.length:=by obtain⟨_,_,_,e,_,_,h,_⟩:=H.fn;cases e;exact h
theorem CkB.lnf:lnL c.fv=some (.int .i64 m.funcs.length):=by
 obtain⟨rows,h1,h2,_⟩:=H.fu
 rw [h1.lnL,h2]
theorem CkB.lnc:lnL c.cv=some (.int .i64 m.cases.length):=by have:=H.ca.lnL;rwa [List.length_map] at this
theorem CkB.lns:lnL c.sv=some (.int .i64 m.shapes.length):=H.sh.lnL
theorem CkB.lng:lnL c.gv=some (.int .i64 m.globals.length):=H.gl.lnL
theorem CkB.lnk:lnL c.kv=some (.int .i64 m.consts.length):=H.co.lnL
theorem CkB.lnd:lnL c.co=some (.int .i64 f.code.length):=by have:=H.cd.lnL;rwa [List.length_map] at this
end
theorem FnsRd.at' {g:Heap}{fv:AV}{fs:List Fn}(H:FnsRd g fv fs){i:Nat}{f:Fn}(hf:fs[i]?=some f):∃ b o kv' cv' mv',b<g.next∧(∀ k,iaS 7 fv (.int k (i:Int))=some (.ptr (some (b,o))))∧
  FnRd g [.int .i64 f.pa,.int .i64 f.ca,.int .i64 f.sl,.int .i64 f.re,kv',cv',mv'] f∧
  ldA 7 g (.ptr (some (b,o)))=some (.agg [.int .i64 f.pa,.int .i64 f.ca,.int .i64 f.sl,.int .i64 f.re,kv',cv',mv']):=by
 obtain⟨rows,h1,h2,h3⟩:=H
 have hi:=(List.getElem?_eq_some_iff.1 hf).1
 obtain⟨r,hr⟩:∃ r,rows[i]?=some r:=⟨_,List.getElem?_eq_getElem (by omega)⟩
 have hfr:=h3 i r f hr hf
 obtain⟨b,o,hb,hix,hla,hls⟩:=h1.at hr
 have hfr0:=hfr
 obtain⟨kv',cv',mv',rfl,_⟩:=hfr
 exact⟨b,o,kv',cv',mv',hb,hix,hfr0,hla⟩
def slotB (f:Fn)(n:Int):Bool:=decide (0≤n) && decide (n<f.sl)
def mayB (f:Fn)(n:Int):Bool:=decide (n = -1)||slotB f n
def runB (f:Fn)(a n:Int):Bool:=decide (n≤0)||(decide (0≤a) && decide (n≤f.sl) && decide (a≤f.sl-n))
def fnD (m:Md)(n:Int):Fn:=(fnAt m n).getD ⟨0,0,0,0,[],[],[]⟩
def casB (m:Md)(i:Ins):Bool:=!(decide (i.a < 0)||decide (i.b < 1)||decide ((m.cases.length:Int)<i.a)||decide ((m.cases.length:Int)-i.a<i.b))
section
variable {g:Heap}{p:Nat}{m:Md}{f:Fn}{pc:Int}{i:Ins}{c:Cv}(H:CkB g p m f pc i c)
include H
theorem JP (n:Int):Ax (.ptr (some (p,0))) (.int .i64 n) g=some (.bool (slotB f n),g):=by
 have q8:=H.l8
 by_cases h:0≤n
 ·simp -implicitDefEqProofs only [Ax,slotB,AJ,AG,h,decide_true,Option.bind_some,AZ,AH,AE,AO,AF,q8,AC,if_true,Bool.true_and]
 ·simp -implicitDefEqProofs only [Ax,slotB,AJ,AG,h,decide_false,Option.bind_some,Ac,AD,AE,AL,AC,Bool.false_eq_true,if_false,Bool.false_and]
theorem Qm {q:Nat}(hq:ldS g (.ptr (some (q,0)))=some (.ptr (some (p,0))))(n:Int):Bj (.int .i64 n) (.ptr (some (q,0))) g=some (.bool (mayB f n),g):=by
 have hs:=JP H n
 by_cases h:n = -1
 ·simp -implicitDefEqProofs only [Bj,mayB,AK,h,decide_true,Option.bind_some,AY,AD,AE,AC,if_true,Bool.true_or]
 ·simp -implicitDefEqProofs only [Bj,mayB,AK,h,decide_false,Option.bind_some,AX,AH,AE,hq,hs,AC,Bool.false_eq_true,if_false,Bool.false_or]
theorem OZ {q:Nat}(hq:ldS g (.ptr (some (q,0)))=some (.ptr (some (p,0))))(n:Int):CG (.int .i64 n) (.ptr (some (q,0))) g=some (.bool (!slotB f n),g):=by
 have hs:=JP H n
 simp -implicitDefEqProofs only [CG,Option.bind_some,AE,hq,hs,Ae]
theorem Np (a n:Int):BB (.ptr (some (p,0))) (.int .i64 a) (.int .i64 n) g=some (.bool (runB f a n),g):=by
 have q8:=H.l8
 have w1:=H.wh.a4
 have w2:=H.wh.a5
 by_cases h:n≤0
 ·simp -implicitDefEqProofs only [BB,runB,AP,h,decide_true,Option.bind_some,AY,AL,AD,AE,AC,if_true,Bool.true_or]
 by_cases h1:0≤a
 ·by_cases h2:n≤f.sl
  ·have w:IntKind.i64.wrap (f.sl-n)=f.sl-n:=B9 (by omega) (by omega)
   simp -implicitDefEqProofs only [BB,runB,AP,AJ,Bc,w,h,h1,h2,decide_true,decide_false,Option.bind_some,AZ,AX,AL,AH,AE,AO,AF,q8,AC,if_true,if_false,Bool.false_eq_true,Bool.false_or,Bool.true_and]
  ·simp -implicitDefEqProofs only [BB,runB,AP,AJ,Bc,h,h1,h2,decide_true,decide_false,Option.bind_some,AZ,AX,Ac,AL,AH,AD,AE,AO,AF,q8,AC,if_true,if_false,Bool.false_eq_true,Bool.false_or,Bool.true_and,Bool.false_and]
 ·simp -implicitDefEqProofs only [BB,runB,AP,AJ,Bc,h,h1,decide_true,decide_false,Option.bind_some,AZ,AX,Ac,AL,AH,AD,AE,AO,AF,q8,AC,if_true,if_false,Bool.false_eq_true,Bool.false_or,Bool.true_and,Bool.false_and]
theorem JZ (n:Int):Ok (A8 (.ptr (some (p,0))) (.int .i64 n) g) fun r=>Same [] g r.2∧∃ kv cv mv,r.1 = .tup [.agg [.int .i64 (fnD m n).pa,.int .i64 (fnD m n).ca,.int .i64 (fnD m n).sl,.int .i64 (fnD m n).re,kv,cv,mv],.bool (fnAt m n).isSome]∧FnRd r.2 [.int .i64 (fnD m n).pa,.int .i64 (fnD m n).ca,.int .i64 (fnD m n).sl,.int .i64 (fnD m n).re,kv,cv,mv] (fnD m n):=by
 generalize hz:Blk.cells true [(AV.int .i64 0),(AV.int .i64 0),(AV.int .i64 0),(AV.int .i64 0),(AV.sl none 0 (.ex 0)),(AV.sl none 0 (.ex 0)),(AV.sl none 0 (.ex 0))]=z
 have s1:Same [] g (g.new z):=Same.new _ _
 have H1:=H.mono s1
 have fin:∀ cs:List AV,cs.length=7→cs.all scalar=true→∃ g',stP 7 (g.new z) (.ptr (some (g.next,0))) (.agg cs)=some (.bot,g')∧Same [] g g'∧ldA 7 g' (.ptr (some (g.next,0)))=some (.agg cs):=fun cs h7 hs=>by
  rw [← hz]
  exact⟨_,Ds Am rfl h7 hs,(Same.new _ _).old (Same.put _ _ _) (fun j hj=>.inr (by simp at hj;omega)),Ck An h7⟩
 generalize hg1:g.new z=g1 at *
 have q4:=H1.l4
 have lnf:=H1.lnf
 have none_:fnAt m n=none→∀ g',Same [] g g'→Same [] g g'∧∃ kv cv mv,AV.tup [.agg [(AV.int .i64 0),(AV.int .i64 0),(AV.int .i64 0),(AV.int .i64 0),(AV.sl none 0 (.ex 0)),(AV.sl none 0 (.ex 0)),(AV.sl none 0 (.ex 0))],.bool false] = .tup [.agg [.int .i64 (fnD m n).pa,.int .i64 (fnD m n).ca,.int .i64 (fnD m n).sl,.int .i64 (fnD m n).re,kv,cv,mv],.bool (fnAt m n).isSome]∧FnRd g' [.int .i64 (fnD m n).pa,.int .i64 (fnD m n).ca,.int .i64 (fnD m n).sl,.int .i64 (fnD m n).re,kv,cv,mv] (fnD m n):=fun e g' s=>by
  have e':fnD m n=⟨0,0,0,0,[],[],[]⟩:=by rw [fnD,e];rfl
  have w0:wfI 0:=PU (n:=0) (by omega)
  refine⟨s,.sl none 0 (.ex 0),.sl none 0 (.ex 0),.sl none 0 (.ex 0),by rw [e',e];rfl,?_⟩
  rw [e']
  exact⟨_,_,_,rfl,⟨rfl,.inl ⟨rfl,rfl⟩⟩,⟨[],⟨rfl,.inl ⟨rfl,rfl⟩⟩,by decide,fun i r h=>by simp at h⟩,⟨rfl,.inl ⟨rfl,rfl⟩⟩,w0,w0,w0,w0,by decide,by decide,by decide,.inl rfl,.inl rfl,.inl rfl,(fun i h=>by simp at h),fun n h=>by simp at h⟩
 by_cases h1:n < 0
 ·obtain⟨g',e1,s',e2⟩:=fin [(AV.int .i64 0),(AV.int .i64 0),(AV.int .i64 0),(AV.int .i64 0),(AV.sl none 0 (.ex 0)),(AV.sl none 0 (.ex 0)),(AV.sl none 0 (.ex 0))] rfl rfl
  exact Ah (v:=.tup [.agg [(AV.int .i64 0),(AV.int .i64 0),(AV.int .i64 0),(AV.int .i64 0),(AV.sl none 0 (.ex 0)),(AV.sl none 0 (.ex 0)),(AV.sl none 0 (.ex 0))],.bool false]) (g:=g') (by
   simp -implicitDefEqProofs only [A8,hz,Af,hg1,AG,h1,decide_true,Option.bind_some,AY,AL,AD,AC,if_true,AB,show bldS [(0,1),(1,1),(2,1),(3,1),(4,1),(5,1),(6,1)] [(AV.int .i64 0),(AV.int .i64 0),(AV.int .i64 0),(AV.int .i64 0),(AV.sl none 0 (.ex 0)),(AV.sl none 0 (.ex 0)),(AV.sl none 0 (.ex 0))] []=some (.agg [(AV.int .i64 0),(AV.int .i64 0),(AV.int .i64 0),(AV.int .i64 0),(AV.sl none 0 (.ex 0)),(AV.sl none 0 (.ex 0)),(AV.sl none 0 (.ex 0))]) from rfl,e1,AE,e2]) (none_ (by rw [fnAt,if_pos h1]) g' s')
 by_cases h2:(m.funcs.length:Int)≤n
 ·obtain⟨g',e1,s',e2⟩:=fin [(AV.int .i64 0),(AV.int .i64 0),(AV.int .i64 0),(AV.int .i64 0),(AV.sl none 0 (.ex 0)),(AV.sl none 0 (.ex 0)),(AV.sl none 0 (.ex 0))] rfl rfl
  exact Ah (v:=.tup [.agg [(AV.int .i64 0),(AV.int .i64 0),(AV.int .i64 0),(AV.int .i64 0),(AV.sl none 0 (.ex 0)),(AV.sl none 0 (.ex 0)),(AV.sl none 0 (.ex 0))],.bool false]) (g:=g') (by
   simp -implicitDefEqProofs only [A8,hz,Af,hg1,AG,AJ,h1,h2,decide_true,decide_false,Option.bind_some,AX,AL,AH,AE,AO,AF,q4,lnf,AC,Bool.false_eq_true,if_false,AB,show bldS [(0,1),(1,1),(2,1),(3,1),(4,1),(5,1),(6,1)] [(AV.int .i64 0),(AV.int .i64 0),(AV.int .i64 0),(AV.int .i64 0),(AV.sl none 0 (.ex 0)),(AV.sl none 0 (.ex 0)),(AV.sl none 0 (.ex 0))] []=some (.agg [(AV.int .i64 0),(AV.int .i64 0),(AV.int .i64 0),(AV.int .i64 0),(AV.sl none 0 (.ex 0)),(AV.sl none 0 (.ex 0)),(AV.sl none 0 (.ex 0))]) from rfl,e1,e2]) (none_ (by rw [fnAt,if_neg h1,List.getElem?_eq_none (by omega)]) g' s')
 obtain⟨f',hf⟩:∃ f',m.funcs[n.toNat]?=some f':=⟨_,List.getElem?_eq_getElem (by omega)⟩
 have hn:((n.toNat:Nat):Int)=n:=by omega
 obtain⟨b,o,kv,cv,mv,hb,hix,FR,hla⟩:=H1.fu.at' hf
 rw [hn] at hix
 have hsc:([AV.int .i64 f'.pa,.int .i64 f'.ca,.int .i64 f'.sl,.int .i64 f'.re,kv,cv,mv]:List AV).all scalar=true:=FR.sc
 obtain⟨g',e1,s',e2⟩:=fin _ rfl hsc
 have eA:fnAt m n=some f':=by rw [fnAt,if_neg h1];exact hf
 have eD:fnD m n=f':=by rw [fnD,eA];rfl
 refine Ah (v:=.tup [.agg [.int .i64 f'.pa,.int .i64 f'.ca,.int .i64 f'.sl,.int .i64 f'.re,kv,cv,mv],.bool true]) (g:=g') (by
   simp -implicitDefEqProofs only [A8,hz,Af,hg1,AG,AJ,h1,h2,decide_true,decide_false,Option.bind_some,AX,AL,AH,AE,AO,AF,q4,lnf,AC,Bool.false_eq_true,if_false,AA,hix,hla,e1,e2]) ⟨s',kv,cv,mv,by rw [eD,eA];rfl,?_⟩
 rw [eD]
 obtain⟨_,_,_,_,_,FR0,_⟩:=H.fu.at' hf
 have:∃ b o kv cv mv,iaS 7 c.fv (.int .i64 n)=some (.ptr (some (b,o)))∧ldA 7 g (.ptr (some (b,o)))=some (.agg [.int .i64 f'.pa,.int .i64 f'.ca,.int .i64 f'.sl,.int .i64 f'.re,kv,cv,mv])∧b<g.next∧FnRd g [.int .i64 f'.pa,.int .i64 f'.ca,.int .i64 f'.sl,.int .i64 f'.re,kv,cv,mv] f':=by
  obtain⟨b,o,kv,cv,mv,h1,h2,h3,h4⟩:=H.fu.at' hf
  rw [hn] at h2
  exact⟨b,o,kv,cv,mv,h2 _,h4,h1,h3⟩
 obtain⟨b0,o0,kv0,cv0,mv0,x1,x2,x3,x4⟩:=this
 have hbo:=x1.symm.trans (hix .i64)
 injection hbo with hbo;injection hbo with hbo;injection hbo with hbo;injection hbo with hb1 ho1
 subst hb1;subst ho1
 have:ldA 7 g1 (.ptr (some (b0,o0)))=ldA 7 g (.ptr (some (b0,o0))):=by simp only [ldA,loadN,s1.get b0 x3 (by simp)]
 rw [this,x2] at hla
 injection hla with hla;injection hla with hla
 simp only [List.cons.injEq,and_true] at hla
 obtain⟨_,_,_,_,rfl,rfl,rfl⟩:=hla
 exact x4.mono s'.next fun j hj=>s'.get j hj (by simp)
end
set_option linter.all false
attribute [local congr] BI D1 Dy D2 Bu D3 Dz Aw Av
section
variable {g:Heap}{p:Nat}{m:Md}{f:Fn}{pc:Int}{i:Ins}{c:Cv}(H:CkB g p m f pc i c)
include H
theorem MM (n:Int):Ok (Bw (.ptr (some (p,0))) (.int .i64 n) g) fun r=>Same [] g r.2∧r.1 = .int .i64 (fnD m n).pa:=by
 refine Ok.eq ?_ (by simp -implicitDefEqProofs only [Bw]<;>rfl)
 refine Ao (JZ H n) ?_
 rintro _ g1 ⟨s1,kv,cv,mv,rfl,FR⟩
 simp only at s1 FR
 have hsc:([AV.int .i64 (fnD m n).pa,.int .i64 (fnD m n).ca,.int .i64 (fnD m n).sl,.int .i64 (fnD m n).re,kv,cv,mv]:List AV).all scalar=true:=FR.sc
 refine Ok.eq ?_ (by simp -implicitDefEqProofs only [Br,List.getElem?_cons_zero,List.getElem?_cons_succ,Option.bind_some]<;>rfl)
 refine EV (n:=7) rfl rfl hsc fun g2 s2 n2 b2=>?_
 have l0:ldS g2 (.ptr (some (g1.next,0)))=some (.int .i64 (fnD m n).pa):=by rw [Ai b2];rfl
 exact Ah (v:=.int .i64 (fnD m n).pa) (g:=g2) (by simp -implicitDefEqProofs only [AF,l0,Option.bind_some]) ⟨s1.trans s2,rfl⟩
theorem Iu:∃ v,A1 (.ptr (some (p,0))) g=some (.tup [v,.bool (casB m i)],g)∧RwC g 4 v ((casesOf m i.a i.b).map Cas.row):=by
 have q18:=H.l18
 have q19:=H.l19
 have q3:=H.l3
 have lnc:=H.lnc
 have hc:=H.sm.2.1
 have wb:=EW H.iw.2.2.1
 have wa:=EW H.iw.2.1
 have nilR:RwC g 4 (.sl none 0 (.ex 0)) (([]:List Cas).map Cas.row):=⟨[],⟨rfl,.inl ⟨rfl,rfl⟩⟩,Nat.zero_le _,fun i r hi=>by simp at hi⟩
 by_cases c1:i.a < 0
 ·refine⟨.sl none 0 (.ex 0),?_,by rw [casesOf,if_pos (.inl c1)];exact nilR⟩
  simp -implicitDefEqProofs only [A1,casB,q18,q19,q3,lnc,Bc,Ap,c1,Bool.true_or,AO,AF,Option.bind_some,AZ,AY,Ac,AX,AL,AH,AD,Ad,AQ,AE,AC,if_true,if_false,Bool.false_eq_true,AJ,AP,AG,AR,AK,AU,decide_true,decide_false,AB,AA,Ae,Bool.not_true,Bool.not_false,AW]
 by_cases c2:i.b < 1
 ·refine⟨.sl none 0 (.ex 0),?_,?_⟩
  ·simp -implicitDefEqProofs only [A1,casB,q18,q19,q3,lnc,Bc,Ap,c1,c2,Bool.true_or,Bool.or_true,Bool.false_or,AO,AF,Option.bind_some,AZ,AY,Ac,AX,AL,AH,AD,Ad,AQ,AE,AC,if_true,if_false,Bool.false_eq_true,AJ,AP,AG,AR,AK,AU,decide_true,decide_false,AB,AA,Ae,Bool.not_true,Bool.not_false,AW]
  ·have:casesOf m i.a i.b = []:=by
    unfold casesOf
    split
    ·rfl
    ·rw [show i.b.toNat=0 by omega,List.take_zero]
   rw [this];exact nilR
 by_cases c3:(m.cases.length:Int)<i.a
 ·refine⟨.sl none 0 (.ex 0),?_,by rw [casesOf,if_pos (.inr (.inr (.inl c3)))];exact nilR⟩
  simp -implicitDefEqProofs only [A1,casB,q18,q19,q3,lnc,Bc,Ap,c1,c2,c3,Bool.true_or,Bool.or_true,Bool.false_or,AO,AF,Option.bind_some,AZ,AY,Ac,AX,AL,AH,AD,Ad,AQ,AE,AC,if_true,if_false,Bool.false_eq_true,AJ,AP,AG,AR,AK,AU,decide_true,decide_false,AB,AA,Ae,Bool.not_true,Bool.not_false,AW]
 have e4:IntKind.i64.wrap ((m.cases.length:Int)-i.a)=(m.cases.length:Int)-i.a:=B9 (by omega) (by omega)
 by_cases c4:(m.cases.length:Int)-i.a<i.b
 ·refine⟨.sl none 0 (.ex 0),?_,by rw [casesOf,if_pos (.inr (.inr (.inr c4)))];exact nilR⟩
  simp -implicitDefEqProofs only [A1,casB,q18,q19,q3,lnc,Bc,Ap,c1,c2,c3,e4,c4,Bool.true_or,Bool.or_true,Bool.false_or,AO,AF,Option.bind_some,AZ,AY,Ac,AX,AL,AH,AD,Ad,AQ,AE,AC,if_true,if_false,Bool.false_eq_true,AJ,AP,AG,AR,AK,AU,decide_true,decide_false,AB,AA,Ae,Bool.not_true,Bool.not_false,AW]
 obtain⟨v',e5,hv'⟩:=H.ca.part H.cap (a:=i.a.toNat) (b:=i.b.toNat) (by simp;omega)
 have ea:((i.a.toNat:Nat):Int)=i.a:=by omega
 have eab:((i.a.toNat+i.b.toNat:Nat):Int)=i.a+i.b:=by omega
 have ew:IntKind.i64.wrap (i.a+i.b)=i.a+i.b:=B9 (by omega) (by omega)
 rw [ea,eab] at e5
 rw [← List.map_drop,← List.map_take] at hv'
 refine⟨v',?_,by rw [casesOf,if_neg (by omega)];exact hv'⟩
 simp -implicitDefEqProofs only [A1,casB,q18,q19,q3,lnc,Bc,Ap,c1,c2,c3,e4,c4,ew,e5,Bool.true_or,Bool.or_true,Bool.false_or,Bool.or_false,AO,AF,Option.bind_some,AZ,AY,Ac,AX,AL,AH,AD,Ad,AQ,AE,AC,if_true,if_false,Bool.false_eq_true,AJ,AP,AG,AR,AK,AU,decide_true,decide_false,AB,AA,Ae,Bool.not_true,Bool.not_false,AW]
end
def TstC (call:CallF)(x:AV)(P:Cas→Bool)(cs:List Cas)(h:Heap):Prop:=
 ∀ g c,c∈cs→Same [] h g→∃ f args,cvP x [.agg c.row]=some (f,args)∧Ok (call f args g) fun r=>r.1 = .bool (P c)∧Same [] g r.2
theorem Nw {h:Heap}{v x:AV}{cs:List Cas}{P:Cas→Bool}(V:RwC h 4 v (cs.map Cas.row))(hl:cs.length≤4611686018427387904)(T:TstC (lookT T57) x P cs h):Ok (Az v x h) fun r=>r.1 = .bool (cs.any P)∧Same [] h r.2:=by
 have lnv:lnL v=some (.int .i64 cs.length):=by have:=V.lnL;rwa [List.length_map] at this
 refine Ok.eq ?_ (by simp -implicitDefEqProofs only [Az,Be,lnv,Option.bind_some]<;>rfl)
 refine Ao (P:=fun r=>Same [] h r.2∧((r.1 = .int .i64 (-1)∧(cs.any P)=false)∨∃ k:Nat,r.1 = .int .i64 k∧(cs.any P)=true)) ?_ ?_
 ·refine CJ (P:=fun r=>Same [] h r.2.2∧((r.1 = .exit 0∧(cs.any P)=false)∨∃ k:Nat,r.1 = .ret∧r.2.1.getD 0 .bot = .int .i64 k∧(cs.any P)=true)) ?_ ?_
  ·refine BF (fun m vs g=>∃ i:Nat,(∃ q,vs = [q,.int .i64 i])∧Same [] h g∧m+i=cs.length∧((cs.take i).any P)=false) ?_ (n:=cs.length) (by omega) ⟨0,⟨_,rfl⟩,Same.refl _ _,rfl,rfl⟩
   rintro m vs g ⟨i,⟨q,rfl⟩,sg,hm,hall⟩
   rw [gD0,gD1]
   by_cases hi:i<cs.length
   ·obtain⟨s,hs⟩:∃ s,cs[i]?=some s:=⟨_,List.getElem?_eq_getElem hi⟩
    have hi':(i:Int)<cs.length:=by omega
    have et:cs.take (i+1)=cs.take i ++ [s]:=by rw [List.take_succ,hs];rfl
    obtain⟨b,o,_,hix,hla,_⟩:=(V.mono sg.next fun j hj=>sg.get j hj (by simp)).at (i:=i) (r:=s.row) (by rw [List.getElem?_map,hs];rfl)
    refine Ok.eq ?_ (by simp -implicitDefEqProofs only [Bs,AG,hi',decide_true,Option.bind_some,AB,hix,hla]<;>rfl)
    obtain⟨fn,args,e1,e2⟩:=T g s (List.mem_of_getElem? hs) sg
    rw [e1,FP]
    refine Ao e2 ?_
    rintro _ g' ⟨rfl,s'⟩
    simp only at s'
    cases hp:P s with
    | true=>
     refine(Ok.of (r:=(Ex.ret,[AV.int .i64 (i:Int),.int .i64 (i:Int)],g')) (.inr ⟨by simp,sg.trans s',.inr ⟨i,rfl,rfl,?_⟩⟩)).eq (by simp -implicitDefEqProofs only [AB])
     exact List.any_eq_true.2 ⟨s,List.mem_of_getElem? hs,hp⟩
    | false=>
     exact(Ok.of (r:=(Ex.normal,[q,AV.int .i64 ((i+1:Nat):Int)],g')) (.inl ⟨rfl,m - 1,by omega,i+1,⟨_,rfl⟩,sg.trans s',by omega,by rw [et,List.any_append,hall];simpa using hp⟩)).eq (by simp -implicitDefEqProofs only [AA,Ap,suc64 i (by omega),Option.bind_some])
   ·have hi' : ¬ (i:Int)<cs.length:=by omega
    have e:cs.take i=cs:=List.take_of_length_le (by omega)
    rw [e] at hall
    exact(Ok.of (r:=(Ex.exit 0,[q,AV.int .i64 (i:Int)],g)) (.inr ⟨by simp,sg,.inl ⟨rfl,hall⟩⟩)).eq (by simp -implicitDefEqProofs only [Bs,AG,hi',decide_false,Option.bind_some,AA])
  ·rintro _ vs g ⟨sg,⟨rfl,hall⟩ | ⟨k,rfl,hv,h2⟩⟩
   ·exact Ah (v:=.int .i64 (-1)) (g:=g) (by simp -implicitDefEqProofs only [if_true,Al]) ⟨sg,.inl ⟨rfl,hall⟩⟩
   ·exact Ah (v:=.int .i64 (k:Int)) (g:=g) (by simp only at hv;simp -implicitDefEqProofs only [reduceCtorEq,if_false,Cm,Dx,hv]) ⟨sg,.inr ⟨k,rfl,h2⟩⟩
 ·rintro _ g ⟨sg,⟨rfl,hall⟩ | ⟨k,rfl,h2⟩⟩
  ·rw [hall]
   exact Ah (v:=.bool false) (g:=g) (by simp -implicitDefEqProofs only [AJ,show ¬ (0:Int)≤-1 by omega,decide_false,Option.bind_some]) ⟨rfl,sg⟩
  ·rw [h2]
   exact Ah (v:=.bool true) (g:=g) (by simp -implicitDefEqProofs only [AJ,show(0:Int)≤(k:Int) by omega,decide_true,Option.bind_some]) ⟨rfl,sg⟩
theorem Nl {h:Heap}{v x:AV}{l:List Int}{P:Int→Bool}(V:RdW h 1 v (wI l) l.length)(hl:l.length≤4611686018427387904)(T:∀ n∈l,∃ f args,cvP x [.int .i64 n]=some (f,args)∧lookT T21 f args h=some (.bool (P n),h)):Ok (BZ v x h) fun r=>r.1 = .bool (l.any P)∧r.2=h:=by
 have lnv:lnL v=some (.int .i64 l.length):=V.lnL
 refine Ok.eq ?_ (by simp -implicitDefEqProofs only [BZ,BW,lnv,Option.bind_some]<;>rfl)
 refine Ao (P:=fun r=>r.2=h∧((r.1 = .int .i64 (-1)∧(l.any P)=false)∨∃ k:Nat,r.1 = .int .i64 k∧(l.any P)=true)) ?_ ?_
 ·refine CJ (P:=fun r=>r.2.2=h∧((r.1 = .exit 0∧(l.any P)=false)∨∃ k:Nat,r.1 = .ret∧r.2.1.getD 0 .bot = .int .i64 k∧(l.any P)=true)) ?_ ?_
  ·refine BF (fun m vs g=>∃ i:Nat,(∃ q,vs = [q,.int .i64 i])∧g=h∧m+i=l.length∧((l.take i).any P)=false) ?_ (n:=l.length) (by omega) ⟨0,⟨_,rfl⟩,rfl,rfl,rfl⟩
   rintro m vs _ ⟨i,⟨q,rfl⟩,rfl,hm,hall⟩
   rw [gD0,gD1]
   by_cases hi:i<l.length
   ·obtain⟨s,hs⟩:∃ s,l[i]?=some s:=⟨_,List.getElem?_eq_getElem hi⟩
    have hi':(i:Int)<l.length:=by omega
    have et:l.take (i+1)=l.take i ++ [s]:=by rw [List.take_succ,hs];rfl
    obtain⟨b,o,_,hix,hla⟩:=V.at (i:=i) (x:=.int .i64 s) (by simp [wI,hs])
    refine Ok.eq ?_ (by simp -implicitDefEqProofs only [Bn,AG,hi',decide_true,Option.bind_some,AB,hix,hla]<;>rfl)
    obtain⟨fn,args,e1,e2⟩:=T s (List.mem_of_getElem? hs)
    rw [e1,FP,e2,AE]
    cases hp:P s with
    | true=>
     refine(Ok.of (r:=(Ex.ret,[AV.int .i64 (i:Int),.int .i64 (i:Int)],_)) (.inr ⟨by simp,rfl,.inr ⟨i,rfl,rfl,?_⟩⟩)).eq (by simp -implicitDefEqProofs only [AB])
     exact List.any_eq_true.2 ⟨s,List.mem_of_getElem? hs,hp⟩
    | false=>
     exact(Ok.of (r:=(Ex.normal,[q,AV.int .i64 ((i+1:Nat):Int)],_)) (.inl ⟨rfl,m - 1,by omega,i+1,⟨_,rfl⟩,rfl,by omega,by rw [et,List.any_append,hall];simpa using hp⟩)).eq (by simp -implicitDefEqProofs only [AA,Ap,suc64 i (by omega),Option.bind_some])
   ·have hi' : ¬ (i:Int)<l.length:=by omega
    have e:l.take i=l:=List.take_of_length_le (by omega)
    rw [e] at hall
    exact(Ok.of (r:=(Ex.exit 0,[q,AV.int .i64 (i:Int)],_)) (.inr ⟨by simp,rfl,.inl ⟨rfl,hall⟩⟩)).eq (by simp -implicitDefEqProofs only [Bn,AG,hi',decide_false,Option.bind_some,AA])
  ·rintro _ vs g ⟨sg,⟨rfl,hall⟩ | ⟨k,rfl,hv,h2⟩⟩
   ·exact Ah (v:=.int .i64 (-1)) (g:=g) (by simp -implicitDefEqProofs only [if_true,Al]) ⟨sg,.inl ⟨rfl,hall⟩⟩
   ·exact Ah (v:=.int .i64 (k:Int)) (g:=g) (by simp only at hv;simp -implicitDefEqProofs only [reduceCtorEq,if_false,Cm,Dx,hv]) ⟨sg,.inr ⟨k,rfl,h2⟩⟩
 ·rintro _ g ⟨sg,⟨rfl,hall⟩ | ⟨k,rfl,h2⟩⟩
  ·rw [hall]
   exact Ah (v:=.bool false) (g:=g) (by simp -implicitDefEqProofs only [AJ,show ¬ (0:Int)≤-1 by omega,decide_false,Option.bind_some]) ⟨rfl,sg⟩
  ·rw [h2]
   exact Ah (v:=.bool true) (g:=g) (by simp -implicitDefEqProofs only [AJ,show(0:Int)≤(k:Int) by omega,decide_true,Option.bind_some]) ⟨rfl,sg⟩
def kdB (f:Fn)(n:Int):Bool:=f.kinds.getD n.toNat false
theorem TC {f:Fn}{n:Int}(w:Whole f)(h:slotB f n=true):f.kinds[n.toNat]?=some (kdB f n)∧0≤n∧n<f.kinds.length:=by
 simp only [slotB,Bool.and_eq_true,decide_eq_true_eq] at h
 have:=w.a8
 have hl:n.toNat<f.kinds.length:=by omega
 refine⟨?_,h.1,by omega⟩
 rw [kdB,List.getD_eq_getElem?_getD,List.getElem?_eq_getElem hl];rfl
theorem CkB.kd {g:Heap}{p:Nat}{m:Md}{f:Fn}{pc:Int}{i:Ins}{c:Cv}(H:CkB g p m f pc i c){n:Int}(h:slotB f n=true):∃ b o,iaS 1 c.ks (.int .i64 n)=some (.ptr (some (b,o)))∧ldS g (.ptr (some (b,o)))=some (.bool (kdB f n)):=by
 obtain⟨h1,h2,h3⟩:=TC H.wh h
 obtain⟨b,o,_,hix,hla⟩:=H.ks.at (i:=n.toNat) (x:=.bool (kdB f n)) (by rw [List.getElem?_map,h1];rfl)
 have:=hix .i64
 rw [show((n.toNat:Nat):Int)=n by omega] at this
 exact⟨b,o,this,hla⟩
theorem NC (P:Int→Bool):∀ l:List Int,(!(l.any fun n=>!(P n)))=l.all P
 | []=>rfl
 | a::l=>by rw [List.any_cons,List.all_cons,Bool.not_or,Bool.not_not,NC P l]
theorem QO {g:Heap}{p:Nat}{m:Md}{f:Fn}{pc:Int}{i:Ins}{c:Cv}(H:CkB g p m f pc i c){lv:AV}{l:List Int}(b:Bool)(V:RdW g 1 lv (wI l) l.length)(hl:l.length≤1048576)(hs:∀ n∈l,slotB f n=true) :
  Ok (Aj (.ptr (some (p,0))) (.bool b) lv g) fun r=>Same [] g r.2∧r.1 = .bool (l.all fun n=>kdB f n == b):=by
 have b1:bxP (.ptr (some (p,0)))=some (.cells true [.ptr (some (p,0))],fun i=>.ptr (some (i,0))):=rfl
 have b2:bxP (.bool b)=some (.cells true [.bool b],fun i=>.ptr (some (i,0))):=rfl
 have s1:Same [] g (g.new (.cells true [.ptr (some (p,0))])):=Same.new _ _
 have g1:(g.new (.cells true [.ptr (some (p,0))])).get g.next=some (.cells true [.ptr (some (p,0))]):=Am
 generalize hg1:g.new (.cells true [.ptr (some (p,0))])=h1 at *
 have n1:h1.next=g.next+1:=by rw [← hg1];rfl
 have s2:Same [] h1 (h1.new (.cells true [.bool b])):=Same.new _ _
 have g2:(h1.new (.cells true [.bool b])).get h1.next=some (.cells true [.bool b]):=Am
 generalize hg2:h1.new (.cells true [.bool b])=h2 at *
 have s:=s1.trans s2
 have H2:=H.mono s
 have g1':h2.get g.next=some (.cells true [.ptr (some (p,0))]):=by rw [s2.get _ (by omega) (by simp)];exact g1
 have q1:ldS h2 (.ptr (some (g.next,0)))=some (.ptr (some (p,0))):=by rw [Ai g1'];rfl
 have q2:ldS h2 (.ptr (some (h1.next,0)))=some (.bool b):=by rw [Ai g2];rfl
 refine Ok.eq ?_ (by simp -implicitDefEqProofs only [Aj,b1,b2,Af,hg1,hg2]<;>rfl)
 refine Ao (Nl (P:=fun n=>!(kdB f n == b)) (V.mono s.next fun j hj=>s.get j hj (by simp)) (by omega) fun n hn=>⟨133,[.int .i64 n,.ptr (some (g.next,0)),.ptr (some (h1.next,0))],rfl,?_⟩) ?_
 ·obtain⟨bb,o,e1,e2⟩:=H2.kd (hs n hn)
  have q10:=H2.l10
  show C9 (.int .i64 n) (.ptr (some (g.next,0))) (.ptr (some (h1.next,0))) h2=_
  simp -implicitDefEqProofs only [C9,q1,q2,q10,e1,e2,Option.bind_some,AO,AF,MC,AW]
 ·rintro _ g' ⟨rfl,hg'⟩
  simp only at hg'
  exact Ah (v:=.bool (l.all fun n=>kdB f n == b)) (g:=g') (by simp -implicitDefEqProofs only [Ae,Option.bind_some,NC (fun n=>kdB f n == b)]) ⟨by rw [hg'];exact s,rfl⟩
set_option linter.all false
attribute [local congr] BI D1 Dy D2 Bu D3 Dz Aw Av
structure Lit (h g:Heap)(v:AV)(l:List Int):Prop where
 same:Same [] h g
 eq:(v = .sl none 0 (.ex 0)∧l = [])∨∃ b,v = .sl (some (b,0)) l.length (.ex l.length)∧h.next≤b∧b<g.next∧g.get b=some (.cells true (wI l))
theorem Lit.of {h g:Heap}(s:Same [] h g)(l:List Int):Lit h (g.new (.cells true (wI l))) (.sl (some (g.next,0)) l.length (.ex l.length)) l:=
 ⟨s.trans (Same.new _ _),.inr ⟨g.next,rfl,s.next,Nat.lt_succ_self _,Am⟩⟩
theorem Lit.mono {h g g':Heap}{v:AV}{l:List Int}(H:Lit h g v l)(s:Same [] g g'):Lit h g' v l:=by
 refine⟨H.same.trans s,?_⟩
 rcases H.eq with e | ⟨b,rfl,h1,h2,h3⟩
 ·exact .inl e
 ·exact .inr ⟨b,rfl,h1,Nat.lt_of_lt_of_le h2 s.next,(s.get b h2 (by simp)).trans h3⟩
theorem Pb {g:Heap}{y:AV}{l:List Int}(H:RdW g 1 y (wI l) l.length):countA y=some l.length∧addedA g 1 y=some (wI l):=by
 constructor
 ·rcases H.eq with⟨rfl,h⟩ | ⟨_,_,_,rfl,_⟩
  ·rw [h];rfl
  ·rfl
 ·rcases H.eq with⟨rfl,h⟩ | ⟨bb,o,c,rfl,hbb,hgg⟩
  ·have:=List.eq_nil_of_length_eq_zero h
   subst this;rfl
  ·by_cases hn:l.length=0
   ·have:=List.eq_nil_of_length_eq_zero hn
    subst this
    simp only [addedA,List.length_nil,Nat.zero_mul]
    cases hld':loadN g (bb,o) 0 with
    | none=>rfl
    | some q=>
     simp only [loadN] at hld'
     split at hld'
     ·rw [Cc] at hld'
      have:=Gf hld'
      rw [Bi _ _ _ this] at hld'
      cases hld'
      simp [wI]
     ·cases hld'
   ·obtain⟨w,pre,rest,ho,hget⟩:=hgg hn
    simp only [addedA,loadN,hget,Cc,Nat.mul_one]
    have:span (wI l) 0 l.length=some (wI l):=by rw [Bi _ _ _ (by rw [EM];omega),List.drop_zero,List.take_of_length_le (by rw [EM];omega)]
    have e:=NJ (pre:=pre) (rest:=rest) this
    rw [ho,Nat.add_zero] at e
    rw [e]
theorem Ru {h g:Heap}{v w:AV}{l l2:List Int}(A:Lit h g v l)(R:RdW g 1 w (wI l2) l2.length)(h1:l.length≤64)(h2:l2.length≤64) :
  ∃ v' g',appendA g 1 8 v w=some (v',g')∧Same [] h g'∧RdW g' 1 v' (wI (l++l2)) (l++l2).length:=by
 obtain⟨hc,ha⟩:=Pb R
 rcases A.eq with⟨rfl,rfl⟩ | ⟨b,rfl,hb,hb',hg⟩
 ·by_cases hn:l2.length=0
  ·have:=List.eq_nil_of_length_eq_zero hn
   subst this
   refine⟨.sl none 0 (.ex 0),g,?_,A.same,⟨rfl,.inl ⟨rfl,rfl⟩⟩⟩
   simp only [appendA,hc,ha,Option.bind_some,List.length_nil,Nat.add_zero,Nat.le_refl,if_true]
  ·refine⟨.sl (some (g.next,0)) (0+l2.length) (.un 1),g.new (.cells true ([]++wI l2)),?_,A.same.trans (Same.new _ _),⟨by simp [wI],.inr ⟨g.next,0,.un 1,by simp,Nat.lt_succ_self _,fun _=>⟨true,[],[],rfl,by rw [Am];simp⟩⟩⟩⟩
   simp only [appendA,hc,ha,Option.bind_some]
   rw [if_neg (by omega),if_pos (by omega)]
   simp only [if_true,Option.bind_some,List.nil_append,ND]
 ·have hld:loadN g (b,0) (l.length * 1)=some (wI l):=by
   simp only [loadN,hg,Cc,Nat.mul_one]
   rw [Bi _ _ _ (by rw [EM];omega),List.drop_zero,List.take_of_length_le (by rw [EM];omega)]
  by_cases hn:l2.length=0
  ·have:=List.eq_nil_of_length_eq_zero hn
   subst this
   refine⟨.sl (some (b,0)) (l.length+0) (.ex l.length),g.put b (some (.cells true (wI l))),?_,A.same.old (Same.put _ _ _) (fun j hj=>.inr (by simp at hj;omega)),⟨by simp [wI],.inr ⟨b,0,.ex l.length,by simp,hb',fun _=>⟨true,[],[],rfl,by rw [An];simp⟩⟩⟩⟩
   simp only [appendA,hc,ha,Option.bind_some,List.length_nil,Nat.add_zero,Nat.le_refl,if_true,addA,storeN,hg,DW]
   have:splice (wI l) (0+l.length * 1) (wI [])=some (wI l):=by
    rw [F3 _ _ _ (by simp [wI])]
    simp [wI]
   rw [this]
   rfl
  ·refine⟨.sl (some (g.next,0)) (l.length+l2.length) (.un 1),g.new (.cells true (wI l++wI l2)),?_,A.same.trans (Same.new _ _),⟨by simp [wI],.inr ⟨g.next,0,.un 1,by simp,Nat.lt_succ_self _,fun _=>⟨true,[],[],rfl,by rw [Am];simp [wI]⟩⟩⟩⟩
   simp only [appendA,hc,ha,Option.bind_some]
   rw [if_neg (by omega),if_pos (by omega),hld,Option.bind_some,if_pos (by rw [List.all_append,ND,ND];rfl)]
def litOp (op:Int):Prop:=¬ op=20∧¬ op=21∧¬ op=22∧¬ op=23∧¬ op=24∧¬ op=36∧¬ op=39∧¬ op=41
theorem PZ {h:Heap}{v:AV}{m:Md}(H:MdRd h v m)(i:Ins)(hd:litOp i.op):Ok (Ak v (.agg i.row) h) fun r=>Lit h r.2 r.1 (readsL m i):=by
 obtain⟨c20,c21,c22,c23,c24,c36,c39,c41⟩:=hd
 obtain⟨sv,gv,kv,cv,fv,rfl,hbx,B⟩:=H.box
 have s0:Same [] h (h.new (.cells true [sv,gv,kv,cv,fv,.int .i64 m.main])):=Same.new _ _
 have hbi:=GL (Ins.sc i)
 generalize hg:h.new (.cells true [sv,gv,kv,cv,fv,.int .i64 m.main])=g at *
 have s1:Same [] g (g.new (.cells true i.row)):=Same.new _ _
 have gn:(g.new (.cells true i.row)).get g.next=some (.cells true i.row):=Am
 generalize hg1:g.new (.cells true i.row)=g1 at *
 have l0:ldS g1 (.ptr (some (g.next,0+0)))=some (.int .i64 i.op):=by rw [Ai gn];rfl
 have l1:ldS g1 (.ptr (some (g.next,0+1)))=some (.int .i64 i.a):=by rw [Ai gn];rfl
 have l2:ldS g1 (.ptr (some (g.next,0+2)))=some (.int .i64 i.b):=by rw [Ai gn];rfl
 have l3:ldS g1 (.ptr (some (g.next,0+3)))=some (.int .i64 i.c):=by rw [Ai gn];rfl
 have s2:Same [] h g1:=s0.trans s1
 by_cases c1:i.op=1
 ·exact Ah (v:=.sl (some (g1.next,0)) 1 (.ex 1)) (g:=g1.new (.cells true (wI [i.b]))) (by simp -implicitDefEqProofs only [Ak,hbx,hbi,Af,hg,hg1,AF,Option.bind_some,l0,AK,AJ,AP,Int.reduceEq,Int.reduceLE,decide_true,decide_false,AY,AX,AZ,Ac,AL,AD,AH,AE,AC,if_true,Bool.false_eq_true,if_false,AB,AA,c1,l2,bs1]) (by rw [show readsL m i = [i.b] by simp only [readsL,c1,Int.reduceEq,Int.reduceLE,true_or,or_true,false_or,or_false,or_self,and_self,and_true,true_and,and_false,false_and,if_true,if_false,ite_true]];exact Lit.of s2 [i.b])
 by_cases c17:i.op=17
 ·exact Ah (v:=.sl (some (g1.next,0)) 1 (.ex 1)) (g:=g1.new (.cells true (wI [i.b]))) (by simp -implicitDefEqProofs only [Ak,hbx,hbi,Af,hg,hg1,AF,Option.bind_some,l0,AK,AJ,AP,Int.reduceEq,Int.reduceLE,decide_true,decide_false,AY,AX,AZ,Ac,AL,AD,AH,AE,AC,if_true,Bool.false_eq_true,if_false,AB,AA,c17,l2,bs1]) (by rw [show readsL m i = [i.b] by simp only [readsL,c17,Int.reduceEq,Int.reduceLE,true_or,or_true,false_or,or_false,or_self,and_self,and_true,true_and,and_false,false_and,if_true,if_false,ite_true]];exact Lit.of s2 [i.b])
 by_cases c33:i.op=33
 ·exact Ah (v:=.sl (some (g1.next,0)) 1 (.ex 1)) (g:=g1.new (.cells true (wI [i.b]))) (by simp -implicitDefEqProofs only [Ak,hbx,hbi,Af,hg,hg1,AF,Option.bind_some,l0,AK,AJ,AP,Int.reduceEq,Int.reduceLE,decide_true,decide_false,AY,AX,AZ,Ac,AL,AD,AH,AE,AC,if_true,Bool.false_eq_true,if_false,AB,AA,c33,l2,bs1]) (by rw [show readsL m i = [i.b] by simp only [readsL,c33,Int.reduceEq,Int.reduceLE,true_or,or_true,false_or,or_false,or_self,and_self,and_true,true_and,and_false,false_and,if_true,if_false,ite_true]];exact Lit.of s2 [i.b])
 by_cases c35:i.op=35
 ·exact Ah (v:=.sl (some (g1.next,0)) 1 (.ex 1)) (g:=g1.new (.cells true (wI [i.b]))) (by simp -implicitDefEqProofs only [Ak,hbx,hbi,Af,hg,hg1,AF,Option.bind_some,l0,AK,AJ,AP,Int.reduceEq,Int.reduceLE,decide_true,decide_false,AY,AX,AZ,Ac,AL,AD,AH,AE,AC,if_true,Bool.false_eq_true,if_false,AB,AA,c35,l2,bs1]) (by rw [show readsL m i = [i.b] by simp only [readsL,c35,Int.reduceEq,Int.reduceLE,true_or,or_true,false_or,or_false,or_self,and_self,and_true,true_and,and_false,false_and,if_true,if_false,ite_true]];exact Lit.of s2 [i.b])
 by_cases c27:i.op=27
 ·exact Ah (v:=.sl (some (g1.next,0)) 1 (.ex 1)) (g:=g1.new (.cells true (wI [i.b]))) (by simp -implicitDefEqProofs only [Ak,hbx,hbi,Af,hg,hg1,AF,Option.bind_some,l0,AK,AJ,AP,Int.reduceEq,Int.reduceLE,decide_true,decide_false,AY,AX,AZ,Ac,AL,AD,AH,AE,AC,if_true,Bool.false_eq_true,if_false,AB,AA,c27,l2,bs1]) (by rw [show readsL m i = [i.b] by simp only [readsL,c27,Int.reduceEq,Int.reduceLE,true_or,or_true,false_or,or_false,or_self,and_self,and_true,true_and,and_false,false_and,if_true,if_false,ite_true]];exact Lit.of s2 [i.b])
 by_cases r0:3≤i.op∧i.op≤16
 ·obtain⟨r1,r2⟩:=r0
  have n1 : ¬ i.op=1:=by omega
  have n17 : ¬ i.op=17:=by omega
  have n33 : ¬ i.op=33:=by omega
  have n35 : ¬ i.op=35:=by omega
  have n27 : ¬ i.op=27:=by omega
  have n39 : ¬ i.op=39:=by omega
  have n30 : ¬ i.op=30:=by omega
  exact Ah (v:=.sl (some (g1.next,0)) 2 (.ex 2)) (g:=g1.new (.cells true (wI [i.b,i.c]))) (by simp -implicitDefEqProofs only [Ak,hbx,hbi,Af,hg,hg1,AF,Option.bind_some,l0,AK,AJ,AP,Int.reduceEq,Int.reduceLE,decide_true,decide_false,AY,AX,AZ,Ac,AL,AD,AH,AE,AC,if_true,Bool.false_eq_true,if_false,AB,AA,n1,n17,n33,n35,n27,n39,n30,r1,r2,l2,l3,bs2]) (by rw [show readsL m i = [i.b,i.c] by simp only [readsL,n1,n17,n33,n35,n27,n39,n30,r1,r2,Int.reduceEq,Int.reduceLE,true_or,or_true,false_or,or_false,or_self,and_self,and_true,true_and,and_false,false_and,if_true,if_false,ite_true]];exact Lit.of s2 [i.b,i.c])
 by_cases c30:i.op=30
 ·exact Ah (v:=.sl (some (g1.next,0)) 2 (.ex 2)) (g:=g1.new (.cells true (wI [i.b,i.c]))) (by simp -implicitDefEqProofs only [Ak,hbx,hbi,Af,hg,hg1,AF,Option.bind_some,l0,AK,AJ,AP,Int.reduceEq,Int.reduceLE,decide_true,decide_false,AY,AX,AZ,Ac,AL,AD,AH,AE,AC,if_true,Bool.false_eq_true,if_false,AB,AA,c30,l2,l3,bs2]) (by rw [show readsL m i = [i.b,i.c] by simp only [readsL,c30,Int.reduceEq,Int.reduceLE,true_or,or_true,false_or,or_false,or_self,and_self,and_true,true_and,and_false,false_and,if_true,if_false,ite_true]];exact Lit.of s2 [i.b,i.c])
 by_cases c19:i.op=19
 ·exact Ah (v:=.sl (some (g1.next,0)) 1 (.ex 1)) (g:=g1.new (.cells true (wI [i.a]))) (by simp -implicitDefEqProofs only [Ak,hbx,hbi,Af,hg,hg1,AF,Option.bind_some,l0,AK,AJ,AP,Int.reduceEq,Int.reduceLE,decide_true,decide_false,AY,AX,AZ,Ac,AL,AD,AH,AE,AC,if_true,Bool.false_eq_true,if_false,AB,AA,c19,l1,bs1]) (by rw [show readsL m i = [i.a] by simp only [readsL,c19,Int.reduceEq,Int.reduceLE,true_or,or_true,false_or,or_false,or_self,and_self,and_true,true_and,and_false,false_and,if_true,if_false,ite_true]];exact Lit.of s2 [i.a])
 by_cases c40:i.op=40
 ·exact Ah (v:=.sl (some (g1.next,0)) 1 (.ex 1)) (g:=g1.new (.cells true (wI [i.a]))) (by simp -implicitDefEqProofs only [Ak,hbx,hbi,Af,hg,hg1,AF,Option.bind_some,l0,AK,AJ,AP,Int.reduceEq,Int.reduceLE,decide_true,decide_false,AY,AX,AZ,Ac,AL,AD,AH,AE,AC,if_true,Bool.false_eq_true,if_false,AB,AA,c40,l1,bs1]) (by rw [show readsL m i = [i.a] by simp only [readsL,c40,Int.reduceEq,Int.reduceLE,true_or,or_true,false_or,or_false,or_self,and_self,and_true,true_and,and_false,false_and,if_true,if_false,ite_true]];exact Lit.of s2 [i.a])
 by_cases c42:i.op=42
 ·exact Ah (v:=.sl (some (g1.next,0)) 1 (.ex 1)) (g:=g1.new (.cells true (wI [i.a]))) (by simp -implicitDefEqProofs only [Ak,hbx,hbi,Af,hg,hg1,AF,Option.bind_some,l0,AK,AJ,AP,Int.reduceEq,Int.reduceLE,decide_true,decide_false,AY,AX,AZ,Ac,AL,AD,AH,AE,AC,if_true,Bool.false_eq_true,if_false,AB,AA,c42,l1,bs1]) (by rw [show readsL m i = [i.a] by simp only [readsL,c42,Int.reduceEq,Int.reduceLE,true_or,or_true,false_or,or_false,or_self,and_self,and_true,true_and,and_false,false_and,if_true,if_false,ite_true]];exact Lit.of s2 [i.a])
 by_cases c26:i.op=26
 ·exact Ah (v:=.sl (some (g1.next,0)) 1 (.ex 1)) (g:=g1.new (.cells true (wI [i.c]))) (by simp -implicitDefEqProofs only [Ak,hbx,hbi,Af,hg,hg1,AF,Option.bind_some,l0,AK,AJ,AP,Int.reduceEq,Int.reduceLE,decide_true,decide_false,AY,AX,AZ,Ac,AL,AD,AH,AE,AC,if_true,Bool.false_eq_true,if_false,AB,AA,c26,l3,bs1]) (by rw [show readsL m i = [i.c] by simp only [readsL,c26,Int.reduceEq,Int.reduceLE,true_or,or_true,false_or,or_false,or_self,and_self,and_true,true_and,and_false,false_and,if_true,if_false,ite_true]];exact Lit.of s2 [i.c])
 by_cases c37:i.op=37
 ·exact Ah (v:=.sl (some (g1.next,0)) 1 (.ex 1)) (g:=g1.new (.cells true (wI [i.c]))) (by simp -implicitDefEqProofs only [Ak,hbx,hbi,Af,hg,hg1,AF,Option.bind_some,l0,AK,AJ,AP,Int.reduceEq,Int.reduceLE,decide_true,decide_false,AY,AX,AZ,Ac,AL,AD,AH,AE,AC,if_true,Bool.false_eq_true,if_false,AB,AA,c37,l3,bs1]) (by rw [show readsL m i = [i.c] by simp only [readsL,c37,Int.reduceEq,Int.reduceLE,true_or,or_true,false_or,or_false,or_self,and_self,and_true,true_and,and_false,false_and,if_true,if_false,ite_true]];exact Lit.of s2 [i.c])
 by_cases c28:i.op=28
 ·exact Ah (v:=.sl (some (g1.next,0)) 2 (.ex 2)) (g:=g1.new (.cells true (wI [i.a,i.c]))) (by simp -implicitDefEqProofs only [Ak,hbx,hbi,Af,hg,hg1,AF,Option.bind_some,l0,AK,AJ,AP,Int.reduceEq,Int.reduceLE,decide_true,decide_false,AY,AX,AZ,Ac,AL,AD,AH,AE,AC,if_true,Bool.false_eq_true,if_false,AB,AA,c28,l1,l3,bs2]) (by rw [show readsL m i = [i.a,i.c] by simp only [readsL,c28,Int.reduceEq,Int.reduceLE,true_or,or_true,false_or,or_false,or_self,and_self,and_true,true_and,and_false,false_and,if_true,if_false,ite_true]];exact Lit.of s2 [i.a,i.c])
 by_cases c29:i.op=29
 ·exact Ah (v:=.sl (some (g1.next,0)) 2 (.ex 2)) (g:=g1.new (.cells true (wI [i.a,i.c]))) (by simp -implicitDefEqProofs only [Ak,hbx,hbi,Af,hg,hg1,AF,Option.bind_some,l0,AK,AJ,AP,Int.reduceEq,Int.reduceLE,decide_true,decide_false,AY,AX,AZ,Ac,AL,AD,AH,AE,AC,if_true,Bool.false_eq_true,if_false,AB,AA,c29,l1,l3,bs2]) (by rw [show readsL m i = [i.a,i.c] by simp only [readsL,c29,Int.reduceEq,Int.reduceLE,true_or,or_true,false_or,or_false,or_self,and_self,and_true,true_and,and_false,false_and,if_true,if_false,ite_true]];exact Lit.of s2 [i.a,i.c])
 by_cases c31:i.op=31
 ·exact Ah (v:=.sl (some (g1.next,0)) 3 (.ex 3)) (g:=g1.new (.cells true (wI [i.a,i.b,i.c]))) (by simp -implicitDefEqProofs only [Ak,hbx,hbi,Af,hg,hg1,AF,Option.bind_some,l0,AK,AJ,AP,Int.reduceEq,Int.reduceLE,decide_true,decide_false,AY,AX,AZ,Ac,AL,AD,AH,AE,AC,if_true,Bool.false_eq_true,if_false,AB,AA,c31,l1,l2,l3,bs3]) (by rw [show readsL m i = [i.a,i.b,i.c] by simp only [readsL,c31,Int.reduceEq,Int.reduceLE,true_or,or_true,false_or,or_false,or_self,and_self,and_true,true_and,and_false,false_and,if_true,if_false,ite_true]];exact Lit.of s2 [i.a,i.b,i.c])
 by_cases c32:i.op=32
 ·exact Ah (v:=.sl (some (g1.next,0)) 3 (.ex 3)) (g:=g1.new (.cells true (wI [i.a,i.b,i.c]))) (by simp -implicitDefEqProofs only [Ak,hbx,hbi,Af,hg,hg1,AF,Option.bind_some,l0,AK,AJ,AP,Int.reduceEq,Int.reduceLE,decide_true,decide_false,AY,AX,AZ,Ac,AL,AD,AH,AE,AC,if_true,Bool.false_eq_true,if_false,AB,AA,c32,l1,l2,l3,bs3]) (by rw [show readsL m i = [i.a,i.b,i.c] by simp only [readsL,c32,Int.reduceEq,Int.reduceLE,true_or,or_true,false_or,or_false,or_self,and_self,and_true,true_and,and_false,false_and,if_true,if_false,ite_true]];exact Lit.of s2 [i.a,i.b,i.c])
 by_cases c38:i.op=38
 ·exact Ah (v:=.sl (some (g1.next,0)) 2 (.ex 2)) (g:=g1.new (.cells true (wI [i.a,i.b]))) (by simp -implicitDefEqProofs only [Ak,hbx,hbi,Af,hg,hg1,AF,Option.bind_some,l0,AK,AJ,AP,Int.reduceEq,Int.reduceLE,decide_true,decide_false,AY,AX,AZ,Ac,AL,AD,AH,AE,AC,if_true,Bool.false_eq_true,if_false,AB,AA,c38,l1,l2,bs2]) (by rw [show readsL m i = [i.a,i.b] by simp only [readsL,c38,Int.reduceEq,Int.reduceLE,true_or,or_true,false_or,or_false,or_self,and_self,and_true,true_and,and_false,false_and,if_true,if_false,ite_true]];exact Lit.of s2 [i.a,i.b])
 have nl:readsL m i = []:=by simp only [readsL,c1,c17,c33,c35,c27,c30,c19,c40,c42,c26,c37,c28,c29,c31,c32,c38,c20,c21,c22,c23,c24,c36,c39,c41,r0,Int.reduceEq,Int.reduceLE,true_or,or_true,false_or,or_false,or_self,and_self,and_true,true_and,and_false,false_and,if_true,if_false,ite_true]
 rw [nl]
 have fin:∀ x,x=some (AV.sl none 0 (.ex 0),g1)→Ok x fun r=>Lit h r.2 r.1 []:=fun x hx=>by rw [hx];exact Ok.of (r:=(AV.sl none 0 (.ex 0),g1)) ⟨s2,.inl ⟨rfl,rfl⟩⟩
 by_cases r1:3≤i.op
 ·have r2 : ¬ i.op≤16:=fun h=>r0 ⟨r1,h⟩
  exact fin _ (by simp -implicitDefEqProofs only [Ak,hbx,hbi,Af,hg,hg1,AF,Option.bind_some,l0,AK,AJ,AP,Int.reduceEq,Int.reduceLE,decide_true,decide_false,AY,AX,AZ,Ac,AL,AD,AH,AE,AC,if_true,Bool.false_eq_true,if_false,AB,AA,c1,c17,c33,c35,c27,c30,c19,c40,c42,c26,c37,c28,c29,c31,c32,c38,c20,c21,c22,c23,c24,c36,c39,c41,r1,r2])
 ·exact fin _ (by simp -implicitDefEqProofs only [Ak,hbx,hbi,Af,hg,hg1,AF,Option.bind_some,l0,AK,AJ,AP,Int.reduceEq,Int.reduceLE,decide_true,decide_false,AY,AX,AZ,Ac,AL,AD,AH,AE,AC,if_true,Bool.false_eq_true,if_false,AB,AA,c1,c17,c33,c35,c27,c30,c19,c40,c42,c26,c37,c28,c29,c31,c32,c38,c20,c21,c22,c23,c24,c36,c39,c41,r1])
set_option linter.all false
attribute [local congr] BI D1 Dy D2 Bu D3 Dz Aw Av
theorem PK {R:Type}{h:Heap}{z v:AV}(hs:scalar v=true){K:AV→Heap→Option R}{Q:R→Prop}
  (hk:∀ u g,Same [] h g→g.next=h.next+1→g.get h.next=some (.cells true [v])→Ok (K u g) Q) :
  Ok (cl (stP 1 (h.new (Blk.cells true [z])) (AV.ptr (some (h.next,0))) v) K) Q:=by
 rw [Cl Am (by simp) hs,AE]
 refine hk _ _ ⟨Nat.le_succ _,fun j hj _=>?_⟩ rfl (by rw [An];rfl)
 rw [Bd (by omega),FK (by omega)]
structure SlW (g:Heap)(p q ib fb:Nat)(m:Md)(f:Fn)(pc:Int)(i:Ins)(c:Cv):Prop where
 ck:CkB g p m f pc i c
 qg:g.get q=some (.cells true [.ptr (some (p,0))])
 ig:g.get ib=some (.cells true i.row)
 fg:g.get fb=some (.cells true [.fn 98 [] [.ptr (some (q,0))]])
 ql:q<g.next
 il:ib<g.next
 fl:fb<g.next
section
variable {g:Heap}{p q ib fb:Nat}{m:Md}{f:Fn}{pc:Int}{i:Ins}{c:Cv}(W:SlW g p q ib fb m f pc i c)
include W
theorem SlW.mono {g':Heap}(s:Same [] g g'):SlW g' p q ib fb m f pc i c:=
 ⟨W.ck.mono s,(s.get _ W.ql (by simp)).trans W.qg,(s.get _ W.il (by simp)).trans W.ig,(s.get _ W.fl (by simp)).trans W.fg,Nat.lt_of_lt_of_le W.ql s.next,Nat.lt_of_lt_of_le W.il s.next,Nat.lt_of_lt_of_le W.fl s.next⟩
theorem SlW.q0:ldS g (.ptr (some (q,0)))=some (.ptr (some (p,0))):=by rw [Ai W.qg];rfl
theorem SlW.f0:ldS g (.ptr (some (fb,0)))=some (.fn 98 [] [.ptr (some (q,0))]):=by rw [Ai W.fg];rfl
theorem SlW.i0:ldS g (.ptr (some (ib,0)))=some (.int .i64 i.op):=by rw [Ai W.ig];rfl
theorem SlW.i1:ldS g (.ptr (some (ib,1)))=some (.int .i64 i.a):=by rw [Ai W.ig];rfl
theorem SlW.i2:ldS g (.ptr (some (ib,2)))=some (.int .i64 i.b):=by rw [Ai W.ig];rfl
theorem SlW.i3:ldS g (.ptr (some (ib,3)))=some (.int .i64 i.c):=by rw [Ai W.ig];rfl
theorem SlW.i4:ldS g (.ptr (some (ib,4)))=some (.int .i64 i.d):=by rw [Ai W.ig];rfl
theorem SlW.ia:ldA 5 g (.ptr (some (ib,0)))=some (.agg i.row):=Ck W.ig rfl
theorem SlW.may {R:Type}(a:Int)(K:AV→Heap→Option R):clF (lookT T59) (cvP (.fn 98 [] [.ptr (some (q,0))]) [.int .i64 a]) g K=K (.bool (mayB f a)) g:=by
 show cl (Bj (.int .i64 a) (.ptr (some (q,0))) g) K=_
 rw [Qm W.ck W.q0,AE]
theorem SlW.may27 {R:Type}(a:Int)(K:AV→Heap→Option R):clF (lookT T27) (cvP (.fn 98 [] [.ptr (some (q,0))]) [.int .i64 a]) g K=K (.bool (mayB f a)) g:=by
 show cl (Bj (.int .i64 a) (.ptr (some (q,0))) g) K=_
 rw [Qm W.ck W.q0,AE]
end
def badC (f:Fn)(c:Cas):Bool:=(decide (c.kind=0) && !(slotB f c.chan && mayB f c.val))||(decide (c.kind=1) && !(slotB f c.chan && slotB f c.val))
def slotsB (m:Md)(f:Fn)(i:Ins):Bool:=
 if i.op < 0 then false else if 44<i.op then false
 else if i.op=20 then mayB f i.a && runB f i.c (fnD m i.b).pa
 else if i.op=21 then mayB f i.a && slotB f i.b && runB f i.c i.d
 else if i.op=22 then mayB f i.a
 else if i.op=23 then runB f i.b (fnD m i.a).pa
 else if i.op=24 then slotB f i.a && runB f i.b i.c
 else if i.op=36 then slotB f i.a && runB f i.c (fnD m i.b).ca
 else if i.op=39 then mayB f i.a && slotB f i.b && mayB f i.c
 else if i.op=41 then !((casesOf m i.a i.b).any (badC f))
 else(readsL m i++writesL i).all (slotB f)
theorem Rm {g:Heap}{p q ib fb:Nat}{m:Md}{f:Fn}{pc:Int}{i:Ins}{c:Cv}(W:SlW g p q ib fb m f pc i c)(x:Cas) :
  Ok (BC (.agg x.row) (.ptr (some (q,0))) (.ptr (some (fb,0))) g) fun r=>r.1 = .bool (badC f x)∧Same [] g r.2:=by
 have bx:bxP (.agg x.row)=some (.cells true x.row,fun i=>.ptr (some (i,0))):=rfl
 have hg:=Lt g (.cells true x.row)
 have sm:Same [] g (g.new (.cells true x.row)):=Same.new _ _
 have W1:=W.mono sm
 generalize hG:g.new (.cells true x.row)=g1 at *
 have l0:ldS g1 (.ptr (some (g.next,0)))=some (.int .i64 x.kind):=by rw [Ai hg];rfl
 have l1:ldS g1 (.ptr (some (g.next,1)))=some (.int .i64 x.chan):=by rw [Ai hg];rfl
 have l2:ldS g1 (.ptr (some (g.next,2)))=some (.int .i64 x.val):=by rw [Ai hg];rfl
 have q0:=W1.q0
 have f0:=W1.f0
 have s1:=JP W1.ck x.chan
 have s2:=JP W1.ck x.val
 refine Ah (v:=.bool (badC f x)) (g:=g1) ?_ ⟨rfl,sm⟩
 by_cases c0:x.kind=0
 ·cases d1:slotB f x.chan
  ·rw [d1] at s1
   simp -implicitDefEqProofs only [BC,badC,bx,Af,hG,l0,l1,l2,q0,f0,s1,s2,W1.may27,Bool.true_and,Bool.false_and,Bool.true_or,Bool.false_or,Bool.or_false,Bool.and_true,Bool.and_false,Bool.or_true,c0,d1,AO,AF,Option.bind_some,AZ,AY,Ac,AX,AL,AH,AD,Ad,AQ,AE,AM,AC,if_true,if_false,Bool.false_eq_true,AJ,AP,AG,AR,AK,AU,Int.reduceEq,Int.reduceLT,decide_true,decide_false,AB,AA,Ae,Bool.not_true,Bool.not_false,AW]
  ·rw [d1] at s1
   cases d2:mayB f x.val
   ·simp -implicitDefEqProofs only [BC,badC,bx,Af,hG,l0,l1,l2,q0,f0,s1,s2,W1.may27,Bool.true_and,Bool.false_and,Bool.true_or,Bool.false_or,Bool.or_false,Bool.and_true,Bool.and_false,Bool.or_true,c0,d1,d2,AO,AF,Option.bind_some,AZ,AY,Ac,AX,AL,AH,AD,Ad,AQ,AE,AM,AC,if_true,if_false,Bool.false_eq_true,AJ,AP,AG,AR,AK,AU,Int.reduceEq,Int.reduceLT,decide_true,decide_false,AB,AA,Ae,Bool.not_true,Bool.not_false,AW]
   ·simp -implicitDefEqProofs only [BC,badC,bx,Af,hG,l0,l1,l2,q0,f0,s1,s2,W1.may27,Bool.true_and,Bool.false_and,Bool.true_or,Bool.false_or,Bool.or_false,Bool.and_true,Bool.and_false,Bool.or_true,c0,d1,d2,AO,AF,Option.bind_some,AZ,AY,Ac,AX,AL,AH,AD,Ad,AQ,AE,AM,AC,if_true,if_false,Bool.false_eq_true,AJ,AP,AG,AR,AK,AU,Int.reduceEq,Int.reduceLT,decide_true,decide_false,AB,AA,Ae,Bool.not_true,Bool.not_false,AW]
 by_cases c1:x.kind=1
 ·cases d1:slotB f x.chan
  ·rw [d1] at s1
   simp -implicitDefEqProofs only [BC,badC,bx,Af,hG,l0,l1,l2,q0,f0,s1,s2,W1.may27,Bool.true_and,Bool.false_and,Bool.true_or,Bool.false_or,Bool.or_false,Bool.and_true,Bool.and_false,Bool.or_true,c0,c1,d1,AO,AF,Option.bind_some,AZ,AY,Ac,AX,AL,AH,AD,Ad,AQ,AE,AM,AC,if_true,if_false,Bool.false_eq_true,AJ,AP,AG,AR,AK,AU,Int.reduceEq,Int.reduceLT,decide_true,decide_false,AB,AA,Ae,Bool.not_true,Bool.not_false,AW]
  ·rw [d1] at s1
   cases d2:slotB f x.val
   ·rw [d2] at s2
    simp -implicitDefEqProofs only [BC,badC,bx,Af,hG,l0,l1,l2,q0,f0,s1,s2,W1.may27,Bool.true_and,Bool.false_and,Bool.true_or,Bool.false_or,Bool.or_false,Bool.and_true,Bool.and_false,Bool.or_true,c0,c1,d1,d2,AO,AF,Option.bind_some,AZ,AY,Ac,AX,AL,AH,AD,Ad,AQ,AE,AM,AC,if_true,if_false,Bool.false_eq_true,AJ,AP,AG,AR,AK,AU,Int.reduceEq,Int.reduceLT,decide_true,decide_false,AB,AA,Ae,Bool.not_true,Bool.not_false,AW]
   ·rw [d2] at s2
    simp -implicitDefEqProofs only [BC,badC,bx,Af,hG,l0,l1,l2,q0,f0,s1,s2,W1.may27,Bool.true_and,Bool.false_and,Bool.true_or,Bool.false_or,Bool.or_false,Bool.and_true,Bool.and_false,Bool.or_true,c0,c1,d1,d2,AO,AF,Option.bind_some,AZ,AY,Ac,AX,AL,AH,AD,Ad,AQ,AE,AM,AC,if_true,if_false,Bool.false_eq_true,AJ,AP,AG,AR,AK,AU,Int.reduceEq,Int.reduceLT,decide_true,decide_false,AB,AA,Ae,Bool.not_true,Bool.not_false,AW]
 simp -implicitDefEqProofs only [BC,badC,bx,Af,hG,l0,l1,l2,q0,f0,s1,s2,W1.may27,Bool.true_and,Bool.false_and,Bool.true_or,Bool.false_or,Bool.or_false,Bool.and_true,Bool.and_false,Bool.or_true,c0,c1,AO,AF,Option.bind_some,AZ,AY,Ac,AX,AL,AH,AD,Ad,AQ,AE,AM,AC,if_true,if_false,Bool.false_eq_true,AJ,AP,AG,AR,AK,AU,Int.reduceEq,Int.reduceLT,decide_true,decide_false,AB,AA,Ae,Bool.not_true,Bool.not_false,AW]
theorem QN {g:Heap}{p:Nat}{m:Md}{f:Fn}{pc:Int}{i:Ins}{c:Cv}(H:CkB g p m f pc i c) :
  Ok (CP (.ptr (some (p,0))) g) fun r=>Same [] g r.2∧r.1 = .bool (slotsB m f i):=by
 have b1:bxP (.ptr (some (p,0)))=some (.cells true [.ptr (some (p,0))],fun i=>.ptr (some (i,0))):=rfl
 have s1:Same [] g (g.new (.cells true [.ptr (some (p,0))])):=Same.new _ _
 have g1:(g.new (.cells true [.ptr (some (p,0))])).get g.next=some (.cells true [.ptr (some (p,0))]):=Am
 generalize hg1:g.new (.cells true [.ptr (some (p,0))])=h1 at *
 have n1:h1.next=g.next+1:=by rw [← hg1];rfl
 have H1:=H.mono s1
 have q1:ldS h1 (.ptr (some (g.next,0)))=some (.ptr (some (p,0))):=by rw [Ai g1];rfl
 have li:=H1.li
 refine Ok.eq ?_ (by simp -implicitDefEqProofs only [CP,b1,Af,hg1,q1,Option.bind_some,AO,AF,Nat.zero_add,li]<;>rfl)
 refine Er (cs:=i.row) (n:=5) (by rfl) (by rfl) (Ins.sc i) fun _ h2 s2 n2 g2=>?_
 refine PK (by rfl) fun _ h3 s3 n3 g3=>?_
 have W:SlW h3 p g.next h1.next h2.next m f pc i c:=⟨(H1.mono s2).mono s3,(s3.get _ (by omega) (by simp)).trans ((s2.get _ (by omega) (by simp)).trans g1),(s3.get _ (by omega) (by simp)).trans g2,g3,by omega,by omega,by omega⟩
 have s:=(s1.trans s2).trans s3
 generalize h1.next=ib at *
 generalize h2.next=fb at *
 clear g1 g2 g3 n1 n2 n3 s1 s2 s3 H1 q1 li hg1 b1
 generalize g.next=q at *
 have q0:=W.q0;have f0:=W.f0;have i0:=W.i0;have i1:=W.i1;have i2:=W.i2;have i3:=W.i3;have i4:=W.i4;have ia:=W.ia
 have mayE:∀ (a:Int) (K:AV→Heap→Option (AV × Heap)),clF (lookT T59) (cvP (.fn 98 [] [.ptr (some (q,0))]) [.int .i64 a]) h3 K=K (.bool (mayB f a)) h3:=fun a K=>W.may a K
 have slotE:∀ n:Int,Ax (.ptr (some (p,0))) (.int .i64 n) h3=some (.bool (slotB f n),h3):=fun n=>JP W.ck n
 have runE:∀ a n:Int,BB (.ptr (some (p,0))) (.int .i64 a) (.int .i64 n) h3=some (.bool (runB f a n),h3):=fun a n=>Np W.ck a n
 have fin:∀ (b:Bool) (x:Option (AV × Heap)),x=some (.bool b,h3)→slotsB m f i=b→Ok x fun r=>Same [] g r.2∧r.1 = .bool (slotsB m f i):=fun b x hx hb=>by rw [hx,hb];exact Ok.of (r:=(AV.bool b,h3)) ⟨s,rfl⟩
 by_cases n0:i.op < 0
 ·exact fin false _ (by simp -implicitDefEqProofs only [i0,q0,f0,n0,AO,AF,Option.bind_some,AZ,AY,Ac,AX,AL,AH,AD,Ad,AQ,AE,AM,AC,if_true,if_false,Bool.false_eq_true,AJ,AP,AG,AR,AK,AU,Int.reduceEq,Int.reduceLT,decide_true,decide_false,AB,AA,Ae,Bool.not_true,Bool.not_false,AW]) (by rw [slotsB,if_pos n0])
 by_cases n44:(44:Int)<i.op
 ·exact fin false _ (by simp -implicitDefEqProofs only [i0,q0,f0,n0,n44,AO,AF,Option.bind_some,AZ,AY,Ac,AX,AL,AH,AD,Ad,AQ,AE,AM,AC,if_true,if_false,Bool.false_eq_true,AJ,AP,AG,AR,AK,AU,Int.reduceEq,Int.reduceLT,decide_true,decide_false,AB,AA,Ae,Bool.not_true,Bool.not_false,AW]) (by rw [slotsB,if_neg n0,if_pos n44])
 refine Ok.eq ?_ (by simp -implicitDefEqProofs only [i0,q0,f0,n0,n44,AO,AF,Option.bind_some,AZ,AY,Ac,AX,AL,AH,AD,Ad,AQ,AE,AM,AC,if_true,if_false,Bool.false_eq_true,AJ,AP,AG,AR,AK,AU,Int.reduceEq,Int.reduceLT,decide_true,decide_false,AB,AA,Ae,Bool.not_true,Bool.not_false,AW]<;>rfl)
 by_cases c20:i.op=20
 ·have e:slotsB m f i=(mayB f i.a && runB f i.c (fnD m i.b).pa):=by rw [slotsB,if_neg n0,if_neg n44,if_pos c20]
  cases d1:mayB f i.a
  ·exact fin false _ (by simp -implicitDefEqProofs only [q0,f0,i1,i2,i3,i4,mayE,slotE,runE,c20,d1,AO,AF,Option.bind_some,AZ,AY,Ac,AX,AL,AH,AD,Ad,AQ,AE,AM,AC,if_true,if_false,Bool.false_eq_true,AJ,AP,AG,AR,AK,AU,Int.reduceEq,Int.reduceLT,decide_true,decide_false,AB,AA,Ae,Bool.not_true,Bool.not_false,AW]) (by rw [e,d1];rfl)
  ·refine Ok.eq ?_ (by simp -implicitDefEqProofs only [q0,f0,i1,i2,i3,i4,mayE,slotE,runE,c20,d1,Bp (f:=fun k=>ldS k (.ptr (some (q,0)))) (h:=h3) q0,Bp (f:=fun k=>ldS k (.ptr (some (ib,3)))) (h:=h3) i3,AO,AF,Option.bind_some,AZ,AY,Ac,AX,AL,AH,AD,Ad,AQ,AE,AM,AC,if_true,if_false,Bool.false_eq_true,AJ,AP,AG,AR,AK,AU,Int.reduceEq,Int.reduceLT,decide_true,decide_false,AB,AA,Ae,Bool.not_true,Bool.not_false,AW]<;>rfl)
   refine Ao (P:=fun r=>Same [] h3 r.2∧r.1 = .int .i64 (fnD m i.b).pa) (Ao (MM W.ck i.b) fun v g' hh=>Ok.of (r:=(v,g')) hh) ?_
   rintro _ g4 ⟨s4,rfl⟩
   simp only at s4
   have W4:=W.mono s4
   have r4:=Np W4.ck i.c (fnD m i.b).pa
   refine Ok.eq ?_ (by simp -implicitDefEqProofs only [r4,Nat.zero_add,AO,AF,Option.bind_some,AZ,AY,Ac,AX,AL,AH,AD,Ad,AQ,AE,AM,AC,if_true,if_false,Bool.false_eq_true,AJ,AP,AG,AR,AK,AU,Int.reduceEq,Int.reduceLT,decide_true,decide_false,AB,AA,Ae,Bool.not_true,Bool.not_false,AW]<;>rfl)
   rw [Cq (Fg _ _) (by simp only [List.mem_cons,List.not_mem_nil,or_false,forall_eq_or_imp,forall_eq];exact⟨i3,i3,W4.i3,W4.i3⟩) (by simp),Cq (Dw _) (by simp only [List.mem_cons,List.not_mem_nil,or_false,forall_eq_or_imp,forall_eq];exact⟨q0,q0,W4.q0,W4.q0⟩) (by simp),AW]
   exact Ok.of (r:=(AV.bool _,g4)) ⟨s.trans s4,by rw [e,d1,Bool.true_and]⟩
 by_cases c21:i.op=21
 ·have e:slotsB m f i=(mayB f i.a && slotB f i.b && runB f i.c i.d):=by rw [slotsB,if_neg n0,if_neg n44,if_neg c20,if_pos c21]
  cases d1:mayB f i.a
  ·exact fin false _ (by simp -implicitDefEqProofs only [q0,f0,i1,i2,i3,i4,mayE,slotE,runE,c20,c21,d1,AO,AF,Option.bind_some,AZ,AY,Ac,AX,AL,AH,AD,Ad,AQ,AE,AM,AC,if_true,if_false,Bool.false_eq_true,AJ,AP,AG,AR,AK,AU,Int.reduceEq,Int.reduceLT,decide_true,decide_false,AB,AA,Ae,Bool.not_true,Bool.not_false,AW]) (by rw [e,d1];rfl)
  cases d2:slotB f i.b
  ·exact fin false _ (by simp -implicitDefEqProofs only [q0,f0,i1,i2,i3,i4,mayE,slotE,runE,c20,c21,d1,d2,AO,AF,Option.bind_some,AZ,AY,Ac,AX,AL,AH,AD,Ad,AQ,AE,AM,AC,if_true,if_false,Bool.false_eq_true,AJ,AP,AG,AR,AK,AU,Int.reduceEq,Int.reduceLT,decide_true,decide_false,AB,AA,Ae,Bool.not_true,Bool.not_false,AW]) (by rw [e,d1,d2];rfl)
  ·exact fin (runB f i.c i.d) _ (by simp -implicitDefEqProofs only [q0,f0,i1,i2,i3,i4,mayE,slotE,runE,c20,c21,d1,d2,AO,AF,Option.bind_some,AZ,AY,Ac,AX,AL,AH,AD,Ad,AQ,AE,AM,AC,if_true,if_false,Bool.false_eq_true,AJ,AP,AG,AR,AK,AU,Int.reduceEq,Int.reduceLT,decide_true,decide_false,AB,AA,Ae,Bool.not_true,Bool.not_false,AW]) (by rw [e,d1,d2];rfl)
 by_cases c22:i.op=22
 ·exact fin (mayB f i.a) _ (by simp -implicitDefEqProofs only [q0,f0,i1,i2,i3,i4,mayE,slotE,runE,c20,c21,c22,AO,AF,Option.bind_some,AZ,AY,Ac,AX,AL,AH,AD,Ad,AQ,AE,AM,AC,if_true,if_false,Bool.false_eq_true,AJ,AP,AG,AR,AK,AU,Int.reduceEq,Int.reduceLT,decide_true,decide_false,AB,AA,Ae,Bool.not_true,Bool.not_false,AW]) (by rw [slotsB,if_neg n0,if_neg n44,if_neg c20,if_neg c21,if_pos c22])
 by_cases c23:i.op=23
 ·have e:slotsB m f i=runB f i.b (fnD m i.a).pa:=by rw [slotsB,if_neg n0,if_neg n44,if_neg c20,if_neg c21,if_neg c22,if_pos c23]
  refine Ok.eq ?_ (by simp -implicitDefEqProofs only [q0,f0,i1,i2,i3,i4,mayE,slotE,runE,c20,c21,c22,c23,Bp (f:=fun k=>ldS k (.ptr (some (q,0)))) (h:=h3) q0,Bp (f:=fun k=>ldS k (.ptr (some (ib,2)))) (h:=h3) i2,AO,AF,Option.bind_some,AZ,AY,Ac,AX,AL,AH,AD,Ad,AQ,AE,AM,AC,if_true,if_false,Bool.false_eq_true,AJ,AP,AG,AR,AK,AU,Int.reduceEq,Int.reduceLT,decide_true,decide_false,AB,AA,Ae,Bool.not_true,Bool.not_false,AW]<;>rfl)
  refine Ao (MM W.ck i.a) ?_
  rintro _ g4 ⟨s4,rfl⟩
  simp only at s4
  have W4:=W.mono s4
  have r4:=Np W4.ck i.b (fnD m i.a).pa
  refine Ok.eq ?_ (by simp -implicitDefEqProofs only [r4,Nat.zero_add,AO,AF,Option.bind_some,AZ,AY,Ac,AX,AL,AH,AD,Ad,AQ,AE,AM,AC,if_true,if_false,Bool.false_eq_true,AJ,AP,AG,AR,AK,AU,Int.reduceEq,Int.reduceLT,decide_true,decide_false,AB,AA,Ae,Bool.not_true,Bool.not_false,AW]<;>rfl)
  rw [Cq (Fg _ _) (by simp only [List.mem_cons,List.not_mem_nil,or_false,forall_eq_or_imp,forall_eq];exact⟨i2,W4.i2,W4.i2⟩) (by simp),Cq (Dw _) (by simp only [List.mem_cons,List.not_mem_nil,or_false,forall_eq_or_imp,forall_eq];exact⟨q0,W4.q0,W4.q0⟩) (by simp),AW]
  exact Ok.of (r:=(AV.bool _,g4)) ⟨s.trans s4,by rw [e]⟩
 by_cases c24:i.op=24
 ·have e:slotsB m f i=(slotB f i.a && runB f i.b i.c):=by rw [slotsB,if_neg n0,if_neg n44,if_neg c20,if_neg c21,if_neg c22,if_neg c23,if_pos c24]
  cases d1:slotB f i.a
  ·exact fin false _ (by simp -implicitDefEqProofs only [q0,f0,i1,i2,i3,i4,mayE,slotE,runE,c20,c21,c22,c23,c24,d1,AO,AF,Option.bind_some,AZ,AY,Ac,AX,AL,AH,AD,Ad,AQ,AE,AM,AC,if_true,if_false,Bool.false_eq_true,AJ,AP,AG,AR,AK,AU,Int.reduceEq,Int.reduceLT,decide_true,decide_false,AB,AA,Ae,Bool.not_true,Bool.not_false,AW]) (by rw [e,d1];rfl)
  ·exact fin (runB f i.b i.c) _ (by simp -implicitDefEqProofs only [q0,f0,i1,i2,i3,i4,mayE,slotE,runE,c20,c21,c22,c23,c24,d1,AO,AF,Option.bind_some,AZ,AY,Ac,AX,AL,AH,AD,Ad,AQ,AE,AM,AC,if_true,if_false,Bool.false_eq_true,AJ,AP,AG,AR,AK,AU,Int.reduceEq,Int.reduceLT,decide_true,decide_false,AB,AA,Ae,Bool.not_true,Bool.not_false,AW]) (by rw [e,d1];rfl)
 by_cases c36:i.op=36
 ·have e:slotsB m f i=(slotB f i.a && runB f i.c (fnD m i.b).ca):=by rw [slotsB,if_neg n0,if_neg n44,if_neg c20,if_neg c21,if_neg c22,if_neg c23,if_neg c24,if_pos c36]
  refine Ok.eq ?_ (by simp -implicitDefEqProofs only [q0,f0,i1,i2,i3,i4,mayE,slotE,runE,c20,c21,c22,c23,c24,c36,AO,AF,Option.bind_some,AZ,AY,Ac,AX,AL,AH,AD,Ad,AQ,AE,AM,AC,if_true,if_false,Bool.false_eq_true,AJ,AP,AG,AR,AK,AU,Int.reduceEq,Int.reduceLT,decide_true,decide_false,AB,AA,Ae,Bool.not_true,Bool.not_false,AW]<;>rfl)
  refine Ao (JZ W.ck i.b) ?_
  rintro _ g4 ⟨s4,kv,cv,mv,rfl,FR⟩
  simp only at s4 FR
  have hsc:([AV.int .i64 (fnD m i.b).pa,.int .i64 (fnD m i.b).ca,.int .i64 (fnD m i.b).sl,.int .i64 (fnD m i.b).re,kv,cv,mv]:List AV).all scalar=true:=FR.sc
  refine Ok.eq ?_ (by simp -implicitDefEqProofs only [Br,List.getElem?_cons_zero,List.getElem?_cons_succ,Option.bind_some,Af]<;>rfl)
  refine Er (cs:=[AV.int .i64 (fnD m i.b).pa,.int .i64 (fnD m i.b).ca,.int .i64 (fnD m i.b).sl,.int .i64 (fnD m i.b).re,kv,cv,mv]) (n:=7) (by rfl) (by rfl) hsc fun _ g5 s5 n5 b5=>?_
  have W5:=W.mono (s4.trans s5)
  have l1:ldS g5 (.ptr (some (g4.next,1)))=some (.int .i64 (fnD m i.b).ca):=by rw [Ai b5];rfl
  have j0:=W5.q0;have j1:=W5.i1;have j3:=W5.i3
  have sl5:=JP W5.ck i.a
  have r5:=Np W5.ck i.c (fnD m i.b).ca
  cases d1:slotB f i.a
  ·rw [d1] at sl5
   exact Ah (v:=.bool false) (g:=g5) (by simp -implicitDefEqProofs only [j0,j1,j3,l1,sl5,r5,AO,AF,Option.bind_some,AZ,AY,Ac,AX,AL,AH,AD,Ad,AQ,AE,AM,AC,if_true,if_false,Bool.false_eq_true,AJ,AP,AG,AR,AK,AU,Int.reduceEq,Int.reduceLT,decide_true,decide_false,AB,AA,Ae,Bool.not_true,Bool.not_false,AW]) ⟨s.trans (s4.trans s5),by rw [e,d1];rfl⟩
  ·rw [d1] at sl5
   exact Ah (v:=.bool (runB f i.c (fnD m i.b).ca)) (g:=g5) (by simp -implicitDefEqProofs only [j0,j1,j3,l1,sl5,r5,AO,AF,Option.bind_some,AZ,AY,Ac,AX,AL,AH,AD,Ad,AQ,AE,AM,AC,if_true,if_false,Bool.false_eq_true,AJ,AP,AG,AR,AK,AU,Int.reduceEq,Int.reduceLT,decide_true,decide_false,AB,AA,Ae,Bool.not_true,Bool.not_false,AW]) ⟨s.trans (s4.trans s5),by rw [e,d1];rfl⟩
 by_cases c39:i.op=39
 ·have e:slotsB m f i=(mayB f i.a && slotB f i.b && mayB f i.c):=by rw [slotsB,if_neg n0,if_neg n44,if_neg c20,if_neg c21,if_neg c22,if_neg c23,if_neg c24,if_neg c36,if_pos c39]
  cases d1:mayB f i.a
  ·exact fin false _ (by simp -implicitDefEqProofs only [q0,f0,i1,i2,i3,i4,mayE,slotE,runE,c20,c21,c22,c23,c24,c36,c39,d1,AO,AF,Option.bind_some,AZ,AY,Ac,AX,AL,AH,AD,Ad,AQ,AE,AM,AC,if_true,if_false,Bool.false_eq_true,AJ,AP,AG,AR,AK,AU,Int.reduceEq,Int.reduceLT,decide_true,decide_false,AB,AA,Ae,Bool.not_true,Bool.not_false,AW]) (by rw [e,d1];rfl)
  cases d2:slotB f i.b
  ·exact fin false _ (by simp -implicitDefEqProofs only [q0,f0,i1,i2,i3,i4,mayE,slotE,runE,c20,c21,c22,c23,c24,c36,c39,d1,d2,AO,AF,Option.bind_some,AZ,AY,Ac,AX,AL,AH,AD,Ad,AQ,AE,AM,AC,if_true,if_false,Bool.false_eq_true,AJ,AP,AG,AR,AK,AU,Int.reduceEq,Int.reduceLT,decide_true,decide_false,AB,AA,Ae,Bool.not_true,Bool.not_false,AW]) (by rw [e,d1,d2];rfl)
  ·exact fin (mayB f i.c) _ (by simp -implicitDefEqProofs only [q0,f0,i1,i2,i3,i4,mayE,slotE,runE,c20,c21,c22,c23,c24,c36,c39,d1,d2,AO,AF,Option.bind_some,AZ,AY,Ac,AX,AL,AH,AD,Ad,AQ,AE,AM,AC,if_true,if_false,Bool.false_eq_true,AJ,AP,AG,AR,AK,AU,Int.reduceEq,Int.reduceLT,decide_true,decide_false,AB,AA,Ae,Bool.not_true,Bool.not_false,AW]) (by rw [e,d1,d2];rfl)
 by_cases c41:i.op=41
 ·have e:slotsB m f i = !((casesOf m i.a i.b).any (badC f)):=by rw [slotsB,if_neg n0,if_neg n44,if_neg c20,if_neg c21,if_neg c22,if_neg c23,if_neg c24,if_neg c36,if_neg c39,if_pos c41]
  obtain⟨v,ec,hv⟩:=Iu W.ck
  refine Ok.eq ?_ (by simp -implicitDefEqProofs only [q0,f0,i1,i2,i3,i4,mayE,slotE,runE,c20,c21,c22,c23,c24,c36,c39,c41,ec,Br,List.getElem?_cons_zero,List.getElem?_cons_succ,AO,AF,Option.bind_some,AZ,AY,Ac,AX,AL,AH,AD,Ad,AQ,AE,AM,AC,if_true,if_false,Bool.false_eq_true,AJ,AP,AG,AR,AK,AU,Int.reduceEq,Int.reduceLT,decide_true,decide_false,AB,AA,Ae,Bool.not_true,Bool.not_false,AW]<;>rfl)
  refine Ao (Nw hv (by have:=FD W.ck.sm.2.1 i.a i.b;omega) (P:=badC f) fun g' x hx sx=>⟨105,[.agg x.row,.ptr (some (q,0)),.ptr (some (fb,0))],rfl,?_⟩) ?_
  ·exact Rm (W.mono sx) x
  ·rintro _ g4 ⟨rfl,s4⟩
   simp only at s4
   exact Ah (v:=.bool (!((casesOf m i.a i.b).any (badC f)))) (g:=g4) (by simp -implicitDefEqProofs only [Ae,Option.bind_some]) ⟨s.trans s4,by rw [e]⟩
 have e:slotsB m f i=(readsL m i++writesL i).all (slotB f):=by rw [slotsB,if_neg n0,if_neg n44,if_neg c20,if_neg c21,if_neg c22,if_neg c23,if_neg c24,if_neg c36,if_neg c39,if_neg c41]
 have lm:=W.ck.lm
 refine Ok.eq ?_ (by simp -implicitDefEqProofs only [q0,f0,i1,i2,i3,i4,mayE,slotE,runE,c20,c21,c22,c23,c24,c36,c39,c41,lm,ia,Nat.zero_add,AO,AF,Option.bind_some,AZ,AY,Ac,AX,AL,AH,AD,Ad,AQ,AE,AM,AC,if_true,if_false,Bool.false_eq_true,AJ,AP,AG,AR,AK,AU,Int.reduceEq,Int.reduceLT,decide_true,decide_false,AB,AA,Ae,Bool.not_true,Bool.not_false,AW]<;>rfl)
 refine Ao (PZ W.ck.md i ⟨c20,c21,c22,c23,c24,c36,c39,c41⟩) ?_
 intro v4 g4 A4
 simp only at A4
 have W4:=W.mono A4.same
 have ia4:=W4.ia
 refine Ok.eq ?_ (by simp -implicitDefEqProofs only [Bp (f:=fun k=>ldA 5 k (.ptr (some (ib,0)))) (h:=g4) ia4,AM]<;>rfl)
 refine Ao (Ko i) ?_
 intro v5 g5 A5
 simp only at A5
 have W5:=W4.mono A5.same
 have hlr:(readsL m i).length≤64:=by unfold readsL;simp only [c20,c21,c22,c23,c24,c36,c39,c41,if_false];repeat' (first | refine EN ?_ ?_ | simp)
 have hlw:=IP i
 obtain⟨v6,g6,e6,s6,R6⟩:=Ru (A4.mono A5.same) A5.rd hlr (by omega)
 have W6:=W.mono s6
 refine Ok.eq ?_ (by simp -implicitDefEqProofs only [e6,AE]<;>rfl)
 refine Ao (Nl (P:=fun n=>!slotB f n) R6 (by rw [List.length_append];omega) fun n hn=>⟨107,[.int .i64 n,.ptr (some (q,0))],rfl,?_⟩) ?_
 ·show CG (.int .i64 n) (.ptr (some (q,0))) g6=_
  exact OZ W6.ck W6.q0 n
 ·rintro _ g7 ⟨rfl,hg7⟩
  simp only at hg7
  subst hg7
  refine Ok.eq ?_ (by simp -implicitDefEqProofs only [Ae,Option.bind_some,NC (slotB f)]<;>rfl)
  rw [Cq (ML i) (by simp only [List.mem_cons,List.not_mem_nil,or_false,forall_eq_or_imp,forall_eq];exact⟨ia,W4.ia,W5.ia,W6.ia,W6.ia⟩) (by simp),AW]
  exact Ok.of (r:=(AV.bool _,_)) ⟨s.trans s6,by rw [e]⟩
set_option linter.all false
attribute [local congr] BI D1 Dy D2 Bu D3 Dz Aw Av
def shKind (r:List AV):Int:=match r with | .int _ a::_=>a | _=>0
def shapeB (m:Md)(n k:Int):Bool:=decide (0≤n) && decide (n<m.shapes.length) && decide (shKind (m.shapes.getD n.toNat [])=k)
theorem QJ {g:Heap}{p:Nat}{m:Md}{f:Fn}{pc:Int}{i:Ins}{c:Cv}(H:CkB g p m f pc i c)(n k:Int):BN (.ptr (some (p,0))) (.int .i64 n) (.int .i64 k) g=some (.bool (shapeB m n k),g):=by
 have q0:=H.l0
 have lns:=H.lns
 by_cases h1:0≤n
 ·by_cases h2:n<m.shapes.length
  ·obtain⟨r,hr⟩:∃ r,m.shapes[n.toNat]?=some r:=⟨_,List.getElem?_eq_getElem (by omega)⟩
   have hsh:∀ r∈m.shapes,∃ a b c,r = [.int .i64 a,.int .i64 b,.int .u64 c]:=by
    obtain⟨_,_,_,_,_,_,_,_,_,_,_,_,_,_,_,_,_,_,_,h,_⟩:=H.md
    exact h
   obtain⟨a,b,d,rfl⟩:=hsh r (List.mem_of_getElem? hr)
   obtain⟨bb,o,_,hix,_,hls⟩:=H.sh.at hr
   have hix':=hix .i64
   rw [show((n.toNat:Nat):Int)=n by omega] at hix'
   have l0:=hls 0 _ rfl
   have e:m.shapes.getD n.toNat [] = [.int .i64 a,.int .i64 b,.int .u64 d]:=by rw [List.getD_eq_getElem?_getD,hr];rfl
   have ek:shKind [.int .i64 a,.int .i64 b,.int .u64 d]=a:=rfl
   simp -implicitDefEqProofs only [BN,shapeB,q0,lns,h1,h2,hix',l0,e,ek,Bool.true_and,Bool.false_and,Bool.true_or,Bool.false_or,Bool.or_false,Bool.and_true,Bool.and_false,Bool.or_true,AO,AF,Option.bind_some,AZ,AY,Ac,AX,AL,AH,AD,Ad,AQ,AE,AM,AC,if_true,if_false,Bool.false_eq_true,AJ,AP,AG,AR,AK,AU,Int.reduceEq,Int.reduceLT,decide_true,decide_false,AB,AA,Ae,Bool.not_true,Bool.not_false,AW]
  ·simp -implicitDefEqProofs only [BN,shapeB,q0,lns,h1,h2,Bool.true_and,Bool.false_and,Bool.true_or,Bool.false_or,Bool.or_false,Bool.and_true,Bool.and_false,Bool.or_true,AO,AF,Option.bind_some,AZ,AY,Ac,AX,AL,AH,AD,Ad,AQ,AE,AM,AC,if_true,if_false,Bool.false_eq_true,AJ,AP,AG,AR,AK,AU,Int.reduceEq,Int.reduceLT,decide_true,decide_false,AB,AA,Ae,Bool.not_true,Bool.not_false,AW]
 ·simp -implicitDefEqProofs only [BN,shapeB,q0,lns,h1,Bool.true_and,Bool.false_and,Bool.true_or,Bool.false_or,Bool.or_false,Bool.and_true,Bool.and_false,Bool.or_true,AO,AF,Option.bind_some,AZ,AY,Ac,AX,AL,AH,AD,Ad,AQ,AE,AM,AC,if_true,if_false,Bool.false_eq_true,AJ,AP,AG,AR,AK,AU,Int.reduceEq,Int.reduceLT,decide_true,decide_false,AB,AA,Ae,Bool.not_true,Bool.not_false,AW]
structure NmB (g:Heap)(p nb:Nat)(m:Md)(c:Cv)(nm:List Bool):Prop where
 blk:g.get nb=some (.cells true (nm.map AV.bool))
 lt:nb<g.next
 eq:c.nv = .sl (some (nb,0)) nm.length (.ex nm.length)
 len:nm.length=m.cases.length
 ne:nb≠p
def badK (cs:List Cas)(nm:List Bool)(a k:Nat):Bool:=match cs[k]? with | some x=>decide (x.kind < 0)||decide (2<x.kind)||nm.getD (a+k) false | none=>false
def dfl (cs:List Cas)(k:Nat):Nat:=((cs.take k).filter fun x=>decide (x.kind=2)).length
theorem Sa (cs:List Cas)(k:Nat):dfl cs k≤k:=by
 unfold dfl
 refine Nat.le_trans (List.length_filter_le _ _) ?_
 simp;omega
theorem Na {cs:List Cas}{k:Nat}{x:Cas}(h:cs[k]?=some x):dfl cs (k+1)=dfl cs k+if x.kind=2 then 1 else 0:=by
 unfold dfl
 rw [List.take_succ,h]
 by_cases e:x.kind=2
 ·simp [List.filter_append,e]
 ·simp [List.filter_append,e]
def markL (nm:List Bool)(a:Nat):Nat→List Bool
 | 0=>nm
 | k+1=>(markL nm a k).set (a+k) true
theorem KB (nm:List Bool)(a:Nat):∀ k,(markL nm a k).length=nm.length
 | 0=>rfl
 | k+1=>by rw [markL,List.length_set,KB nm a k]
def freshR (m:Md)(i:Ins)(nm:List Bool):Bool × List Bool:=
 if casB m i=false then(false,nm)
 else if ((List.range (casesOf m i.a i.b).length).any (badK (casesOf m i.a i.b) nm i.a.toNat))=true then(false,nm)
 else(decide (dfl (casesOf m i.a i.b) (casesOf m i.a i.b).length≤1),markL nm i.a.toNat (casesOf m i.a i.b).length)
section
variable {g:Heap}{p nb:Nat}{m:Md}{f:Fn}{pc:Int}{i:Ins}{c:Cv}{nm:List Bool}(H:CkB g p m f pc i c)(N:NmB g p nb m c nm)(hc:casB m i=true)
include H N hc
omit H N in
theorem On:0≤i.a∧i.a+(casesOf m i.a i.b).length≤m.cases.length:=by
 simp only [casB,Bool.not_eq_true',Bool.or_eq_false_iff,decide_eq_false_iff_not] at hc
 obtain⟨⟨⟨h1,h2⟩,h3⟩,h4⟩:=hc
 rw [casesOf,if_neg (by omega)]
 simp only [List.length_take,List.length_drop]
 omega
theorem QQ {v:AV}(V:RwC g 4 v ((casesOf m i.a i.b).map Cas.row)) :
  Ok (EU (.ptr (some (p,0))) v (.int .i64 (casesOf m i.a i.b).length) (.bool false) (.int .i64 0) (.int .i64 0) g) fun r=>Same [] g r.2.2∧((r.1 = .ret∧r.2.1.getD 0 .bot = .bool false∧((List.range (casesOf m i.a i.b).length).any (badK (casesOf m i.a i.b) nm i.a.toNat))=true)∨
   (r.1 = .exit 0∧r.2.1.getD 1 .bot = .int .i64 (dfl (casesOf m i.a i.b) (casesOf m i.a i.b).length:Nat)∧((List.range (casesOf m i.a i.b).length).any (badK (casesOf m i.a i.b) nm i.a.toNat))=false)):=by
 obtain⟨ha,hle⟩:=On hc
 have h60:=H.sm.2.1
 generalize hcs:casesOf m i.a i.b=cs at *
 refine BF (fun q us g'=>∃ k:Nat,us = [.bool false,.int .i64 (dfl cs k:Nat),.int .i64 (k:Nat)]∧q+k=cs.length∧Same [] g g'∧∀ j,j<k→badK cs nm i.a.toNat j=false) ?_ (n:=cs.length) (by omega) ⟨0,rfl,rfl,Same.refl _ _,fun j h=>by omega⟩
 rintro q us g' ⟨k,rfl,hq,s,hall⟩
 rw [gD0,gD1,gD2]
 by_cases hk:k<cs.length
 ·have hk':(k:Int)<cs.length:=by omega
  obtain⟨x,hx⟩:∃ x,cs[k]?=some x:=⟨_,List.getElem?_eq_getElem hk⟩
  obtain⟨b,o,_,hix,hla,_⟩:=(V.mono s.next fun j hj=>s.get j hj (by simp)).at (i:=k) (r:=x.row) (by rw [List.getElem?_map,hx];rfl)
  refine Ok.eq ?_ (by simp -implicitDefEqProofs only [DF,AG,hk',decide_true,Option.bind_some,AB,hix,hla]<;>rfl)
  refine EV (cs:=x.row) (n:=4) (by rfl) (by rfl) (Cas.sc x) fun g2 s' n' hg'=>?_
  have sg:=s.trans s'
  have H2:=H.mono sg
  have l0:ldS g2 (.ptr (some (g'.next,0)))=some (.int .i64 x.kind):=by rw [Ai hg'];rfl
  have q15:=H2.l15
  have q19:=H2.l19
  have q18:=H2.l18
  have hN:g2.get nb=some (.cells true (nm.map AV.bool)):=by rw [sg.get _ N.lt (by simp)];exact N.blk
  have bk:badK cs nm i.a.toNat k=(decide (x.kind < 0)||decide (2<x.kind)||nm.getD (i.a.toNat+k) false):=by unfold badK;rw [hx]
  have ret:badK cs nm i.a.toNat k=true→Ok (some (Ex.ret,[AV.bool false,.int .i64 (dfl cs k:Nat),.int .i64 (k:Nat)],g2)) fun r=>(r.1 = .normal∧∃ m,m<q∧∃ k:Nat,r.2.1 = [.bool false,.int .i64 (dfl cs k:Nat),.int .i64 (k:Nat)]∧m+k=cs.length∧Same [] g r.2.2∧∀ j,j<k→badK cs nm i.a.toNat j=false)∨(r.1≠.normal∧Same [] g r.2.2∧((r.1 = .ret∧r.2.1.getD 0 .bot = .bool false∧((List.range cs.length).any (badK cs nm i.a.toNat))=true)∨
   (r.1 = .exit 0∧r.2.1.getD 1 .bot = .int .i64 (dfl cs cs.length:Nat)∧((List.range cs.length).any (badK cs nm i.a.toNat))=false))):=fun h=>
    Ok.of (r:=(Ex.ret,[AV.bool false,.int .i64 (dfl cs k:Nat),.int .i64 (k:Nat)],g2)) (.inr ⟨by simp,sg,.inl ⟨rfl,rfl,List.any_eq_true.2 ⟨k,List.mem_range.2 hk,h⟩⟩⟩)
  by_cases d1:x.kind < 0
  ·exact(ret (by rw [bk,decide_eq_true d1];rfl)).eq (by simp -implicitDefEqProofs only [l0,q15,q18,d1,AO,AF,Option.bind_some,AZ,AY,Ac,AX,AL,AH,AD,Ad,AQ,AE,AM,AC,if_true,if_false,Bool.false_eq_true,AJ,AP,AG,AR,AK,AU,Int.reduceEq,Int.reduceLT,decide_true,decide_false,AB,AA,Ae,Bool.not_true,Bool.not_false,AW])
  by_cases d2:(2:Int)<x.kind
  ·exact(ret (by rw [bk,decide_eq_true d2];simp)).eq (by simp -implicitDefEqProofs only [l0,q15,q18,d1,d2,AO,AF,Option.bind_some,AZ,AY,Ac,AX,AL,AH,AD,Ad,AQ,AE,AM,AC,if_true,if_false,Bool.false_eq_true,AJ,AP,AG,AR,AK,AU,Int.reduceEq,Int.reduceLT,decide_true,decide_false,AB,AA,Ae,Bool.not_true,Bool.not_false,AW])
  have hin:i.a.toNat+k<nm.length:=by rw [N.len];omega
  have w:IntKind.i64.wrap (i.a+(k:Int))=i.a+(k:Int):=B9 (by omega) (by omega)
  have hnx:iaS 1 c.nv (.int .i64 (i.a+(k:Int)))=some (.ptr (some (nb,i.a.toNat+k))):=by
   rw [N.eq,E7 1 (nb,0) _ _ _ _ ⟨by omega,by omega⟩]
   simp only [Nat.zero_add,Nat.mul_one]
   congr 5;omega
  have hld:ldS g2 (.ptr (some (nb,i.a.toNat+k)))=some (.bool (nm.getD (i.a.toNat+k) false)):=by
   rw [Ai hN,List.getElem?_map,List.getD_eq_getElem?_getD,List.getElem?_eq_getElem hin];rfl
  cases d3:nm.getD (i.a.toNat+k) false with
  | true=>
   rw [d3] at hld
   exact(ret (by rw [bk,d3];simp)).eq (by simp -implicitDefEqProofs only [l0,q15,q18,d1,d2,Ap,w,hnx,hld,AO,AF,Option.bind_some,AZ,AY,Ac,AX,AL,AH,AD,Ad,AQ,AE,AM,AC,if_true,if_false,Bool.false_eq_true,AJ,AP,AG,AR,AK,AU,Int.reduceEq,Int.reduceLT,decide_true,decide_false,AB,AA,Ae,Bool.not_true,Bool.not_false,AW])
  | false=>
   rw [d3] at hld
   have hall':∀ j,j<k+1→badK cs nm i.a.toNat j=false:=fun j hj=>by
    rcases (by omega:j<k∨j=k) with h | rfl
    ·exact hall j h
    ·rw [bk,decide_eq_false d1,decide_eq_false d2,d3];rfl
   have hd:=Sa cs k
   by_cases d4:x.kind=2
   ·exact(Ok.of (r:=(Ex.normal,[AV.bool false,.int .i64 (dfl cs (k+1):Nat),.int .i64 ((k+1:Nat):Int)],g2)) (.inl ⟨rfl,q - 1,by omega,k+1,rfl,by omega,sg,hall'⟩)).eq (by
     rw [Na hx,if_pos d4]
     simp -implicitDefEqProofs only [l0,q15,q18,d1,d2,d4,Ap,w,hnx,hld,Ca,suc64 k (by omega),suc64 (dfl cs k) (by omega),AO,AF,Option.bind_some,AZ,AY,Ac,AX,AL,AH,AD,Ad,AQ,AE,AM,AC,if_true,if_false,Bool.false_eq_true,AJ,AP,AG,AR,AK,AU,Int.reduceEq,Int.reduceLT,decide_true,decide_false,AB,AA,Ae,Bool.not_true,Bool.not_false,AW])
   ·exact(Ok.of (r:=(Ex.normal,[AV.bool false,.int .i64 (dfl cs (k+1):Nat),.int .i64 ((k+1:Nat):Int)],g2)) (.inl ⟨rfl,q - 1,by omega,k+1,rfl,by omega,sg,hall'⟩)).eq (by
     rw [Na hx,if_neg d4,Nat.add_zero]
     simp -implicitDefEqProofs only [l0,q15,q18,d1,d2,d4,Ap,w,hnx,hld,Ca,suc64 k (by omega),AO,AF,Option.bind_some,AZ,AY,Ac,AX,AL,AH,AD,Ad,AQ,AE,AM,AC,if_true,if_false,Bool.false_eq_true,AJ,AP,AG,AR,AK,AU,Int.reduceEq,Int.reduceLT,decide_true,decide_false,AB,AA,Ae,Bool.not_true,Bool.not_false,AW])
 ·have hk' : ¬ (k:Int)<cs.length:=by omega
  have e:k=cs.length:=by omega
  subst e
  refine(Ok.of (r:=(Ex.exit 0,[AV.bool false,.int .i64 (dfl cs cs.length:Nat),.int .i64 (cs.length:Nat)],g')) (.inr ⟨by simp,s,.inr ⟨rfl,rfl,?_⟩⟩)).eq (by
   simp -implicitDefEqProofs only [DF,AG,hk',decide_false,Option.bind_some,AA])
  rw [List.any_eq_false]
  intro j hj
  rw [hall j (List.mem_range.1 hj)];simp
theorem P9 :
  Ok (ET (.ptr (some (p,0))) (.int .i64 (casesOf m i.a i.b).length) (.int .i64 0) g) fun r=>r.1 = .exit 2∧Same [nb] g r.2.2∧r.2.2.get nb=some (.cells true ((markL nm i.a.toNat (casesOf m i.a i.b).length).map AV.bool)):=by
 obtain⟨ha,hle⟩:=On hc
 have h60:=H.sm.2.1
 generalize hcs:casesOf m i.a i.b=cs at *
 refine BF (fun q us g'=>∃ k:Nat,us = [.int .i64 (k:Nat)]∧q+k=cs.length∧Same [nb] g g'∧g'.get nb=some (.cells true ((markL nm i.a.toNat k).map AV.bool))) ?_ (n:=cs.length) (by omega) ⟨0,rfl,rfl,Same.refl _ _,N.blk⟩
 rintro q us g' ⟨k,rfl,hq,s,hg⟩
 rw [gD0]
 by_cases hk:k<cs.length
 ·have hk':(k:Int)<cs.length:=by omega
  have hp:g'.get p=some (.cells true (c.row m f pc i)):=by rw [s.get p H.lt (by simpa using N.ne.symm)];exact H.at_
  have q15:ldS g' (.ptr (some (p,15)))=some c.nv:=by rw [Ai hp];rfl
  have q18:ldS g' (.ptr (some (p,18)))=some (.int .i64 i.a):=by rw [Ai hp];rfl
  have w:IntKind.i64.wrap (i.a+(k:Int))=i.a+(k:Int):=B9 (by omega) (by omega)
  have hin:i.a.toNat+k<nm.length:=by rw [N.len];omega
  have hnx:iaS 1 c.nv (.int .i64 (i.a+(k:Int)))=some (.ptr (some (nb,i.a.toNat+k))):=by
   rw [N.eq,E7 1 (nb,0) _ _ _ _ ⟨by omega,by omega⟩]
   simp only [Nat.zero_add,Nat.mul_one]
   congr 5;omega
  have st:=Cl (v:=.bool true) (o:=i.a.toNat+k) hg (by rw [List.length_map,KB];exact hin) rfl
  have em:((markL nm i.a.toNat k).map AV.bool).set (i.a.toNat+k) (.bool true)=(markL nm i.a.toNat (k+1)).map AV.bool:=by rw [markL,List.map_set]
  rw [em] at st
  exact(Ok.of (r:=(Ex.normal,[.int .i64 ((k+1:Nat):Int)],_)) (.inl ⟨rfl,q - 1,by omega,k+1,rfl,by omega,s.trans (Same.put _ _ _),An⟩)).eq (by simp -implicitDefEqProofs only [DK,hk',q15,q18,Ap,w,hnx,st,suc64 k (by omega),AO,AF,Option.bind_some,AZ,AY,Ac,AX,AL,AH,AD,Ad,AQ,AE,AM,AC,if_true,if_false,Bool.false_eq_true,AJ,AP,AG,AR,AK,AU,Int.reduceEq,Int.reduceLT,decide_true,decide_false,AB,AA,Ae,Bool.not_true,Bool.not_false,AW];rfl)
 ·have hk' : ¬ (k:Int)<cs.length:=by omega
  have e:k=cs.length:=by omega
  subst e
  exact(Ok.of (r:=(Ex.exit 2,[.int .i64 (cs.length:Nat)],g')) (.inr ⟨by simp,rfl,s,hg⟩)).eq (by
   simp -implicitDefEqProofs only [DK,AG,hk',decide_false,Option.bind_some,AA])
end
theorem Pz {g:Heap}{p nb:Nat}{m:Md}{f:Fn}{pc:Int}{i:Ins}{c:Cv}{nm:List Bool}(H:CkB g p m f pc i c)(N:NmB g p nb m c nm) :
  Ok (B6 (.ptr (some (p,0))) g) fun r=>Same [nb] g r.2∧r.1 = .bool (freshR m i nm).1∧r.2.get nb=some (.cells true ((freshR m i nm).2.map AV.bool)):=by
 obtain⟨v,ec,V⟩:=Iu H
 cases hc:casB m i with
 | false=>
  rw [hc] at ec
  have e:freshR m i nm=(false,nm):=by rw [freshR,if_pos hc]
  rw [e]
  exact Ah (v:=.bool false) (g:=g) (by simp -implicitDefEqProofs only [B6,ec,AE,Br,List.getElem?_cons_zero,List.getElem?_cons_succ,Option.bind_some,Ae,Bool.not_false,AB]) ⟨Same.refl _ _,rfl,N.blk⟩
 | true=>
  rw [hc] at ec
  have hln:=V.lnL
  rw [List.length_map] at hln
  refine Ok.eq ?_ (by simp -implicitDefEqProofs only [B6,ec,AE,Br,List.getElem?_cons_zero,List.getElem?_cons_succ,Option.bind_some,Ae,Bool.not_true,AA,hln]<;>rfl)
  refine CJ (QQ H N hc V) ?_
  rintro e vs g1 ⟨s1,⟨rfl,hv,hany⟩ | ⟨rfl,hv,hany⟩⟩
  ·simp only at s1 hv
   have e:freshR m i nm=(false,nm):=by rw [freshR,if_neg (by rw [hc];simp),if_pos hany]
   rw [e]
   exact Ah (v:=.bool false) (g:=g1) (by simp -implicitDefEqProofs only [reduceCtorEq,if_false,Cm,Dx,hv]) ⟨s1.sub (by simp),rfl,by rw [s1.get _ N.lt (by simp)];exact N.blk⟩
  ·simp only at s1 hv
   have e:freshR m i nm=(decide (dfl (casesOf m i.a i.b) (casesOf m i.a i.b).length≤1),markL nm i.a.toNat (casesOf m i.a i.b).length):=by rw [freshR,if_neg (by rw [hc];simp),if_neg (by rw [hany];simp)]
   rw [e]
   have N1:NmB g1 p nb m c nm:=⟨by rw [s1.get _ N.lt (by simp)];exact N.blk,Nat.lt_of_lt_of_le N.lt s1.next,N.eq,N.len,N.ne⟩
   refine Ok.eq ?_ (by simp -implicitDefEqProofs only [if_true,Al,Option.bind_some]<;>rfl)
   refine CJ (P9 (H.mono s1) N1 hc) ?_
   rintro _ us g2 ⟨rfl,s2,hb⟩
   simp only at s2 hb
   refine Ah (v:=.bool (decide (dfl (casesOf m i.a i.b) (casesOf m i.a i.b).length≤1))) (g:=g2) ?_ ⟨(s1.sub (by simp)).trans s2,rfl,hb⟩
   have ed:decide (((dfl (casesOf m i.a i.b) (casesOf m i.a i.b).length:Nat):Int)≤1)=decide (dfl (casesOf m i.a i.b) (casesOf m i.a i.b).length≤1):=by rw [decide_eq_decide];omega
   simp -implicitDefEqProofs only [if_true,Al,Option.bind_some,hv,AP,ed]
def thereB (m:Md)(i:Ins):Bool:=
 if i.op=0 then decide (0≤i.b) && decide (i.b<m.consts.length)
 else if i.op=25 then shapeB m i.b 0
 else if i.op=26 then shapeB m i.b 1
 else if i.op=37 then shapeB m i.b 3
 else if i.op=34 then decide (0≤i.b) && decide (i.b<m.globals.length)
 else if i.op=35 then decide (0≤i.a) && decide (i.a<m.globals.length)
 else if i.op=20 then(fnAt m i.b).isSome && decide ((fnD m i.b).ca=0)
 else if i.op=23 then(fnAt m i.a).isSome && decide ((fnD m i.a).ca=0) && decide ((fnD m i.a).re=0)
 else if i.op=36 then(fnAt m i.b).isSome
 else if i.op=21 then decide (0≤i.d)
 else if i.op=24 then decide (0≤i.c)
 else if i.op=44 then decide (1≤i.a) && decide (i.a≤6)
 else true
def thereR (m:Md)(i:Ins)(nm:List Bool):Bool × List Bool:=if i.op=41 then freshR m i nm else(thereB m i,nm)
theorem P4 {g:Heap}{p nb:Nat}{m:Md}{f:Fn}{pc:Int}{i:Ins}{c:Cv}{nm:List Bool}(H:CkB g p m f pc i c)(N:NmB g p nb m c nm) :
  Ok (B0 (.ptr (some (p,0))) g) fun r=>Same [nb] g r.2∧r.1 = .bool (thereR m i nm).1∧r.2.get nb=some (.cells true ((thereR m i nm).2.map AV.bool)):=by
 have li:=H.li
 refine Ok.eq ?_ (by simp -implicitDefEqProofs only [B0,Option.bind_some,AO,AF,Nat.zero_add,li]<;>rfl)
 refine EV (cs:=i.row) (n:=5) (by rfl) (by rfl) (Ins.sc i) fun g1 s n1 b1=>?_
 have H1:=H.mono s
 have N1:NmB g1 p nb m c nm:=⟨by rw [s.get _ N.lt (by simp)];exact N.blk,Nat.lt_of_lt_of_le N.lt s.next,N.eq,N.len,N.ne⟩
 have i0:ldS g1 (.ptr (some (g.next,0)))=some (.int .i64 i.op):=by rw [Ai b1];rfl
 have i1:ldS g1 (.ptr (some (g.next,1)))=some (.int .i64 i.a):=by rw [Ai b1];rfl
 have i2:ldS g1 (.ptr (some (g.next,2)))=some (.int .i64 i.b):=by rw [Ai b1];rfl
 have i3:ldS g1 (.ptr (some (g.next,3)))=some (.int .i64 i.c):=by rw [Ai b1];rfl
 have i4:ldS g1 (.ptr (some (g.next,4)))=some (.int .i64 i.d):=by rw [Ai b1];rfl
 generalize g.next=ib at *
 have q1:=H1.l1;have q2:=H1.l2
 have lng:=H1.lng;have lnk:=H1.lnk
 have shE:∀ n k:Int,BN (.ptr (some (p,0))) (.int .i64 n) (.int .i64 k) g1=some (.bool (shapeB m n k),g1):=fun n k=>QJ H1 n k
 by_cases c41:i.op=41
 ·have e:thereR m i nm=freshR m i nm:=by rw [thereR,if_pos c41]
  rw [e]
  refine Ok.eq ?_ (by simp -implicitDefEqProofs only [i0,i1,i2,i3,i4,q1,q2,lng,lnk,shE,c41,AO,AF,Option.bind_some,AZ,AY,Ac,AX,AL,AH,AD,Ad,AQ,AE,AM,AC,if_true,if_false,Bool.false_eq_true,AJ,AP,AG,AR,AK,AU,Int.reduceEq,Int.reduceLT,decide_true,decide_false,AB,AA,Ae,Bool.not_true,Bool.not_false,AW]<;>rfl)
  refine Ao (P:=fun r=>Same [nb] g1 r.2∧r.1 = .bool (freshR m i nm).1∧r.2.get nb=some (.cells true ((freshR m i nm).2.map AV.bool))) (Pz H1 N1) ?_
  rintro _ g2 ⟨s2,rfl,hb⟩
  exact Ok.of (r:=(AV.bool _,g2)) ⟨(s.sub (by simp)).trans s2,rfl,hb⟩
 have e:thereR m i nm=(thereB m i,nm):=by rw [thereR,if_neg c41]
 rw [e]
 have fin:∀ (b:Bool) (x:Option (AV × Heap)) (g2:Heap),Same [] g1 g2→x=some (.bool b,g2)→thereB m i=b→Ok x fun r=>Same [nb] g r.2∧r.1 = .bool (thereB m i)∧r.2.get nb=some (.cells true (nm.map AV.bool)):=fun b x g2 s2 hx hb=>by rw [hx,hb];exact Ok.of (r:=(AV.bool b,g2)) ⟨(s.trans s2).sub (by simp),rfl,by rw [s2.get _ N1.lt (by simp)];exact N1.blk⟩
 have S1:=Same.refl [] g1
 by_cases c0:i.op=0
 ·have e':thereB m i=(decide (0≤i.b) && decide (i.b<m.consts.length)):=by rw [thereB,if_pos c0]
  by_cases d1:0≤i.b
  ·exact fin (decide (i.b<m.consts.length)) _ g1 S1 (by simp -implicitDefEqProofs only [i0,i1,i2,i3,i4,q1,q2,lng,lnk,shE,c0,d1,AO,AF,Option.bind_some,AZ,AY,Ac,AX,AL,AH,AD,Ad,AQ,AE,AM,AC,if_true,if_false,Bool.false_eq_true,AJ,AP,AG,AR,AK,AU,Int.reduceEq,Int.reduceLT,decide_true,decide_false,AB,AA,Ae,Bool.not_true,Bool.not_false,AW]) (by rw [e',decide_eq_true d1,Bool.true_and])
  ·exact fin false _ g1 S1 (by simp -implicitDefEqProofs only [i0,i1,i2,i3,i4,q1,q2,lng,lnk,shE,c0,d1,AO,AF,Option.bind_some,AZ,AY,Ac,AX,AL,AH,AD,Ad,AQ,AE,AM,AC,if_true,if_false,Bool.false_eq_true,AJ,AP,AG,AR,AK,AU,Int.reduceEq,Int.reduceLT,decide_true,decide_false,AB,AA,Ae,Bool.not_true,Bool.not_false,AW]) (by rw [e',decide_eq_false d1,Bool.false_and])
 by_cases c25:i.op=25
 ·exact fin (shapeB m i.b 0) _ g1 S1 (by simp -implicitDefEqProofs only [i0,i1,i2,i3,i4,q1,q2,lng,lnk,shE,c25,AO,AF,Option.bind_some,AZ,AY,Ac,AX,AL,AH,AD,Ad,AQ,AE,AM,AC,if_true,if_false,Bool.false_eq_true,AJ,AP,AG,AR,AK,AU,Int.reduceEq,Int.reduceLT,decide_true,decide_false,AB,AA,Ae,Bool.not_true,Bool.not_false,AW]) (by rw [thereB,if_neg c0,if_pos c25])
 by_cases c26:i.op=26
 ·exact fin (shapeB m i.b 1) _ g1 S1 (by simp -implicitDefEqProofs only [i0,i1,i2,i3,i4,q1,q2,lng,lnk,shE,c26,AO,AF,Option.bind_some,AZ,AY,Ac,AX,AL,AH,AD,Ad,AQ,AE,AM,AC,if_true,if_false,Bool.false_eq_true,AJ,AP,AG,AR,AK,AU,Int.reduceEq,Int.reduceLT,decide_true,decide_false,AB,AA,Ae,Bool.not_true,Bool.not_false,AW]) (by rw [thereB,if_neg c0,if_neg c25,if_pos c26])
 by_cases c37:i.op=37
 ·exact fin (shapeB m i.b 3) _ g1 S1 (by simp -implicitDefEqProofs only [i0,i1,i2,i3,i4,q1,q2,lng,lnk,shE,c37,AO,AF,Option.bind_some,AZ,AY,Ac,AX,AL,AH,AD,Ad,AQ,AE,AM,AC,if_true,if_false,Bool.false_eq_true,AJ,AP,AG,AR,AK,AU,Int.reduceEq,Int.reduceLT,decide_true,decide_false,AB,AA,Ae,Bool.not_true,Bool.not_false,AW]) (by rw [thereB,if_neg c0,if_neg c25,if_neg c26,if_pos c37])
 by_cases c34:i.op=34
 ·have e':thereB m i=(decide (0≤i.b) && decide (i.b<m.globals.length)):=by rw [thereB,if_neg c0,if_neg c25,if_neg c26,if_neg c37,if_pos c34]
  by_cases d1:0≤i.b
  ·exact fin (decide (i.b<m.globals.length)) _ g1 S1 (by simp -implicitDefEqProofs only [i0,i1,i2,i3,i4,q1,q2,lng,lnk,shE,c34,d1,AO,AF,Option.bind_some,AZ,AY,Ac,AX,AL,AH,AD,Ad,AQ,AE,AM,AC,if_true,if_false,Bool.false_eq_true,AJ,AP,AG,AR,AK,AU,Int.reduceEq,Int.reduceLT,decide_true,decide_false,AB,AA,Ae,Bool.not_true,Bool.not_false,AW]) (by rw [e',decide_eq_true d1,Bool.true_and])
  ·exact fin false _ g1 S1 (by simp -implicitDefEqProofs only [i0,i1,i2,i3,i4,q1,q2,lng,lnk,shE,c34,d1,AO,AF,Option.bind_some,AZ,AY,Ac,AX,AL,AH,AD,Ad,AQ,AE,AM,AC,if_true,if_false,Bool.false_eq_true,AJ,AP,AG,AR,AK,AU,Int.reduceEq,Int.reduceLT,decide_true,decide_false,AB,AA,Ae,Bool.not_true,Bool.not_false,AW]) (by rw [e',decide_eq_false d1,Bool.false_and])
 by_cases c35:i.op=35
 ·have e':thereB m i=(decide (0≤i.a) && decide (i.a<m.globals.length)):=by rw [thereB,if_neg c0,if_neg c25,if_neg c26,if_neg c37,if_neg c34,if_pos c35]
  by_cases d1:0≤i.a
  ·exact fin (decide (i.a<m.globals.length)) _ g1 S1 (by simp -implicitDefEqProofs only [i0,i1,i2,i3,i4,q1,q2,lng,lnk,shE,c35,d1,AO,AF,Option.bind_some,AZ,AY,Ac,AX,AL,AH,AD,Ad,AQ,AE,AM,AC,if_true,if_false,Bool.false_eq_true,AJ,AP,AG,AR,AK,AU,Int.reduceEq,Int.reduceLT,decide_true,decide_false,AB,AA,Ae,Bool.not_true,Bool.not_false,AW]) (by rw [e',decide_eq_true d1,Bool.true_and])
  ·exact fin false _ g1 S1 (by simp -implicitDefEqProofs only [i0,i1,i2,i3,i4,q1,q2,lng,lnk,shE,c35,d1,AO,AF,Option.bind_some,AZ,AY,Ac,AX,AL,AH,AD,Ad,AQ,AE,AM,AC,if_true,if_false,Bool.false_eq_true,AJ,AP,AG,AR,AK,AU,Int.reduceEq,Int.reduceLT,decide_true,decide_false,AB,AA,Ae,Bool.not_true,Bool.not_false,AW]) (by rw [e',decide_eq_false d1,Bool.false_and])
 by_cases c20:i.op=20
 ·have e':thereB m i=((fnAt m i.b).isSome && decide ((fnD m i.b).ca=0)):=by rw [thereB,if_neg c0,if_neg c25,if_neg c26,if_neg c37,if_neg c34,if_neg c35,if_pos c20]
  refine Ok.eq ?_ (by simp -implicitDefEqProofs only [i0,i1,i2,i3,i4,q1,q2,lng,lnk,shE,c20,AO,AF,Option.bind_some,AZ,AY,Ac,AX,AL,AH,AD,Ad,AQ,AE,AM,AC,if_true,if_false,Bool.false_eq_true,AJ,AP,AG,AR,AK,AU,Int.reduceEq,Int.reduceLT,decide_true,decide_false,AB,AA,Ae,Bool.not_true,Bool.not_false,AW]<;>rfl)
  refine Ao (JZ H1 i.b) ?_
  rintro _ g4 ⟨s4,kv,cv,mv,rfl,FR⟩
  simp only at s4 FR
  have hsc:([AV.int .i64 (fnD m i.b).pa,.int .i64 (fnD m i.b).ca,.int .i64 (fnD m i.b).sl,.int .i64 (fnD m i.b).re,kv,cv,mv]:List AV).all scalar=true:=FR.sc
  refine Ok.eq ?_ (by simp -implicitDefEqProofs only [Br,List.getElem?_cons_zero,List.getElem?_cons_succ,Option.bind_some,Af]<;>rfl)
  refine Er (cs:=[AV.int .i64 (fnD m i.b).pa,.int .i64 (fnD m i.b).ca,.int .i64 (fnD m i.b).sl,.int .i64 (fnD m i.b).re,kv,cv,mv]) (n:=7) (by rfl) (by rfl) hsc fun _ g5 s5 n5 b5=>?_
  have l1:ldS g5 (.ptr (some (g4.next,1)))=some (.int .i64 (fnD m i.b).ca):=by rw [Ai b5];rfl
  have l3:ldS g5 (.ptr (some (g4.next,3)))=some (.int .i64 (fnD m i.b).re):=by rw [Ai b5];rfl
  have s5':=s4.trans s5
  cases d1:(fnAt m i.b).isSome
  ·exact fin false _ g5 s5' (by simp -implicitDefEqProofs only [d1,AO,AF,Option.bind_some,AZ,AY,Ac,AX,AL,AH,AD,Ad,AQ,AE,AM,AC,if_true,if_false,Bool.false_eq_true,AJ,AP,AG,AR,AK,AU,Int.reduceEq,Int.reduceLT,decide_true,decide_false,AB,AA,Ae,Bool.not_true,Bool.not_false,AW]) (by rw [e',d1];rfl)
  ·exact fin (decide ((fnD m i.b).ca=0)) _ g5 s5' (by simp -implicitDefEqProofs only [d1,l1,AO,AF,Option.bind_some,AZ,AY,Ac,AX,AL,AH,AD,Ad,AQ,AE,AM,AC,if_true,if_false,Bool.false_eq_true,AJ,AP,AG,AR,AK,AU,Int.reduceEq,Int.reduceLT,decide_true,decide_false,AB,AA,Ae,Bool.not_true,Bool.not_false,AW]) (by rw [e',d1];rfl)
 by_cases c23:i.op=23
 ·have e':thereB m i=((fnAt m i.a).isSome && decide ((fnD m i.a).ca=0) && decide ((fnD m i.a).re=0)):=by rw [thereB,if_neg c0,if_neg c25,if_neg c26,if_neg c37,if_neg c34,if_neg c35,if_neg c20,if_pos c23]
  refine Ok.eq ?_ (by simp -implicitDefEqProofs only [i0,i1,i2,i3,i4,q1,q2,lng,lnk,shE,c23,AO,AF,Option.bind_some,AZ,AY,Ac,AX,AL,AH,AD,Ad,AQ,AE,AM,AC,if_true,if_false,Bool.false_eq_true,AJ,AP,AG,AR,AK,AU,Int.reduceEq,Int.reduceLT,decide_true,decide_false,AB,AA,Ae,Bool.not_true,Bool.not_false,AW]<;>rfl)
  refine Ao (JZ H1 i.a) ?_
  rintro _ g4 ⟨s4,kv,cv,mv,rfl,FR⟩
  simp only at s4 FR
  have hsc:([AV.int .i64 (fnD m i.a).pa,.int .i64 (fnD m i.a).ca,.int .i64 (fnD m i.a).sl,.int .i64 (fnD m i.a).re,kv,cv,mv]:List AV).all scalar=true:=FR.sc
  refine Ok.eq ?_ (by simp -implicitDefEqProofs only [Br,List.getElem?_cons_zero,List.getElem?_cons_succ,Option.bind_some,Af]<;>rfl)
  refine Er (cs:=[AV.int .i64 (fnD m i.a).pa,.int .i64 (fnD m i.a).ca,.int .i64 (fnD m i.a).sl,.int .i64 (fnD m i.a).re,kv,cv,mv]) (n:=7) (by rfl) (by rfl) hsc fun _ g5 s5 n5 b5=>?_
  have l1:ldS g5 (.ptr (some (g4.next,1)))=some (.int .i64 (fnD m i.a).ca):=by rw [Ai b5];rfl
  have l3:ldS g5 (.ptr (some (g4.next,3)))=some (.int .i64 (fnD m i.a).re):=by rw [Ai b5];rfl
  have s5':=s4.trans s5
  cases d1:(fnAt m i.a).isSome
  ·exact fin false _ g5 s5' (by simp -implicitDefEqProofs only [d1,AO,AF,Option.bind_some,AZ,AY,Ac,AX,AL,AH,AD,Ad,AQ,AE,AM,AC,if_true,if_false,Bool.false_eq_true,AJ,AP,AG,AR,AK,AU,Int.reduceEq,Int.reduceLT,decide_true,decide_false,AB,AA,Ae,Bool.not_true,Bool.not_false,AW]) (by rw [e',d1];rfl)
  by_cases d2:(fnD m i.a).ca=0
  ·exact fin (decide ((fnD m i.a).re=0)) _ g5 s5' (by simp -implicitDefEqProofs only [d1,d2,l1,l3,AO,AF,Option.bind_some,AZ,AY,Ac,AX,AL,AH,AD,Ad,AQ,AE,AM,AC,if_true,if_false,Bool.false_eq_true,AJ,AP,AG,AR,AK,AU,Int.reduceEq,Int.reduceLT,decide_true,decide_false,AB,AA,Ae,Bool.not_true,Bool.not_false,AW]) (by rw [e',d1,decide_eq_true d2];rfl)
  ·exact fin false _ g5 s5' (by simp -implicitDefEqProofs only [d1,d2,l1,l3,AO,AF,Option.bind_some,AZ,AY,Ac,AX,AL,AH,AD,Ad,AQ,AE,AM,AC,if_true,if_false,Bool.false_eq_true,AJ,AP,AG,AR,AK,AU,Int.reduceEq,Int.reduceLT,decide_true,decide_false,AB,AA,Ae,Bool.not_true,Bool.not_false,AW]) (by rw [e',d1,decide_eq_false d2];rfl)
 by_cases c36:i.op=36
 ·have e':thereB m i=((fnAt m i.b).isSome):=by rw [thereB,if_neg c0,if_neg c25,if_neg c26,if_neg c37,if_neg c34,if_neg c35,if_neg c20,if_neg c23,if_pos c36]
  refine Ok.eq ?_ (by simp -implicitDefEqProofs only [i0,i1,i2,i3,i4,q1,q2,lng,lnk,shE,c36,AO,AF,Option.bind_some,AZ,AY,Ac,AX,AL,AH,AD,Ad,AQ,AE,AM,AC,if_true,if_false,Bool.false_eq_true,AJ,AP,AG,AR,AK,AU,Int.reduceEq,Int.reduceLT,decide_true,decide_false,AB,AA,Ae,Bool.not_true,Bool.not_false,AW]<;>rfl)
  refine Ao (JZ H1 i.b) ?_
  rintro _ g4 ⟨s4,kv,cv,mv,rfl,FR⟩
  simp only at s4 FR
  have hsc:([AV.int .i64 (fnD m i.b).pa,.int .i64 (fnD m i.b).ca,.int .i64 (fnD m i.b).sl,.int .i64 (fnD m i.b).re,kv,cv,mv]:List AV).all scalar=true:=FR.sc
  refine Ok.eq ?_ (by simp -implicitDefEqProofs only [Br,List.getElem?_cons_zero,List.getElem?_cons_succ,Option.bind_some,Af]<;>rfl)
  refine Er (cs:=[AV.int .i64 (fnD m i.b).pa,.int .i64 (fnD m i.b).ca,.int .i64 (fnD m i.b).sl,.int .i64 (fnD m i.b).re,kv,cv,mv]) (n:=7) (by rfl) (by rfl) hsc fun _ g5 s5 n5 b5=>?_
  have l1:ldS g5 (.ptr (some (g4.next,1)))=some (.int .i64 (fnD m i.b).ca):=by rw [Ai b5];rfl
  have l3:ldS g5 (.ptr (some (g4.next,3)))=some (.int .i64 (fnD m i.b).re):=by rw [Ai b5];rfl
  have s5':=s4.trans s5
  exact fin (fnAt m i.b).isSome _ g5 s5' rfl e'
 by_cases c21:i.op=21
 ·exact fin (decide (0≤i.d)) _ g1 S1 (by simp -implicitDefEqProofs only [i0,i1,i2,i3,i4,q1,q2,lng,lnk,shE,c21,AO,AF,Option.bind_some,AZ,AY,Ac,AX,AL,AH,AD,Ad,AQ,AE,AM,AC,if_true,if_false,Bool.false_eq_true,AJ,AP,AG,AR,AK,AU,Int.reduceEq,Int.reduceLT,decide_true,decide_false,AB,AA,Ae,Bool.not_true,Bool.not_false,AW]) (by rw [thereB,if_neg c0,if_neg c25,if_neg c26,if_neg c37,if_neg c34,if_neg c35,if_neg c20,if_neg c23,if_neg c36,if_pos c21])
 by_cases c24:i.op=24
 ·exact fin (decide (0≤i.c)) _ g1 S1 (by simp -implicitDefEqProofs only [i0,i1,i2,i3,i4,q1,q2,lng,lnk,shE,c24,AO,AF,Option.bind_some,AZ,AY,Ac,AX,AL,AH,AD,Ad,AQ,AE,AM,AC,if_true,if_false,Bool.false_eq_true,AJ,AP,AG,AR,AK,AU,Int.reduceEq,Int.reduceLT,decide_true,decide_false,AB,AA,Ae,Bool.not_true,Bool.not_false,AW]) (by rw [thereB,if_neg c0,if_neg c25,if_neg c26,if_neg c37,if_neg c34,if_neg c35,if_neg c20,if_neg c23,if_neg c36,if_neg c21,if_pos c24])
 by_cases c44:i.op=44
 ·have e':thereB m i=(decide (1≤i.a) && decide (i.a≤6)):=by rw [thereB,if_neg c0,if_neg c25,if_neg c26,if_neg c37,if_neg c34,if_neg c35,if_neg c20,if_neg c23,if_neg c36,if_neg c21,if_neg c24,if_pos c44]
  by_cases d1:1≤i.a
  ·exact fin (decide (i.a≤6)) _ g1 S1 (by simp -implicitDefEqProofs only [i0,i1,i2,i3,i4,q1,q2,lng,lnk,shE,c44,d1,AO,AF,Option.bind_some,AZ,AY,Ac,AX,AL,AH,AD,Ad,AQ,AE,AM,AC,if_true,if_false,Bool.false_eq_true,AJ,AP,AG,AR,AK,AU,Int.reduceEq,Int.reduceLT,decide_true,decide_false,AB,AA,Ae,Bool.not_true,Bool.not_false,AW]) (by rw [e',decide_eq_true d1,Bool.true_and])
  ·exact fin false _ g1 S1 (by simp -implicitDefEqProofs only [i0,i1,i2,i3,i4,q1,q2,lng,lnk,shE,c44,d1,AO,AF,Option.bind_some,AZ,AY,Ac,AX,AL,AH,AD,Ad,AQ,AE,AM,AC,if_true,if_false,Bool.false_eq_true,AJ,AP,AG,AR,AK,AU,Int.reduceEq,Int.reduceLT,decide_true,decide_false,AB,AA,Ae,Bool.not_true,Bool.not_false,AW]) (by rw [e',decide_eq_false d1,Bool.false_and])
 exact fin true _ g1 S1 (by simp -implicitDefEqProofs only [i0,i1,i2,i3,i4,q1,q2,lng,lnk,shE,c41,c0,c25,c26,c37,c34,c35,c20,c23,c36,c21,c24,c44,AO,AF,Option.bind_some,AZ,AY,Ac,AX,AL,AH,AD,Ad,AQ,AE,AM,AC,if_true,if_false,Bool.false_eq_true,AJ,AP,AG,AR,AK,AU,Int.reduceEq,Int.reduceLT,decide_true,decide_false,AB,AA,Ae,Bool.not_true,Bool.not_false,AW]) (by rw [thereB,if_neg c0,if_neg c25,if_neg c26,if_neg c37,if_neg c34,if_neg c35,if_neg c20,if_neg c23,if_neg c36,if_neg c21,if_neg c24,if_neg c44])
end Go.Ab.F
