import Derived.Test.YtdmgkkcjnmmfmaaGreatQuFn
import Derived.Test.YtdmgkkcjnmmfmaaGreatFra
import Derived.Test.YtdmgkkcjnmmfmaaGreatLiv
namespace Go.Ab.F
open Go Go.Ab
set_option linter.all false
set_option linter.all false
structure LeA (s t:St):Prop where
 y:s.y=true→t.y=true
 o:s.o=true→t.o=true
 w:SubW t.w s.w
theorem LeA.refl (s:St):LeA s s:=⟨fun h=>h,fun h=>h,SubW.refl _⟩
theorem LeA.trans {a b c:St}(h:LeA a b)(h':LeA b c):LeA a c:=⟨fun e=>h'.y (h.y e),fun e=>h'.o (h.o e),h'.w.trans h.w⟩
theorem LeA.antisymm {a b:St}(h:LeA a b)(h':LeA b a):a=b:=by
 obtain⟨y,o,w⟩:=a
 obtain⟨y',o',w'⟩:=b
 have e1:y=y':=by have:=h.y;have:=h'.y;simp only at *;cases y<;>cases y'<;>simp_all
 have e2:o=o':=by have:=h.o;have:=h'.o;simp only at *;cases o<;>cases o'<;>simp_all
 have e3:w=w':=h'.w.antisymm h.w
 rw [e1,e2,e3]
structure LeT (k l:List St):Prop where
 len:k.length=l.length
 at_:∀ j,LeA (k.getD j dS) (l.getD j dS)
theorem LeT.refl (l:List St):LeT l l:=⟨rfl,fun _=>LeA.refl _⟩
theorem LeT.trans {a b c:List St}(h:LeT a b)(h':LeT b c):LeT a c:=⟨h.len.trans h'.len,fun j=>(h.at_ j).trans (h'.at_ j)⟩
theorem LeT.antisymm {a b:List St}(h:LeT a b)(h':LeT b a):a=b:=MJ h.len fun k _=>(h.at_ k).antisymm (h'.at_ k)
theorem N3 (l:List St)(n:Int)(f:St→St)(j:Nat):(atS l n f).getD j dS=if 0≤n∧n<l.length∧j=n.toNat then f (l.getD j dS) else l.getD j dS:=by
 unfold atS
 by_cases h:0≤n∧n<l.length
 ·rw [if_pos h,Nt (by omega)]
  by_cases e:j=n.toNat
  ·rw [if_pos e,if_pos ⟨h.1,h.2,e⟩,e]
  ·rw [if_neg e,if_neg (fun h=>e h.2.2)]
 ·rw [if_neg h,if_neg (fun h'=>h ⟨h'.1,h'.2.1⟩)]
theorem LeT.at' {k l:List St}(h:LeT k l)(n:Int){f g:St→St}(hf:∀ s t,LeA s t→LeA (f s) (g t)):LeT (atS k n f) (atS l n g):=by
 refine⟨by rw [JG,JG,h.len],fun j=>?_⟩
 rw [N3,N3,h.len]
 split
 ·exact hf _ _ (h.at_ j)
 ·exact h.at_ j
theorem LeT.lend:∀ (ns:List Int) {k l:List St},LeT k l→LeT (lendS k ns) (lendS l ns)
 | [],k,l,h=>h
 | n::ns,k,l,h=>LeT.lend ns (h.at' n fun s t e=>⟨e.y,fun(q:false=true)=>Bool.noConfusion q,e.w⟩)
theorem LeT.put {k l:List St}(h:LeT k l)(n:Int){x y:St}(e:LeA x y):LeT (putS k n x) (putS l n y):=h.at' n fun _ _ _=>e
theorem LeT.zero:∀ (ns:List Int) {k l:List St},LeT k l→LeT (zeroS k ns) (zeroS l ns)
 | [],k,l,h=>h
 | n::ns,k,l,h=>LeT.zero ns (h.put n (LeA.refl _))
theorem QA {a b c:BitVec 64}(h:SubW a b):SubW (a ||| c) (b ||| c):=fun k e=>by
 rw [BitVec.getLsbD_or,Bool.or_eq_true] at e ⊢
 exact e.imp (h k) id
theorem LeT.wr {k l:List St}(h:LeT k l)(n:Int)(w:BitVec 64):LeT (wrS k n w) (wrS l n w):=h.at' n fun s t e=>⟨e.y,e.o,QA e.w⟩
theorem LeT.getN {k l:List St}(h:LeT k l)(n:Int):LeA (getN k n) (getN l n):=by
 unfold Go.Ab.F.getN
 rw [h.len]
 split
 ·exact h.at_ _
 ·exact LeA.refl _
theorem Nm (l:List St)(j:Nat):(clrS l).getD j dS=⟨false,(l.getD j dS).o,(l.getD j dS).w⟩:=by
 rw [List.getD_eq_getElem?_getD,List.getD_eq_getElem?_getD,SH]
 cases l[j]?<;>rfl
theorem LeT.clr {k l:List St}(h:LeT k l):LeT (clrS k) (clrS l):=by
 refine⟨by simp [clrS,h.len],fun j=>?_⟩
 rw [Nm,Nm]
 exact⟨fun(e:false=true)=>Bool.noConfusion e,(h.at_ j).o,(h.at_ j).w⟩
theorem LeT.bh {k l:List St}(h:LeT k l)(m:Md)(i:Ins):LeT (bhS m i k) (bhS m i l):=by
 unfold bhS
 by_cases c1:mkB i.op=true
 ·rw [if_pos c1,if_pos c1]
  refine LeT.put ?_ _ (LeA.refl _)
  split
  ·exact h.lend _
  ·exact h
 rw [if_neg c1,if_neg c1]
 by_cases c2:i.op=1
 ·rw [if_pos c2,if_pos c2]
  exact(h.lend _).put _ ⟨(h.getN i.b).y,fun(q:false=true)=>Bool.noConfusion q,SubW.refl _⟩
 rw [if_neg c2,if_neg c2]
 by_cases c3:i.op=28∨i.op=29
 ·rw [if_pos c3,if_pos c3];exact(h.wr _ _).lend _
 rw [if_neg c3,if_neg c3]
 by_cases c4:i.op=31∨i.op=32
 ·rw [if_pos c4,if_pos c4];exact(h.wr _ _).lend _
 rw [if_neg c4,if_neg c4]
 unfold bhJ2 bhJ1
 refine LeT.zero _ (LeT.zero _ ?_)
 have h2:LeT (if lendB i.op=true then lendS k (readsL m i) else k) (if lendB i.op=true then lendS l (readsL m i) else l):=by
  split
  ·exact h.lend _
  ·exact h
 split
 ·exact h2.lend _
 ·exact h2
def flowS (m:Md)(i:Ins)(l:List St):List St:=behS m i (lendS l (sentV m i))
theorem LeT.flow {k l:List St}(h:LeT k l)(m:Md)(i:Ins):LeT (flowS m i k) (flowS m i l):=by
 unfold flowS behS
 refine LeT.bh ?_ m i
 split
 ·exact(h.lend _).clr
 ·exact h.lend _
theorem PW (m:Md)(i:Ins)(l:List St):(flowS m i l).length=l.length:=by rw [flowS,Qb,E2]
structure ClosedT (m:Md)(f:Fn)(n0:Nat)(K:List (Option (List St))):Prop where
 len:K.length=f.code.length
 ln0:∀ (pc:Nat) l,K[pc]?=some (some l)→l.length=n0
 zero:0<f.code.length→∃ l,K[0]?=some (some l)∧LeT l (List.replicate n0 dS)
 step:∀ (pc:Nat) l i,K[pc]?=some (some l)→f.code[pc]?=some i→∀ t∈followsL m f (pc:Int),∃ l',K[t.toNat]?=some (some l')∧LeT l' (flowS m i l)
def LowT (m:Md)(f:Fn)(n0:Nat)(L:List (Option (List St))):Prop:=∀ K,ClosedT m f n0 K→∀ (pc:Nat) l,L[pc]?=some (some l)→∃ k,K[pc]?=some (some k)∧LeT k l
def n0F (f:Fn):Nat:=(if 64<(if 0 > f.sl then 0 else f.sl) then 64 else(if 0 > f.sl then 0 else f.sl)).toNat
def outT (n0:Nat)(L:List (Option (List St))):List (List St):=L.map fun o=>match o with | some l=>l | none=>List.replicate n0 dS
def IsFS (m:Md)(f:Fn)(T:List (List St)):Prop:=∃ L,ClosedT m f (n0F f) L∧LowT m f (n0F f) L∧T=outT (n0F f) L
theorem IsFS.uniq {m:Md}{f:Fn}{T U:List (List St)}(h:IsFS m f T)(h':IsFS m f U):T=U:=by
 obtain⟨L,c1,l1,rfl⟩:=h
 obtain⟨M,c2,l2,rfl⟩:=h'
 have e:L=M:=by
  apply List.ext_getElem?
  intro pc
  by_cases hp:pc<f.code.length
  ·have hL:pc<L.length:=by rw [c1.len];exact hp
   have hM:pc<M.length:=by rw [c2.len];exact hp
   rw [List.getElem?_eq_getElem hL,List.getElem?_eq_getElem hM]
   congr 1
   cases a:L[pc] with
   | none=>
    cases b:M[pc] with
    | none=>rfl
    | some l=>
     obtain⟨k,hk,_⟩:=l2 L c1 pc l (by rw [List.getElem?_eq_getElem hM,b])
     rw [List.getElem?_eq_getElem hL,a] at hk;cases hk
   | some l=>
    obtain⟨k,hk,hle⟩:=l1 M c2 pc l (by rw [List.getElem?_eq_getElem hL,a])
    have hk':M[pc]=some k:=by rw [List.getElem?_eq_getElem hM] at hk;exact Option.some.inj hk
    obtain⟨l',hl',hle'⟩:=l2 L c1 pc k (by rw [List.getElem?_eq_getElem hM,hk'])
    rw [List.getElem?_eq_getElem hL,a] at hl'
    have:l=l':=by injection hl' with h;injection h
    subst this
    rw [hk',hle.antisymm hle']
  ·rw [List.getElem?_eq_none (by rw [c1.len];omega),List.getElem?_eq_none (by rw [c2.len];omega)]
 rw [e]
noncomputable def fsetsT (m:Md)(f:Fn):List (List St):=open Classical in if h:∃ T,IsFS m f T then Classical.choose h else []
theorem ME {m:Md}{f:Fn}{T:List (List St)}(h:IsFS m f T):fsetsT m f=T:=by
 unfold fsetsT
 rw [dif_pos ⟨T,h⟩]
 exact(Classical.choose_spec (p:=fun T=>IsFS m f T) ⟨T,h⟩).uniq h
theorem QU (p q:St):LeA (meetS p q) p:=⟨fun h=>by simp only [meetS,Bool.and_eq_true] at h;exact h.1,fun h=>by simp only [meetS,Bool.and_eq_true] at h;exact h.1,fun k h=>by simp only [meetS,BitVec.getLsbD_or,h,Bool.true_or]⟩
theorem QI (p q:St):LeA (meetS p q) q:=⟨fun h=>by simp only [meetS,Bool.and_eq_true] at h;exact h.2,fun h=>by simp only [meetS,Bool.and_eq_true] at h;exact h.2,fun k h=>by simp only [meetS,BitVec.getLsbD_or,h,Bool.or_true]⟩
theorem QB {k p q:St}(h1:LeA k p)(h2:LeA k q):LeA k (meetS p q):=⟨fun h=>by simp only [meetS,Bool.and_eq_true];exact⟨h1.y h,h2.y h⟩,fun h=>by simp only [meetS,Bool.and_eq_true];exact⟨h1.o h,h2.o h⟩,fun k h=>by simp only [meetS,BitVec.getLsbD_or,Bool.or_eq_true] at h;exact h.elim (h1.w k) (h2.w k)⟩
theorem Hw {l:List St}{k:Nat}(h:l.length≤k):l.getD k dS=dS:=by rw [List.getD_eq_getElem?_getD,List.getElem?_eq_none h];rfl
theorem Mt.leL {x a c:List St}(M:Mt x a c):LeT x a:=⟨M.len,fun j=>by
 by_cases h:j<a.length
 ·rw [M.at_ j h];exact QU _ _
 ·rw [Hw (by rw [M.len];omega),Hw (by omega)];exact LeA.refl _⟩
theorem Mt.leR {x a c:List St}(M:Mt x a c)(hl:a.length=c.length):LeT x c:=⟨M.len.trans hl,fun j=>by
 by_cases h:j<a.length
 ·rw [M.at_ j h];exact QI _ _
 ·rw [Hw (by rw [M.len];omega),Hw (by omega)];exact LeA.refl _⟩
theorem Mt.glb {k x a c:List St}(M:Mt x a c)(h1:LeT k a)(h2:LeT k c):LeT k x:=⟨h1.len.trans M.len.symm,fun j=>by
 by_cases h:j<a.length
 ·rw [M.at_ j h];exact QB (h1.at_ j) (h2.at_ j)
 ·rw [Hw (by rw [h1.len];omega),Hw (by rw [M.len];omega)];exact LeA.refl _⟩
structure All (m:Md)(f:Fn)(n0:Nat)(L:List (Option (List St))):Prop where
 len:L.length=f.code.length
 ln0:∀ (pc:Nat) l,L[pc]?=some (some l)→l.length=n0
 zero:0<f.code.length→∃ l,L[0]?=some (some l)∧LeT l (List.replicate n0 dS)
 low:LowT m f n0 L
theorem All.set {m:Md}{f:Fn}{n0 pc:Nat}{L:List (Option (List St))}{l:List St}(H:All m f n0 L)(hp:pc<f.code.length)(hl:l.length=n0)(h0:pc=0→LeT l (List.replicate n0 dS))(hk:∀ K,ClosedT m f n0 K→∃ k,K[pc]?=some (some k)∧LeT k l):All m f n0 (L.set pc (some l)):=by
 refine⟨by rw [List.length_set];exact H.len,fun q l' hl'=>?_,fun h=>?_,fun K C q l' hl'=>?_⟩
 ·by_cases e:q=pc
  ·subst e
   rw [List.getElem?_set_self (by rw [H.len];exact hp)] at hl'
   cases hl';exact hl
  ·rw [List.getElem?_set_ne (fun h=>e h.symm)] at hl'
   exact H.ln0 q l' hl'
 ·by_cases e:pc=0
  ·subst e;exact⟨l,by rw [List.getElem?_set_self (by rw [H.len];exact hp)],h0 rfl⟩
  ·rw [List.getElem?_set_ne e];exact H.zero h
 ·by_cases e:q=pc
  ·subst e
   rw [List.getElem?_set_self (by rw [H.len];exact hp)] at hl'
   cases hl';exact hk K C
  ·rw [List.getElem?_set_ne (fun h=>e h.symm)] at hl'
   exact H.low K C q l' hl'
set_option linter.unusedSimpArgs false
attribute [local congr] BI D1 Dy D2 Bu D3 Dz Aw Av
theorem PR {α:Type}(f:α→Nat)(d:α):∀ {x a:List α},x.length=a.length→(∀ k,k<a.length→f (x.getD k d)≤f (a.getD k d))→
  (x.map f).sum≤(a.map f).sum∧((∃ k,k<a.length∧f (x.getD k d)<f (a.getD k d))→(x.map f).sum<(a.map f).sum)
 | [],[],_,_=>⟨Nat.le_refl _,fun⟨k,hk,_⟩=>by simp at hk⟩
 | [],_::_,h,_=>by simp at h
 | _::_,[],h,_=>by simp at h
 | p::x,q::a,h,hk=>by
  have h0:=hk 0 (by simp)
  simp only [List.getD_cons_zero] at h0
  have ih:=PR f d (x:=x) (a:=a) (by simpa using h) fun k hk'=>by
   have:=hk (k+1) (by simpa using hk')
   simpa only [List.getD_cons_succ] using this
  simp only [List.map_cons,List.sum_cons]
  refine⟨by have:=ih.1;omega,?_⟩
  rintro⟨k,hk',hlt⟩
  cases k with
  | zero=>simp only [List.getD_cons_zero] at hlt;have:=ih.1;omega
  | succ k=>
   have:=ih.2 ⟨k,by simpa using hk',by simpa only [List.getD_cons_succ] using hlt⟩
   omega
def wS (s:St):Nat:=(if s.y=true then 1 else 0)+(if s.o=true then 1 else 0)+(18446744073709551615-s.w.toNat)
theorem TH (s:St):wS s≤18446744073709551617:=by
 unfold wS
 split<;>split<;>omega
theorem Ou (p q:St):wS (meetS p q)≤wS p∧(meetS p q≠p→wS (meetS p q)<wS p):=by
 obtain⟨y,o,w⟩:=p
 obtain⟨y',o',w'⟩:=q
 have hsub:SubW w (w ||| w'):=fun k h=>by rw [BitVec.getLsbD_or,h,Bool.true_or]
 have h1:=hsub.le
 have hlt:=(w ||| w').isLt
 have hw:w ||| w'≠w→w.toNat<(w ||| w').toNat:=fun h=>by
  have:(w ||| w').toNat≠w.toNat:=fun e=>h (BitVec.eq_of_toNat_eq e)
  omega
 have key:∀ y1 o1:Bool,(y1=true→y=true)→(o1=true→o=true)→y1=(y && y')→o1=(o && o')→wS ⟨y1,o1,w ||| w'⟩≤wS ⟨y,o,w⟩∧((⟨y1,o1,w ||| w'⟩:St)≠⟨y,o,w⟩→wS ⟨y1,o1,w ||| w'⟩<wS ⟨y,o,w⟩):=by
  intro y1 o1 hy ho _ _
  unfold wS
  simp only
  clear hsub
  generalize w ||| w'=u at *
  by_cases e:u=w
  ·rw [e]
   revert hy ho
   cases y<;>cases y1<;>cases o<;>cases o1<;>simp
  ·have:=hw e
   revert hy ho
   cases y<;>cases y1<;>cases o<;>cases o1<;>simp<;>omega
 exact key (y && y') (o && o') (fun h=>by simp at h;exact h.1) (fun h=>by simp at h;exact h.1) rfl rfl
def wtO:Option (List St)→Nat
 | none=>2361183241434822606848
 | some l=>(l.map wS).sum
theorem Ol:∀ l:List St,(l.map wS).sum≤l.length * 18446744073709551617
 | []=>by simp
 | s::l=>by have:=Ol l;have:=TH s;simp only [List.map_cons,List.sum_cons,List.length_cons,Nat.add_mul];omega
def mu (L:List (Option (List St))):Nat:=(L.map wtO).sum
theorem SV:∀ {L:List (Option (List St))},(∀ o∈L,wtO o≤2361183241434822606848)→mu L≤L.length * 2361183241434822606848
 | [],_=>by simp [mu]
 | o::L,h=>by
  have h1:=SV (L:=L) fun o ho=>h o (List.mem_cons_of_mem _ ho)
  have h2:=h o (List.mem_cons_self ..)
  simp only [mu,List.map_cons,List.sum_cons,List.length_cons,Nat.add_mul] at h1 ⊢;omega
theorem Qk {L:List (Option (List St))}{pc:Nat}{o x:Option (List St)}(h:L[pc]?=some o)(hx:wtO x<wtO o):mu (L.set pc x)<mu L:=by
 obtain⟨hp,_⟩:=List.getElem?_eq_some_iff.1 h
 have hg:∀ k,(L.set pc x).getD k none=if k=pc then x else L.getD k none:=fun k=>by
  rw [List.getD_eq_getElem?_getD,List.getD_eq_getElem?_getD]
  by_cases e:k=pc
  ·subst e;rw [List.getElem?_set_self hp];simp
  ·rw [List.getElem?_set_ne (fun h=>e h.symm),if_neg e]
 have ho:L.getD pc none=o:=by rw [List.getD_eq_getElem?_getD,h];rfl
 refine(PR wtO none (x:=L.set pc x) (a:=L) (by simp) fun k hk=>?_).2 ⟨pc,hp,?_⟩
 ·rw [hg];split
  ·rename_i e;subst e;rw [ho];omega
  ·exact Nat.le_refl _
 ·rw [hg,if_pos rfl,ho];exact hx
theorem TB {x a c:List St}(M:Mt x a c)(h:∃ k,k<x.length∧x.getD k dS≠a.getD k dS):(x.map wS).sum<(a.map wS).sum:=by
 obtain⟨k,hk,hne⟩:=h
 have hk':k<a.length:=by rw [← M.len];exact hk
 refine(PR wS dS M.len fun k hk=>by rw [M.at_ k hk];exact(Ou _ _).1).2 ⟨k,hk',?_⟩
 rw [M.at_ k hk'] at hne ⊢
 exact(Ou _ _).2 hne
def Ent (g:Heap)(bb:Nat)(v:AV):Option (List St)→Prop
 | none=>v = .sl none 0 (.ex 0)
 | some l=>∃ b,Ste g b v l∧b≠bb
structure Tb (g:Heap)(bb:Nat)(L:List (Option (List St))):Prop where
 ex:∃ vs,g.get bb=some (.cells true vs)∧vs.length=L.length∧∀ (pc:Nat) v o,vs[pc]?=some v→L[pc]?=some o→Ent g bb v o
 lt:bb<g.next
theorem Ent.mono {g g':Heap}{bb:Nat}{v:AV}{o:Option (List St)}(H:Ent g bb v o)(s:Same [bb] g g'):Ent g' bb v o:=by
 cases o with
 | none=>exact H
 | some l=>obtain⟨b,h1,h2⟩:=H;exact⟨b,h1.mono s (by simpa using h2),h2⟩
theorem Tb.mono {g g':Heap}{bb:Nat}{L:List (Option (List St))}(H:Tb g bb L)(s:Same [] g g'):Tb g' bb L:=by
 obtain⟨⟨vs,h1,h2,h3⟩,h4⟩:=H
 exact⟨⟨vs,by rw [s.get bb h4 (by simp)];exact h1,h2,fun pc v o hv ho=>(h3 pc v o hv ho).mono (s.sub (by simp))⟩,Nat.lt_of_lt_of_le h4 s.next⟩
theorem Tb.at_ {g:Heap}{bb:Nat}{L:List (Option (List St))}(H:Tb g bb L){pc:Nat}{o:Option (List St)}(ho:L[pc]?=some o):∃ v,ldS g (.ptr (some (bb,pc)))=some v∧Ent g bb v o:=by
 obtain⟨⟨vs,h1,h2,h3⟩,_⟩:=H
 have hp:=(List.getElem?_eq_some_iff.1 ho).1
 obtain⟨v,hv⟩:∃ v,vs[pc]?=some v:=⟨_,List.getElem?_eq_getElem (by omega)⟩
 exact⟨v,by rw [Ai h1];exact hv,h3 pc v o hv ho⟩
theorem Tb.put {g:Heap}{bb b:Nat}{L:List (Option (List St))}{l:List St}{v:AV}(H:Tb g bb L){pc:Nat}(hp:pc<L.length)(S:Ste g b v l)(hb:b≠bb) :
  ∃ g',stP 1 g (.ptr (some (bb,pc))) v=some (.bot,g')∧Same [bb] g g'∧Tb g' bb (L.set pc (some l)):=by
 obtain⟨⟨vs,h1,h2,h3⟩,h4⟩:=H
 have s:Same [bb] g (g.put bb (some (.cells true (vs.set pc v)))):=Same.put _ _ _
 refine⟨_,Cl h1 (by omega) S.sc,s,⟨vs.set pc v,An,by simp [h2],fun q w o hw ho=>?_⟩,h4⟩
 by_cases e:q=pc
 ·subst e
  rw [List.getElem?_set_self (by omega)] at hw ho
  cases hw;cases ho
  exact⟨b,S.mono s (by simpa using hb),hb⟩
 ·rw [List.getElem?_set_ne (fun h=>e h.symm)] at hw ho
  exact(h3 q w o hw ho).mono s
theorem Ent.nil {g:Heap}{bb:Nat}{v:AV}{o:Option (List St)}(H:Ent g bb v o):eqP (some (.slice 0)) none false .eql v (.sl none 0 (.ex 0))=some (.bool o.isNone):=by
 cases o with
 | none=>cases H;rfl
 | some l=>obtain⟨b,h,_⟩:=H;exact h.nn
theorem SI {m:Md}{f:Fn}{n0:Nat}{L:List (Option (List St))}(H:All m f n0 L)(h64:n0≤64)(hf:f.code.length≤4096):mu L≤4096 * 2361183241434822606848:=by
 have h1:mu L≤L.length * 2361183241434822606848:=SV fun o ho=>by
  obtain⟨pc,hpc⟩:=List.getElem?_of_mem ho
  cases o with
  | none=>exact Nat.le_refl _
  | some l=>
   have:=H.ln0 pc l hpc
   have h2:=Ol l
   have:l.length * 18446744073709551617≤64 * 18446744073709551617:=Nat.mul_le_mul_right _ (by omega)
   simp only [wtO];omega
 have:L.length * 2361183241434822606848≤4096 * 2361183241434822606848:=Nat.mul_le_mul_right _ (by rw [H.len];exact hf)
 exact Nat.le_trans h1 this
theorem R7 {g0 g:Heap}{bb bs:Nat}{m:Md}{f:Fn}{n0:Nat}{L:List (Option (List St))}{sv lv:AV}{ls:List St}{tos:List Int}(T:Tb g bb L)(A:All m f n0 L)(e:Same [] g0 g)(hbb:g0.next≤bb)
  (S:Ste g bs sv ls) (hbs:bs≠bb) (hn0:ls.length=n0) (h64:n0≤64) (hr:∀ g',Same [bb] g g'→RdW g' 1 lv (wI tos) tos.length) (hl:tos.length≤60) (hin:∀ t∈tos,0≤t∧t<f.code.length) (hf:f.code.length≤1048576)
  (hg:∀ K,ClosedT m f n0 K→∀ t∈tos,∃ k,K[t.toNat]?=some (some k)∧LeT k ls) (c0:Bool) :
  Ok (Hj (.sl (some (bb,0)) f.code.length (.ex f.code.length)) sv lv (.int .i64 tos.length) (.bool c0) (.int .i64 0) g) fun r=>r.1 = .exit 4∧∃ (c:Bool) (L':List (Option (List St))),r.2.1.getD 0 .bot = .bool c∧Same [] g0 r.2.2∧Tb r.2.2 bb L'∧All m f n0 L'∧mu L'≤mu L∧(c=true→c0=true∨mu L'<mu L)∧(c=false→c0=false∧L'=L∧∀ t∈tos,∃ l',L[t.toNat]?=some (some l')∧LeT l' ls):=by
 refine BF (fun q us g'=>∃ (j:Nat) (c:Bool) (L':List (Option (List St))),us = [.bool c,.int .i64 (j:Nat)]∧q+j=tos.length∧Same [bb] g g'∧Tb g' bb L'∧All m f n0 L'∧mu L'≤mu L∧(c=true→c0=true∨mu L'<mu L)∧(c=false→c0=false∧L'=L∧∀ (i:Nat) t,i<j→tos[i]?=some t→∃ l',L[t.toNat]?=some (some l')∧LeT l' ls)) ?_ (n:=tos.length) (by omega)
  ⟨0,c0,L,rfl,rfl,Same.refl _ _,T,A,Nat.le_refl _,(fun h=>.inl h),fun h=>⟨h,rfl,fun i t hi=>by omega⟩⟩
 rintro q us g' ⟨j,c,L',rfl,hm,s,T',A',hle,hc,hf0⟩
 rw [gD0,gD1]
 by_cases hj:j<tos.length
 ·have hj':(j:Int)<tos.length:=by omega
  obtain⟨t,ht⟩:∃ t,tos[j]?=some t:=⟨_,List.getElem?_eq_getElem hj⟩
  obtain⟨h0,h1⟩:=hin t (List.mem_of_getElem? ht)
  obtain⟨b1,o1,_,hix,hld⟩:=(hr g' s).at (i:=j) (x:=.int .i64 t) (by simp [wI,ht])
  have hL:=A'.len
  obtain⟨o,ho⟩:∃ o,L'[t.toNat]?=some o:=⟨_,List.getElem?_eq_getElem (by omega)⟩
  obtain⟨w,hw,E⟩:=T'.at_ ho
  have hixb:iaS 1 (.sl (some (bb,0)) f.code.length (.ex f.code.length)) (.int .i64 t)=some (.ptr (some (bb,t.toNat))):=by
   rw [E7 1 (bb,0) _ _ _ _ ⟨h0,h1⟩];simp
  have hnil:=E.nil
  have S':=S.mono s (by simpa using hbs)
  cases o with
  | none=>
   have ht0:t≠0:=fun h=>by
    subst h
    obtain⟨l,hl,_⟩:=A'.zero (by omega)
    have ho':L'[0]?=some none:=ho
    rw [hl] at ho';cases ho'
   obtain⟨g2,e2,s2,T2⟩:=T'.put (pc:=t.toNat) (by omega) S' hbs
   have hmu:mu (L'.set t.toNat (some ls))<mu L':=Qk ho (by
    have h2:=Ol ls
    have:ls.length * 18446744073709551617≤64 * 18446744073709551617:=Nat.mul_le_mul_right _ (by omega)
    simp only [wtO];omega)
   exact(Ok.of (r:=(.normal,[.bool true,.int .i64 ((j+1:Nat):Int)],g2)) (.inl ⟨rfl,q - 1,by omega,j+1,true,_,rfl,by omega,s.trans s2,T2,A'.set (by omega) hn0 (fun h=>absurd h (by omega)) (fun K C=>hg K C t (List.mem_of_getElem? ht)),by omega,(fun _=>.inr (by omega)),fun h=>by cases h⟩)).eq (by
    simp -implicitDefEqProofs only [E3,DV,AG,hj',decide_true,Option.bind_some,AB,hix,hld,hixb,hw,hnil,Option.isNone_none,e2,AE,Ap,suc64 j (by omega)])
  | some l=>
   obtain⟨b,Sb,hbb'⟩:=E
   have G:=A'.ln0 _ l ho
   have hll:l.length=ls.length:=by rw [G,hn0]
   refine Ok.eq ?_ (by simp -implicitDefEqProofs only [E3,AG,hj',decide_true,Option.bind_some,AB,hix,hld,hixb,hw,hnil,Option.isNone_some,AA];rfl)
   refine Ao (Qv Sb S' hll (by rw [G];exact h64)) ?_
   rintro xv g2 ⟨s2,bx,x,hbx,X,M⟩
   simp only at s2 X
   have T2:=T'.mono s2
   refine Ao (QG X (Sb.mono s2 (by simp)) M.len (by rw [M.len,G];exact h64)) ?_
   rintro _ g3 ⟨hg3,rfl⟩
   simp only at hg3
   subst hg3
   have hbxne:bx≠bb:=fun h=>by have:=T'.lt;omega
   by_cases hq:x=l
   ·rw [decide_eq_true hq]
    subst hq
    refine(Ok.of (r:=(.normal,[.bool c,.int .i64 ((j+1:Nat):Int)],g3)) (.inl ⟨rfl,q - 1,by omega,j+1,c,L',rfl,by omega,s.trans (s2.sub (by simp)),T2,A',hle,hc,fun h=>?_⟩)).eq (by
     simp -implicitDefEqProofs only [Ae,Bool.not_true,Option.bind_some,AA,DV,Ap,suc64 j (by omega)])
    obtain⟨h1',h2',h3'⟩:=hf0 h
    refine⟨h1',h2',fun i t' hi ht'=>?_⟩
    rcases (by omega:i<j∨i=j) with h | rfl
    ·exact h3' i t' h ht'
    ·rw [ht] at ht';cases ht'
     exact⟨x,by rw [← h2'];exact ho,M.leR hll⟩
   ·rw [decide_eq_false hq]
    obtain⟨g4,e4,s4,T4⟩:=T2.put (pc:=t.toNat) (by omega) X hbxne
    have hmu:mu (L'.set t.toNat (some x))<mu L':=Qk ho (TB M (Classical.byContradiction fun hn=>hq (MJ M.len fun k hk=>Classical.byContradiction fun hne=>hn ⟨k,hk,hne⟩)))
    exact(Ok.of (r:=(.normal,[.bool true,.int .i64 ((j+1:Nat):Int)],g4)) (.inl ⟨rfl,q - 1,by omega,j+1,true,_,rfl,by omega,(s.trans (s2.sub (by simp))).trans s4,T4,A'.set (by omega) (M.len.trans G) (fun h=>by
     obtain⟨lz,hz,hz'⟩:=A'.zero (by omega)
     rw [h] at ho;rw [ho] at hz;cases hz
     exact M.leL.trans hz') (fun K C=>by
     obtain⟨k1,hk1,hk2⟩:=hg K C t (List.mem_of_getElem? ht)
     obtain⟨k2,hk3,hk4⟩:=A'.low K C _ l ho
     rw [hk1] at hk3;cases hk3
     exact⟨k1,hk1,M.glb hk4 hk2⟩),by omega,(fun _=>.inr (by omega)),fun h=>by cases h⟩)).eq (by
     simp -implicitDefEqProofs only [Ae,Bool.not_false,Option.bind_some,AB,hixb,e4,AE,DV,Ap,suc64 j (by omega)])
 ·have hj' : ¬ (j:Int)<tos.length:=by omega
  refine(Ok.of (r:=(.exit 4,[.bool c,.int .i64 (j:Nat)],g')) (.inr ⟨by simp,rfl,c,L',rfl,e.old s (fun j hj=>.inr (by simp at hj;omega)),T',A',hle,hc,fun h=>?_⟩)).eq (by
   simp -implicitDefEqProofs only [E3,AG,hj',decide_false,Option.bind_some,AA])
  obtain⟨h1',h2',h3'⟩:=hf0 h
  refine⟨h1',h2',fun t ht=>?_⟩
  obtain⟨i,hi⟩:=List.getElem?_of_mem ht
  have:=(List.getElem?_eq_some_iff.1 hi).1
  exact h3' i t (by omega) hi
set_option linter.unusedSimpArgs false
attribute [local congr] BI D1 Dy D2 Bu D3 Dz Aw Av
theorem Qs (n:Int)(h0:0≤n)(h1:n < 64):cvI .u64 (.int .i64 n)=some (.int .u64 n):=by
 rw [Fs,Ff h0 (by omega)]
set_option linter.unusedSimpArgs false
attribute [local congr] BI D1 Dy D2 Bu D3 Dz Aw Av
def kindsB (l:List Bool):BitVec 64:=(l.zipIdx).foldl (fun a x=>a ||| (if x.1 then bitB (x.2:Int) else 0#64)) 0#64
theorem OC {l:List Bool}{i:Nat}{x:Bool}(h:l[i]?=some x):kindsB (l.take (i+1))=kindsB (l.take i) ||| (if x then bitB (i:Int) else 0#64):=by
 have hi:=(List.getElem?_eq_some_iff.1 h).1
 unfold kindsB
 rw [List.take_add_one,h,List.zipIdx_append,List.foldl_append]
 simp [Nat.min_eq_left (Nat.le_of_lt hi)]
theorem N6 {g:Heap}{v:AV}{l:List Bool}(H:RdW g 1 v (l.map AV.bool) l.length)(hl:l.length≤64) :
  Ok (IJ v (.int .i64 l.length) (.int .u64 0) (.int .i64 0) g) fun r=>r.1 = .exit 0∧r.2.2=g∧r.2.1.getD 0 .bot=w64 (kindsB l):=by
 refine BF (fun k vs g'=>∃ i:Nat,vs = [w64 (kindsB (l.take i)),.int .i64 i]∧k+i=l.length∧g'=g) ?_ (n:=l.length) (by omega) ⟨0,rfl,rfl,rfl⟩
 rintro k vs g' ⟨i,rfl,hk,rfl⟩
 rw [gD0,gD1]
 by_cases hi:i<l.length
 ·obtain⟨x,hx⟩:∃ x,l[i]?=some x:=⟨_,List.getElem?_eq_getElem hi⟩
  have hi':(i:Int)<l.length:=by omega
  obtain⟨b2,o,_,hix,hld⟩:=H.at (i:=i) (x:=.bool x) (by rw [List.getElem?_map,hx];rfl)
  have hs:=OC hx
  refine(Ok.of (r:=(Ex.normal,[w64 (kindsB (l.take (i+1))),AV.int .i64 ((i+1:Nat):Int)],g')) (.inl ⟨rfl,k - 1,by omega,i+1,rfl,by omega,rfl⟩)).eq ?_
  have h0:(0:Int)≤(i:Int):=by omega
  have h1:(i:Int) < 64:=by omega
  cases x with
  | true=>
   have e:=NA (i:Int) h0 h1
   rw [Qs (i:Int) h0 h1,Option.bind_some] at e
   have hb:bitB (i:Int)=1#64 <<< ((i:Int)).toNat:=by simp only [bitB,h0,h1,and_self,if_true]
   simp -implicitDefEqProofs only [FO,AG,hi',decide_true,Option.bind_some,AB,hix,hld,Qs (i:Int) h0 h1,e,P3,Ap,suc64 i (by omega),hs,hb,if_true]
  | false=>
   simp -implicitDefEqProofs only [FO,AG,hi',decide_true,Option.bind_some,AB,AA,hix,hld,Ap,suc64 i (by omega),hs,Bool.false_eq_true,if_false,BitVec.or_zero]
 ·have hi' : ¬ (i:Int)<l.length:=by omega
  refine(Ok.of (r:=(Ex.exit 0,[w64 (kindsB (l.take i)),AV.int .i64 (i:Int)],g')) (.inr ⟨by simp,rfl,rfl,?_⟩)).eq (by simp -implicitDefEqProofs only [FO,AG,hi',decide_false,Option.bind_some,AA])
  show w64 (kindsB (l.take i))=_
  rw [List.take_of_length_le (by omega)]
theorem S8 (a b:Int):minP (.int .i64 a) (.int .i64 b)=some (.int .i64 (min a b)):=by
 simp only [minP]
 first
  | rfl
  | (split<;>simp_all<;>omega)
structure MapsR (h g:Heap)(v:AV)(m:Md)(f:Fn)(s:List (BitVec 64)):Prop where
 same:Same [] h g
 eq:∃ b,v = .sl (some (b,0)) s.length (.ex s.length)∧h.next≤b∧b<g.next∧g.get b=some (.cells true ((s.map fun a=>a &&& kindsB (f.kinds.take 64)).map w64))
 len:s.length=f.code.length
 fix:Fix m f s
 low:Low m f s
theorem Pu {g0 g:Heap}{b:Nat}{vs0:List AV}{s:List (BitVec 64)}{a:BitVec 64}(ha:vs0.getD 0 .bot=w64 a)(hs:Same [] g0 g)(hb0:g0.next≤b)(hbl:b<g.next)(hb:g.get b=some (.cells true (s.map w64)))(hl:s.length≤1048576) :
  Ok (IL vs0 (.sl (some (b,0)) s.length (.ex s.length)) (.int .i64 s.length) (.int .i64 0) g) fun r=>r.1 = .exit 2∧Same [] g0 r.2.2∧b<r.2.2.next∧r.2.2.get b=some (.cells true ((s.map fun x=>x &&& a).map w64)):=by
 refine BF (fun k vs g'=>∃ i:Nat,vs = [.int .i64 i]∧k+i=s.length∧Same [] g0 g'∧b<g'.next∧g'.get b=some (.cells true (((s.take i).map fun x=>x &&& a).map w64++(s.drop i).map w64))) ?_ (n:=s.length) (by omega)
  ⟨0,rfl,rfl,hs,hbl,by simpa using hb⟩
 rintro k vs g' ⟨i,rfl,hk,s',hbl',hb'⟩
 rw [gD0]
 by_cases hi:i<s.length
 ·have hi':(i:Int)<s.length:=by omega
  obtain⟨x,hx⟩:∃ x,s[i]?=some x:=⟨_,List.getElem?_eq_getElem hi⟩
  have hlen:(((s.take i).map fun x=>x &&& a).map w64).length=i:=by simp;omega
  have hdrop:(s.drop i).map w64=w64 x::(s.drop (i+1)).map w64:=by
   rw [List.drop_eq_getElem_cons hi,List.map_cons]
   rw [List.getElem?_eq_getElem hi] at hx;cases hx;rfl
  have hix:iaS 1 (.sl (some (b,0)) s.length (.ex s.length)) (.int .i64 (i:Int))=some (.ptr (some (b,i))):=by rw [E7 1 (b,0) _ _ _ _ ⟨by omega,by omega⟩];simp
  have hld:ldS g' (.ptr (some (b,i)))=some (w64 x):=by
   rw [Ai hb',List.getElem?_append_right (by omega),hlen,hdrop];simp
  have hst:=Cl (v:=w64 (x &&& a)) hb' (o:=i) (by rw [List.length_append,hlen];simp;omega) (TS _)
  have hset:((((s.take i).map fun x=>x &&& a).map w64++(s.drop i).map w64).set i (w64 (x &&& a)))=((s.take (i+1)).map fun x=>x &&& a).map w64++(s.drop (i+1)).map w64:=by
   rw [List.set_append_right _ _ (by omega),hlen,hdrop,List.take_add_one,hx]
   simp
  rw [hset] at hst
  refine(Ok.of (r:=(Ex.normal,[AV.int .i64 ((i+1:Nat):Int)],g'.put b (some (.cells true (((s.take (i+1)).map fun x=>x &&& a).map w64++(s.drop (i+1)).map w64))))) (.inl ⟨rfl,k - 1,by omega,i+1,rfl,by omega,s'.old (Same.put _ _ _) (fun j hj=>.inr (by simp at hj;omega)),by simpa using hbl',An⟩)).eq ?_
  simp -implicitDefEqProofs only [GM,AG,hi',decide_true,Option.bind_some,AB,hix,hld,ha,Q3,hst,AE,Ap,suc64 i (by omega)]
 ·have hi' : ¬ (i:Int)<s.length:=by omega
  refine(Ok.of (r:=(Ex.exit 2,[AV.int .i64 (i:Int)],g')) (.inr ⟨by simp,rfl,s',hbl',?_⟩)).eq (by simp -implicitDefEqProofs only [GM,AG,hi',decide_false,Option.bind_some,AA])
  rw [hb',List.take_of_length_le (by omega),List.drop_eq_nil_of_le (by omega)];simp
theorem Rn {h:Heap}{v:AV}{r:List AV}{m:Md}{f:Fn}(H:MdRd h v m)(G:FnRd h r f)(hc:m.cases.length≤60)(hn:f.code.length≤1048576):Ok (F9 v (.agg r) h) fun r=>∃ s,MapsR h r.2 r.1 m f s:=by
 have hck:CapV 1 (r.getD 4 .bot):=by
  obtain⟨_,_,_,rfl,_,_,_,_,_,_,_,_,_,_,h1,_⟩:=G
  exact h1
 obtain⟨kv,cv,mv,rfl,hbf,FB⟩:=G.box
 have hck:CapV 1 kv:=hck
 obtain⟨sv,gv,cv0,cv',fv,rfl,hbx,B⟩:=H.box
 have s0:Same [] h (h.new (.cells true [sv,gv,cv0,cv',fv,.int .i64 m.main])):=Same.new _ _
 have FB:=FB _ s0
 generalize hg:h.new (.cells true [sv,gv,cv0,cv',fv,.int .i64 m.main])=g at *
 have s1:Same [] g (g.new (.cells true [.int .i64 f.pa,.int .i64 f.ca,.int .i64 f.sl,.int .i64 f.re,kv,cv,mv])):=Same.new _ _
 have B1:=B.mono s1
 generalize hg1:g.new (.cells true [.int .i64 f.pa,.int .i64 f.ca,.int .i64 f.sl,.int .i64 f.re,kv,cv,mv])=g1 at *
 have s2:Same [] h g1:=s0.trans s1
 have hkl:=FB.bnd.2
 rw [mxl] at hkl
 -- the first 64 kinds
 obtain⟨v',e5,hv'⟩:∃ v',slcP 1 kv none (some (.int .i64 (min (f.kinds.length:Int) 64))) none=some v'∧RdW g1 1 v' ((f.kinds.take 64).map AV.bool) (f.kinds.take 64).length:=by
  have hR:=FB.ks
  have hmin:(min (f.kinds.length:Int) 64)=((f.kinds.take 64).length:Int):=by rw [List.length_take];omega
  rw [hmin]
  have hle:(f.kinds.take 64).length≤f.kinds.length:=by rw [List.length_take];omega
  rcases hR.eq with⟨rfl,h0⟩ | ⟨bb,o,c,rfl,hb,hgg⟩
  ·have:f.kinds = []:=List.eq_nil_of_length_eq_zero h0
   refine⟨.sl none 0 (.ex 0),by rw [this];rfl,⟨by simp,.inl ⟨rfl,by rw [this];rfl⟩⟩⟩
  ·have hap:CapOk 1 f.kinds.length c:=by
    rcases hck with hc' | ⟨p,n,c',hc',h4⟩
    ·cases hc'
    ·cases hc';exact h4
   have blk:(f.kinds.take 64).length≠0→∃ w pre rest,pre.length=o∧g1.get bb=some (.cells w (pre++(f.kinds.take 64).map AV.bool++rest)):=fun hne=>by
    obtain⟨w,pre,rest,ho,hget⟩:=hgg (by omega)
    refine⟨w,pre,(f.kinds.drop 64).map AV.bool++rest,ho,?_⟩
    rw [hget]
    have:f.kinds.map AV.bool=(f.kinds.take 64).map AV.bool++(f.kinds.drop 64).map AV.bool:=by rw [← List.map_append,List.take_append_drop]
    rw [this];simp only [List.append_assoc]
   cases c with
   | ex k=>
    simp only [CapOk] at hap
    refine⟨.sl (some (bb,o)) (f.kinds.take 64).length (.ex k),?_,⟨by simp,.inr ⟨bb,o,.ex k,rfl,hb,blk⟩⟩⟩
    simp only [slcP,sliceEx,mostA,highA,lowA,boundA,Option.bind_some]
    rw [if_pos ⟨by omega,by omega⟩]
    simp only [Option.bind_some,Int.toNat_natCast,Nat.zero_mul,addA,Option.map_some,Nat.add_zero,Nat.sub_zero,ite_self]
   | un s=>
    simp only [CapOk] at hap
    subst hap
    refine⟨.sl (some (bb,o)) (f.kinds.take 64).length (.un 1),?_,⟨by simp,.inr ⟨bb,o,.un 1,rfl,hb,blk⟩⟩⟩
    simp only [slcP,sliceUn,ne_eq,not_true_eq_false,if_false,highA,lowA,boundA]
    rw [if_pos ⟨by omega,by omega⟩]
    simp only [Option.bind_some,Int.toNat_natCast,Nat.zero_mul,addA,Option.map_some,Nat.add_zero,Nat.sub_zero]
 refine Ok.eq ?_ (by simp -implicitDefEqProofs only [F9,hbx,hbf,Af,hg,hg1,AF,FB.l4,FB.ln4,Option.bind_some,S8,e5,hv'.lnL];rfl)
 refine CJ (N6 hv' (by rw [List.length_take];omega)) ?_
 rintro _ vs g2 ⟨rfl,hg2,hv⟩
 simp only at hg2 hv
 subst hg2
 refine Ok.eq ?_ (by simp -implicitDefEqProofs only [if_true,Al,B1.la,FB.la,Option.bind_some];rfl)
 refine Ao (Rs B1.rd FB.rd hc hn) ?_
 rintro v3 g3 ⟨s,S⟩
 simp only at S
 obtain⟨b,rfl,hb1,hb2,hb3⟩:=S.eq
 have hls:lnL (.sl (some (b,0)) s.length (.ex s.length))=some (.int .i64 s.length):=by simp
 have hsl:=S.len
 refine Ok.eq ?_ (by simp -implicitDefEqProofs only [hls,Option.bind_some];rfl)
 refine CJ (Pu (g0:=h) hv (s2.trans S.same) (Nat.le_trans s2.next hb1) hb2 hb3 (by omega)) ?_
 rintro _ vs2 g4 ⟨rfl,hs4,hb4,hg4⟩
 simp only at hs4 hb4 hg4
 refine Ah (v:=.sl (some (b,0)) s.length (.ex s.length)) (g:=g4) (by simp -implicitDefEqProofs only [if_true,Al]) ⟨s,hs4,⟨b,rfl,Nat.le_trans s2.next hb1,hb4,hg4⟩,hsl,S.fix,S.low⟩
set_option linter.unusedSimpArgs false
attribute [local congr] BI D1 Dy D2 Bu D3 Dz Aw Av
theorem Mh {m:Md}(hs:m.cases.length≤60)(f:Fn)(pc:Int):(followsL m f pc).length≤60:=by
 unfold followsL
 split
 ·have h1:=Ot f (rawL m pc (by assumption))
  have h2:=La hs pc (by assumption)
  omega
 ·simp
theorem MQ {m:Md}{f:Fn}{pc n:Int}(h:n∈followsL m f pc):0≤n∧n<f.code.length:=by
 unfold followsL at h
 split at h
 ·exact(Pr.1 h).2
 ·simp at h
theorem PU {n:Nat}(h:n≤9223372036854775807):wfI (n:Int):=by
 unfold wfI Lit.wf
 simp only [Bool.and_eq_true,decide_eq_true_eq]
 have e1:IntKind.i64.min = -9223372036854775808:=rfl
 have e2:IntKind.i64.max=9223372036854775807:=rfl
 omega
set_option linter.unusedSimpArgs false
attribute [local congr] BI D1 Dy D2 Bu D3 Dz Aw Av
def StepsT (m:Md)(f:Fn)(L:List (Option (List St)))(k:Nat):Prop:=∀ (pc:Nat) l i,pc<k→L[pc]?=some (some l)→f.code[pc]?=some i→∀ t∈followsL m f (pc:Int),∃ l',L[t.toNat]?=some (some l')∧LeT l' (flowS m i l)
theorem QH {g0 g:Heap}{pf pm bb:Nat}{m:Md}{f:Fn}{n0:Nat}{L:List (Option (List St))}{kv cv mv sv gv kv' cv' fv:AV}(B:MdB g0 pm m sv gv kv' cv' fv)(FB:FnB g0 pf f kv cv mv)(e:Same [] g0 g)(T:Tb g bb L)(A:All m f n0 L)(hbb:g0.next≤bb)
  (h64:n0≤64) (hc:m.cases.length≤60) (hf:f.code.length≤4096) :
  Ok (Hd (.ptr (some (pm,0))) (.ptr (some (pf,0))) (.sl (some (bb,0)) f.code.length (.ex f.code.length)) cv (.int .i64 f.code.length) (.bool false) (.int .i64 0) g) fun r=>r.1 = .exit 2∧∃ (c:Bool) (L':List (Option (List St))),r.2.1.getD 0 .bot = .bool c∧Same [] g0 r.2.2∧Tb r.2.2 bb L'∧All m f n0 L'∧(c=true→mu L'<mu L)∧(c=false→L'=L∧StepsT m f L f.code.length):=by
 refine BF (fun k us g'=>∃ (pc:Nat) (c:Bool) (L':List (Option (List St))),us = [.bool c,.int .i64 (pc:Nat)]∧k+pc=f.code.length∧Same [] g0 g'∧Tb g' bb L'∧All m f n0 L'∧mu L'≤mu L∧(c=true→mu L'<mu L)∧(c=false→L'=L∧StepsT m f L pc)) ?_ (n:=f.code.length) (by omega)
  ⟨0,false,L,rfl,rfl,e,T,A,Nat.le_refl _,(fun h=>by cases h),fun _=>⟨rfl,fun pc l i h=>by omega⟩⟩
 rintro k us g' ⟨pc,c,L',rfl,hk,e',T',A',hle,hcm,hcf⟩
 rw [gD0,gD1]
 by_cases hp:pc<f.code.length
 ·have hp':(pc:Int)<f.code.length:=by omega
  have F':=FB.mono e'
  obtain⟨i,hi⟩:∃ i,f.code[pc]?=some i:=⟨_,List.getElem?_eq_getElem hp⟩
  have him:=List.mem_of_getElem? hi
  have hiw:=FB.wf him
  obtain⟨b1,o1,hix,hla,_⟩:=F'.code hi
  refine Ok.eq ?_ (by simp -implicitDefEqProofs only [F0,AG,hp',decide_true,Option.bind_some,AB,hix,hla];rfl)
  refine EV (cs:=i.row) (n:=5) (by rfl) (by rfl) (Ins.sc i) fun g1 s1 n1 hg1=>?_
  have T1:=T'.mono s1
  obtain⟨o,ho⟩:∃ o,L'[pc]?=some o:=⟨_,List.getElem?_eq_getElem (by rw [A'.len];exact hp)⟩
  obtain⟨w,hw,E⟩:=T1.at_ ho
  have hixb:iaS 1 (.sl (some (bb,0)) f.code.length (.ex f.code.length)) (.int .i64 (pc:Nat))=some (.ptr (some (bb,pc))):=by
   rw [E7 1 (bb,0) _ _ _ _ ⟨by omega,hp'⟩];simp
  have hnil:=E.nil
  have e1:=e'.trans s1
  cases o with
  | none=>
   refine(Ok.of (r:=(.normal,[.bool c,.int .i64 ((pc+1:Nat):Int)],g1)) (.inl ⟨rfl,k - 1,by omega,pc+1,c,L',rfl,by omega,e1,T1,A',hle,hcm,fun h=>?_⟩)).eq (by
    simp -implicitDefEqProofs only [hixb,hw,Option.bind_some,hnil,Option.isNone_none,AB,Ap,suc64 pc (by omega)])
   obtain⟨rfl,h2⟩:=hcf h
   refine⟨rfl,fun p l i' hp hl hi'=>?_⟩
   rcases (by omega:p<pc∨p=pc) with h | rfl
   ·exact h2 p l i' h hl hi'
   ·rw [ho] at hl;cases hl
  | some l=>
   obtain⟨bl,Sl,hbl⟩:=E
   have G:=A'.ln0 pc l ho
   have hll:l.length≤64:=by rw [G];exact h64
   refine Ok.eq ?_ (by simp -implicitDefEqProofs only [hixb,hw,Option.bind_some,hnil,Option.isNone_some,AA];rfl)
   refine Ao (Jz Sl hll) ?_
   rintro v1 g2 ⟨b2,hb2,s2,S2⟩
   simp only at s2 S2
   have e2:=e1.trans s2
   have B2:=B.mono e2
   have li:∀ g'',Same [] g1 g''→ldA 5 g'' (.ptr (some (g'.next,0)))=some (.agg i.row):=fun g'' s=>by rw [Eo (w:=true) (vs:=i.row) (by rw [s.get _ (by omega) (by simp)];exact hg1)];rfl
   refine Ok.eq ?_ (by simp -implicitDefEqProofs only [B2.la,li g2 s2,Option.bind_some];rfl)
   refine Ao (Rr B2.rd i hiw.2.1 hiw.2.2.1 hc) ?_
   intro v3 g3 L3
   simp only at L3
   have S3:=S2.mono L3.same (by simp)
   refine Ao (Ia S3 (fun g' s=>L3.rdb S2.lt s) (by have:=PX hc i;omega)) ?_
   rintro u g4 ⟨s4,S4⟩
   simp only at s4 S4
   have e14:Same [] g1 g4:=(s2.trans L3.same).old s4 (fun j hj=>.inr (by simp at hj;omega))
   have e4:=e1.trans e14
   have B4:=B.mono e4
   refine Ok.eq ?_ (by simp -implicitDefEqProofs only [B4.la,li g4 e14,Option.bind_some];rfl)
   refine Ao (PN B4.rd hiw hc S4 (by rw [E2];exact hll)) ?_
   rintro v5 g5 ⟨s5,b5,hb5,S5⟩
   simp only at s5 S5
   have e5:=e4.trans s5
   have B5:=B.mono e5
   have F5:=FB.mono e5
   have T5:=(T1.mono e14).mono s5
   refine Ok.eq ?_ (by simp -implicitDefEqProofs only [B5.la,F5.la,Option.bind_some];rfl)
   refine Ao (K9 B5.rd F5.rd (pc:Int) hc (PU (by omega))) ?_
   intro v6 g6 L6
   simp only at L6
   have e6:=e5.trans L6.same
   have hb5ne:b5≠bb:=fun h=>by have:=(T1.mono e14).lt;omega
   have hfm:∀ t∈followsL m f (pc:Int),0≤t∧t<f.code.length:=fun t ht=>MQ ht
   have hS5:behS m i (lendS l (sentV m i))=flowS m i l:=rfl
   rw [hS5] at S5
   have hgd:∀ K,ClosedT m f n0 K→∀ t∈followsL m f (pc:Int),∃ k,K[t.toNat]?=some (some k)∧LeT k (flowS m i l):=fun K C t ht=>by
    obtain⟨k0,hk0,hle0⟩:=A'.low K C pc l ho
    obtain⟨k1,hk1,hle1⟩:=C.step pc k0 i hk0 hi t ht
    exact⟨k1,hk1,hle1.trans (hle0.flow m i)⟩
   have hl5:(flowS m i l).length=n0:=by rw [PW,G]
   refine Ok.eq ?_ (by simp -implicitDefEqProofs only [L6.lnL,Option.bind_some];rfl)
   have hfl:=Mh hc f (pc:Int)
   refine CJ (R7 (n0:=n0) (T5.mono L6.same) A' e6 hbb (S5.mono L6.same (by simp)) hb5ne hl5 h64 (fun g' s=>L6.rdb T5.lt s) (by omega) hfm (by omega) hgd c) ?_
   rintro _ us7 g7 ⟨rfl,c7,L7,hv7,e7,T7,A7,hle7,hc7,hf7⟩
   simp only at hv7 e7 T7
   refine(Ok.of (r:=(.normal,[.bool c7,.int .i64 ((pc+1:Nat):Int)],g7)) (.inl ⟨rfl,k - 1,by omega,pc+1,c7,L7,rfl,by omega,e7,T7,A7,by omega,(fun h=>by
     rcases hc7 h with h | h
     ·have:=hcm h;omega
     ·omega),fun h=>?_⟩)).eq (by
    simp -implicitDefEqProofs only [if_true,reduceCtorEq,if_false,Al,hv7,Ap,suc64 pc (by omega),Option.bind_some])
   obtain⟨q1,q2,q3⟩:=hf7 h
   obtain⟨q4,q5⟩:=hcf q1
   subst q2
   subst q4
   refine⟨rfl,fun p l' i' hp hl hi'=>?_⟩
   rcases (by omega:p<pc∨p=pc) with h | rfl
   ·exact q5 p l' i' h hl hi'
   ·rw [ho] at hl;cases hl
    rw [hi] at hi';cases hi'
    exact q3
 ·have hp' : ¬ (pc:Int)<f.code.length:=by omega
  exact(Ok.of (r:=(.exit 2,[.bool c,.int .i64 (pc:Nat)],g')) (.inr ⟨by simp,rfl,c,L',rfl,e',T',A',hcm,fun h=>by rw [show f.code.length=pc by omega];exact hcf h⟩)).eq (by
   simp -implicitDefEqProofs only [F0,AG,hp',decide_false,Option.bind_some,AA])
theorem N8 {g0 g:Heap}{pf pm bb:Nat}{m:Md}{f:Fn}{n0:Nat}{L:List (Option (List St))}{kv cv mv sv gv kv' cv' fv:AV}(B:MdB g0 pm m sv gv kv' cv' fv)(FB:FnB g0 pf f kv cv mv)(e:Same [] g0 g)(T:Tb g bb L)(A:All m f n0 L)(hbb:g0.next≤bb)
  (h64:n0≤64) (hc:m.cases.length≤60) (hf:f.code.length≤4096) :
  Ok (Ho (.ptr (some (pm,0))) (.ptr (some (pf,0))) (.sl (some (bb,0)) f.code.length (.ex f.code.length)) (.bool true) g) fun r=>r.1 = .exit 0∧∃ L',Same [] g0 r.2.2∧Tb r.2.2 bb L'∧All m f n0 L'∧ClosedT m f n0 L':=by
 have hmu:=SI A h64 hf
 refine BF (fun k us g'=>∃ (c:Bool) (L':List (Option (List St))),us = [.bool c]∧Same [] g0 g'∧Tb g' bb L'∧All m f n0 L'∧(c=true→k=mu L'+1)∧(c=false→StepsT m f L' f.code.length)) ?_ (n:=mu L+1) (by omega)
  ⟨true,L,rfl,e,T,A,(fun _=>rfl),fun h=>by cases h⟩
 rintro k us g' ⟨c,L',rfl,e',T',A',hk,hst⟩
 rw [gD0]
 cases c with
 | false=>exact(Ok.of (r:=(Ex.exit 0,[AV.bool false],g')) (.inr ⟨by simp,rfl,L',e',T',A',A'.len,A'.ln0,A'.zero,fun pc l i hl hi=>hst rfl pc l i (List.getElem?_eq_some_iff.1 hi).1 hl hi⟩)).eq (by simp -implicitDefEqProofs only [GC,AA])
 | true=>
  have F':=FB.mono e'
  have hk':=hk rfl
  refine Ok.eq ?_ (by simp -implicitDefEqProofs only [GC,AB,AF,F'.l5,F'.ln5,Option.bind_some];rfl)
  refine CJ (QH B FB e' T' A' hbb h64 hc hf) ?_
  rintro _ us2 g2 ⟨rfl,c2,L2,hv,e2,T2,A2,h2,h2f⟩
  simp only at hv e2 T2
  cases c2 with
  | true=>
   have:=h2 rfl
   exact(Ok.of (r:=(Ex.normal,[AV.bool true],g2)) (.inl ⟨rfl,mu L2+1,by omega,true,L2,rfl,e2,T2,A2,(fun _=>rfl),fun h=>by cases h⟩)).eq (by simp -implicitDefEqProofs only [if_true,reduceCtorEq,if_false,hv])
  | false=>
   exact(Ok.of (r:=(Ex.normal,[AV.bool false],g2)) (.inl ⟨rfl,0,by omega,false,L2,rfl,e2,T2,A2,(fun h=>by cases h),fun h=>by obtain⟨rfl,h⟩:=h2f h;exact h⟩)).eq (by simp -implicitDefEqProofs only [if_true,reduceCtorEq,if_false,hv])
set_option linter.unusedSimpArgs false
attribute [local congr] BI D1 Dy D2 Bu D3 Dz Aw Av
theorem SR:∀ n:Nat,rep [AV.bool false,AV.bool false,AV.int .u64 0] n=flS (List.replicate n dS)
 | 0=>rfl
 | n+1=>by rw [rep,SR n,List.replicate_succ];rfl
theorem PM:∀ n:Nat,rep [AV.sl none 0 (.ex 0)] n=List.replicate n (AV.sl none 0 (.ex 0))
 | 0=>rfl
 | n+1=>by rw [rep,PM n,List.replicate_succ];rfl
structure StsRd (g:Heap)(q:AV)(T:List (List St))(lo:Nat):Prop where
 ex:∃ b vs,SlB g b 1 q vs vs.length∧(∀ j,b=some j→lo≤j)∧vs.length=T.length∧∀ (pc:Nat) v,vs[pc]?=some v→∃ b' l,Ste g b' v l∧lo≤b'∧T[pc]?=some l
theorem StsRd.mono {g g':Heap}{q:AV}{T:List (List St)}{lo:Nat}{S:List Nat}(H:StsRd g q T lo)(s:Same S g g')(hS:∀ j∈S,j<lo):StsRd g' q T lo:=by
 obtain⟨b,vs,Q,hb,hl,hE⟩:=H.ex
 refine⟨b,vs,Q.same s (fun j hj hm=>by have:=hb j hj;have:=hS j hm;omega),hb,hl,fun pc v hv=>?_⟩
 obtain⟨b',l,S1,h1,h2⟩:=hE pc v hv
 exact⟨b',l,S1.mono s (fun hm=>by have:=hS b' hm;omega),h1,h2⟩
theorem StsRd.lo {g:Heap}{q:AV}{T:List (List St)}{lo lo':Nat}(H:StsRd g q T lo)(h:lo'≤lo):StsRd g q T lo':=by
 obtain⟨b,vs,Q,hb,hl,hE⟩:=H.ex
 exact⟨b,vs,Q,fun j hj=>Nat.le_trans h (hb j hj),hl,fun pc v hv=>by
  obtain⟨b',l,S1,h1,h2⟩:=hE pc v hv
  exact⟨b',l,S1,Nat.le_trans h h1,h2⟩⟩
theorem O0 {n0 pc:Nat}{L:List (Option (List St))}{o:Option (List St)}(h:L[pc]?=some o):(outT n0 L)[pc]?=some (o.getD (List.replicate n0 dS)):=by
 rw [outT,List.getElem?_map,h];cases o<;>rfl
theorem Rl {h g:Heap}{bb bn:Nat}{m:Md}{f:Fn}{n0:Nat}{L:List (Option (List St))}{zv:AV}(T:Tb g bb L)(A:All m f n0 L)(e:Same [] h g)(Z:Ste g bn zv (List.replicate n0 dS))(hz:bn≠bb)(h64:n0≤64)(hf:f.code.length≤4096) :
  Ok (Hv zv (.sl (some (bb,0)) f.code.length (.ex f.code.length)) (.int .i64 f.code.length) (.sl none 0 (.ex 0)) (.int .i64 0) g) fun r=>r.1 = .exit 6∧∃ q,r.2.1.getD 0 .bot=q∧Same [] h r.2.2∧StsRd r.2.2 q (outT n0 L) h.next:=by
 refine BF (fun k us g'=>∃ (pc:Nat) (q:AV) (b:Option Nat) (vs:List AV),us = [q,.int .i64 (pc:Nat)]∧k+pc=f.code.length∧Same [] g g'∧SlB g' b 1 q vs vs.length∧vs.length=pc∧(∀ j,b=some j→g.next≤j)∧∀ (j:Nat) v,vs[j]?=some v→∃ b' l,Ste g' b' v l∧b≠some b'∧g.next≤b'∧(outT n0 L)[j]?=some l) ?_ (n:=f.code.length) (by omega)
  ⟨0,_,none,[],rfl,rfl,Same.refl _ _,SlB.mt,rfl,(fun j hj=>by cases hj),fun j v hj=>by simp at hj⟩
 rintro k us g' ⟨pc,q,b,vs,rfl,hk,s,Q,hvl,hb,hE⟩
 rw [gD0,gD1]
 by_cases hp:pc<f.code.length
 ·have hp':(pc:Int)<f.code.length:=by omega
  have T':=T.mono s
  obtain⟨o,ho⟩:∃ o,L[pc]?=some o:=⟨_,List.getElem?_eq_getElem (by rw [A.len];exact hp)⟩
  obtain⟨w,hw,E⟩:=T'.at_ ho
  have hixb:iaS 1 (.sl (some (bb,0)) f.code.length (.ex f.code.length)) (.int .i64 (pc:Nat))=some (.ptr (some (bb,pc))):=by
   rw [E7 1 (bb,0) _ _ _ _ ⟨by omega,hp'⟩];simp
  have hnil:=E.nil
  have src:∃ (b1:Nat) (x:AV) (l:List St),Ste g' b1 x l∧l.length=n0∧(outT n0 L)[pc]?=some l∧EH zv (.sl (some (bb,0)) f.code.length (.ex f.code.length)) (.int .i64 f.code.length) q (.int .i64 (pc:Nat)) g'=Ey q (.int .i64 (pc:Nat)) x g':=by
   cases o with
   | none=>
    exact⟨bn,zv,_,Z.mono s (by simp),by simp,O0 ho,by simp -implicitDefEqProofs only [EH,AG,hp',decide_true,Option.bind_some,AB,hixb,hw,hnil,Option.isNone_none]⟩
   | some l=>
    obtain⟨bl,Sl,_⟩:=E
    exact⟨bl,w,l,Sl,A.ln0 pc l ho,O0 ho,by simp -implicitDefEqProofs only [EH,AG,hp',decide_true,Option.bind_some,AB,AA,hixb,hw,hnil,Option.isNone_some]⟩
  obtain⟨b1,x,l,X,G,hO,go⟩:=src
  rw [go]
  refine Ok.eq ?_ (by simp -implicitDefEqProofs only [Ey];rfl)
  refine Ao (Jz X (by rw [G];exact h64)) ?_
  rintro y g2 ⟨b2,hb2,s2,Y⟩
  simp only at s2 Y
  have hyc:y.cells = [y]:=by obtain⟨c,rfl⟩:=Y.eq;rfl
  have hys:y.cells.all scalar=true:=by rw [hyc];simp [Y.sc]
  refine app1 (Q.same s2 (by simp)) rfl (by rw [hyc];rfl) hys (by decide) (by omega) fun v' g3 h3 s3 n3=>?_
  rw [hyc] at h3
  have hb2ne:b≠some b2:=fun h=>by have:=(Q.blk b2 h).1;omega
  refine(Ok.of (r:=(.normal,[v',.int .i64 ((pc+1:Nat):Int)],g3)) (.inl ⟨rfl,k - 1,by omega,pc+1,v',some (g2.next+1),vs ++ [y],rfl,by omega,(s.trans s2).old s3 (fun j hj=>by
    cases b with
    | none=>simp at hj
    | some x=>simp at hj;subst hj;exact .inr (hb _ rfl)),by rw [List.length_append];exact h3,by simp [hvl],(fun j hj=>by cases hj;have:=s.next;have:=s2.next;omega),fun j w' hj=>?_⟩)).eq (by simp -implicitDefEqProofs only [Ap,suc64 pc (by omega),Option.bind_some])
  by_cases hjp:j<vs.length
  ·rw [List.getElem?_append_left hjp] at hj
   obtain⟨b',l',S',hne,hge,G'⟩:=hE j w' hj
   refine⟨b',l',(S'.mono s2 (by simp)).mono s3 (by cases hbb':b with
    | none=>simp
    | some x=>simp;rintro rfl;exact hne hbb'),fun h=>by have h:=Option.some.inj h;have:=S'.lt;have:=s2.next;omega,hge,G'⟩
  ·rw [List.getElem?_append_right (by omega)] at hj
   have hj0:j=vs.length:=by
    have:=(List.getElem?_eq_some_iff.1 hj).1
    simp at this;omega
   subst hj0
   rw [Nat.sub_self] at hj
   simp at hj;subst hj
   refine⟨b2,l,Y.mono s3 (by cases hbb':b with
    | none=>simp
    | some x=>simp;rintro rfl;exact hb2ne hbb'),fun h=>by have h:=Option.some.inj h;have:=Y.lt;omega,by have:=s.next;omega,by rw [hvl];exact hO⟩
 ·have hp' : ¬ (pc:Int)<f.code.length:=by omega
  have hpe:pc=f.code.length:=by omega
  exact(Ok.of (r:=(.exit 6,[q,.int .i64 (pc:Nat)],g')) (.inr ⟨by simp,rfl,q,rfl,e.trans s,b,vs,Q,(fun j hj=>Nat.le_trans e.next (hb j hj)),by rw [hvl,hpe,outT,List.length_map,A.len],fun j v hj=>by
   obtain⟨b',l,h1,_,h2,h3⟩:=hE j v hj
   exact⟨b',l,h1,Nat.le_trans e.next h2,h3⟩⟩)).eq (by simp -implicitDefEqProofs only [EH,AG,hp',decide_false,Option.bind_some,AA])
theorem P7 {h:Heap}{v:AV}{r:List AV}{m:Md}{f:Fn}(H:MdRd h v m)(G:FnRd h r f)(hc:m.cases.length≤60)(hf:f.code.length≤4096):Ok (ED v (.agg r) h) fun r=>Same [] h r.2∧StsRd r.2 r.1 (fsetsT m f) h.next∧IsFS m f (fsetsT m f):=by
 obtain⟨kv,cv,mv,rfl,hbf,FB⟩:=G.box
 obtain⟨sv,gv,cv0,cv',fv,rfl,hbx,B⟩:=H.box
 have s0:Same [] h (h.new (.cells true [sv,gv,cv0,cv',fv,.int .i64 m.main])):=Same.new _ _
 have FB:=FB _ s0
 generalize hg:h.new (.cells true [sv,gv,cv0,cv',fv,.int .i64 m.main])=g at *
 have s1:Same [] g (g.new (.cells true [.int .i64 f.pa,.int .i64 f.ca,.int .i64 f.sl,.int .i64 f.re,kv,cv,mv])):=Same.new _ _
 have B1:=B.mono s1
 generalize hg1:g.new (.cells true [.int .i64 f.pa,.int .i64 f.ca,.int .i64 f.sl,.int .i64 f.re,kv,cv,mv])=g1 at *
 have s2:Same [] h g1:=s0.trans s1
 have l2:ldS g1 (.ptr (some (g.next,0+2)))=some (.int .i64 f.sl):=by obtain⟨w,hw⟩:=FB.at_;rw [Ai hw];rfl
 have hmax:maxP (.int .i64 f.sl) (.int .i64 0)=some (.int .i64 (if 0 > f.sl then 0 else f.sl)):=rfl
 generalize hx:(if 0 > f.sl then 0 else f.sl)=x at *
 have hmin:minP (.int .i64 x) (.int .i64 64)=some (.int .i64 (if 64<x then 64 else x)):=rfl
 have hx0:0≤x:=by rw [← hx];split<;>omega
 generalize hn:(if 64<x then 64 else x).toNat=n0
 have hnn:(if 64<x then 64 else x)=(n0:Int):=by rw [← hn];split<;>omega
 have hn0:n0F f=n0:=by rw [n0F,hx,hn]
 have h64:n0≤64:=by rw [← hn];split<;>omega
 rw [hnn] at hmin
 have hms:msP 3 16 [AV.bool false,AV.bool false,AV.int .u64 0] (.int .i64 (n0:Int)) (.int .i64 (n0:Int))=some (.cells true (flS (List.replicate n0 dS)),fun i=>.sl (some (i,0)) n0 (.ex n0)):=by
  simp only [msP]
  rw [if_pos ⟨by omega,by omega,by omega,by omega,rfl⟩]
  simp only [Int.toNat_natCast,SR]
 have hms2:msP 1 24 [AV.sl none 0 (.ex 0)] (.int .i64 (f.code.length:Int)) (.int .i64 (f.code.length:Int))=some (.cells true (List.replicate f.code.length (AV.sl none 0 (.ex 0))),fun i=>.sl (some (i,0)) f.code.length (.ex f.code.length)):=by
  simp only [msP]
  rw [if_pos ⟨by omega,by omega,by omega,by omega,rfl⟩]
  simp only [Int.toNat_natCast,PM]
 have sA:Same [] g1 (g1.new (.cells true (flS (List.replicate n0 dS)))):=Same.new _ _
 have gA:(g1.new (.cells true (flS (List.replicate n0 dS)))).get g1.next=some (.cells true (flS (List.replicate n0 dS))):=Am
 have nA:(g1.new (.cells true (flS (List.replicate n0 dS)))).next=g1.next+1:=rfl
 generalize hgA:g1.new (.cells true (flS (List.replicate n0 dS)))=g2 at *
 have sB:Same [] g2 (g2.new (.cells true (List.replicate f.code.length (AV.sl none 0 (.ex 0))))):=Same.new _ _
 have gB:(g2.new (.cells true (List.replicate f.code.length (AV.sl none 0 (.ex 0))))).get g2.next=some (.cells true (List.replicate f.code.length (AV.sl none 0 (.ex 0)))):=Am
 have nB:(g2.new (.cells true (List.replicate f.code.length (AV.sl none 0 (.ex 0))))).next=g2.next+1:=rfl
 generalize hgB:g2.new (.cells true (List.replicate f.code.length (AV.sl none 0 (.ex 0))))=g3 at *
 have Z:Ste g3 g1.next (.sl (some (g1.next,0)) n0 (.ex n0)) (List.replicate n0 dS):=⟨⟨.ex n0,by rw [List.length_replicate]⟩,by rw [sB.get _ (by omega) (by simp)];exact gA,by omega⟩
 have F2:=FB.mono sA
 have B2:=B1.mono sA
 have Z2:Ste g2 g1.next (.sl (some (g1.next,0)) n0 (.ex n0)) (List.replicate n0 dS):=⟨⟨.ex n0,by rw [List.length_replicate]⟩,gA,by omega⟩
 have T0:Tb g3 g2.next (List.replicate f.code.length none):=⟨⟨_,gB,by simp,fun pc v o hv ho=>by
  rw [List.getElem?_replicate] at hv ho
  split at hv
  ·rename_i h;rw [if_pos h] at ho;cases hv;cases ho;rfl
  ·cases hv⟩,by omega⟩
 have tail:∀ g4 L,Same [] g2 g4→Tb g4 g2.next L→All m f n0 L→
   Ok (Et (.ptr (some (h.next,0))) (.ptr (some (g.next,0))) (.sl (some (g1.next,0)) n0 (.ex n0)) (.sl (some (g2.next,0)) f.code.length (.ex f.code.length)) g4) fun r=>Same [] h r.2∧StsRd r.2 r.1 (fsetsT m f) h.next∧IsFS m f (fsetsT m f):=fun g4 L e4 T4 A4=>by
  refine Ok.eq ?_ (by simp -implicitDefEqProofs only [Et];rfl)
  refine CJ (N8 B2 F2 e4 T4 A4 (Nat.le_refl _) h64 hc hf) ?_
  rintro _ us5 g5 ⟨rfl,L5,e5,T5,A5,C5⟩
  simp only at e5 T5
  have hln:lnL (.sl (some (g2.next,0)) f.code.length (.ex f.code.length))=some (.int .i64 f.code.length):=by simp
  refine Ok.eq ?_ (by simp -implicitDefEqProofs only [if_true,Al,hln,Option.bind_some];rfl)
  refine CJ (Rl (h:=h) T5 A5 ((s2.trans sA).trans e5) (Z2.mono e5 (by simp)) (by omega) h64 hf) ?_
  rintro _ us6 g6 ⟨rfl,q,rfl,s6,O⟩
  simp only at O s6
  have hIs:IsFS m f (outT n0 L5):=⟨L5,by rw [hn0];exact C5,by rw [hn0];exact A5.low,by rw [hn0]⟩
  have hT:=ME hIs
  exact Ah (v:=us6.getD 0 .bot) (g:=g6) (by simp -implicitDefEqProofs only [if_true,Al]) ⟨s6,by rw [hT];exact O,by rw [hT];exact hIs⟩
 have hln:lnL (.sl (some (g2.next,0)) f.code.length (.ex f.code.length))=some (.int .i64 f.code.length):=by simp
 by_cases hz:(0:Int)<f.code.length
 ·obtain⟨g4,e4,s4,T4⟩:=T0.put (pc:=0) (by simp;omega) Z (by omega)
  have hix:iaS 1 (.sl (some (g2.next,0)) f.code.length (.ex f.code.length)) (.int .i64 0)=some (.ptr (some (g2.next,0))):=by
   rw [E7 1 (g2.next,0) _ _ _ _ ⟨by omega,hz⟩];simp
  have A0:All m f n0 ((List.replicate f.code.length none).set 0 (some (List.replicate n0 dS))):=by
   have hz0:∀ (pc:Nat) l,((List.replicate f.code.length (none:Option (List St))).set 0 (some (List.replicate n0 dS)))[pc]?=some (some l)→pc=0∧l=List.replicate n0 dS:=fun pc l hl=>by
    by_cases e:pc=0
    ·subst e
     rw [List.getElem?_set_self (by simp;omega)] at hl
     cases hl;exact⟨rfl,rfl⟩
    ·rw [List.getElem?_set_ne (fun h=>e h.symm),List.getElem?_replicate] at hl
     split at hl<;>cases hl
   refine⟨by simp,fun pc l hl=>by rw [(hz0 pc l hl).2];simp,fun _=>⟨_,by rw [List.getElem?_set_self (by simp;omega)],LeT.refl _⟩,fun K C pc l hl=>?_⟩
   obtain⟨rfl,rfl⟩:=hz0 pc l hl
   exact C.zero (by omega)
  exact Ok.eq (tail g4 _ (sB.old s4 (fun j hj=>.inr (by simp at hj;omega))) T4 A0) (by
   simp -implicitDefEqProofs only [ED,hbx,hbf,Af,hg,hg1,AF,l2,Option.bind_some,hmax,hx,hmin,hms,hgA,F2.l5,F2.ln5,hms2,hgB,hln,AR,hz,decide_true,AB,hix,e4,AE])
 ·refine Ok.eq (tail g3 _ sB T0 ⟨by simp,fun pc l hl=>?_,fun h=>by omega,fun K C pc l hl=>?_⟩) (by
   simp -implicitDefEqProofs only [ED,hbx,hbf,Af,hg,hg1,AF,l2,Option.bind_some,hmax,hx,hmin,hms,hgA,F2.l5,F2.ln5,hms2,hgB,hln,AR,hz,decide_false,AA])
  ·rw [List.getElem?_replicate] at hl
   split at hl<;>cases hl
  ·rw [List.getElem?_replicate] at hl
   split at hl<;>cases hl
end Go.Ab.F
