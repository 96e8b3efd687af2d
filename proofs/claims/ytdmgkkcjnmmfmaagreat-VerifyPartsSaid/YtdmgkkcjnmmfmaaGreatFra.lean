import Derived.Test.YtdmgkkcjnmmfmaaGreatQuFn
import Derived.Test.YtdmgkkcjnmmfmaaGreatCnv
import Derived.Test.YtdmgkkcjnmmfmaaGreatLiv
namespace Go.Ab.F
open Go Go.Ab
set_option linter.all false
set_option linter.unusedSimpArgs false
attribute [local congr] BI D1 Dy D2 Bu D3 Dz Aw Av
structure St where
 y:Bool
 o:Bool
 w:BitVec 64
def St.row (s:St):List AV:=[.bool s.y,.bool s.o,w64 s.w]
def flS (l:List St):List AV:=(l.map St.row).flatten
theorem Lo (l:List St):(flS l).length=l.length * 3:=by
 induction l with
 | nil=>rfl
 | cons s l ih=>simp only [flS,List.map_cons,List.flatten_cons,List.length_append,List.length_cons] at ih ⊢;rw [ih];simp [St.row];omega
theorem Sd (l:List St):(flS l).all scalar=true:=by
 induction l with
 | nil=>rfl
 | cons s l ih=>simp only [flS,List.map_cons,List.flatten_cons,List.all_append] at ih ⊢;rw [ih];rfl
theorem Qr:∀ {l:List St} {k:Nat} {s:St},l[k]?=some s→span (flS l) (k * 3) 3=some s.row:=fun {l} {k} {s} h=>
 M5 (sz:=3) (l:=l.map St.row) (fun r hr=>by simp only [List.mem_map] at hr;obtain⟨p,_,rfl⟩:=hr;rfl) k s.row (by rw [List.getElem?_map,h];rfl)
theorem Qz {l:List St}{k j:Nat}{s:St}(h:l[k]?=some s)(hj:j < 3):(flS l)[k * 3+j]?=s.row[j]?:=by
 have e:=Qr h
 have hl:=Gf e
 rw [Bi _ _ _ hl] at e
 have:=congrArg (fun x=>x.map (·[j]?)) e
 simp only [Option.map_some,Option.some.injEq] at this
 rw [← this,List.getElem?_take,if_pos hj,List.getElem?_drop]
theorem Pw (a b:List St):flS (a++b)=flS a++flS b:=by simp [flS]
theorem Qd {l:List St}{k:Nat}{s:St}(h:l[k]?=some s):l=l.take k++s::l.drop (k+1):=by
 obtain⟨hk,e⟩:=List.getElem?_eq_some_iff.1 h
 rw [← e,← List.drop_eq_getElem_cons hk,List.take_append_drop]
theorem Sj {l:List St}{k:Nat}{s:St}(t:St)(h:l[k]?=some s):l.set k t=l.take k++t::l.drop (k+1):=by
 obtain⟨hk,e⟩:=List.getElem?_eq_some_iff.1 h
 rw [List.set_eq_take_append_cons_drop,if_pos hk]
theorem MV {l:List St}{k:Nat}{s:St}(h:l[k]?=some s):flS l=flS (l.take k)++(s.row++flS (l.drop (k+1))):=by
 conv=>lhs;rw [Qd h]
 rw [Pw];rfl
theorem Pt {l:List St}{k:Nat}{s:St}(t:St)(h:l[k]?=some s):flS (l.set k t)=flS (l.take k)++(t.row++flS (l.drop (k+1))):=by
 rw [Sj t h,Pw];rfl
theorem Qq {l:List St}{k:Nat}{s:St}(h:l[k]?=some s):(flS (l.take k)).length=k * 3:=by
 have:=(List.getElem?_eq_some_iff.1 h).1
 rw [Lo,List.length_take];omega
theorem QD {l:List St}{k j:Nat}{s t:St}{v:AV}(h:l[k]?=some s)(hj:j < 3)(ht:s.row.set j v=t.row):(flS l).set (k * 3+j) v=flS (l.set k t):=by
 have hk:=Qq h
 rw [Pt t h,MV h,List.set_append_right _ _ (by omega),hk,show k * 3+j-k * 3=j by omega,List.set_append_left _ _ (by show j < 3;exact hj),ht]
theorem OH (a b c d:List AV)(h:b.length=d.length):splice (a++(b++c)) a.length d=some (a++(d++c)):=by
 rw [F3 _ _ _ (by simp;omega),List.take_left,← List.drop_drop,List.drop_left,← h,List.drop_left,List.append_assoc]
structure Ste (g:Heap)(b:Nat)(v:AV)(l:List St):Prop where
 eq:∃ c,v = .sl (some (b,0)) l.length c
 blk:g.get b=some (.cells true (flS l))
 lt:b<g.next
theorem Ste.mono {g g':Heap}{b:Nat}{v:AV}{l:List St}{S:List Nat}(H:Ste g b v l)(e:Same S g g')(hb:b∉S):Ste g' b v l:=⟨H.eq,by rw [e.get b H.lt hb];exact H.blk,Nat.lt_of_lt_of_le H.lt e.next⟩
theorem Ste.lnL {g:Heap}{b:Nat}{v:AV}{l:List St}(H:Ste g b v l):Go.Ab.lnL v=some (.int .i64 l.length):=by obtain⟨c,rfl⟩:=H.eq;simp
theorem Ste.sc {g:Heap}{b:Nat}{v:AV}{l:List St}(H:Ste g b v l):scalar v=true:=by obtain⟨c,rfl⟩:=H.eq;rfl
theorem Ste.nn {g:Heap}{b:Nat}{v:AV}{l:List St}(H:Ste g b v l):eqP (some (.slice 0)) none false .eql v (.sl none 0 (.ex 0))=some (.bool false):=by obtain⟨c,rfl⟩:=H.eq;rfl
theorem Ste.ix {g:Heap}{b:Nat}{v:AV}{l:List St}(H:Ste g b v l){n:Int}(h0:0≤n)(h1:n<l.length):iaS 3 v (.int .i64 n)=some (.ptr (some (b,n.toNat * 3))):=by
 obtain⟨c,rfl⟩:=H.eq
 rw [E7 3 (b,0) _ _ _ _ ⟨h0,h1⟩];simp
theorem Ste.ld {g:Heap}{b:Nat}{v:AV}{l:List St}(H:Ste g b v l){k j:Nat}{s:St}(h:l[k]?=some s)(hj:j < 3):ldS g (.ptr (some (b,k * 3+j)))=s.row[j]?:=by
 rw [Ai H.blk,Qz h hj]
theorem Ste.la {g:Heap}{b:Nat}{v:AV}{l:List St}(H:Ste g b v l){k:Nat}{s:St}(h:l[k]?=some s):ldA 3 g (.ptr (some (b,k * 3)))=some (.agg s.row):=by
 rw [Eo H.blk,Qr h];rfl
theorem Ste.st {g:Heap}{b:Nat}{v:AV}{l:List St}(H:Ste g b v l){k j:Nat}{s:St}{x:AV}(t:St)(h:l[k]?=some s)(hj:j < 3)(ht:s.row.set j x=t.row)(hx:scalar x=true) :
  stP 1 g (.ptr (some (b,k * 3+j))) x=some (.bot,g.put b (some (.cells true (flS (l.set k t)))))∧Ste (g.put b (some (.cells true (flS (l.set k t))))) b v (l.set k t):=by
 have hk:=(List.getElem?_eq_some_iff.1 h).1
 refine⟨?_,⟨by obtain⟨c,e⟩:=H.eq;exact⟨c,by rw [List.length_set];exact e⟩,An,H.lt⟩⟩
 rw [Cl H.blk (by rw [Lo];omega) hx,QD h hj ht]
theorem Ste.sa {g:Heap}{b:Nat}{v:AV}{l:List St}(H:Ste g b v l){k:Nat}{s:St}(t:St)(h:l[k]?=some s) :
  stP 3 g (.ptr (some (b,k * 3))) (.agg t.row)=some (.bot,g.put b (some (.cells true (flS (l.set k t)))))∧Ste (g.put b (some (.cells true (flS (l.set k t))))) b v (l.set k t):=by
 have hk:=Qq h
 refine⟨?_,⟨by obtain⟨c,e⟩:=H.eq;exact⟨c,by rw [List.length_set];exact e⟩,An,H.lt⟩⟩
 have e:(AV.agg t.row).cells=t.row:=rfl
 have hs:t.row.all scalar=true:=rfl
 have hl:t.row.length=3:=rfl
 simp only [stP,e,hl,ne_eq,not_true_eq_false,if_false,storeN,hs,if_true,H.blk,DW]
 rw [MV h,← hk,OH (flS (l.take k)) s.row (flS (l.drop (k+1))) t.row rfl,Pt t h];rfl
theorem Jz {g:Heap}{b:Nat}{v:AV}{l:List St}(H:Ste g b v l)(hl:l.length≤64):Ok (Aq v g) fun r=>∃ b',g.next≤b'∧Same [] g r.2∧Ste r.2 b' r.1 l:=by
 have e0:bsP 3 [(AV.bool false),(AV.bool false),(AV.int .u64 0)] 0 []=some (.cells true [],fun i=>.sl (some (i,0)) 0 (.ex 0)):=rfl
 have hbl:=H.lt
 obtain⟨c,rfl⟩:=H.eq
 have hld:loadN (g.new (.cells true [])) (g.next,0) (0 * 3)=some []:=by
  simp only [loadN,Am,Cc,Nat.zero_mul];rfl
 have hgb:(g.new (.cells true [])).get b=some (.cells true (flS l)):=by rw [FK (by omega)];exact H.blk
 have hadd:addedA (g.new (.cells true [])) 3 (.sl (some (b,0)) l.length c)=some (flS l):=by
  simp only [addedA,loadN,hgb,Cc]
  rw [Bi _ _ _ (by rw [Lo];omega),List.drop_zero,List.take_of_length_le (by rw [Lo];omega)]
 have hcount:countA (.sl (some (b,0)) l.length c)=some l.length:=rfl
 by_cases hn:l.length=0
 ·have:l = []:=List.eq_nil_of_length_eq_zero hn
  subst this
  have ha:appendA (g.new (.cells true [])) 3 16 (.sl (some (g.next,0)) 0 (.ex 0)) (.sl (some (b,0)) ([]:List St).length c)=some (.sl (some (g.next,0)) 0 (.ex 0),(g.new (.cells true [])).put g.next (some (.cells true []))):=by
   have hcount0:countA (.sl (some (b,0)) 0 c)=some 0:=rfl
   have hadd0:addedA (g.new (.cells true [])) 3 (.sl (some (b,0)) 0 c)=some []:=hadd
   simp only [appendA,List.length_nil,hcount0,hadd0,Option.bind_some,Nat.add_zero,Nat.le_refl,if_true,addA,storeN,Am,DW,Nat.zero_mul]
   rfl
  refine Ah (v:=.sl (some (g.next,0)) 0 (.ex 0)) (g:=(g.new (.cells true [])).put g.next (some (.cells true []))) (by
   simp -implicitDefEqProofs only [Aq,H.nn,Option.bind_some,AA,e0,Af,ha,AE]) ⟨g.next,Nat.le_refl _,(Same.new _ _).old (Same.put _ _ _) (fun j hj=>.inr (by simp at hj;omega)),⟨_,rfl⟩,An,Nat.lt_succ_self _⟩
 ·have ha:appendA (g.new (.cells true [])) 3 16 (.sl (some (g.next,0)) 0 (.ex 0)) (.sl (some (b,0)) l.length c)=some (.sl (some (g.next+1,0)) (0+l.length) (.un 3),(g.new (.cells true [])).new (.cells true ([]++flS l))):=by
   simp only [appendA,hcount,hadd,Option.bind_some]
   rw [if_neg (by omega),if_pos (by omega),hld,Option.bind_some,if_pos (by rw [List.nil_append];exact Sd l)];rfl
  refine Ah (v:=.sl (some (g.next+1,0)) (0+l.length) (.un 3)) (g:=(g.new (.cells true [])).new (.cells true ([]++flS l))) (by
   simp -implicitDefEqProofs only [Aq,H.nn,Option.bind_some,AA,e0,Af,ha,AE]) ⟨g.next+1,Nat.le_succ _,(Same.new _ _).trans (Same.new _ _),⟨_,by rw [Nat.zero_add]⟩,by rw [List.nil_append];exact Am,Nat.lt_succ_self _⟩
set_option linter.unusedSimpArgs false
attribute [local congr] BI D1 Dy D2 Bu D3 Dz Aw Av
structure Sl9 (g:Heap)(b:Nat)(s:List (BitVec 64)):Prop where
 blk:g.get b=some (.cells true (s.map w64))
 blt:b<g.next
theorem Sl9.mono {g g':Heap}{b:Nat}{s:List (BitVec 64)}(H:Sl9 g b s)(e:Same [] g g'):Sl9 g' b s:=⟨by rw [e.get b H.blt (by simp)];exact H.blk,Nat.lt_of_lt_of_le H.blt e.next⟩
theorem Sl9.ld {g:Heap}{b:Nat}{s:List (BitVec 64)}(H:Sl9 g b s){n:Int}(h0:0≤n)(h1:n<s.length):ldS g (.ptr (some (b,n.toNat)))=some (w64 (sAt s n)):=by
 have:n.toNat<s.length:=by omega
 rw [Ai H.blk,List.getElem?_map,List.getElem?_eq_getElem this]
 simp [sAt,List.getElem?_eq_getElem this]
set_option linter.unusedSimpArgs false
attribute [local congr] BI D1 Dy D2 Bu D3 Dz Aw Av
def dS:St:=⟨false,false,0#64⟩
theorem getS {l:List St}{k:Nat}{s:St}(h:l[k]?=some s):l.getD k dS=s:=by rw [List.getD_eq_getElem?_getD,h];rfl
theorem Nt {l:List St}{n k:Nat}{t:St}(h:n<l.length):(l.set n t).getD k dS=if k=n then t else l.getD k dS:=by
 rw [List.getD_eq_getElem?_getD,List.getD_eq_getElem?_getD]
 by_cases e:k=n
 ·subst e;rw [List.getElem?_set_self h];simp
 ·rw [List.getElem?_set_ne (fun h=>e h.symm),if_neg e]
def atS (l:List St)(n:Int)(f:St→St):List St:=if 0≤n∧n<l.length then l.set n.toNat (f (l.getD n.toNat dS)) else l
theorem JG (l:List St)(n:Int)(f:St→St):(atS l n f).length=l.length:=by unfold atS;split<;>simp
theorem NY {l:List St}{n:Int}{f:St→St}{t:St}(h0:0≤n)(h1:n<l.length)(ht:l[n.toNat]?=some t):atS l n f=l.set n.toNat (f t):=by
 unfold atS;rw [if_pos ⟨h0,h1⟩,getS ht]
theorem LV {l:List St}{n:Int}{f:St→St}(h : ¬ (0≤n∧n<l.length)):atS l n f=l:=by unfold atS;rw [if_neg h]
def lend1 (l:List St)(n:Int):List St:=atS l n fun s=>⟨s.y,false,s.w⟩
def lendS (l:List St)(ns:List Int):List St:=ns.foldl lend1 l
theorem E2:∀ (ns:List Int) (l:List St),(lendS l ns).length=l.length
 | [],l=>rfl
 | n::ns,l=>by have:=E2 ns (lend1 l n);simp only [lendS,List.foldl_cons] at this ⊢;rw [this];exact JG _ _ _
theorem N7 {l:List St}{ns:List Int}{i:Nat}{x:Int}(h:ns[i]?=some x):lendS l (ns.take (i+1))=lend1 (lendS l (ns.take i)) x:=by
 rw [List.take_succ,h];simp [lendS]
def putS (l:List St)(n:Int)(x:St):List St:=atS l n fun _=>x
def getN (l:List St)(n:Int):St:=if 0≤n∧n<l.length then l.getD n.toNat dS else dS
def wrS (l:List St)(n:Int)(w:BitVec 64):List St:=atS l n fun s=>⟨s.y,s.o,s.w ||| w⟩
def zeroS (l:List St)(ns:List Int):List St:=ns.foldl (fun l n=>putS l n dS) l
theorem KS:∀ (ns:List Int) (l:List St),(zeroS l ns).length=l.length
 | [],l=>rfl
 | n::ns,l=>by have:=KS ns (putS l n dS);simp only [zeroS,List.foldl_cons] at this ⊢;rw [this];exact JG _ _ _
theorem LB {l:List St}{ns:List Int}{i:Nat}{x:Int}(h:ns[i]?=some x):zeroS l (ns.take (i+1))=putS (zeroS l (ns.take i)) x dS:=by
 rw [List.take_succ,h];simp [zeroS]
def clrS (l:List St):List St:=l.map fun s=>⟨false,s.o,s.w⟩
theorem Ia {g:Heap}{b:Nat}{v lv:AV}{l:List St}{ns:List Int}(H:Ste g b v l)(hr:∀ g',Same [b] g g'→RdW g' 1 lv (wI ns) ns.length)(hn:ns.length≤1048576) :
  Ok (Ar v lv g) fun r=>Same [b] g r.2∧Ste r.2 b v (lendS l ns):=by
 have hln:=(hr g (Same.refl _ _)).lnL
 refine Ok.eq ?_ (by simp -implicitDefEqProofs only [Ar,hln,Option.bind_some];rfl)
 refine CJ (P:=fun r=>r.1 = .exit 0∧Same [b] g r.2.2∧Ste r.2.2 b v (lendS l ns)) ?_ ?_
 ·refine BF (fun m us g'=>∃ i:Nat,us = [.int .i64 (i:Nat)]∧m+i=ns.length∧Same [b] g g'∧Ste g' b v (lendS l (ns.take i))) ?_ (n:=ns.length) (by omega) ⟨0,rfl,rfl,Same.refl _ _,H⟩
  rintro m us g' ⟨i,rfl,hm,s,H'⟩
  rw [gD0]
  generalize hl':lendS l (ns.take i)=l' at H'
  by_cases hi:i<ns.length
  ·have hi':(i:Int)<ns.length:=by omega
   obtain⟨x,hx⟩:∃ x,ns[i]?=some x:=⟨_,List.getElem?_eq_getElem hi⟩
   obtain⟨b1,o1,_,hix,hld⟩:=(hr g' s).at (i:=i) (x:=.int .i64 x) (by simp [wI,hx])
   have hnx:=N7 (l:=l) hx
   rw [hl'] at hnx
   by_cases c1:0≤x
   ·by_cases c2:x<l'.length
    ·obtain⟨t,ht⟩:∃ t,l'[x.toNat]?=some t:=⟨_,List.getElem?_eq_getElem (by omega)⟩
     obtain⟨e1,H2⟩:=H'.st (j:=1) (x:=.bool false) ⟨t.y,false,t.w⟩ ht (by omega) rfl rfl
     refine(Ok.of (r:=(.normal,[.int .i64 ((i+1:Nat):Int)],_)) (.inl ⟨rfl,m - 1,by omega,i+1,rfl,by omega,s.trans (Same.put _ _ _),by rw [hnx,lend1,NY c1 c2 ht];exact H2⟩)).eq (by
      simp -implicitDefEqProofs only [CQ,AG,hi',decide_true,Option.bind_some,AB,hix,hld,AJ,c1,AZ,AH,AE,H'.lnL,c2,AC,if_true,H'.ix c1 c2,AF,e1,Ap,suc64 i (by omega)];rfl)
    ·refine(Ok.of (r:=(.normal,[.int .i64 ((i+1:Nat):Int)],g')) (.inl ⟨rfl,m - 1,by omega,i+1,rfl,by omega,s,by rw [hnx,lend1,LV (by omega)];exact H'⟩)).eq (by
      simp -implicitDefEqProofs only [CQ,AG,hi',decide_true,decide_false,Option.bind_some,AB,AA,hix,hld,AJ,c1,AZ,AH,AE,H'.lnL,c2,AC,if_true,Ap,suc64 i (by omega)])
   ·refine(Ok.of (r:=(.normal,[.int .i64 ((i+1:Nat):Int)],g')) (.inl ⟨rfl,m - 1,by omega,i+1,rfl,by omega,s,by rw [hnx,lend1,LV (by omega)];exact H'⟩)).eq (by
     simp -implicitDefEqProofs only [CQ,AG,hi',decide_true,decide_false,Option.bind_some,AB,AA,hix,hld,AJ,c1,Ac,AL,AD,AC,Bool.false_eq_true,if_false,Ap,suc64 i (by omega)])
  ·have hi' : ¬ (i:Int)<ns.length:=by omega
   exact(Ok.of (r:=(.exit 0,[.int .i64 (i:Nat)],g')) (.inr ⟨by simp,rfl,s,by rw [← hl',List.take_of_length_le (by omega)] at H';exact H'⟩)).eq (by
    simp -implicitDefEqProofs only [CQ,AG,hi',decide_false,Option.bind_some,AA])
 ·rintro _ us g' ⟨rfl,s,H'⟩
  exact Ah (v:=.tup []) (g:=g') (by simp -implicitDefEqProofs only [if_true];rfl) ⟨s,H'⟩
theorem Nr {g:Heap}{b:Nat}{v:AV}{l:List St}(x:St)(n:Int)(H:Ste g b v l) :
  Ok (BD v (.int .i64 n) (.agg x.row) g) fun r=>Same [b] g r.2∧Ste r.2 b v (putS l n x):=by
 have hb:=GL (cs:=x.row) rfl
 have s1:Same [b] g (g.new (.cells true x.row)):=(Same.new _ _).sub (by simp)
 have gn:(g.new (.cells true x.row)).get g.next=some (.cells true x.row):=Am
 have H1:=H.mono (Same.new g (.cells true x.row)) (by simp)
 generalize hg1:g.new (.cells true x.row)=g1 at *
 have la:ldA 3 g1 (.ptr (some (g.next,0)))=some (.agg x.row):=by rw [Eo gn];rfl
 have same : ¬ (0≤n∧n<l.length)→Ok (some (AV.tup [],g1)) fun r=>Same [b] g r.2∧Ste r.2 b v (putS l n x):=fun h=>
  Ok.of (r:=(AV.tup [],g1)) ⟨s1,by rw [putS,LV h];exact H1⟩
 by_cases c1:0≤n
 ·by_cases c2:n<l.length
  ·obtain⟨t,ht⟩:∃ t,l[n.toNat]?=some t:=⟨_,List.getElem?_eq_getElem (by omega)⟩
   obtain⟨e1,H2⟩:=H1.sa x ht
   exact(Ok.of (r:=(AV.tup [],_)) ⟨s1.trans (Same.put _ _ _),by rw [putS,NY c1 c2 ht];exact H2⟩).eq (by
    simp -implicitDefEqProofs only [BD,hb,Af,hg1,AJ,c1,decide_true,Option.bind_some,AZ,AH,AE,H1.lnL,AG,c2,AC,if_true,AB,la,H1.ix c1 c2,e1];rfl)
  ·exact(same (by omega)).eq (by simp -implicitDefEqProofs only [BD,hb,Af,hg1,AJ,c1,decide_true,decide_false,Option.bind_some,AZ,AH,AE,H1.lnL,AG,c2,AC,if_true,AA])
 ·exact(same (by omega)).eq (by simp -implicitDefEqProofs only [BD,hb,Af,hg1,AJ,c1,decide_false,Option.bind_some,Ac,AL,AD,AC,Bool.false_eq_true,if_false,AA])
theorem Ov {g:Heap}{b:Nat}{v:AV}{l:List St}(n:Int)(H:Ste g b v l) :
  Ok (As v (.int .i64 n) g) fun r=>Same [] g r.2∧r.1 = .agg (getN l n).row:=by
 have eb:bldS [(0,1),(1,1),(2,1)] [(AV.bool false),(AV.bool false),(AV.int .u64 0)] []=some (.agg dS.row):=rfl
 generalize hz:Blk.cells true [AV.bool false,AV.bool false,AV.int .u64 0]=z
 have H1:=H.mono (Same.new g z) (by simp)
 have fin:∀ s:St,∃ g',stP 3 (g.new z) (.ptr (some (g.next,0))) (.agg s.row)=some (.bot,g')∧Same [] g g'∧ldA 3 g' (.ptr (some (g.next,0)))=some (.agg s.row):=fun s=>by
  rw [← hz]
  refine⟨_,Ds Am rfl rfl rfl,(Same.new _ _).old (Same.put _ _ _) (fun j hj=>.inr (by simp at hj;omega)),?_⟩
  rw [Eo An];rfl
 generalize hg1:g.new z=g1 at *
 by_cases c1:n < 0
 ·obtain⟨g',e1,s2,e2⟩:=fin dS
  exact Ah (v:=.agg dS.row) (g:=g') (by
   simp -implicitDefEqProofs only [As,hz,Af,hg1,AG,c1,decide_true,Option.bind_some,AY,AL,AD,AC,if_true,AB,eb,e1,AE,e2]) ⟨s2,by rw [getN,if_neg (by omega)]⟩
 ·by_cases c2:(l.length:Int)≤n
  ·obtain⟨g',e1,s2,e2⟩:=fin dS
   exact Ah (v:=.agg dS.row) (g:=g') (by
    simp -implicitDefEqProofs only [As,hz,Af,hg1,AG,c1,c2,decide_true,decide_false,Option.bind_some,AX,AH,AE,H1.lnL,AJ,AC,Bool.false_eq_true,if_false,AB,eb,e1,e2]) ⟨s2,by rw [getN,if_neg (by omega)]⟩
  ·obtain⟨t,ht⟩:∃ t,l[n.toNat]?=some t:=⟨_,List.getElem?_eq_getElem (by omega)⟩
   obtain⟨g',e1,s2,e2⟩:=fin t
   exact Ah (v:=.agg t.row) (g:=g') (by
    simp -implicitDefEqProofs only [As,hz,Af,hg1,AG,c1,c2,decide_false,Option.bind_some,AX,AH,AE,H1.lnL,AJ,AC,Bool.false_eq_true,if_false,AA,H1.ix (by omega) (by omega:n<l.length),H1.la ht,e1,e2]) ⟨s2,by rw [getN,if_pos (by omega),getS ht]⟩
theorem K4 {g:Heap}{b:Nat}{v:AV}{l:List St}(n:Int)(x:BitVec 64)(H:Ste g b v l) :
  Ok (A3 v (.int .i64 n) (w64 x) g) fun r=>Same [b] g r.2∧Ste r.2 b v (wrS l n x):=by
 have same : ¬ (0≤n∧n<l.length)→Ok (some (AV.tup [],g)) fun r=>Same [b] g r.2∧Ste r.2 b v (wrS l n x):=fun h=>Ok.of (r:=(AV.tup [],g)) ⟨Same.refl _ _,by rw [wrS,LV h];exact H⟩
 by_cases c1:0≤n
 ·by_cases c2:n<l.length
  ·obtain⟨t,ht⟩:∃ t,l[n.toNat]?=some t:=⟨_,List.getElem?_eq_getElem (by omega)⟩
   have hld:ldS g (.ptr (some (b,n.toNat * 3+2)))=some (w64 t.w):=H.ld ht (by omega)
   obtain⟨e1,H2⟩:=H.st (j:=2) (x:=w64 (t.w ||| x)) ⟨t.y,t.o,t.w ||| x⟩ ht (by omega) rfl rfl
   exact(Ok.of (r:=(AV.tup [],_)) ⟨Same.put _ _ _,by rw [wrS,NY c1 c2 ht];exact H2⟩).eq (by
    simp -implicitDefEqProofs only [A3,AJ,c1,decide_true,Option.bind_some,AZ,AH,AE,H.lnL,AG,c2,AC,if_true,AB,H.ix c1 c2,AF,hld,P3,e1];rfl)
  ·exact(same (by omega)).eq (by simp -implicitDefEqProofs only [A3,AJ,c1,decide_true,decide_false,Option.bind_some,AZ,AH,AE,H.lnL,AG,c2,AC,if_true,AA])
 ·exact(same (by omega)).eq (by simp -implicitDefEqProofs only [A3,AJ,c1,decide_false,Option.bind_some,Ac,AL,AD,AC,Bool.false_eq_true,if_false,AA])
def mkB (op:Int):Bool:=decide (op=25)||decide (op=26)||decide (op=36)||decide (op=37)
theorem GK (op:Int)(g:Heap):Co (.int .i64 op) g=some (.bool (mkB op),g):=by
 unfold mkB
 by_cases c1:op=25
 ·simp -implicitDefEqProofs only [Co,AK,c1,Int.reduceEq,decide_true,decide_false,Option.bind_some,AY,AX,AL,AD,AH,AE,AC,if_true,Bool.false_eq_true,if_false,Bool.true_or]
 by_cases c2:op=26
 ·simp -implicitDefEqProofs only [Co,AK,c2,Int.reduceEq,decide_true,decide_false,Option.bind_some,AY,AX,AL,AD,AH,AE,AC,if_true,Bool.false_eq_true,if_false,Bool.true_or,Bool.false_or]
 by_cases c3:op=36
 ·simp -implicitDefEqProofs only [Co,AK,c3,Int.reduceEq,decide_true,decide_false,Option.bind_some,AY,AX,AL,AD,AH,AE,AC,if_true,Bool.false_eq_true,if_false,Bool.true_or,Bool.false_or]
 simp -implicitDefEqProofs only [Co,AK,c1,c2,c3,decide_false,Option.bind_some,AX,AH,AE,AC,Bool.false_eq_true,if_false,Bool.false_or]
def ptB (op:Int):Bool:=mkB op||decide (op=20)||decide (op=21)||decide (op=23)||decide (op=24)||decide (op=38)||decide (op=39)||decide (op=41)||decide (op=43)
theorem Nv (op:Int)(g:Heap):Ep (.int .i64 op) g=some (.bool (ptB op),g):=by
 have key:∀ n:Int,op=n→(n=20∨n=21∨n=23∨n=24∨n=38∨n=39∨n=41∨n=43)→Ep (.int .i64 op) g=some (.bool (ptB op),g):=by
  rintro n rfl h
  rcases h with h | h | h | h | h | h | h | h<;>subst h<;>rfl
 by_cases c1:op=20;· exact key 20 c1 (by omega)
 by_cases c2:op=21;· exact key 21 c2 (by omega)
 by_cases c3:op=23;· exact key 23 c3 (by omega)
 by_cases c4:op=24;· exact key 24 c4 (by omega)
 by_cases c5:op=38;· exact key 38 c5 (by omega)
 by_cases c6:op=39;· exact key 39 c6 (by omega)
 by_cases c7:op=41;· exact key 41 c7 (by omega)
 by_cases c8:op=43;· exact key 43 c8 (by omega)
 unfold ptB
 simp -implicitDefEqProofs only [Ep,CM,AK,c1,c2,c3,c4,c5,c6,c7,c8,decide_false,Option.bind_some,AA,GK,AE,Bool.or_false]
def lendB (op:Int):Bool:=decide (op=35)||decide (op=20)||decide (op=21)||decide (op=23)||decide (op=24)||decide (op=22)
theorem QY (op:Int)(g:Heap):CB (.int .i64 op) g=some (.bool (lendB op),g):=by
 by_cases c35:op=35
 ·simp -implicitDefEqProofs only [CB,lendB,AK,c35,Int.reduceEq,decide_true,decide_false,Option.bind_some,AB,AA,Bool.true_or,Bool.or_true,Bool.false_or]
 by_cases c20:op=20
 ·simp -implicitDefEqProofs only [CB,lendB,AK,c20,Int.reduceEq,decide_true,decide_false,Option.bind_some,AB,AA,Bool.true_or,Bool.or_true,Bool.false_or]
 by_cases c21:op=21
 ·simp -implicitDefEqProofs only [CB,lendB,AK,c21,Int.reduceEq,decide_true,decide_false,Option.bind_some,AB,AA,Bool.true_or,Bool.or_true,Bool.false_or]
 by_cases c23:op=23
 ·simp -implicitDefEqProofs only [CB,lendB,AK,c23,Int.reduceEq,decide_true,decide_false,Option.bind_some,AB,AA,Bool.true_or,Bool.or_true,Bool.false_or]
 by_cases c24:op=24
 ·simp -implicitDefEqProofs only [CB,lendB,AK,c24,Int.reduceEq,decide_true,decide_false,Option.bind_some,AB,AA,Bool.true_or,Bool.or_true,Bool.false_or]
 by_cases c22:op=22
 ·simp -implicitDefEqProofs only [CB,lendB,AK,c22,Int.reduceEq,decide_true,decide_false,Option.bind_some,AB,AA,Bool.true_or,Bool.or_true,Bool.false_or]
 simp -implicitDefEqProofs only [CB,lendB,AK,c35,c20,c21,c23,c24,c22,decide_false,Option.bind_some,AA,Bool.or_false]
theorem NL (n:Int)(g:Heap):Bt (.int .i64 n) g=some (w64 (bitB n),g):=by
 by_cases c1:n < 0
 ·rw [bitB,if_neg (by omega)];simp -implicitDefEqProofs only [Bt,AG,c1,decide_true,Option.bind_some,AY,AL,AD,AC,if_true,AB];rfl
 ·by_cases c2:(64:Int)≤n
  ·rw [bitB,if_neg (by omega)];simp -implicitDefEqProofs only [Bt,AG,AJ,c1,c2,decide_true,decide_false,Option.bind_some,AX,AH,AE,AC,Bool.false_eq_true,if_false,AB];rfl
  ·have h:=NA n (by omega) (by omega)
   simp only [Fs,Option.bind_some] at h
   rw [bitB,if_pos (by omega)]
   simp -implicitDefEqProofs only [Bt,AG,AJ,c1,c2,decide_false,Option.bind_some,AX,AH,AE,AC,Bool.false_eq_true,if_false,AA,Fs,h]
theorem SH (l:List St)(k:Nat):(clrS l)[k]?=(l[k]?).map fun s=>⟨false,s.o,s.w⟩:=by simp [clrS]
theorem QW {g:Heap}{b:Nat}{v:AV}{l:List St}(H:Ste g b v l)(hl:l.length≤64) :
  Ok (G6 v (.int .i64 l.length) (.int .i64 0) g) fun r=>r.1 = .exit 0∧Same [b] g r.2.2∧Ste r.2.2 b v (clrS l):=by
 refine BF (fun m us g'=>∃ i:Nat,us = [.int .i64 (i:Nat)]∧m+i=l.length∧Same [b] g g'∧Ste g' b v (clrS (l.take i)++l.drop i)) ?_ (n:=l.length) (by omega) ⟨0,rfl,rfl,Same.refl _ _,by simpa [clrS] using H⟩
 rintro m us g' ⟨i,rfl,hm,s,H'⟩
 rw [gD0]
 by_cases hi:i<l.length
 ·have hi':(i:Int)<l.length:=by omega
  obtain⟨t,ht⟩:∃ t,l[i]?=some t:=⟨_,List.getElem?_eq_getElem hi⟩
  have hll:(clrS (l.take i)++l.drop i).length=l.length:=by simp [clrS];omega
  have hcl:(clrS (l.take i)).length=i:=by simp [clrS];omega
  have ht':(clrS (l.take i)++l.drop i)[i]?=some t:=by
   rw [List.getElem?_append_right (by omega),hcl,Nat.sub_self,List.getElem?_drop,Nat.add_zero];exact ht
  obtain⟨e1,H2⟩:=H'.st (j:=0) (x:=.bool false) ⟨false,t.o,t.w⟩ ht' (by omega) rfl rfl
  have hix:=H'.ix (n:=(i:Int)) (by omega) (by omega)
  rw [Int.toNat_natCast] at hix
  have he:(clrS (l.take i)++l.drop i).set i ⟨false,t.o,t.w⟩=clrS (l.take (i+1))++l.drop (i+1):=by
   rw [List.set_append_right _ _ (by omega),hcl,Nat.sub_self,List.take_succ,ht,List.drop_eq_getElem_cons hi]
   simp only [List.set_cons_zero,clrS,Option.toList_some,List.map_append,List.map_cons,List.map_nil,List.append_assoc,List.singleton_append,List.cons_append,List.nil_append]
  exact(Ok.of (r:=(.normal,[.int .i64 ((i+1:Nat):Int)],_)) (.inl ⟨rfl,m - 1,by omega,i+1,rfl,by omega,s.trans (Same.put _ _ _),by rw [← he];exact H2⟩)).eq (by
   simp -implicitDefEqProofs only [FE,AG,hi',decide_true,Option.bind_some,AB,hix,AF,e1,AE,Ap,suc64 i (by omega)];rfl)
 ·have hi' : ¬ (i:Int)<l.length:=by omega
  rw [List.take_of_length_le (by omega),List.drop_eq_nil_of_le (by omega),List.append_nil] at H'
  exact(Ok.of (r:=(.exit 0,[.int .i64 (i:Nat)],g')) (.inr ⟨by simp,rfl,s,H'⟩)).eq (by
   simp -implicitDefEqProofs only [FE,AG,hi',decide_false,Option.bind_some,AA])
set_option linter.unusedSimpArgs false
attribute [local congr] BI D1 Dy D2 Bu D3 Dz Aw Av
def pickV (k:Int)(cs:List Cas):List Int:=(cs.filter fun c=>decide (c.kind=k)).map fun c=>c.val
theorem Hy {k:Int}{cs:List Cas}{i:Nat}{c:Cas}(h:cs[i]?=some c):pickV k (cs.take (i+1))=pickV k (cs.take i)++(if c.kind=k then [c.val] else []):=by
 rw [List.take_succ,h]
 by_cases e:c.kind=k
 ·simp [pickV,List.filter_append,e]
 ·simp [pickV,List.filter_append,e]
theorem Ih (k:Int)(cs:List Cas):(pickV k cs).length≤cs.length:=by simp only [pickV,List.length_map];exact List.length_filter_le _ _
def sentV (m:Md)(i:Ins):List Int:=if i.op=41 then pickV 1 (casesOf m i.a i.b) else []
def recvV (m:Md)(i:Ins):List Int:=if i.op=41 then pickV 0 (casesOf m i.a i.b) else []
theorem FD {m:Md}(hc:m.cases.length≤60)(a b:Int):(casesOf m a b).length≤60:=by
 unfold casesOf
 split
 ·simp
 ·simp only [List.length_take,List.length_drop];omega
theorem PX {m:Md}(hc:m.cases.length≤60)(i:Ins):(sentV m i).length≤60:=by
 unfold sentV;split
 ·exact Nat.le_trans (Ih _ _) (FD hc _ _)
 ·simp
theorem Oo {m:Md}(hc:m.cases.length≤60)(i:Ins):(recvV m i).length≤60:=by
 unfold recvV;split
 ·exact Nat.le_trans (Ih _ _) (FD hc _ _)
 ·simp
theorem Qa {g h:Heap}{v:AV}{cs:List Cas}(H:RwC h 4 v (cs.map Cas.row))(hs:Same [] g h)(hl:cs.length≤1048576) :
  Ok (Hr v (.int .i64 cs.length) (.sl none 0 (.ex 0)) (.int .i64 0) h) fun r=>r.1 = .exit 0∧∃ q,r.2.1.getD 0 .bot=q∧Lst g r.2.2 q (pickV 1 cs):=by
 refine BF (fun k vs g'=>∃ (i:Nat) (q:AV) (b:Option Nat) (l:List Int),vs = [q,.int .i64 i]∧k+i=cs.length∧SlB g' b 1 q (wI l) l.length∧(∀ j,b=some j→h.next≤j)∧Same [] h g'∧l=pickV 1 (cs.take i)) ?_ (n:=cs.length) (by omega)
  ⟨0,_,none,[],rfl,rfl,SlB.mt,(fun j hj=>by cases hj),Same.refl _ _,rfl⟩
 rintro k vs g' ⟨i,q,b,l,rfl,hk,hq,hb,s,hl0⟩
 rw [gD0,gD1]
 have hli:l.length≤i:=by rw [hl0];refine Nat.le_trans (Ih _ _) ?_;simp;omega
 by_cases hi:i<cs.length
 ·obtain⟨c,hc⟩:∃ c,cs[i]?=some c:=⟨_,List.getElem?_eq_getElem hi⟩
  have hi':(i:Int)<cs.length:=by omega
  obtain⟨b2,o2,hb2,hix,hla,hls⟩:=(H.mono s.next (fun j hj=>s.get j hj (by simp))).at (i:=i) (r:=c.row) (by rw [List.getElem?_map,hc];rfl)
  refine Ok.eq ?_ (by simp -implicitDefEqProofs only [GF,AG,hi',decide_true,Option.bind_some,AB,hix,hla];rfl)
  refine EV (cs:=c.row) (n:=4) (by rfl) (by rfl) (Cas.sc c) fun g2 s' n' hg'=>?_
  have l0:ldS g2 (.ptr (some (g'.next,0+0)))=some (.int .i64 c.kind):=by rw [Ai hg'];rfl
  have l2:ldS g2 (.ptr (some (g'.next,0+2)))=some (.int .i64 c.val):=by rw [Ai hg'];rfl
  have hq':=hq.same s' (fun j _=>by simp)
  by_cases ck:c.kind=1
  ·refine Ok.eq ?_ (by simp -implicitDefEqProofs only [AF,Option.bind_some,l0,l2,AK,ck,decide_true,AB];rfl)
   refine app1 hq' rfl rfl rfl (by decide) (by omega) fun v' g3 h3 s3 n3=>?_
   have e:wI l++(AV.int .i64 c.val).cells=wI (l ++ [c.val]):=by simp [wI,AV.cells]
   rw [e] at h3
   refine(Ok.of (r:=(.normal,[v',.int .i64 ((i+1:Nat):Int)],g3)) (.inl ⟨rfl,k - 1,by omega,i+1,v',some (g2.next+1),l ++ [c.val],rfl,by omega,by rw [List.length_append];exact h3,fun j hj=>?_,?_,by rw [Hy hc,if_pos ck,hl0]⟩)).eq (by simp -implicitDefEqProofs only [Ap,suc64 i (by omega),Option.bind_some])
   ·cases hj;have:=s.next;omega
   ·exact(s.trans s').old s3 fun j hj=>by
     cases b with
     | none=>simp at hj
     | some x=>simp at hj;subst hj;exact .inr (hb _ rfl)
  ·exact(Ok.of (r:=(.normal,[q,.int .i64 ((i+1:Nat):Int)],g2)) (.inl ⟨rfl,k - 1,by omega,i+1,q,b,l,rfl,by omega,hq',hb,s.trans s',by rw [Hy hc,if_neg ck,List.append_nil,hl0]⟩)).eq (by simp -implicitDefEqProofs only [AF,Option.bind_some,l0,AK,ck,decide_false,AA,Ap,suc64 i (by omega)])
 ·have hi' : ¬ (i:Int)<cs.length:=by omega
  exact(Ok.of (r:=(.exit 0,[q,.int .i64 (i:Int)],g')) (.inr ⟨by simp,rfl,q,rfl,by rw [List.take_of_length_le (by omega)] at hl0;rw [← hl0];exact(Lst.of_slb hq hb s).old hs⟩)).eq (by simp -implicitDefEqProofs only [GF,AG,hi',decide_false,Option.bind_some,AA])
theorem Rr {h:Heap}{v:AV}{m:Md}(H:MdRd h v m)(i:Ins)(hwa:wfI i.a)(hwb:wfI i.b)(hc:m.cases.length≤60) :
  Ok (Cn v (.agg i.row) h) fun r=>Lst h r.2 r.1 (sentV m i):=by
 have hcv:∀ sv gv kv cv fv,v = .agg [sv,gv,kv,cv,fv,.int .i64 m.main]→CapV 4 cv:=fun sv gv kv cv fv e=>by
  obtain⟨_,_,_,_,_,e',_,_,_,_,_,_,_,_,_,_,hc,_⟩:=H
  rw [e] at e'
  cases e'
  exact hc
 obtain⟨sv,gv,kv,cv,fv,rfl,hbx,B⟩:=H.box
 have hcv:=hcv _ _ _ _ _ rfl
 have s0:Same [] h (h.new (.cells true [sv,gv,kv,cv,fv,.int .i64 m.main])):=Same.new _ _
 have hi:=GL (Ins.sc i)
 generalize hg:h.new (.cells true [sv,gv,kv,cv,fv,.int .i64 m.main])=g at *
 have s1:Same [] g (g.new (.cells true i.row)):=Same.new _ _
 have B1:=B.mono s1
 have gn:(g.new (.cells true i.row)).get g.next=some (.cells true i.row):=Am
 generalize hg1:g.new (.cells true i.row)=g1 at *
 have l0:ldS g1 (.ptr (some (g.next,0+0)))=some (.int .i64 i.op):=by rw [Ai gn];rfl
 have l1:ldS g1 (.ptr (some (g.next,0+1)))=some (.int .i64 i.a):=by rw [Ai gn];rfl
 have l2:ldS g1 (.ptr (some (g.next,0+2)))=some (.int .i64 i.b):=by rw [Ai gn];rfl
 have wa:=EW hwa
 have wb:=EW hwb
 have hm:=B.bnd.2
 rw [mxl] at hm
 have bad:sentV m i = []→Ok (some (AV.sl none 0 (.ex 0),g1)) fun r=>Lst h r.2 r.1 (sentV m i):=fun h=>by rw [h];exact Ok.of (r:=(AV.sl none 0 (.ex 0),g1)) (Lst.mt (s0.trans s1))
 have no:(i.a < 0∨i.b < 0∨(m.cases.length:Int)<i.a∨(m.cases.length:Int)-i.a<i.b)→sentV m i = []:=fun h=>by
  unfold sentV casesOf;rw [if_pos h];simp [pickV]
 by_cases c0 : ¬ i.op=41
 ·exact(bad (by unfold sentV;rw [if_neg c0])).eq (by simp -implicitDefEqProofs only [Cn,hbx,hi,Af,hg,hg1,AF,Option.bind_some,l0,l1,l2,B1.l3,B1.ln3,AU,AG,AR,Bc,Bool.not_true,Bool.not_false,AY,AX,AL,AD,AH,AE,AC,if_true,Bool.false_eq_true,if_false,c0,decide_true,decide_false,AB])
 have c0:i.op=41:=Decidable.not_not.1 c0
 by_cases c1:i.a < 0
 ·exact(bad (no (by omega))).eq (by simp -implicitDefEqProofs only [Cn,hbx,hi,Af,hg,hg1,AF,Option.bind_some,l0,l1,l2,B1.l3,B1.ln3,AU,AG,AR,Bc,Bool.not_true,Bool.not_false,AY,AX,AL,AD,AH,AE,AC,if_true,Bool.false_eq_true,if_false,c0,c1,decide_true,decide_false,AB])
 by_cases c2:i.b < 0
 ·exact(bad (no (by omega))).eq (by simp -implicitDefEqProofs only [Cn,hbx,hi,Af,hg,hg1,AF,Option.bind_some,l0,l1,l2,B1.l3,B1.ln3,AU,AG,AR,Bc,Bool.not_true,Bool.not_false,AY,AX,AL,AD,AH,AE,AC,if_true,Bool.false_eq_true,if_false,c0,c1,c2,decide_true,decide_false,AB])
 by_cases c3:(m.cases.length:Int)<i.a
 ·exact(bad (no (by omega))).eq (by simp -implicitDefEqProofs only [Cn,hbx,hi,Af,hg,hg1,AF,Option.bind_some,l0,l1,l2,B1.l3,B1.ln3,AU,AG,AR,Bc,Bool.not_true,Bool.not_false,AY,AX,AL,AD,AH,AE,AC,if_true,Bool.false_eq_true,if_false,c0,c1,c2,c3,decide_true,decide_false,AB])
 have e4:IntKind.i64.wrap ((m.cases.length:Int)-i.a)=(m.cases.length:Int)-i.a:=B9 (by omega) (by omega)
 by_cases c4:(m.cases.length:Int)-i.a<i.b
 ·exact(bad (no (by omega))).eq (by simp -implicitDefEqProofs only [Cn,hbx,hi,Af,hg,hg1,AF,Option.bind_some,l0,l1,l2,B1.l3,B1.ln3,AU,AG,AR,Bc,Bool.not_true,Bool.not_false,AY,AX,AL,AD,AH,AE,AC,if_true,Bool.false_eq_true,if_false,e4,c0,c1,c2,c3,c4,decide_true,decide_false,AB])
 obtain⟨v',e5,hv'⟩:=B1.cs.part hcv (a:=i.a.toNat) (b:=i.b.toNat) (by simp;omega)
 have ea:((i.a.toNat:Nat):Int)=i.a:=by omega
 have eab:((i.a.toNat+i.b.toNat:Nat):Int)=i.a+i.b:=by omega
 have ew:IntKind.i64.wrap (i.a+i.b)=i.a+i.b:=B9 (by omega) (by omega)
 rw [ea,eab] at e5
 rw [← List.map_drop,← List.map_take] at hv'
 have hln:=hv'.lnL
 rw [List.length_map] at hln
 have hcl:((m.cases.drop i.a.toNat).take i.b.toNat).length≤60:=by simp only [List.length_take,List.length_drop];omega
 refine Ok.eq ?_ (by simp -implicitDefEqProofs only [Cn,hbx,hi,Af,hg,hg1,AF,Option.bind_some,l0,l1,l2,B1.l3,B1.ln3,AU,AG,AR,Bc,Bool.not_true,Bool.not_false,AY,AX,AL,AD,AH,AE,AC,if_true,Bool.false_eq_true,if_false,Ap,e4,ew,c0,c1,c2,c3,c4,decide_true,decide_false,AA,e5,hln];rfl)
 refine CJ (Qa hv' (s0.trans s1) (by omega)) ?_
 rintro _ vs g2 ⟨rfl,q,rfl,hq⟩
 simp only at hq
 exact Ah (v:=vs.getD 0 .bot) (g:=g2) (by simp -implicitDefEqProofs only [if_true,Al]) (by rw [sentV,if_pos c0,casesOf,if_neg (by omega)];exact hq)
theorem MO {g h:Heap}{v:AV}{cs:List Cas}(H:RwC h 4 v (cs.map Cas.row))(hs:Same [] g h)(hl:cs.length≤1048576) :
  Ok (F6 v (.int .i64 cs.length) (.sl none 0 (.ex 0)) (.int .i64 0) h) fun r=>r.1 = .exit 0∧∃ q,r.2.1.getD 0 .bot=q∧Lst g r.2.2 q (pickV 0 cs):=by
 refine BF (fun k vs g'=>∃ (i:Nat) (q:AV) (b:Option Nat) (l:List Int),vs = [q,.int .i64 i]∧k+i=cs.length∧SlB g' b 1 q (wI l) l.length∧(∀ j,b=some j→h.next≤j)∧Same [] h g'∧l=pickV 0 (cs.take i)) ?_ (n:=cs.length) (by omega)
  ⟨0,_,none,[],rfl,rfl,SlB.mt,(fun j hj=>by cases hj),Same.refl _ _,rfl⟩
 rintro k vs g' ⟨i,q,b,l,rfl,hk,hq,hb,s,hl0⟩
 rw [gD0,gD1]
 have hli:l.length≤i:=by rw [hl0];refine Nat.le_trans (Ih _ _) ?_;simp;omega
 by_cases hi:i<cs.length
 ·obtain⟨c,hc⟩:∃ c,cs[i]?=some c:=⟨_,List.getElem?_eq_getElem hi⟩
  have hi':(i:Int)<cs.length:=by omega
  obtain⟨b2,o2,hb2,hix,hla,hls⟩:=(H.mono s.next (fun j hj=>s.get j hj (by simp))).at (i:=i) (r:=c.row) (by rw [List.getElem?_map,hc];rfl)
  refine Ok.eq ?_ (by simp -implicitDefEqProofs only [Ef,AG,hi',decide_true,Option.bind_some,AB,hix,hla];rfl)
  refine EV (cs:=c.row) (n:=4) (by rfl) (by rfl) (Cas.sc c) fun g2 s' n' hg'=>?_
  have l0:ldS g2 (.ptr (some (g'.next,0+0)))=some (.int .i64 c.kind):=by rw [Ai hg'];rfl
  have l2:ldS g2 (.ptr (some (g'.next,0+2)))=some (.int .i64 c.val):=by rw [Ai hg'];rfl
  have hq':=hq.same s' (fun j _=>by simp)
  by_cases ck:c.kind=0
  ·refine Ok.eq ?_ (by simp -implicitDefEqProofs only [AF,Option.bind_some,l0,l2,AK,ck,decide_true,AB];rfl)
   refine app1 hq' rfl rfl rfl (by decide) (by omega) fun v' g3 h3 s3 n3=>?_
   have e:wI l++(AV.int .i64 c.val).cells=wI (l ++ [c.val]):=by simp [wI,AV.cells]
   rw [e] at h3
   refine(Ok.of (r:=(.normal,[v',.int .i64 ((i+1:Nat):Int)],g3)) (.inl ⟨rfl,k - 1,by omega,i+1,v',some (g2.next+1),l ++ [c.val],rfl,by omega,by rw [List.length_append];exact h3,fun j hj=>?_,?_,by rw [Hy hc,if_pos ck,hl0]⟩)).eq (by simp -implicitDefEqProofs only [Ap,suc64 i (by omega),Option.bind_some])
   ·cases hj;have:=s.next;omega
   ·exact(s.trans s').old s3 fun j hj=>by
     cases b with
     | none=>simp at hj
     | some x=>simp at hj;subst hj;exact .inr (hb _ rfl)
  ·exact(Ok.of (r:=(.normal,[q,.int .i64 ((i+1:Nat):Int)],g2)) (.inl ⟨rfl,k - 1,by omega,i+1,q,b,l,rfl,by omega,hq',hb,s.trans s',by rw [Hy hc,if_neg ck,List.append_nil,hl0]⟩)).eq (by simp -implicitDefEqProofs only [AF,Option.bind_some,l0,AK,ck,decide_false,AA,Ap,suc64 i (by omega)])
 ·have hi' : ¬ (i:Int)<cs.length:=by omega
  exact(Ok.of (r:=(.exit 0,[q,.int .i64 (i:Int)],g')) (.inr ⟨by simp,rfl,q,rfl,by rw [List.take_of_length_le (by omega)] at hl0;rw [← hl0];exact(Lst.of_slb hq hb s).old hs⟩)).eq (by simp -implicitDefEqProofs only [Ef,AG,hi',decide_false,Option.bind_some,AA])
theorem NX {h:Heap}{v:AV}{m:Md}(H:MdRd h v m)(i:Ins)(hwa:wfI i.a)(hwb:wfI i.b)(hc:m.cases.length≤60) :
  Ok (Bo v (.agg i.row) h) fun r=>Lst h r.2 r.1 (recvV m i):=by
 have hcv:∀ sv gv kv cv fv,v = .agg [sv,gv,kv,cv,fv,.int .i64 m.main]→CapV 4 cv:=fun sv gv kv cv fv e=>by
  obtain⟨_,_,_,_,_,e',_,_,_,_,_,_,_,_,_,_,hc,_⟩:=H
  rw [e] at e'
  cases e'
  exact hc
 obtain⟨sv,gv,kv,cv,fv,rfl,hbx,B⟩:=H.box
 have hcv:=hcv _ _ _ _ _ rfl
 have s0:Same [] h (h.new (.cells true [sv,gv,kv,cv,fv,.int .i64 m.main])):=Same.new _ _
 have hi:=GL (Ins.sc i)
 generalize hg:h.new (.cells true [sv,gv,kv,cv,fv,.int .i64 m.main])=g at *
 have s1:Same [] g (g.new (.cells true i.row)):=Same.new _ _
 have B1:=B.mono s1
 have gn:(g.new (.cells true i.row)).get g.next=some (.cells true i.row):=Am
 generalize hg1:g.new (.cells true i.row)=g1 at *
 have l0:ldS g1 (.ptr (some (g.next,0+0)))=some (.int .i64 i.op):=by rw [Ai gn];rfl
 have l1:ldS g1 (.ptr (some (g.next,0+1)))=some (.int .i64 i.a):=by rw [Ai gn];rfl
 have l2:ldS g1 (.ptr (some (g.next,0+2)))=some (.int .i64 i.b):=by rw [Ai gn];rfl
 have wa:=EW hwa
 have wb:=EW hwb
 have hm:=B.bnd.2
 rw [mxl] at hm
 have bad:recvV m i = []→Ok (some (AV.sl none 0 (.ex 0),g1)) fun r=>Lst h r.2 r.1 (recvV m i):=fun h=>by rw [h];exact Ok.of (r:=(AV.sl none 0 (.ex 0),g1)) (Lst.mt (s0.trans s1))
 have no:(i.a < 0∨i.b < 0∨(m.cases.length:Int)<i.a∨(m.cases.length:Int)-i.a<i.b)→recvV m i = []:=fun h=>by
  unfold recvV casesOf;rw [if_pos h];simp [pickV]
 by_cases c0 : ¬ i.op=41
 ·exact(bad (by unfold recvV;rw [if_neg c0])).eq (by simp -implicitDefEqProofs only [Bo,hbx,hi,Af,hg,hg1,AF,Option.bind_some,l0,l1,l2,B1.l3,B1.ln3,AU,AG,AR,Bc,Bool.not_true,Bool.not_false,AY,AX,AL,AD,AH,AE,AC,if_true,Bool.false_eq_true,if_false,c0,decide_true,decide_false,AB])
 have c0:i.op=41:=Decidable.not_not.1 c0
 by_cases c1:i.a < 0
 ·exact(bad (no (by omega))).eq (by simp -implicitDefEqProofs only [Bo,hbx,hi,Af,hg,hg1,AF,Option.bind_some,l0,l1,l2,B1.l3,B1.ln3,AU,AG,AR,Bc,Bool.not_true,Bool.not_false,AY,AX,AL,AD,AH,AE,AC,if_true,Bool.false_eq_true,if_false,c0,c1,decide_true,decide_false,AB])
 by_cases c2:i.b < 0
 ·exact(bad (no (by omega))).eq (by simp -implicitDefEqProofs only [Bo,hbx,hi,Af,hg,hg1,AF,Option.bind_some,l0,l1,l2,B1.l3,B1.ln3,AU,AG,AR,Bc,Bool.not_true,Bool.not_false,AY,AX,AL,AD,AH,AE,AC,if_true,Bool.false_eq_true,if_false,c0,c1,c2,decide_true,decide_false,AB])
 by_cases c3:(m.cases.length:Int)<i.a
 ·exact(bad (no (by omega))).eq (by simp -implicitDefEqProofs only [Bo,hbx,hi,Af,hg,hg1,AF,Option.bind_some,l0,l1,l2,B1.l3,B1.ln3,AU,AG,AR,Bc,Bool.not_true,Bool.not_false,AY,AX,AL,AD,AH,AE,AC,if_true,Bool.false_eq_true,if_false,c0,c1,c2,c3,decide_true,decide_false,AB])
 have e4:IntKind.i64.wrap ((m.cases.length:Int)-i.a)=(m.cases.length:Int)-i.a:=B9 (by omega) (by omega)
 by_cases c4:(m.cases.length:Int)-i.a<i.b
 ·exact(bad (no (by omega))).eq (by simp -implicitDefEqProofs only [Bo,hbx,hi,Af,hg,hg1,AF,Option.bind_some,l0,l1,l2,B1.l3,B1.ln3,AU,AG,AR,Bc,Bool.not_true,Bool.not_false,AY,AX,AL,AD,AH,AE,AC,if_true,Bool.false_eq_true,if_false,e4,c0,c1,c2,c3,c4,decide_true,decide_false,AB])
 obtain⟨v',e5,hv'⟩:=B1.cs.part hcv (a:=i.a.toNat) (b:=i.b.toNat) (by simp;omega)
 have ea:((i.a.toNat:Nat):Int)=i.a:=by omega
 have eab:((i.a.toNat+i.b.toNat:Nat):Int)=i.a+i.b:=by omega
 have ew:IntKind.i64.wrap (i.a+i.b)=i.a+i.b:=B9 (by omega) (by omega)
 rw [ea,eab] at e5
 rw [← List.map_drop,← List.map_take] at hv'
 have hln:=hv'.lnL
 rw [List.length_map] at hln
 have hcl:((m.cases.drop i.a.toNat).take i.b.toNat).length≤60:=by simp only [List.length_take,List.length_drop];omega
 refine Ok.eq ?_ (by simp -implicitDefEqProofs only [Bo,hbx,hi,Af,hg,hg1,AF,Option.bind_some,l0,l1,l2,B1.l3,B1.ln3,AU,AG,AR,Bc,Bool.not_true,Bool.not_false,AY,AX,AL,AD,AH,AE,AC,if_true,Bool.false_eq_true,if_false,Ap,e4,ew,c0,c1,c2,c3,c4,decide_true,decide_false,AA,e5,hln];rfl)
 refine CJ (MO hv' (s0.trans s1) (by omega)) ?_
 rintro _ vs g2 ⟨rfl,q,rfl,hq⟩
 simp only at hq
 exact Ah (v:=vs.getD 0 .bot) (g:=g2) (by simp -implicitDefEqProofs only [if_true,Al]) (by rw [recvV,if_pos c0,casesOf,if_neg (by omega)];exact hq)
set_option linter.unusedSimpArgs false
attribute [local congr] BI D1 Dy D2 Bu D3 Dz Aw Av
theorem Lst.rdb {h g g':Heap}{v:AV}{l:List Int}{b:Nat}(L:Lst h g v l)(hb:b<h.next)(s:Same [b] g g'):RdW g' 1 v (wI l) l.length:=by
 refine⟨by simp [wI],?_⟩
 rcases L.eq with⟨rfl,rfl⟩ | ⟨b1,c,rest,rfl,h1,h2,h3,h4,_⟩
 ·exact .inl ⟨rfl,rfl⟩
 ·exact .inr ⟨b1,0,c,rfl,Nat.lt_of_lt_of_le h2 s.next,fun _=>⟨true,[],rest,rfl,by rw [s.get b1 h2 (by simp;omega)];simpa using h4⟩⟩
theorem bld0:bldS [(0,1),(1,1),(2,1)] [(AV.bool false),(AV.bool false),(AV.int .u64 0)] []=some (.agg dS.row):=rfl
theorem bldY (y:Bool):bldS [(0,1),(1,1),(2,1)] [(AV.bool false),(AV.bool false),(AV.int .u64 0)] [(0,AV.bool y)]=some (.agg (St.row ⟨y,false,0#64⟩)):=rfl
theorem bldYO (y o:Bool):bldS [(0,1),(1,1),(2,1)] [(AV.bool false),(AV.bool false),(AV.int .u64 0)] [(0,AV.bool y),(1,AV.bool o)]=some (.agg (St.row ⟨y,o,0#64⟩)):=rfl
theorem P5 {g:Heap}{b:Nat}{v lv:AV}{l:List St}{ns:List Int}(H:Ste g b v l)(hr:∀ g',Same [b] g g'→RdW g' 1 lv (wI ns) ns.length)(hn:ns.length≤1048576) :
  Ok (Gx v lv (.int .i64 ns.length) (.int .i64 0) g) fun r=>r.1 = .exit 3∧Same [b] g r.2.2∧Ste r.2.2 b v (zeroS l ns):=by
 refine BF (fun m us g'=>∃ i:Nat,us = [.int .i64 (i:Nat)]∧m+i=ns.length∧Same [b] g g'∧Ste g' b v (zeroS l (ns.take i))) ?_ (n:=ns.length) (by omega) ⟨0,rfl,rfl,Same.refl _ _,H⟩
 rintro m us g' ⟨i,rfl,hm,s,H'⟩
 rw [gD0]
 by_cases hi:i<ns.length
 ·have hi':(i:Int)<ns.length:=by omega
  obtain⟨x,hx⟩:∃ x,ns[i]?=some x:=⟨_,List.getElem?_eq_getElem hi⟩
  obtain⟨b1,o1,_,hix,hld⟩:=(hr g' s).at (i:=i) (x:=.int .i64 x) (by simp [wI,hx])
  refine Ok.eq ?_ (by simp -implicitDefEqProofs only [FL,AG,hi',decide_true,Option.bind_some,AB,hix,hld,bld0];rfl)
  refine Ao (Nr dS x H') ?_
  rintro u g2 ⟨s2,H2⟩
  simp only at s2 H2
  exact(Ok.of (r:=(.normal,[.int .i64 ((i+1:Nat):Int)],g2)) (.inl ⟨rfl,m - 1,by omega,i+1,rfl,by omega,s.trans s2,by rw [LB hx];exact H2⟩)).eq (by simp -implicitDefEqProofs only [Ap,suc64 i (by omega),Option.bind_some])
 ·have hi' : ¬ (i:Int)<ns.length:=by omega
  exact(Ok.of (r:=(.exit 3,[.int .i64 (i:Nat)],g')) (.inr ⟨by simp,rfl,s,by rw [List.take_of_length_le (by omega)] at H';exact H'⟩)).eq (by
   simp -implicitDefEqProofs only [FL,AG,hi',decide_false,Option.bind_some,AA])
theorem Py {g:Heap}{b:Nat}{v lv:AV}{l:List St}{ns:List Int}(H:Ste g b v l)(hr:∀ g',Same [b] g g'→RdW g' 1 lv (wI ns) ns.length)(hn:ns.length≤1048576) :
  Ok (Gz v lv (.int .i64 ns.length) (.int .i64 0) g) fun r=>r.1 = .exit 5∧Same [b] g r.2.2∧Ste r.2.2 b v (zeroS l ns):=by
 refine BF (fun m us g'=>∃ i:Nat,us = [.int .i64 (i:Nat)]∧m+i=ns.length∧Same [b] g g'∧Ste g' b v (zeroS l (ns.take i))) ?_ (n:=ns.length) (by omega) ⟨0,rfl,rfl,Same.refl _ _,H⟩
 rintro m us g' ⟨i,rfl,hm,s,H'⟩
 rw [gD0]
 by_cases hi:i<ns.length
 ·have hi':(i:Int)<ns.length:=by omega
  obtain⟨x,hx⟩:∃ x,ns[i]?=some x:=⟨_,List.getElem?_eq_getElem hi⟩
  obtain⟨b1,o1,_,hix,hld⟩:=(hr g' s).at (i:=i) (x:=.int .i64 x) (by simp [wI,hx])
  refine Ok.eq ?_ (by simp -implicitDefEqProofs only [E8,AG,hi',decide_true,Option.bind_some,AB,hix,hld,bld0];rfl)
  refine Ao (Nr dS x H') ?_
  rintro u g2 ⟨s2,H2⟩
  simp only at s2 H2
  exact(Ok.of (r:=(.normal,[.int .i64 ((i+1:Nat):Int)],g2)) (.inl ⟨rfl,m - 1,by omega,i+1,rfl,by omega,s.trans s2,by rw [LB hx];exact H2⟩)).eq (by simp -implicitDefEqProofs only [Ap,suc64 i (by omega),Option.bind_some])
 ·have hi' : ¬ (i:Int)<ns.length:=by omega
  exact(Ok.of (r:=(.exit 5,[.int .i64 (i:Nat)],g')) (.inr ⟨by simp,rfl,s,by rw [List.take_of_length_le (by omega)] at H';exact H'⟩)).eq (by
   simp -implicitDefEqProofs only [E8,AG,hi',decide_false,Option.bind_some,AA])
def bhJ1 (m:Md)(i:Ins)(l:List St):List St:=zeroS (zeroS l (writesL i)) (recvV m i)
def bhJ2 (m:Md)(i:Ins)(l:List St):List St:=bhJ1 m i (if i.op=38 then lendS l [i.b] else l)
def bhS (m:Md)(i:Ins)(l:List St):List St:=
 if mkB i.op=true then putS (if i.op=36 then lendS l (readsL m i) else l) i.a ⟨true,!decide (i.op=36),0#64⟩
 else if i.op=1 then putS (lendS l [i.b]) i.a ⟨(getN l i.b).y,false,0#64⟩
 else if i.op=28∨i.op=29 then lendS (wrS l i.a (bitB i.b)) [i.c]
 else if i.op=31∨i.op=32 then lendS (wrS l i.a 18446744073709551615#64) [i.c]
 else bhJ2 m i (if lendB i.op=true then lendS l (readsL m i) else l)
theorem N2 (l:List St)(n:Int)(x:St):(putS l n x).length=l.length:=JG _ _ _
theorem Oy (l:List St)(n:Int)(w:BitVec 64):(wrS l n w).length=l.length:=JG _ _ _
theorem Qi (m:Md)(i:Ins)(l:List St):(bhJ1 m i l).length=l.length:=by rw [bhJ1,KS,KS]
theorem QX (m:Md)(i:Ins)(l:List St):(bhJ2 m i l).length=l.length:=by rw [bhJ2,Qi];split<;>simp only [E2]
theorem RS (m:Md)(i:Ins)(l:List St):(bhS m i l).length=l.length:=by
 unfold bhS
 split
 ·rw [N2];split<;>simp only [E2]
 split
 ·rw [N2,E2]
 split
 ·rw [E2,Oy]
 split
 ·rw [E2,Oy]
 ·rw [QX];split<;>simp only [E2]
section
variable {gB:Heap}{pm pi b:Nat}{m:Md}{i:Ins}{sv gv kv cv fv v:AV}(B:MdB gB pm m sv gv kv cv fv)(gi:gB.get pi=some (.cells true i.row))(hpi:pi<gB.next)(hb:gB.next≤b)(hw:i.wf)(hc:m.cases.length≤60)
include B gi hpi hb hw hc
theorem Rz {g:Heap}{l:List St}(e:Same [] gB g)(H:Ste g b v l) :
  Ok (EK (.ptr (some (pi,0))) v (.int .i64 i.op) g) fun r=>r.1=v∧Same [b] g r.2∧Ste r.2 b v (putS l i.a ⟨true,!decide (i.op=36),0#64⟩):=by
 have l1:ldS g (.ptr (some (pi,0+1)))=some (.int .i64 i.a):=by rw [Ai (w:=true) (vs:=i.row) (by rw [e.get pi hpi (by simp)];exact gi)];rfl
 refine Ok.eq ?_ (by simp -implicitDefEqProofs only [EK,AF,Option.bind_some,l1,AU,bldYO];rfl)
 refine Ao (Nr ⟨true,!decide (i.op=36),0#64⟩ i.a H) ?_
 rintro u g2 ⟨s2,H2⟩
 simp only at s2 H2
 exact Ah (v:=v) (g:=g2) rfl ⟨rfl,s2,H2⟩
theorem SJ {g:Heap}{l:List St}(e:Same [] gB g)(H:Ste g b v l) :
  Ok (EI (.ptr (some (pm,0))) (.ptr (some (pi,0))) v g) fun r=>r.1=v∧Same [b] g r.2∧Ste r.2 b v (bhJ1 m i l):=by
 have hbl:=H.lt
 have la:∀ g',Same [] gB g'→ldA 5 g' (.ptr (some (pi,0)))=some (.agg i.row):=fun g' s=>by rw [Eo (w:=true) (vs:=i.row) (by rw [s.get pi hpi (by simp)];exact gi)];rfl
 refine Ok.eq ?_ (by simp -implicitDefEqProofs only [EI,la g e,Option.bind_some];rfl)
 refine Ao (Ko i) ?_
 intro v2 g2 L2
 simp only at L2
 have H2:=H.mono L2.same (by simp)
 refine Ok.eq ?_ (by simp -implicitDefEqProofs only [L2.lnL,Option.bind_some];rfl)
 refine CJ (P5 H2 (fun g' s=>L2.rdb hbl s) (by have:=IP i;omega)) ?_
 rintro _ us g3 ⟨rfl,s3,H3⟩
 simp only at s3 H3
 have e3:Same [] gB g3:=(e.trans L2.same).old s3 (fun j hj=>.inr (by simp at hj;omega))
 have B3:=B.mono e3
 have hbl3:=H3.lt
 refine Ok.eq ?_ (by simp -implicitDefEqProofs only [if_true,Al,B3.la,la g3 e3,Option.bind_some];rfl)
 refine Ao (NX B3.rd i hw.2.1 hw.2.2.1 hc) ?_
 intro v4 g4 L4
 simp only at L4
 have H4:=H3.mono L4.same (by simp)
 refine Ok.eq ?_ (by simp -implicitDefEqProofs only [L4.lnL,Option.bind_some];rfl)
 refine CJ (Py H4 (fun g' s=>L4.rdb hbl3 s) (by have:=Oo hc i;omega)) ?_
 rintro _ us5 g5 ⟨rfl,s5,H5⟩
 simp only at s5 H5
 exact Ah (v:=v) (g:=g5) (by simp -implicitDefEqProofs only [if_true,reduceCtorEq,if_false,Al]) ⟨rfl,(((L2.same.sub (by simp)).trans s3).trans (L4.same.sub (by simp))).trans s5,H5⟩
theorem SY {g:Heap}{l:List St}(e:Same [] gB g)(H:Ste g b v l) :
  Ok (Db (.ptr (some (pm,0))) (.ptr (some (pi,0))) v (.int .i64 i.op) g) fun r=>r.1=v∧Same [b] g r.2∧Ste r.2 b v (bhJ2 m i l):=by
 have hbl:=H.lt
 have l2:ldS g (.ptr (some (pi,0+2)))=some (.int .i64 i.b):=by rw [Ai (w:=true) (vs:=i.row) (by rw [e.get pi hpi (by simp)];exact gi)];rfl
 by_cases c1:i.op=38
 ·have L:=Lst.lit (Same.refl [] g) [i.b]
  refine Ok.eq ?_ (by simp -implicitDefEqProofs only [Db,AK,c1,decide_true,Option.bind_some,AB,AF,l2,bs1,Af];rfl)
  refine Ao (Ia (H.mono L.same (by simp)) (fun g' s=>L.rdb hbl s) (by simp)) ?_
  rintro u g2 ⟨s2,H2⟩
  simp only at s2 H2
  refine(SJ B gi hpi hb hw hc ((e.trans L.same).old s2 (fun j hj=>.inr (by simp at hj;omega))) H2).mono ?_
  rintro r ⟨r1,s3,H3⟩
  exact⟨r1,((L.same.sub (by simp)).trans s2).trans s3,by rw [bhJ2,if_pos c1];exact H3⟩
 ·rw [bhJ2,if_neg c1];exact(SJ B gi hpi hb hw hc e H).eq (by simp -implicitDefEqProofs only [Db,AK,c1,decide_false,Option.bind_some,AA])
theorem Sf {g:Heap}{l:List St}(e:Same [] gB g)(H:Ste g b v l) :
  Ok (Bh (.ptr (some (pm,0))) (.ptr (some (pi,0))) v g) fun r=>r.1=v∧Same [b] g r.2∧Ste r.2 b v (bhS m i l):=by
 have hbl:=H.lt
 have li:∀ g',Same [] gB g'→∀ (f:Nat) x,i.row[f]?=some x→ldS g' (.ptr (some (pi,0+f)))=some x:=fun g' s f x hx=>by rw [Ai (w:=true) (vs:=i.row) (by rw [s.get pi hpi (by simp)];exact gi),Nat.zero_add];exact hx
 have la:∀ g',Same [] gB g'→ldA 5 g' (.ptr (some (pi,0)))=some (.agg i.row):=fun g' s=>by rw [Eo (w:=true) (vs:=i.row) (by rw [s.get pi hpi (by simp)];exact gi)];rfl
 have old:∀ {g1 g2:Heap},Same [] gB g1→Same [b] g1 g2→Same [] gB g2:=fun a s=>a.old s (fun j hj=>.inr (by simp at hj;omega))
 have l0:=li g e 0 _ rfl
 have l1:=li g e 1 _ rfl
 have l2:=li g e 2 _ rfl
 have Bg:=B.mono e
 by_cases hm:mkB i.op=true
 ·by_cases c36:i.op=36
  ·have hm36:mkB 36=true:=rfl
   refine Ok.eq ?_ (by simp -implicitDefEqProofs only [Bh,AF,Option.bind_some,l0,GK,hm36,AE,AB,AK,c36,decide_true,Bg.la,la g e];rfl)
   refine Ao (Lx Bg.rd i hw hc) ?_
   intro v2 g2 L2
   simp only at L2
   refine Ao (Ia (H.mono L2.same (by simp)) (fun g' s=>L2.rdb hbl s) (by have:=JB (m:=m) (i:=i) hc;omega)) ?_
   rintro u g3 ⟨s3,H3⟩
   simp only at s3 H3
   have:=Rz B gi hpi hb hw hc (old (e.trans L2.same) s3) H3
   rw [c36] at this
   refine this.mono ?_
   rintro r ⟨r1,s4,H4⟩
   exact⟨r1,((L2.same.sub (by simp)).trans s3).trans s4,by rw [bhS,if_pos hm,if_pos c36,c36];exact H4⟩
  ·rw [bhS,if_pos hm,if_neg c36];exact(Rz B gi hpi hb hw hc e H).eq (by simp -implicitDefEqProofs only [Bh,AF,Option.bind_some,l0,GK,hm,AE,AB,AA,AK,c36,decide_false])
 have hm':mkB i.op=false:=by simpa using hm
 by_cases c1:i.op=1
 ·have hm1:mkB 1=false:=rfl
  refine Ok.eq ?_ (by simp -implicitDefEqProofs only [Bh,AF,Option.bind_some,l0,c1,GK,hm1,AE,AB,AA,AK,decide_true,l2];rfl)
  refine Ao (Ov i.b H) ?_
  rintro _ g2 ⟨s2,rfl⟩
  generalize htt:getN l i.b=t
  simp only at s2
  have e2:=e.trans s2
  have l2':=li g2 e2 2 _ rfl
  have H2:=H.mono s2 (by simp)
  have L:=Lst.lit (Same.refl [] g2) [i.b]
  refine Ok.eq ?_ (by simp -implicitDefEqProofs only [St.row,fvS0,Option.bind_some,l2',bs1,Af];rfl)
  refine Ao (Ia (H2.mono L.same (by simp)) (fun g' s=>L.rdb H2.lt s) (by simp)) ?_
  rintro u g3 ⟨s3,H3⟩
  simp only at s3 H3
  have e3:=old (e2.trans L.same) s3
  have l1':=li g3 e3 1 _ rfl
  refine Ok.eq ?_ (by simp -implicitDefEqProofs only [AF,l1',Option.bind_some,bldY];rfl)
  refine Ao (Nr ⟨t.y,false,0#64⟩ i.a H3) ?_
  rintro u2 g4 ⟨s4,H4⟩
  simp only at s4 H4
  exact Ah (v:=v) (g:=g4) rfl ⟨rfl,(((s2.trans L.same).sub (by simp)).trans s3).trans s4,by rw [bhS,if_neg hm,if_pos c1,htt];exact H4⟩
 by_cases c28:i.op=28∨i.op=29
 ·have go:Bh (.ptr (some (pm,0))) (.ptr (some (pi,0))) v g=(cl (Bt (.int .i64 i.b) g) fun t118 h298=>
    cl (A3 v (.int .i64 i.a) t118 h298) fun t119 h299=>
    chk [g,h298,h299] [(fun k=>ldS k (.ptr (some (pi,0+1))),.int .i64 i.a,0,1)] (
    (ldS h299 (.ptr (some (pi,0+3)))).bind fun t122=>
    mk Heap.new (bsP 1 [(AV.int .i64 0)] 1 [(0,t122)]) h299 fun t123 h300=>
    cl (Ar v t123 h300) fun t124 h301=>some (v,h301))):=by
   have hm28:mkB 28=false:=rfl
   have hm29:mkB 29=false:=rfl
   rcases c28 with c | c<;>simp -implicitDefEqProofs only [Bh,AF,Option.bind_some,l0,c,GK,hm28,hm29,AE,AB,AA,AK,Int.reduceEq,decide_true,decide_false,AY,AX,AL,AD,AH,AC,if_true,Bool.false_eq_true,if_false,Bp (f:=fun k=>ldS k (.ptr (some (pi,0+1)))) (h:=g) l1,AM,l2]
  refine Ok.eq ?_ go
  rw [NL,AE]
  refine Ao (K4 i.a (bitB i.b) H) ?_
  rintro u g3 ⟨s3,H3⟩
  simp only at s3 H3
  have e3:=old e s3
  have l3':=li g3 e3 3 _ rfl
  have L:=Lst.lit (Same.refl [] g3) [i.c]
  rw [I9 (Fg _ _) l1 l1]
  refine Ok.eq ?_ (by simp -implicitDefEqProofs only [l3',Option.bind_some,bs1,Af];rfl)
  refine Ao (Ia (H3.mono L.same (by simp)) (fun g' s=>L.rdb H3.lt s) (by simp)) ?_
  rintro u2 g4 ⟨s4,H4⟩
  simp only at s4 H4
  exact Ah (v:=v) (g:=g4) rfl ⟨rfl,(s3.trans (L.same.sub (by simp))).trans s4,by rw [bhS,if_neg hm,if_neg c1,if_pos c28];exact H4⟩
 have c28a : ¬ i.op=28:=fun h=>c28 (.inl h)
 have c28b : ¬ i.op=29:=fun h=>c28 (.inr h)
 by_cases c31:i.op=31∨i.op=32
 ·have go:Bh (.ptr (some (pm,0))) (.ptr (some (pi,0))) v g=(cl (A3 v (.int .i64 i.a) (w64 18446744073709551615#64) g) fun t119 h299=>
    (ldS h299 (.ptr (some (pi,0+3)))).bind fun t122=>
    mk Heap.new (bsP 1 [(AV.int .i64 0)] 1 [(0,t122)]) h299 fun t123 h300=>
    cl (Ar v t123 h300) fun t124 h301=>some (v,h301)):=by
   have hm31:mkB 31=false:=rfl
   have hm32:mkB 32=false:=rfl
   have hw:(AV.int .u64 18446744073709551615)=w64 18446744073709551615#64:=rfl
   rcases c31 with c | c<;>simp -implicitDefEqProofs only [Bh,AF,Option.bind_some,l0,c,GK,hm31,hm32,AE,AB,AA,AK,Int.reduceEq,decide_true,decide_false,AY,AX,AL,AD,AH,AC,if_true,Bool.false_eq_true,if_false,l1,hw]
  refine Ok.eq ?_ go
  refine Ao (K4 i.a _ H) ?_
  rintro u g3 ⟨s3,H3⟩
  simp only at s3 H3
  have e3:=old e s3
  have l3':=li g3 e3 3 _ rfl
  have L:=Lst.lit (Same.refl [] g3) [i.c]
  refine Ok.eq ?_ (by simp -implicitDefEqProofs only [l3',Option.bind_some,bs1,Af];rfl)
  refine Ao (Ia (H3.mono L.same (by simp)) (fun g' s=>L.rdb H3.lt s) (by simp)) ?_
  rintro u2 g4 ⟨s4,H4⟩
  simp only at s4 H4
  exact Ah (v:=v) (g:=g4) rfl ⟨rfl,(s3.trans (L.same.sub (by simp))).trans s4,by rw [bhS,if_neg hm,if_neg c1,if_neg c28,if_pos c31];exact H4⟩
 have c31a : ¬ i.op=31:=fun h=>c31 (.inl h)
 have c31b : ¬ i.op=32:=fun h=>c31 (.inr h)
 have ht:=QY i.op g
 have eB:bhS m i l=bhJ2 m i (if lendB i.op=true then lendS l (readsL m i) else l):=by rw [bhS,if_neg hm,if_neg c1,if_neg c28,if_neg c31]
 rw [eB]
 cases t:lendB i.op with
 | true=>
  rw [t] at ht
  rw [if_pos rfl]
  refine Ok.eq ?_ (by simp -implicitDefEqProofs only [Bh,AF,Option.bind_some,l0,c1,c28a,c28b,c31a,c31b,GK,hm',AE,AB,AA,AK,decide_false,AX,AH,AC,Bool.false_eq_true,if_false,ht,Bg.la,la g e];rfl)
  refine Ao (Lx Bg.rd i hw hc) ?_
  intro v2 g2 L2
  simp only at L2
  refine Ao (Ia (H.mono L2.same (by simp)) (fun g' s=>L2.rdb hbl s) (by have:=JB (m:=m) (i:=i) hc;omega)) ?_
  rintro u g3 ⟨s3,H3⟩
  simp only at s3 H3
  refine(SY B gi hpi hb hw hc (old (e.trans L2.same) s3) H3).mono ?_
  rintro r ⟨r1,s4,H4⟩
  exact⟨r1,((L2.same.sub (by simp)).trans s3).trans s4,H4⟩
 | false=>
  rw [t] at ht
  rw [if_neg (by simp)]
  refine((SY B gi hpi hb hw hc e H).mono ?_).eq (by simp -implicitDefEqProofs only [Bh,AF,Option.bind_some,l0,c1,c28a,c28b,c31a,c31b,GK,hm',AE,AA,AK,decide_false,AX,AH,AC,Bool.false_eq_true,if_false,ht])
  rintro r ⟨r1,s4,H4⟩
  exact⟨r1,s4,H4⟩
end
set_option linter.unusedSimpArgs false
attribute [local congr] BI D1 Dy D2 Bu D3 Dz Aw Av
instance:DecidableEq St:=fun s t=>decidable_of_iff (s.y=t.y∧s.o=t.o∧s.w=t.w) ⟨fun h=>by cases s;cases t;simp only at h;obtain⟨rfl,rfl,rfl⟩:=h;rfl,fun h=>by rw [h];exact⟨rfl,rfl,rfl⟩⟩
theorem eqSt (s t:St):eqP (some (.struct #[])) (some [(0,.bool),(1,.bool),(2,(.int .u64))]) false .neq (.agg s.row) (.agg t.row)=some (.bool (!decide (s=t))):=by
 obtain⟨y,o,w⟩:=s
 obtain⟨y',o',w'⟩:=t
 have e:eqP (some (.struct #[])) (some [(0,.bool),(1,.bool),(2,(.int .u64))]) false .neq (.agg (St.row ⟨y,o,w⟩)) (.agg (St.row ⟨y',o',w'⟩))=(eqFs [(0,.bool),(1,.bool),(2,(.int .u64))] (St.row ⟨y,o,w⟩) (St.row ⟨y',o',w'⟩)).map fun b=>.bool !b:=rfl
 rw [e]
 by_cases h:(⟨y,o,w⟩:St)=⟨y',o',w'⟩
 ·rw [decide_eq_true h,h]
  have:eqFs [(0,.bool),(1,.bool),(2,(.int .u64))] (St.row ⟨y',o',w'⟩) (St.row ⟨y',o',w'⟩)=some true:=by
   simp [eqFs,St.row,eqT,w64]
  rw [this];rfl
 ·rw [decide_eq_false h]
  have hw:y=y'→o=o'→¬ w=w':=fun h1 h2 h3=>h (by rw [h1,h2,h3])
  have:eqFs [(0,.bool),(1,.bool),(2,(.int .u64))] (St.row ⟨y,o,w⟩) (St.row ⟨y',o',w'⟩)=some false:=by
   simp only [eqFs,St.row,eqT,w64,List.getElem?_cons_zero,List.getElem?_cons_succ]
   have hn:w≠w'→¬ (w.toNat:Int)=(w'.toNat:Int):=fun h h'=>h (BitVec.eq_of_toNat_eq (by omega))
   revert hw
   cases y<;>cases y'<;>cases o<;>cases o'<;>simp<;>intro h1<;>have:=hn h1<;>omega
  rw [this];rfl
theorem JX {l:List St}{k:Nat}(h:k<l.length):l[k]?=some (l.getD k dS):=by
 rw [List.getD_eq_getElem?_getD,List.getElem?_eq_getElem h];rfl
theorem MJ {a c:List St}(hl:a.length=c.length)(h:∀ k,k<a.length→a.getD k dS=c.getD k dS):a=c:=by
 apply List.ext_getElem? 
 intro k
 by_cases hk:k<a.length
 ·rw [JX hk,JX (by omega),h k hk]
 ·rw [List.getElem?_eq_none (by omega),List.getElem?_eq_none (by omega)]
theorem QG {g:Heap}{b1 b2:Nat}{v1 v2:AV}{a c:List St}(A:Ste g b1 v1 a)(C:Ste g b2 v2 c)(hl:a.length=c.length)(h64:a.length≤64) :
  Ok (BL v1 v2 g) fun r=>r.2=g∧r.1 = .bool (decide (a=c)):=by
 have la:=A.lnL
 have lc:=C.lnL
 rw [← hl] at lc
 refine Ok.eq ?_ (by simp -implicitDefEqProofs only [BL,la,lc,Option.bind_some,AU,decide_true,Bool.not_true,AA];rfl)
 refine CJ (P:=fun r=>r.2.2=g∧((r.1 = .exit 0∧a=c)∨(r.1 = .ret∧r.2.1.getD 0 .bot = .bool false∧¬ a=c))) ?_ ?_
 ·refine BF (fun m us g'=>∃ i:Nat,us = [.bool false,.int .i64 (i:Nat)]∧m+i=a.length∧g'=g∧∀ k,k<i→a.getD k dS=c.getD k dS) ?_ (n:=a.length) (by omega) ⟨0,rfl,rfl,rfl,fun k h=>by omega⟩
  rintro m us g' ⟨i,rfl,hm,rfl,hal⟩
  rw [gD0,gD1]
  by_cases hi:i<a.length
  ·have hi':(i:Int)<a.length:=by omega
   obtain⟨s,hs⟩:∃ s,a[i]?=some s:=⟨_,List.getElem?_eq_getElem hi⟩
   obtain⟨t,ht⟩:∃ t,c[i]?=some t:=⟨_,List.getElem?_eq_getElem (by omega)⟩
   have i1:=A.ix (n:=(i:Int)) (by omega) hi'
   have i2:=C.ix (n:=(i:Int)) (by omega) (by omega)
   rw [Int.toNat_natCast] at i1 i2
   have hq:=eqSt s t
   by_cases e:s=t
   ·rw [decide_eq_true e] at hq
    refine(Ok.of (r:=(.normal,[.bool false,.int .i64 ((i+1:Nat):Int)],g')) (.inl ⟨rfl,m - 1,by omega,i+1,rfl,by omega,rfl,fun k hk=>?_⟩)).eq (by
     simp -implicitDefEqProofs only [BS,AG,hi',decide_true,Option.bind_some,AB,AA,i1,i2,A.la hs,C.la ht,hq,Bool.not_true,AW,Ap,suc64 i (by omega)])
    rcases (by omega:k<i∨k=i) with h | rfl
    ·exact hal k h
    ·rw [getS hs,getS ht,e]
   ·rw [decide_eq_false e] at hq
    exact(Ok.of (r:=(.ret,[.bool false,.int .i64 (i:Nat)],g')) (.inr ⟨by simp,rfl,.inr ⟨rfl,rfl,fun h=>e (by rw [h,ht] at hs;exact(Option.some.inj hs).symm)⟩⟩)).eq (by
     simp -implicitDefEqProofs only [BS,AG,hi',decide_true,Option.bind_some,AB,i1,i2,A.la hs,C.la ht,hq,Bool.not_false,AW])
  ·have hi' : ¬ (i:Int)<a.length:=by omega
   exact(Ok.of (r:=(.exit 0,[.bool false,.int .i64 (i:Nat)],g')) (.inr ⟨by simp,rfl,.inl ⟨rfl,MJ hl fun k hk=>hal k (by omega)⟩⟩)).eq (by
    simp -implicitDefEqProofs only [BS,AG,hi',decide_false,Option.bind_some,AA])
 ·rintro e us g' ⟨hg,h⟩
  simp only at hg h
  subst hg
  rcases h with⟨rfl,h3⟩ | ⟨rfl,h2,h3⟩
  ·exact Ah (v:=.bool true) (g:=g') (by simp -implicitDefEqProofs only [if_true,Al]) ⟨rfl,by rw [decide_eq_true h3]⟩
  ·exact Ah (v:=.bool false) (g:=g') (by simp -implicitDefEqProofs only [reduceCtorEq,if_false,h2];rfl) ⟨rfl,by rw [decide_eq_false h3]⟩
def meetS (p q:St):St:=⟨p.y && q.y,p.o && q.o,p.w ||| q.w⟩
structure Mt (l a c:List St):Prop where
 len:l.length=a.length
 at_:∀ k,k<a.length→l.getD k dS=meetS (a.getD k dS) (c.getD k dS)
theorem Qv {g:Heap}{b1 b2:Nat}{v1 v2:AV}{a c:List St}(A:Ste g b1 v1 a)(C:Ste g b2 v2 c)(hl:a.length=c.length)(h64:a.length≤64) :
  Ok (FS v1 v2 g) fun r=>Same [] g r.2∧∃ b l,g.next≤b∧Ste r.2 b r.1 l∧Mt l a c:=by
 refine Ok.eq ?_ (by simp -implicitDefEqProofs only [FS];rfl)
 refine Ao (Jz A h64) ?_
 rintro v g1 ⟨b,hb,s1,H⟩
 simp only at s1 H
 have hb1:=A.lt
 have hb2:=C.lt
 refine Ok.eq ?_ (by simp -implicitDefEqProofs only [H.lnL,Option.bind_some];rfl)
 refine CJ (P:=fun r=>r.1 = .exit 0∧Same [] g r.2.2∧∃ l,Ste r.2.2 b v l∧Mt l a c) ?_ ?_
 ·refine BF (fun m us g'=>∃ i:Nat,us = [.int .i64 (i:Nat)]∧m+i=a.length∧Same [] g g'∧∃ l,Ste g' b v l∧l.length=a.length∧∀ k,l.getD k dS=if k<i then meetS (a.getD k dS) (c.getD k dS) else a.getD k dS) ?_ (n:=a.length) (by omega) ⟨0,rfl,rfl,s1,a,H,rfl,fun k=>by rw [if_neg (by omega)]⟩
  rintro m us g' ⟨i,rfl,hm,s,l,H',hll,hk⟩
  rw [gD0]
  by_cases hi:i<a.length
  ·have hi':(i:Int)<a.length:=by omega
   have A':=A.mono s (by simp)
   have C':=C.mono s (by simp)
   obtain⟨p,hp⟩:∃ p,a[i]?=some p:=⟨_,List.getElem?_eq_getElem hi⟩
   obtain⟨q,hq⟩:∃ q,c[i]?=some q:=⟨_,List.getElem?_eq_getElem (by omega)⟩
   obtain⟨t,ht⟩:∃ t,l[i]?=some t:=⟨_,List.getElem?_eq_getElem (by omega)⟩
   have i1:=A'.ix (n:=(i:Int)) (by omega) hi'
   have i2:=C'.ix (n:=(i:Int)) (by omega) (by omega)
   have i3:=H'.ix (n:=(i:Int)) (by omega) (by omega)
   rw [Int.toNat_natCast] at i1 i2 i3
   have a0:ldS g' (.ptr (some (b1,i * 3+0)))=some (.bool p.y):=A'.ld hp (by omega)
   have a1:ldS g' (.ptr (some (b1,i * 3+1)))=some (.bool p.o):=A'.ld hp (by omega)
   have a2:ldS g' (.ptr (some (b1,i * 3+2)))=some (w64 p.w):=A'.ld hp (by omega)
   have c0:ldS g' (.ptr (some (b2,i * 3+0)))=some (.bool q.y):=C'.ld hq (by omega)
   have c1:ldS g' (.ptr (some (b2,i * 3+1)))=some (.bool q.o):=C'.ld hq (by omega)
   have c2:ldS g' (.ptr (some (b2,i * 3+2)))=some (w64 q.w):=C'.ld hq (by omega)
   have eb:bldS [(0,1),(1,1),(2,1)] [(AV.bool false),(AV.bool false),(AV.int .u64 0)] [(0,AV.bool (p.y && q.y)),(1,AV.bool (p.o && q.o)),(2,w64 (p.w ||| q.w))]=some (.agg (meetS p q).row):=rfl
   obtain⟨e1,H2⟩:=H'.sa (meetS p q) ht
   have go:E1 v1 v2 v (.int .i64 a.length) (.int .i64 (i:Nat)) g'=some (.normal,[.int .i64 ((i+1:Nat):Int)],g'.put b (some (.cells true (flS (l.set i (meetS p q)))))):=by
    cases hy:p.y<;>cases ho:p.o<;>rw [hy] at a0<;>rw [ho] at a1<;>rw [hy,ho] at eb<;>simp only [Bool.true_and,Bool.false_and] at eb<;>simp -implicitDefEqProofs only [E1,AG,hi',decide_true,Option.bind_some,AB,i1,i2,i3,AF,a0,a1,a2,c0,c1,c2,AZ,Ac,Ad,AQ,AC,if_true,Bool.false_eq_true,if_false,P3,eb,e1,AE,AW,Ap,suc64 i (by omega)]
   rw [go]
   refine Ok.of (.inl ⟨rfl,m - 1,by omega,i+1,rfl,by omega,s.old (Same.put _ _ _) (fun j hj=>.inr (by simp at hj;omega)),_,H2,by rw [List.length_set];exact hll,fun k=>?_⟩)
   rw [Nt (by omega)]
   by_cases e:k=i
   ·subst e
    rw [if_pos rfl,if_pos (by omega),getS hp,getS hq]
   ·rw [if_neg e,hk k]
    by_cases h1:k<i
    ·rw [if_pos h1,if_pos (by omega)]
    ·rw [if_neg h1,if_neg (by omega)]
  ·have hi' : ¬ (i:Int)<a.length:=by omega
   exact(Ok.of (r:=(.exit 0,[.int .i64 (i:Nat)],g')) (.inr ⟨by simp,rfl,s,l,H',hll,fun k hk'=>by rw [hk k,if_pos (by omega)]⟩)).eq (by
    simp -implicitDefEqProofs only [E1,AG,hi',decide_false,Option.bind_some,AA])
 ·rintro _ us g' ⟨rfl,s,l,H',hM⟩
  simp only at s H'
  exact Ah (v:=v) (g:=g') (by simp -implicitDefEqProofs only [if_true,Al]) ⟨s,b,l,hb,H',hM⟩
def behS (m:Md)(i:Ins)(l:List St):List St:=bhS m i (if ptB i.op=true then clrS l else l)
theorem Qb (m:Md)(i:Ins)(l:List St):(behS m i l).length=l.length:=by
 rw [behS,RS];split
 ·simp [clrS]
 ·rfl
theorem PN {h:Heap}{vm v0:AV}{b0:Nat}{m:Md}{i:Ins}{l:List St}(M:MdRd h vm m)(hw:i.wf)(hc:m.cases.length≤60)(S:Ste h b0 v0 l)(hl:l.length≤64) :
  Ok (Eb vm (.agg i.row) v0 h) fun r=>Same [] h r.2∧∃ b,h.next≤b∧Ste r.2 b r.1 (behS m i l):=by
 obtain⟨sv,gv,kv,cv,fv,rfl,hbx,B⟩:=M.box
 have hbi:=GL (Ins.sc i)
 have s0:Same [] h (h.new (.cells true [sv,gv,kv,cv,fv,.int .i64 m.main])):=Same.new _ _
 generalize hg:h.new (.cells true [sv,gv,kv,cv,fv,.int .i64 m.main])=g at *
 have s1:Same [] g (g.new (.cells true i.row)):=Same.new _ _
 have B1:=B.mono s1
 have gn:(g.new (.cells true i.row)).get g.next=some (.cells true i.row):=Am
 have hn1:(g.new (.cells true i.row)).next=g.next+1:=rfl
 generalize hg1:g.new (.cells true i.row)=g1 at *
 have sh:=s0.trans s1
 refine Ok.eq ?_ (by simp -implicitDefEqProofs only [Eb,hbx,hbi,Af,hg,hg1];rfl)
 refine Ao (Jz (S.mono sh (by simp)) hl) ?_
 rintro v g2 ⟨b,hb,s2,H⟩
 simp only at s2 H
 have l0:ldS g2 (.ptr (some (g.next,0+0)))=some (.int .i64 i.op):=by rw [Ai (w:=true) (vs:=i.row) (by rw [s2.get _ (by omega) (by simp)];exact gn)];rfl
 have hnx:=sh.next
 by_cases hp:ptB i.op=true
 ·refine Ok.eq ?_ (by simp -implicitDefEqProofs only [AF,l0,Option.bind_some,Nv,hp,AE,AB,H.lnL];rfl)
  refine CJ (QW H hl) ?_
  rintro _ us g3 ⟨rfl,s3,H3⟩
  simp only at s3 H3
  have e3:Same [] g1 g3:=s2.old s3 (fun j hj=>.inr (by simp at hj;omega))
  refine Ok.eq ?_ (by simp -implicitDefEqProofs only [if_true,Al];rfl)
  have T:=Sf B1 gn (by omega) hb hw hc e3 H3
  refine Ok.mono (P:=fun r=>r.1=v∧Same [b] g3 r.2∧Ste r.2 b v (bhS m i (clrS l))) ?_ ?_
  ·exact T
  rintro⟨r1,r2⟩ ⟨rfl,s4,H4⟩
  exact⟨(sh.trans e3).old s4 (fun j hj=>.inr (by simp at hj;omega)),b,by omega,by rw [behS,if_pos hp];exact H4⟩
 ·have hp':ptB i.op=false:=by simpa using hp
  refine Ok.eq ?_ (by simp -implicitDefEqProofs only [AF,l0,Option.bind_some,Nv,hp',AE,AA];rfl)
  refine(Sf B1 gn (by omega) hb hw hc s2 H).mono ?_
  rintro⟨r1,r2⟩ ⟨rfl,s3,H3⟩
  exact⟨(sh.trans s2).old s3 (fun j hj=>.inr (by simp at hj;omega)),b,by omega,by rw [behS,if_neg hp];exact H3⟩
end Go.Ab.F
