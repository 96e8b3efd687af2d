import Derived.Test.YtdmgkkcjnmmfmaaGreatKit
import Derived.Test.YtdmgkkcjnmmfmaaGreatVkc
namespace Go.Ab.F
open Go Go.Ab
set_option linter.all false
def numB (u:Nat):List Nat:=if u≤127 then [u] else(u % 128+128)::numB (u / 128)
termination_by u
decreasing_by omega
def takeB:Nat→Nat→List Nat→Option (Nat × Nat)
 | _,_,[]=>none
 | i,a,x::bs=>
  if i=9∧1<x then none
  else if x < 128 then(if x=0∧0<i then none else some (a+x % 128 * 128 ^ i,i+1))
  else takeB (i+1) (a+x % 128 * 128 ^ i) bs
theorem Fl {u:Nat}(h:u≤127):numB u = [u]:=by rw [numB,if_pos h]
theorem Jx {u:Nat}(h : ¬ u≤127):numB u=(u % 128+128)::numB (u / 128):=by rw [numB,if_neg h]
theorem MY:∀ (n u:Nat),u≤n→∀ x∈numB u,x < 256
 | 0,u,hu,x,hx=>by
  rw [Fl (by omega)] at hx
  simp at hx;omega
 | n+1,u,hu,x,hx=>by
  by_cases h:u≤127
  ·rw [Fl h] at hx
   simp at hx;omega
  ·rw [Jx h,List.mem_cons] at hx
   rcases hx with rfl | hx
   ·omega
   ·exact MY n (u / 128) (by omega) x hx
theorem Ny (rest:List Nat):∀ (n u i a:Nat),u≤n→u * 128 ^ i < 2 ^ 64→(0<i→0<u)→takeB i a (numB u++rest)=some (a+u * 128 ^ i,i+(numB u).length)
 | n,u,i,a,hn,hu,h0=>by
  by_cases h:u≤127
  ·rw [Fl h]
   show takeB i a (u::rest)=_
   have h9 : ¬ (i=9∧1<u):=by
    rintro⟨rfl,h1⟩
    have:2 * 128 ^ 9≤u * 128 ^ 9:=Nat.mul_le_mul_right _ h1
    have:(2:Nat) * 128 ^ 9=2 ^ 64:=by decide
    omega
   have hz : ¬ (u=0∧0<i):=by
    rintro⟨rfl,h1⟩
    exact absurd (h0 h1) (by omega)
   rw [takeB,if_neg h9,if_pos (by omega),if_neg hz,Nat.mod_eq_of_lt (by omega)];rfl
  ·rw [Jx h]
   show takeB i a ((u % 128+128)::(numB (u / 128)++rest))=_
   have hi:i < 9:=by
    rcases Nat.lt_or_ge i 9 with h9 | h9
    ·exact h9
    ·exfalso
     have h1:128 ^ 9≤128 ^ i:=Nat.pow_le_pow_right (by decide) h9
     have h2:128 * 128 ^ 9≤u * 128 ^ i:=Nat.mul_le_mul (by omega) h1
     have h3:(2:Nat) ^ 64≤128 * 128 ^ 9:=by decide
     omega
   have e1:u / 128 * 128 ^ (i+1)+u % 128 * 128 ^ i=u * 128 ^ i:=by
    rw [Nat.pow_succ,Nat.mul_comm (128 ^ i) 128,← Nat.mul_assoc,← Nat.add_mul]
    congr 1
    omega
   cases n with
   | zero=>omega
   | succ n=>
    have ih:=Ny rest n (u / 128) (i+1) (a+(u % 128+128) % 128 * 128 ^ i) (by omega) (by omega) (by omega)
    rw [takeB,if_neg (by omega),if_neg (by omega),ih,Nat.add_mod_right,Nat.mod_mod,List.length_cons]
    congr 2
    ·omega
    ·omega
theorem Pj {u:Nat}(h:u < 2 ^ 64)(rest:List Nat):takeB 0 0 (numB u++rest)=some (u,(numB u).length):=by
 have:=Ny rest u u 0 0 (Nat.le_refl _) (by simpa using h) (by omega)
 simpa using this
def zigN (v:Int):Nat:=if 0≤v then(2*v).toNat else(-2*v - 1).toNat
def zagI (u:Nat):Int:=if u % 2=0 then(u / 2:Nat) else -((u / 2:Nat):Int) - 1
theorem Ob (v:Int):zagI (zigN v)=v:=by
 unfold zagI zigN
 split<;>split<;>omega
theorem LG {v:Int}(h1 : -9223372036854775808≤v)(h2:v≤9223372036854775807):zigN v < 2 ^ 64:=by
 unfold zigN
 split<;>omega
end Go.Ab.F
namespace Go.Ab.F
open Go Go.Ab
set_option linter.all false
attribute [local congr] BI D1 Dy D2 Bu D3 Dz Aw Av
theorem P6 {v:Int}(h1 : -9223372036854775808≤v)(h2:v≤9223372036854775807) :
  ((binP .shl (.int .i64 v) (.int .u64 1)).bind fun t4=>(cvI .u64 t4).bind fun t5=>(binP .shr (.int .i64 v) (.int .u64 63)).bind fun t7=>(cvI .u64 t7).bind fun t8=>binP .xor t5 t8)=some (.int .u64 (zigN v)):=by
 have e1:binP .shl (.int .i64 v) (.int .u64 1)=some (.int .i64 (IntKind.i64.wrap (v * 2 ^ 1))):=rfl
 have e2:binP .shr (.int .i64 v) (.int .u64 63)=some (.int .i64 (v.fdiv (2 ^ 63))):=rfl
 have e3:∀ n:Int,cvI .u64 (.int .i64 n)=some (.int .u64 (IntKind.u64.wrap n)):=fun n=>rfl
 rw [e1,Option.bind_some,e3,Option.bind_some,e2,Option.bind_some,e3,Option.bind_some,Rq]
 have ef:v.fdiv (2 ^ 63)=if 0≤v then 0 else -1:=by
  rw [Int.fdiv_eq_ediv_of_nonneg _ (by decide)]
  split<;>omega
 have w1:IntKind.u64.wrap (IntKind.i64.wrap (v * 2 ^ 1))=(2*v) % 18446744073709551616:=by
  simp [IntKind.wrap,IntKind.bits,IntKind.signed]
  split<;>omega
 rw [w1,ef]
 congr 2
 by_cases h:0≤v
 ·rw [if_pos h]
  have w0:IntKind.u64.wrap 0=0:=by decide
  rw [w0]
  have:BitVec.ofInt 64 0=0#64:=by decide
  rw [this,BitVec.xor_zero,BitVec.toNat_ofInt]
  unfold zigN
  rw [if_pos h]
  omega
 ·rw [if_neg h]
  have wm:BitVec.ofInt 64 (IntKind.u64.wrap (-1))=BitVec.allOnes 64:=by decide
  rw [wm,BitVec.xor_allOnes,BitVec.toNat_not,BitVec.toNat_ofInt]
  unfold zigN
  rw [if_neg h]
  omega
theorem Qh {u:Nat}(h:u < 2 ^ 64) :
  ((binP .shr (.int .u64 (u:Int)) (.int .u64 1)).bind fun t4=>(cvI .i64 t4).bind fun t5=>(binP .and (.int .u64 (u:Int)) (.int .u64 1)).bind fun t7=>(cvI .i64 t7).bind fun t8=>(unA .neg t8).bind fun t9=>binP .xor t5 t9)=some (.int .i64 (zagI u)):=by
 have e2:binP .shr (.int .u64 (u:Int)) (.int .u64 1)=some (.int .u64 ((u:Int).fdiv (2 ^ 1))):=rfl
 have e3:∀ n:Int,cvI .i64 (.int .u64 n)=some (.int .i64 (IntKind.i64.wrap n)):=fun n=>rfl
 have e4:∀ n:Int,unA .neg (.int .i64 n)=some (.int .i64 (IntKind.i64.wrap (0-n))):=fun n=>rfl
 have ef:(u:Int).fdiv (2 ^ 1)=((u / 2:Nat):Int):=by
  rw [Int.fdiv_eq_ediv_of_nonneg _ (by decide)];omega
 have ea:(BitVec.ofInt 64 (u:Int) &&& BitVec.ofInt 64 1).toNat=u % 2:=by
  rw [BitVec.toNat_and,BitVec.toNat_ofInt,BitVec.toNat_ofInt]
  have:((1:Int) % (2 ^ 64:Nat)).toNat=1:=by decide
  rw [this,Nat.and_one_is_mod];omega
 have wu:IntKind.i64.wrap ((u / 2:Nat):Int)=((u / 2:Nat):Int):=B9 (by omega) (by omega)
 have wm:IntKind.i64.wrap ((u % 2:Nat):Int)=((u % 2:Nat):Int):=B9 (by omega) (by omega)
 have ex:∀ a b:Int,binP .xor (.int .i64 a) (.int .i64 b)=some (.int .i64 (IntKind.i64.wrap (BitVec.ofInt 64 a ^^^ BitVec.ofInt 64 b).toNat)):=fun a b=>by
  rw [Eg _ (by decide) (by decide)];rfl
 rw [e2,Option.bind_some,ef,e3,Option.bind_some,wu,Lq,Option.bind_some,ea,e3,Option.bind_some,wm,e4,Option.bind_some,ex]
 congr 2
 rcases (by omega:u % 2=0∨u % 2=1) with h2 | h2
 ·rw [h2]
  have w0:BitVec.ofInt 64 (IntKind.i64.wrap (0-((0:Nat):Int)))=0#64:=by decide
  rw [w0,BitVec.xor_zero,BitVec.toNat_ofInt]
  unfold zagI
  rw [if_pos h2,show((((u / 2:Nat):Int) % ((2 ^ 64:Nat):Int)).toNat:Int)=((u / 2:Nat):Int) by omega]
  exact wu
 ·rw [h2]
  have w0:BitVec.ofInt 64 (IntKind.i64.wrap (0-((1:Nat):Int)))=BitVec.allOnes 64:=by decide
  rw [w0,BitVec.xor_allOnes,BitVec.toNat_not,BitVec.toNat_ofInt]
  unfold zagI
  rw [if_neg (by omega)]
  simp [IntKind.wrap,IntKind.bits,IntKind.signed]
  split<;>omega
end Go.Ab.F
namespace Go.Ab.F
open Go Go.Ab
set_option linter.all false
set_option linter.all false
attribute [local congr] BI D1 Dy D2 Bu D3 Dz Aw Av
theorem Iv (u:Nat)(h:u < 2 ^ 64):(BitVec.ofInt 64 (u:Int)).toNat=u:=by
 rw [BitVec.toNat_ofInt];omega
theorem Sv {u:Nat}(h:u < 2 ^ 64):binP .and (.int .u64 (u:Int)) (.int .u64 127)=some (.int .u64 ((u % 128:Nat):Int)):=by
 rw [Lq]
 congr 2
 rw [BitVec.toNat_and,Iv u h,show(BitVec.ofInt 64 127).toNat=2 ^ 7 - 1 from by decide,Nat.and_two_pow_sub_one_eq_mod]
theorem TX {x:Nat}(h:x < 128):binP .or (.int .u64 (x:Int)) (.int .u64 128)=some (.int .u64 ((x+128:Nat):Int)):=by
 rw [PL]
 congr 2
 rw [BitVec.toNat_or,Iv x (by omega),show(BitVec.ofInt 64 128).toNat=2 ^ 7 * 1 from by decide]
 have:=Nat.two_pow_add_eq_or_of_lt (i:=7) h 1
 rw [Nat.or_comm,← this]
 omega
theorem Sz (u:Nat):binP .shr (.int .u64 (u:Int)) (.int .u64 7)=some (.int .u64 ((u / 128:Nat):Int)):=by
 have e2:binP .shr (.int .u64 (u:Int)) (.int .u64 7)=some (.int .u64 ((u:Int).fdiv (2 ^ 7))):=rfl
 rw [e2,Int.fdiv_eq_ediv_of_nonneg _ (by decide)]
 congr 2
theorem TT {x:Nat}(h:x < 256):cvI .u8 (.int .u64 (x:Int))=some (.int .u8 (x:Int)):=by
 have e:cvI .u8 (.int .u64 (x:Int))=some (.int .u8 (IntKind.u8.wrap (x:Int))):=rfl
 rw [e]
 congr 2
 simp [IntKind.wrap,IntKind.bits,IntKind.signed]
 omega
def byB (l:List Nat):List AV:=l.map fun(x:Nat)=>.int .u8 (x:Int)
theorem SB (l:List Nat):(byB l).all scalar=true:=by simp [byB,scalar]
theorem PD (l:List Nat):(byB l).length=l.length:=by simp [byB]
structure Wri (h g:Heap)(p b:Nat)(l:List Nat):Prop where
 at_:∃ c,g.get p=some (.cells true [.sl (some (b,0)) l.length c])∧(c = .un 1∨c = .ex l.length)
 blk:g.get b=some (.cells true (byB l))
 pos:0<l.length
 newb:h.next≤b
 newp:h.next≤p
 ne:b≠p
 ltb:b<g.next
 ltp:p<g.next
 same:Same [] h g
theorem Wri.keep {h g g':Heap}{p b:Nat}{l:List Nat}(H:Wri h g p b l)(s:Same [] g g'):Wri h g' p b l:=by
 obtain⟨c,h1,h2⟩:=H.at_
 exact⟨⟨c,(s.get p H.ltp (by simp)).trans h1,h2⟩,(s.get b H.ltb (by simp)).trans H.blk,H.pos,H.newb,H.newp,H.ne,Nat.lt_of_lt_of_le H.ltb s.next,Nat.lt_of_lt_of_le H.ltp s.next,H.same.trans s⟩
structure WS (g g':Heap)(p b b':Nat):Prop where
 same:Same [p,b] g g'
 new:b'=b∨g.next≤b'
theorem WS.refl (g:Heap)(p b:Nat):WS g g p b b:=⟨Same.refl _ _,.inl rfl⟩
theorem WS.trans {g g' g'':Heap}{p b b' b'':Nat}(h1:WS g g' p b b')(h2:WS g' g'' p b' b''):WS g g'' p b b'':=by
 refine⟨h1.same.old h2.same fun j hj=>?_,?_⟩
 ·simp only [List.mem_cons,List.not_mem_nil,or_false] at hj ⊢
  rcases hj with rfl | rfl
  ·exact .inl (.inl rfl)
  ·rcases h1.new with rfl | h
   ·exact .inl (.inr rfl)
   ·exact .inr h
 ·have:=h1.same.next
  rcases h2.new with rfl | h
  ·exact h1.new
  ·exact .inr (by omega)
theorem WS.keep {g g' g'':Heap}{p b b':Nat}(h1:WS g g' p b b')(s:Same [] g' g''):WS g g'' p b b':=⟨h1.same.trans (s.sub (by simp)),h1.new⟩
theorem WS.pre {g g' g'':Heap}{p b b':Nat}(s:Same [] g g')(h1:WS g' g'' p b b'):WS g g'' p b b':=⟨(s.sub (by simp)).trans h1.same,by have:=s.next;rcases h1.new with h | h<;>omega⟩
theorem S7 {g:Heap}{b n:Nat}{c:Cap}{cs:List AV}{x:AV}(hb:g.get b=some (.cells true cs))(hlt:b<g.next)(hn:cs.length=n)(hc:c = .un 1∨c = .ex n)(hsc:cs.all scalar=true)(hx:scalar x=true)(hl:(n+1) * 1≤2 ^ 47) :
  ∃ g',appendA (g.new (.cells true [x])) 1 1 (.sl (some (b,0)) n c) (.sl (some (g.next,0)) 1 (.ex 1))=some (.sl (some (g.next+1,0)) (n+1) (.un 1),g')∧Same [b] g g'∧g'.get (g.next+1)=some (.cells true (cs ++ [x]))∧g'.next=g.next+2:=by
 have hld:loadN (g.new (.cells true [x])) (g.next,0) (1 * 1)=some [x]:=by simp only [loadN,Am,Cc];rfl
 have hgb:(g.new (.cells true [x])).get b=some (.cells true cs):=by rw [FK (by omega)];exact hb
 have hall:(cs ++ [x]).all scalar=true:=by rw [List.all_append,hsc];simp [hx]
 rcases hc with rfl | rfl
 ·refine⟨((g.new (.cells true [x])).put b none).new (.cells true (cs ++ [x])),?_,?_,?_,rfl⟩
  ·simp only [appendA,countA,addedA,hld,Option.bind_some,ne_eq,not_true_eq_false,if_false,hgb]
   rw [if_neg (by omega),if_pos hl,if_neg (by omega),if_pos (by omega)]
   simp only [List.all_cons,List.all_nil,hx,Bool.and_true,if_true,List.drop_zero,Heap.next_new]
  ·exact((Same.new _ _).sub (by simp)).trans ((Same.put _ _ _).trans ((Same.new _ _).sub (by simp)))
  ·have:=Am (h:=(g.new (.cells true [x])).put b none) (b:=.cells true (cs ++ [x]));exact this
 ·have hld2:loadN (g.new (.cells true [x])) (b,0) (n * 1)=some cs:=by
   simp only [loadN,hgb,Cc]
   rw [Bi _ _ _ (by omega),List.drop_zero,List.take_of_length_le (by omega)]
  refine⟨(g.new (.cells true [x])).new (.cells true (cs ++ [x])),?_,((Same.new _ _).trans (Same.new _ _)).sub (by simp),?_,rfl⟩
  ·simp only [appendA,countA,addedA,hld,Option.bind_some]
   rw [if_neg (by omega),if_pos hl,hld2,Option.bind_some,if_pos hall];rfl
  ·have:=Am (h:=g.new (.cells true [x])) (b:=.cells true (cs ++ [x]));exact this
theorem Pp {R:Type}{h g:Heap}{p b:Nat}{l:List Nat}(H:Wri h g p b l){x:Nat}(hl:l.length≤2 ^ 40){K:AV→Heap→Option R}{Q:R→Prop}(hk:∀ u g' b',Wri h g' p b' (l ++ [x])→WS g g' p b b'→Ok (K u g') Q) :
  Ok ((nilV (.ptr (some (p,0)))).bind fun t10=>(faP 0 t10).bind fun t11=>(ldS g t11).bind fun t12=>mk Heap.new (bsP 1 [(AV.int .u8 0)] 1 [(0,.int .u8 (x:Int))]) g fun t17 h1=>cl (appendA h1 1 1 t12 t17) fun t18 h2=>
   (nilV (.ptr (some (p,0)))).bind fun t19=>(faP 0 t19).bind fun t20=>cl (stP 1 h2 t20 t18) K) Q:=by
 obtain⟨c,h1,h2⟩:=H.at_
 have lv:ldS g (.ptr (some (p,0)))=some (.sl (some (b,0)) l.length c):=by rw [Ai h1];rfl
 obtain⟨g1,e1,s1,b1,n1⟩:=S7 (x:=.int .u8 (x:Int)) H.blk H.ltb (PD l) h2 (SB l) rfl (by omega)
 have hbs:bsP 1 [(AV.int .u8 0)] 1 [(0,.int .u8 (x:Int))]=some (.cells true [.int .u8 (x:Int)],fun i=>.sl (some (i,0)) 1 (.ex 1)):=rfl
 have hp1:=(s1.get p H.ltp (by simpa using H.ne.symm)).trans h1
 have hltp:=H.ltp;have hltb:=H.ltb
 obtain⟨g2,hg2⟩:∃ g2,g2=g1.put p (some (.cells true [.sl (some (g.next+1,0)) (l.length+1) (.un 1)])):=⟨_,rfl⟩
 have st:stP 1 g1 (.ptr (some (p,0))) (.sl (some (g.next+1,0)) (l.length+1) (.un 1))=some (.bot,g2):=by rw [Cl hp1 (o:=0) (by simp) rfl,hg2];rfl
 have s2:Same [p] g1 g2:=by rw [hg2];exact Same.put _ _ _
 have eb:byB (l ++ [x])=byB l ++ [.int .u8 (x:Int)]:=by simp [byB]
 refine Ok.eq (hk .bot g2 (g.next+1) ⟨⟨.un 1,by rw [hg2,An,List.length_append];rfl,.inl rfl⟩,by rw [hg2,Bd (by omega),eb];exact b1,by simp,by have:=H.same.next;omega,H.newp,by omega,by rw [hg2];show g.next+1<g1.next;omega,by rw [hg2];show p<g1.next;omega,?_⟩ ⟨?_,.inr (by omega)⟩) (by simp -implicitDefEqProofs only [AO,AF,Option.bind_some,lv,hbs,Af,e1,AE,st,Nat.zero_add])
 ·refine(H.same.old s1 fun j hj=>.inr ?_).old s2 fun j hj=>.inr ?_
  ·simp at hj;subst hj;exact H.newb
  ·simp at hj;subst hj;exact H.newp
 ·exact(s1.sub (by simp)).trans (s2.sub (by simp))
theorem Ld:∀ (n u:Nat),u < 128 ^ (n+1)→(numB u).length≤n+1
 | 0,u,h=>by rw [Fl (by omega)];simp
 | n+1,u,h=>by
  by_cases hu:u≤127
  ·rw [Fl hu];simp
  ·rw [Jx hu,List.length_cons]
   have:=Ld n (u / 128) (by rw [Nat.pow_succ] at h;omega)
   omega
theorem HK (u:Nat):0<(numB u).length:=by
 rw [numB];split<;>simp
theorem FZ {h g:Heap}{p b u:Nat}{l:List Nat}(H:Wri h g p b l)(hu:u < 2 ^ 64)(hl:(l++numB u).length≤2 ^ 30):Ok (Ay (.ptr (some (p,0))) (.int .u64 (u:Int)) g) fun r=>∃ b',Wri h r.2 p b' (l++numB u)∧WS g r.2 p b b':=by
 have h10:(numB u).length≤10:=Ld 9 u (by have:(2:Nat) ^ 64≤128 ^ 10:=(by decide);omega)
 rw [List.length_append] at hl
 refine Ok.eq ?_ (by unfold Ay;rfl)
 refine CJ (P:=fun r=>r.1 = .exit 0∧∃ (w:Nat) (pre:List Nat) (b':Nat),r.2.1.getD 0 .bot = .int .u64 (w:Int)∧w≤127∧Wri h r.2.2 p b' (l++pre)∧WS g r.2.2 p b b'∧numB u=pre ++ [w]) ?_ ?_
 ·refine BF (fun m vs g'=>∃ (w:Nat) (pre:List Nat) (b':Nat),vs = [.int .u64 (w:Int)]∧m=w∧w < 2 ^ 64∧Wri h g' p b' (l++pre)∧WS g g' p b b'∧numB u=pre++numB w) ?_ (n:=u) (by omega) ⟨u,[],b,rfl,rfl,hu,by simpa using H,WS.refl _ _ _,rfl⟩
  rintro m vs g' ⟨w,pre,b',rfl,hmw,hw,W,ws,e⟩
  rw [gD0]
  by_cases h127:(127:Int)<w
  ·have hpl:pre.length≤10:=by
    have:=congrArg List.length e
    rw [List.length_append] at this;omega
   refine Ok.eq ?_ (by simp -implicitDefEqProofs only [EP,AR,h127,decide_true,Option.bind_some,AB,Sv hw,TX (show w % 128 < 128 by omega),TT (show w % 128+128 < 256 by omega)]<;>rfl)
   refine Pp W (x:=w % 128+128) (by rw [List.length_append];omega) fun u2 g2 b2 W2 ws2=>?_
   refine(Ok.of (r:=(Ex.normal,[.int .u64 ((w / 128:Nat):Int)],g2)) (.inl ⟨rfl,w / 128,by omega,w / 128,pre ++ [w % 128+128],b2,rfl,rfl,by omega,by rw [← List.append_assoc];exact W2,ws.trans ws2,?_⟩)).eq (by
    simp -implicitDefEqProofs only [Sz,Option.bind_some])
   rw [e,Jx (u:=w) (by omega),List.append_assoc];rfl
  ·refine(Ok.of (r:=(Ex.exit 0,[.int .u64 (w:Int)],g')) (.inr ⟨by simp,rfl,w,pre,b',rfl,by omega,W,ws,?_⟩)).eq (by
    simp -implicitDefEqProofs only [EP,AR,h127,decide_false,Option.bind_some,AA])
   rw [e,Fl (by omega)]
 ·rintro _ vs g' ⟨rfl,w,pre,b',hv,hw,W,ws,e⟩
  simp only at hv W ws
  have hpl:pre.length≤10:=by
   have:=congrArg List.length e
   rw [List.length_append] at this;omega
  refine Ok.eq ?_ (by simp -implicitDefEqProofs only [if_true,Al,hv,TT (show w < 256 by omega),Option.bind_some]<;>rfl)
  refine Pp W (x:=w) (by rw [List.length_append];omega) fun u2 g2 b2 W2 ws2=>?_
  refine Ok.of (r:=((.tup [],g2):AV × Heap)) ⟨b2,?_,ws.trans ws2⟩
  rw [e,← List.append_assoc];exact W2
theorem Ql {v:Int}(h:wfI v)(g:Heap):Fj (.int .i64 v) g=some (.int .u64 (zigN v),g):=by
 obtain⟨h1,h2⟩:=EW h
 have:=P6 (v:=v) (by omega) (by omega)
 unfold Fj
 have e1:binP .shl (.int .i64 v) (.int .u64 1)=some (.int .i64 (IntKind.i64.wrap (v * 2 ^ 1))):=rfl
 have e2:binP .shr (.int .i64 v) (.int .u64 63)=some (.int .i64 (v.fdiv (2 ^ 63))):=rfl
 have e3:∀ n:Int,cvI .u64 (.int .i64 n)=some (.int .u64 (IntKind.u64.wrap n)):=fun n=>rfl
 rw [e1,Option.bind_some,e3,Option.bind_some,e2,Option.bind_some,e3,Option.bind_some] at this ⊢
 rw [this];rfl
def intsB (ns:List Int):List Nat:=ns.flatMap fun n=>numB (zigN n)
theorem M8 {α:Type}(f:α→List Nat)(l:List α)(k:Nat):((l.take k).flatMap f).length≤(l.flatMap f).length:=by
 conv=>rhs;rw [← List.take_append_drop k l,List.flatMap_append,List.length_append]
 omega
theorem GX {α:Type}(f:α→List Nat){l:List α}{k:Nat}{x:α}(h:l[k]?=some x):(l.take (k+1)).flatMap f=(l.take k).flatMap f++f x:=by
 rw [List.take_succ,h];simp [List.flatMap_append]
theorem P0 {h g:Heap}{p b:Nat}{l:List Nat}{v:AV}{ns:List Int}(H:Wri h g p b l)(V:∀ g',Same [p,b] g g'→RdW g' 1 v (wI ns) ns.length)(hw:∀ n∈ns,wfI n)(hn:ns.length≤1048576)(hl:(l++intsB ns).length≤2 ^ 30) :
  Ok (Bl (.ptr (some (p,0))) v g) fun r=>∃ b',Wri h r.2 p b' (l++intsB ns)∧WS g r.2 p b b':=by
 have lnv:=(V g (Same.refl _ _)).lnL
 rw [List.length_append] at hl
 refine Ok.eq ?_ (by simp -implicitDefEqProofs only [Bl,lnv,Option.bind_some]<;>rfl)
 refine CJ (P:=fun r=>r.1 = .exit 0∧∃ b',Wri h r.2.2 p b' (l++intsB ns)∧WS g r.2.2 p b b') ?_ ?_
 ·refine BF (fun q us g'=>∃ (k b':Nat),us = [.int .i64 (k:Nat)]∧q+k=ns.length∧Wri h g' p b' (l++intsB (ns.take k))∧WS g g' p b b') ?_ (n:=ns.length) (by omega) ⟨0,b,rfl,rfl,by simpa [intsB] using H,WS.refl _ _ _⟩
  rintro q us g' ⟨k,b',rfl,hq,W,ws⟩
  rw [gD0]
  by_cases hk:k<ns.length
  ·have hk':(k:Int)<ns.length:=by omega
   obtain⟨n,hx⟩:∃ n,ns[k]?=some n:=⟨_,List.getElem?_eq_getElem hk⟩
   obtain⟨b1,o1,_,hix,hld⟩:=(V g' ws.same).at (i:=k) (x:=.int .i64 n) (by simp [wI,hx])
   have hwn:=hw n (List.mem_of_getElem? hx)
   have hzl:zigN n < 2 ^ 64:=LG (by have:=EW hwn;omega) (by have:=EW hwn;omega)
   have e1:=GX (fun n=>numB (zigN n)) hx
   have l1:=M8 (fun n=>numB (zigN n)) ns (k+1)
   refine Ok.eq ?_ (by simp -implicitDefEqProofs only [D8,AG,hk',decide_true,Option.bind_some,AB,hix,hld,Ql hwn,AE]<;>rfl)
   refine Ao (FZ W hzl (by rw [List.append_assoc,List.length_append];unfold intsB at hl ⊢;rw [← e1];omega)) ?_
   rintro u g2 ⟨b2,W2,ws2⟩
   simp only at W2 ws2
   exact(Ok.of (r:=(Ex.normal,[.int .i64 ((k+1:Nat):Int)],g2)) (.inl ⟨rfl,q - 1,by omega,k+1,b2,rfl,by omega,by unfold intsB at W2 ⊢;rw [e1,← List.append_assoc];exact W2,ws.trans ws2⟩)).eq (by simp -implicitDefEqProofs only [Ap,suc64 k (by omega),Option.bind_some])
  ·have hk' : ¬ (k:Int)<ns.length:=by omega
   exact(Ok.of (r:=(Ex.exit 0,[.int .i64 (k:Nat)],g')) (.inr ⟨by simp,rfl,b',by rw [List.take_of_length_le (by omega)] at W;exact W,ws⟩)).eq (by
    simp -implicitDefEqProofs only [D8,AG,hk',decide_false,Option.bind_some,AA])
 ·rintro _ us g' ⟨rfl,b',W,ws⟩
  exact Ah (v:=.tup []) (g:=g') (by simp -implicitDefEqProofs only [if_true,IU]) ⟨b',W,ws⟩
def flgN (b:Bool):Nat:=if b then 1 else 0
def flagsB (l:List Bool):List Nat:=numB l.length++l.flatMap fun b=>numB (flgN b)
theorem MR {h g:Heap}{p b:Nat}{l:List Nat}{v:AV}{bs:List Bool}(H:Wri h g p b l)(V:RdW h 1 v (bs.map AV.bool) bs.length)(hn:bs.length≤1048576)(hl:(l++flagsB bs).length≤2 ^ 30) :
  Ok (CW (.ptr (some (p,0))) v g) fun r=>∃ b',Wri h r.2 p b' (l++flagsB bs)∧WS g r.2 p b b':=by
 have lnv:=V.lnL
 have mo:∀ g' b' l',Wri h g' p b' l'→RdW g' 1 v (bs.map AV.bool) bs.length:=fun g' b' l' W=>V.mono W.same.next fun j hj=>W.same.get j hj (by simp)
 have hcv:cvI .u64 (.int .i64 (bs.length:Int))=some (.int .u64 (bs.length:Int)):=by
  rw [Fs,Ff (by omega) (by omega)]
 unfold flagsB at hl ⊢
 rw [← List.append_assoc,List.length_append] at hl
 refine Ok.eq ?_ (by simp -implicitDefEqProofs only [CW,lnv,hcv,Option.bind_some]<;>rfl)
 refine Ao (FZ H (by omega) (by omega)) ?_
 rintro u0 g0 ⟨b0,W0,ws0⟩
 simp only at W0 ws0
 refine CJ (P:=fun r=>r.1 = .exit 0∧∃ b',Wri h r.2.2 p b' (l++numB bs.length++bs.flatMap fun b=>numB (flgN b))∧WS g r.2.2 p b b') ?_ ?_
 ·refine BF (fun q us g'=>∃ (k b':Nat),us = [.int .i64 (k:Nat)]∧q+k=bs.length∧Wri h g' p b' (l++numB bs.length++(bs.take k).flatMap fun b=>numB (flgN b))∧WS g g' p b b') ?_ (n:=bs.length) (by omega) ⟨0,b0,rfl,rfl,by simpa using W0,ws0⟩
  rintro q us g' ⟨k,b',rfl,hq,W,ws⟩
  rw [gD0]
  by_cases hk:k<bs.length
  ·have hk':(k:Int)<bs.length:=by omega
   obtain⟨n,hx⟩:∃ n,bs[k]?=some n:=⟨_,List.getElem?_eq_getElem hk⟩
   obtain⟨b1,o1,_,hix,hld⟩:=(mo _ _ _ W).at (i:=k) (x:=.bool n) (by simp [hx])
   have e1:=GX (fun b=>numB (flgN b)) hx
   have l1:=M8 (fun b=>numB (flgN b)) bs (k+1)
   have fin:Ok (Ay (.ptr (some (p,0))) (.int .u64 ((flgN n:Nat):Int)) g') fun r=>∃ b2,Wri h r.2 p b2 (l++numB bs.length++(bs.take (k+1)).flatMap fun b=>numB (flgN b))∧WS g r.2 p b b2:=by
    refine(FZ W (by cases n<;>simp [flgN]) (by rw [List.append_assoc,List.length_append,← e1];omega)).mono ?_
    rintro r ⟨b2,W2,ws2⟩
    exact⟨b2,by rw [e1,← List.append_assoc];exact W2,ws.trans ws2⟩
   cases n with
   | true=>
    refine Ok.eq ?_ (by simp -implicitDefEqProofs only [Cw,AG,hk',decide_true,Option.bind_some,AB,hix,hld]<;>rfl)
    refine Ao fin ?_
    rintro u g2 ⟨b2,W2,ws2⟩
    exact(Ok.of (r:=(Ex.normal,[.int .i64 ((k+1:Nat):Int)],g2)) (.inl ⟨rfl,q - 1,by omega,k+1,b2,rfl,by omega,W2,ws2⟩)).eq (by simp -implicitDefEqProofs only [Ap,suc64 k (by omega),Option.bind_some])
   | false=>
    refine Ok.eq ?_ (by simp -implicitDefEqProofs only [Cw,AG,hk',decide_true,Option.bind_some,AB,AA,hix,hld]<;>rfl)
    refine Ao fin ?_
    rintro u g2 ⟨b2,W2,ws2⟩
    exact(Ok.of (r:=(Ex.normal,[.int .i64 ((k+1:Nat):Int)],g2)) (.inl ⟨rfl,q - 1,by omega,k+1,b2,rfl,by omega,W2,ws2⟩)).eq (by simp -implicitDefEqProofs only [Ap,suc64 k (by omega),Option.bind_some])
  ·have hk' : ¬ (k:Int)<bs.length:=by omega
   exact(Ok.of (r:=(Ex.exit 0,[.int .i64 (k:Nat)],g')) (.inr ⟨by simp,rfl,b',by rw [List.take_of_length_le (by omega)] at W;exact W,ws⟩)).eq (by
    simp -implicitDefEqProofs only [Cw,AG,hk',decide_false,Option.bind_some,AA])
 ·rintro _ us g' ⟨rfl,b',W,ws⟩
  exact Ah (v:=.tup []) (g:=g') (by simp -implicitDefEqProofs only [if_true,IU]) ⟨b',by rw [← List.append_assoc];exact W,ws⟩
set_option linter.all false
attribute [local congr] BI D1 Dy D2 Bu D3 Dz Aw Av
theorem litV {g:Heap}{p b:Nat}{ns:List Int}(hp:p<g.next)(hb:b<g.next):∀ g'',Same [p,b] (g.new (.cells true (wI ns))) g''→RdW g'' 1 (.sl (some (g.next,0)) ns.length (.ex ns.length)) (wI ns) ns.length:=fun g'' s=>
 ⟨by simp [wI],.inr ⟨g.next,0,.ex ns.length,rfl,Nat.lt_of_lt_of_le (Nat.lt_succ_self _) s.next,fun _=>⟨true,[],[],rfl,by rw [s.get g.next (Nat.lt_succ_self _) (by simp;omega),Am];simp⟩⟩⟩
theorem bs4 (z a b c d:Int):bsP 1 [.int .i64 z] 4 [(0,.int .i64 a),(1,.int .i64 b),(2,.int .i64 c),(3,.int .i64 d)]=some (.cells true (wI [a,b,c,d]),fun i=>.sl (some (i,0)) 4 (.ex 4)):=rfl
theorem bs5 (z a b c d e:Int):bsP 1 [.int .i64 z] 5 [(0,.int .i64 a),(1,.int .i64 b),(2,.int .i64 c),(3,.int .i64 d),(4,.int .i64 e)]=some (.cells true (wI [a,b,c,d,e]),fun i=>.sl (some (i,0)) 5 (.ex 5)):=rfl
theorem Kf {h g:Heap}{p b:Nat}{l:List Nat}{ns:List Int}(H:Wri h g p b l)(hw:∀ n∈ns,wfI n)(hn:ns.length≤1048576)(hl:(l++intsB ns).length≤2 ^ 30) :
  Ok (Bl (.ptr (some (p,0))) (.sl (some (g.next,0)) ns.length (.ex ns.length)) (g.new (.cells true (wI ns)))) fun r=>∃ b',Wri h r.2 p b' (l++intsB ns)∧WS g r.2 p b b':=by
 have s:Same [] g (g.new (.cells true (wI ns))):=Same.new _ _
 refine(P0 (H.keep s) (litV H.ltp H.ltb) hw hn hl).mono ?_
 rintro r ⟨b',W,ws⟩
 exact⟨b',W,WS.pre s ws⟩
theorem wloop {α:Type}{h g:Heap}{p b ex:Nat}{l:List Nat}{F:List AV→Heap→OutV}{enc:α→List Nat}{xs:List α}(H:Wri h g p b l)(hn:xs.length≤1048576)(hl:(l++xs.flatMap enc).length≤2 ^ 30)
  (step:∀ (k:Nat) x g' b' l',xs[k]?=some x→Wri h g' p b' l'→(l'++enc x).length≤2 ^ 30→Ok (F [.int .i64 (k:Int)] g') fun r=>∃ b2,r.1 = .normal∧r.2.1 = [.int .i64 ((k+1:Nat):Int)]∧Wri h r.2.2 p b2 (l'++enc x)∧WS g' r.2.2 p b' b2)
  (stop:∀ (k:Nat) g',¬ (k:Int)<xs.length→F [.int .i64 (k:Int)] g'=some (.exit ex,[.int .i64 (k:Int)],g')) :
  Ok (loopN F [.int .i64 0] g) fun r=>r.1 = .exit ex∧∃ b',Wri h r.2.2 p b' (l++xs.flatMap enc)∧WS g r.2.2 p b b':=by
 rw [List.length_append] at hl
 refine BF (fun q us g'=>∃ (k b':Nat),us = [.int .i64 (k:Nat)]∧q+k=xs.length∧Wri h g' p b' (l++(xs.take k).flatMap enc)∧WS g g' p b b') ?_ (n:=xs.length) (by omega) ⟨0,b,rfl,rfl,by simpa using H,WS.refl _ _ _⟩
 rintro q us g' ⟨k,b',rfl,hq,W,ws⟩
 by_cases hk:k<xs.length
 ·obtain⟨x,hx⟩:∃ x,xs[k]?=some x:=⟨_,List.getElem?_eq_getElem hk⟩
  have e1:=GX enc hx
  have l1:=M8 enc xs (k+1)
  refine(step k x g' b' _ hx W (by rw [List.append_assoc,List.length_append,← e1];omega)).mono ?_
  rintro r ⟨b2,r1,r2,W2,ws2⟩
  exact .inl ⟨r1,q - 1,by omega,k+1,b2,r2,by omega,by rw [e1,← List.append_assoc];exact W2,ws.trans ws2⟩
 ·have hk' : ¬ (k:Int)<xs.length:=by omega
  exact(Ok.of (r:=(Ex.exit ex,[.int .i64 (k:Nat)],g')) (.inr ⟨by simp,rfl,b',by rw [List.take_of_length_le (by omega)] at W;exact W,ws⟩)).eq (stop k g' hk')
theorem Pi {n:Int}(h:(Lit.int .u64 n).wf=true):0≤n∧n < 18446744073709551616:=by
 simp only [Lit.wf,Bool.and_eq_true,decide_eq_true_eq] at h
 have e1:IntKind.u64.min=0:=rfl
 have e2:IntKind.u64.max=18446744073709551615:=rfl
 omega
def insE (i:Ins):List Nat:=intsB [i.op,i.a,i.b,i.c,i.d]
def fnE (f:Fn):List Nat:=intsB [f.pa,f.ca,f.sl,f.re]++flagsB f.kinds++numB f.code.length++f.code.flatMap insE++numB f.maps.length++f.maps.flatMap fun v=>numB v.toNat
theorem cv64 {n:Nat}(h:n < 18446744073709551616):cvI .u64 (.int .i64 (n:Int))=some (.int .u64 (n:Int)):=by rw [Fs,Ff (by omega) (by omega)]
theorem SG {h g:Heap}{p b:Nat}{l:List Nat}{row:List AV}{f:Fn}(H:Wri h g p b l)(F:FnRd h row f)(hb:f.kinds.length≤1048576∧f.code.length≤1048576∧f.maps.length≤1048576)(hl:(l++fnE f).length≤2 ^ 30) :
  Ok (Dj (.ptr (some (p,0))) (.agg row) g) fun r=>∃ b',Wri h r.2 p b' (l++fnE f)∧WS g r.2 p b b':=by
 obtain⟨ks,co,mv,rfl,hK,hC,hM,w1,w2,w3,w4,_,_,_,_,_,_,hCw,hMw⟩:=F
 have hsc:([AV.int .i64 f.pa,.int .i64 f.ca,.int .i64 f.sl,.int .i64 f.re,ks,co,mv]:List AV).all scalar=true:=by
  simp only [List.all_cons,List.all_nil,hK.sc,hC.sc,hM.sc,Bool.and_true];rfl
 have bx:=GL hsc
 have s:Same [] g (g.new (.cells true [AV.int .i64 f.pa,.int .i64 f.ca,.int .i64 f.sl,.int .i64 f.re,ks,co,mv])):=Same.new _ _
 have b1:(g.new (.cells true [AV.int .i64 f.pa,.int .i64 f.ca,.int .i64 f.sl,.int .i64 f.re,ks,co,mv])).get g.next=some (.cells true [AV.int .i64 f.pa,.int .i64 f.ca,.int .i64 f.sl,.int .i64 f.re,ks,co,mv]):=Am
 have n1:(g.new (.cells true [AV.int .i64 f.pa,.int .i64 f.ca,.int .i64 f.sl,.int .i64 f.re,ks,co,mv])).next=g.next+1:=rfl
 generalize hg1:g.new (.cells true [AV.int .i64 f.pa,.int .i64 f.ca,.int .i64 f.sl,.int .i64 f.re,ks,co,mv])=g1 at *
 have H1:=H.keep s
 have ltp:=H.ltp;have ltb:=H.ltb
 have ld:∀ g' b',WS g1 g' p b b'→∀ (k:Nat) x,([AV.int .i64 f.pa,.int .i64 f.ca,.int .i64 f.sl,.int .i64 f.re,ks,co,mv]:List AV)[k]?=some x→ldS g' (.ptr (some (g.next,k)))=some x:=fun g' b' ws k x hx=>by
  rw [Ai (w:=true) (vs:=[AV.int .i64 f.pa,.int .i64 f.ca,.int .i64 f.sl,.int .i64 f.re,ks,co,mv]) (by rw [ws.same.get g.next (by omega) (by simp;omega)];exact b1)];exact hx
 have i0:=ld g1 b (WS.refl _ _ _) 0 _ rfl;have i1:=ld g1 b (WS.refl _ _ _) 1 _ rfl;have i2:=ld g1 b (WS.refl _ _ _) 2 _ rfl;have i3:=ld g1 b (WS.refl _ _ _) 3 _ rfl
 have lnC:=hC.lnL
 rw [List.length_map] at lnC
 have lnM:=hM.lnL
 unfold fnE at hl ⊢
 simp only [List.length_append] at hl
 refine Ok.eq ?_ (by simp -implicitDefEqProofs only [Dj,bx,Af,hg1,i0,i1,i2,i3,Nat.zero_add,bs4,AO,AF,Option.bind_some,AZ,AY,Ac,AX,AL,AH,AD,Ad,AQ,AE,AM,AC,if_true,if_false,Bool.false_eq_true,AJ,AP,AG,AR,AK,AU,Int.reduceEq,Int.reduceLT,Int.reduceLE,decide_true,decide_false,AB,AA,Ae,Bool.not_true,Bool.not_false,AW]<;>rfl)
 refine Ao (Kf H1 (ns:=[f.pa,f.ca,f.sl,f.re]) (by simp only [List.mem_cons,List.not_mem_nil,or_false,forall_eq_or_imp,forall_eq];exact⟨w1,w2,w3,w4⟩) (by simp) (by simp only [List.length_append];omega)) ?_
 rintro _ g2 ⟨b2,W2,ws2⟩
 simp only at W2 ws2
 have j4:=ld g2 b2 ws2 4 _ rfl
 refine Ok.eq ?_ (by simp -implicitDefEqProofs only [j4,Nat.zero_add,AO,AF,Option.bind_some,AZ,AY,Ac,AX,AL,AH,AD,Ad,AQ,AE,AM,AC,if_true,if_false,Bool.false_eq_true,AJ,AP,AG,AR,AK,AU,Int.reduceEq,Int.reduceLT,Int.reduceLE,decide_true,decide_false,AB,AA,Ae,Bool.not_true,Bool.not_false,AW]<;>rfl)
 refine Ao (MR W2 hK (by omega) (by simp only [List.length_append];omega)) ?_
 rintro _ g3 ⟨b3,W3,ws3⟩
 simp only at W3 ws3
 have ws3:=ws2.trans ws3
 have j5:=ld g3 b3 ws3 5 _ rfl
 have c5:=cv64 (n:=f.code.length) (by omega)
 refine Ok.eq ?_ (by simp -implicitDefEqProofs only [j5,lnC,c5,Nat.zero_add,AO,AF,Option.bind_some,AZ,AY,Ac,AX,AL,AH,AD,Ad,AQ,AE,AM,AC,if_true,if_false,Bool.false_eq_true,AJ,AP,AG,AR,AK,AU,Int.reduceEq,Int.reduceLT,Int.reduceLE,decide_true,decide_false,AB,AA,Ae,Bool.not_true,Bool.not_false,AW]<;>rfl)
 refine Ao (FZ W3 (by omega) (by simp only [List.length_append];omega)) ?_
 rintro _ g4 ⟨b4,W4,ws4⟩
 simp only at W4 ws4
 have ws4:=ws3.trans ws4
 have j5:=ld g4 b4 ws4 5 _ rfl
 refine Ok.eq ?_ (by simp -implicitDefEqProofs only [j5,lnC,Nat.zero_add,AO,AF,Option.bind_some,AZ,AY,Ac,AX,AL,AH,AD,Ad,AQ,AE,AM,AC,if_true,if_false,Bool.false_eq_true,AJ,AP,AG,AR,AK,AU,Int.reduceEq,Int.reduceLT,Int.reduceLE,decide_true,decide_false,AB,AA,Ae,Bool.not_true,Bool.not_false,AW]<;>rfl)
 refine CJ (wloop (ex:=0) (enc:=insE) (xs:=f.code) W4 (by omega) (by simp only [List.length_append];omega) ?_ ?_) ?_
 ·intro k i g' b' l' hi W hl'
  have hk:=(List.getElem?_eq_some_iff.1 hi).1
  have hk':(k:Int)<f.code.length:=by omega
  obtain⟨bb,oo,_,hix,hla,_⟩:=(hC.mono W.same.next fun j hj=>W.same.get j hj (by simp)).at (i:=k) (r:=i.row) (by rw [List.getElem?_map,hi];rfl)
  have hiw:=hCw i (List.mem_of_getElem? hi)
  rw [gD0]
  refine Ok.eq ?_ (by simp -implicitDefEqProofs only [Ei,AG,hk',decide_true,Option.bind_some,AB,hix,hla]<;>rfl)
  refine EV (cs:=i.row) (n:=5) (by rfl) (by rfl) (Ins.sc i) fun g5 s5 n5 b5=>?_
  have m0:ldS g5 (.ptr (some (g'.next,0)))=some (.int .i64 i.op):=by rw [Ai b5];rfl
  have m1:ldS g5 (.ptr (some (g'.next,1)))=some (.int .i64 i.a):=by rw [Ai b5];rfl
  have m2:ldS g5 (.ptr (some (g'.next,2)))=some (.int .i64 i.b):=by rw [Ai b5];rfl
  have m3:ldS g5 (.ptr (some (g'.next,3)))=some (.int .i64 i.c):=by rw [Ai b5];rfl
  have m4:ldS g5 (.ptr (some (g'.next,4)))=some (.int .i64 i.d):=by rw [Ai b5];rfl
  refine Ok.eq ?_ (by simp -implicitDefEqProofs only [m0,m1,m2,m3,m4,Nat.zero_add,bs5,Af,AO,AF,Option.bind_some,AZ,AY,Ac,AX,AL,AH,AD,Ad,AQ,AE,AM,AC,if_true,if_false,Bool.false_eq_true,AJ,AP,AG,AR,AK,AU,Int.reduceEq,Int.reduceLT,Int.reduceLE,decide_true,decide_false,AB,AA,Ae,Bool.not_true,Bool.not_false,AW]<;>rfl)
  refine Ao (Kf (W.keep s5) (ns:=[i.op,i.a,i.b,i.c,i.d]) (by simp only [List.mem_cons,List.not_mem_nil,or_false,forall_eq_or_imp,forall_eq];exact hiw) (by simp) hl') ?_
  rintro _ g6 ⟨b6,W6,ws6⟩
  simp only at W6 ws6
  exact(Ok.of (r:=(Ex.normal,[.int .i64 ((k+1:Nat):Int)],g6)) ⟨b6,rfl,rfl,W6,WS.pre s5 ws6⟩).eq (by simp -implicitDefEqProofs only [Ap,suc64 k (by omega),Option.bind_some])
 ·intro k g' hk'
  rw [gD0]
  simp -implicitDefEqProofs only [Ei,AG,hk',decide_false,Option.bind_some,AA]
 rintro _ us g5 ⟨rfl,b5,W5,ws5⟩
 simp only at W5 ws5
 have ws5:=ws4.trans ws5
 have j6:=ld g5 b5 ws5 6 _ rfl
 have c6:=cv64 (n:=f.maps.length) (by omega)
 refine Ok.eq ?_ (by simp -implicitDefEqProofs only [Al,j6,lnM,c6,Nat.zero_add,AO,AF,Option.bind_some,AZ,AY,Ac,AX,AL,AH,AD,Ad,AQ,AE,AM,AC,if_true,if_false,Bool.false_eq_true,AJ,AP,AG,AR,AK,AU,Int.reduceEq,Int.reduceLT,Int.reduceLE,decide_true,decide_false,AB,AA,Ae,Bool.not_true,Bool.not_false,AW]<;>rfl)
 refine Ao (FZ W5 (by omega) (by simp only [List.length_append];omega)) ?_
 rintro _ g6 ⟨b6,W6,ws6⟩
 simp only at W6 ws6
 have ws6:=ws5.trans ws6
 have j6:=ld g6 b6 ws6 6 _ rfl
 refine Ok.eq ?_ (by simp -implicitDefEqProofs only [j6,lnM,Nat.zero_add,AO,AF,Option.bind_some,AZ,AY,Ac,AX,AL,AH,AD,Ad,AQ,AE,AM,AC,if_true,if_false,Bool.false_eq_true,AJ,AP,AG,AR,AK,AU,Int.reduceEq,Int.reduceLT,Int.reduceLE,decide_true,decide_false,AB,AA,Ae,Bool.not_true,Bool.not_false,AW]<;>rfl)
 refine CJ (wloop (ex:=2) (enc:=fun v:Int=>numB v.toNat) (xs:=f.maps) W6 (by omega) (by simp only [List.length_append];omega) ?_ ?_) ?_
 ·intro k i g' b' l' hi W hl'
  have hk:=(List.getElem?_eq_some_iff.1 hi).1
  have hk':(k:Int)<f.maps.length:=by omega
  obtain⟨bb,oo,_,hix,hld⟩:=(hM.mono W.same.next fun j hj=>W.same.get j hj (by simp)).at (i:=k) (x:=.int .u64 i) (by rw [List.getElem?_map,hi];rfl)
  have hiw:=Pi (hMw i (List.mem_of_getElem? hi))
  have hi0:i=(i.toNat:Int):=by omega
  rw [gD0]
  rw [hi0] at hld
  refine Ok.eq ?_ (by simp -implicitDefEqProofs only [Ej,AG,hk',decide_true,Option.bind_some,AB,hix,hld]<;>rfl)
  refine Ao (FZ W (u:=i.toNat) (by omega) hl') ?_
  rintro _ g7 ⟨b7,W7,ws7⟩
  simp only at W7 ws7
  exact(Ok.of (r:=(Ex.normal,[.int .i64 ((k+1:Nat):Int)],g7)) ⟨b7,rfl,rfl,W7,ws7⟩).eq (by simp -implicitDefEqProofs only [Ap,suc64 k (by omega),Option.bind_some])
 ·intro k g' hk'
  rw [gD0]
  simp -implicitDefEqProofs only [Ej,AG,hk',decide_false,Option.bind_some,AA]
 rintro _ us g7 ⟨rfl,b7,W7,ws7⟩
 simp only at W7 ws7
 refine Ah (v:=.tup []) (g:=g7) (by simp -implicitDefEqProofs only [if_true,reduceCtorEq,if_false,IU]) ⟨b7,?_,WS.pre s (ws6.trans ws7)⟩
 simp only [List.append_assoc] at W7 ⊢
 exact W7
set_option linter.all false
attribute [local congr] BI D1 Dy D2 Bu D3 Dz Aw Av
theorem C1 {u:Nat}(h:u < 2 ^ 64):(numB u).length≤10:=Ld 9 u (Nat.lt_of_lt_of_le h (by decide))
def Shp.wf (s:Shp):Prop:=wfI s.kind∧wfI s.fields
def shpE (s:Shp):List Nat:=intsB [s.kind,s.fields]++numB s.map.toNat
def casE (c:Cas):List Nat:=intsB [c.kind,c.chan,c.val,c.to]
def modE (m:Md)(shs:List Shp):List Nat:=
 numB shs.length++shs.flatMap shpE++flagsB m.globals++numB m.consts.length++(m.consts.flatMap fun v=>numB (zigN v))++numB m.cases.length++m.cases.flatMap casE++numB m.funcs.length++m.funcs.flatMap fnE++intsB [m.main]
def encB (m:Md)(shs:List Shp):List Nat:=[71,79,76,49]++modE m shs
theorem Pg {h:Heap}{v:AV}{m:Md}{shs:List Shp}(H:MdRd h v m)(hs:m.shapes=shs.map Shp.row)(hsw:∀ s∈shs,s.wf)(sm:SmV m)(hl:(encB m shs).length≤2 ^ 30) :
  Ok (EL v h) fun r=>Same [] h r.2∧∃ b c,h.next≤b∧b<r.2.next∧r.1 = .sl (some (b,0)) (encB m shs).length c∧(c = .un 1∨c = .ex (encB m shs).length)∧r.2.get b=some (.cells true (byB (encB m shs))):=by
 obtain⟨sv,gv,kv,cv,fv,rfl,hbx,B⟩:=H.box
 obtain⟨_,_,_,_,_,e0,hS,hG,hK,hC,hF,wM,_,_,_,_,_,_,hCw,_,hKw⟩:=H
 cases e0
 have s:Same [] h (h.new (.cells true [sv,gv,kv,cv,fv,.int .i64 m.main])):=Same.new _ _
 have b1:(h.new (.cells true [sv,gv,kv,cv,fv,.int .i64 m.main])).get h.next=some (.cells true [sv,gv,kv,cv,fv,.int .i64 m.main]):=Am
 have n1:(h.new (.cells true [sv,gv,kv,cv,fv,.int .i64 m.main])).next=h.next+1:=rfl
 generalize hg1:h.new (.cells true [sv,gv,kv,cv,fv,.int .i64 m.main])=g1 at *
 have sm1:=sm.1;have sm2:=sm.2.1;have sm4:=sm.2.2.2.1;have sm5:=sm.2.2.2.2.1;have sm6:=sm.2.2.2.2.2
 have hshl:shs.length≤40:=by rw [hs,List.length_map] at sm4;exact sm4
 rw [hs] at hS
 -- magic,the writer
 have hmg:bsP 1 [(AV.int .u8 0)] 4 [(0,(AV.int .u8 71)),(1,(AV.int .u8 79)),(2,(AV.int .u8 76)),(3,(AV.int .u8 49))]=some (.cells true (byB [71,79,76,49]),fun i=>.sl (some (i,0)) 4 (.ex 4)):=rfl
 have s2:Same [] g1 (g1.new (.cells true (byB [71,79,76,49]))):=Same.new _ _
 have b2:(g1.new (.cells true (byB [71,79,76,49]))).get g1.next=some (.cells true (byB [71,79,76,49])):=Am
 have n2:(g1.new (.cells true (byB [71,79,76,49]))).next=g1.next+1:=rfl
 generalize hg2:g1.new (.cells true (byB [71,79,76,49]))=g2 at *
 have hbw:bldS [(0,1)] [(AV.sl none 0 (.ex 0))] [(0,.sl (some (g1.next,0)) 4 (.ex 4))]=some (.agg [.sl (some (g1.next,0)) 4 (.ex 4)]):=rfl
 have hbw2:bxP (.agg [.sl (some (g1.next,0)) 4 (.ex 4)])=some (.cells true [.sl (some (g1.next,0)) 4 (.ex 4)],fun i=>.ptr (some (i,0))):=rfl
 have s3:Same [] g2 (g2.new (.cells true [.sl (some (g1.next,0)) 4 (.ex 4)])):=Same.new _ _
 have b3:(g2.new (.cells true [.sl (some (g1.next,0)) 4 (.ex 4)])).get g2.next=some (.cells true [.sl (some (g1.next,0)) 4 (.ex 4)]):=Am
 have n3:(g2.new (.cells true [.sl (some (g1.next,0)) 4 (.ex 4)])).next=g2.next+1:=rfl
 generalize hg3:g2.new (.cells true [.sl (some (g1.next,0)) 4 (.ex 4)])=g3 at *
 have W0:Wri h g3 g2.next g1.next [71,79,76,49]:=⟨⟨.ex 4,b3,.inr rfl⟩,(s3.get _ (by omega) (by simp)).trans b2,by simp,by omega,by omega,by omega,by omega,by omega,(s.trans s2).trans s3⟩
 have b13:g3.get h.next=some (.cells true [sv,gv,kv,cv,fv,.int .i64 m.main]):=(s3.get _ (by omega) (by simp)).trans ((s2.get _ (by omega) (by simp)).trans b1)
 have hlt3:h.next<g3.next:=by omega
 have hnp:h.next≠g2.next∧h.next≠g1.next:=⟨by omega,by omega⟩
 generalize hp:g2.next=p at *
 generalize hbb:g1.next=b0 at *
 have ld:∀ g' b',WS g3 g' p b0 b'→∀ (k:Nat) x,([sv,gv,kv,cv,fv,.int .i64 m.main]:List AV)[k]?=some x→ldS g' (.ptr (some (h.next,k)))=some x:=fun g' b' ws k x hx=>by
  rw [Ai (w:=true) (vs:=[sv,gv,kv,cv,fv,.int .i64 m.main]) (by rw [ws.same.get h.next hlt3 (by simp;exact hnp)];exact b13)];exact hx
 have lnS:lnL sv=some (.int .i64 shs.length):=by have:=hS.lnL;rwa [List.length_map] at this
 have lnK:=hK.lnL
 have lnC:lnL cv=some (.int .i64 m.cases.length):=by have:=hC.lnL;rwa [List.length_map] at this
 have lnF:lnL fv=some (.int .i64 m.funcs.length):=by obtain⟨rows,h1,h2,_⟩:=hF;rw [h1.lnL,h2]
 unfold encB modE at hl ⊢
 simp only [List.length_append] at hl
 have WR:=WS.refl g3 p b0
 have i0:=ld g3 b0 WR 0 _ rfl
 have c0:=cv64 (n:=shs.length) (by omega)
 refine Ok.eq ?_ (by simp -implicitDefEqProofs only [EL,C8,hbx,hmg,hg1,hg2,hg3,hbw,hbw2,Af,i0,lnS,c0,Nat.zero_add,hp,hbb,AO,AF,Option.bind_some,AZ,AY,Ac,AX,AL,AH,AD,Ad,AQ,AE,AM,AC,if_true,if_false,Bool.false_eq_true,AJ,AP,AG,AR,AK,AU,Int.reduceEq,Int.reduceLT,Int.reduceLE,decide_true,decide_false,AB,AA,Ae,Bool.not_true,Bool.not_false,AW]<;>rfl)
 refine Ao (FZ W0 (u:=shs.length) (by omega) (by simp only [List.length_append];omega)) ?_
 rintro _ g4 ⟨b4,W4,ws4⟩
 simp only at W4 ws4
 have j0:=ld g4 b4 ws4 0 _ rfl
 refine Ok.eq ?_ (by simp -implicitDefEqProofs only [j0,lnS,Nat.zero_add,AO,AF,Option.bind_some,AZ,AY,Ac,AX,AL,AH,AD,Ad,AQ,AE,AM,AC,if_true,if_false,Bool.false_eq_true,AJ,AP,AG,AR,AK,AU,Int.reduceEq,Int.reduceLT,Int.reduceLE,decide_true,decide_false,AB,AA,Ae,Bool.not_true,Bool.not_false,AW]<;>rfl)
 refine CJ (wloop (ex:=0) (enc:=shpE) (xs:=shs) W4 (by omega) (by simp only [List.length_append];omega) ?_ ?_) ?_
 ·intro k i g' b' l' hi W hl'
  have hk:=(List.getElem?_eq_some_iff.1 hi).1
  have hk':(k:Int)<shs.length:=by omega
  obtain⟨bb,oo,_,hix,hla,_⟩:=(hS.mono W.same.next fun j hj=>W.same.get j hj (by simp)).at (i:=k) (r:=i.row) (by rw [List.getElem?_map,hi];rfl)
  obtain⟨iw1,iw2⟩:=hsw i (List.mem_of_getElem? hi)
  have iw3:=i.map.isLt
  unfold shpE at hl' ⊢
  simp only [List.length_append] at hl'
  rw [gD0]
  refine Ok.eq ?_ (by simp -implicitDefEqProofs only [Fe,AG,hk',decide_true,Option.bind_some,AB,hix,hla]<;>rfl)
  refine EV (cs:=i.row) (n:=3) (by rfl) (by rfl) (by rfl) fun g5 s5 n5 b5=>?_
  have m0:ldS g5 (.ptr (some (g'.next,0)))=some (.int .i64 i.kind):=by rw [Ai b5];rfl
  have m1:ldS g5 (.ptr (some (g'.next,1)))=some (.int .i64 i.fields):=by rw [Ai b5];rfl
  refine Ok.eq ?_ (by simp -implicitDefEqProofs only [m0,m1,Nat.zero_add,bs2,Af,AO,AF,Option.bind_some,AZ,AY,Ac,AX,AL,AH,AD,Ad,AQ,AE,AM,AC,if_true,if_false,Bool.false_eq_true,AJ,AP,AG,AR,AK,AU,Int.reduceEq,Int.reduceLT,Int.reduceLE,decide_true,decide_false,AB,AA,Ae,Bool.not_true,Bool.not_false,AW]<;>rfl)
  have W5:=W.keep s5
  refine Ao (Kf W5 (ns:=[i.kind,i.fields]) (by simp only [List.mem_cons,List.not_mem_nil,or_false,forall_eq_or_imp,forall_eq];exact⟨iw1,iw2⟩) (by simp) (by simp only [List.length_append];omega)) ?_
  rintro _ g6 ⟨b6,W6,ws6⟩
  simp only at W6 ws6
  have wlt:=W.ltp;have wlb:=W.ltb
  have m2:ldS g6 (.ptr (some (g'.next,2)))=some (.int .u64 (i.map.toNat:Int)):=by
   rw [Ai (by rw [ws6.same.get _ (by omega) (by simp;omega)];exact b5)];rfl
  refine Ok.eq ?_ (by simp -implicitDefEqProofs only [m2,Nat.zero_add,AO,AF,Option.bind_some,AZ,AY,Ac,AX,AL,AH,AD,Ad,AQ,AE,AM,AC,if_true,if_false,Bool.false_eq_true,AJ,AP,AG,AR,AK,AU,Int.reduceEq,Int.reduceLT,Int.reduceLE,decide_true,decide_false,AB,AA,Ae,Bool.not_true,Bool.not_false,AW]<;>rfl)
  refine Ao (FZ W6 (u:=i.map.toNat) (by omega) (by simp only [List.length_append];omega)) ?_
  rintro _ g7 ⟨b7,W7,ws7⟩
  simp only at W7 ws7
  exact(Ok.of (r:=(Ex.normal,[.int .i64 ((k+1:Nat):Int)],g7)) ⟨b7,rfl,rfl,by rw [← List.append_assoc];exact W7,WS.pre s5 (ws6.trans ws7)⟩).eq (by simp -implicitDefEqProofs only [Ap,suc64 k (by omega),Option.bind_some])
 ·intro k g' hk'
  rw [gD0]
  simp -implicitDefEqProofs only [Fe,AG,hk',decide_false,Option.bind_some,AA]
 rintro _ us g5 ⟨rfl,b5,W5,ws5⟩
 simp only at W5 ws5
 have ws5:=ws4.trans ws5
 have j1:=ld g5 b5 ws5 1 _ rfl
 refine Ok.eq ?_ (by simp -implicitDefEqProofs only [Al,j1,Nat.zero_add,AO,AF,Option.bind_some,AZ,AY,Ac,AX,AL,AH,AD,Ad,AQ,AE,AM,AC,if_true,if_false,Bool.false_eq_true,AJ,AP,AG,AR,AK,AU,Int.reduceEq,Int.reduceLT,Int.reduceLE,decide_true,decide_false,AB,AA,Ae,Bool.not_true,Bool.not_false,AW]<;>rfl)
 refine Ao (MR W5 hG (by omega) (by simp only [List.length_append];omega)) ?_
 rintro _ g6 ⟨b6,W6,ws6⟩
 simp only at W6 ws6
 have ws6:=ws5.trans ws6
 have j2:=ld g6 b6 ws6 2 _ rfl
 have c2:=cv64 (n:=m.consts.length) (by omega)
 refine Ok.eq ?_ (by simp -implicitDefEqProofs only [j2,lnK,c2,Nat.zero_add,AO,AF,Option.bind_some,AZ,AY,Ac,AX,AL,AH,AD,Ad,AQ,AE,AM,AC,if_true,if_false,Bool.false_eq_true,AJ,AP,AG,AR,AK,AU,Int.reduceEq,Int.reduceLT,Int.reduceLE,decide_true,decide_false,AB,AA,Ae,Bool.not_true,Bool.not_false,AW]<;>rfl)
 refine Ao (FZ W6 (u:=m.consts.length) (by omega) (by simp only [List.length_append];omega)) ?_
 rintro _ g7 ⟨b7,W7,ws7⟩
 simp only at W7 ws7
 have ws7:=ws6.trans ws7
 have j2:=ld g7 b7 ws7 2 _ rfl
 refine Ok.eq ?_ (by simp -implicitDefEqProofs only [j2,lnK,Nat.zero_add,AO,AF,Option.bind_some,AZ,AY,Ac,AX,AL,AH,AD,Ad,AQ,AE,AM,AC,if_true,if_false,Bool.false_eq_true,AJ,AP,AG,AR,AK,AU,Int.reduceEq,Int.reduceLT,Int.reduceLE,decide_true,decide_false,AB,AA,Ae,Bool.not_true,Bool.not_false,AW]<;>rfl)
 refine CJ (wloop (ex:=2) (enc:=fun v:Int=>numB (zigN v)) (xs:=m.consts) W7 (by omega) (by simp only [List.length_append];omega) ?_ ?_) ?_
 ·intro k i g' b' l' hi W hl'
  have hk:=(List.getElem?_eq_some_iff.1 hi).1
  have hk':(k:Int)<m.consts.length:=by omega
  obtain⟨bb,oo,_,hix,hld⟩:=(hK.mono W.same.next fun j hj=>W.same.get j hj (by simp)).at (i:=k) (x:=.int .i64 i) (by rw [List.getElem?_map,hi];rfl)
  have hiw:=hKw i (List.mem_of_getElem? hi)
  have hzl:zigN i < 2 ^ 64:=LG (by have:=EW hiw;omega) (by have:=EW hiw;omega)
  rw [gD0]
  refine Ok.eq ?_ (by simp -implicitDefEqProofs only [Fa,AG,hk',decide_true,Option.bind_some,AB,hix,hld,Ql hiw,AE]<;>rfl)
  refine Ao (FZ W hzl hl') ?_
  rintro _ g8 ⟨b8,W8,ws8⟩
  simp only at W8 ws8
  exact(Ok.of (r:=(Ex.normal,[.int .i64 ((k+1:Nat):Int)],g8)) ⟨b8,rfl,rfl,W8,ws8⟩).eq (by simp -implicitDefEqProofs only [Ap,suc64 k (by omega),Option.bind_some])
 ·intro k g' hk'
  rw [gD0]
  simp -implicitDefEqProofs only [Fa,AG,hk',decide_false,Option.bind_some,AA]
 rintro _ us g8 ⟨rfl,b8,W8,ws8⟩
 simp only at W8 ws8
 have ws8:=ws7.trans ws8
 have j3:=ld g8 b8 ws8 3 _ rfl
 have c3:=cv64 (n:=m.cases.length) (by omega)
 refine Ok.eq ?_ (by simp -implicitDefEqProofs only [Al,reduceCtorEq,j3,lnC,c3,Nat.zero_add,AO,AF,Option.bind_some,AZ,AY,Ac,AX,AL,AH,AD,Ad,AQ,AE,AM,AC,if_true,if_false,Bool.false_eq_true,AJ,AP,AG,AR,AK,AU,Int.reduceEq,Int.reduceLT,Int.reduceLE,decide_true,decide_false,AB,AA,Ae,Bool.not_true,Bool.not_false,AW]<;>rfl)
 refine Ao (FZ W8 (u:=m.cases.length) (by omega) (by simp only [List.length_append];omega)) ?_
 rintro _ g9 ⟨b9,W9,ws9⟩
 simp only at W9 ws9
 have ws9:=ws8.trans ws9
 have j3:=ld g9 b9 ws9 3 _ rfl
 refine Ok.eq ?_ (by simp -implicitDefEqProofs only [j3,lnC,Nat.zero_add,AO,AF,Option.bind_some,AZ,AY,Ac,AX,AL,AH,AD,Ad,AQ,AE,AM,AC,if_true,if_false,Bool.false_eq_true,AJ,AP,AG,AR,AK,AU,Int.reduceEq,Int.reduceLT,Int.reduceLE,decide_true,decide_false,AB,AA,Ae,Bool.not_true,Bool.not_false,AW]<;>rfl)
 refine CJ (wloop (ex:=4) (enc:=casE) (xs:=m.cases) W9 (by omega) (by simp only [List.length_append];omega) ?_ ?_) ?_
 ·intro k i g' b' l' hi W hl'
  have hk:=(List.getElem?_eq_some_iff.1 hi).1
  have hk':(k:Int)<m.cases.length:=by omega
  obtain⟨bb,oo,_,hix,hla,_⟩:=(hC.mono W.same.next fun j hj=>W.same.get j hj (by simp)).at (i:=k) (r:=i.row) (by rw [List.getElem?_map,hi];rfl)
  have hiw:=hCw i (List.mem_of_getElem? hi)
  rw [gD0]
  refine Ok.eq ?_ (by simp -implicitDefEqProofs only [Fc,AG,hk',decide_true,Option.bind_some,AB,hix,hla]<;>rfl)
  refine EV (cs:=i.row) (n:=4) (by rfl) (by rfl) (Cas.sc i) fun g10 s10 n10 b10=>?_
  have m0:ldS g10 (.ptr (some (g'.next,0)))=some (.int .i64 i.kind):=by rw [Ai b10];rfl
  have m1:ldS g10 (.ptr (some (g'.next,1)))=some (.int .i64 i.chan):=by rw [Ai b10];rfl
  have m2:ldS g10 (.ptr (some (g'.next,2)))=some (.int .i64 i.val):=by rw [Ai b10];rfl
  have m3:ldS g10 (.ptr (some (g'.next,3)))=some (.int .i64 i.to):=by rw [Ai b10];rfl
  refine Ok.eq ?_ (by simp -implicitDefEqProofs only [m0,m1,m2,m3,Nat.zero_add,bs4,Af,AO,AF,Option.bind_some,AZ,AY,Ac,AX,AL,AH,AD,Ad,AQ,AE,AM,AC,if_true,if_false,Bool.false_eq_true,AJ,AP,AG,AR,AK,AU,Int.reduceEq,Int.reduceLT,Int.reduceLE,decide_true,decide_false,AB,AA,Ae,Bool.not_true,Bool.not_false,AW]<;>rfl)
  refine Ao (Kf (W.keep s10) (ns:=[i.kind,i.chan,i.val,i.to]) (by simp only [List.mem_cons,List.not_mem_nil,or_false,forall_eq_or_imp,forall_eq];exact hiw) (by simp) hl') ?_
  rintro _ g11 ⟨b11,W11,ws11⟩
  simp only at W11 ws11
  exact(Ok.of (r:=(Ex.normal,[.int .i64 ((k+1:Nat):Int)],g11)) ⟨b11,rfl,rfl,W11,WS.pre s10 ws11⟩).eq (by simp -implicitDefEqProofs only [Ap,suc64 k (by omega),Option.bind_some])
 ·intro k g' hk'
  rw [gD0]
  simp -implicitDefEqProofs only [Fc,AG,hk',decide_false,Option.bind_some,AA]
 rintro _ us g10 ⟨rfl,b10,W10,ws10⟩
 simp only at W10 ws10
 have ws10:=ws9.trans ws10
 have j4:=ld g10 b10 ws10 4 _ rfl
 have c4:=cv64 (n:=m.funcs.length) (by omega)
 refine Ok.eq ?_ (by simp -implicitDefEqProofs only [Al,reduceCtorEq,j4,lnF,c4,Nat.zero_add,AO,AF,Option.bind_some,AZ,AY,Ac,AX,AL,AH,AD,Ad,AQ,AE,AM,AC,if_true,if_false,Bool.false_eq_true,AJ,AP,AG,AR,AK,AU,Int.reduceEq,Int.reduceLT,Int.reduceLE,decide_true,decide_false,AB,AA,Ae,Bool.not_true,Bool.not_false,AW]<;>rfl)
 refine Ao (FZ W10 (u:=m.funcs.length) (by omega) (by simp only [List.length_append];omega)) ?_
 rintro _ g11 ⟨b11,W11,ws11⟩
 simp only at W11 ws11
 have ws11:=ws10.trans ws11
 have j4:=ld g11 b11 ws11 4 _ rfl
 refine Ok.eq ?_ (by simp -implicitDefEqProofs only [j4,lnF,Nat.zero_add,AO,AF,Option.bind_some,AZ,AY,Ac,AX,AL,AH,AD,Ad,AQ,AE,AM,AC,if_true,if_false,Bool.false_eq_true,AJ,AP,AG,AR,AK,AU,Int.reduceEq,Int.reduceLT,Int.reduceLE,decide_true,decide_false,AB,AA,Ae,Bool.not_true,Bool.not_false,AW]<;>rfl)
 refine CJ (wloop (ex:=6) (enc:=fnE) (xs:=m.funcs) W11 (by omega) (by simp only [List.length_append];omega) ?_ ?_) ?_
 ·intro k f g' b' l' hi W hl'
  have hk:=(List.getElem?_eq_some_iff.1 hi).1
  have hk':(k:Int)<m.funcs.length:=by omega
  have hdim:=sm.2.2.1 k f hi
  obtain⟨bb,oo,ks,co,mv,hlt,hix,FR,hla⟩:=hF.at' hi
  have hla':ldA 7 g' (.ptr (some (bb,oo)))=some (.agg [.int .i64 f.pa,.int .i64 f.ca,.int .i64 f.sl,.int .i64 f.re,ks,co,mv]):=by rw [← hla];simp only [ldA,loadN,W.same.get bb hlt (by simp)]
  have hsc:([AV.int .i64 f.pa,.int .i64 f.ca,.int .i64 f.sl,.int .i64 f.re,ks,co,mv]:List AV).all scalar=true:=FR.sc
  rw [gD0]
  refine Ok.eq ?_ (by simp -implicitDefEqProofs only [FV,AG,hk',decide_true,Option.bind_some,AB,hix,hla']<;>rfl)
  refine EV (cs:=[AV.int .i64 f.pa,.int .i64 f.ca,.int .i64 f.sl,.int .i64 f.re,ks,co,mv]) (n:=7) (by rfl) (by rfl) hsc fun g12 s12 n12 b12=>?_
  have la:ldA 7 g12 (.ptr (some (g'.next,0)))=some (.agg [AV.int .i64 f.pa,.int .i64 f.ca,.int .i64 f.sl,.int .i64 f.re,ks,co,mv]):=Ck b12 rfl
  refine Ok.eq ?_ (by simp -implicitDefEqProofs only [la,Option.bind_some]<;>rfl)
  refine Ao (SG (W.keep s12) FR ⟨by omega,by omega,by omega⟩ hl') ?_
  rintro _ g13 ⟨b13,W13,ws13⟩
  simp only at W13 ws13
  exact(Ok.of (r:=(Ex.normal,[.int .i64 ((k+1:Nat):Int)],g13)) ⟨b13,rfl,rfl,W13,WS.pre s12 ws13⟩).eq (by simp -implicitDefEqProofs only [Ap,suc64 k (by omega),Option.bind_some])
 ·intro k g' hk'
  rw [gD0]
  simp -implicitDefEqProofs only [FV,AG,hk',decide_false,Option.bind_some,AA]
 rintro _ us g12 ⟨rfl,b12,W12,ws12⟩
 simp only at W12 ws12
 have ws12:=ws11.trans ws12
 have j5:=ld g12 b12 ws12 5 _ rfl
 refine Ok.eq ?_ (by simp -implicitDefEqProofs only [Al,reduceCtorEq,j5,Nat.zero_add,bs1,Af,AO,AF,Option.bind_some,AZ,AY,Ac,AX,AL,AH,AD,Ad,AQ,AE,AM,AC,if_true,if_false,Bool.false_eq_true,AJ,AP,AG,AR,AK,AU,Int.reduceEq,Int.reduceLT,Int.reduceLE,decide_true,decide_false,AB,AA,Ae,Bool.not_true,Bool.not_false,AW]<;>rfl)
 refine Ao (Kf W12 (ns:=[m.main]) (by simpa using wM) (by simp) (by simp only [List.length_append];omega)) ?_
 rintro _ g13 ⟨b13,W13,ws13⟩
 simp only at W13 ws13
 simp only [List.append_assoc] at W13 ⊢
 have key:∀ L:List Nat,Wri h g13 p b13 L→Ok ((nilV (.ptr (some (p,0)))).bind fun t110=>(faP 0 t110).bind fun t111=>(ldS g13 t111).bind fun t112=>some (t112,g13)) fun r=>Same [] h r.2∧∃ b c,h.next≤b∧b<r.2.next∧r.1 = .sl (some (b,0)) L.length c∧(c = .un 1∨c = .ex L.length)∧r.2.get b=some (.cells true (byB L)):=by
  intro L W
  obtain⟨c,x1,x2⟩:=W.at_
  have lp:ldS g13 (.ptr (some (p,0)))=some (.sl (some (b13,0)) L.length c):=by rw [Ai x1];rfl
  exact Ah (v:=.sl (some (b13,0)) L.length c) (g:=g13) (by simp -implicitDefEqProofs only [lp,Nat.zero_add,AO,AF,Option.bind_some,AZ,AY,Ac,AX,AL,AH,AD,Ad,AQ,AE,AM,AC,if_true,if_false,Bool.false_eq_true,AJ,AP,AG,AR,AK,AU,Int.reduceEq,Int.reduceLT,Int.reduceLE,decide_true,decide_false,AB,AA,Ae,Bool.not_true,Bool.not_false,AW]) ⟨W.same,b13,c,W.newb,W.ltb,rfl,x2,W.blk⟩
 exact key _ W13
set_option linter.all false
attribute [local congr] BI D1 Dy D2 Bu D3 Dz Aw Av
theorem TA {x:Nat}(h:x < 256):binP .and (.int .u8 (x:Int)) (.int .u8 127)=some (.int .u8 ((x % 128:Nat):Int)):=by
 rw [Eg _ (by decide) (by decide)]
 have e:intBin .and .u8 (x:Int) 127=some (.int .u8 (IntKind.u8.wrap ((BitVec.ofInt 8 (x:Int) &&& BitVec.ofInt 8 127).toNat:Int))):=rfl
 have e2:(BitVec.ofInt 8 (x:Int) &&& BitVec.ofInt 8 127).toNat=x % 128:=by
  rw [BitVec.toNat_and,BitVec.toNat_ofInt,show(BitVec.ofInt 8 127).toNat=2 ^ 7 - 1 from by decide,Nat.and_two_pow_sub_one_eq_mod]
  omega
 rw [e,e2]
 congr 2
 simp [IntKind.wrap,IntKind.bits,IntKind.signed]
 omega
theorem TV {x:Nat}(h:x < 18446744073709551616):cvI .u64 (.int .u8 (x:Int))=some (.int .u64 (x:Int)):=by rw [Fs,Ff (by omega) (by omega)]
theorem TG {y i:Nat}(hi:i≤9)(h:y * 128 ^ i < 2 ^ 64):binP .shl (.int .u64 (y:Int)) (.int .u64 ((7*i:Nat):Int))=some (.int .u64 ((y * 128 ^ i:Nat):Int)):=by
 have e:binP .shl (.int .u64 (y:Int)) (.int .u64 ((7*i:Nat):Int))=shiftA .shl .u64 (y:Int) ((7*i:Nat):Int):=rfl
 have hb:IntKind.u64.bits=64:=rfl
 rw [e,shiftA,if_neg (by omega)]
 simp only [hb]
 rw [show min (((7*i:Nat):Int)).toNat 64=7*i by omega]
 have e2:(y:Int) * 2 ^ (7*i)=((y * 128 ^ i:Nat):Int):=by
  rw [show(128:Nat)=2 ^ 7 from rfl,← Nat.pow_mul];push_cast;rfl
 rw [e2,Ff (by omega) (by omega)]
theorem TW {a y i:Nat}(ha:a < 128 ^ i)(h:a+y * 128 ^ i < 2 ^ 64):binP .or (.int .u64 (a:Int)) (.int .u64 ((y * 128 ^ i:Nat):Int))=some (.int .u64 ((a+y * 128 ^ i:Nat):Int)):=by
 rw [PL]
 congr 2
 rw [BitVec.toNat_or,Iv a (by omega),Iv _ (by omega)]
 have e:128 ^ i=2 ^ (7*i):=by rw [show(128:Nat)=2 ^ 7 from rfl,← Nat.pow_mul]
 rw [e] at ha ⊢
 have:=Nat.two_pow_add_eq_or_of_lt ha y
 rw [Nat.or_comm,Nat.mul_comm y,← this]
 omega
theorem RU {g:Heap}{v:AV}{bs:List Nat}{u n:Nat}(V:RdW g 1 v (byB bs) bs.length)(hb:∀ x∈bs,x < 256)(hl:bs.length≤2 ^ 40)(ht:takeB 0 0 bs=some (u,n)) :
  Ok (Fv v g) fun r=>r.2=g∧r.1 = .tup [.int .u64 (u:Int),.int .i64 (n:Int)]∧0<n∧n≤bs.length:=by
 have lnv:=V.lnL
 refine Ok.eq ?_ (by simp -implicitDefEqProofs only [Fv,lnv,Option.bind_some]<;>rfl)
 refine CJ (P:=fun r=>r.2.2=g∧r.1 = .ret∧r.2.1.getD 0 .bot = .int .u64 (u:Int)∧r.2.1.getD 1 .bot = .int .i64 (n:Int)∧0<n∧n≤bs.length) ?_ ?_
 ·refine BF (fun q us g'=>∃ i a:Nat,us = [.int .u64 0,.int .i64 0,.int .u64 (a:Int),.int .i64 (i:Int)]∧q+i=bs.length∧g'=g∧i≤9∧a < 128 ^ i∧takeB i a (bs.drop i)=some (u,n)) ?_ (n:=bs.length) (by omega) ⟨0,0,rfl,rfl,rfl,by omega,by simp,by simpa using ht⟩
  rintro q us g' ⟨i,a,rfl,hq,rfl,h9,ha,he⟩
  rw [gD0,gD1,gD2,gD3]
  by_cases hi:i<bs.length
  ·have hi':(i:Int)<bs.length:=by omega
   obtain⟨x,hx⟩:∃ x,bs[i]?=some x:=⟨_,List.getElem?_eq_getElem hi⟩
   have hx8:=hb x (List.mem_of_getElem? hx)
   obtain⟨b,o,_,hix,hla⟩:=V.at (i:=i) (x:=.int .u8 (x:Int)) (by simp [byB,hx])
   have ed:bs.drop i=x::bs.drop (i+1):=by
    rw [List.drop_eq_getElem_cons hi]
    congr 1
    rw [List.getElem?_eq_getElem hi] at hx;exact Option.some.inj hx
   rw [ed,takeB] at he
   have h9x : ¬ (i=9∧1<x):=fun h=>by rw [if_pos h] at he;cases he
   rw [if_neg h9x] at he
   have hpow:x % 128 * 128 ^ i < 2 ^ 64∧a+x % 128 * 128 ^ i < 2 ^ 64∧(i < 9→a+x % 128 * 128 ^ i < 128 ^ (i+1)):=by
    rcases (by omega:i=0∨i=1∨i=2∨i=3∨i=4∨i=5∨i=6∨i=7∨i=8∨i=9) with h | h | h | h | h | h | h | h | h | h<;>subst h<;>simp only [Nat.reducePow,Nat.reduceAdd] at ha ⊢ <;> omega
   have w7:IntKind.u64.wrap (7*(i:Int))=((7*i:Nat):Int):=by rw [Ff (by omega) (by omega)];push_cast;rfl
   have wi:cvI .u64 (.int .i64 (i:Int))=some (.int .u64 (i:Int)):=cv64 (by omega)
   have esh:=TG h9 hpow.1
   have eor:=TW ha hpow.2.1
   have hm:x % 128 < 18446744073709551616:=by omega
   have ecv:=TV hm
   have ean:=TA hx8
   by_cases c1:(x:Int) < 128
   ·rw [if_pos (by omega)] at he
    have hz : ¬ (x=0∧0<i):=fun h=>by rw [if_pos h] at he;cases he
    rw [if_neg hz] at he
    have hu:a+x % 128 * 128 ^ i=u∧i+1=n:=by injection he with he;injection he with h1 h2;exact⟨h1,h2⟩
    obtain⟨rfl,rfl⟩:=hu
    have res:∀ y,y=some (Ex.ret,[AV.int .u64 ((a+x % 128 * 128 ^ i:Nat):Int),.int .i64 ((i+1:Nat):Int),.int .u64 ((a+x % 128 * 128 ^ i:Nat):Int),.int .i64 (i:Int)],g')→Ok y fun r=>(r.1 = .normal∧∃ m,m<q∧∃ j b:Nat,r.2.1 = [.int .u64 0,.int .i64 0,.int .u64 (b:Int),.int .i64 (j:Int)]∧m+j=bs.length∧r.2.2=g'∧j≤9∧b < 128 ^ j∧takeB j b (bs.drop j)=some (a+x % 128 * 128 ^ i,i+1))∨(r.1≠.normal∧r.2.2=g'∧r.1 = .ret∧r.2.1.getD 0 .bot = .int .u64 ((a+x % 128 * 128 ^ i:Nat):Int)∧r.2.1.getD 1 .bot = .int .i64 ((i+1:Nat):Int)∧0<i+1∧i+1≤bs.length):=fun y hy=>by
     rw [hy];exact Ok.of (.inr ⟨by simp,rfl,rfl,rfl,rfl,by omega,by omega⟩)
    by_cases c9:(i:Int)=9
    ·have c9:((i:Int)=9)=True:=eq_true c9
     have cx1 : ¬ (1:Int)<x:=by have:=of_eq_true c9;omega
     by_cases c0:(x:Int)=0
     ·exfalso;have:=of_eq_true c9;omega
     ·exact res _ (by simp -implicitDefEqProofs only [EX,hi',hix,hla,ean,ecv,wi,Lv,w7,esh,eor,c9,cx1,c1,c0,Ap,suc64 i (by omega),AO,AF,Option.bind_some,AZ,AY,Ac,AX,AL,AH,AD,Ad,AQ,AE,AM,AC,if_true,if_false,Bool.false_eq_true,AJ,AP,AG,AR,AK,AU,Int.reduceEq,Int.reduceLT,Int.reduceLE,decide_true,decide_false,AB,AA,Ae,Bool.not_true,Bool.not_false,AW])
    ·by_cases c0:(x:Int)=0
     ·have ci : ¬ (0:Int)<i:=by omega
      have c0:((x:Int)=0)=True:=eq_true c0
      exact res _ (by simp -implicitDefEqProofs only [EX,hi',hix,hla,ean,ecv,wi,Lv,w7,esh,eor,c9,c1,c0,ci,Ap,suc64 i (by omega),AO,AF,Option.bind_some,AZ,AY,Ac,AX,AL,AH,AD,Ad,AQ,AE,AM,AC,if_true,if_false,Bool.false_eq_true,AJ,AP,AG,AR,AK,AU,Int.reduceEq,Int.reduceLT,Int.reduceLE,decide_true,decide_false,AB,AA,Ae,Bool.not_true,Bool.not_false,AW])
     ·exact res _ (by simp -implicitDefEqProofs only [EX,hi',hix,hla,ean,ecv,wi,Lv,w7,esh,eor,c9,c1,c0,Ap,suc64 i (by omega),AO,AF,Option.bind_some,AZ,AY,Ac,AX,AL,AH,AD,Ad,AQ,AE,AM,AC,if_true,if_false,Bool.false_eq_true,AJ,AP,AG,AR,AK,AU,Int.reduceEq,Int.reduceLT,Int.reduceLE,decide_true,decide_false,AB,AA,Ae,Bool.not_true,Bool.not_false,AW])
   ·rw [if_neg (by omega)] at he
    have hi9:i < 9:=by
     rcases (by omega:i < 9∨i=9) with h | h
     ·exact h
     ·exact absurd ⟨h,by omega⟩ h9x
    have c9 : ¬ (i:Int)=9:=by omega
    have ex:(x % 128)=x % 128:=rfl
    exact(Ok.of (r:=(Ex.normal,[.int .u64 0,.int .i64 0,.int .u64 ((a+x % 128 * 128 ^ i:Nat):Int),.int .i64 ((i+1:Nat):Int)],g')) (.inl ⟨rfl,q - 1,by omega,i+1,_,rfl,by omega,rfl,by omega,hpow.2.2 hi9,he⟩)).eq (by simp -implicitDefEqProofs only [EX,hi',hix,hla,ean,ecv,wi,Lv,w7,esh,eor,c9,c1,Ap,suc64 i (by omega),AO,AF,Option.bind_some,AZ,AY,Ac,AX,AL,AH,AD,Ad,AQ,AE,AM,AC,if_true,if_false,Bool.false_eq_true,AJ,AP,AG,AR,AK,AU,Int.reduceEq,Int.reduceLT,Int.reduceLE,decide_true,decide_false,AB,AA,Ae,Bool.not_true,Bool.not_false,AW])
  ·rw [List.drop_eq_nil_of_le (by omega),takeB] at he
   cases he
 ·rintro _ us g' ⟨hg,rfl,h0,h1,hn⟩
  simp only at hg h0 h1
  subst hg
  exact Ah (v:=.tup [.int .u64 (u:Int),.int .i64 (n:Int)]) (g:=g') (by simp -implicitDefEqProofs only [reduceCtorEq,if_false,Cm,Dx,h0,h1]) ⟨rfl,rfl,hn⟩
structure Rdr (h g:Heap)(q b:Nat)(bs:List Nat)(n:Nat):Prop where
 at_:∃ o c,g.get q=some (.cells true [.sl (some (b,o)) (bs.length-n) c,.bool false])∧(n<bs.length→o=n)∧(c = .un 1∨∃ k,c = .ex k∧bs.length-n≤k)
 blk:∃ w,g.get b=some (.cells w (byB bs))
 by_:∀ x∈bs,x < 256
 len:bs.length≤2 ^ 40
 le:n≤bs.length
 ltb:b<g.next
 ltq:q<g.next
 ne:b≠q
 newq:h.next≤q
 same:Same [] h g
theorem Rdr.keep {h g g':Heap}{q b n:Nat}{bs:List Nat}(H:Rdr h g q b bs n)(s:Same [] g g'):Rdr h g' q b bs n:=by
 obtain⟨o,c,h1,h2⟩:=H.at_
 obtain⟨w,h3⟩:=H.blk
 exact⟨⟨o,c,(s.get q H.ltq (by simp)).trans h1,h2⟩,⟨w,(s.get b H.ltb (by simp)).trans h3⟩,H.by_,H.len,H.le,Nat.lt_of_lt_of_le H.ltb s.next,Nat.lt_of_lt_of_le H.ltq s.next,H.ne,H.newq,H.same.trans s⟩
theorem Rdr.keep' {h g g':Heap}{q b n:Nat}{bs:List Nat}{T:List Nat}(H:Rdr h g q b bs n)(s:Same T g g')(hq:q∉T)(hb:b∉T)(hT:∀ j∈T,h.next≤j):Rdr h g' q b bs n:=by
 obtain⟨o,c,h1,h2⟩:=H.at_
 obtain⟨w,h3⟩:=H.blk
 exact⟨⟨o,c,(s.get q H.ltq hq).trans h1,h2⟩,⟨w,(s.get b H.ltb hb).trans h3⟩,H.by_,H.len,H.le,Nat.lt_of_lt_of_le H.ltb s.next,Nat.lt_of_lt_of_le H.ltq s.next,H.ne,H.newq,H.same.old s fun j hj=>.inr (hT j hj)⟩
theorem Om {b o n lo:Nat}{c:Cap}(hlo:lo≤n)(hc:c = .un 1∨∃ k,c = .ex k∧n≤k):∃ o' c',slcP 1 (.sl (some (b,o)) n c) (some (.int .i64 (lo:Int))) none none=some (.sl (some (b,o')) (n-lo) c')∧(lo<n→o'=o+lo)∧(c' = .un 1∨∃ k,c' = .ex k∧n-lo≤k):=by
 rcases hc with rfl | ⟨k,rfl,hk⟩
 ·refine⟨o+lo,.un 1,?_,fun _=>rfl,.inl rfl⟩
  simp only [slcP,sliceUn,ne_eq,not_true_eq_false,if_false,highA,lowA,boundA,Option.bind_some]
  rw [if_pos ⟨by omega,by omega⟩]
  simp only [Option.bind_some,Int.toNat_natCast,Nat.mul_one,addA,Option.map_some]
 ·by_cases hkl:k=lo
  ·refine⟨o,.ex (k-lo),?_,fun h=>by omega,.inr ⟨_,rfl,by omega⟩⟩
   simp only [slcP,sliceEx,mostA,highA,lowA,boundA,Option.bind_some]
   rw [if_pos ⟨by omega,by omega⟩]
   simp only [Option.bind_some,Int.toNat_natCast]
   rw [if_pos hkl]
  ·refine⟨o+lo,.ex (k-lo),?_,fun _=>rfl,.inr ⟨_,rfl,by omega⟩⟩
   simp only [slcP,sliceEx,mostA,highA,lowA,boundA,Option.bind_some]
   rw [if_pos ⟨by omega,by omega⟩]
   simp only [Option.bind_some,Int.toNat_natCast,Nat.mul_one,addA,Option.map_some]
   rw [if_neg hkl]
theorem Rdr.rd {h g:Heap}{q b n:Nat}{bs:List Nat}(H:Rdr h g q b bs n){o:Nat}{c:Cap}(ho:n<bs.length→o=n):RdW g 1 (.sl (some (b,o)) (bs.length-n) c) (byB (bs.drop n)) (bs.length-n):=by
 obtain⟨w,h3⟩:=H.blk
 refine⟨by simp [byB],.inr ⟨b,o,c,rfl,H.ltb,fun hne=>⟨w,byB (bs.take n),[],?_,?_⟩⟩⟩
 ·have:=H.le
  rw [PD,List.length_take,ho (by omega)];omega
 ·rw [h3,List.append_nil]
  congr 2
  unfold byB
  rw [← List.map_append,List.take_append_drop]
theorem I4 {h g:Heap}{q b n u:Nat}{bs rest:List Nat}(H:Rdr h g q b bs n)(hd:bs.drop n=numB u++rest)(hu:u < 2 ^ 64) :
  Ok (Bq (.ptr (some (q,0))) g) fun r=>r.1 = .int .u64 (u:Int)∧Rdr h r.2 q b bs (n+(numB u).length)∧Same [q] g r.2:=by
 obtain⟨o,c,h1,h2,h3⟩:=H.at_
 have l0:ldS g (.ptr (some (q,0)))=some (.sl (some (b,o)) (bs.length-n) c):=by rw [Ai h1];rfl
 have l1:ldS g (.ptr (some (q,1)))=some (.bool false):=by rw [Ai h1];rfl
 have V:=H.rd (c:=c) h2
 have hdl:(bs.drop n).length=bs.length-n:=by simp
 have hll:(numB u).length≤bs.length-n:=by rw [← hdl,hd,List.length_append];omega
 have hpos:=HK u
 have hlen:=H.len
 rw [← hdl] at V
 refine Ok.eq ?_ (by simp -implicitDefEqProofs only [Bq,l0,Nat.zero_add,AO,AF,Option.bind_some,AZ,AY,Ac,AX,AL,AH,AD,Ad,AQ,AE,AM,AC,if_true,if_false,Bool.false_eq_true,AJ,AP,AG,AR,AK,AU,Int.reduceEq,Int.reduceLT,Int.reduceLE,decide_true,decide_false,AB,AA,Ae,Bool.not_true,Bool.not_false,AW]<;>rfl)
 rw [← hdl]
 refine Ao (RU V (fun x hx=>H.by_ x (List.mem_of_mem_drop hx)) (by rw [hdl];omega) (by rw [hd];exact Pj hu rest)) ?_
 rintro _ g1 ⟨hg1,rfl,_,_⟩
 simp only at hg1
 subst hg1
 obtain⟨o',c',e1,e2,e3⟩:=Om (b:=b) (o:=o) (n:=bs.length-n) (lo:=(numB u).length) (c:=c) hll h3
 have hnz : ¬ ((numB u).length:Int)=0:=by omega
 have st:=Cl (v:=.sl (some (b,o')) (bs.length-n-(numB u).length) c') (o:=0) h1 (by simp) rfl
 have er:([AV.sl (some (b,o)) (bs.length-n) c,.bool false]:List AV).set 0 (.sl (some (b,o')) (bs.length-n-(numB u).length) c') = [.sl (some (b,o')) (bs.length-n-(numB u).length) c',.bool false]:=rfl
 rw [er] at st
 have s:Same [q] g1 (g1.put q (some (.cells true [.sl (some (b,o')) (bs.length-n-(numB u).length) c',.bool false]))):=Same.put _ _ _
 obtain⟨w,hblk⟩:=H.blk
 refine Ah (v:=.int .u64 (u:Int)) (g:=g1.put q (some (.cells true [.sl (some (b,o')) (bs.length-n-(numB u).length) c',.bool false]))) (by simp -implicitDefEqProofs only [Br,List.getElem?_cons_zero,List.getElem?_cons_succ,hnz,ES,l0,l1,e1,st,Nat.zero_add,AO,AF,Option.bind_some,AZ,AY,Ac,AX,AL,AH,AD,Ad,AQ,AE,AM,AC,if_true,if_false,Bool.false_eq_true,AJ,AP,AG,AR,AK,AU,Int.reduceEq,Int.reduceLT,Int.reduceLE,decide_true,decide_false,AB,AA,Ae,Bool.not_true,Bool.not_false,AW]) ⟨rfl,⟨⟨o',c',by rw [An,Nat.sub_sub],fun hlt=>?_,?_⟩,⟨w,by rw [Bd H.ne];exact hblk⟩,H.by_,H.len,by omega,H.ltb,H.ltq,H.ne,H.newq,H.same.old s fun j hj=>.inr (by simp at hj;subst hj;exact H.newq)⟩,s⟩
 ·have:=h2 (by omega);have:=e2 (by omega);omega
 ·rw [← Nat.sub_sub];exact e3
theorem Qo {u:Nat}(h:u < 2 ^ 64)(g:Heap):Fi (.int .u64 (u:Int)) g=some (.int .i64 (zagI u),g):=by
 have:=Qh h
 unfold Fi
 have e2:binP .shr (.int .u64 (u:Int)) (.int .u64 1)=some (.int .u64 ((u:Int).fdiv (2 ^ 1))):=rfl
 have e3:∀ n:Int,cvI .i64 (.int .u64 n)=some (.int .i64 (IntKind.i64.wrap n)):=fun n=>rfl
 have e4:∀ n:Int,unA .neg (.int .i64 n)=some (.int .i64 (IntKind.i64.wrap (0-n))):=fun n=>rfl
 rw [e2,Option.bind_some,e3,Option.bind_some,Lq,Option.bind_some,e3,Option.bind_some,e4,Option.bind_some] at this ⊢
 rw [this];rfl
theorem EO {h g:Heap}{q b n:Nat}{v:Int}{bs rest:List Nat}(H:Rdr h g q b bs n)(hd:bs.drop n=numB (zigN v)++rest)(hv:wfI v) :
  Ok (Au (.ptr (some (q,0))) g) fun r=>r.1 = .int .i64 v∧Rdr h r.2 q b bs (n+(numB (zigN v)).length)∧Same [q] g r.2:=by
 have hz:zigN v < 2 ^ 64:=LG (by have:=EW hv;omega) (by have:=EW hv;omega)
 refine Ok.eq ?_ (by simp -implicitDefEqProofs only [Au]<;>rfl)
 refine Ao (I4 H hd hz) ?_
 rintro _ g1 ⟨rfl,R,s⟩
 exact Ah (v:=.int .i64 v) (g:=g1) (by simp -implicitDefEqProofs only [Qo hz,AE,Ob]) ⟨rfl,R,s⟩
theorem QS {h g:Heap}{q b n:Nat}{v:Bool}{bs rest:List Nat}(H:Rdr h g q b bs n)(hd:bs.drop n=numB (flgN v)++rest) :
  Ok (C6 (.ptr (some (q,0))) g) fun r=>r.1 = .bool v∧Rdr h r.2 q b bs (n+(numB (flgN v)).length)∧Same [q] g r.2:=by
 refine Ok.eq ?_ (by simp -implicitDefEqProofs only [C6]<;>rfl)
 refine Ao (I4 H hd (by cases v<;>simp [flgN])) ?_
 rintro _ g1 ⟨rfl,R,s⟩
 simp only at R s
 obtain⟨o,c,h1,h2⟩:=R.at_
 have l1:ldS g1 (.ptr (some (q,1)))=some (.bool false):=by rw [Ai h1];rfl
 have st:=Cl (v:=.bool false) (o:=1) h1 (by simp) rfl
 have er:∀ x:AV,([x,.bool false]:List AV).set 1 (.bool false) = [x,.bool false]:=fun x=>rfl
 rw [er] at st
 have s2:Same [q] g1 (g1.put q (some (.cells true [.sl (some (b,o)) (bs.length-(n+(numB (flgN v)).length)) c,.bool false]))):=Same.put _ _ _
 obtain⟨w,hblk⟩:=R.blk
 have hn1 : ¬ (1:Int)<((flgN v:Nat):Int):=by cases v<;>simp [flgN]
 have hv:decide (((flgN v:Nat):Int)=1)=v:=by cases v<;>simp [flgN]
 exact Ah (v:=.bool v) (g:=g1.put q (some (.cells true [.sl (some (b,o)) (bs.length-(n+(numB (flgN v)).length)) c,.bool false]))) (by simp -implicitDefEqProofs only [l1,hn1,hv,st,Nat.zero_add,AO,AF,Option.bind_some,AZ,AY,Ac,AX,AL,AH,AD,Ad,AQ,AE,AM,AC,if_true,if_false,Bool.false_eq_true,AJ,AP,AG,AR,AK,AU,Int.reduceEq,Int.reduceLT,Int.reduceLE,decide_true,decide_false,AB,AA,Ae,Bool.not_true,Bool.not_false,AW]) ⟨rfl,⟨⟨o,c,An,h2⟩,⟨w,by rw [Bd R.ne];exact hblk⟩,R.by_,R.len,R.le,R.ltb,R.ltq,R.ne,R.newq,R.same.old s2 fun j hj=>.inr (by simp at hj;subst hj;exact R.newq)⟩,s.trans s2⟩
theorem HH {h g:Heap}{q b n k:Nat}{bs rest:List Nat}(H:Rdr h g q b bs n)(hd:bs.drop n=numB k++rest)(hk:k≤rest.length) :
  Ok (Bb (.ptr (some (q,0))) g) fun r=>r.1 = .int .i64 (k:Int)∧Rdr h r.2 q b bs (n+(numB k).length)∧Same [q] g r.2:=by
 have hlen:=H.len
 have hdl:(bs.drop n).length=bs.length-n:=by simp
 have hrl:rest.length=bs.length-(n+(numB k).length):=by rw [hd,List.length_append] at hdl;omega
 have hk64:k < 2 ^ 64:=by omega
 refine Ok.eq ?_ (by simp -implicitDefEqProofs only [Bb]<;>rfl)
 refine Ao (I4 H hd hk64) ?_
 rintro _ g1 ⟨rfl,R,s⟩
 simp only at R s
 obtain⟨o,c,h1,h2⟩:=R.at_
 have l0:ldS g1 (.ptr (some (q,0)))=some (.sl (some (b,o)) (bs.length-(n+(numB k).length)) c):=by rw [Ai h1];rfl
 have l1:ldS g1 (.ptr (some (q,1)))=some (.bool false):=by rw [Ai h1];rfl
 have ln:lnL (.sl (some (b,o)) (bs.length-(n+(numB k).length)) c)=some (.int .i64 ((bs.length-(n+(numB k).length):Nat):Int)):=by simp
 have c1:=cv64 (n:=bs.length-(n+(numB k).length)) (by omega)
 have hle : ¬ (((bs.length-(n+(numB k).length):Nat):Int)<(k:Int)):=by omega
 have c2:cvI .i64 (.int .u64 (k:Int))=some (.int .i64 (k:Int)):=by rw [Fs,B9 (by omega) (by omega)]
 exact Ah (v:=.int .i64 (k:Int)) (g:=g1) (by simp -implicitDefEqProofs only [l0,l1,ln,c1,hle,c2,EC,Nat.zero_add,AO,AF,Option.bind_some,AZ,AY,Ac,AX,AL,AH,AD,Ad,AQ,AE,AM,AC,if_true,if_false,Bool.false_eq_true,AJ,AP,AG,AR,AK,AU,Int.reduceEq,Int.reduceLT,Int.reduceLE,decide_true,decide_false,AB,AA,Ae,Bool.not_true,Bool.not_false,AW]) ⟨rfl,R,s⟩
end Go.Ab.F
