import Derived.Test.YtdmgkkcjnmmfmaaGreatFrb
import Derived.Test.YtdmgkkcjnmmfmaaGreatKit
namespace Go.Ab.F
open Go Go.Ab
set_option linter.all false
set_option linter.all false
attribute [local congr] BI D1 Dy D2 Bu D3 Dz Aw Av
structure Whole (f:Fn):Prop where
 a1:0≤f.pa
 a2:0≤f.ca
 a3:f.ca≤62
 a4:0≤f.sl
 a5:f.sl≤64
 a6:f.pa≤f.sl
 a7:f.ca≤f.sl-f.pa
 a8:(f.kinds.length:Int)=f.sl
 a9:0≤f.re
 a10:f.re≤2
 a11:(1:Int)≤f.code.length
 a12:(f.code.length:Int)≤4096
 a13:(f.maps.length:Int)=f.code.length
instance (f:Fn):Decidable (Whole f):=decidable_of_iff ((0≤f.pa)∧(0≤f.ca)∧(f.ca≤62)∧(0≤f.sl)∧(f.sl≤64)∧(f.pa≤f.sl)∧(f.ca≤f.sl-f.pa)∧((f.kinds.length:Int)=f.sl)∧(0≤f.re)∧(f.re≤2)∧((1:Int)≤f.code.length)∧((f.code.length:Int)≤4096)∧((f.maps.length:Int)=f.code.length)) ⟨fun⟨a1,a2,a3,a4,a5,a6,a7,a8,a9,a10,a11,a12,a13⟩=>⟨a1,a2,a3,a4,a5,a6,a7,a8,a9,a10,a11,a12,a13⟩,fun H=>⟨H.a1,H.a2,H.a3,H.a4,H.a5,H.a6,H.a7,H.a8,H.a9,H.a10,H.a11,H.a12,H.a13⟩⟩
theorem P2 {h:Heap}{r:List AV}{f:Fn}(G:FnRd h r f):Ok (BO (.agg r) h) fun r=>r.1 = .bool (decide (Whole f))∧Same [] h r.2:=by
 obtain⟨kv,cv,mv,rfl,hbx,hb⟩:=G.box
 have FB:=hb h (Same.refl _ _)
 obtain⟨g,hg⟩:∃ g,g=h.new (.cells true [.int .i64 f.pa,.int .i64 f.ca,.int .i64 f.sl,.int .i64 f.re,kv,cv,mv]):=⟨_,rfl⟩
 have s:Same [] h g:=by rw [hg];exact Same.new _ _
 have b:g.get h.next=some (.cells true [.int .i64 f.pa,.int .i64 f.ca,.int .i64 f.sl,.int .i64 f.re,kv,cv,mv]):=by rw [hg];exact Am
 have p0:ldS g (.ptr (some (h.next,0+0)))=some (.int .i64 f.pa):=by rw [Ai b];rfl
 have p1:ldS g (.ptr (some (h.next,0+1)))=some (.int .i64 f.ca):=by rw [Ai b];rfl
 have p2:ldS g (.ptr (some (h.next,0+2)))=some (.int .i64 f.sl):=by rw [Ai b];rfl
 have p3:ldS g (.ptr (some (h.next,0+3)))=some (.int .i64 f.re):=by rw [Ai b];rfl
 have l4:ldS g (.ptr (some (h.next,0+4)))=some kv:=by rw [Ai b];rfl
 have l5:ldS g (.ptr (some (h.next,0+5)))=some cv:=by rw [Ai b];rfl
 have l6:ldS g (.ptr (some (h.next,0+6)))=some mv:=by rw [Ai b];rfl
 have ln4:=FB.ln4
 have ln5:=FB.ln5
 have ln6:lnL mv=some (.int .i64 f.maps.length):=by
  obtain⟨_,_,_,e,_,_,h3,_⟩:=G
  cases e
  exact h3.lnL
 by_cases a1:0≤f.pa
 case neg=>
  exact Ah (v:=.bool false) (g:=g) (by simp -implicitDefEqProofs only [BO,hbx,Af,← hg,AF,p0,p1,p2,p3,l4,l5,l6,ln4,ln5,ln6,Option.bind_some,AZ,Ac,AH,AD,AE,AC,if_true,if_false,Bool.false_eq_true,AJ,AP,AK,decide_true,decide_false,a1]) ⟨by rw [decide_eq_false fun H=>a1 H.a1],s⟩
 by_cases a2:0≤f.ca
 case neg=>
  exact Ah (v:=.bool false) (g:=g) (by simp -implicitDefEqProofs only [BO,hbx,Af,← hg,AF,p0,p1,p2,p3,l4,l5,l6,ln4,ln5,ln6,Option.bind_some,AZ,Ac,AH,AD,AE,AC,if_true,if_false,Bool.false_eq_true,AJ,AP,AK,decide_true,decide_false,a1,a2]) ⟨by rw [decide_eq_false fun H=>a2 H.a2],s⟩
 by_cases a3:f.ca≤62
 case neg=>
  exact Ah (v:=.bool false) (g:=g) (by simp -implicitDefEqProofs only [BO,hbx,Af,← hg,AF,p0,p1,p2,p3,l4,l5,l6,ln4,ln5,ln6,Option.bind_some,AZ,Ac,AH,AD,AE,AC,if_true,if_false,Bool.false_eq_true,AJ,AP,AK,decide_true,decide_false,a1,a2,a3]) ⟨by rw [decide_eq_false fun H=>a3 H.a3],s⟩
 by_cases a4:0≤f.sl
 case neg=>
  exact Ah (v:=.bool false) (g:=g) (by simp -implicitDefEqProofs only [BO,hbx,Af,← hg,AF,p0,p1,p2,p3,l4,l5,l6,ln4,ln5,ln6,Option.bind_some,AZ,Ac,AH,AD,AE,AC,if_true,if_false,Bool.false_eq_true,AJ,AP,AK,decide_true,decide_false,a1,a2,a3,a4]) ⟨by rw [decide_eq_false fun H=>a4 H.a4],s⟩
 by_cases a5:f.sl≤64
 case neg=>
  exact Ah (v:=.bool false) (g:=g) (by simp -implicitDefEqProofs only [BO,hbx,Af,← hg,AF,p0,p1,p2,p3,l4,l5,l6,ln4,ln5,ln6,Option.bind_some,AZ,Ac,AH,AD,AE,AC,if_true,if_false,Bool.false_eq_true,AJ,AP,AK,decide_true,decide_false,a1,a2,a3,a4,a5]) ⟨by rw [decide_eq_false fun H=>a5 H.a5],s⟩
 by_cases a6:f.pa≤f.sl
 case neg=>
  exact Ah (v:=.bool false) (g:=g) (by simp -implicitDefEqProofs only [BO,hbx,Af,← hg,AF,p0,p1,p2,p3,l4,l5,l6,ln4,ln5,ln6,Option.bind_some,AZ,Ac,AH,AD,AE,AC,if_true,if_false,Bool.false_eq_true,AJ,AP,AK,decide_true,decide_false,a1,a2,a3,a4,a5,a6]) ⟨by rw [decide_eq_false fun H=>a6 H.a6],s⟩
 have w:IntKind.i64.wrap (f.sl-f.pa)=f.sl-f.pa:=B9 (by omega) (by omega)
 by_cases a7:f.ca≤f.sl-f.pa
 case neg=>
  exact Ah (v:=.bool false) (g:=g) (by simp -implicitDefEqProofs only [BO,hbx,Af,← hg,AF,p0,p1,p2,p3,l4,l5,l6,ln4,ln5,ln6,Option.bind_some,AZ,Ac,AH,AD,AE,AC,if_true,if_false,Bool.false_eq_true,AJ,AP,AK,decide_true,decide_false,a1,a2,a3,a4,a5,a6,Bc,w,a7]) ⟨by rw [decide_eq_false fun H=>a7 H.a7],s⟩
 by_cases a8:(f.kinds.length:Int)=f.sl
 case neg=>
  exact Ah (v:=.bool false) (g:=g) (by simp -implicitDefEqProofs only [BO,hbx,Af,← hg,AF,p0,p1,p2,p3,l4,l5,l6,ln4,ln5,ln6,Option.bind_some,AZ,Ac,AH,AD,AE,AC,if_true,if_false,Bool.false_eq_true,AJ,AP,AK,decide_true,decide_false,a1,a2,a3,a4,a5,a6,Bc,w,a7,a8]) ⟨by rw [decide_eq_false fun H=>a8 H.a8],s⟩
 by_cases a9:0≤f.re
 case neg=>
  exact Ah (v:=.bool false) (g:=g) (by simp -implicitDefEqProofs only [BO,hbx,Af,← hg,AF,p0,p1,p2,p3,l4,l5,l6,ln4,ln5,ln6,Option.bind_some,AZ,Ac,AH,AD,AE,AC,if_true,if_false,Bool.false_eq_true,AJ,AP,AK,decide_true,decide_false,a1,a2,a3,a4,a5,a6,Bc,w,a7,a8,a9]) ⟨by rw [decide_eq_false fun H=>a9 H.a9],s⟩
 by_cases a10:f.re≤2
 case neg=>
  exact Ah (v:=.bool false) (g:=g) (by simp -implicitDefEqProofs only [BO,hbx,Af,← hg,AF,p0,p1,p2,p3,l4,l5,l6,ln4,ln5,ln6,Option.bind_some,AZ,Ac,AH,AD,AE,AC,if_true,if_false,Bool.false_eq_true,AJ,AP,AK,decide_true,decide_false,a1,a2,a3,a4,a5,a6,Bc,w,a7,a8,a9,a10]) ⟨by rw [decide_eq_false fun H=>a10 H.a10],s⟩
 by_cases a11:(1:Int)≤f.code.length
 case neg=>
  exact Ah (v:=.bool false) (g:=g) (by simp -implicitDefEqProofs only [BO,hbx,Af,← hg,AF,p0,p1,p2,p3,l4,l5,l6,ln4,ln5,ln6,Option.bind_some,AZ,Ac,AH,AD,AE,AC,if_true,if_false,Bool.false_eq_true,AJ,AP,AK,decide_true,decide_false,a1,a2,a3,a4,a5,a6,Bc,w,a7,a8,a9,a10,a11]) ⟨by rw [decide_eq_false fun H=>a11 H.a11],s⟩
 by_cases a12:(f.code.length:Int)≤4096
 case neg=>
  exact Ah (v:=.bool false) (g:=g) (by simp -implicitDefEqProofs only [BO,hbx,Af,← hg,AF,p0,p1,p2,p3,l4,l5,l6,ln4,ln5,ln6,Option.bind_some,AZ,Ac,AH,AD,AE,AC,if_true,if_false,Bool.false_eq_true,AJ,AP,AK,decide_true,decide_false,a1,a2,a3,a4,a5,a6,Bc,w,a7,a8,a9,a10,a11,a12]) ⟨by rw [decide_eq_false fun H=>a12 H.a12],s⟩
 by_cases a13:(f.maps.length:Int)=f.code.length
 case neg=>
  exact Ah (v:=.bool false) (g:=g) (by simp -implicitDefEqProofs only [BO,hbx,Af,← hg,AF,p0,p1,p2,p3,l4,l5,l6,ln4,ln5,ln6,Option.bind_some,AZ,Ac,AH,AD,AE,AC,if_true,if_false,Bool.false_eq_true,AJ,AP,AK,decide_true,decide_false,a1,a2,a3,a4,a5,a6,Bc,w,a7,a8,a9,a10,a11,a12,a13]) ⟨by rw [decide_eq_false fun H=>a13 H.a13],s⟩
 exact Ah (v:=.bool true) (g:=g) (by simp -implicitDefEqProofs only [BO,hbx,Af,← hg,AF,p0,p1,p2,p3,l4,l5,l6,ln4,ln5,ln6,Option.bind_some,AZ,Ac,AH,AD,AE,AC,if_true,if_false,Bool.false_eq_true,AJ,AP,AK,decide_true,decide_false,a1,a2,a3,a4,a5,a6,Bc,w,a7,a8,a9,a10,a11,a12,a13]) ⟨by rw [decide_eq_true ⟨a1,a2,a3,a4,a5,a6,a7,a8,a9,a10,a11,a12,a13⟩],s⟩
set_option linter.all false
attribute [local congr] BI D1 Dy D2 Bu D3 Dz Aw Av
theorem Ck {h:Heap}{b n:Nat}{w:Bool}{vs:List AV}(hb:h.get b=some (.cells w vs))(hl:vs.length=n):ldA n h (.ptr (some (b,0)))=some (.agg vs):=by
 rw [Eo hb,Bi _ _ _ (by omega),List.drop_zero,← hl,List.take_length];rfl
theorem e0 {a:AV}{l:List AV}:(a::l)[0]?=some a:=rfl
theorem e1 {a b:AV}{l:List AV}:(a::b::l)[1]?=some b:=rfl
theorem e2 {a b c:AV}{l:List AV}:(a::b::c::l)[2]?=some c:=rfl
theorem Lt (h:Heap)(b:Blk):(h.new b).get h.next=some b:=Am
theorem OJ (b:BitVec 64):((b.toNat:Int)=0)↔b=0:=by
 constructor
 ·intro h
  apply BitVec.eq_of_toNat_eq
  simp
  omega
 ·rintro rfl;rfl
theorem TR (b:BitVec 64)(q:Nat):binP .shr (.int .u64 b.toNat) (.int .u64 (q:Int))=some (.int .u64 (b >>> q).toNat):=by
 have:=RQ b .u64 (q:Int) (by omega)
 simpa using this
structure Shp where
 kind:Int
 fields:Int
 map:BitVec 64
deriving DecidableEq
def Shp.row (s:Shp):List AV:=[.int .i64 s.kind,.int .i64 s.fields,.int .u64 s.map.toNat]
def goodB (s:Shp):Bool:=
 if s.kind=0∨s.kind=2 then decide (0≤s.fields) && decide (s.fields≤63) && decide (s.map >>> s.fields.toNat=0)
 else if s.kind=1∨s.kind=3 then decide (s.fields=0) && decide (s.map.toNat≤1) else false
theorem Q9 (s:Shp)(h:Heap):Ok (D6 (.agg s.row) h) fun r=>r.1 = .bool (goodB s)∧Same [] h r.2:=by
 have bx:bxP (.agg s.row)=some (.cells true s.row,fun i=>.ptr (some (i,0))):=rfl
 have hg:=Lt h (.cells true s.row)
 have sm:Same [] h (h.new (.cells true s.row)):=Same.new _ _
 generalize hG:h.new (.cells true s.row)=g at *
 have l0:ldS g (.ptr (some (h.next,0+0)))=some (.int .i64 s.kind):=by rw [Ai hg];rfl
 have l1:ldS g (.ptr (some (h.next,0+1)))=some (.int .i64 s.fields):=by rw [Ai hg];rfl
 have l2:ldS g (.ptr (some (h.next,0+2)))=some (.int .u64 s.map.toNat):=by rw [Ai hg];rfl
 have j1:∀ (b:Bool) (q:AV),b=true→Ok (CK (.ptr (some (h.next,0))) q (.bool b) g) fun r=>r.1 = .bool (decide (0≤s.fields) && decide (s.fields≤63) && decide (s.map >>> s.fields.toNat=0))∧Same [] h r.2:=by
  rintro b q rfl
  by_cases h1:0≤s.fields
  ·by_cases h2:s.fields≤63
   ·have c:cvI .u64 (.int .i64 s.fields)=some (.int .u64 ((s.fields.toNat:Nat):Int)):=by rw [Fs,Ff (by omega) (by omega)];congr 2;omega
    have e:decide (((s.map >>> s.fields.toNat).toNat:Int)=0)=decide (s.map >>> s.fields.toNat=0):=by
     apply decide_eq_decide.2
     exact OJ _
    exact Ah (by simp -implicitDefEqProofs only [CK,AB,AF,Option.bind_some,l1,l2,AJ,AP,h1,h2,decide_true,AZ,AH,AE,AC,if_true,c,TR,AK,e]<;>rfl) ⟨by simp [h1,h2],sm⟩
   ·exact Ah (by simp -implicitDefEqProofs only [CK,AB,AF,Option.bind_some,l1,l2,AJ,AP,h1,h2,decide_true,decide_false,AZ,Ac,AH,AD,AE,AC,if_true,Bool.false_eq_true,if_false]<;>rfl) ⟨by simp [h1,h2],sm⟩
  ·exact Ah (by simp -implicitDefEqProofs only [CK,AB,AF,Option.bind_some,l1,l2,AJ,AP,h1,decide_true,decide_false,AZ,Ac,AH,AD,AE,AC,if_true,Bool.false_eq_true,if_false]<;>rfl) ⟨by simp [h1],sm⟩
 have j0:∀ (b:Bool),b=true→Ok (Dq (.ptr (some (h.next,0))) (.bool b) g) fun r=>r.1 = .bool (decide (s.fields=0) && decide (s.map.toNat≤1))∧Same [] h r.2:=by
  rintro b rfl
  by_cases h1:s.fields=0
  ·have e:decide ((s.map.toNat:Int)≤1)=decide (s.map.toNat≤1):=by apply decide_eq_decide.2;omega
   exact Ah (by simp -implicitDefEqProofs only [Dq,AB,AF,Option.bind_some,l1,l2,AK,AP,h1,decide_true,AZ,AH,AE,AC,if_true,e]<;>rfl) ⟨by simp [h1],sm⟩
  ·exact Ah (by simp -implicitDefEqProofs only [Dq,AB,AF,Option.bind_some,l1,l2,AK,h1,decide_false,Ac,AD,AE,AC,Bool.false_eq_true,if_false]<;>rfl) ⟨by simp [h1],sm⟩
 unfold goodB
 by_cases k0:s.kind=0
 ·rw [if_pos (.inl k0)]
  refine(j1 _ (.int .i64 s.kind) rfl).eq (by simp -implicitDefEqProofs only [D6,bx,Af,hG,AF,Option.bind_some,l0,AK,k0,decide_true,AB])
 ·by_cases k2:s.kind=2
  ·rw [if_pos (.inr k2)]
   refine(j1 _ (.int .i64 s.kind) rfl).eq (by simp -implicitDefEqProofs only [D6,bx,Af,hG,AF,Option.bind_some,l0,AK,k0,k2,decide_true,decide_false,AA]<;>rfl)
  ·rw [if_neg (fun h=>h.elim k0 k2)]
   have st:D6 (.agg s.row) h=CK (.ptr (some (h.next,0))) (.int .i64 s.kind) (.bool false) g:=by
    simp -implicitDefEqProofs only [D6,bx,Af,hG,AF,Option.bind_some,l0,AK,k0,k2,decide_false,AA]
   by_cases k1:s.kind=1
   ·rw [if_pos (.inl k1)]
    exact(j0 _ rfl).eq (by rw [st];simp -implicitDefEqProofs only [CK,AA,AK,k1,decide_true,Option.bind_some,AB])
   ·by_cases k3:s.kind=3
    ·rw [if_pos (.inr k3)]
     exact(j0 _ rfl).eq (by rw [st];simp -implicitDefEqProofs only [CK,AA,AK,k1,k3,decide_true,decide_false,Option.bind_some]<;>rfl)
    ·rw [if_neg (fun h=>h.elim k1 k3)]
     exact Ah (v:=.bool false) (g:=g) (by rw [st];simp -implicitDefEqProofs only [CK,Dq,AA,AK,k1,k3,decide_false,Option.bind_some]) ⟨rfl,sm⟩
set_option linter.all false
attribute [local congr] BI D1 Dy D2 Bu D3 Dz Aw Av
def wideB (v:Int):Bool:=!decide ((IntKind.i64.wrap (v * 2 ^ 1)).fdiv (2 ^ 1)=v)
theorem Q1 (s:Shp)(h:Heap):Ok (DY (.agg s.row) h) fun r=>r.1 = .bool (!goodB s)∧Same [] h r.2:=by
 have bx:bxP (.agg s.row)=some (.cells true s.row,fun i=>.ptr (some (i,0))):=rfl
 have hg:=Lt h (.cells true s.row)
 have sm:Same [] h (h.new (.cells true s.row)):=Same.new _ _
 generalize hG:h.new (.cells true s.row)=g at *
 have la:ldA 3 g (.ptr (some (h.next,0)))=some (.agg s.row):=Ck hg rfl
 refine Ok.eq ?_ (by simp -implicitDefEqProofs only [DY,bx,Af,hG,la,Option.bind_some]<;>rfl)
 refine Ao (Q9 s g) ?_
 rintro _ g2 ⟨rfl,s2⟩
 exact Ah (v:=.bool (!goodB s)) (g:=g2) (by simp -implicitDefEqProofs only [Ae,Option.bind_some]) ⟨rfl,sm.trans s2⟩
theorem RY (v:Int)(h:Heap):DZ (.int .i64 v) h=some (.bool (wideB v),h):=by
 have e1:binP .shl (.int .i64 v) (.int .u64 1)=some (.int .i64 (IntKind.i64.wrap (v * 2 ^ 1))):=rfl
 have e2:binP .shr (.int .i64 (IntKind.i64.wrap (v * 2 ^ 1))) (.int .u64 1)=some (.int .i64 ((IntKind.i64.wrap (v * 2 ^ 1)).fdiv (2 ^ 1))):=rfl
 simp -implicitDefEqProofs only [DZ,HE,e1,e2,Option.bind_some,AE,AU]
 rfl
theorem look64 {R:Type}(r:List AV)(g:Heap)(K:AV→Heap→Option R):clF (lookT T37) (cvP (.fn 64 [] []) [.agg r]) g K=cl (DY (.agg r) g) K:=rfl
theorem QL {h:Heap}{v:AV}{shs:List Shp}(V:RwC h 3 v (shs.map Shp.row))(hl:shs.length≤4611686018427387904):Ok (BA v (.fn 64 [] []) h) fun r=>r.1 = .bool (shs.any fun s=>!goodB s)∧Same [] h r.2:=by
 have lnv:lnL v=some (.int .i64 shs.length):=by have:=V.lnL;rwa [List.length_map] at this
 refine Ok.eq ?_ (by simp -implicitDefEqProofs only [BA,BV,lnv,Option.bind_some]<;>rfl)
 refine Ao (P:=fun r=>Same [] h r.2∧((r.1 = .int .i64 (-1)∧(shs.any fun s=>!goodB s)=false)∨∃ k:Nat,r.1 = .int .i64 k∧(shs.any fun s=>!goodB s)=true)) ?_ ?_
 ·refine CJ (P:=fun r=>Same [] h r.2.2∧((r.1 = .exit 0∧(shs.any fun s=>!goodB s)=false)∨∃ k:Nat,r.1 = .ret∧r.2.1.getD 0 .bot = .int .i64 k∧(shs.any fun s=>!goodB s)=true)) ?_ ?_
  ·refine BF (fun m vs g=>∃ i:Nat,(∃ q,vs = [q,.int .i64 i])∧Same [] h g∧m+i=shs.length∧((shs.take i).any fun s=>!goodB s)=false) ?_ (n:=shs.length) (by omega) ⟨0,⟨_,rfl⟩,Same.refl _ _,rfl,rfl⟩
   rintro m vs g ⟨i,⟨q,rfl⟩,sg,hm,hall⟩
   rw [gD0,gD1]
   by_cases hi:i<shs.length
   ·obtain⟨s,hs⟩:∃ s,shs[i]?=some s:=⟨_,List.getElem?_eq_getElem hi⟩
    have hi':(i:Int)<shs.length:=by omega
    have et:shs.take (i+1)=shs.take i ++ [s]:=by rw [List.take_succ,hs];rfl
    obtain⟨b,o,_,hix,hla,_⟩:=(V.mono sg.next fun j hj=>sg.get j hj (by simp)).at (i:=i) (r:=s.row) (by rw [List.getElem?_map,hs];rfl)
    refine Ok.eq ?_ (by simp -implicitDefEqProofs only [Bm,AG,hi',decide_true,Option.bind_some,AB,hix,hla]<;>rfl)
    rw [look64]
    refine Ao (Q1 s g) ?_
    rintro _ g' ⟨rfl,s'⟩
    simp only at s'
    cases hp : !goodB s with
    | true=>
     refine(Ok.of (r:=(Ex.ret,[AV.int .i64 (i:Int),.int .i64 (i:Int)],g')) (.inr ⟨by simp,sg.trans s',.inr ⟨i,rfl,rfl,?_⟩⟩)).eq (by simp -implicitDefEqProofs only [AB])
     exact List.any_eq_true.2 ⟨s,List.mem_of_getElem? hs,hp⟩
    | false=>
     exact(Ok.of (r:=(Ex.normal,[q,AV.int .i64 ((i+1:Nat):Int)],g')) (.inl ⟨rfl,m - 1,by omega,i+1,⟨_,rfl⟩,sg.trans s',by omega,by rw [et,List.any_append,hall];simpa using hp⟩)).eq (by simp -implicitDefEqProofs only [AA,Ap,suc64 i (by omega),Option.bind_some])
   ·have hi' : ¬ (i:Int)<shs.length:=by omega
    have e:shs.take i=shs:=List.take_of_length_le (by omega)
    rw [e] at hall
    exact(Ok.of (r:=(Ex.exit 0,[q,AV.int .i64 (i:Int)],g)) (.inr ⟨by simp,sg,.inl ⟨rfl,hall⟩⟩)).eq (by simp -implicitDefEqProofs only [Bm,AG,hi',decide_false,Option.bind_some,AA])
  ·rintro _ vs g ⟨sg,⟨rfl,hall⟩ | ⟨k,rfl,hv,h2⟩⟩
   ·exact Ah (v:=.int .i64 (-1)) (g:=g) (by simp -implicitDefEqProofs only [if_true,Al]) ⟨sg,.inl ⟨rfl,hall⟩⟩
   ·exact Ah (v:=.int .i64 (k:Int)) (g:=g) (by simp only at hv;simp -implicitDefEqProofs only [reduceCtorEq,if_false,Cm,Dx,hv]) ⟨sg,.inr ⟨k,rfl,h2⟩⟩
 ·rintro _ g ⟨sg,⟨rfl,hall⟩ | ⟨k,rfl,h2⟩⟩
  ·rw [hall]
   exact Ah (v:=.bool false) (g:=g) (by simp -implicitDefEqProofs only [AJ,show ¬ (0:Int)≤-1 by omega,decide_false,Option.bind_some]) ⟨rfl,sg⟩
  ·rw [h2]
   exact Ah (v:=.bool true) (g:=g) (by simp -implicitDefEqProofs only [AJ,show(0:Int)≤(k:Int) by omega,decide_true,Option.bind_some]) ⟨rfl,sg⟩
set_option linter.all false
attribute [local congr] BI D1 Dy D2 Bu D3 Dz Aw Av
theorem look66 {R:Type}(n:Int)(g:Heap)(K:AV→Heap→Option R):clF (lookT T39) (cvP (.fn 66 [] []) [.int .i64 n]) g K=cl (DZ (.int .i64 n) g) K:=rfl
theorem QT {h:Heap}{v:AV}{shs:List Int}(V:RdW h 1 v (shs.map (AV.int .i64)) shs.length)(hl:shs.length≤4611686018427387904):Ok (Ba v (.fn 66 [] []) h) fun r=>r.1 = .bool (shs.any wideB)∧Same [] h r.2:=by
 have lnv:lnL v=some (.int .i64 shs.length):=V.lnL
 refine Ok.eq ?_ (by simp -implicitDefEqProofs only [Ba,Bz,lnv,Option.bind_some]<;>rfl)
 refine Ao (P:=fun r=>Same [] h r.2∧((r.1 = .int .i64 (-1)∧(shs.any wideB)=false)∨∃ k:Nat,r.1 = .int .i64 k∧(shs.any wideB)=true)) ?_ ?_
 ·refine CJ (P:=fun r=>Same [] h r.2.2∧((r.1 = .exit 0∧(shs.any wideB)=false)∨∃ k:Nat,r.1 = .ret∧r.2.1.getD 0 .bot = .int .i64 k∧(shs.any wideB)=true)) ?_ ?_
  ·refine BF (fun m vs g=>∃ i:Nat,(∃ q,vs = [q,.int .i64 i])∧Same [] h g∧m+i=shs.length∧((shs.take i).any wideB)=false) ?_ (n:=shs.length) (by omega) ⟨0,⟨_,rfl⟩,Same.refl _ _,rfl,rfl⟩
   rintro m vs g ⟨i,⟨q,rfl⟩,sg,hm,hall⟩
   rw [gD0,gD1]
   by_cases hi:i<shs.length
   ·obtain⟨s,hs⟩:∃ s,shs[i]?=some s:=⟨_,List.getElem?_eq_getElem hi⟩
    have hi':(i:Int)<shs.length:=by omega
    have et:shs.take (i+1)=shs.take i ++ [s]:=by rw [List.take_succ,hs];rfl
    obtain⟨b,o,_,hix,hla⟩:=(V.mono sg.next fun j hj=>sg.get j hj (by simp)).at (i:=i) (x:=.int .i64 s) (by rw [List.getElem?_map,hs];rfl)
    refine Ok.eq ?_ (by simp -implicitDefEqProofs only [CL,AG,hi',decide_true,Option.bind_some,AB,hix,hla]<;>rfl)
    rw [look66]
    rw [RY,AE]
    have s':Same [] g g:=Same.refl _ _
    cases hp:wideB s with
    | true=>
     refine(Ok.of (r:=(Ex.ret,[AV.int .i64 (i:Int),.int .i64 (i:Int)],g)) (.inr ⟨by simp,sg.trans s',.inr ⟨i,rfl,rfl,?_⟩⟩)).eq (by simp -implicitDefEqProofs only [AB])
     exact List.any_eq_true.2 ⟨s,List.mem_of_getElem? hs,hp⟩
    | false=>
     exact(Ok.of (r:=(Ex.normal,[q,AV.int .i64 ((i+1:Nat):Int)],g)) (.inl ⟨rfl,m - 1,by omega,i+1,⟨_,rfl⟩,sg.trans s',by omega,by rw [et,List.any_append,hall];simpa using hp⟩)).eq (by simp -implicitDefEqProofs only [AA,Ap,suc64 i (by omega),Option.bind_some])
   ·have hi' : ¬ (i:Int)<shs.length:=by omega
    have e:shs.take i=shs:=List.take_of_length_le (by omega)
    rw [e] at hall
    exact(Ok.of (r:=(Ex.exit 0,[q,AV.int .i64 (i:Int)],g)) (.inr ⟨by simp,sg,.inl ⟨rfl,hall⟩⟩)).eq (by simp -implicitDefEqProofs only [CL,AG,hi',decide_false,Option.bind_some,AA])
  ·rintro _ vs g ⟨sg,⟨rfl,hall⟩ | ⟨k,rfl,hv,h2⟩⟩
   ·exact Ah (v:=.int .i64 (-1)) (g:=g) (by simp -implicitDefEqProofs only [if_true,Al]) ⟨sg,.inl ⟨rfl,hall⟩⟩
   ·exact Ah (v:=.int .i64 (k:Int)) (g:=g) (by simp only at hv;simp -implicitDefEqProofs only [reduceCtorEq,if_false,Cm,Dx,hv]) ⟨sg,.inr ⟨k,rfl,h2⟩⟩
 ·rintro _ g ⟨sg,⟨rfl,hall⟩ | ⟨k,rfl,h2⟩⟩
  ·rw [hall]
   exact Ah (v:=.bool false) (g:=g) (by simp -implicitDefEqProofs only [AJ,show ¬ (0:Int)≤-1 by omega,decide_false,Option.bind_some]) ⟨rfl,sg⟩
  ·rw [h2]
   exact Ah (v:=.bool true) (g:=g) (by simp -implicitDefEqProofs only [AJ,show(0:Int)≤(k:Int) by omega,decide_true,Option.bind_some]) ⟨rfl,sg⟩
set_option linter.all false
attribute [local congr] BI D1 Dy D2 Bu D3 Dz Aw Av
structure Mod1 (m:Md)(shs:List Shp):Prop where
 s1:(shs.any fun s=>!goodB s)=false
 s2 : ¬ (1024:Int)<m.shapes.length
 s3 : ¬ (256:Int)<m.globals.length
 s4 : ¬ (4096:Int)<m.consts.length
 s5:(m.consts.any wideB)=false
 s6 : ¬ (1024:Int)<m.cases.length
 s7 : ¬ (128:Int)<m.funcs.length
 s8 : ¬ (m.funcs.length:Int) < 1
structure Mod2 (m:Md):Prop where
 m0 : ¬ m.main < 0
 m1 : ¬ (m.funcs.length:Int)≤m.main
 fn:∀ f,m.funcs[m.main.toNat]?=some f→f.pa=0∧f.ca=0∧f.re=0
theorem OK {h:Heap}{v:AV}{m:Md}{shs:List Shp}(H:MdRd h v m)(hs:m.shapes=shs.map Shp.row)(h1:shs.length≤4611686018427387904)(h2:m.consts.length≤4611686018427387904) :
  Ok (EB v h) fun r=>Same [] h r.2∧∃ n:Int,r.1 = .int .i64 n∧((n=0∧Mod1 m shs∧Mod2 m)∨(n=1∧¬ Mod1 m shs)∨(n=2∧Mod1 m shs∧¬ Mod2 m)):=by
 obtain⟨sv,gv,kv,cv,fv,rfl,hbx,B⟩:=H.box
 obtain⟨g,hg⟩:∃ g,g=h.new (.cells true [sv,gv,kv,cv,fv,.int .i64 m.main]):=⟨_,rfl⟩
 have s:Same [] h g:=by rw [hg];exact Same.new _ _
 rw [← hg] at B
 have l0:=B.l0
 refine Ok.eq ?_ (by simp -implicitDefEqProofs only [EB,hbx,Af,← hg,AF,l0,Option.bind_some]<;>rfl)
 refine Ao (QL (shs:=shs) (by rw [← hs];exact B.sh) h1) ?_
 rintro _ g1 ⟨rfl,t1⟩
 simp only at t1
 have B1:=B.mono t1
 have s1':=s.trans t1
 have q0:=B1.l0;have q1:=B1.l1;have q2:=B1.l2;have q3:=B1.l3;have q4:=B1.l4
 have ln0:=B1.ln0;have ln1:=B1.ln1;have ln2:=B1.ln2;have ln3:=B1.ln3;have ln4:=B1.ln4
 have q5:ldS g1 (.ptr (some (h.next,0+5)))=some (.int .i64 m.main):=by obtain⟨w,h⟩:=B1.at_;rw [Ai h];rfl
 have Sg1:=s1'
 cases c1:(shs.any fun s=>!goodB s)
 case true=>
  exact Ah (v:=.int .i64 1) (g:=g1) (by simp -implicitDefEqProofs only [AF,Option.bind_some,AZ,Ac,AY,AX,AH,AD,AE,AC,if_true,if_false,Bool.false_eq_true,AR,AG,AJ,AU,decide_true,decide_false,Bool.not_true,Bool.not_false,AB,AA,q0,q1,q2,q3,q4,q5,ln0,ln1,ln2,ln3,ln4]) ⟨Sg1,1,rfl,.inr (.inl ⟨rfl,fun H=>by have:=H.s1;rw [c1] at this;cases this⟩)⟩
 by_cases c2:(1024:Int)<m.shapes.length
 case pos=>
  exact Ah (v:=.int .i64 1) (g:=g1) (by simp -implicitDefEqProofs only [AF,Option.bind_some,AZ,Ac,AY,AX,AH,AD,AE,AC,if_true,if_false,Bool.false_eq_true,AR,AG,AJ,AU,decide_true,decide_false,Bool.not_true,Bool.not_false,AB,AA,q0,q1,q2,q3,q4,q5,ln0,ln1,ln2,ln3,ln4,c2]) ⟨Sg1,1,rfl,.inr (.inl ⟨rfl,fun H=>H.s2 c2⟩)⟩
 by_cases c3:(256:Int)<m.globals.length
 case pos=>
  exact Ah (v:=.int .i64 1) (g:=g1) (by simp -implicitDefEqProofs only [AF,Option.bind_some,AZ,Ac,AY,AX,AH,AD,AE,AC,if_true,if_false,Bool.false_eq_true,AR,AG,AJ,AU,decide_true,decide_false,Bool.not_true,Bool.not_false,AB,AA,q0,q1,q2,q3,q4,q5,ln0,ln1,ln2,ln3,ln4,c2,c3]) ⟨Sg1,1,rfl,.inr (.inl ⟨rfl,fun H=>H.s3 c3⟩)⟩
 by_cases c4:(4096:Int)<m.consts.length
 case pos=>
  exact Ah (v:=.int .i64 1) (g:=g1) (by simp -implicitDefEqProofs only [AF,Option.bind_some,AZ,Ac,AY,AX,AH,AD,AE,AC,if_true,if_false,Bool.false_eq_true,AR,AG,AJ,AU,decide_true,decide_false,Bool.not_true,Bool.not_false,AB,AA,q0,q1,q2,q3,q4,q5,ln0,ln1,ln2,ln3,ln4,c2,c3,c4]) ⟨Sg1,1,rfl,.inr (.inl ⟨rfl,fun H=>H.s4 c4⟩)⟩
 refine Ok.eq ?_ (by simp -implicitDefEqProofs only [AF,Option.bind_some,AZ,Ac,AY,AX,AH,AD,AE,AC,if_true,if_false,Bool.false_eq_true,AR,AG,AJ,AU,decide_true,decide_false,Bool.not_true,Bool.not_false,AB,AA,q0,q1,q2,q3,q4,q5,ln0,ln1,ln2,ln3,ln4,c2,c3,c4]<;>rfl)
 refine Ao (P:=fun r=>r.1 = .bool (m.consts.any wideB)∧Same [] g1 r.2) (Ao (QT (shs:=m.consts) B1.ks h2) fun t g' hh=>Ok.of (r:=(t,g')) hh) ?_
 rintro _ g2 ⟨rfl,t2⟩
 simp only at t2
 have B2:=B1.mono t2
 have Sg2:=s1'.trans t2
 clear q0 q1 q2 q3 q4 q5
 have q0:=B2.l0;have q1:=B2.l1;have q2:=B2.l2;have q3:=B2.l3;have q4:=B2.l4
 have q5:ldS g2 (.ptr (some (h.next,0+5)))=some (.int .i64 m.main):=by obtain⟨w,h⟩:=B2.at_;rw [Ai h];rfl
 cases c5:(m.consts.any wideB)
 case true=>
  exact Ah (v:=.int .i64 1) (g:=g2) (by simp -implicitDefEqProofs only [AF,Option.bind_some,AZ,Ac,AY,AX,AH,AD,AE,AC,if_true,if_false,Bool.false_eq_true,AR,AG,AJ,AU,decide_true,decide_false,Bool.not_true,Bool.not_false,AB,AA,q0,q1,q2,q3,q4,q5,ln0,ln1,ln2,ln3,ln4,c2,c3,c4]) ⟨Sg2,1,rfl,.inr (.inl ⟨rfl,fun H=>by have:=H.s5;rw [c5] at this;cases this⟩)⟩
 by_cases c6:(1024:Int)<m.cases.length
 case pos=>
  exact Ah (v:=.int .i64 1) (g:=g2) (by simp -implicitDefEqProofs only [AF,Option.bind_some,AZ,Ac,AY,AX,AH,AD,AE,AC,if_true,if_false,Bool.false_eq_true,AR,AG,AJ,AU,decide_true,decide_false,Bool.not_true,Bool.not_false,AB,AA,q0,q1,q2,q3,q4,q5,ln0,ln1,ln2,ln3,ln4,c2,c3,c4,c6]) ⟨Sg2,1,rfl,.inr (.inl ⟨rfl,fun H=>H.s6 c6⟩)⟩
 by_cases c7:(128:Int)<m.funcs.length
 case pos=>
  exact Ah (v:=.int .i64 1) (g:=g2) (by simp -implicitDefEqProofs only [AF,Option.bind_some,AZ,Ac,AY,AX,AH,AD,AE,AC,if_true,if_false,Bool.false_eq_true,AR,AG,AJ,AU,decide_true,decide_false,Bool.not_true,Bool.not_false,AB,AA,q0,q1,q2,q3,q4,q5,ln0,ln1,ln2,ln3,ln4,c2,c3,c4,c6,c7]) ⟨Sg2,1,rfl,.inr (.inl ⟨rfl,fun H=>H.s7 c7⟩)⟩
 by_cases c8:(m.funcs.length:Int) < 1
 case pos=>
  exact Ah (v:=.int .i64 1) (g:=g2) (by simp -implicitDefEqProofs only [AF,Option.bind_some,AZ,Ac,AY,AX,AH,AD,AE,AC,if_true,if_false,Bool.false_eq_true,AR,AG,AJ,AU,decide_true,decide_false,Bool.not_true,Bool.not_false,AB,AA,q0,q1,q2,q3,q4,q5,ln0,ln1,ln2,ln3,ln4,c2,c3,c4,c6,c7,c8]) ⟨Sg2,1,rfl,.inr (.inl ⟨rfl,fun H=>H.s8 c8⟩)⟩
 by_cases c9:m.main < 0
 case pos=>
  exact Ah (v:=.int .i64 2) (g:=g2) (by simp -implicitDefEqProofs only [AF,Option.bind_some,AZ,Ac,AY,AX,AH,AD,AE,AC,if_true,if_false,Bool.false_eq_true,AR,AG,AJ,AU,decide_true,decide_false,Bool.not_true,Bool.not_false,AB,AA,q0,q1,q2,q3,q4,q5,ln0,ln1,ln2,ln3,ln4,c2,c3,c4,c6,c7,c8,c9]) ⟨Sg2,2,rfl,.inr (.inr ⟨rfl,⟨c1,c2,c3,c4,c5,c6,c7,c8⟩,fun H=>H.m0 c9⟩)⟩
 by_cases c10:(m.funcs.length:Int)≤m.main
 case pos=>
  exact Ah (v:=.int .i64 2) (g:=g2) (by simp -implicitDefEqProofs only [AF,Option.bind_some,AZ,Ac,AY,AX,AH,AD,AE,AC,if_true,if_false,Bool.false_eq_true,AR,AG,AJ,AU,decide_true,decide_false,Bool.not_true,Bool.not_false,AB,AA,q0,q1,q2,q3,q4,q5,ln0,ln1,ln2,ln3,ln4,c2,c3,c4,c6,c7,c8,c9,c10]) ⟨Sg2,2,rfl,.inr (.inr ⟨rfl,⟨c1,c2,c3,c4,c5,c6,c7,c8⟩,fun H=>H.m1 c10⟩)⟩
 obtain⟨f,hf⟩:∃ f,m.funcs[m.main.toNat]?=some f:=⟨_,List.getElem?_eq_getElem (by omega)⟩
 obtain⟨b,o,kv',cv',mv',_,ix,FR0,la,_⟩:=B2.fn hf
 have ix':=ix .i64
 rw [show((m.main.toNat:Nat):Int)=m.main by omega] at ix'
 refine Ok.eq ?_ (by simp -implicitDefEqProofs only [AF,Option.bind_some,AZ,Ac,AY,AX,AH,AD,AE,AC,if_true,if_false,Bool.false_eq_true,AR,AG,AJ,AU,decide_true,decide_false,Bool.not_true,Bool.not_false,AB,AA,q0,q1,q2,q3,q4,q5,ln0,ln1,ln2,ln3,ln4,c2,c3,c4,c6,c7,c8,c9,c10,ix',la]<;>rfl)
 have FR:FnRd g2 [.int .i64 f.pa,.int .i64 f.ca,.int .i64 f.sl,.int .i64 f.re,kv',cv',mv'] f:=FR0
 refine Er (cs:=[.int .i64 f.pa,.int .i64 f.ca,.int .i64 f.sl,.int .i64 f.re,kv',cv',mv']) (n:=7) rfl rfl FR.sc fun _ g3 s3 n3 b3=>?_
 have Sg3:=Sg2.trans s3
 have p0:ldS g3 (.ptr (some (g2.next,0+0)))=some (.int .i64 f.pa):=by rw [Ai b3];rfl
 have p1:ldS g3 (.ptr (some (g2.next,0+1)))=some (.int .i64 f.ca):=by rw [Ai b3];rfl
 have p3:ldS g3 (.ptr (some (g2.next,0+3)))=some (.int .i64 f.re):=by rw [Ai b3];rfl
 by_cases d1:f.pa=0
 case neg=>
  exact Ah (v:=.int .i64 2) (g:=g3) (by simp -implicitDefEqProofs only [AF,Option.bind_some,AZ,Ac,AY,AX,AH,AD,AE,AC,if_true,if_false,Bool.false_eq_true,AR,AG,AJ,AU,decide_true,decide_false,Bool.not_true,Bool.not_false,AB,AA,p0,p1,p3,d1]) ⟨Sg3,2,rfl,.inr (.inr ⟨rfl,⟨c1,c2,c3,c4,c5,c6,c7,c8⟩,fun H=>d1 (H.fn f hf).1⟩)⟩
 by_cases d2:f.ca=0
 case neg=>
  exact Ah (v:=.int .i64 2) (g:=g3) (by simp -implicitDefEqProofs only [AF,Option.bind_some,AZ,Ac,AY,AX,AH,AD,AE,AC,if_true,if_false,Bool.false_eq_true,AR,AG,AJ,AU,decide_true,decide_false,Bool.not_true,Bool.not_false,AB,AA,p0,p1,p3,d1,d2]) ⟨Sg3,2,rfl,.inr (.inr ⟨rfl,⟨c1,c2,c3,c4,c5,c6,c7,c8⟩,fun H=>d2 (H.fn f hf).2.1⟩)⟩
 by_cases d3:f.re=0
 case neg=>
  exact Ah (v:=.int .i64 2) (g:=g3) (by simp -implicitDefEqProofs only [AF,Option.bind_some,AZ,Ac,AY,AX,AH,AD,AE,AC,if_true,if_false,Bool.false_eq_true,AR,AG,AJ,AU,decide_true,decide_false,Bool.not_true,Bool.not_false,AB,AA,p0,p1,p3,d1,d2,d3]) ⟨Sg3,2,rfl,.inr (.inr ⟨rfl,⟨c1,c2,c3,c4,c5,c6,c7,c8⟩,fun H=>d3 (H.fn f hf).2.2⟩)⟩
 exact Ah (v:=.int .i64 0) (g:=g3) (by simp -implicitDefEqProofs only [AF,Option.bind_some,AZ,Ac,AY,AX,AH,AD,AE,AC,if_true,if_false,Bool.false_eq_true,AR,AG,AJ,AU,decide_true,decide_false,Bool.not_true,Bool.not_false,AB,AA,p0,p1,p3,d1,d2,d3]) ⟨Sg3,0,rfl,.inl ⟨rfl,⟨c1,c2,c3,c4,c5,c6,c7,c8⟩,c9,c10,fun f' hf'=>by rw [hf] at hf';cases hf';exact⟨d1,d2,d3⟩⟩⟩
set_option linter.all false
attribute [local congr] BI D1 Dy D2 Bu D3 Dz Aw Av
theorem S9 {g:Heap}{p pf:Nat}{m:Md}{sv gv kv cv fv:AV}{z:List AV}(B:MdB g p m sv gv kv cv fv)(hz:g.get pf=some (.cells true z))(hzl:z.length=3)(hpf:pf<g.next) :
  Ok (F7 (.ptr (some (pf,0))) fv (.int .i64 m.funcs.length) (.bool false) (.int .i64 0) g) fun r=>
   (r.1 = .exit 0∧(∀ f∈m.funcs,Whole f)∧r.2.1.getD 0 .bot = .bool false∧Same [] g r.2.2)∨
   (r.1 = .ret∧r.2.1.getD 0 .bot = .bool false∧Same [pf] g r.2.2∧∃ (i:Nat) (f:Fn),m.funcs[i]?=some f∧¬ Whole f∧(∀ (j:Nat) f',j<i→m.funcs[j]?=some f'→Whole f')∧r.2.2.get pf=some (.cells true [.int .i64 (i:Int),.int .i64 (-1),.int .i64 3])):=by
 have hb:=B.bnd.1
 have hmx:=mxl
 refine BF (fun k vs g2=>∃ i:Nat,vs = [.bool false,.int .i64 (i:Int)]∧k+i=m.funcs.length∧Same [] g g2∧∀ (j:Nat) f',j<i→m.funcs[j]?=some f'→Whole f') ?_ (n:=m.funcs.length) (by omega) ⟨0,rfl,by omega,Same.refl _ _,fun j f' hj=>by omega⟩
 rintro k vs g2 ⟨i,rfl,hm,s2,hall⟩
 rw [gD0,gD1]
 have B2:=B.mono s2
 by_cases hi:i<m.funcs.length
 ·have hlt:(i:Int)<m.funcs.length:=by omega
  obtain⟨f,hf⟩:∃ f,m.funcs[i]?=some f:=⟨_,List.getElem?_eq_getElem hi⟩
  obtain⟨b,o,kv',cv',mv',_,ix,FR,la,_⟩:=B2.fn hf
  refine Ok.eq ?_ (by simp -implicitDefEqProofs only [Ek,AG,hlt,decide_true,Option.bind_some,AB,ix,la]<;>rfl)
  refine EV (cs:=[.int .i64 f.pa,.int .i64 f.ca,.int .i64 f.sl,.int .i64 f.re,kv',cv',mv']) (n:=7) rfl rfl FR.sc fun g3 s3 n3 b3=>?_
  have la3:ldA 7 g3 (.ptr (some (g2.next,0)))=some (.agg [.int .i64 f.pa,.int .i64 f.ca,.int .i64 f.sl,.int .i64 f.re,kv',cv',mv']):=Ck b3 rfl
  refine Ok.eq ?_ (by simp -implicitDefEqProofs only [la3,Option.bind_some]<;>rfl)
  refine Ao (P2 (FR.mono s3.next fun j hj=>s3.get j hj (by simp))) ?_
  rintro _ g4 ⟨rfl,s4⟩
  simp only at s4
  have s24:=(s2.trans s3).trans s4
  by_cases hw:Whole f
  ·refine(Ok.of (r:=(Ex.normal,[.bool false,.int .i64 ((i+1:Nat):Int)],g4)) (.inl ⟨rfl,k - 1,by omega,i+1,rfl,by omega,s24,fun j f' hj hf'=>?_⟩)).eq (by
    simp -implicitDefEqProofs only [decide_eq_true hw,Ae,Bool.not_true,Option.bind_some,AA,Ap,suc64 i (by omega)])
   rcases (by omega:j<i∨j=i) with h | rfl
   ·exact hall j f' h hf'
   ·rw [hf] at hf';cases hf';exact hw
  ·have hz4:=(s24.get pf hpf (by simp)).trans hz
   obtain⟨g5,hg5⟩:∃ g5,g5=g4.put pf (some (.cells true [.int .i64 (i:Int),.int .i64 (-1),.int .i64 3])):=⟨_,rfl⟩
   have st:stP 3 g4 (.ptr (some (pf,0))) (.agg [.int .i64 (i:Int),.int .i64 (-1),.int .i64 3])=some (.bot,g5):=by rw [Ds hz4 hzl rfl rfl,hg5]
   have s5:Same [pf] g4 g5:=by rw [hg5];exact Same.put _ _ _
   exact(Ok.of (r:=(Ex.ret,[.bool false,.int .i64 (i:Int)],g5)) (.inr ⟨by simp,.inr ⟨rfl,rfl,(s24.sub (by simp)).trans s5,i,f,hf,hw,hall,by rw [hg5];exact An⟩⟩)).eq (by
    simp -implicitDefEqProofs only [decide_eq_false hw,Ae,Bool.not_false,Option.bind_some,AB,show bldS [(0,1),(1,1),(2,1)] [(AV.int .i64 0),(AV.int .i64 0),(AV.int .i64 0)] [(0,.int .i64 (i:Int)),(1,(AV.int .i64 (-1))),(2,(AV.int .i64 3))]=some (.agg [.int .i64 (i:Int),.int .i64 (-1),.int .i64 3]) from rfl,st,AE])
 ·have hlt : ¬ (i:Int)<m.funcs.length:=by omega
  refine(Ok.of (r:=(Ex.exit 0,[.bool false,.int .i64 (i:Int)],g2)) (.inr ⟨by simp,.inl ⟨rfl,fun f hf=>?_,rfl,s2⟩⟩)).eq (by
   simp -implicitDefEqProofs only [Ek,AG,hlt,decide_false,Option.bind_some,AA])
  obtain⟨j,hj⟩:=List.getElem?_of_mem hf
  have:=(List.getElem?_eq_some_iff.1 hj).1
  exact hall j f (by omega) hj
end Go.Ab.F
