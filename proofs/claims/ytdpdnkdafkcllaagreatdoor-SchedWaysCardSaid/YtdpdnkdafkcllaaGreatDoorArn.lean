import Derived.Test.YtdpdnkdafkcllaaGreatDoorQuFn
import Derived.Test.YtdpdnkdafkcllaaGreatDoorAbS
import Derived.Test.YtdpdnkdafkcllaaGreatDoorKit
import Derived.KernelRfl
import Derived.Test.YtdpdnkdafkcllaaGreatDoorAbQ
namespace Go.Ab.F
open Go Go.Ab
set_option linter.all false
attribute [local congr] c_bind c_cl c_mk c_lp c_clC c_gQ c_gV c_condE c_thenK
def wordsOf (c:Int):Int:=if c=0 then 2 else if c=1 then 4 else if c=2 then 8 else if c=3 then 16 else if c=4 then 32 else if c=5 then 64 else 0
theorem words_eq (c:Int)(h:Heap):AH (.int .i64 c) h=some (.int .i64 (wordsOf c),h):=by
 by_cases h1:c < 0
 ·have:wordsOf c=0:=by unfold wordsOf;(repeat rw [if_neg (by omega)])
  simp [AH,h1,this]
 ·by_cases h2:6≤c
  ·have:wordsOf c=0:=by unfold wordsOf;(repeat rw [if_neg (by omega)])
   simp [AH,h1,h2,this]
  ·rcases (by omega:c=0∨c=1∨c=2∨c=3∨c=4∨c=5) with rfl | rfl | rfl | rfl | rfl | rfl<;>rfl
def placesOf (c:Int):Int:=if c=0 then 32 else if c=1 then 16 else if c=2 then 8 else if c=3 then 4 else if c=4 then 2 else if c=5 then 1 else 0
theorem cls_cases (c:Int):(c=0∨c=1∨c=2∨c=3∨c=4∨c=5)∨(wordsOf c=0∧placesOf c=0∧(c < 0∨5<c)):=by
 by_cases h:0≤c∧c≤5
 ·left;omega
 ·right
  refine⟨?_,?_,by omega⟩<;>first | unfold wordsOf | unfold placesOf
  all_goals (repeat rw [if_neg (by omega)])
theorem places_eq (c:Int)(h:Heap):Bd (.int .i64 c) h=some (.int .i64 (placesOf c),h):=by
 rcases cls_cases c with(rfl | rfl | rfl | rfl | rfl | rfl) | ⟨h1,h2,_⟩
 ·rfl
 ·rfl
 ·rfl
 ·rfl
 ·rfl
 ·rfl
 ·simp [Bd,words_eq,h1,h2]
def spanOf (a:Int):Int:=if 0≤a∧a < 32768 then a / 64 else -1
theorem span_eq (a:Int)(h:Heap):BS (.int .i64 a) h=some (.int .i64 (spanOf a),h):=by
 by_cases h1:a < 0
 ·simp [BS,h1,spanOf];omega
 ·by_cases h2:32768≤a
  ·simp [BS,h1,h2,spanOf];omega
  ·have e:a.tdiv 64=a / 64:=Int.tdiv_eq_ediv_of_nonneg (by omega)
   have:spanOf a=a / 64:=by unfold spanOf;rw [if_pos (by omega)]
   simp [BS,h1,h2,this,e]
   exact wrap_i64 (by omega) (by omega)
def debL:List Int:=[0,1,56,2,57,49,28,3,61,58,42,50,38,29,17,4,62,47,59,36,45,43,51,22,53,39,33,30,24,18,12,5,63,55,48,27,60,41,37,16,46,35,44,21,52,32,23,11,54,26,40,15,34,20,31,10,25,14,19,9,13,8,7,6]
def Tabled (h:Heap):Prop:=h.get 0=some (.cells false (debL.map fun n=>AV.int .u8 n))
def ctz (b:BitVec 64):Nat:=((List.range 64).find? fun i=>b.getLsbD i).getD 64
theorem ctz_spec (b:BitVec 64):(ctz b=64∧b=0)∨(ctz b < 64∧b.getLsbD (ctz b)=true∧∀ j,j<ctz b→b.getLsbD j=false):=by
 unfold ctz
 cases hf:(List.range 64).find? fun i=>b.getLsbD i with
 | none=>
  left
  rw [List.find?_eq_none] at hf
  refine⟨rfl,BitVec.eq_of_getLsbD_eq fun i hi=>?_⟩
  have:=hf i (List.mem_range.2 hi)
  simpa using this
 | some k=>
  right
  have hk:=List.find?_some hf
  have hm:=List.mem_range.1 (List.mem_of_find?_eq_some hf)
  refine⟨hm,hk,fun j hj=>?_⟩
  rw [List.find?_range_eq_some] at hf
  have:=hf.2.2 j hj
  simpa using this
theorem and_neg (b:BitVec 64)(k:Nat)(hk:k < 64)(h1:b.getLsbD k=true)(h2:∀ j,j<k→b.getLsbD j=false):b &&& -b=BitVec.twoPow 64 k:=by
 apply BitVec.eq_of_getLsbD_eq
 intro i hi
 rw [BitVec.getLsbD_and,BitVec.getLsbD_neg,BitVec.getLsbD_twoPow]
 by_cases e:k=i
 ·subst e
  have : ¬ ∃ j,j<k∧b.getLsbD j=true:=by rintro⟨j,hj,hb⟩;rw [h2 j hj] at hb;cases hb
  simp [h1,hi,this]
 ·by_cases hlt:i<k
  ·simp [h2 i hlt,e]
  ·have:∃ j,j<i∧b.getLsbD j=true:=⟨k,by omega,h1⟩
   simp [this,hi,e]
def debIx (k:Nat):Nat:=(2 ^ k * 285870213051353865) % 2 ^ 64 / 2 ^ 58
theorem debOk_all:((List.range 64).all fun k=>debL[debIx k]? == some (k:Int) && Nat.blt (debIx k) 64)=true:=by decide +kernel
theorem debOk_at (k:Nat)(hk:k < 64):debL[debIx k]?=some (k:Int)∧debIx k < 64:=by
 have h:=List.all_eq_true.1 debOk_all k (List.mem_range.2 hk)
 rw [Bool.and_eq_true] at h
 exact⟨eq_of_beq h.1,by have:=h.2;rw [Nat.blt_eq] at this;exact this⟩
attribute [irreducible] debIx
theorem deb_c:(BitVec.ofInt 64 285870213051353865).toNat=285870213051353865:=by decide
theorem two_nat (k:Nat)(hk:k < 64):(BitVec.twoPow 64 k).toNat=2 ^ k:=by
 rw [BitVec.toNat_twoPow]
 exact Nat.mod_eq_of_lt (Nat.pow_lt_pow_right (by decide) hk)
theorem deb_nat (k:Nat)(hk:k < 64)(c:BitVec 64)(m:Nat)(hc:c.toNat=m):((BitVec.twoPow 64 k*c) >>> 58).toNat=(2 ^ k*m) % 2 ^ 64 / 2 ^ 58:=by
 rw [BitVec.toNat_ushiftRight,BitVec.toNat_mul,hc,two_nat k hk,Nat.shiftRight_eq_div_pow]
theorem debIx_eq (k m:Nat)(hm:m=285870213051353865):(2 ^ k*m) % 2 ^ 64 / 2 ^ 58=debIx k:=by subst hm;unfold debIx;rfl
theorem deb_at (k:Nat)(hk:k < 64):debL[((BitVec.twoPow 64 k*BitVec.ofInt 64 285870213051353865) >>> 58).toNat]?=some (k:Int)∧((BitVec.twoPow 64 k*BitVec.ofInt 64 285870213051353865) >>> 58).toNat < 64:=by
 rw [deb_nat k hk _ _ rfl,debIx_eq k _ deb_c]
 exact debOk_at k hk
theorem tz_walk (b:BitVec 64)(h:Heap)(hne : ¬ (b.toNat:Int)=0)(v m s:BitVec 64)(n:Int)(hn:0≤n∧n < 256)
  (h1:b &&& -b=v) (h2:v*BitVec.ofInt 64 285870213051353865=m) (h3:m >>> 58=s) (hs:s.toNat < 64)
  (hl:ldS h (.ptr (some (0,s.toNat)))=some (.int .u8 n)):AP (.int .u64 b.toNat) h=some (.int .i64 n,h):=by
 have hmul:=mul_u64 v 285870213051353865
 have hshr:=shr_u64 m .u64 58 (by omega)
 rw [h2] at hmul
 rw [show(58:Int).toNat=58 from rfl,h3] at hshr
 have hix:iaA 64 1 (AV.ptr (some (0,0))) (.int .u64 s.toNat)=some (.ptr (some (0,s.toNat))):=by
  rw [iaA_ptr,if_pos ⟨by omega,by omega⟩];simp
 simp -implicitDefEqProofs only [AP,eql_int,hne,decide_false,Option.bind_some,condE_false,neg_u64,and_u64,ofInt_toNat,h1,hmul,hshr,hix,hl,cvI_int]
 rw [wrap_i64 (by omega) (by omega)]
theorem ctz_eq (b:BitVec 64){h:Heap}(ht:Tabled h):AP (.int .u64 b.toNat) h=some (.int .i64 (ctz b),h):=by
 rcases ctz_spec b with⟨h1,rfl⟩ | ⟨h1,h2,h3⟩
 ·have h1':ctz 0#64=64:=h1
  simp [AP,h1']
 ·have hne : ¬ (b.toNat:Int)=0:=by
   intro e
   have:b=0:=BitVec.eq_of_toNat_eq (by simpa using e)
   rw [this] at h2;simp at h2
  obtain⟨hd,hlt⟩:=deb_at (ctz b) h1
  refine tz_walk b h hne _ _ _ _ (by omega) (and_neg b (ctz b) h1 h2 h3) rfl rfl hlt ?_
  rw [ldS_at ht,List.getElem?_map,hd,Option.map_some]
def first0 (b:BitVec 64):Nat:=ctz (~~~b)
theorem first_eq (b:BitVec 64){h:Heap}(ht:Tabled h):Ch (.int .u64 b.toNat) h=some (.int .i64 (first0 b),h):=by
 simp only [Ch,not_u64,Option.bind_some,ctz_eq _ ht,cl_some,first0]
theorem first0_spec (b:BitVec 64):(first0 b=64∧∀ j,j < 64→b.getLsbD j=true)∨(first0 b < 64∧b.getLsbD (first0 b)=false∧∀ j,j<first0 b→b.getLsbD j=true):=by
 unfold first0
 rcases ctz_spec (~~~b) with⟨h1,h2⟩ | ⟨h1,h2,h3⟩
 ·refine .inl ⟨h1,fun j hj=>?_⟩
  have:(~~~b).getLsbD j=false:=by rw [h2];simp
  rw [BitVec.getLsbD_not] at this
  simpa [hj] using this
 ·refine .inr ⟨h1,by rw [BitVec.getLsbD_not] at h2;simpa [h1] using h2,fun j hj=>?_⟩
  have:=h3 j hj
  rw [BitVec.getLsbD_not] at this
  simpa [show j < 64 by omega] using this
structure PSp where
 cls:Int
 tk:BitVec 64
 md:BitVec 64
def spC (s:PSp):List AV:=[.int .i64 s.cls,.int .u64 s.tk.toNat,.int .u64 s.md.toNat]
def spsC:List PSp→List AV
 | []=>[]
 | s::l=>.int .i64 s.cls :: .int .u64 s.tk.toNat :: .int .u64 s.md.toNat::spsC l
theorem spsC_length:∀ l,(spsC l).length=l.length * 3
 | []=>rfl
 | s::l=>by simp only [spsC,List.length_cons,spsC_length l];omega
theorem spsC_0:∀ {l:List PSp} {i:Nat} {s:PSp},l[i]?=some s→(spsC l)[i * 3]?=some (.int .i64 s.cls)
 | [],i,s,h=>by simp at h
 | t::l,0,s,h=>by simp at h;subst h;rfl
 | t::l,i+1,s,h=>by
  rw [show(i+1) * 3=i * 3+1+1+1 by omega]
  simp only [spsC,List.getElem?_cons_succ]
  exact spsC_0 (by simpa using h)
theorem spsC_1:∀ {l:List PSp} {i:Nat} {s:PSp},l[i]?=some s→(spsC l)[i * 3+1]?=some (.int .u64 s.tk.toNat)
 | [],i,s,h=>by simp at h
 | t::l,0,s,h=>by simp at h;subst h;rfl
 | t::l,i+1,s,h=>by
  rw [show(i+1) * 3+1=i * 3+1+1+1+1 by omega]
  simp only [spsC,List.getElem?_cons_succ]
  exact spsC_1 (by simpa using h)
theorem spsC_2:∀ {l:List PSp} {i:Nat} {s:PSp},l[i]?=some s→(spsC l)[i * 3+2]?=some (.int .u64 s.md.toNat)
 | [],i,s,h=>by simp at h
 | t::l,0,s,h=>by simp at h;subst h;rfl
 | t::l,i+1,s,h=>by
  rw [show(i+1) * 3+2=i * 3+2+1+1+1 by omega]
  simp only [spsC,List.getElem?_cons_succ]
  exact spsC_2 (by simpa using h)
theorem spsC_set0:∀ {l:List PSp} {i:Nat} {s:PSp} (c:Int),l[i]?=some s→(spsC l).set (i * 3) (.int .i64 c)=spsC (l.set i ⟨c,s.tk,s.md⟩)
 | [],i,s,c,h=>by simp at h
 | t::l,0,s,c,h=>by simp at h;subst h;rfl
 | t::l,i+1,s,c,h=>by
  rw [show(i+1) * 3=i * 3+1+1+1 by omega]
  simp only [spsC,List.set_cons_succ]
  rw [spsC_set0 c (by simpa using h)]
theorem spsC_set1:∀ {l:List PSp} {i:Nat} {s:PSp} (b:BitVec 64),l[i]?=some s→(spsC l).set (i * 3+1) (.int .u64 b.toNat)=spsC (l.set i ⟨s.cls,b,s.md⟩)
 | [],i,s,c,h=>by simp at h
 | t::l,0,s,c,h=>by simp at h;subst h;rfl
 | t::l,i+1,s,c,h=>by
  rw [show(i+1) * 3+1=i * 3+1+1+1+1 by omega]
  simp only [spsC,List.set_cons_succ]
  rw [spsC_set1 c (by simpa using h)]
theorem spsC_set2:∀ {l:List PSp} {i:Nat} {s:PSp} (b:BitVec 64),l[i]?=some s→(spsC l).set (i * 3+2) (.int .u64 b.toNat)=spsC (l.set i ⟨s.cls,s.tk,b⟩)
 | [],i,s,c,h=>by simp at h
 | t::l,0,s,c,h=>by simp at h;subst h;rfl
 | t::l,i+1,s,c,h=>by
  rw [show(i+1) * 3+2=i * 3+2+1+1+1 by omega]
  simp only [spsC,List.set_cons_succ]
  rw [spsC_set2 c (by simpa using h)]
theorem spsC_splice:∀ {l:List PSp} {i:Nat} (s:PSp),i<l.length→splice (spsC l) (i * 3) (spC s)=some (spsC (l.set i s))
 | [],i,s,h=>by simp at h
 | t::l,0,s,h=>by simp [spsC,spC,splice]
 | t::l,i+1,s,h=>by
  rw [show(i+1) * 3=i * 3+1+1+1 by omega]
  simp only [spsC,splice,spsC_splice s (show i<l.length by simpa using h),Option.map_some,List.set_cons_succ]
structure PAr where
 ws:List Int
 sp:List PSp
def wsC (l:List Int):List AV:=l.map fun n=>.int .i64 n
def capOk (sz n:Nat)(c:Cap):Prop:=c = .ex n∨c = .un sz
structure ArAt (h:Heap)(p w s:Nat)(a:PAr):Prop where
 hp:∃ c d,capOk 1 a.ws.length c∧h.get p=some (.cells true [.sl (some (w,0)) a.ws.length c,.sl (some (s,0)) a.sp.length d])
 hw:h.get w=some (.cells true (wsC a.ws))
 hs:h.get s=some (.cells true (spsC a.sp))
 pw:p≠w
 ps:p≠s
 sw:s≠w
 lp:p<h.next
 lw:w<h.next
 ls:s<h.next
 len:a.ws.length=a.sp.length * 64
 lo:8≤a.sp.length
 hi:a.sp.length≤512
theorem ArAt.same {h h' : Heap} {p w s : Nat} {a : PAr} {S : List Nat} (H : ArAt h p w s a) (hs : Same S h h') (hp : p ∉ S) (hw : w ∉ S) (hss : s ∉ S) : ArAt h' p w s a :=
  { H with
    hp := by rw [hs.get p H.lp hp]; exact H.hp
    hw := by rw [hs.get w H.lw hw]; exact H.hw
    hs := by rw [hs.get s H.ls hss]; exact H.hs
    lp := Nat.lt_of_lt_of_le H.lp hs.next
    lw := Nat.lt_of_lt_of_le H.lw hs.next
    ls := Nat.lt_of_lt_of_le H.ls hs.next }
def PAr.has (a:PAr)(n:Int):Prop:=1≤n∧n<a.sp.length
instance (a:PAr) (n:Int):Decidable (a.has n):=by unfold PAr.has;infer_instance
def PAr.at (a:PAr)(n:Int):PSp:=(a.sp[n.toNat]?).getD ⟨-1,0,0⟩
def PAr.cls (a:PAr)(n:Int):Int:=if a.has n then(a.at n).cls else -1
theorem PAr.at_some {a:PAr}{n:Int}(h:a.has n):a.sp[n.toNat]?=some (a.at n):=by
 unfold PAr.at
 have:n.toNat<a.sp.length:=by have:=h.1;have:=h.2;omega
 rw [List.getElem?_eq_getElem this];rfl
section
variable {h:Heap}{p w s:Nat}{a:PAr}(H:ArAt h p w s a)
include H
theorem ArAt.ld1:∃ d,ldS h (.ptr (some (p,1)))=some (.sl (some (s,0)) a.sp.length d):=by
 obtain⟨c,d,_,hp⟩:=H.hp
 exact⟨d,by rw [ldS_at hp];rfl⟩
theorem ArAt.ld0:∃ c,capOk 1 a.ws.length c∧ldS h (.ptr (some (p,0)))=some (.sl (some (w,0)) a.ws.length c):=by
 obtain⟨c,d,hc,hp⟩:=H.hp
 exact⟨c,hc,by rw [ldS_at hp];rfl⟩
theorem spans_eq:BG (.ptr (some (p,0))) h=some (.int .i64 a.sp.length,h):=by
 obtain⟨d,hd⟩:=H.ld1
 simp -implicitDefEqProofs [BG,hd]
theorem has_eq (n:Int):Al (.ptr (some (p,0))) (.int .i64 n) h=some (.bool (decide (a.has n)),h):=by
 obtain⟨d,hd⟩:=H.ld1
 by_cases h1:1≤n
 ·simp -implicitDefEqProofs [Al,hd,h1,PAr.has]
 ·simp -implicitDefEqProofs [Al,h1,PAr.has]
theorem class_eq (n:Int):AA (.ptr (some (p,0))) (.int .i64 n) h=some (.int .i64 (a.cls n),h):=by
 obtain⟨d,hd⟩:=H.ld1
 by_cases h1:a.has n
 ·have hl:=ldS_at (o:=n.toNat * 3) H.hs
  rw [spsC_0 (PAr.at_some h1)] at hl
  simp -implicitDefEqProofs [AA,has_eq H,hd,h1,PAr.cls,iaS_sl 3 (s,0) _ _ .i64 n ⟨by have:=h1.1;omega,h1.2⟩,hl]
 ·simp -implicitDefEqProofs [AA,has_eq H,h1,PAr.cls]
end
section
variable {h:Heap}{p w s:Nat}{a:PAr}
theorem ArAt.setSp (H : ArAt h p w s a) {l : List PSp} (hl : l.length = a.sp.length) : ArAt (h.put s (some (.cells true (spsC l)))) p w s ⟨a.ws, l⟩ :=
  { hp := by rw [get_put_ne H.ps, hl]; exact H.hp
    hw := by rw [get_put_ne (Ne.symm H.sw)]; exact H.hw
    hs := get_put_eq
    pw := H.pw, ps := H.ps, sw := H.sw, lp := H.lp, lw := H.lw, ls := H.ls
    len := by rw [hl]; exact H.len
    lo := by rw [hl]; exact H.lo
    hi := by rw [hl]; exact H.hi }
theorem ArAt.setWs (H : ArAt h p w s a) {l : List Int} (hl : l.length = a.ws.length) : ArAt (h.put w (some (.cells true (wsC l)))) p w s ⟨l, a.sp⟩ :=
  { hp := by rw [get_put_ne H.pw, hl]; exact H.hp
    hw := get_put_eq
    hs := by rw [get_put_ne H.sw]; exact H.hs
    pw := H.pw, ps := H.ps, sw := H.sw, lp := H.lp, lw := H.lw, ls := H.ls
    len := by rw [hl]; exact H.len
    lo := H.lo
    hi := H.hi }
theorem PAr.has_lt {a:PAr}{n:Int}(hn:a.has n):n.toNat<a.sp.length:=by have:=hn.1;have:=hn.2;omega
theorem ArAt.ix (H:ArAt h p w s a){n:Int}(hn:a.has n)(d:Cap):iaS 3 (.sl (some (s,0)) a.sp.length d) (.int .i64 n)=some (.ptr (some (s,n.toNat * 3))):=by
 rw [iaS_sl 3 (s,0) _ _ .i64 n ⟨by have:=hn.1;omega,hn.2⟩];simp
theorem ArAt.ldc (H:ArAt h p w s a){n:Int}(hn:a.has n):ldS h (.ptr (some (s,n.toNat * 3)))=some (.int .i64 (a.at n).cls):=by
 rw [ldS_at H.hs,spsC_0 (PAr.at_some hn)]
theorem ArAt.ldt (H:ArAt h p w s a){n:Int}(hn:a.has n):ldS h (.ptr (some (s,n.toNat * 3+1)))=some (.int .u64 (a.at n).tk.toNat):=by
 rw [ldS_at H.hs,spsC_1 (PAr.at_some hn)]
theorem ArAt.ldm (H:ArAt h p w s a){n:Int}(hn:a.has n):ldS h (.ptr (some (s,n.toNat * 3+2)))=some (.int .u64 (a.at n).md.toNat):=by
 rw [ldS_at H.hs,spsC_2 (PAr.at_some hn)]
def PAr.setS (a:PAr)(n:Int)(x:PSp):PAr:=⟨a.ws,a.sp.set n.toNat x⟩
theorem PAr.setS_len (a:PAr)(n:Int)(x:PSp):(a.setS n x).sp.length=a.sp.length:=by simp [PAr.setS]
theorem PAr.setS_has (a:PAr)(n m:Int)(x:PSp):(a.setS n x).has m↔a.has m:=by unfold PAr.has;rw [a.setS_len]
theorem PAr.setS_at {a:PAr}{n:Int}(x:PSp)(hn:a.has n):(a.setS n x).at n=x:=by
 unfold PAr.at PAr.setS;simp [PAr.has_lt hn]
theorem PAr.setS_ne {a:PAr}{n m:Int}(x:PSp)(hn:a.has n)(hm:a.has m)(hne:m≠n):(a.setS n x).at m=a.at m:=by
 unfold PAr.at PAr.setS
 have:=hn.1;have:=hm.1
 simp only
 rw [List.getElem?_set_ne (by omega)]
theorem PAr.setS_cls {a:PAr}{n m:Int}(x:PSp)(hn:a.has n):(a.setS n x).cls m=if m=n then x.cls else a.cls m:=by
 unfold PAr.cls
 by_cases hm:a.has m
 ·rw [if_pos ((a.setS_has n m x).2 hm),if_pos hm]
  by_cases e:m=n
  ·subst e;rw [if_pos rfl,PAr.setS_at x hm]
  ·rw [if_neg e,PAr.setS_ne x hn hm e]
 ·rw [if_neg (fun h=>hm ((a.setS_has n m x).1 h)),if_neg hm,if_neg (fun e=>hm (by rw [e];exact hn))]
theorem PAr.setS_setS (a:PAr)(n:Int)(x y:PSp):(a.setS n x).setS n y=a.setS n y:=by
 unfold PAr.setS;simp
theorem ArAt.stt (H:ArAt h p w s a){n:Int}(hn:a.has n)(b:BitVec 64):stP 1 h (.ptr (some (s,n.toNat * 3+1))) (.int .u64 b.toNat)=some (.bot,h.put s (some (.cells true (spsC (a.setS n ⟨(a.at n).cls,b,(a.at n).md⟩).sp)))):=by
 rw [stP_one H.hs (by rw [spsC_length];have:=PAr.has_lt hn;omega) rfl,spsC_set1 b (PAr.at_some hn)];rfl
theorem ArAt.stm (H:ArAt h p w s a){n:Int}(hn:a.has n)(b:BitVec 64):stP 1 h (.ptr (some (s,n.toNat * 3+2))) (.int .u64 b.toNat)=some (.bot,h.put s (some (.cells true (spsC (a.setS n ⟨(a.at n).cls,(a.at n).tk,b⟩).sp)))):=by
 rw [stP_one H.hs (by rw [spsC_length];have:=PAr.has_lt hn;omega) rfl,spsC_set2 b (PAr.at_some hn)];rfl
theorem ArAt.sts (H:ArAt h p w s a){n:Int}(hn:a.has n)(x:PSp):stP 3 h (.ptr (some (s,n.toNat * 3))) (.agg (spC x))=some (.bot,h.put s (some (.cells true (spsC (a.setS n x).sp)))):=by
 simp only [stP,AV.cells,spC,List.length_cons,List.length_nil,ne_eq,not_true_eq_false,if_false,storeN,List.all_cons,List.all_nil,scalar,Bool.and_self,if_true,H.hs,spliceF_eq]
 have:=spsC_splice x (PAr.has_lt hn)
 simp only [spC] at this
 rw [this];rfl
theorem ArAt.sets (H:ArAt h p w s a)(n:Int)(x:PSp):ArAt (h.put s (some (.cells true (spsC (a.setS n x).sp)))) p w s (a.setS n x):=H.setSp (a.setS_len n x)
end
def PAr.set (a:PAr)(n c:Int):Int × PAr:=
 if ¬ a.has n∨wordsOf c=0 then(1,a) else if (a.at n).cls≠-1 then(5,a) else(0,a.setS n ⟨c,0,0⟩)
theorem bld_sp (c:Int)(t m:BitVec 64):bldS [(0,1),(1,1),(2,1)] [(AV.int .i64 0),(AV.int .u64 0),(AV.int .u64 0)] [(0,(AV.int .i64 c))]=some (.agg (spC ⟨c,0,0⟩)):=by
 rfl
theorem set_ok {h:Heap}{p w s:Nat}{a:PAr}(H:ArAt h p w s a)(n c:Int) :
  Ok (An (.ptr (some (p,0))) (.int .i64 n) (.int .i64 c) h) fun r=>r.1 = .int .i64 (a.set n c).1∧ArAt r.2 p w s (a.set n c).2∧Same [s] h r.2:=by
 obtain⟨d,hd⟩:=H.ld1
 by_cases h1:a.has n
 ·by_cases h2:wordsOf c=0
  ·refine(Ok.of (r:=(.int .i64 1,h)) ?_).eq (by simp -implicitDefEqProofs [An,has_eq H,h1,words_eq,h2])
   simp only [PAr.set,h2,or_true,if_true]
   exact⟨trivial,H,Same.refl _ _⟩
  ·by_cases h3:(a.at n).cls = -1
   ·refine(Ok.of (r:=(.int .i64 0,h.put s (some (.cells true (spsC (a.setS n ⟨c,0,0⟩).sp))))) ?_).eq ?_
    ·simp only [PAr.set,h1,h2,h3,not_true_eq_false,or_false,if_false,ne_eq]
     exact⟨trivial,H.sets n _,Same.put _ _ _⟩
    ·simp -implicitDefEqProofs [An,has_eq H,h1,words_eq,h2,hd,H.ix h1,H.ldc h1,h3,bld_sp c 0 0,H.sts h1]
   ·refine(Ok.of (r:=(.int .i64 5,h)) ?_).eq (by simp -implicitDefEqProofs [An,has_eq H,h1,words_eq,h2,hd,H.ix h1,H.ldc h1,h3])
    simp only [PAr.set,h1,h2,h3,not_true_eq_false,or_false,if_false,ne_eq,not_false_eq_true,if_true]
    exact⟨trivial,H,Same.refl _ _⟩
 ·refine(Ok.of (r:=(.int .i64 1,h)) ?_).eq (by simp -implicitDefEqProofs [An,has_eq H,h1])
  simp only [PAr.set,h1,not_false_eq_true,true_or,if_true]
  exact⟨trivial,H,Same.refl _ _⟩
def bitOf (q:Nat):BitVec 64:=BitVec.twoPow 64 q
theorem shl_one (q:Nat)(hq:q < 64):binP .shl (.int .u64 1) (.int .u64 (q:Int))=some (.int .u64 (bitOf q).toNat):=by
 have h:=shl_u64 1#64 .u64 q (by omega)
 have e:((1#64).toNat:Int)=1:=rfl
 rw [e] at h
 rw [h,Int.toNat_natCast,← BitVec.twoPow_eq];rfl
theorem bit_get (q i:Nat)(hq:q < 64):(bitOf q).getLsbD i=decide (i=q):=by
 unfold bitOf
 rw [BitVec.getLsbD_twoPow]
 by_cases h:i=q
 ·subst h;simp [hq]
 ·have : ¬ q=i:=fun e=>h e.symm
  simp [h,this]
theorem wp_cases (c:Int)(q:Int)(h0:0≤q)(h:q<placesOf c):0≤c∧c≤5∧2≤wordsOf c∧q*wordsOf c+wordsOf c≤64∧placesOf c*wordsOf c=64∧placesOf c≤32:=by
 rcases cls_cases c with(rfl | rfl | rfl | rfl | rfl | rfl) | ⟨_,h2,_⟩
 all_goals simp only [wordsOf,placesOf] at *
 all_goals first
  | (simp at h ⊢;omega)
  | omega
theorem addr_eq (n q c:Int)(h:Heap)(hn:1≤n∧n < 512)(hq:0≤q)(hc:q<placesOf c):C5 (.int .i64 n) (.int .i64 q) (.int .i64 c) h=some (.int .i64 (n * 64+q*wordsOf c),h):=by
 obtain⟨_,_,h3,h4,h5,h6⟩:=wp_cases c q hq hc
 have e1 : ¬ n < 1:=by omega
 have e2 : ¬ 512≤n:=by omega
 have e3 : ¬ q < 0:=by omega
 have e4 : ¬ placesOf c≤q:=by omega
 have h7:0≤q*wordsOf c:=Int.mul_nonneg hq (by omega)
 simp -implicitDefEqProofs [C5,e1,e2,e3,places_eq,e4,words_eq]
 rw [wrap_i64 (n:=n * 64) (by omega) (by omega),wrap_i64 (n:=q*wordsOf c) (by omega) (by omega),wrap_i64 (by omega) (by omega)]
def clr (l:List Int)(o n:Nat):List Int:=l.take o++List.replicate n 0++l.drop (o+n)
theorem clr_length {l:List Int}{o n:Nat}(h:o+n≤l.length):(clr l o n).length=l.length:=by
 simp only [clr,List.length_append,List.length_take,List.length_replicate,List.length_drop];omega
theorem rep_eq (z:List AV):∀ n,rep z n=(List.replicate n z).flatten
 | 0=>rfl
 | n+1=>by rw [List.replicate_succ,List.flatten_cons,← rep_eq z n];rfl
theorem rep_one (v:AV)(n:Nat):rep [v] n=List.replicate n v:=by
 rw [rep_eq]
 induction n with
 | zero=>rfl
 | succ n ih=>rw [List.replicate_succ,List.flatten_cons,ih,List.replicate_succ];rfl
theorem slc_eq {w len:Nat}{c:Cap}(hc:capOk 1 len c){lo hi:Int}(h0:0≤lo)(h1:lo≤hi)(h2:hi≤len) :
  ∃ c',slcP 1 (.sl (some (w,0)) len c) (some (.int .i64 lo)) (some (.int .i64 hi)) none=some (.sl (some (w,if lo=len∧c = .ex len then 0 else lo.toNat)) (hi-lo).toNat c'):=by
 have b1:boundA (.int .i64 hi) len=some hi.toNat:=by simp only [boundA];rw [if_pos ⟨by omega,h2⟩]
 have b2:boundA (.int .i64 lo) hi.toNat=some lo.toNat:=by simp only [boundA];rw [if_pos ⟨h0,by omega⟩]
 have e:hi.toNat-lo.toNat=(hi-lo).toNat:=by omega
 rcases hc with rfl | rfl
 ·refine⟨.ex (len-lo.toNat),?_⟩
  simp only [slcP,sliceEx,mostA,highA,lowA,b1,b2,Option.bind_some,e]
  by_cases hl:len=lo.toNat
  ·obtain rfl:lo=(len:Int):=by omega
   simp
  ·have : ¬ lo=len:=by omega
   simp [hl,this,addA]
 ·refine⟨.un 1,?_⟩
  simp [slcP,sliceUn,highA,lowA,b1,b2,e,addA]
theorem clL_ok {h:Heap}{w:Nat}{ws:List Int}(hw:h.get w=some (.cells true (wsC ws))){o n:Nat}(hn:0<n)(ho:o+n≤ws.length)(c:Cap) :
  clL 1 [.int .i64 0] h (.sl (some (w,o)) n c)=some (.tup [],h.put w (some (.cells true (wsC (clr ws o n))))):=by
 have hz : ¬ n=0:=by omega
 have hr:(rep [AV.int .i64 0] n)=wsC (List.replicate n 0):=by rw [rep_one];simp [wsC]
 have hall:(wsC (List.replicate n 0)).all scalar=true:=by simp [wsC,scalar]
 simp only [clL,hz,if_false,List.length_singleton,ne_eq,not_true_eq_false,storeN,hr,hall,if_true,hw,spliceF_eq]
 rw [splice_some _ _ _ (by simp [wsC];omega)]
 simp [wsC,clr]
theorem PAr.setS_ws (a:PAr)(n:Int)(x:PSp):(a.setS n x).ws=a.ws:=rfl
def PAr.take (a : PAr) (n : Int) : Int × Int × PAr :=
  if a.cls n = -1 then (0, 4, a) else
  if placesOf (a.at n).cls ≤ first0 (a.at n).tk then (0, 5, a) else
  (n * 64 + first0 (a.at n).tk * wordsOf (a.at n).cls, 0,
    ⟨clr a.ws (n * 64 + first0 (a.at n).tk * wordsOf (a.at n).cls).toNat (wordsOf (a.at n).cls).toNat,
     (a.setS n ⟨(a.at n).cls, (a.at n).tk ||| bitOf (first0 (a.at n).tk), (a.at n).md &&& ~~~ bitOf (first0 (a.at n).tk)⟩).sp⟩)
theorem take_ok {h:Heap}{p w s:Nat}{a:PAr}(H:ArAt h p w s a)(ht:Tabled h)(h0:s≠0)(n:Int) :
  Ok (Ad (.ptr (some (p,0))) (.int .i64 n) h) fun r=>r.1 = .tup [.int .i64 (a.take n).1,.int .i64 (a.take n).2.1]∧ArAt r.2 p w s (a.take n).2.2∧Same [w,s] h r.2:=by
 by_cases h1:a.cls n = -1
 ·refine(Ok.of (r:=(.tup [.int .i64 0,.int .i64 4],h)) ?_).eq (by simp -implicitDefEqProofs [Ad,class_eq H,h1])
  simp only [PAr.take,h1,if_true]
  exact⟨trivial,H,Same.refl _ _⟩
 ·have hn:a.has n:=by
   by_cases hn:a.has n
   ·exact hn
   ·exact absurd (by simp only [PAr.cls,hn,if_false]) h1
  have hc:a.cls n=(a.at n).cls:=by simp only [PAr.cls,hn,if_true]
  rw [hc] at h1
  obtain⟨d,hd⟩:=H.ld1
  by_cases h2:placesOf (a.at n).cls≤first0 (a.at n).tk
  ·refine(Ok.of (r:=(.tup [.int .i64 0,.int .i64 5],h)) ?_).eq (by
    simp -implicitDefEqProofs [Ad,class_eq H,hc,h1,hd,H.ix hn,H.ldt hn,first_eq _ ht,places_eq,h2])
   simp only [PAr.take,hc,h1,h2,if_true,if_false]
   exact⟨trivial,H,Same.refl _ _⟩
  ·have hq:=wp_cases (a.at n).cls (first0 (a.at n).tk) (by omega) (by omega)
   generalize hqq:first0 (a.at n).tk=q at *
   obtain⟨q1,q2,q3,q4,q5,q6⟩:=hq
   have hqw:(0:Int)≤q*wordsOf (a.at n).cls:=Int.mul_nonneg (by omega) (by omega)
   have H1:=H.sets n ⟨(a.at n).cls,(a.at n).tk ||| bitOf q,(a.at n).md⟩
   have hn1:=(a.setS_has n n ⟨(a.at n).cls,(a.at n).tk ||| bitOf q,(a.at n).md⟩).2 hn
   have e1:=PAr.setS_at ⟨(a.at n).cls,(a.at n).tk ||| bitOf q,(a.at n).md⟩ hn
   have l1:=H1.ldm hn1
   have s1:=H1.stm hn1 ((a.at n).md &&& ~~~ bitOf q)
   have H2:=H1.sets n ⟨(a.at n).cls,(a.at n).tk ||| bitOf q,(a.at n).md &&& ~~~ bitOf q⟩
   rw [e1] at l1 s1
   rw [PAr.setS_setS] at H2
   simp only [PAr.setS_setS] at s1 H2
   obtain⟨c,hcap,hd2⟩:=H2.ld0
   simp only [PAr.setS_ws] at hcap hd2
   have hlen:=H.len
   have hhi:=H.hi
   have b1:=hn.1
   have b2:=hn.2
   have hsl:∃ c',slcP 1 (.sl (some (w,0)) a.ws.length c) (some (.int .i64 (n * 64+q*wordsOf (a.at n).cls))) (some (.int .i64 (n * 64+q*wordsOf (a.at n).cls+wordsOf (a.at n).cls))) none
     = some (.sl (some (w,(n * 64+q*wordsOf (a.at n).cls).toNat)) (wordsOf (a.at n).cls).toNat c'):=by
    obtain⟨c',hc'⟩:=slc_eq (w:=w) hcap (lo:=n * 64+q*wordsOf (a.at n).cls) (hi:=n * 64+q*wordsOf (a.at n).cls+wordsOf (a.at n).cls) (by omega) (by omega) (by simp only [PAr.setS_ws] at *;omega)
    refine⟨c',hc'.trans ?_⟩
    rw [if_neg (by simp only [PAr.setS_ws] at *;omega)]
    congr 3;omega
   obtain⟨c',hsl⟩:=hsl
   have hcl:=clL_ok H2.hw (o:=(n * 64+q*wordsOf (a.at n).cls).toNat) (n:=(wordsOf (a.at n).cls).toNat) (by omega) (by simp only [PAr.setS_ws] at *;omega) c'
   have H3:=H2.setWs (l:=clr (a.setS n ⟨(a.at n).cls,(a.at n).tk ||| bitOf q,(a.at n).md &&& ~~~ bitOf q⟩).ws (n * 64+q*wordsOf (a.at n).cls).toNat (wordsOf (a.at n).cls).toNat) (clr_length (by simp only [PAr.setS_ws] at *;omega))
   have hw64:IntKind.u64.wrap (q:Int)=q:=wrap_u64 (by omega) (by omega)
   have hwr:IntKind.i64.wrap (n * 64+q*wordsOf (a.at n).cls+wordsOf (a.at n).cls)=n * 64+q*wordsOf (a.at n).cls+wordsOf (a.at n).cls:=wrap_i64 (by omega) (by omega)
   refine(Ok.of ?_).eq (by
    simp -implicitDefEqProofs only [Ad,class_eq H,hc,h1,hd,H.ix hn,H.ldt hn,first_eq _ ht,hqq,places_eq,h2,cl_some,eql_int,decide_false,Option.bind_some,condE_false,nilV_ptr,faP_ptr,bin_geq,cvI_int,hw64,shl_one q (by omega),or_u64,ofInt_toNat,H.stt hn,l1,andNot_u64,s1,addr_eq n q (a.at n).cls _ ⟨by omega,by omega⟩ (by omega) (by omega),Nat.add_zero]
    simp -implicitDefEqProofs only [rdC,hd2,Option.bind_some,clC_some,words_eq,cl_some,bin_add,hwr,hsl,hcl]
    exact chk_two (same_sl _ _ _) hd2 hd2)
   simp only [PAr.take,hc,h1,hqq,h2,if_false]
   refine⟨trivial,H3,?_⟩
   exact((Same.put _ _ _).trans ((Same.put _ _ _).sub (by simp)) |>.sub (T:=[w,s]) (by simp)).trans ((Same.put _ _ _).sub (by simp))
def placeOf (ad c:Int):Int:=if wordsOf c=0∨spanOf ad = -1 then -1 else if ad % 64 % wordsOf c≠0 then -1 else ad % 64 / wordsOf c
theorem spanOf_pos {ad:Int}(h:spanOf ad≠-1):0≤ad∧ad < 32768∧spanOf ad=ad / 64:=by
 unfold spanOf at h ⊢
 split at h
 ·rename_i h';rw [if_pos h'];exact⟨h'.1,h'.2,rfl⟩
 ·exact absurd rfl h
theorem words_pos {c:Int}(h:wordsOf c≠0):0≤c∧c≤5∧2≤wordsOf c∧wordsOf c≤64:=by
 rcases cls_cases c with(rfl | rfl | rfl | rfl | rfl | rfl) | ⟨h1,_,_⟩
 all_goals first
  | exact absurd h1 h
  | (refine⟨by omega,by omega,?_,?_⟩<;>decide)
theorem rem_nonneg {a b:Int}(ha:0≤a):a.tmod b=a % b:=Int.tmod_eq_emod_of_nonneg ha
theorem div_nonneg' {a b:Int}(ha:0≤a):a.tdiv b=a / b:=Int.tdiv_eq_ediv_of_nonneg ha
theorem place_eq (ad c:Int)(h:Heap):BQ (.int .i64 ad) (.int .i64 c) h=some (.int .i64 (placeOf ad c),h):=by
 by_cases h1:wordsOf c=0
 ·simp -implicitDefEqProofs [BQ,words_eq,h1,placeOf]
 ·by_cases h2:spanOf ad = -1
  ·simp -implicitDefEqProofs [BQ,words_eq,h1,span_eq,h2,placeOf]
  ·obtain⟨p1,p2,_⟩:=spanOf_pos h2
   obtain⟨w1,w2,w3,w4⟩:=words_pos h1
   have e1:ad.tmod 64=ad % 64:=rem_nonneg p1
   have e2:(ad % 64).tmod (wordsOf c)=ad % 64 % wordsOf c:=rem_nonneg (by omega)
   have e3:(ad % 64).tdiv (wordsOf c)=ad % 64 / wordsOf c:=div_nonneg' (by omega)
   have b1:ad % 64 / wordsOf c≤ad % 64:=Int.ediv_le_self _ (by omega)
   have b2:0≤ad % 64 / wordsOf c:=Int.ediv_nonneg (by omega) (by omega)
   by_cases h3:ad % 64 % wordsOf c=0
   ·simp -implicitDefEqProofs [BQ,words_eq,h1,span_eq,h2,placeOf,e1,e2,e3,h3]
    exact wrap_i64 (by omega) (by omega)
   ·simp -implicitDefEqProofs [BQ,words_eq,h1,span_eq,h2,placeOf,e1,e2,h3]
theorem bit_is (b:BitVec 64)(q:Nat):decide ((((b >>> q) &&& BitVec.ofInt 64 1).toNat:Int)=0) = !b.getLsbD q:=by
 have e:(b >>> q) &&& BitVec.ofInt 64 1=if b.getLsbD q then 1#64 else 0#64:=by
  apply BitVec.eq_of_getLsbD_eq
  intro i hi
  have e1:BitVec.ofInt 64 1=1#64:=rfl
  rw [BitVec.getLsbD_and,BitVec.getLsbD_ushiftRight,e1,BitVec.getLsbD_one]
  by_cases h:i=0
  ·subst h
   cases hb:b.getLsbD q<;>simp [hb]
  ·cases hb:b.getLsbD q<;>simp [h]
 rw [e]
 cases b.getLsbD q<;>simp
def PAr.find (a:PAr)(ad:Int):Option (Int × Nat):=
 if placeOf ad (a.cls (spanOf ad)) < 0∨(a.at (spanOf ad)).tk.getLsbD (placeOf ad (a.cls (spanOf ad))).toNat=false then none
 else some (spanOf ad,(placeOf ad (a.cls (spanOf ad))).toNat)
theorem placeOf_bound {ad c:Int}(h:0≤placeOf ad c):0≤c∧c≤5∧wordsOf c≠0∧spanOf ad≠-1∧placeOf ad c<placesOf c∧ad=spanOf ad * 64+placeOf ad c*wordsOf c:=by
 unfold placeOf at h ⊢
 by_cases h1:wordsOf c=0∨spanOf ad = -1
 ·rw [if_pos h1] at h;omega
 ·rw [if_neg h1] at h ⊢
  by_cases h2:ad % 64 % wordsOf c≠0
  ·rw [if_pos h2] at h;omega
  ·rw [if_neg h2] at h ⊢
   have h1a:wordsOf c≠0:=fun e=>h1 (.inl e)
   have h1b:spanOf ad≠-1:=fun e=>h1 (.inr e)
   obtain⟨p1,p2,p3⟩:=spanOf_pos h1b
   obtain⟨w1,w2,_,_⟩:=words_pos h1a
   refine⟨w1,w2,h1a,h1b,?_,?_⟩
   ·have hm:ad % 64 < 64:=Int.emod_lt_of_pos _ (by omega)
    rcases (by omega:c=0∨c=1∨c=2∨c=3∨c=4∨c=5) with rfl | rfl | rfl | rfl | rfl | rfl<;>simp only [wordsOf,placesOf]<;>simp<;>omega
   ·rw [p3]
    have h2':ad % 64 % wordsOf c=0:=by omega
    have:=Int.mul_ediv_add_emod (ad % 64) (wordsOf c)
    rw [h2',Int.mul_comm] at this
    omega
theorem cls_has {a:PAr}{n:Int}(h:a.cls n≠-1):a.has n∧a.cls n=(a.at n).cls:=by
 unfold PAr.cls at h ⊢
 by_cases hn:a.has n
 ·rw [if_pos hn];exact⟨hn,rfl⟩
 ·rw [if_neg hn] at h;exact absurd rfl h
theorem find_some {a:PAr}{ad n:Int}{q:Nat}(h:a.find ad=some (n,q)) :
  a.has n∧n=spanOf ad∧(q:Int)<placesOf (a.at n).cls∧(a.at n).tk.getLsbD q=true∧ad=n * 64+q*wordsOf (a.at n).cls∧0≤(a.at n).cls∧(a.at n).cls≤5:=by
 unfold PAr.find at h
 split at h
 ·cases h
 ·rename_i hne
  injection h with h;injection h with h1 h2
  obtain⟨b1,b2,b3,b4,b5,b6⟩:=placeOf_bound (ad:=ad) (c:=a.cls (spanOf ad)) (by omega)
  obtain⟨c1,c2⟩:=cls_has (a:=a) (n:=spanOf ad) (by omega)
  rw [c2] at b1 b2 b5 b6 h2
  rw [c2] at hne
  have ht:(a.at (spanOf ad)).tk.getLsbD q=true:=by rw [← h2];simpa using fun e=>hne (.inr e)
  have hq:(q:Int)=placeOf ad (a.at (spanOf ad)).cls:=by omega
  rw [← hq] at b5 b6
  rw [← h1]
  exact⟨c1,rfl,b5,ht,b6,b1,b2⟩
theorem shr_is (b:BitVec 64)(q:Nat):binP .shr (.int .u64 b.toNat) (.int .u64 (q:Int))=some (.int .u64 (b >>> q).toNat):=by
 have:=shr_u64 b .u64 q (by omega)
 rw [Int.toNat_natCast] at this;exact this
section
variable {h:Heap}{p w s:Nat}{a:PAr}(H:ArAt h p w s a)
include H
theorem find_eq (ad:Int):AW (.ptr (some (p,0))) (.int .i64 ad) h =
  some (match a.find ad with | none=>.tup [.ptr none,.int .u64 0] | some (n,q)=>.tup [.ptr (some (s,n.toNat * 3)),.int .u64 (bitOf q).toNat],h):=by
 by_cases h1:placeOf ad (a.cls (spanOf ad)) < 0
 ·have e:a.find ad=none:=by simp only [PAr.find,h1,true_or,if_true]
  simp -implicitDefEqProofs [AW,span_eq,class_eq H,place_eq,h1,e]
 ·obtain⟨b1,b2,b3,b4,b5,b6⟩:=placeOf_bound (ad:=ad) (c:=a.cls (spanOf ad)) (by omega)
  obtain⟨c1,c2⟩:=cls_has (a:=a) (n:=spanOf ad) (by omega)
  obtain⟨d,hd⟩:=H.ld1
  obtain⟨q,hq⟩:∃ q:Nat,placeOf ad (a.cls (spanOf ad))=q:=⟨(placeOf ad (a.cls (spanOf ad))).toNat,by omega⟩
  have hb:=wp_cases _ _ (by omega) b5
  have hq64:q < 64:=by omega
  have hw64:IntKind.u64.wrap (q:Int)=q:=wrap_u64 (by omega) (by omega)
  have hf:a.find ad=if (a.at (spanOf ad)).tk.getLsbD q=false then none else some (spanOf ad,q):=by
   unfold PAr.find;rw [hq,Int.toNat_natCast]
   have : ¬ (q:Int) < 0:=by omega
   simp only [this,false_or]
  have hn0 : ¬ (q:Int) < 0:=by omega
  cases hb:(a.at (spanOf ad)).tk.getLsbD q with
  | false=>
   have e:a.find ad=none:=by rw [hf,hb];rfl
   simp -implicitDefEqProofs only [AW,span_eq,class_eq H,place_eq,hq,hn0,decide_false,cl_some,Option.bind_some,bin_lss,gdW_bool,beq_self_eq_true,gQ_true,nilV_ptr,faP_ptr,hd,H.ix c1,H.ldt c1,cvI_int,hw64,shr_is,and_u64,ofInt_toNat,eql_int,bit_is,hb,Bool.not_false,pickP_bool,if_false,condE_true,e,Nat.add_zero,Nat.zero_add,Bool.false_eq_true]
  | true=>
   have e:a.find ad=some (spanOf ad,q):=by rw [hf,hb];rfl
   simp -implicitDefEqProofs only [AW,span_eq,class_eq H,place_eq,hq,hn0,decide_false,cl_some,Option.bind_some,bin_lss,gdW_bool,beq_self_eq_true,gQ_true,nilV_ptr,faP_ptr,hd,H.ix c1,H.ldt c1,cvI_int,hw64,shr_is,and_u64,ofInt_toNat,eql_int,bit_is,hb,Bool.not_true,pickP_bool,if_false,condE_false,e,Nat.add_zero,Nat.zero_add,Bool.false_eq_true,shl_one q hq64]
def PAr.is (a:PAr)(ad:Int):Bool:=(a.find ad).isSome
def PAr.taken (a:PAr)(n:Int):BitVec 64:=if a.cls n = -1 then 0 else(a.at n).tk
theorem taken_eq (n:Int):Aj (.ptr (some (p,0))) (.int .i64 n) h=some (.int .u64 (a.taken n).toNat,h):=by
 by_cases h1:a.cls n = -1
 ·simp -implicitDefEqProofs [Aj,class_eq H,h1,PAr.taken]
 ·obtain⟨c1,c2⟩:=cls_has h1
  obtain⟨d,hd⟩:=H.ld1
  simp -implicitDefEqProofs [Aj,class_eq H,h1,PAr.taken,hd,H.ix c1,H.ldt c1]
end
def cnt (f:Nat→Bool):Nat→Nat
 | 0=>0
 | n+1=>cnt f n+(f n).toNat
theorem cnt_add (f:Nat→Bool)(m:Nat):∀ n,cnt f (m+n)=cnt f m+cnt (fun i=>f (m+i)) n
 | 0=>rfl
 | n+1=>by rw [← Nat.add_assoc,cnt,cnt_add f m n,cnt,Nat.add_assoc]
theorem cnt_congr {f g:Nat→Bool}:∀ {n:Nat},(∀ i,i<n→f i=g i)→cnt f n=cnt g n
 | 0,_=>rfl
 | n+1,h=>by rw [cnt,cnt,cnt_congr (fun i hi=>h i (by omega)),h n (by omega)]
theorem cnt_le (f:Nat→Bool):∀ n,cnt f n≤n
 | 0=>Nat.le_refl _
 | n+1=>by rw [cnt];have:=cnt_le f n;cases f n<;>simp<;>omega
def ones (b:BitVec 64):Nat:=cnt b.getLsbD 64
theorem bit_split (v r j:Nat)(hv:v < 256):(v+256*r).testBit j=if j < 8 then v.testBit j else r.testBit (j - 8):=by
 have:=Nat.testBit_two_pow_mul_add r (i:=8) (b:=v) (by simpa using hv) j
 rw [Nat.add_comm];exact this
theorem and_split (v r m s:Nat)(hv:v < 256)(hm:m < 256):(v+256*r) &&& (m+256*s)=(v &&& m)+256*(r &&& s):=by
 apply Nat.eq_of_testBit_eq
 intro j
 rw [Nat.testBit_and,bit_split v r j hv,bit_split m s j hm,bit_split _ _ j (Nat.lt_of_le_of_lt Nat.and_le_left hv)]
 split<;>rw [Nat.testBit_and]
theorem bit_high (m n j:Nat)(hm:m < 2 ^ n)(hj:n≤j):m.testBit j=false:=Nat.testBit_lt_two_pow (Nat.lt_of_lt_of_le hm (Nat.pow_le_pow_right (by decide) hj))
theorem shr_split (k v r m s:Nat)(hk:k < 8)(hv:v < 256)(hm:m < 2 ^ (8-k)):((v+256*r) >>> k) &&& (m+256*s)=((v >>> k) &&& m)+256*((r >>> k) &&& s):=by
 have hm':m < 256:=Nat.lt_of_lt_of_le hm (by have:=Nat.pow_le_pow_right (n:=2) (by decide) (show 8-k≤8 by omega);simpa using this)
 apply Nat.eq_of_testBit_eq
 intro j
 rw [Nat.testBit_and,Nat.testBit_shiftRight,bit_split v r _ hv,bit_split m s j hm',bit_split _ _ j (Nat.lt_of_le_of_lt Nat.and_le_right hm')]
 by_cases h8:j < 8
 ·rw [if_pos h8,if_pos h8,Nat.testBit_and,Nat.testBit_shiftRight]
  by_cases hkj:k+j < 8
  ·rw [if_pos hkj]
  ·rw [bit_high m (8-k) j hm (by omega)];simp
 ·rw [if_neg h8,if_neg h8,if_neg (by omega),Nat.testBit_and,Nat.testBit_shiftRight]
  rw [show k+j - 8=k+(j - 8) by omega]
def s1 (v:Nat):Nat:=((v >>> 1) &&& 0x55)+(v &&& 0x55)
def s2 (v:Nat):Nat:=((v >>> 2) &&& 0x33)+(v &&& 0x33)
def s3 (v:Nat):Nat:=v / 16+v % 16
def byteOk (v:Nat):Bool:=Nat.ble (s1 v) 170 && Nat.ble (s2 (s1 v) % 16) 4 && Nat.ble (s2 (s1 v) / 16) 4 && Nat.beq (s3 (s2 (s1 v))) (cnt v.testBit 8)
theorem byteOk_all:((List.range 256).all byteOk)=true:=by decide +kernel
theorem byteOk_at (v:Nat)(hv:v < 256):s1 v < 256∧s2 (s1 v) % 16≤4∧s2 (s1 v) / 16≤4∧s3 (s2 (s1 v))=cnt v.testBit 8:=by
 have h:=List.all_eq_true.1 byteOk_all v (List.mem_range.2 hv)
 simp only [byteOk,Bool.and_eq_true,Nat.ble_eq] at h
 exact⟨by omega,h.1.1.2,h.1.2,Nat.eq_of_beq_eq_true h.2⟩
def n8 (a b c d e f g i:Nat):Nat:=a+256*(b+256*(c+256*(d+256*(e+256*(f+256*(g+256*i))))))
theorem n8_of (n:Nat)(h:n < 2 ^ 64):∃ a b c d e f g i,a < 256∧b < 256∧c < 256∧d < 256∧e < 256∧f < 256∧g < 256∧i < 256∧n=n8 a b c d e f g i:=
 ⟨n % 256,n / 256 % 256,n / 256 / 256 % 256,n / 256 / 256 / 256 % 256,n / 256 / 256 / 256 / 256 % 256,n / 256 / 256 / 256 / 256 / 256 % 256,n / 256 / 256 / 256 / 256 / 256 / 256 % 256,n / 256 / 256 / 256 / 256 / 256 / 256 / 256 % 256,
  by omega,by omega,by omega,by omega,by omega,by omega,by omega,by omega,by unfold n8;omega⟩
section
variable {a b c d e f g i:Nat}(ha:a < 256)(hb:b < 256)(hc:c < 256)(hd:d < 256)(he:e < 256)(hf:f < 256)(hg:g < 256)(hi:i < 256)
include ha hb hc hd he hf hg hi
theorem n8_and (m:Nat)(hm:m < 256):n8 a b c d e f g i &&& n8 m m m m m m m m=n8 (a &&& m) (b &&& m) (c &&& m) (d &&& m) (e &&& m) (f &&& m) (g &&& m) (i &&& m):=by
 unfold n8
 rw [and_split _ _ _ _ ha hm,and_split _ _ _ _ hb hm,and_split _ _ _ _ hc hm,and_split _ _ _ _ hd hm,and_split _ _ _ _ he hm,and_split _ _ _ _ hf hm,and_split _ _ _ _ hg hm]
theorem n8_shr (k m:Nat)(hk:k < 8)(hm:m < 2 ^ (8-k)):(n8 a b c d e f g i >>> k) &&& n8 m m m m m m m m=n8 ((a >>> k) &&& m) ((b >>> k) &&& m) ((c >>> k) &&& m) ((d >>> k) &&& m) ((e >>> k) &&& m) ((f >>> k) &&& m) ((g >>> k) &&& m) ((i >>> k) &&& m):=by
 unfold n8
 rw [shr_split _ _ _ _ _ hk ha hm,shr_split _ _ _ _ _ hk hb hm,shr_split _ _ _ _ _ hk hc hm,shr_split _ _ _ _ _ hk hd hm,shr_split _ _ _ _ _ hk he hm,shr_split _ _ _ _ _ hk hf hm,shr_split _ _ _ _ _ hk hg hm]
theorem n8_cnt:cnt (n8 a b c d e f g i).testBit 64=cnt a.testBit 8+cnt b.testBit 8+cnt c.testBit 8+cnt d.testBit 8+cnt e.testBit 8+cnt f.testBit 8+cnt g.testBit 8+cnt i.testBit 8:=by
 have step:∀ v r n,v < 256→cnt (v+256*r).testBit (8+n)=cnt v.testBit 8+cnt r.testBit n:=by
  intro v r n hv
  rw [cnt_add]
  congr 1
  ·exact cnt_congr fun j hj=>by rw [bit_split v r j hv,if_pos hj]
  ·exact cnt_congr fun j hj=>by rw [bit_split v r _ hv,if_neg (by omega),show 8+j - 8=j by omega]
 unfold n8
 rw [show 64=8+(8+(8+(8+(8+(8+(8+8)))))) from rfl,step _ _ _ ha,step _ _ _ hb,step _ _ _ hc,step _ _ _ hd,step _ _ _ he,step _ _ _ hf,step _ _ _ hg]
 omega
end
theorem n8_add (a b c d e f g i a' b' c' d' e' f' g' i':Nat):n8 a b c d e f g i+n8 a' b' c' d' e' f' g' i'=n8 (a+a') (b+b') (c+c') (d+d') (e+e') (f+f') (g+g') (i+i'):=by
 unfold n8;omega
theorem s3_le {A:Nat}(h1:A % 16≤4)(h2:A / 16≤4):s3 A≤8:=by unfold s3;omega
theorem lo_and (x y:Nat)(hx:x≤8)(hy:y≤8):(x+16*y) &&& 15=x:=by
 have:=Nat.and_two_pow_sub_one_eq_mod (x+16*y) 4
 rw [show(15:Nat)=2 ^ 4 - 1 from rfl,this];omega
theorem mid {A B:Nat}(a2:A % 16≤4)(a3:A / 16≤4)(b2:B % 16≤4):s3 A+16*(A / 16+B % 16) < 256∧(s3 A+16*(A / 16+B % 16)) &&& 15=s3 A:=
 have h:=s3_le a2 a3
 ⟨by omega,lo_and _ _ h (by omega)⟩
theorem mid' {A:Nat}(a2:A % 16≤4)(a3:A / 16≤4):s3 A+16*(A / 16) < 256∧(s3 A+16*(A / 16)) &&& 15=s3 A:=
 have h:=s3_le a2 a3
 ⟨by omega,lo_and _ _ h (by omega)⟩
theorem step3 {A B C D E F G I:Nat}(a2:A % 16≤4)(a3:A / 16≤4)(b2:B % 16≤4)(b3:B / 16≤4)(c2:C % 16≤4)(c3:C / 16≤4)(d2:D % 16≤4)(d3:D / 16≤4)
  (e2:E % 16≤4) (e3:E / 16≤4) (f2:F % 16≤4) (f3:F / 16≤4) (g2:G % 16≤4) (g3:G / 16≤4) (i2:I % 16≤4) (i3:I / 16≤4) :
  ((n8 A B C D E F G I >>> 4)+n8 A B C D E F G I) &&& 1085102592571150095=n8 (s3 A) (s3 B) (s3 C) (s3 D) (s3 E) (s3 F) (s3 G) (s3 I):=by
 have e0:(n8 A B C D E F G I >>> 4)+n8 A B C D E F G I=n8 (s3 A+16*(A / 16+B % 16)) (s3 B+16*(B / 16+C % 16)) (s3 C+16*(C / 16+D % 16)) (s3 D+16*(D / 16+E % 16)) (s3 E+16*(E / 16+F % 16)) (s3 F+16*(F / 16+G % 16)) (s3 G+16*(G / 16+I % 16)) (s3 I+16*(I / 16)):=by
  rw [Nat.shiftRight_eq_div_pow];unfold n8 s3;omega
 have m3:1085102592571150095=n8 15 15 15 15 15 15 15 15:=rfl
 have hA:=mid a2 a3 b2
 have hB:=mid b2 b3 c2
 have hC:=mid c2 c3 d2
 have hD:=mid d2 d3 e2
 have hE:=mid e2 e3 f2
 have hF:=mid f2 f3 g2
 have hG:=mid g2 g3 i2
 have hI:=mid' i2 i3
 rw [e0,m3,n8_and hA.1 hB.1 hC.1 hD.1 hE.1 hF.1 hG.1 hI.1 15 (by decide),hA.2,hB.2,hC.2,hD.2,hE.2,hF.2,hG.2,hI.2]
theorem step4 {A B C D E F G I:Nat}(hA:A≤8)(hB:B≤8)(hC:C≤8)(hD:D≤8)(hE:E≤8)(hF:F≤8)(hG:G≤8)(hI:I≤8) :
  n8 A B C D E F G I < 2 ^ 60∧(n8 A B C D E F G I+n8 A B C D E F G I >>> 8+(n8 A B C D E F G I+n8 A B C D E F G I >>> 8) >>> 16+(n8 A B C D E F G I+n8 A B C D E F G I >>> 8+(n8 A B C D E F G I+n8 A B C D E F G I >>> 8) >>> 16) >>> 32) % 128
   = A+B+C+D+E+F+G+I:=by
 have y0:n8 A B C D E F G I >>> 8=n8 B C D E F G I 0:=by rw [Nat.shiftRight_eq_div_pow];unfold n8;omega
 have z0:n8 (A+B) (B+C) (C+D) (D+E) (E+F) (F+G) (G+I) (I+0) >>> 16=n8 (C+D) (D+E) (E+F) (F+G) (G+I) (I+0) 0 0:=by rw [Nat.shiftRight_eq_div_pow];unfold n8;omega
 refine⟨by unfold n8;omega,?_⟩
 rw [y0,n8_add,z0,n8_add]
 have t0:∀ a b c d e f g i:Nat,a < 256→b < 256→c < 256→d < 256→n8 a b c d e f g i >>> 32=n8 e f g i 0 0 0 0:=by
  intro a b c d e f g i ha hb hc hd;rw [Nat.shiftRight_eq_div_pow];unfold n8;omega
 rw [t0 _ _ _ _ _ _ _ _ (by omega) (by omega) (by omega) (by omega),n8_add]
 clear y0 z0 t0
 unfold n8
 omega
theorem swar (n:Nat)(h:n < 2 ^ 64):∃ x1 x2 x3:Nat,((n >>> 1) &&& 6148914691236517205)+(n &&& 6148914691236517205)=x1∧x1 < 2 ^ 64∧
  ((x1 >>> 2) &&& 3689348814741910323)+(x1 &&& 3689348814741910323)=x2∧x2 < 2 ^ 63∧
  ((x2 >>> 4)+x2) &&& 1085102592571150095=x3∧x3 < 2 ^ 60∧(x3+x3 >>> 8+(x3+x3 >>> 8) >>> 16+(x3+x3 >>> 8+(x3+x3 >>> 8) >>> 16) >>> 32) % 128=cnt n.testBit 64:=by
 obtain⟨a,b,c,d,e,f,g,i,ha,hb,hc,hd,he,hf,hg,hi,rfl⟩:=n8_of n h
 obtain⟨a1,a2,a3,a4⟩:=byteOk_at a ha
 obtain⟨b1,b2,b3,b4⟩:=byteOk_at b hb
 obtain⟨c1,c2,c3,c4⟩:=byteOk_at c hc
 obtain⟨d1,d2,d3,d4⟩:=byteOk_at d hd
 obtain⟨e1,e2,e3,e4⟩:=byteOk_at e he
 obtain⟨f1,f2,f3,f4⟩:=byteOk_at f hf
 obtain⟨g1,g2,g3,g4⟩:=byteOk_at g hg
 obtain⟨i1,i2,i3,i4⟩:=byteOk_at i hi
 have m1:6148914691236517205=n8 0x55 0x55 0x55 0x55 0x55 0x55 0x55 0x55:=rfl
 have m2:3689348814741910323=n8 0x33 0x33 0x33 0x33 0x33 0x33 0x33 0x33:=rfl
 have x1:((n8 a b c d e f g i >>> 1) &&& 6148914691236517205)+(n8 a b c d e f g i &&& 6148914691236517205)=n8 (s1 a) (s1 b) (s1 c) (s1 d) (s1 e) (s1 f) (s1 g) (s1 i):=by
  rw [m1,n8_shr ha hb hc hd he hf hg hi 1 0x55 (by decide) (by decide),n8_and ha hb hc hd he hf hg hi 0x55 (by decide)]
  rw [n8_add];rfl
 have x2:((n8 (s1 a) (s1 b) (s1 c) (s1 d) (s1 e) (s1 f) (s1 g) (s1 i) >>> 2) &&& 3689348814741910323)+(n8 (s1 a) (s1 b) (s1 c) (s1 d) (s1 e) (s1 f) (s1 g) (s1 i) &&& 3689348814741910323)
   = n8 (s2 (s1 a)) (s2 (s1 b)) (s2 (s1 c)) (s2 (s1 d)) (s2 (s1 e)) (s2 (s1 f)) (s2 (s1 g)) (s2 (s1 i)):=by
  rw [m2,n8_shr a1 b1 c1 d1 e1 f1 g1 i1 2 0x33 (by decide) (by decide),n8_and a1 b1 c1 d1 e1 f1 g1 i1 0x33 (by decide)]
  rw [n8_add];rfl
 have x3:=step3 a2 a3 b2 b3 c2 c3 d2 d3 e2 e3 f2 f3 g2 g3 i2 i3
 have x4:=step4 (s3_le a2 a3) (s3_le b2 b3) (s3_le c2 c3) (s3_le d2 d3) (s3_le e2 e3) (s3_le f2 f3) (s3_le g2 g3) (s3_le i2 i3)
 refine⟨_,_,_,x1,?_,x2,?_,x3,x4.1,?_⟩
 ·clear x1 x2 x3 x4;unfold n8;omega
 ·clear x1 x2 x3 x4
  generalize s2 (s1 a)=A,s2 (s1 b)=B,s2 (s1 c)=C,s2 (s1 d)=D,s2 (s1 e)=E,s2 (s1 f)=F,s2 (s1 g)=G,s2 (s1 i)=I at *
  clear a4 b4 c4 d4 e4 f4 g4 i4 a1 b1 c1 d1 e1 f1 g1 i1 ha hb hc hd he hf hg hi h
  unfold n8;omega
 ·rw [x4.2,n8_cnt ha hb hc hd he hf hg hi,a4,b4,c4,d4,e4,f4,g4,i4]
theorem add_u64 (a b:BitVec 64):binP .add (.int .u64 a.toNat) (.int .u64 b.toNat)=some (.int .u64 (a+b).toNat):=by
 rw [bin_add,wrap_mod,BitVec.ofInt_add,ofInt_toNat,ofInt_toNat]
theorem ones_eq (b:BitVec 64)(h:Heap):BB (.int .u64 b.toNat) h=some (.int .i64 (ones b),h):=by
 obtain⟨x1,x2,x3,e1,l1,e2,l2,e3,l3,e4⟩:=swar b.toNat b.isLt
 have c1:(BitVec.ofInt 64 6148914691236517205).toNat=6148914691236517205:=by decide
 have c2:(BitVec.ofInt 64 3689348814741910323).toNat=3689348814741910323:=by decide
 have c3:(BitVec.ofInt 64 1085102592571150095).toNat=1085102592571150095:=by decide
 generalize hm1:BitVec.ofInt 64 6148914691236517205=m1 at c1
 generalize hm2:BitVec.ofInt 64 3689348814741910323=m2 at c2
 generalize hm3:BitVec.ofInt 64 1085102592571150095=m3 at c3
 have sh:∀ (a:BitVec 64) (n:Nat),binP .shr (.int .u64 a.toNat) (.int .u64 (n:Int))=some (.int .u64 (a >>> n).toNat):=shr_is
 have s1':((b >>> 1 &&& m1)+(b &&& m1)).toNat=x1:=by
  rw [BitVec.toNat_add,BitVec.toNat_and,BitVec.toNat_and,BitVec.toNat_ushiftRight,c1,e1];omega
 have s2':((((b >>> 1 &&& m1)+(b &&& m1)) >>> 2 &&& m2)+(((b >>> 1 &&& m1)+(b &&& m1)) &&& m2)).toNat=x2:=by
  rw [BitVec.toNat_add,BitVec.toNat_and,BitVec.toNat_and,BitVec.toNat_ushiftRight,s1',c2,e2];omega
 generalize hX1:(b >>> 1 &&& m1)+(b &&& m1)=X1 at *
 generalize hX2:(X1 >>> 2 &&& m2)+(X1 &&& m2)=X2 at *
 have s3':((X2 >>> 4+X2) &&& m3).toNat=x3:=by
  rw [BitVec.toNat_and,BitVec.toNat_add,BitVec.toNat_ushiftRight,s2',c3]
  have:x2 >>> 4≤x2:=by rw [Nat.shiftRight_eq_div_pow];exact Nat.div_le_self _ _
  rw [Nat.mod_eq_of_lt (by omega),e3]
 generalize hX3:(X2 >>> 4+X2) &&& m3=X3 at *
 have y1:(X3+X3 >>> 8).toNat=x3+x3 >>> 8:=by
  have:x3 >>> 8≤x3:=by rw [Nat.shiftRight_eq_div_pow];exact Nat.div_le_self _ _
  rw [BitVec.toNat_add,BitVec.toNat_ushiftRight,s3',Nat.mod_eq_of_lt (by omega)]
 have b1:x3+x3 >>> 8 < 2 ^ 61:=by
  have:x3 >>> 8≤x3:=by rw [Nat.shiftRight_eq_div_pow];exact Nat.div_le_self _ _
  omega
 generalize hY:X3+X3 >>> 8=Y at *
 have y2:(Y+Y >>> 16).toNat=x3+x3 >>> 8+(x3+x3 >>> 8) >>> 16:=by
  have:(x3+x3 >>> 8) >>> 16≤x3+x3 >>> 8:=by rw [Nat.shiftRight_eq_div_pow];exact Nat.div_le_self _ _
  rw [BitVec.toNat_add,BitVec.toNat_ushiftRight,y1,Nat.mod_eq_of_lt (by omega)]
 have b2:x3+x3 >>> 8+(x3+x3 >>> 8) >>> 16 < 2 ^ 62:=by
  have:(x3+x3 >>> 8) >>> 16≤x3+x3 >>> 8:=by rw [Nat.shiftRight_eq_div_pow];exact Nat.div_le_self _ _
  omega
 generalize hZ:Y+Y >>> 16=Z at *
 have y3:(Z+Z >>> 32).toNat=x3+x3 >>> 8+(x3+x3 >>> 8) >>> 16+(x3+x3 >>> 8+(x3+x3 >>> 8) >>> 16) >>> 32:=by
  have:(x3+x3 >>> 8+(x3+x3 >>> 8) >>> 16) >>> 32≤x3+x3 >>> 8+(x3+x3 >>> 8) >>> 16:=by rw [Nat.shiftRight_eq_div_pow];exact Nat.div_le_self _ _
  rw [BitVec.toNat_add,BitVec.toNat_ushiftRight,y2,Nat.mod_eq_of_lt (by omega)]
 have b3:(Z+Z >>> 32).toNat < 2 ^ 63:=by
  have:(x3+x3 >>> 8+(x3+x3 >>> 8) >>> 16) >>> 32≤x3+x3 >>> 8+(x3+x3 >>> 8) >>> 16:=by rw [Nat.shiftRight_eq_div_pow];exact Nat.div_le_self _ _
  rw [y3];omega
 rw [← y3] at e4
 generalize hT:Z+Z >>> 32=T at *
 have hw:IntKind.i64.wrap (T.toNat:Int)=T.toNat:=wrap_i64 (by omega) (by omega)
 have hand:binP .and (.int .i64 (T.toNat:Int)) (.int .i64 127)=some (.int .i64 (ones b)):=by
  rw [bin_int _ (by decide) (by decide)]
  have e0:intBin .and .i64 (T.toNat:Int) 127=some (.int .i64 (IntKind.i64.wrap (BitVec.ofInt 64 (T.toNat:Int) &&& BitVec.ofInt 64 127).toNat)):=rfl
  have e5:(T &&& BitVec.ofInt 64 127).toNat=ones b:=by
   have c127:(BitVec.ofInt 64 127).toNat=2 ^ 7 - 1:=by decide
   rw [BitVec.toNat_and,c127,Nat.and_two_pow_sub_one_eq_mod]
   exact e4.trans (by rfl)
  have hle:ones b≤64:=cnt_le _ _
  rw [e0,ofInt_toNat,e5,wrap_i64 (by omega) (by omega)]
 have sh1:binP .shr (.int .u64 b.toNat) (.int .u64 1)=_:=sh b 1
 have sh2:binP .shr (.int .u64 X1.toNat) (.int .u64 2)=_:=sh X1 2
 have sh4:binP .shr (.int .u64 X2.toNat) (.int .u64 4)=_:=sh X2 4
 have sh8:binP .shr (.int .u64 X3.toNat) (.int .u64 8)=_:=sh X3 8
 have sh16:binP .shr (.int .u64 Y.toNat) (.int .u64 16)=_:=sh Y 16
 have sh32:binP .shr (.int .u64 Z.toNat) (.int .u64 32)=_:=sh Z 32
 simp -implicitDefEqProofs only [BB,sh1,Option.bind_some,and_u64,ofInt_toNat,hm1,add_u64,hX1,sh2,hm2,hX2,sh4,hm3,hX3,sh8,hY,sh16,hZ,sh32,hT,cvI_int,hw,hand]
theorem bones_eq (b:BitVec 64)(h:Heap):Ce (.int .u64 b.toNat) h=some (.int .i64 (ones b),h):=by
 simp -implicitDefEqProofs only [Ce,ones_eq,cl_some]
def PAr.word (a:PAr)(ad k:Int):Option Nat:=
 match a.find ad with
 | none=>none
 | some (n,_)=>if 0≤k∧k<wordsOf (a.at n).cls then some (ad+k).toNat else none
theorem word_lt {h:Heap}{p w s:Nat}{a:PAr}(H:ArAt h p w s a){ad k:Int}{i:Nat}(hi:a.word ad k=some i):i<a.ws.length∧(i:Int)=ad+k∧0≤ad∧ad < 32768∧0≤k∧k < 64:=by
 unfold PAr.word at hi
 cases hf:a.find ad with
 | none=>rw [hf] at hi;cases hi
 | some x=>
  obtain⟨n,q⟩:=x
  rw [hf] at hi
  simp only at hi
  split at hi
  ·rename_i hk
   injection hi with hi
   obtain⟨f1,f2,f3,f4,f5,f6,f7⟩:=find_some hf
   have:=wp_cases _ _ (by omega) f3
   have:=H.len
   have:=H.hi
   have g1:=f1.1
   have g2:=f1.2
   have hq0:(0:Int)≤q*wordsOf (a.at n).cls:=Int.mul_nonneg (by omega) (by omega)
   refine⟨by omega,by omega,by omega,by omega,hk.1,by omega⟩
  ·cases hi
def PAr.read (a:PAr)(ad k:Int):Int × Int:=match a.word ad k with | none=>(0,1) | some i=>((a.ws[i]?).getD 0,0)
def PAr.write (a:PAr)(ad k v:Int):Int × PAr:=match a.word ad k with | none=>(1,a) | some i=>(0,⟨a.ws.set i v,a.sp⟩)
theorem read_none {a:PAr}{ad k:Int}(e:a.word ad k=none):a.read ad k=(0,1):=by unfold PAr.read;rw [e]
theorem read_some {a:PAr}{ad k:Int}{i:Nat}(e:a.word ad k=some i):a.read ad k=((a.ws[i]?).getD 0,0):=by unfold PAr.read;rw [e]
theorem write_none {a:PAr}{ad k v:Int}(e:a.word ad k=none):a.write ad k v=(1,a):=by unfold PAr.write;rw [e]
theorem write_some {a:PAr}{ad k v:Int}{i:Nat}(e:a.word ad k=some i):a.write ad k v=(0,⟨a.ws.set i v,a.sp⟩):=by unfold PAr.write;rw [e]
def ptrO (w:Nat):Option Nat→AV
 | none=>.ptr none
 | some i=>.ptr (some (w,i))
theorem ptrO_none (w:Nat):ptrO w none = .ptr none:=rfl
theorem ptrO_some (w i:Nat):ptrO w (some i) = .ptr (some (w,i)):=rfl
section
variable {h:Heap}{p w s:Nat}{a:PAr}(H:ArAt h p w s a)
include H
theorem word_eq (ad k:Int):AL (.ptr (some (p,0))) (.int .i64 ad) (.int .i64 k) h=some (ptrO w (a.word ad k),h):=by
 cases hf:a.find ad with
 | none=>
  have e:a.word ad k=none:=by simp only [PAr.word,hf]
  simp -implicitDefEqProofs [AL,find_eq H,hf,e,ptrO_none]
 | some x=>
  obtain⟨n,q⟩:=x
  obtain⟨f1,_⟩:=find_some hf
  have hl:=H.ldc f1
  by_cases h1:0≤k
  ·by_cases h2:k<wordsOf (a.at n).cls
   ·have e:a.word ad k=some (ad+k).toNat:=by simp only [PAr.word,hf];rw [if_pos ⟨h1,h2⟩]
    obtain⟨b1,b2,b3,b4,b5,b6⟩:=word_lt H e
    obtain⟨c,_,hd⟩:=H.ld0
    have hix:iaS 1 (.sl (some (w,0)) a.ws.length c) (.int .i64 (ad+k))=some (.ptr (some (w,(ad+k).toNat))):=by
     rw [iaS_sl 1 (w,0) _ _ .i64 _ ⟨by omega,by omega⟩];simp
    have hw:IntKind.i64.wrap (ad+k)=ad+k:=wrap_i64 (by omega) (by omega)
    have h1' : ¬ k < 0:=by omega
    have h2' : ¬ wordsOf (a.at n).cls≤k:=by omega
    simp -implicitDefEqProofs [AL,find_eq H,hf,e,ptrO_none,ptrO_some,h1',hl,words_eq,h2',hd,hw,hix]
   ·have e:a.word ad k=none:=by simp only [PAr.word,hf];rw [if_neg (fun h=>h2 h.2)]
    have h1' : ¬ k < 0:=by omega
    have h2':wordsOf (a.at n).cls≤k:=by omega
    simp -implicitDefEqProofs [AL,find_eq H,hf,e,ptrO_none,ptrO_some,h1',hl,words_eq,h2']
  ·have e:a.word ad k=none:=by simp only [PAr.word,hf];rw [if_neg (fun h=>h1 h.1)]
   have h1':k < 0:=by omega
   simp -implicitDefEqProofs [AL,find_eq H,hf,e,ptrO_none,ptrO_some,h1']
theorem read_eq (ad k:Int):AK (.ptr (some (p,0))) (.int .i64 ad) (.int .i64 k) h=some (.tup [.int .i64 (a.read ad k).1,.int .i64 (a.read ad k).2],h):=by
 rcases opt_cases (a.word ad k) with e | ⟨i,e⟩
 ·simp -implicitDefEqProofs only [AK,word_eq H,e,read_none e,ptrO_none,cl_some,eql_nil_ptr,Option.isNone_none,Option.bind_some,condE_true]
 ·
  have hi:=(word_lt H e).1
  have hl:ldS h (.ptr (some (w,i)))=some (.int .i64 ((a.ws[i]?).getD 0)):=by
   rw [ldS_at H.hw];simp [wsC,hi]
  simp -implicitDefEqProofs only [AK,word_eq H,e,read_some e,ptrO_some,hl,cl_some,eql_ptr_nil,Option.bind_some,condE_false,nilV_ptr]
theorem write_ok (ad k v:Int):Ok (Ag (.ptr (some (p,0))) (.int .i64 ad) (.int .i64 k) (.int .i64 v) h) fun r=>r.1 = .int .i64 (a.write ad k v).1∧ArAt r.2 p w s (a.write ad k v).2∧Same [w] h r.2:=by
 rcases opt_cases (a.word ad k) with e | ⟨i,e⟩
 ·
  refine(Ok.of (r:=(.int .i64 1,h)) ?_).eq (by simp -implicitDefEqProofs only [Ag,word_eq H,e,ptrO_none,cl_some,eql_nil_ptr,Option.isNone_none,Option.bind_some,condE_true])
  rw [write_none e]
  exact⟨rfl,H,Same.refl _ _⟩
 ·
  have hi:=(word_lt H e).1
  have hs:stP 1 h (.ptr (some (w,i))) (.int .i64 v)=some (.bot,h.put w (some (.cells true (wsC (a.ws.set i v))))):=by
   rw [stP_one H.hw (by simp [wsC,hi]) rfl];simp [wsC,List.map_set]
  refine(Ok.of (r:=(.int .i64 0,h.put w (some (.cells true (wsC (a.ws.set i v)))))) ?_).eq (by simp -implicitDefEqProofs only [Ag,word_eq H,e,ptrO_some,hs,cl_some,eql_ptr_nil,Option.bind_some,condE_false,nilV_ptr])
  rw [write_some e]
  exact⟨rfl,H.setWs (by simp),Same.put _ _ _⟩
end
def PAr.clear (a:PAr):PAr:=⟨a.ws,a.sp.map fun x=>⟨x.cls,x.tk,0⟩⟩
def upTo (f:PSp→PSp)(l l':List PSp)(i:Nat):Prop:=l'.length=l.length∧∀ j,l'[j]?=if j<i then(l[j]?).map f else l[j]?
theorem upTo_end {f:PSp→PSp}{l l':List PSp}(h:upTo f l l' l.length):l'=l.map f:=by
 apply List.ext_getElem?
 intro j
 rw [h.2 j,List.getElem?_map]
 split
 ·rfl
 ·rename_i hj;rw [List.getElem?_eq_none (by omega)];rfl
theorem upTo_step {f:PSp→PSp}{l l':List PSp}{i:Nat}(h:upTo f l l' i){x:PSp}(hx:l[i]?=some x):upTo f l (l'.set i (f x)) (i+1):=by
 have hi:i<l.length:=(List.getElem?_eq_some_iff.1 hx).1
 refine⟨by rw [List.length_set,h.1],fun j=>?_⟩
 by_cases e:j=i
 ·subst e
  rw [List.getElem?_set_self (by rw [h.1];exact hi),if_pos (by omega),hx];rfl
 ·rw [List.getElem?_set_ne (fun e'=>e e'.symm),h.2 j]
  by_cases hj:j<i
  ·rw [if_pos hj,if_pos (by omega)]
  ·rw [if_neg hj,if_neg (by omega)]
theorem upTo_at {f:PSp→PSp}{l l':List PSp}{i:Nat}(h:upTo f l l' i):l'[i]?=l[i]?:=by rw [h.2 i,if_neg (Nat.lt_irrefl i)]
theorem ix_any {s len:Nat}{d:Cap}{i:Nat}(hi:i<len):iaS 3 (.sl (some (s,0)) len d) (.int .i64 (i:Int))=some (.ptr (some (s,i * 3))):=by
 rw [iaS_sl 3 (s,0) _ _ .i64 _ ⟨by omega,by omega⟩];simp
def newA (n:Nat):PAr:=⟨List.replicate (n * 64) 0,List.replicate n ⟨-1,0,0⟩⟩
theorem rep_three (n:Nat):rep [AV.int .i64 0,AV.int .u64 0,AV.int .u64 0] n=spsC (List.replicate n ⟨0,0,0⟩):=by
 rw [rep_eq]
 induction n with
 | zero=>rfl
 | succ n ih=>rw [List.replicate_succ,List.flatten_cons,ih,List.replicate_succ];rfl
theorem msP_ok (n b:Nat)(z:List AV)(x:Nat)(hx:x≤2 ^ 40)(hb:b≤64)(hz:z.length=n):msP n b z (.int .i64 x) (.int .i64 x)=some (.cells true (rep z x),fun i=>.sl (some (i,0)) x (.ex x)):=by
 have h1:(b:Int)*x≤2 ^ 47:=by
  have:b*x≤64 * 2 ^ 40:=Nat.mul_le_mul hb hx
  have e:((b*x:Nat):Int)=(b:Int)*x:=by push_cast;rfl
  rw [← e];omega
 simp only [msP]
 rw [if_pos ⟨by omega,by omega,by omega,h1,hz⟩]
 simp
theorem new_ok {h : Heap} (x : Nat) (h1 : 8 ≤ x) (h2 : x ≤ 512) :
    Ok (C2 (.int .i64 x) h) fun r => r.1 = .tup [.ptr (some (h.next + 2, 0)), .int .i64 0] ∧ ArAt r.2 (h.next + 2) h.next (h.next + 1) (newA x) ∧ Same [] h r.2 ∧ r.2.next = h.next + 3 := by
  have e1 : ¬ (x : Int) < 8 := by omega
  have e2 : ¬ (512 : Int) < x := by omega
  have hw : IntKind.i64.wrap ((x : Int) * 64) = ((x * 64 : Nat) : Int) := by rw [wrap_i64 (by omega) (by omega)]; simp
  have m1 := msP_ok 1 8 [.int .i64 0] (x * 64) (by omega) (by decide) rfl
  have m2 := msP_ok 3 24 [AV.int .i64 0, AV.int .u64 0, AV.int .u64 0] x (by omega) (by decide) rfl
  rw [rep_one] at m1
  rw [rep_three] at m2
  have ws : List.replicate (x * 64) (AV.int .i64 0) = wsC (List.replicate (x * 64) 0) := by simp [wsC]
  rw [ws] at m1
  have hb : bldS [(0, 1), (1, 1)] [AV.sl none 0 (.ex 0), AV.sl none 0 (.ex 0)] [(0, .sl (some (h.next, 0)) (x * 64) (.ex (x * 64))), (1, .sl (some (h.next + 1, 0)) x (.ex x))]
      = some (.agg [.sl (some (h.next, 0)) (x * 64) (.ex (x * 64)), .sl (some (h.next + 1, 0)) x (.ex x)]) := rfl
  have hx : bxP (.agg [.sl (some (h.next, 0)) (x * 64) (.ex (x * 64)), .sl (some (h.next + 1, 0)) x (.ex x)])
      = some (.cells true [.sl (some (h.next, 0)) (x * 64) (.ex (x * 64)), .sl (some (h.next + 1, 0)) x (.ex x)], fun i => .ptr (some (i, 0))) := rfl
  let g0 : Heap := (((hpN h 3).put h.next (some (.cells true (wsC (List.replicate (x * 64) 0))))).put (h.next + 1) (some (.cells true (spsC (List.replicate x ⟨0, 0, 0⟩))))).put (h.next + 2) (some (.cells true [.sl (some (h.next, 0)) (x * 64) (.ex (x * 64)), .sl (some (h.next + 1, 0)) x (.ex x)]))
  have H0 : ArAt g0 (h.next + 2) h.next (h.next + 1) ⟨List.replicate (x * 64) 0, List.replicate x ⟨0, 0, 0⟩⟩ :=
    { hp := ⟨.ex (x * 64), .ex x, .inl (by simp), by show g0.get _ = _; simp only [g0]; rw [get_put_eq]; simp⟩
      hw := by simp only [g0]; rw [get_put_ne (by omega), get_put_ne (by omega), get_put_eq]
      hs := by simp only [g0]; rw [get_put_ne (by omega), get_put_eq]
      pw := by omega
      ps := by omega
      sw := by omega
      lp := by show h.next + 2 < h.next + 3; omega
      lw := by show h.next < h.next + 3; omega
      ls := by show h.next + 1 < h.next + 3; omega
      len := by simp
      lo := by simp; omega
      hi := by simp; omega }
  have hsm : Same [] h g0 := ⟨by show h.next ≤ h.next + 3; omega, fun j hj _ => by
    simp only [g0]; rw [get_put_ne (by omega), get_put_ne (by omega), get_put_ne (by omega)]; rfl⟩
  obtain ⟨d, hd⟩ := H0.ld1
  simp only [List.length_replicate] at hd
  have lp0 : Ok (Eo (.ptr (some (h.next + 2, 0))) (.int .i64 x) (.int .i64 0) g0) fun r => r.1 = .exit 0 ∧ ArAt r.2.2 (h.next + 2) h.next (h.next + 1) (newA x) ∧ Same [] h r.2.2 ∧ r.2.2.next = h.next + 3 := by
    refine ok_loop (fun n vs g => ∃ (i : Nat) (l : List PSp), vs = [.int .i64 (i : Int)] ∧ n + i = x ∧ upTo (fun y => ⟨-1, y.tk, y.md⟩) (List.replicate x ⟨0, 0, 0⟩) l i ∧ ArAt g (h.next + 2) h.next (h.next + 1) ⟨List.replicate (x * 64) 0, l⟩ ∧ Same [] h g ∧ g.next = h.next + 3) ?_ (n := x) (by omega)
      ⟨0, _, rfl, rfl, ⟨rfl, fun j => by rw [if_neg (by omega)]⟩, H0, hsm, rfl⟩
    rintro n vs g ⟨i, l, rfl, hn, hu, Hg, hsm', hgn⟩
    simp only [List.getD_eq_getElem?_getD, List.getElem?_cons_zero, Option.getD_some]
    obtain ⟨d', hd'⟩ := Hg.ld1
    have hll : l.length = x := by simpa using hu.1
    simp only [hll] at hd'
    by_cases hi : i < x
    · obtain ⟨y, hy⟩ : ∃ y, (List.replicate x (⟨0, 0, 0⟩ : PSp))[i]? = some y := ⟨_, List.getElem?_eq_getElem (by simpa using hi)⟩
      have hy' : l[i]? = some y := by rw [upTo_at hu, hy]
      have hst : stP 1 g (.ptr (some (h.next + 1, i * 3))) (.int .i64 (-1)) = some (.bot, g.put (h.next + 1) (some (.cells true (spsC (l.set i ⟨-1, y.tk, y.md⟩))))) := by
        have := stP_one (v := .int .i64 (-1)) Hg.hs (o := i * 3) (by rw [spsC_length]; simp only; omega) rfl
        rw [spsC_set0 (-1) hy'] at this; exact this
      have hw : IntKind.i64.wrap ((i : Int) + 1) = ((i + 1 : Nat) : Int) := by rw [wrap_i64 (by omega) (by omega)]; rfl
      have hlt : (i : Int) < x := by omega
      refine (Ok.of (r := (.normal, [.int .i64 ((i + 1 : Nat) : Int)], _)) ?_).eq (by
        simp -implicitDefEqProofs only [DI, bin_lss, hlt, decide_true, Option.bind_some, condE_true, nilV_ptr, faP_ptr, Nat.zero_add, Nat.add_zero, hd', ix_any hi, hst, cl_some, bin_add, hw]
        rfl)
      left
      refine ⟨rfl, n - 1, by omega, i + 1, _, rfl, by omega, upTo_step hu hy, Hg.setSp (by simp), ?_, hgn⟩
      exact hsm'.old (Same.put _ _ _) (by simp)
    · have hlt : ¬ (i : Int) < x := by omega
      refine (Ok.of (r := (.exit 0, [.int .i64 (i : Int)], g)) ?_).eq (by
        simp -implicitDefEqProofs only [DI, bin_lss, hlt, decide_false, Option.bind_some, condE_false])
      right
      have hi' : i = x := by omega
      subst hi'
      have := upTo_end (l := List.replicate i ⟨0, 0, 0⟩) (by simpa using hu)
      rw [this] at Hg
      exact ⟨by simp, rfl, by simpa [newA] using Hg, hsm', hgn⟩
  refine Ok.eq ?_ (by
    simp -implicitDefEqProofs only [C2, bin_lss, e1, decide_false, Option.bind_some, gdW_bool, beq_self_eq_true, gQ_true, bin_gtr, e2, pickP_bool, Bool.false_eq_true, if_false, condE_false, bin_mul, hw, m1, m2, mkAt, cl_some, Nat.add_zero]
    simp -implicitDefEqProofs only [hb, hx, Option.bind_some, cl_some, chk_nil, nilV_ptr, faP_ptr, Nat.zero_add]
    rw [show ∀ (K : AV → Option (AV × Heap)), (ldS g0 (.ptr (some (h.next + 2, 1)))).bind K = K (.sl (some (h.next + 1, 0)) x d) from fun K => by rw [hd]; rfl])
  simp -implicitDefEqProofs only [lnL_sl, Option.bind_some]
  refine ok_lp lp0 ?_
  rintro e vs g ⟨he, Hg, hs, hgn⟩
  simp only at he Hg hs hgn
  subst he
  exact ⟨_, rfl, rfl, Hg, hs, hgn⟩
def PAr.sweep (a:PAr)(n:Int):Nat × PAr:=
 if a.cls n = -1 then(0,a) else
 (ones ((a.at n).tk &&& ~~~ (a.at n).md),a.setS n (if (a.at n).tk &&& (a.at n).md=0 then⟨-1,0,0⟩ else⟨(a.at n).cls,(a.at n).tk &&& (a.at n).md,(a.at n).md⟩))
theorem toNat_zero (b:BitVec 64):((b.toNat:Int)=0)↔b=0:=by
 constructor
 ·intro h;exact BitVec.eq_of_toNat_eq (by simpa using h)
 ·intro h;rw [h];rfl
theorem sweep_ok {h:Heap}{p w s:Nat}{a:PAr}(H:ArAt h p w s a)(n:Int) :
  Ok (Ah (.ptr (some (p,0))) (.int .i64 n) h) fun r=>r.1 = .int .i64 (a.sweep n).1∧ArAt r.2 p w s (a.sweep n).2∧Same [s] h r.2:=by
 by_cases h1:a.cls n = -1
 ·refine(Ok.of (r:=(.int .i64 0,h)) ?_).eq (by simp -implicitDefEqProofs [Ah,class_eq H,h1])
  simp only [PAr.sweep,h1,if_true]
  exact⟨rfl,H,Same.refl _ _⟩
 ·obtain⟨hn,hc⟩:=cls_has h1
  obtain⟨d,hd⟩:=H.ld1
  have H1:=H.sets n ⟨(a.at n).cls,(a.at n).tk &&& (a.at n).md,(a.at n).md⟩
  have hn1:=(a.setS_has n n ⟨(a.at n).cls,(a.at n).tk &&& (a.at n).md,(a.at n).md⟩).2 hn
  have e1:=PAr.setS_at ⟨(a.at n).cls,(a.at n).tk &&& (a.at n).md,(a.at n).md⟩ hn
  have l1:=H1.ldt hn1
  rw [e1] at l1
  by_cases h2:(a.at n).tk &&& (a.at n).md=0
  ·have hz:(((a.at n).tk &&& (a.at n).md).toNat:Int)=0:=(toNat_zero _).2 h2
   have s2:=H1.sts hn1 ⟨-1,0,0⟩
   rw [PAr.setS_setS] at s2
   have H2:=H1.sets n ⟨-1,0,0⟩
   rw [PAr.setS_setS] at H2
   refine(Ok.of ?_).eq (by
    simp -implicitDefEqProofs only [Ah,class_eq H,cl_some,eql_int,h1,decide_false,Option.bind_some,condE_false,nilV_ptr,faP_ptr,Nat.zero_add,hd,H.ix hn,H.ldt hn,H.ldm hn,andNot_u64,ofInt_toNat,bones_eq,chk_nil,and_u64,H.stt hn,l1]
    simp -implicitDefEqProofs only [hz,decide_true,condE_true,bld_sp (-1) 0 0,Option.bind_some,nilV_ptr,s2,cl_some]
    rfl)
   simp only [PAr.sweep,h1,if_false]
   rw [if_pos h2]
   exact⟨trivial,H2,(Same.put _ _ _).trans (Same.put _ _ _)⟩
  ·have hz : ¬ (((a.at n).tk &&& (a.at n).md).toNat:Int)=0:=fun e=>h2 ((toNat_zero _).1 e)
   refine(Ok.of ?_).eq (by
    simp -implicitDefEqProofs only [Ah,class_eq H,cl_some,eql_int,h1,decide_false,Option.bind_some,condE_false,nilV_ptr,faP_ptr,Nat.zero_add,hd,H.ix hn,H.ldt hn,H.ldm hn,andNot_u64,ofInt_toNat,bones_eq,chk_nil,and_u64,H.stt hn,l1]
    simp -implicitDefEqProofs only [hz,decide_false,condE_false]
    rfl)
   simp only [PAr.sweep,h1,if_false]
   rw [if_neg h2]
   exact⟨trivial,H1,Same.put _ _ _⟩
structure Tab0 (h:Heap):Prop where
 tab:Tabled h
 pos:0<h.next
theorem Tab0.same {h h':Heap}{S:List Nat}(H:Tab0 h)(hs:Same S h h')(h0:0∉S):Tab0 h':=
 ⟨by have:=hs.get 0 H.pos h0;unfold Tabled;rw [this];exact H.tab,Nat.lt_of_lt_of_le H.pos hs.next⟩
theorem spanOf_at {n q W:Int}(hn:0≤n∧n < 512)(h0:0≤q*W)(h1:q*W < 64):spanOf (n * 64+q*W)=n:=by
 unfold spanOf
 rw [if_pos ⟨by omega,by omega⟩]
 omega
theorem placeOf_at {n c:Int}{q:Nat}(hn:0≤n∧n < 512)(hq:(q:Int)<placesOf c):placeOf (n * 64+q*wordsOf c) c=q:=by
 obtain⟨c0,c1,w2,w3,w4,_⟩:=wp_cases c q (by omega) hq
 have h0:(0:Int)≤q*wordsOf c:=Int.mul_nonneg (by omega) (by omega)
 have e1:spanOf (n * 64+q*wordsOf c)=n:=spanOf_at hn h0 (by omega)
 have e2:(n * 64+q*wordsOf c) % 64=q*wordsOf c:=by omega
 unfold placeOf
 rw [if_neg (by rw [e1];omega),e2,if_neg (by rw [Int.mul_emod_left];simp),Int.mul_ediv_cancel _ (by omega)]
theorem find_at {a:PAr}(hl:a.sp.length≤512){n:Int}{q:Nat}(hn:a.has n)(hq:(q:Int)<placesOf (a.at n).cls) :
  a.find (n * 64+q*wordsOf (a.at n).cls)=if (a.at n).tk.getLsbD q then some (n,q) else none:=by
 have b1:=hn.1
 have b2:=hn.2
 obtain⟨c0,c1,w2,w3,w4,_⟩:=wp_cases _ q (by omega) hq
 have h0:(0:Int)≤q*wordsOf (a.at n).cls:=Int.mul_nonneg (by omega) (by omega)
 have e1:spanOf (n * 64+q*wordsOf (a.at n).cls)=n:=spanOf_at ⟨by omega,by omega⟩ h0 (by omega)
 have e2:placeOf (n * 64+q*wordsOf (a.at n).cls) (a.at n).cls=q:=placeOf_at ⟨by omega,by omega⟩ hq
 have e3:a.cls n=(a.at n).cls:=by unfold PAr.cls;rw [if_pos hn]
 unfold PAr.find
 rw [e1,e3,e2,Int.toNat_natCast]
 cases hb:(a.at n).tk.getLsbD q with
 | false=>simp
 | true=>simp
theorem cls_at {a:PAr}{n:Int}(hn:a.has n):a.cls n=(a.at n).cls:=by unfold PAr.cls;rw [if_pos hn]
theorem cnt_zero {g:Nat→Bool}:∀ {n:Nat},cnt g n=0↔∀ j,j<n→g j=false
 | 0=>by simp [cnt]
 | n+1=>by
  rw [cnt]
  constructor
  ·intro h j hj
   by_cases e:j=n
   ·subst e;cases hg:g j with
    | false=>rfl
    | true=>rw [hg] at h;simp at h
   ·exact(cnt_zero (n:=n)).1 (by omega) j (by omega)
  ·intro h
   rw [cnt_zero.2 fun j hj=>h j (by omega),h n (by omega)];rfl
theorem bit_is1 (b:BitVec 64)(q:Nat):decide ((((b >>> q) &&& BitVec.ofInt 64 1).toNat:Int)=1)=b.getLsbD q:=by
 have e:(b >>> q) &&& BitVec.ofInt 64 1=if b.getLsbD q then 1#64 else 0#64:=by
  apply BitVec.eq_of_getLsbD_eq
  intro i hi
  have e1:BitVec.ofInt 64 1=1#64:=rfl
  rw [BitVec.getLsbD_and,BitVec.getLsbD_ushiftRight,e1,BitVec.getLsbD_one]
  by_cases h:i=0
  ·subst h
   cases hb:b.getLsbD q<;>simp [hb]
  ·cases hb:b.getLsbD q<;>simp [h]
 rw [e]
 cases b.getLsbD q<;>simp
theorem first0_lt {b:BitVec 64}{q:Nat}(hq:q < 64)(h:b.getLsbD q=false):first0 b≤q∧b.getLsbD (first0 b)=false:=by
 rcases first0_spec b with⟨_,h2⟩ | ⟨_,h2,h3⟩
 ·rw [h2 q hq] at h;cases h
 ·refine⟨?_,h2⟩
  by_cases e:q<first0 b
  ·rw [h3 q e] at h;cases h
  ·omega
theorem tab0_sub {h:Heap}(hs:Sub hQ1 h)(hn:1≤h.next):Tab0 h:=by
 refine⟨?_,hn⟩
 have:=hs 0 (.cells false debQ) (by rw [hQ1_get];rfl)
 unfold Tabled
 rw [this];rfl
theorem clr_get {l:List Int}{o n i:Nat}(hl:o+n≤l.length)(hi:i<o∨o+n≤i):(clr l o n)[i]?=l[i]?:=by
 unfold clr
 rcases hi with hi | hi
 ·rw [List.getElem?_append_left (by simp;omega),List.getElem?_append_left (by simp;omega),List.getElem?_take];simp [hi]
 ·rw [List.getElem?_append_right (by simp;omega),List.getElem?_drop]
  congr 1
  simp only [List.length_append,List.length_take,List.length_replicate]
  omega
theorem gd0 (a:AV)(l:List AV):(a::l).getD 0 .bot=a:=rfl
theorem gd1 (a b:AV)(l:List AV):(a::b::l).getD 1 .bot=b:=rfl
theorem gd2 (a b c:AV)(l:List AV):(a::b::c::l).getD 2 .bot=c:=rfl
theorem suc64 (i:Nat)(h:i < 2 ^ 62):IntKind.i64.wrap ((i:Int)+1)=((i+1:Nat):Int):=by rw [wrap_i64 (by omega) (by omega)];rfl
def fullB (c:Int):BitVec 64:=if c=0 then 0xFFFFFFFF else if c=1 then 0xFFFF else if c=2 then 0xFF else if c=3 then 0xF else if c=4 then 3 else if c=5 then 1 else 0
def pls (c:Int):Nat:=(placesOf c).toNat
theorem pls_eq {c:Int}(hc:0≤c∧c≤5):(pls c:Int)=placesOf c∧1≤pls c∧pls c≤32∧2≤wordsOf c∧wordsOf c≤64∧(pls c:Int)*wordsOf c=64:=by
 rcases (by omega:c=0∨c=1∨c=2∨c=3∨c=4∨c=5) with rfl | rfl | rfl | rfl | rfl | rfl<;>decide
theorem full_bits {c:Int}(hc:0≤c∧c≤5)(j:Nat)(hj:j < 64):(fullB c).getLsbD j=decide (j<pls c):=by
 have all:∀ c:Fin 6,∀ j:Fin 64,(fullB c.val).getLsbD j.val=decide (j.val<pls c.val):=by decide +kernel
 have:=all ⟨c.toNat,by omega⟩ ⟨j,hj⟩
 rw [show((⟨c.toNat,by omega⟩:Fin 6).val:Int)=c by simp;omega] at this
 exact this
def classOf (n:Int):Int:=if n < 1 then -1 else if n≤2 then 0 else if n≤4 then 1 else if n≤8 then 2 else if n≤16 then 3 else if n≤32 then 4 else if n≤64 then 5 else -1
theorem classOf_range (n:Int):classOf n = -1∨(0≤classOf n∧classOf n≤5∧n≤wordsOf (classOf n)∧1≤n):=by
 unfold classOf wordsOf
 repeat' split
 all_goals omega
theorem classOf_step (n:Int)(i:Nat)(hi:i < 6)(hno:∀ j:Nat,j<i→¬ (1≤n∧n≤wordsOf j))(h:1≤n∧n≤wordsOf i):classOf n=i:=by
 have h0:=hno 0
 have h1:=hno 1
 have h2:=hno 2
 have h3:=hno 3
 have h4:=hno 4
 rcases (by omega:i=0∨i=1∨i=2∨i=3∨i=4∨i=5) with rfl | rfl | rfl | rfl | rfl | rfl <;>
  simp [wordsOf] at h0 h1 h2 h3 h4 h<;>unfold classOf<;>repeat' split<;>omega
theorem classOf_none (n:Int)(hno:∀ j:Nat,j < 6→¬ (1≤n∧n≤wordsOf j)):classOf n = -1:=by
 have h5:=hno 5 (by decide)
 simp [wordsOf] at h5
 unfold classOf
 repeat' split
 all_goals omega
theorem gclass_eq (n:Int)(h:Heap):Ok (Ci (.int .i64 n) h) fun r=>r=(.int .i64 (classOf n),h):=by
 have lp0:Ok (EK (.int .i64 n) (.int .i64 0) (.int .i64 0) h) fun r=>(r.1 = .exit 0∧r.2.2=h∧classOf n = -1)∨(r.1 = .ret∧r.2.2=h∧r.2.1.getD 0 .bot = .int .i64 (classOf n)):=by
  refine ok_loop (fun m vs g=>∃ (i:Nat),vs = [.int .i64 0,.int .i64 i]∧m+i=6∧h=g∧∀ j:Nat,j<i→¬ (1≤n∧n≤wordsOf j)) ?_ (n:=6) (by omega) ⟨0,rfl,rfl,rfl,fun j hj=>by omega⟩
  rintro m vs _ ⟨i,rfl,hm,rfl,hno⟩
  rw [gd0,gd1]
  by_cases hi:i < 6
  ·have hlt:(i:Int) < 6:=by omega
   by_cases h1:1≤n
   ·by_cases h2:n≤wordsOf i
    ·refine(Ok.of (r:=(.ret,[.int .i64 i,.int .i64 i],h)) ?_).eq (by
      simp -implicitDefEqProofs only [Bz,bin_lss,hlt,decide_true,Option.bind_some,condE_true,bin_geq,h1,gdW_tt,gQ_true,words_eq,cl_some,bin_leq,h2,pickP_bool,if_true])
     exact .inr ⟨by simp,.inr ⟨rfl,rfl,by rw [classOf_step n i hi hno ⟨h1,h2⟩];rfl⟩⟩
    ·refine(Ok.of (r:=(.normal,[.int .i64 0,.int .i64 ((i+1:Nat):Int)],h)) ?_).eq (by
      simp -implicitDefEqProofs only [Bz,bin_lss,hlt,decide_true,decide_false,Option.bind_some,condE_true,condE_false,bin_geq,h1,gdW_tt,gQ_true,words_eq,cl_some,bin_leq,h2,pickP_bool,if_true,bin_add,suc64 i (by omega)])
     refine .inl ⟨rfl,m - 1,by omega,i+1,rfl,by omega,rfl,fun j hj hh=>?_⟩
     by_cases e:j=i
     ·subst e;exact h2 hh.2
     ·exact hno j (by omega) hh
   ·refine(Ok.of (r:=(.normal,[.int .i64 0,.int .i64 ((i+1:Nat):Int)],h)) ?_).eq (by
     simp -implicitDefEqProofs only [Bz,bin_lss,hlt,decide_true,decide_false,Option.bind_some,condE_true,condE_false,bin_geq,h1,gdW_ft,gQ_false,pickP_bool,Bool.false_eq_true,if_false,bin_add,suc64 i (by omega)])
    refine .inl ⟨rfl,m - 1,by omega,i+1,rfl,by omega,rfl,fun j hj hh=>h1 hh.1⟩
  ·have hlt : ¬ (i:Int) < 6:=by omega
   refine(Ok.of (r:=(.exit 0,[.int .i64 0,.int .i64 (i:Int)],h)) ?_).eq (by
    simp -implicitDefEqProofs only [Bz,bin_lss,hlt,decide_false,Option.bind_some,condE_false])
   have:i=6:=by omega
   subst this
   exact .inr ⟨by simp,.inl ⟨rfl,rfl,classOf_none n hno⟩⟩
 refine Ok.eq ?_ (by unfold Ci;rfl)
 refine ok_lp lp0 ?_
 rintro e vs g (⟨rfl,rfl,hc⟩ | ⟨rfl,rfl,hv⟩)
 ·exact ok_val (v:=.int .i64 (-1)) (g:=g) rfl (by rw [hc])
 ·simp only at hv
  exact ok_val (v:=.int .i64 (classOf n)) (g:=g) (by show some (vs.getD 0 .bot,g)=_;rw [hv]) rfl
theorem full_eq {c:Int}(hc:0≤c∧c≤5)(h:Heap):Di (.int .i64 c) h=some (.int .u64 (fullB c).toNat,h):=by
 rcases (by omega:c=0∨c=1∨c=2∨c=3∨c=4∨c=5) with rfl | rfl | rfl | rfl | rfl | rfl<;>rfl
structure PAl where
 ar:PAr
 un:List Bool
def unC (l:List Bool):List AV:=l.map .bool
structure AlAt (h:Heap)(q u p w s:Nat)(l:PAl):Prop where
 hq:∃ c,h.get q=some (.cells true [.ptr (some (p,0)),.sl (some (u,0)) l.un.length c])
 hu:h.get u=some (.cells true (unC l.un))
 ar:ArAt h p w s l.ar
 qu:q≠u
 qp:q≠p
 qw:q≠w
 qs:q≠s
 up:u≠p
 uw:u≠w
 us:u≠s
 lq:q<h.next
 lu:u<h.next
 len:l.un.length=l.ar.sp.length
theorem AlAt.same {h h' : Heap} {q u p w s : Nat} {l : PAl} {S : List Nat} (H : AlAt h q u p w s l) (hs : Same S h h') (h1 : q ∉ S) (h2 : u ∉ S) (h3 : p ∉ S) (h4 : w ∉ S) (h5 : s ∉ S) : AlAt h' q u p w s l :=
  { hq := by rw [hs.get q H.lq h1]; exact H.hq
    hu := by rw [hs.get u H.lu h2]; exact H.hu
    ar := H.ar.same hs h3 h4 h5
    qu := H.qu, qp := H.qp, qw := H.qw, qs := H.qs, up := H.up, uw := H.uw, us := H.us
    lq := Nat.lt_of_lt_of_le H.lq hs.next, lu := Nat.lt_of_lt_of_le H.lu hs.next, len := H.len }
theorem AlAt.arena {h h' : Heap} {q u p w s : Nat} {l : PAl} {a : PAr} (H : AlAt h q u p w s l) (hs : Same [w, s] h h') (ha : ArAt h' p w s a) (hl : a.sp.length = l.ar.sp.length) : AlAt h' q u p w s ⟨a, l.un⟩ :=
  { hq := by rw [hs.get q H.lq (by simp [H.qw, H.qs])]; exact H.hq
    hu := by rw [hs.get u H.lu (by simp [H.uw, H.us])]; exact H.hu
    ar := ha
    qu := H.qu, qp := H.qp, qw := H.qw, qs := H.qs, up := H.up, uw := H.uw, us := H.us
    lq := Nat.lt_of_lt_of_le H.lq hs.next, lu := Nat.lt_of_lt_of_le H.lu hs.next, len := H.len.trans hl.symm }
section
variable {h:Heap}{q u p w s:Nat}{l:PAl}(H:AlAt h q u p w s l)
include H
theorem AlAt.ld0:ldS h (.ptr (some (q,0)))=some (.ptr (some (p,0))):=by
 obtain⟨c,hq⟩:=H.hq
 rw [ldS_at hq];rfl
theorem AlAt.ld1:∃ c,ldS h (.ptr (some (q,1)))=some (.sl (some (u,0)) l.un.length c):=by
 obtain⟨c,hq⟩:=H.hq
 exact⟨c,by rw [ldS_at hq];rfl⟩
theorem AlAt.ldu {n:Nat}(hn:n<l.un.length):ldS h (.ptr (some (u,n)))=some (.bool ((l.un[n]?).getD false)):=by
 rw [ldS_at H.hu];simp [unC,hn]
theorem AlAt.stu {n:Nat}(hn:n<l.un.length)(b:Bool):stP 1 h (.ptr (some (u,n))) (.bool b)=some (.bot,h.put u (some (.cells true (unC (l.un.set n b))))):=by
 rw [stP_one H.hu (by simpa [unC] using hn) rfl];simp [unC,List.map_set]
theorem AlAt.setU (n : Nat) (b : Bool) : AlAt (h.put u (some (.cells true (unC (l.un.set n b))))) q u p w s ⟨l.ar, l.un.set n b⟩ :=
  { hq := by rw [get_put_ne H.qu, List.length_set]; exact H.hq
    hu := get_put_eq
    ar := H.ar.same (Same.put _ _ _) (by simp [Ne.symm H.up]) (by simp [Ne.symm H.uw]) (by simp [Ne.symm H.us])
    qu := H.qu, qp := H.qp, qw := H.qw, qs := H.qs, up := H.up, uw := H.uw, us := H.us
    lq := H.lq, lu := H.lu, len := by rw [List.length_set]; exact H.len }
theorem ixU {n:Nat}(hn:n<l.un.length)(c:Cap):iaS 1 (.sl (some (u,0)) l.un.length c) (.int .i64 (n:Int))=some (.ptr (some (u,n))):=by
 rw [iaS_sl 1 (u,0) _ _ .i64 _ ⟨by omega,by omega⟩];simp
end
def PAl.sweepU (l:PAl)(n:Nat):PAl:=⟨(l.ar.sweep n).2,l.un.set n false⟩
theorem sweepL_len (l:PAl)(n:Nat):(l.sweepU n).un.length=l.un.length∧(l.sweepU n).ar.sp.length=l.ar.sp.length:=by
 refine⟨by simp [PAl.sweepU],?_⟩
 unfold PAl.sweepU PAr.sweep
 split
 ·rfl
 ·exact l.ar.setS_len _ _
theorem asweep_ok {h:Heap}{q u p w s:Nat}{l:PAl}(H:AlAt h q u p w s l){n:Nat}(hn:n<l.un.length) :
  Ok (Ai (.ptr (some (q,0))) (.int .i64 n) h) fun r=>r.1 = .tup []∧AlAt r.2 q u p w s (l.sweepU n)∧Same [u,s] h r.2:=by
 refine Ok.eq ?_ (by simp -implicitDefEqProofs only [Ai,nilV_ptr,Option.bind_some,faP_ptr,Nat.zero_add,H.ld0];rfl)
 refine ok_cl (sweep_ok H.ar n) ?_
 rintro _ g ⟨-,H1,s1⟩
 simp only at H1 s1
 have hl:(l.ar.sweep n).2.sp.length=l.ar.sp.length:=(sweepL_len l n).2
 have H2:=H.arena (s1.sub (by simp)) H1 hl
 obtain⟨c,hd⟩:=H2.ld1
 refine ok_val (v:=.tup []) (g:=g.put u (some (.cells true (unC (l.un.set n false))))) (by
  simp -implicitDefEqProofs only [nilV_ptr,Option.bind_some,faP_ptr,Nat.zero_add,hd,ixU H2 (n:=n) (by exact hn),H2.stu (n:=n) (by exact hn),cl_some]) ⟨rfl,H2.setU n false,?_⟩
 exact(s1.sub (by simp)).trans ((Same.put _ _ _).sub (by simp))
def PAl.beginU (l:PAl)(n:Nat)(c:Int):(Int × Int) × PAl:=
 (((l.ar.set n c).2.take n).1,((l.ar.set n c).2.take n).2.1,⟨((l.ar.set n c).2.take n).2.2,l.un.set n false⟩) |> fun r=>((r.1,r.2.1),r.2.2)
theorem set_len' (a:PAr)(n c:Int):(a.set n c).2.sp.length=a.sp.length:=by
 unfold PAr.set;split
 ·rfl
 ·split
  ·rfl
  ·exact a.setS_len _ _
theorem take_len' (a:PAr)(n:Int):(a.take n).2.2.sp.length=a.sp.length:=by
 unfold PAr.take;split
 ·rfl
 ·split
  ·rfl
  ·exact a.setS_len _ _
theorem abegin_ok {h:Heap}{q u p w s:Nat}{l:PAl}(H:AlAt h q u p w s l)(ht:Tab0 h)(hs0:s≠0)(hu0:u≠0){n:Nat}(hn:n<l.un.length)(c:Int) :
  Ok (Av (.ptr (some (q,0))) (.int .i64 n) (.int .i64 c) h) fun r=>r.1 = .tup [.int .i64 (l.beginU n c).1.1,.int .i64 (l.beginU n c).1.2]∧AlAt r.2 q u p w s (l.beginU n c).2∧Same [u,w,s] h r.2:=by
 obtain⟨d,hd⟩:=H.ld1
 have H1:=H.setU n false
 have s1:Same [u] h (h.put u (some (.cells true (unC (l.un.set n false))))):=Same.put _ _ _
 have ht1:=ht.same s1 (by simp;omega)
 generalize hg1:h.put u (some (.cells true (unC (l.un.set n false))))=g1 at *
 have hst:=H.stu hn false
 rw [hg1] at hst
 refine Ok.eq ?_ (by simp -implicitDefEqProofs only [Av,nilV_ptr,Option.bind_some,faP_ptr,Nat.zero_add,hd,ixU H hn,hst,cl_some,H1.ld0];rfl)
 refine ok_cl (set_ok H1.ar n c) ?_
 rintro _ g2 ⟨-,H2,s2⟩
 simp only at H2 s2
 have H2':=H1.arena (s2.sub (by simp)) H2 (set_len' _ _ _)
 have ht2:=ht1.same s2 (by simp;omega)
 refine Ok.eq ?_ (by simp -implicitDefEqProofs only [nilV_ptr,Option.bind_some,faP_ptr,Nat.zero_add,H2'.ld0];rfl)
 refine ok_cl (take_ok H2 ht2.tab hs0 n) ?_
 rintro _ g3 ⟨rfl,H3,s3⟩
 simp only at H3 s3
 have H3':=H2'.arena s3 H3 (take_len' _ _)
 refine ok_val (g:=g3) (by simp -implicitDefEqProofs only [extractV_tup,List.getElem?_cons_zero,List.getElem?_cons_succ,Option.bind_some];rfl) ⟨rfl,H3',?_⟩
 exact((s1.sub (by simp)).trans (s2.sub (by simp))).trans (s3.sub (by simp))
def PAl.at1 (c:Int)(n:Nat)(l:PAl):PAl:=if (l.un[n]?).getD false=true then l.sweepU n else l
def PAl.scan1 (c:Int):Nat→Nat→PAl→Option (Int × Int) × PAl
 | 0,_,l=>(none,l)
 | k+1,n,l=>
  if l.ar.cls n≠c then PAl.scan1 c k (n+1) l else
  if (l.at1 c n).ar.cls n=c∧(l.at1 c n).ar.taken n≠fullB c then
   (some (((l.at1 c n).ar.take n).1,((l.at1 c n).ar.take n).2.1),⟨((l.at1 c n).ar.take n).2.2,(l.at1 c n).un⟩)
  else PAl.scan1 c k (n+1) (l.at1 c n)
def PAl.scan2 (c:Int):Nat→Nat→PAl→Option (Int × Int) × PAl
 | 0,_,l=>(none,l)
 | k+1,n,l=>if l.ar.cls n = -1 then(some (l.beginU n c).1,(l.beginU n c).2) else PAl.scan2 c k (n+1) l
def PAl.scan3 (c:Int):Nat→Nat→PAl→Option (Int × Int) × PAl
 | 0,_,l=>(none,l)
 | k+1,n,l=>
  if (l.un[n]?).getD false=true then
   if (l.sweepU n).ar.cls n = -1 then(some ((l.sweepU n).beginU n c).1,((l.sweepU n).beginU n c).2) else PAl.scan3 c k (n+1) (l.sweepU n)
  else PAl.scan3 c k (n+1) l
def PAl.more2 (c:Int)(l:PAl):(Int × Int) × PAl:=
 match PAl.scan3 c l.un.length 0 l with
 | (some r,l')=>(r,l')
 | (none,l')=>((0,5),l')
def PAl.more (c:Int)(l:PAl):(Int × Int) × PAl:=
 match PAl.scan2 c (l.un.length - 1) 1 l with
 | (some r,l')=>(r,l')
 | (none,l')=>PAl.more2 c l'
def PAl.take (l:PAl)(words:Int):(Int × Int) × PAl:=
 if classOf words = -1 then((0,1),l) else
 match PAl.scan1 (classOf words) l.un.length 0 l with
 | (some r,l')=>(r,l')
 | (none,l')=>PAl.more (classOf words) l'
theorem at1_len (c:Int)(n:Nat)(l:PAl):(l.at1 c n).un.length=l.un.length∧(l.at1 c n).ar.sp.length=l.ar.sp.length:=by
 unfold PAl.at1;split
 ·exact sweepL_len l n
 ·exact⟨rfl,rfl⟩
theorem begin_len (c:Int)(n:Nat)(l:PAl):(l.beginU n c).2.un.length=l.un.length∧(l.beginU n c).2.ar.sp.length=l.ar.sp.length:=by
 refine⟨by simp [PAl.beginU],?_⟩
 show(((l.ar.set n c).2.take n).2.2).sp.length=_
 rw [take_len',set_len']
def ScanEnd (q u p w s:Nat)(g:Heap)(x:Option (Int × Int) × PAl)(i:Nat)(r:Ex × List AV × Heap):Prop:=
 AlAt r.2.2 q u p w s x.2∧Same [u,w,s] g r.2.2∧
 match x.1 with
 | some a=>r.1 = .ret∧∃ v rest,r.2.1 = .int .i64 a.1 :: .int .i64 a.2::v::rest
 | none=>r.1 = .exit i∧∃ rest,r.2.1 = .int .i64 0 :: .int .i64 0::rest
section
variable {q u p w s:Nat}
theorem scan1_ok {g:Heap}{l:PAl}(H:AlAt g q u p w s l)(ht:Tab0 g)(hs0:s≠0)(hu0:u≠0)(hw0:w≠0){c:Int}(hc:0≤c∧c≤5) :
  Ok (Cj (.ptr (some (q,0))) (.int .i64 c) (.int .i64 l.un.length) (.int .i64 0) (.int .i64 0) (.int .i64 0) g) (ScanEnd q u p w s g (PAl.scan1 c l.un.length 0 l) 0):=by
 have hN:l.un.length≤512:=by rw [H.len];exact H.ar.hi
 refine ok_loop (fun m vs g'=>∃ (n:Nat) (l':PAl),vs = [.int .i64 0,.int .i64 0,.int .i64 n]∧m+n=l.un.length∧AlAt g' q u p w s l'∧l'.un.length=l.un.length∧Same [u,w,s] g g'∧PAl.scan1 c l.un.length 0 l=PAl.scan1 c m n l') ?_ (n:=l.un.length) (by omega)
  ⟨0,l,rfl,rfl,H,rfl,Same.refl _ _,rfl⟩
 rintro m vs g' ⟨n,l',rfl,hm,H,hl,hs,he⟩
 rw [gd0,gd1,gd2]
 by_cases hi:n<l.un.length
 ·have hlt:(n:Int)<l.un.length:=by omega
  obtain⟨k,rfl⟩:∃ k,m=k+1:=⟨m - 1,by omega⟩
  have ht':=ht.same hs (by simp;omega)
  have hsc:=suc64 n (by omega)
  by_cases h1:l'.ar.cls n=c
  ·obtain⟨d,hd⟩:=H.ld1
   have hun:=H.ldu (n:=n) (by omega)
   -- behind the sweep
   have step2:∀ (g2:Heap),AlAt g2 q u p w s (l'.at1 c n)→Same [u,w,s] g g2→
     Ok (Ak (.ptr (some (q,0))) (.int .i64 c) (.int .i64 0) (.int .i64 0) (.int .i64 (n:Int)) g2) fun r=>(r.1 = .normal∧∃ m,m<k+1∧∃ (n:Nat) (l':PAl),r.2.1 = [.int .i64 0,.int .i64 0,.int .i64 n]∧m+n=l.un.length∧AlAt r.2.2 q u p w s l'∧l'.un.length=l.un.length∧Same [u,w,s] g r.2.2∧PAl.scan1 c l.un.length 0 l=PAl.scan1 c m n l')∨
      (r.1≠.normal∧ScanEnd q u p w s g (PAl.scan1 c l.un.length 0 l) 0 r):=by
    intro g2 H2 hs2
    have ht2:=ht.same hs2 (by simp;omega)
    by_cases h2:(l'.at1 c n).ar.cls n=c∧(l'.at1 c n).ar.taken n≠fullB c
    ·have hne : ¬ (((l'.at1 c n).ar.taken n).toNat:Int)=(fullB c).toNat:=fun e=>h2.2 (BitVec.eq_of_toNat_eq (by omega))
     refine Ok.eq ?_ (by simp -implicitDefEqProofs only [Ak,nilV_ptr,Option.bind_some,faP_ptr,Nat.zero_add,H2.ld0,class_eq H2.ar,cl_some,eql_int,h2.1,decide_true,gdW_tt,gQ_true,taken_eq H2.ar,full_eq hc,neq_int,hne,decide_false,Bool.not_false,pickP_bool,if_true,condE_true];rfl)
     refine ok_cl (take_ok H2.ar ht2.tab hs0 n) ?_
     rintro _ g3 ⟨rfl,H3,s3⟩
     simp only at H3 s3
     have H3':=H2.arena s3 H3 (take_len' _ _)
     refine(Ok.of (r:=(.ret,[_,_,.int .i64 (n:Int)],g3)) ?_).eq (by simp -implicitDefEqProofs only [extractV_tup,List.getElem?_cons_zero,List.getElem?_cons_succ,Option.bind_some];rfl)
     refine .inr ⟨by simp,?_⟩
     rw [he,PAl.scan1,if_neg (fun h=>h h1),if_pos h2]
     exact⟨H3',hs2.trans (s3.sub (by simp)),rfl,_,_,rfl⟩
    ·have hal:=at1_len c n l'
     refine(Ok.of (r:=(.normal,[.int .i64 0,.int .i64 0,.int .i64 ((n+1:Nat):Int)],g2)) ?_).eq ?_
     ·refine .inl ⟨rfl,k,by omega,n+1,l'.at1 c n,rfl,by omega,H2,hal.1.trans hl,hs2,?_⟩
      rw [he,PAl.scan1,if_neg (fun h=>h h1),if_neg h2]
     ·by_cases h3:(l'.at1 c n).ar.cls n=c
      ·have heq:(((l'.at1 c n).ar.taken n).toNat:Int)=(fullB c).toNat:=by
        have:(l'.at1 c n).ar.taken n=fullB c:=Classical.byContradiction fun e=>h2 ⟨h3,e⟩
        rw [this]
       simp -implicitDefEqProofs only [Ak,nilV_ptr,Option.bind_some,faP_ptr,Nat.zero_add,H2.ld0,class_eq H2.ar,cl_some,eql_int,h3,decide_true,gdW_tt,gQ_true,taken_eq H2.ar,full_eq hc,neq_int,heq,Bool.not_true,pickP_bool,if_true,condE_false,bin_add,hsc]
      ·simp -implicitDefEqProofs only [Ak,nilV_ptr,Option.bind_some,faP_ptr,Nat.zero_add,H2.ld0,class_eq H2.ar,cl_some,eql_int,h3,decide_false,gdW_ft,gQ_false,pickP_bool,Bool.false_eq_true,if_false,condE_false,bin_add,hsc]
   rcases bool_cases ((l'.un[n]?).getD false) with hb | hb
   ·rw [hb] at hun
    refine Ok.eq ?_ (by simp -implicitDefEqProofs only [A2,bin_lss,hlt,decide_true,Option.bind_some,condE_true,nilV_ptr,faP_ptr,Nat.zero_add,H.ld0,class_eq H.ar,cl_some,neq_int,h1,Bool.not_true,condE_false,hd,ixU H (n:=n) (by omega),hun];rfl)
    refine ok_cl (asweep_ok H (n:=n) (by omega)) ?_
    rintro _ g2 ⟨-,H2,s2⟩
    simp only at H2 s2
    exact step2 g2 (by unfold PAl.at1;rw [if_pos hb];exact H2) (hs.trans (s2.sub (by simp)))
   ·rw [hb] at hun
    refine Ok.eq ?_ (by simp -implicitDefEqProofs only [A2,bin_lss,hlt,decide_true,Option.bind_some,condE_true,nilV_ptr,faP_ptr,Nat.zero_add,H.ld0,class_eq H.ar,cl_some,neq_int,h1,Bool.not_true,condE_false,hd,ixU H (n:=n) (by omega),hun];rfl)
    exact step2 g' (by unfold PAl.at1;rw [if_neg (by rw [hb];decide)];exact H) hs
  ·refine(Ok.of (r:=(.normal,[.int .i64 0,.int .i64 0,.int .i64 ((n+1:Nat):Int)],g')) ?_).eq (by
    simp -implicitDefEqProofs only [A2,bin_lss,hlt,decide_true,Option.bind_some,condE_true,nilV_ptr,faP_ptr,Nat.zero_add,H.ld0,class_eq H.ar,cl_some,neq_int,h1,decide_false,Bool.not_false,bin_add,hsc])
   refine .inl ⟨rfl,k,by omega,n+1,l',rfl,by omega,H,hl,hs,?_⟩
   rw [he,PAl.scan1,if_pos h1]
 ·have hlt : ¬ (n:Int)<l.un.length:=by omega
  have hm0:m=0:=by omega
  subst hm0
  refine(Ok.of (r:=(.exit 0,[.int .i64 0,.int .i64 0,.int .i64 (n:Int)],g')) ?_).eq (by
   simp -implicitDefEqProofs only [A2,bin_lss,hlt,decide_false,Option.bind_some,condE_false])
  exact .inr ⟨by simp,by rw [he];exact⟨H,hs,rfl,_,rfl⟩⟩
theorem scan2_ok {g:Heap}{l:PAl}(H:AlAt g q u p w s l)(ht:Tab0 g)(hs0:s≠0)(hu0:u≠0)(hw0:w≠0)(c:Int) :
  Ok (Ck (.ptr (some (q,0))) (.int .i64 c) (.int .i64 0) (.int .i64 0) (.int .i64 1) g) (ScanEnd q u p w s g (PAl.scan2 c (l.un.length - 1) 1 l) 2):=by
 have hN:l.un.length≤512:=by rw [H.len];exact H.ar.hi
 have hN':8≤l.un.length:=by rw [H.len];exact H.ar.lo
 refine ok_loop (fun m vs g'=>∃ (n:Nat),vs = [.int .i64 0,.int .i64 0,.int .i64 n]∧m+n=l.un.length∧g=g'∧PAl.scan2 c (l.un.length - 1) 1 l=PAl.scan2 c m n l) ?_ (n:=l.un.length - 1) (by omega)
  ⟨1,rfl,by omega,rfl,rfl⟩
 rintro m vs _ ⟨n,rfl,hm,rfl,he⟩
 rw [gd0,gd1,gd2]
 obtain⟨d,hd⟩:=H.ld1
 by_cases hi:n<l.un.length
 ·have hlt:(n:Int)<l.un.length:=by omega
  obtain⟨k,rfl⟩:∃ k,m=k+1:=⟨m - 1,by omega⟩
  have hsc:=suc64 n (by omega)
  by_cases h1:l.ar.cls n = -1
  ·refine Ok.eq ?_ (by simp -implicitDefEqProofs only [BK,nilV_ptr,Option.bind_some,faP_ptr,Nat.zero_add,hd,lnL_sl,bin_lss,hlt,decide_true,condE_true,H.ld0,class_eq H.ar,cl_some,eql_int,h1];rfl)
   refine ok_cl (abegin_ok H ht hs0 hu0 hi c) ?_
   rintro _ g3 ⟨rfl,H3,s3⟩
   simp only at H3 s3
   refine(Ok.of (r:=(.ret,[_,_,.int .i64 (n:Int)],g3)) ?_).eq (by simp -implicitDefEqProofs only [extractV_tup,List.getElem?_cons_zero,List.getElem?_cons_succ,Option.bind_some];rfl)
   refine .inr ⟨by simp,?_⟩
   rw [he,PAl.scan2,if_pos h1]
   exact⟨H3,s3,rfl,_,_,rfl⟩
  ·refine(Ok.of (r:=(.normal,[.int .i64 0,.int .i64 0,.int .i64 ((n+1:Nat):Int)],g)) ?_).eq (by
    simp -implicitDefEqProofs only [BK,nilV_ptr,Option.bind_some,faP_ptr,Nat.zero_add,hd,lnL_sl,bin_lss,hlt,decide_true,condE_true,H.ld0,class_eq H.ar,cl_some,eql_int,h1,decide_false,condE_false,bin_add,hsc])
   refine .inl ⟨rfl,k,by omega,n+1,rfl,by omega,rfl,?_⟩
   rw [he,PAl.scan2,if_neg h1]
 ·have hlt : ¬ (n:Int)<l.un.length:=by omega
  have hm0:m=0:=by omega
  subst hm0
  refine(Ok.of (r:=(.exit 2,[.int .i64 0,.int .i64 0,.int .i64 (n:Int)],g)) ?_).eq (by
   simp -implicitDefEqProofs only [BK,nilV_ptr,Option.bind_some,faP_ptr,Nat.zero_add,hd,lnL_sl,bin_lss,hlt,decide_false,condE_false])
  exact .inr ⟨by simp,by rw [he];exact⟨H,Same.refl _ _,rfl,_,rfl⟩⟩
theorem scan3_ok {g:Heap}{l:PAl}(H:AlAt g q u p w s l)(ht:Tab0 g)(hs0:s≠0)(hu0:u≠0)(hw0:w≠0)(c:Int)(d:Cap) :
  Ok (Cl (.ptr (some (q,0))) (.int .i64 c) (.sl (some (u,0)) l.un.length d) (.int .i64 l.un.length) (.int .i64 0) (.int .i64 0) (.int .i64 0) g) (ScanEnd q u p w s g (PAl.scan3 c l.un.length 0 l) 4):=by
 have hN:l.un.length≤512:=by rw [H.len];exact H.ar.hi
 refine ok_loop (fun m vs g'=>∃ (n:Nat) (l':PAl),vs = [.int .i64 0,.int .i64 0,.int .i64 n]∧m+n=l.un.length∧AlAt g' q u p w s l'∧l'.un.length=l.un.length∧Same [u,w,s] g g'∧PAl.scan3 c l.un.length 0 l=PAl.scan3 c m n l') ?_ (n:=l.un.length) (by omega)
  ⟨0,l,rfl,rfl,H,rfl,Same.refl _ _,rfl⟩
 rintro m vs g' ⟨n,l',rfl,hm,H,hl,hs,he⟩
 rw [gd0,gd1,gd2]
 by_cases hi:n<l.un.length
 ·have hlt:(n:Int)<l.un.length:=by omega
  obtain⟨k,rfl⟩:∃ k,m=k+1:=⟨m - 1,by omega⟩
  have ht':=ht.same hs (by simp;omega)
  have hsc:=suc64 n (by omega)
  have hun:=H.ldu (n:=n) (by omega)
  have hix:=ixU H (n:=n) (by omega) d
  rw [hl] at hix
  rcases bool_cases ((l'.un[n]?).getD false) with hb | hb
  ·rw [hb] at hun
   refine Ok.eq ?_ (by simp -implicitDefEqProofs only [BN,bin_lss,hlt,decide_true,Option.bind_some,condE_true,hix,hun];rfl)
   refine ok_cl (asweep_ok H (n:=n) (by omega)) ?_
   rintro _ g2 ⟨-,H2,s2⟩
   simp only at H2 s2
   have hs2:Same [u,w,s] g g2:=hs.trans (s2.sub (by simp))
   have ht2:=ht.same hs2 (by simp;omega)
   have hsl:=sweepL_len l' n
   by_cases h1:(l'.sweepU n).ar.cls n = -1
   ·refine Ok.eq ?_ (by simp -implicitDefEqProofs only [nilV_ptr,Option.bind_some,faP_ptr,Nat.zero_add,H2.ld0,class_eq H2.ar,cl_some,eql_int,h1,decide_true,condE_true];rfl)
    refine ok_cl (abegin_ok H2 ht2 hs0 hu0 (n:=n) (by omega) c) ?_
    rintro _ g3 ⟨rfl,H3,s3⟩
    simp only at H3 s3
    refine(Ok.of (r:=(.ret,[_,_,.int .i64 (n:Int)],g3)) ?_).eq (by simp -implicitDefEqProofs only [extractV_tup,List.getElem?_cons_zero,List.getElem?_cons_succ,Option.bind_some];rfl)
    refine .inr ⟨by simp,?_⟩
    rw [he,PAl.scan3,if_pos hb,if_pos h1]
    exact⟨H3,hs2.trans s3,rfl,_,_,rfl⟩
   ·refine(Ok.of (r:=(.normal,[.int .i64 0,.int .i64 0,.int .i64 ((n+1:Nat):Int)],g2)) ?_).eq (by
     simp -implicitDefEqProofs only [nilV_ptr,Option.bind_some,faP_ptr,Nat.zero_add,H2.ld0,class_eq H2.ar,cl_some,eql_int,h1,decide_false,condE_false,BP,bin_add,hsc])
    refine .inl ⟨rfl,k,by omega,n+1,l'.sweepU n,rfl,by omega,H2,hsl.1.trans hl,hs2,?_⟩
    rw [he,PAl.scan3,if_pos hb,if_neg h1]
  ·rw [hb] at hun
   refine(Ok.of (r:=(.normal,[.int .i64 0,.int .i64 0,.int .i64 ((n+1:Nat):Int)],g')) ?_).eq (by
    simp -implicitDefEqProofs only [BN,bin_lss,hlt,decide_true,Option.bind_some,condE_true,condE_false,hix,hun,BP,bin_add,hsc])
   refine .inl ⟨rfl,k,by omega,n+1,l',rfl,by omega,H,hl,hs,?_⟩
   rw [he,PAl.scan3,if_neg (by rw [hb];decide)]
 ·have hlt : ¬ (n:Int)<l.un.length:=by omega
  have hm0:m=0:=by omega
  subst hm0
  refine(Ok.of (r:=(.exit 4,[.int .i64 0,.int .i64 0,.int .i64 (n:Int)],g')) ?_).eq (by
   simp -implicitDefEqProofs only [BN,bin_lss,hlt,decide_false,Option.bind_some,condE_false])
  exact .inr ⟨by simp,by rw [he];exact⟨H,hs,rfl,_,rfl⟩⟩
theorem scan1_len (c:Int):∀ (k n:Nat) (l:PAl),(PAl.scan1 c k n l).2.un.length=l.un.length
 | 0,n,l=>rfl
 | k+1,n,l=>by
  rw [PAl.scan1]
  split
  ·exact scan1_len c k (n+1) l
  ·split
   ·exact(at1_len c n l).1
   ·rw [scan1_len c k (n+1)];exact(at1_len c n l).1
theorem scan2_len (c:Int):∀ (k n:Nat) (l:PAl),(PAl.scan2 c k n l).2.un.length=l.un.length
 | 0,n,l=>rfl
 | k+1,n,l=>by
  rw [PAl.scan2]
  split
  ·exact(begin_len c n l).1
  ·exact scan2_len c k (n+1) l
theorem atake_ok {h:Heap}{l:PAl}(H:AlAt h q u p w s l)(ht:Tab0 h)(hs0:s≠0)(hu0:u≠0)(hw0:w≠0)(n:Int) :
  Ok (BJ (.ptr (some (q,0))) (.int .i64 n) h) fun r=>r.1 = .tup [.int .i64 (l.take n).1.1,.int .i64 (l.take n).1.2]∧AlAt r.2 q u p w s (l.take n).2∧Same [u,w,s] h r.2:=by
 refine Ok.eq ?_ (by unfold BJ;rfl)
 refine ok_cl (gclass_eq n h) ?_
 rintro _ _ he
 cases he
 unfold PAl.take
 by_cases h1:classOf n = -1
 ·rw [if_pos h1]
  exact ok_val (v:=.tup [.int .i64 0,.int .i64 1]) (g:=h) (by simp -implicitDefEqProofs only [eql_int,h1,decide_true,Option.bind_some,condE_true]) ⟨rfl,H,Same.refl _ _⟩
 rw [if_neg h1]
 have hc:0≤classOf n∧classOf n≤5:=by
  rcases classOf_range n with h | h
  ·exact absurd h h1
  ·exact⟨h.1,h.2.1⟩
 generalize classOf n=c at *
 obtain⟨d,hd⟩:=H.ld1
 refine Ok.eq ?_ (by simp -implicitDefEqProofs only [eql_int,h1,decide_false,Option.bind_some,condE_false,nilV_ptr,faP_ptr,Nat.zero_add,hd,lnL_sl];rfl)
 refine ok_lp (scan1_ok H ht hs0 hu0 hw0 hc) ?_
 rintro e vs g ⟨H1,s1,hx⟩
 have hl1:=scan1_len c l.un.length 0 l
 generalize PAl.scan1 c l.un.length 0 l=x1 at *
 obtain⟨r1,l1⟩:=x1
 simp only at H1 s1 hl1
 cases r1 with
 | some a=>
  obtain⟨rfl,v,rest,hv⟩:=hx
  simp only at hv
  subst hv
  exact ok_val (v:=.tup [.int .i64 a.1,.int .i64 a.2]) (g:=g) rfl ⟨rfl,H1,s1⟩
 | none=>
  obtain⟨rfl,rest,hv⟩:=hx
  simp only at hv
  subst hv
  have ht1:=ht.same s1 (by simp;omega)
  refine Ok.eq ?_ (by simp -implicitDefEqProofs only [if_true,thenK_normal,gd0,gd1];rfl)
  refine ok_lp (scan2_ok H1 ht1 hs0 hu0 hw0 c) ?_
  rintro e vs g2 ⟨H2,s2,hx⟩
  have hl2:=scan2_len c (l1.un.length - 1) 1 l1
  unfold PAl.more
  simp only
  generalize PAl.scan2 c (l1.un.length - 1) 1 l1=x2 at *
  obtain⟨r2,l2⟩:=x2
  simp only at H2 s2 hl2
  cases r2 with
  | some a=>
   obtain⟨rfl,v,rest,hv⟩:=hx
   simp only at hv
   subst hv
   exact ok_val (v:=.tup [.int .i64 a.1,.int .i64 a.2]) (g:=g2) rfl ⟨rfl,H2,s1.trans s2⟩
  | none=>
   obtain⟨rfl,rest,hv⟩:=hx
   simp only at hv
   subst hv
   have ht2:=ht1.same s2 (by simp;omega)
   obtain⟨d2,hd2⟩:=H2.ld1
   refine Ok.eq ?_ (by simp -implicitDefEqProofs only [if_true,thenK_normal,gd0,gd1,nilV_ptr,Option.bind_some,faP_ptr,Nat.zero_add,hd2,lnL_sl];rfl)
   refine ok_lp (scan3_ok H2 ht2 hs0 hu0 hw0 c d2) ?_
   rintro e vs g3 ⟨H3,s3,hx⟩
   unfold PAl.more2
   simp only
   generalize PAl.scan3 c l2.un.length 0 l2=x3 at *
   obtain⟨r3,l3⟩:=x3
   simp only at H3 s3
   cases r3 with
   | some a=>
    obtain⟨rfl,v,rest,hv⟩:=hx
    simp only at hv
    subst hv
    exact ok_val (v:=.tup [.int .i64 a.1,.int .i64 a.2]) (g:=g3) rfl ⟨rfl,H3,(s1.trans s2).trans s3⟩
   | none=>
    obtain⟨rfl,rest,hv⟩:=hx
    simp only at hv
    subst hv
    exact ok_val (v:=.tup [.int .i64 0,.int .i64 5]) (g:=g3) (by simp -implicitDefEqProofs only [if_true,thenK_normal]) ⟨rfl,H3,(s1.trans s2).trans s3⟩
end
theorem rep_false (n:Nat):rep [AV.bool false] n=unC (List.replicate n false):=by rw [rep_one];simp [unC]
theorem anew_ok {h : Heap} {p w s : Nat} {a : PAr} (H : ArAt h p w s a) :
    Ok (DA (.ptr (some (p, 0))) h) fun r => r.1 = .ptr (some (h.next + 1, 0)) ∧ AlAt r.2 (h.next + 1) h.next p w s ⟨a, List.replicate a.sp.length false⟩ ∧ Same [] h r.2 ∧ r.2.next = h.next + 2 := by
  have m := msP_ok 1 1 [AV.bool false] a.sp.length (by have := H.hi; omega) (by decide) rfl
  rw [rep_false] at m
  have hb : bldS [(0, 1), (1, 1)] [AV.ptr none, AV.sl none 0 (.ex 0)] [(0, .ptr (some (p, 0))), (1, .sl (some (h.next, 0)) a.sp.length (.ex a.sp.length))] = some (.agg [.ptr (some (p, 0)), .sl (some (h.next, 0)) a.sp.length (.ex a.sp.length)]) := rfl
  have hx : bxP (.agg [.ptr (some (p, 0)), .sl (some (h.next, 0)) a.sp.length (.ex a.sp.length)]) = some (.cells true [.ptr (some (p, 0)), .sl (some (h.next, 0)) a.sp.length (.ex a.sp.length)], fun i => .ptr (some (i, 0))) := rfl
  have s2 : Same [] h ((h.new (.cells true (unC (List.replicate a.sp.length false)))).new (.cells true [.ptr (some (p, 0)), .sl (some (h.next, 0)) a.sp.length (.ex a.sp.length)])) := (Same.new _ _).trans (Same.new _ _)
  have lp := H.lp
  have lw := H.lw
  have ls := H.ls
  refine ok_val (g := (h.new (.cells true (unC (List.replicate a.sp.length false)))).new (.cells true [.ptr (some (p, 0)), .sl (some (h.next, 0)) a.sp.length (.ex a.sp.length)])) (v := .ptr (some (h.next + 1, 0))) (by
    simp -implicitDefEqProofs only [DA, spans_eq H, cl_some, m, mk_some, hb, hx, Option.bind_some, Heap.next_new]) ⟨rfl, ?_, s2, rfl⟩
  exact
  { hq := ⟨.ex a.sp.length, by
      have := get_new_eq (h := h.new (.cells true (unC (List.replicate a.sp.length false)))) (b := .cells true [.ptr (some (p, 0)), .sl (some (h.next, 0)) a.sp.length (.ex a.sp.length)])
      rw [Heap.next_new] at this; rw [this]; simp⟩
    hu := by rw [get_new_ne (by rw [Heap.next_new]; omega), get_new_eq]
    ar := H.same s2 (by simp) (by simp) (by simp)
    qu := by omega
    qp := by omega
    qw := by omega
    qs := by omega
    up := by omega
    uw := by omega
    us := by omega
    lq := by show h.next + 1 < h.next + 1 + 1; omega
    lu := by show h.next < h.next + 1 + 1; omega
    len := by simp }
section
variable {q u p w s:Nat}
def PAl.left (l:PAl):Nat:=cnt (fun i=>(l.un[i]?).getD false) l.un.length
def PAl.one (l:PAl):Nat→Nat→Option Nat
 | 0,_=>none
 | k+1,n=>if (l.un[n]?).getD false=true then some n else PAl.one l k (n+1)
end
end Go.Ab.F
