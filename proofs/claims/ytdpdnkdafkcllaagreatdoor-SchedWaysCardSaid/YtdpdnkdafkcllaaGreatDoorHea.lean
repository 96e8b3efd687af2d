import Derived.Test.YtdpdnkdafkcllaaGreatDoorQuFn
import Derived.Test.YtdpdnkdafkcllaaGreatDoorArn
import Derived.Test.YtdpdnkdafkcllaaGreatDoorKit
import Derived.KernelRfl
import Derived.Test.YtdpdnkdafkcllaaGreatDoorObj
namespace Go.Ab.F
open Go Go.Ab
set_option linter.all false
set_option linter.all false
attribute [local congr] c_bind c_cl c_mk c_lp c_clC c_gQ c_gV c_condE c_thenK
theorem ldA_all {h:Heap}{b n:Nat}{w:Bool}{vs:List AV}(hb:h.get b=some (.cells w vs))(hl:vs.length=n):ldA n h (.ptr (some (b,0)))=some (.agg vs):=by
 rw [ldA_at hb,span_some _ _ _ (by omega),List.drop_zero,← hl,List.take_length];rfl
theorem e0 {a:AV}{l:List AV}:(a::l)[0]?=some a:=rfl
theorem e1 {a b:AV}{l:List AV}:(a::b::l)[1]?=some b:=rfl
theorem e2 {a b c:AV}{l:List AV}:(a::b::c::l)[2]?=some c:=rfl
theorem shr_n (b:BitVec 64)(q:Nat):binP .shr (.int .u64 b.toNat) (.int .u64 (q:Int))=some (.int .u64 (b >>> q).toNat):=shr_is b q
theorem field_0 (b:BitVec 64)(h:Heap):Au (.int .u64 b.toNat) (.int .i64 0) (.int .i64 7) h=some (.int .u64 ((b.toNat % 128:Nat):Int),h):=by
 have w:Az (.int .i64 0) (.int .i64 7) h=some (.bool true,h):=rfl
 have m:BF (.int .i64 7) h=some (.int .u64 127,h):=rfl
 have c:cvI .u64 (.int .i64 0)=some (.int .u64 ((0:Nat):Int)):=rfl
 have e:(BitVec.ofInt 64 ((b >>> 0).toNat:Int) &&& BitVec.ofInt 64 127).toNat=b.toNat % 128:=by
  rw [ofInt_toNat,BitVec.toNat_and,show(BitVec.ofInt 64 127).toNat=2 ^ 7 - 1 by decide,Nat.and_two_pow_sub_one_eq_mod];simp
 simp -implicitDefEqProofs only [Au,w,cl_some,un_not,Bool.not_true,Option.bind_some,condE_false,c,shr_n,m,and_u64,e]
theorem field_1 (b:BitVec 64)(h:Heap):Au (.int .u64 b.toNat) (.int .i64 7) (.int .i64 3) h=some (.int .u64 ((b.toNat / 128 % 8:Nat):Int),h):=by
 have w:Az (.int .i64 7) (.int .i64 3) h=some (.bool true,h):=rfl
 have m:BF (.int .i64 3) h=some (.int .u64 7,h):=rfl
 have c:cvI .u64 (.int .i64 7)=some (.int .u64 ((7:Nat):Int)):=rfl
 have e:(BitVec.ofInt 64 ((b >>> 7).toNat:Int) &&& BitVec.ofInt 64 7).toNat=b.toNat / 128 % 8:=by
  rw [ofInt_toNat,BitVec.toNat_and,show(BitVec.ofInt 64 7).toNat=2 ^ 3 - 1 by decide,Nat.and_two_pow_sub_one_eq_mod,BitVec.toNat_ushiftRight,Nat.shiftRight_eq_div_pow]
 simp -implicitDefEqProofs only [Au,w,cl_some,un_not,Bool.not_true,Option.bind_some,condE_false,c,shr_n,m,and_u64,e]
theorem field_2 (b:BitVec 64)(h:Heap):Au (.int .u64 b.toNat) (.int .i64 10) (.int .i64 16) h=some (.int .u64 ((b.toNat / 1024 % 65536:Nat):Int),h):=by
 have w:Az (.int .i64 10) (.int .i64 16) h=some (.bool true,h):=rfl
 have m:BF (.int .i64 16) h=some (.int .u64 65535,h):=rfl
 have c:cvI .u64 (.int .i64 10)=some (.int .u64 ((10:Nat):Int)):=rfl
 have e:(BitVec.ofInt 64 ((b >>> 10).toNat:Int) &&& BitVec.ofInt 64 65535).toNat=b.toNat / 1024 % 65536:=by
  rw [ofInt_toNat,BitVec.toNat_and,show(BitVec.ofInt 64 65535).toNat=2 ^ 16 - 1 by decide,Nat.and_two_pow_sub_one_eq_mod,BitVec.toNat_ushiftRight,Nat.shiftRight_eq_div_pow]
 simp -implicitDefEqProofs only [Au,w,cl_some,un_not,Bool.not_true,Option.bind_some,condE_false,c,shr_n,m,and_u64,e]
theorem with_nat {b v M m:BitVec 64}{p n:Nat}(hp:p+n≤64)(hb:b.toNat < 2 ^ p)(hv:v.toNat < 2 ^ n)(hM:∀ i,i<p→M.getLsbD i=false)(hm:∀ i,i<n→m.getLsbD i=true) :
  ((b &&& ~~~M) ||| ((v &&& m) <<< p)).toNat=b.toNat+v.toNat * 2 ^ p:=by
 have e1:b &&& ~~~M=b:=by
  apply BitVec.eq_of_getLsbD_eq
  intro i hi
  rw [BitVec.getLsbD_and,BitVec.getLsbD_not]
  by_cases h:i<p
  ·rw [hM i h];simp [hi]
  ·have:b.getLsbD i=false:=by
    rw [BitVec.getLsbD,Nat.testBit_lt_two_pow (Nat.lt_of_lt_of_le hb (Nat.pow_le_pow_right (by decide) (by omega)))]
   rw [this];rfl
 have e2:v &&& m=v:=by
  apply BitVec.eq_of_getLsbD_eq
  intro i hi
  rw [BitVec.getLsbD_and]
  by_cases h:i<n
  ·rw [hm i h];simp
  ·have:v.getLsbD i=false:=by
    rw [BitVec.getLsbD,Nat.testBit_lt_two_pow (Nat.lt_of_lt_of_le hv (Nat.pow_le_pow_right (by decide) (by omega)))]
   rw [this];rfl
 have hlt:v.toNat * 2 ^ p < 2 ^ 64:=by
  have:v.toNat * 2 ^ p < 2 ^ n * 2 ^ p:=Nat.mul_lt_mul_of_pos_right hv (Nat.two_pow_pos p)
  rw [← Nat.pow_add] at this
  exact Nat.lt_of_lt_of_le this (Nat.pow_le_pow_right (by decide) (by omega))
 rw [e1,e2,BitVec.toNat_or,BitVec.toNat_shiftLeft,Nat.shiftLeft_eq,Nat.mod_eq_of_lt hlt,Nat.or_comm]
 have:=Nat.shiftLeft_add_eq_or_of_lt hb v.toNat
 rw [Nat.shiftLeft_eq] at this
 omega
theorem with_1 (b v:BitVec 64)(h:Heap)(hb:b.toNat < 128)(hv:v.toNat < 8):Be (.int .u64 b.toNat) (.int .i64 7) (.int .i64 3) (.int .u64 v.toNat) h=some (.int .u64 ((b.toNat+v.toNat * 128:Nat):Int),h):=by
 have w:Az (.int .i64 7) (.int .i64 3) h=some (.bool true,h):=rfl
 have m:BF (.int .i64 3) h=some (.int .u64 7,h):=rfl
 have c:cvI .u64 (.int .i64 7)=some (.int .u64 7):=rfl
 have s:binP .shl (.int .u64 7) (.int .u64 7)=some (.int .u64 896):=rfl
 have hall:∀ i:Fin 7,(BitVec.ofInt 64 896).getLsbD i.val=false:=by decide
 have hall':∀ i:Fin 3,(BitVec.ofInt 64 7).getLsbD i.val=true:=by decide
 have key:=with_nat (b:=b) (v:=v) (M:=BitVec.ofInt 64 896) (m:=BitVec.ofInt 64 7) (p:=7) (n:=3) (by decide) hb hv (fun i hi=>hall ⟨i,hi⟩) (fun i hi=>hall' ⟨i,hi⟩)
 have sh:=shl_u64 (v &&& BitVec.ofInt 64 7) .u64 7 (by decide)
 rw [show(7:Int).toNat=7 from rfl] at sh
 simp -implicitDefEqProofs only [Be,w,cl_some,un_not,Bool.not_true,Option.bind_some,condE_false,c,m,s,andNot_u64,and_u64,ofInt_toNat,sh,or_u64,key]
theorem with_2 (b v:BitVec 64)(h:Heap)(hb:b.toNat < 1024)(hv:v.toNat < 65536):Be (.int .u64 b.toNat) (.int .i64 10) (.int .i64 16) (.int .u64 v.toNat) h=some (.int .u64 ((b.toNat+v.toNat * 1024:Nat):Int),h):=by
 have w:Az (.int .i64 10) (.int .i64 16) h=some (.bool true,h):=rfl
 have m:BF (.int .i64 16) h=some (.int .u64 65535,h):=rfl
 have c:cvI .u64 (.int .i64 10)=some (.int .u64 10):=rfl
 have s:binP .shl (.int .u64 65535) (.int .u64 10)=some (.int .u64 67107840):=rfl
 have hall:∀ i:Fin 10,(BitVec.ofInt 64 67107840).getLsbD i.val=false:=by decide
 have hall':∀ i:Fin 16,(BitVec.ofInt 64 65535).getLsbD i.val=true:=by decide
 have key:=with_nat (b:=b) (v:=v) (M:=BitVec.ofInt 64 67107840) (m:=BitVec.ofInt 64 65535) (p:=10) (n:=16) (by decide) hb hv (fun i hi=>hall ⟨i,hi⟩) (fun i hi=>hall' ⟨i,hi⟩)
 have sh:=shl_u64 (v &&& BitVec.ofInt 64 65535) .u64 10 (by decide)
 rw [show(10:Int).toNat=10 from rfl] at sh
 simp -implicitDefEqProofs only [Be,w,cl_some,un_not,Bool.not_true,Option.bind_some,condE_false,c,m,s,andNot_u64,and_u64,ofInt_toNat,sh,or_u64,key]
def hdC (a b c:Int):List AV:=[.int .i64 a,.int .i64 b,.int .i64 c]
theorem ldA_hd {h:Heap}{p:Nat}{w:Bool}{a b c:Int}(hb:h.get p=some (.cells w (hdC a b c))):ldA 3 h (.ptr (some (p,0)))=some (.agg (hdC a b c)):=ldA_all hb rfl
def mayP (a b c:Int):Prop:=1≤a∧a≤64∧0≤b∧b≤3∧0≤c∧c < 65536
instance (a b c:Int):Decidable (mayP a b c):=by unfold mayP;infer_instance
theorem new_get (h:Heap)(b:Blk):(h.new b).get h.next=some b:=get_new_eq
theorem may_ok (a b c:Int)(h:Heap):Ok (BH (.agg (hdC a b c)) h) fun r=>r.1 = .bool (decide (mayP a b c))∧Same [] h r.2:=by
 have bx:bxP (.agg (hdC a b c))=some (.cells true (hdC a b c),fun i=>.ptr (some (i,0))):=rfl
 have hg:=new_get h (.cells true (hdC a b c))
 have sm:Same [] h (h.new (.cells true (hdC a b c))):=Same.new _ _
 generalize hG:h.new (.cells true (hdC a b c))=g at *
 have l0:ldS g (.ptr (some (h.next,0+0)))=some (.int .i64 a):=by rw [ldS_at hg];rfl
 have l1:ldS g (.ptr (some (h.next,0+1)))=some (.int .i64 b):=by rw [ldS_at hg];rfl
 have l2:ldS g (.ptr (some (h.next,0+2)))=some (.int .i64 c):=by rw [ldS_at hg];rfl
 by_cases h1:1≤a
 ·by_cases h2:a≤64
  ·by_cases h3:0≤b
   ·by_cases h4:b≤3
    ·by_cases h5:0≤c
     ·have hd:decide (mayP a b c)=decide (c < 65536):=by unfold mayP;simp [h1,h2,h3,h4,h5]
      rw [hd]
      exact ok_val (by simp -implicitDefEqProofs only [BH,bx,mk_some,hG,faP_ptr,Option.bind_some,l0,l1,l2,bin_geq,bin_leq,bin_lss,h1,h2,h3,h4,h5,decide_true,gdW_tt,gQ_true,cl_some,pickP_bool,if_true]) ⟨rfl,sm⟩
     ·have hd:decide (mayP a b c)=false:=by unfold mayP;simp [h5]
      rw [hd]
      exact ok_val (by simp -implicitDefEqProofs only [BH,bx,mk_some,hG,faP_ptr,Option.bind_some,l0,l1,l2,bin_geq,bin_leq,h1,h2,h3,h4,h5,decide_true,decide_false,gdW_tt,gdW_ft,gQ_true,gQ_false,cl_some,pickP_bool,if_true,Bool.false_eq_true,if_false]) ⟨rfl,sm⟩
    ·have hd:decide (mayP a b c)=false:=by unfold mayP;simp [h4]
     rw [hd]
     exact ok_val (by simp -implicitDefEqProofs only [BH,bx,mk_some,hG,faP_ptr,Option.bind_some,l0,l1,l2,bin_geq,bin_leq,h1,h2,h3,h4,decide_true,decide_false,gdW_tt,gdW_ft,gQ_true,gQ_false,cl_some,pickP_bool,if_true,Bool.false_eq_true,if_false]) ⟨rfl,sm⟩
   ·have hd:decide (mayP a b c)=false:=by unfold mayP;simp [h3]
    rw [hd]
    exact ok_val (by simp -implicitDefEqProofs only [BH,bx,mk_some,hG,faP_ptr,Option.bind_some,l0,l1,l2,bin_geq,bin_leq,h1,h2,h3,decide_true,decide_false,gdW_tt,gdW_ft,gQ_true,gQ_false,cl_some,pickP_bool,if_true,Bool.false_eq_true,if_false]) ⟨rfl,sm⟩
  ·have hd:decide (mayP a b c)=false:=by unfold mayP;simp [h2]
   rw [hd]
   exact ok_val (by simp -implicitDefEqProofs only [BH,bx,mk_some,hG,faP_ptr,Option.bind_some,l0,l1,l2,bin_geq,bin_leq,h1,h2,decide_true,decide_false,gdW_tt,gdW_ft,gQ_true,gQ_false,cl_some,pickP_bool,if_true,Bool.false_eq_true,if_false]) ⟨rfl,sm⟩
 ·have hd:decide (mayP a b c)=false:=by unfold mayP;simp [h1]
  rw [hd]
  exact ok_val (by simp -implicitDefEqProofs only [BH,bx,mk_some,hG,faP_ptr,Option.bind_some,l0,l1,l2,bin_geq,bin_leq,h1,decide_true,decide_false,gdW_tt,gdW_ft,gQ_true,gQ_false,cl_some,pickP_bool,if_true,Bool.false_eq_true,if_false]) ⟨rfl,sm⟩
theorem nat_bv (n:Nat)(h:n < 2 ^ 64):(BitVec.ofNat 64 n).toNat=n:=by rw [BitVec.toNat_ofNat];exact Nat.mod_eq_of_lt h
theorem pack_ok (a b c:Int)(h:Heap)(hm:mayP a b c):Ok (C9 (.agg (hdC a b c)) h) fun r=>r.1 = .tup [.int .i64 (a+128*b+1024*c),.int .i64 0]∧Same [] h r.2:=by
 have bx:bxP (.agg (hdC a b c))=some (.cells true (hdC a b c),fun i=>.ptr (some (i,0))):=rfl
 have hg:=new_get h (.cells true (hdC a b c))
 have sm:Same [] h (h.new (.cells true (hdC a b c))):=Same.new _ _
 have hlt:h.next<(h.new (.cells true (hdC a b c))).next:=Nat.lt_succ_self _
 generalize hG:h.new (.cells true (hdC a b c))=g at *
 refine Ok.eq ?_ (by simp -implicitDefEqProofs only [C9,bx,mk_some,hG,ldA_hd hg,Option.bind_some];rfl)
 refine ok_cl (may_ok a b c g) ?_
 rintro _ g1 ⟨rfl,s1⟩
 simp only at s1
 have hg1:g1.get h.next=_:=(s1.get _ hlt (by simp)).trans hg
 have l0:ldS g1 (.ptr (some (h.next,0+0)))=some (.int .i64 a):=by rw [ldS_at hg1];rfl
 have l1:ldS g1 (.ptr (some (h.next,0+1)))=some (.int .i64 b):=by rw [ldS_at hg1];rfl
 have l2:ldS g1 (.ptr (some (h.next,0+2)))=some (.int .i64 c):=by rw [ldS_at hg1];rfl
 obtain⟨m1,m2,m3,m4,m5,m6⟩:=hm
 have hm':mayP a b c:=⟨m1,m2,m3,m4,m5,m6⟩
 have ca:cvI .u64 (.int .i64 a)=some (.int .u64 ((BitVec.ofNat 64 a.toNat).toNat:Int)):=by rw [cvI_int,wrap_u64 (by omega) (by omega),nat_bv _ (by omega)];congr 2;omega
 have cb:cvI .u64 (.int .i64 b)=some (.int .u64 ((BitVec.ofNat 64 b.toNat).toNat:Int)):=by rw [cvI_int,wrap_u64 (by omega) (by omega),nat_bv _ (by omega)];congr 2;omega
 have cc:cvI .u64 (.int .i64 c)=some (.int .u64 ((BitVec.ofNat 64 c.toNat).toNat:Int)):=by rw [cvI_int,wrap_u64 (by omega) (by omega),nat_bv _ (by omega)];congr 2;omega
 have w1:=with_1 (BitVec.ofNat 64 a.toNat) (BitVec.ofNat 64 b.toNat) g1 (by rw [nat_bv _ (by omega)];omega) (by rw [nat_bv _ (by omega)];omega)
 have w2:=with_2 (BitVec.ofNat 64 (a.toNat+b.toNat * 128)) (BitVec.ofNat 64 c.toNat) g1 (by rw [nat_bv _ (by omega)];omega) (by rw [nat_bv _ (by omega)];omega)
 rw [nat_bv (a.toNat+b.toNat * 128) (by omega)] at w2
 rw [nat_bv a.toNat (by omega),nat_bv b.toNat (by omega)] at w1
 rw [nat_bv a.toNat (by omega)] at ca
 rw [nat_bv b.toNat (by omega)] at cb
 rw [nat_bv c.toNat (by omega)] at cc w2
 have cd:cvI .i64 (.int .u64 ((a.toNat+b.toNat * 128+c.toNat * 1024:Nat):Int))=some (.int .i64 (a+128*b+1024*c)):=by
  rw [cvI_int,wrap_i64 (by omega) (by omega)];congr 2;omega
 exact ok_val (by simp -implicitDefEqProofs only [hm',decide_true,un_not,Bool.not_true,Option.bind_some,condE_false,faP_ptr,l0,l1,l2,ca,cb,cc,w1,w2,cl_some,cd]) ⟨rfl,(sm.trans s1)⟩
def unp (w:Int):Option (Int × Int × Int):=
 if (BitVec.ofInt 64 w).toNat / 67108864≠0∨¬ mayP (((BitVec.ofInt 64 w).toNat % 128:Nat):Int) (((BitVec.ofInt 64 w).toNat / 128 % 8:Nat):Int) (((BitVec.ofInt 64 w).toNat / 1024 % 65536:Nat):Int) then none
 else some ((((BitVec.ofInt 64 w).toNat % 128:Nat):Int),(((BitVec.ofInt 64 w).toNat / 128 % 8:Nat):Int),(((BitVec.ofInt 64 w).toNat / 1024 % 65536:Nat):Int))
theorem unp_may {w a b c:Int}(h:unp w=some (a,b,c)):mayP a b c:=by
 unfold unp at h
 split at h
 ·cases h
 ·rename_i hn
  injection h with h;injection h with h1 h2;injection h2 with h2 h3
  rw [← h1,← h2,← h3]
  exact Classical.not_not.1 fun hm=>hn (.inr hm)
theorem unp_pack {a b c:Int}(h:mayP a b c):unp (a+128*b+1024*c)=some (a,b,c):=by
 obtain⟨m1,m2,m3,m4,m5,m6⟩:=h
 have hm:mayP a b c:=⟨m1,m2,m3,m4,m5,m6⟩
 have e:(BitVec.ofInt 64 (a+128*b+1024*c)).toNat=(a+128*b+1024*c).toNat:=by
  rw [BitVec.toNat_ofInt];omega
 unfold unp
 rw [e]
 have e1:(((a+128*b+1024*c).toNat % 128:Nat):Int)=a:=by omega
 have e2:(((a+128*b+1024*c).toNat / 128 % 8:Nat):Int)=b:=by omega
 have e3:(((a+128*b+1024*c).toNat / 1024 % 65536:Nat):Int)=c:=by omega
 have e4:(a+128*b+1024*c).toNat / 67108864=0:=by omega
 rw [e1,e2,e3,e4,if_neg (fun h=>h.elim (fun h=>h rfl) (fun h=>h hm))]
def unpV (w:Int):AV:=match unp w with
 | some (a,b,c)=>.tup [.agg (hdC a b c),.int .i64 0]
 | none=>.tup [.agg (hdC 0 0 0),.int .i64 3]
theorem unpack_ok (w:Int)(h:Heap):Ok (Bg (.int .i64 w) h) fun r=>r.1=unpV w∧Same [] h r.2:=by
 have cv:cvI .u64 (.int .i64 w)=some (.int .u64 ((BitVec.ofInt 64 w).toNat:Int)):=by rw [cvI_int,wrap_mod]
 generalize hu:BitVec.ofInt 64 w=u at *
 have hlt:=u.isLt
 have ca:cvI .i64 (.int .u64 ((u.toNat % 128:Nat):Int))=some (.int .i64 ((u.toNat % 128:Nat):Int)):=by rw [cvI_int,wrap_i64 (by omega) (by omega)]
 have cb:cvI .i64 (.int .u64 ((u.toNat / 128 % 8:Nat):Int))=some (.int .i64 ((u.toNat / 128 % 8:Nat):Int)):=by rw [cvI_int,wrap_i64 (by omega) (by omega)]
 have cc:cvI .i64 (.int .u64 ((u.toNat / 1024 % 65536:Nat):Int))=some (.int .i64 ((u.toNat / 1024 % 65536:Nat):Int)):=by rw [cvI_int,wrap_i64 (by omega) (by omega)]
 have hunp:unp w=if u.toNat / 67108864≠0∨¬ mayP ((u.toNat % 128:Nat):Int) ((u.toNat / 128 % 8:Nat):Int) ((u.toNat / 1024 % 65536:Nat):Int) then none
   else some (((u.toNat % 128:Nat):Int),((u.toNat / 128 % 8:Nat):Int),((u.toNat / 1024 % 65536:Nat):Int)):=by unfold unp;rw [hu]
 have s26:=shr_n u 26
 have e26:((26:Nat):Int)=26:=rfl
 rw [e26] at s26
 have n26:(u >>> 26).toNat=u.toNat / 67108864:=by rw [BitVec.toNat_ushiftRight,Nat.shiftRight_eq_div_pow]
 rw [n26] at s26
 have f0:=fun h=>field_0 u h
 have f1:=fun h=>field_1 u h
 have f2:=fun h=>field_2 u h
 generalize u.toNat % 128=a at *
 generalize u.toNat / 128 % 8=b at *
 generalize u.toNat / 1024 % 65536=c at *
 have z3:([AV.int .i64 0,.int .i64 0,.int .i64 0]:List AV)=hdC 0 0 0:=rfl
 have bl:bldS [(0,1),(1,1),(2,1)] (hdC 0 0 0) [(0,AV.int .i64 (a:Int)),(1,.int .i64 (b:Int)),(2,.int .i64 (c:Int))]=some (.agg (hdC a b c)):=rfl
 have bz:bldS [(0,1),(1,1),(2,1)] (hdC 0 0 0) []=some (.agg (hdC 0 0 0)):=rfl
 have g0:=new_get h (.cells true (hdC 0 0 0))
 have s0:Same [] h (h.new (.cells true (hdC 0 0 0))):=Same.new _ _
 have l0:h.next<(h.new (.cells true (hdC 0 0 0))).next:=Nat.lt_succ_self _
 refine Ok.eq ?_ (by simp -implicitDefEqProofs only [Bg,z3,mk_some,cv,Option.bind_some,f0,f1,f2,cl_some,ca,cb,cc,bl];rfl)
 generalize h.new (.cells true (hdC 0 0 0))=G0 at *
 have g1':=stP_all (n:=3) (cs:=hdC a b c) (new_get G0 (.cells true (hdC 0 0 0))) rfl rfl rfl
 have s1:Same [] G0 ((G0.new (.cells true (hdC 0 0 0))).put G0.next (some (.cells true (hdC a b c)))):=⟨Nat.le_succ _,fun j hj _=>by rw [get_put_ne (by omega),get_new_ne (by omega)]⟩
 have l1:G0.next<((G0.new (.cells true (hdC 0 0 0))).put G0.next (some (.cells true (hdC a b c)))).next:=Nat.lt_succ_self _
 have p1:((G0.new (.cells true (hdC 0 0 0))).put G0.next (some (.cells true (hdC a b c)))).get G0.next=some (.cells true (hdC a b c)):=get_put_eq
 refine Ok.eq ?_ (by simp -implicitDefEqProofs only [g1',cl_some];rfl)
 generalize (G0.new (.cells true (hdC 0 0 0))).put G0.next (some (.cells true (hdC a b c)))=G1 at *
 have q1:G1.get h.next=some (.cells true (hdC 0 0 0)):=(s1.get _ l0 (by simp)).trans g0
 have stz:∀ {G:Heap},Same [] G1 G→G.get h.next=some (.cells true (hdC 0 0 0)):=fun s=>(s.get _ (Nat.lt_of_lt_of_le l0 s1.next) (by simp)).trans q1
 have fin:∀ {G:Heap} (x:List AV),Same [] G1 G→Same [] h (G.put h.next (some (.cells true x))):=fun x s=>
  ((s0.trans s1).trans s).old (Same.put _ _ _) (fun j hj=>by simp at hj;right;omega)
 by_cases hz:u.toNat / 67108864=0
 ·rw [hz] at s26
  have e00:((0:Nat):Int)=0:=rfl
  refine Ok.eq ?_ (by simp -implicitDefEqProofs only [s26,Option.bind_some,neq_int,e00,decide_true,Bool.not_true,gdW_ff,gQ_true,ldA_hd p1,cl_some];rfl)
  refine ok_cl (P:=fun r=>r.1 = .bool (decide (mayP (a:Int) b c))∧Same [] G1 r.2) ?_ ?_
  ·exact(ok_cl (may_ok a b c G1) (fun v g hv=>ok_val rfl hv))
  ·rintro _ G2 ⟨rfl,s2⟩
   simp only at s2
   have p2:G2.get G0.next=_:=(s2.get _ l1 (by simp)).trans p1
   by_cases hm:mayP (a:Int) b c
   ·have hv:unpV w = .tup [.agg (hdC a b c),.int .i64 0]:=by
     unfold unpV;rw [hunp,if_neg (fun h=>h.elim (fun h=>h hz) (fun h=>h hm))]
    have st:=stP_all (n:=3) (cs:=hdC a b c) (stz s2) rfl rfl rfl
    exact ok_val (by simp -implicitDefEqProofs only [hm,decide_true,un_not,Bool.not_true,Option.bind_some,gQ_true,cl_some,pickP_bool,Bool.false_eq_true,if_false,condE_false,ldA_hd p2,st,ldA_hd (get_put_eq (h:=G2))];rfl) ⟨hv.symm,fin _ s2⟩
   ·have hv:unpV w = .tup [.agg (hdC 0 0 0),.int .i64 3]:=by
     unfold unpV;rw [hunp,if_pos (.inr hm)]
    have st:=stP_all (n:=3) (cs:=hdC 0 0 0) (stz s2) rfl rfl rfl
    exact ok_val (by simp -implicitDefEqProofs only [hm,decide_false,un_not,Bool.not_false,Option.bind_some,gQ_true,cl_some,pickP_bool,Bool.false_eq_true,if_false,condE_true,bz,st,ldA_hd (get_put_eq (h:=G2))];rfl) ⟨hv.symm,fin _ s2⟩
 ·have hne : ¬ ((u.toNat / 67108864:Nat):Int)=0:=by omega
  have hv:unpV w = .tup [.agg (hdC 0 0 0),.int .i64 3]:=by
   unfold unpV;rw [hunp,if_pos (.inl hz)]
  have st:=stP_all (n:=3) (cs:=hdC 0 0 0) (stz (Same.refl _ _)) rfl rfl rfl
  exact ok_val (by simp -implicitDefEqProofs only [s26,Option.bind_some,neq_int,hne,decide_false,Bool.not_false,gdW_tf,gQ_false,pickP_bool,if_true,condE_true,bz,st,cl_some,ldA_hd (get_put_eq (h:=G1))];rfl) ⟨hv.symm,fin _ (Same.refl _ _)⟩
set_option linter.all false
attribute [local congr] c_bind c_cl c_mk c_lp c_clC c_gQ c_gV c_condE c_thenK
structure Shp where
 kind:Int
 fields:Int
 map:BitVec 64
deriving DecidableEq
def Shp.row (s:Shp):List AV:=[.int .i64 s.kind,.int .i64 s.fields,.int .u64 s.map.toNat]
def shC (l:List Shp):List AV:=(l.map Shp.row).flatten
theorem shC_app (a b:List Shp):shC (a++b)=shC a++shC b:=by simp [shC]
theorem shC_len (l:List Shp):(shC l).length=l.length * 3:=by
 induction l with
 | nil=>rfl
 | cons a l ih=>rw [show a::l = [a]++l from rfl,shC_app,List.length_append,ih];simp [shC,Shp.row];omega
theorem shC_at {l:List Shp}{i:Nat}{s:Shp}(h:l[i]?=some s):span (shC l) (i * 3) 3=some s.row:=by
 unfold shC
 exact span_flat (l:=l.map Shp.row) (fun r hr=>by rw [List.mem_map] at hr;obtain⟨x,_,rfl⟩:=hr;rfl) i s.row (by rw [List.getElem?_map,h]<;>rfl)
theorem ldA_row {h:Heap}{p:Nat}{w:Bool}{s:Shp}(hb:h.get p=some (.cells w s.row)):ldA 3 h (.ptr (some (p,0)))=some (.agg s.row):=ldA_all hb rfl
theorem same_row (s:Shp):same (.agg s.row) (.agg s.row)=true:=by simp [same,sameS,sameL,Shp.row]
def goodB (s:Shp):Bool:=
 if s.kind=0∨s.kind=2 then decide (0≤s.fields) && decide (s.fields≤63) && decide (s.map >>> s.fields.toNat=0)
 else if s.kind=1∨s.kind=3 then decide (s.fields=0) && decide (s.map.toNat≤1) else false
theorem good_ok (s:Shp)(h:Heap):Ok (B6 (.agg s.row) h) fun r=>r.1 = .bool (goodB s)∧Same [] h r.2:=by
 have bx:bxP (.agg s.row)=some (.cells true s.row,fun i=>.ptr (some (i,0))):=rfl
 have hg:=new_get h (.cells true s.row)
 have sm:Same [] h (h.new (.cells true s.row)):=Same.new _ _
 generalize hG:h.new (.cells true s.row)=g at *
 have l0:ldS g (.ptr (some (h.next,0+0)))=some (.int .i64 s.kind):=by rw [ldS_at hg];rfl
 have l1:ldS g (.ptr (some (h.next,0+1)))=some (.int .i64 s.fields):=by rw [ldS_at hg];rfl
 have l2:ldS g (.ptr (some (h.next,0+2)))=some (.int .u64 s.map.toNat):=by rw [ldS_at hg];rfl
 have j1:∀ (b:Bool) (q:AV),b=true→Ok (Ao (.ptr (some (h.next,0))) q (.bool b) g) fun r=>r.1 = .bool (decide (0≤s.fields) && decide (s.fields≤63) && decide (s.map >>> s.fields.toNat=0))∧Same [] h r.2:=by
  rintro b q rfl
  by_cases h1:0≤s.fields
  ·by_cases h2:s.fields≤63
   ·have c:cvI .u64 (.int .i64 s.fields)=some (.int .u64 ((s.fields.toNat:Nat):Int)):=by rw [cvI_int,wrap_u64 (by omega) (by omega)];congr 2;omega
    have e:decide (((s.map >>> s.fields.toNat).toNat:Int)=0)=decide (s.map >>> s.fields.toNat=0):=by
     apply decide_eq_decide.2
     exact toNat_zero _
    exact ok_val (by simp -implicitDefEqProofs only [Ao,condE_true,faP_ptr,Option.bind_some,l1,l2,bin_geq,bin_leq,h1,h2,decide_true,gdW_tt,gQ_true,cl_some,pickP_bool,if_true,c,shr_n,eql_int,e]<;>rfl) ⟨by simp [h1,h2],sm⟩
   ·exact ok_val (by simp -implicitDefEqProofs only [Ao,condE_true,faP_ptr,Option.bind_some,l1,l2,bin_geq,bin_leq,h1,h2,decide_true,decide_false,gdW_tt,gdW_ft,gQ_true,gQ_false,cl_some,pickP_bool,if_true,Bool.false_eq_true,if_false]<;>rfl) ⟨by simp [h1,h2],sm⟩
  ·exact ok_val (by simp -implicitDefEqProofs only [Ao,condE_true,faP_ptr,Option.bind_some,l1,l2,bin_geq,bin_leq,h1,decide_true,decide_false,gdW_tt,gdW_ft,gQ_true,gQ_false,cl_some,pickP_bool,if_true,Bool.false_eq_true,if_false]<;>rfl) ⟨by simp [h1],sm⟩
 have j0:∀ (b:Bool),b=true→Ok (Bn (.ptr (some (h.next,0))) (.bool b) g) fun r=>r.1 = .bool (decide (s.fields=0) && decide (s.map.toNat≤1))∧Same [] h r.2:=by
  rintro b rfl
  by_cases h1:s.fields=0
  ·have e:decide ((s.map.toNat:Int)≤1)=decide (s.map.toNat≤1):=by apply decide_eq_decide.2;omega
   exact ok_val (by simp -implicitDefEqProofs only [Bn,condE_true,faP_ptr,Option.bind_some,l1,l2,eql_int,bin_leq,h1,decide_true,gdW_tt,gQ_true,cl_some,pickP_bool,if_true,e]<;>rfl) ⟨by simp [h1],sm⟩
  ·exact ok_val (by simp -implicitDefEqProofs only [Bn,condE_true,faP_ptr,Option.bind_some,l1,l2,eql_int,h1,decide_false,gdW_ft,gQ_false,cl_some,pickP_bool,Bool.false_eq_true,if_false]<;>rfl) ⟨by simp [h1],sm⟩
 unfold goodB
 by_cases k0:s.kind=0
 ·rw [if_pos (.inl k0)]
  refine(j1 _ (.int .i64 s.kind) rfl).eq (by simp -implicitDefEqProofs only [B6,bx,mk_some,hG,faP_ptr,Option.bind_some,l0,eql_int,k0,decide_true,condE_true])
 ·by_cases k2:s.kind=2
  ·rw [if_pos (.inr k2)]
   refine(j1 _ (.int .i64 s.kind) rfl).eq (by simp -implicitDefEqProofs only [B6,bx,mk_some,hG,faP_ptr,Option.bind_some,l0,eql_int,k0,k2,decide_true,decide_false,condE_false]<;>rfl)
  ·rw [if_neg (fun h=>h.elim k0 k2)]
   have st:B6 (.agg s.row) h=Ao (.ptr (some (h.next,0))) (.int .i64 s.kind) (.bool false) g:=by
    simp -implicitDefEqProofs only [B6,bx,mk_some,hG,faP_ptr,Option.bind_some,l0,eql_int,k0,k2,decide_false,condE_false]
   by_cases k1:s.kind=1
   ·rw [if_pos (.inl k1)]
    exact(j0 _ rfl).eq (by rw [st];simp -implicitDefEqProofs only [Ao,condE_false,eql_int,k1,decide_true,Option.bind_some,condE_true])
   ·by_cases k3:s.kind=3
    ·rw [if_pos (.inr k3)]
     exact(j0 _ rfl).eq (by rw [st];simp -implicitDefEqProofs only [Ao,condE_false,eql_int,k1,k3,decide_true,decide_false,Option.bind_some]<;>rfl)
    ·rw [if_neg (fun h=>h.elim k1 k3)]
     exact ok_val (v:=.bool false) (g:=g) (by rw [st];simp -implicitDefEqProofs only [Ao,Bn,condE_false,eql_int,k1,k3,decide_false,Option.bind_some]) ⟨rfl,sm⟩
theorem and_one (b:BitVec 64):decide (((b &&& BitVec.ofInt 64 1).toNat:Int)=1)=b.getLsbD 0:=by
 have:=bit_is1 b 0
 rwa [BitVec.ushiftRight_zero] at this
def entS:Nat→List Shp→List (AV × AV)
 | _,[]=>[]
 | i,s::l=>(.agg s.row,.int .i64 (i:Nat))::entS (i+1) l
def keyL:List (Nat × TypeDesc):=[(0,(.int .i64)),(1,(.int .i64)),(2,(.int .u64))]
theorem eq_row (s t:Shp):eqSF keyL (.agg s.row) (.agg t.row)=some (decide (s=t)):=by
 obtain⟨a,b,c⟩:=s
 obtain⟨d,e,f⟩:=t
 by_cases h1:a=d
 ·by_cases h2:b=e
  ·by_cases h3:c=f
   ·subst h1;subst h2;subst h3
    simp [eqSF,eqD,eqFs,eqT,Shp.row,same,sameL,sameS,keyL]
   ·have : ¬ (c.toNat:Int)=f.toNat:=fun h=>h3 (BitVec.eq_of_toNat_eq (by omega))
    subst h1;subst h2
    simp [eqSF,eqD,eqFs,eqT,Shp.row,keyL,h3,this]
  ·subst h1
   simp [eqSF,eqD,eqFs,eqT,Shp.row,keyL,h2]
 ·simp [eqSF,eqD,eqFs,eqT,Shp.row,keyL,h1]
theorem key_row (s:Shp):keySF keyL (.agg s.row)=true:=by
 obtain⟨a,b,c⟩:=s
 rfl
theorem find_row {s:Shp}:∀ {l:List Shp} {i n:Nat},l.Nodup→l[n]?=some s→findG (eqSF keyL) (.agg s.row) (entS i l)=some (some (.int .i64 ((i+n:Nat):Int)))
 | [],i,n,_,h=>by simp at h
 | t::l,i,0,_,h=>by
  simp at h;subst h
  simp [entS,findG,eq_row]
 | t::l,i,n+1,nd,h=>by
  have hl:l[n]?=some s:=by simpa using h
  have hne : ¬ s=t:=fun e=>by
   rw [List.nodup_cons] at nd
   exact nd.1 (e ▸ List.mem_of_getElem? hl)
  have:=find_row (i:=i+1) (List.nodup_cons.1 nd).2 hl
  simp only [entS,findG,eq_row,hne,decide_false,Option.bind_some,Bool.false_eq_true,if_false,this]
  congr 3;omega
theorem find_no {s:Shp}:∀ {l:List Shp} {i:Nat},s∉l→findG (eqSF keyL) (.agg s.row) (entS i l)=some none
 | [],i,_=>rfl
 | t::l,i,h=>by
  have hne : ¬ s=t:=fun e=>h (e ▸ List.mem_cons_self ..)
  simp only [entS,findG,eq_row,hne,decide_false,Option.bind_some,Bool.false_eq_true,if_false,find_no (i:=i+1) (fun hm=>h (List.mem_cons_of_mem _ hm))]
theorem put_no {s:Shp}:∀ {l:List Shp} {i:Nat},s∉l→putG (eqSF keyL) (.agg s.row) (.int .i64 ((i+l.length:Nat):Int)) (entS i l)=some (entS i (l ++ [s]))
 | [],i,_=>rfl
 | t::l,i,h=>by
  have hne : ¬ s=t:=fun e=>h (e ▸ List.mem_cons_self ..)
  have:=put_no (i:=i+1) (fun hm=>h (List.mem_cons_of_mem _ hm):s∉l)
  rw [show i+1+l.length=i+(t::l).length by simp;omega] at this
  simp only [entS,putG,eq_row,hne,decide_false,Option.bind_some,Bool.false_eq_true,if_false,this,Option.map_some,List.cons_append]
structure TbAt (h:Heap)(tb nm:Nat)(b:Option Nat)(T:List Shp):Prop where
 tbl:∃ v,h.get tb=some (.cells true [v,.mp (some nm)])∧SlB h b 3 v (shC T) T.length
 nml:h.get nm=some (.mp (entS 0 T))
 l1:tb<h.next
 l2:nm<h.next
 ne:tb≠nm
 b1:b≠some tb
 b2:b≠some nm
 good:∀ s∈T,goodB s=true
 nd:T.Nodup
 len:T.length≤60000
theorem TbAt.same {h h':Heap}{tb nm:Nat}{b:Option Nat}{T:List Shp}{S:List Nat}(H:TbAt h tb nm b T)(s:Same S h h')(h1:tb∉S)(h2:nm∉S)(h3:∀ i,b=some i→i∉S):TbAt h' tb nm b T:=by
 obtain⟨v,hv,hs⟩:=H.tbl
 exact⟨⟨v,by rw [s.get _ H.l1 h1];exact hv,hs.same s h3⟩,by rw [s.get _ H.l2 h2];exact H.nml,Nat.lt_of_lt_of_le H.l1 s.next,Nat.lt_of_lt_of_le H.l2 s.next,H.ne,H.b1,H.b2,H.good,H.nd,H.len⟩
theorem number_at {h:Heap}{tb nm:Nat}{b:Option Nat}{T:List Shp}(H:TbAt h tb nm b T){s:Shp}{n:Nat}(hs:T[n]?=some s) :
  Ok (AX (.ptr (some (tb,0))) (.agg s.row) h) fun r=>r.1 = .tup [.int .i64 (n:Int),.int .i64 0]∧Same [] h r.2:=by
 have bx:bxP (.agg s.row)=some (.cells true s.row,fun i=>.ptr (some (i,0))):=rfl
 have hgt:=new_get h (.cells true s.row)
 have sm:Same [] h (h.new (.cells true s.row)):=Same.new _ _
 have hlt:h.next<(h.new (.cells true s.row)).next:=Nat.lt_succ_self _
 refine Ok.eq ?_ (by simp -implicitDefEqProofs only [AX,bx,mk_some,ldA_row hgt,Option.bind_some]<;>rfl)
 refine ok_cl (good_ok s _) ?_
 rintro _ g1 ⟨rfl,s1⟩
 simp only at s1
 have hg1:=(s1.get _ hlt (by simp)).trans hgt
 have H1:=H.same (sm.trans s1) (by simp) (by simp) (fun i _=>by simp)
 obtain⟨v,hv,hsl⟩:=H1.tbl
 have lt1:ldS g1 (.ptr (some (tb,0+1)))=some (.mp (some nm)):=by rw [ldS_at hv];rfl
 have lk:lkP (fdS keyL) (AV.int .i64 0) true g1 (.mp (some nm)) (.agg s.row)=some (.tup [.int .i64 (n:Int),.bool true]):=by
  simp only [lkP,H1.nml,fdS,key_row,if_true,find_row H1.nd hs,Option.bind_some,Nat.zero_add]
 have kl:([(0,(.int .i64)),(1,(.int .i64)),(2,(.int .u64))]:List (Nat × TypeDesc))=keyL:=rfl
 exact ok_val (by simp -implicitDefEqProofs only [H.good s (List.mem_of_getElem? hs),un_not,Bool.not_true,Option.bind_some,condE_false,nilV_ptr,faP_ptr,lt1,ldA_row hg1,kl,lk,extractV_tup,e0,e1,chk_nil,condE_true]<;>rfl) ⟨rfl,sm.trans s1⟩
theorem number_new {h:Heap}{tb nm:Nat}{b:Option Nat}{T:List Shp}(H:TbAt h tb nm b T){s:Shp}(hs:s∉T)(hgd:goodB s=true)(hlen:T.length < 60000) :
  Ok (AX (.ptr (some (tb,0))) (.agg s.row) h) fun r=>r.1 = .tup [.int .i64 (T.length:Int),.int .i64 0]∧Same (tb::nm::b.toList) h r.2∧∃ b',h.next≤b'∧TbAt r.2 tb nm (some b') (T ++ [s]):=by
 have bx:bxP (.agg s.row)=some (.cells true s.row,fun i=>.ptr (some (i,0))):=rfl
 have hgt:=new_get h (.cells true s.row)
 have sm:Same [] h (h.new (.cells true s.row)):=Same.new _ _
 have hlt:h.next<(h.new (.cells true s.row)).next:=Nat.lt_succ_self _
 refine Ok.eq ?_ (by simp -implicitDefEqProofs only [AX,bx,mk_some,ldA_row hgt,Option.bind_some]<;>rfl)
 refine ok_cl (good_ok s _) ?_
 rintro _ g1 ⟨rfl,s1⟩
 simp only at s1
 have hg1:=(s1.get _ hlt (by simp)).trans hgt
 have sm1:=sm.trans s1
 have H1:=H.same sm1 (by simp) (by simp) (fun i _=>by simp)
 have hl1:=H.l1
 have hl2:=H.l2
 obtain⟨v,hv,hsl⟩:=H1.tbl
 have lt1:ldS g1 (.ptr (some (tb,0+1)))=some (.mp (some nm)):=by rw [ldS_at hv];rfl
 have lt0:ldS g1 (.ptr (some (tb,0+0)))=some v:=by rw [ldS_at hv];rfl
 have lk:lkP (fdS keyL) (AV.int .i64 0) true g1 (.mp (some nm)) (.agg s.row)=some (.tup [.int .i64 0,.bool false]):=by
  simp only [lkP,H1.nml,fdS,key_row,if_true,find_no hs,Option.bind_some]
 have kl:([(0,(.int .i64)),(1,(.int .i64)),(2,(.int .u64))]:List (Nat × TypeDesc))=keyL:=rfl
 have n65 : ¬ (T.length:Int)=65536:=by omega
 have mu:muP (ptS keyL) g1 (.mp (some nm)) (.agg s.row) (.int .i64 (T.length:Int))=some (.bot,g1.put nm (some (.mp (entS 0 (T ++ [s]))))):=by
  have:=put_no (i:=0) hs
  rw [Nat.zero_add] at this
  simp only [muP,H1.nml,ptS,key_row,if_true,this,Option.map_some]
 have hn1:g1.next≤g1.next:=Nat.le_refl _
 have s2:Same [nm] g1 (g1.put nm (some (.mp (entS 0 (T ++ [s]))))):=Same.put _ _ _
 have hnx:(g1.put nm (some (.mp (entS 0 (T ++ [s]))))).next=g1.next:=rfl
 have hnm:(g1.put nm (some (.mp (entS 0 (T ++ [s]))))).get nm=some (.mp (entS 0 (T ++ [s]))):=get_put_eq
 have hlt1:h.next<g1.next:=Nat.lt_of_lt_of_le hlt s1.next
 refine Ok.eq ?_ (by simp -implicitDefEqProofs only [hgd,un_not,Bool.not_true,Option.bind_some,condE_false,nilV_ptr,faP_ptr,lt1,ldA_row hg1,kl,lk,extractV_tup,e0,e1,chk_nil,lt0,hsl.lnL,eql_int,n65,decide_false,mu,cl_some]<;>rfl)
 generalize g1.put nm (some (.mp (entS 0 (T ++ [s]))))=g2 at *
 have n3:(hpN g2 1).next=g2.next+1:=rfl
 have s3:Same [] g2 (hpN g2 1):=⟨Nat.le_succ _,fun _ _ _=>rfl⟩
 have v2:g2.get tb=some (.cells true [v,.mp (some nm)]):=(s2.get _ (by omega) (by simp [H.ne])).trans hv
 have lt0':ldS (hpN g2 1) (.ptr (some (tb,0+0)))=some v:=by rw [ldS_at (show(hpN g2 1).get tb=_ from v2)];rfl
 have hg2:(hpN g2 1).get h.next=some (.cells true s.row):=(s2.get _ hlt1 (by simp;omega)).trans hg1
 have bs1:bsP 3 [(AV.int .i64 0),(AV.int .i64 0),(AV.int .u64 0)] 1 [(0,.agg s.row)]=some (.cells true s.row,fun i=>.sl (some (i,0)) 1 (.ex 1)):=bsP_one (t:=.agg s.row) rfl rfl rfl
 have ma:mkAt Heap.put (bsP 3 [(AV.int .i64 0),(AV.int .i64 0),(AV.int .u64 0)] 1 [(0,.agg s.row)]) (g2.next+0) (hpN g2 1)=some (.sl (some (g2.next,0)) 1 (.ex 1),(hpN g2 1).put g2.next (some (.cells true s.row))):=by
  rw [bs1];rfl
 refine Ok.eq ?_ (by simp -implicitDefEqProofs only [lt0',ldA_row hg2,Option.bind_some,ma,cl_some]<;>rfl)
 have s4:Same [g2.next] (hpN g2 1) ((hpN g2 1).put g2.next (some (.cells true s.row))):=Same.put _ _ _
 have p4:((hpN g2 1).put g2.next (some (.cells true s.row))).get g2.next=some (.cells true s.row):=get_put_eq
 have n4:((hpN g2 1).put g2.next (some (.cells true s.row))).next=g2.next+1:=rfl
 generalize (hpN g2 1).put g2.next (some (.cells true s.row))=g3 at *
 have hs2:=((hsl.same s2 (fun i hi=>by simp;intro e;exact H.b2 (e ▸ hi))).same s3 (fun i _=>by simp)).same s4 (fun i hi=>by
  simp
  have:=(hsl.blk i hi).1
  omega)
 obtain⟨v',g4,ha,hs4,sb,n5⟩:=appAt (bytes:=24) hs2 p4 rfl rfl (by decide) (by omega)
 have v3:g3.get tb=some (.cells true [v,.mp (some nm)]):=(s4.get _ (by rw [n3];omega) (by simp;omega)).trans v2
 have v4:g4.get tb=some (.cells true [v,.mp (some nm)]):=(sb.get _ (by omega) (by
  cases b with
  | none=>simp
  | some i=>simp;intro e;exact H.b1 (e ▸ rfl))).trans v3
 have sc':scalar v'=true:=hs4.scv
 have st:stP 1 g4 (.ptr (some (tb,0+0))) v'=some (.bot,g4.put tb (some (.cells true [v',.mp (some nm)]))):=stP_one v4 (by simp) sc'
 have s5:Same [tb] g4 (g4.put tb (some (.cells true [v',.mp (some nm)]))):=Same.put _ _ _
 have p5:(g4.put tb (some (.cells true [v',.mp (some nm)]))).get tb=some (.cells true [v',.mp (some nm)]):=get_put_eq
 have n6:(g4.put tb (some (.cells true [v',.mp (some nm)]))).next=g4.next:=rfl
 refine Ok.eq ?_ (by simp -implicitDefEqProofs only [ha,cl_some,nilV_ptr,Option.bind_some,faP_ptr,st]<;>rfl)
 generalize g4.put tb (some (.cells true [v',.mp (some nm)]))=g5 at *
 have l5:ldS g5 (.ptr (some (tb,0+0)))=some v':=by rw [ldS_at p5];rfl
 have hs5:=hs4.same s5 (fun i hi=>by cases hi;simp;omega)
 have hw:IntKind.i64.wrap (((T.length+1:Nat):Int) - 1)=(T.length:Int):=by rw [wrap_i64 (by omega) (by omega)];omega
 have hbt:∀ x,x∈b.toList→x<h.next:=fun x hx=>by
  cases b with
  | none=>simp at hx
  | some i=>
   simp at hx;subst hx
   obtain⟨w,_,hw⟩:=H.tbl
   exact(hw.blk x rfl).1
 have hnb:nm∉b.toList:=by
  cases b with
  | none=>simp
  | some i=>simp;intro e;exact H.b2 (e ▸ rfl)
 refine ok_val (by simp -implicitDefEqProofs only [chk_nil,nilV_ptr,Option.bind_some,faP_ptr,l5,hs5.lnL,bin_sub,hw]<;>rfl) ⟨rfl,?_,g3.next,by omega,?_⟩
 ·refine⟨by show h.next≤g5.next;omega,fun j hj hn=>?_⟩
  simp only [List.mem_cons,not_or] at hn
  rw [s5.get _ (by omega) (by simp;exact hn.1),sb.get _ (by omega) hn.2.2,s4.get _ (by omega) (by simp;omega),s3.get _ (by omega) (by simp),s2.get _ (by omega) (by simp;exact hn.2.1),sm1.get _ hj (by simp)]
 ·refine⟨⟨v',p5,by rw [shC_app,show shC [s]=s.row by simp [shC],List.length_append];exact hs5⟩,?_,by show tb<g5.next;omega,by show nm<g5.next;omega,H.ne,?_,?_,?_,?_,by simp;omega⟩
  ·rw [s5.get _ (by omega) (by simp [H.ne.symm]),sb.get _ (by omega) hnb,s4.get _ (by omega) (by simp;omega),s3.get _ (by omega) (by simp)];exact hnm
  ·intro e;cases e;omega
  ·intro e;cases e;omega
  ·intro t ht
   rw [List.mem_append,List.mem_singleton] at ht
   rcases ht with ht | rfl
   ·exact H.good t ht
   ·exact hgd
  ·rw [List.nodup_append]
   exact⟨H.nd,by simp,fun a ha b hb e=>by simp at hb;subst hb;subst e;exact hs ha⟩
def shapeV (T:List Shp)(n:Int):AV:=if n < 0 then .tup [.agg (⟨0,0,0⟩:Shp).row,.int .i64 4] else match T[n.toNat]? with
 | some s=>.tup [.agg s.row,.int .i64 0]
 | none=>.tup [.agg (⟨0,0,0⟩:Shp).row,.int .i64 4]
theorem shape_ok {h:Heap}{tb nm:Nat}{b:Option Nat}{T:List Shp}(H:TbAt h tb nm b T)(n:Int) :
  Ok (AU (.ptr (some (tb,0))) (.int .i64 n) h) fun r=>r.1=shapeV T n∧Same [] h r.2:=by
 have z3:([AV.int .i64 0,.int .i64 0,.int .u64 0]:List AV)=(⟨0,0,0⟩:Shp).row:=rfl
 have bz:bldS [(0,1),(1,1),(2,1)] (⟨0,0,0⟩:Shp).row []=some (.agg (⟨0,0,0⟩:Shp).row):=rfl
 have g0:=new_get h (.cells true (⟨0,0,0⟩:Shp).row)
 have s0:Same [] h (h.new (.cells true (⟨0,0,0⟩:Shp).row)):=Same.new _ _
 have H0:=H.same s0 (by simp) (by simp) (fun i _=>by simp)
 obtain⟨v,hv,hsl⟩:=H0.tbl
 have fin:∀ (x:List AV),Same [] h ((h.new (.cells true (⟨0,0,0⟩:Shp).row)).put h.next (some (.cells true x))):=fun x=>s0.old (Same.put _ _ _) (fun j hj=>by simp at hj;right;omega)
 have st:∀ s:Shp,stP 3 (h.new (.cells true (⟨0,0,0⟩:Shp).row)) (.ptr (some (h.next,0))) (.agg s.row)=some (.bot,(h.new (.cells true (⟨0,0,0⟩:Shp).row)).put h.next (some (.cells true s.row))):=fun s=>stP_all g0 rfl rfl rfl
 have lt0:ldS (h.new (.cells true (⟨0,0,0⟩:Shp).row)) (.ptr (some (tb,0+0)))=some v:=by rw [ldS_at hv];rfl
 by_cases h1:n < 0
 ·have hsv:shapeV T n = .tup [.agg (⟨0,0,0⟩:Shp).row,.int .i64 4]:=by unfold shapeV;rw [if_pos h1]
  exact ok_val (by simp -implicitDefEqProofs only [AU,z3,mk_some,bin_lss,h1,decide_true,Option.bind_some,gdW_tf,gQ_false,pickP_bool,if_true,condE_true,bz,st,cl_some,ldA_row (get_put_eq (h:=h.new _))]<;>rfl) ⟨hsv.symm,fin _⟩
 ·by_cases h2:(T.length:Int)≤n
  ·have hsv:shapeV T n = .tup [.agg (⟨0,0,0⟩:Shp).row,.int .i64 4]:=by unfold shapeV;rw [if_neg h1,List.getElem?_eq_none (by omega)]
   exact ok_val (by simp -implicitDefEqProofs only [AU,z3,mk_some,bin_lss,h1,decide_false,Option.bind_some,gdW_ff,gQ_true,cl_some,nilV_ptr,faP_ptr,lt0,hsl.lnL,bin_geq,h2,decide_true,pickP_bool,Bool.false_eq_true,if_false,condE_true,bz,st,ldA_row (get_put_eq (h:=h.new _))]<;>rfl) ⟨hsv.symm,fin _⟩
  ·obtain⟨m,rfl⟩:∃ m:Nat,n=(m:Int):=⟨n.toNat,by omega⟩
   have hm:m<T.length:=by omega
   obtain⟨s,hs⟩:∃ s,T[m]?=some s:=⟨_,List.getElem?_eq_getElem hm⟩
   have hsv:shapeV T (m:Int) = .tup [.agg s.row,.int .i64 0]:=by unfold shapeV;rw [if_neg h1,Int.toNat_natCast,hs]
   obtain⟨j,hj,hix⟩:=hsl.ix hm
   have la:ldA 3 (h.new (.cells true (⟨0,0,0⟩:Shp).row)) (.ptr (some (j,m * 3)))=some (.agg s.row):=by
    rw [ldA_at (hsl.blk j hj).2.1,shC_at hs];rfl
   exact ok_val (by simp -implicitDefEqProofs only [AU,z3,mk_some,bin_lss,h1,decide_false,Option.bind_some,gdW_ff,gQ_true,cl_some,nilV_ptr,faP_ptr,lt0,hsl.lnL,bin_geq,h2,pickP_bool,Bool.false_eq_true,if_false,condE_false,hix,la,st,ldA_row (get_put_eq (h:=h.new _))]<;>rfl) ⟨hsv.symm,fin _⟩
set_option linter.all false
attribute [local congr] c_bind c_cl c_mk c_lp c_clC c_gQ c_gV c_condE c_thenK
structure HpAt (h:Heap)(A:Nat→Nat)(l:PAl)(T:List Shp)(F:Int):Prop where
 hpb:∃ v,h.get (A 0)=some (.cells true [.ptr (some (A 1,0)),v,.int .i64 F])∧SlB h (some (A 10)) 3 v (shC T) T.length
 cyb:∃ m bl d u,h.get (A 1)=some (.cells true [.ptr (some (A 6,0)),.ptr (some (A 2,0)),.ptr (some (A 4,0)),m,.int .i64 0,bl,d,u])
 tab:TbAt h (A 2) (A 3) (some (A 9)) T
 al:AlAt h (A 4) (A 5) (A 6) (A 7) (A 8) l
 fi:Fi l
 wf:Wf l.ar
 lt:∀ i,i < 11→A i<h.next
 pos:∀ i,i < 11→A i≠0
 inj:∀ i j,i < 11→j < 11→A i=A j→i=j
 t0:Tab0 h
section
variable {h:Heap}{A:Nat→Nat}{l:PAl}{T:List Shp}{F:Int}
theorem HpAt.ne (H:HpAt h A l T F)(i j:Nat)(hi:i < 11:=by decide)(hj:j < 11:=by decide)(hij:i≠j:=by decide):A i≠A j:=fun e=>hij (H.inj i j hi hj e)
theorem HpAt.mono {h' : Heap} {S : List Nat} (H : HpAt h A l T F) (s : Same S h h') (hS : ∀ i, i < 11 → A i ∉ S) (h0 : 0 ∉ S) : HpAt h' A l T F := by
  obtain ⟨v, hv, hs⟩ := H.hpb
  obtain ⟨m, bl, d, u, hc⟩ := H.cyb
  exact
  { hpb := ⟨v, by rw [s.get _ (H.lt 0 (by decide)) (hS 0 (by decide))]; exact hv, hs.same s (fun i hi => by cases hi; exact hS 10 (by decide))⟩
    cyb := ⟨m, bl, d, u, by rw [s.get _ (H.lt 1 (by decide)) (hS 1 (by decide))]; exact hc⟩
    tab := H.tab.same s (hS 2 (by decide)) (hS 3 (by decide)) (fun i hi => by cases hi; exact hS 9 (by decide))
    al := H.al.same s (hS 4 (by decide)) (hS 5 (by decide)) (hS 6 (by decide)) (hS 7 (by decide)) (hS 8 (by decide))
    fi := H.fi, wf := H.wf
    lt := fun i hi => Nat.lt_of_lt_of_le (H.lt i hi) s.next
    pos := H.pos, inj := H.inj, t0 := H.t0.same s h0 }
theorem HpAt.keep {h':Heap}(H:HpAt h A l T F)(s:Same [] h h'):HpAt h' A l T F:=H.mono s (fun _ _=>by simp) (by simp)
theorem HpAt.turn {h' : Heap} {l' : PAl} (H : HpAt h A l T F) (s : Same [A 5, A 7, A 8] h h') (a : AlAt h' (A 4) (A 5) (A 6) (A 7) (A 8) l') (f : Fi l') (w : Wf l'.ar) : HpAt h' A l' T F := by
  have hS : ∀ i, i < 11 → i ≠ 5 → i ≠ 7 → i ≠ 8 → A i ∉ [A 5, A 7, A 8] := fun i hi h5 h7 h8 hm => by
    simp only [List.mem_cons, List.not_mem_nil, or_false] at hm
    rcases hm with e | e | e
    · exact h5 (H.inj i 5 hi (by decide) e)
    · exact h7 (H.inj i 7 hi (by decide) e)
    · exact h8 (H.inj i 8 hi (by decide) e)
  obtain ⟨v, hv, hs⟩ := H.hpb
  obtain ⟨m, bl, d, u, hc⟩ := H.cyb
  exact
  { hpb := ⟨v, by rw [s.get _ (H.lt 0 (by decide)) (hS 0 (by decide) (by decide) (by decide) (by decide))]; exact hv, hs.same s (fun i hi => by cases hi; exact hS 10 (by decide) (by decide) (by decide) (by decide))⟩
    cyb := ⟨m, bl, d, u, by rw [s.get _ (H.lt 1 (by decide)) (hS 1 (by decide) (by decide) (by decide) (by decide))]; exact hc⟩
    tab := H.tab.same s (hS 2 (by decide) (by decide) (by decide) (by decide)) (hS 3 (by decide) (by decide) (by decide) (by decide)) (fun i hi => by cases hi; exact hS 9 (by decide) (by decide) (by decide) (by decide))
    al := a, fi := f, wf := w
    lt := fun i hi => Nat.lt_of_lt_of_le (H.lt i hi) s.next
    pos := H.pos, inj := H.inj
    t0 := H.t0.same s (by
      have h5 := H.pos 5 (by decide)
      have h7 := H.pos 7 (by decide)
      have h8 := H.pos 8 (by decide)
      simp; omega) }
theorem write_sp (a:PAr)(ad k v:Int):(a.write ad k v).2.sp=a.sp:=by
 unfold PAr.write;split<;>rfl
theorem write_wf {a:PAr}(H:Wf a)(ad k v:Int):Wf (a.write ad k v).2:=by
 unfold PAr.write
 split
 ·exact H
 ·exact⟨by simp only [List.length_set];exact H.len,H.hi,H.fi⟩
theorem HpAt.wrote {h':Heap}{ad k v:Int}(H:HpAt h A l T F)(s:Same [A 7] h h')(a:ArAt h' (A 6) (A 7) (A 8) (l.ar.write ad k v).2):HpAt h' A ⟨(l.ar.write ad k v).2,l.un⟩ T F:=by
 have e:=write_sp l.ar ad k v
 refine H.turn (s.sub (by simp)) (H.al.arena (s.sub (by simp)) a (by rw [e])) ⟨H.fi.un,?_,by rw [e];exact H.fi.len⟩ (write_wf H.wf ad k v)
 exact(write_wf H.wf ad k v).fi
theorem HpAt.ld0 (H:HpAt h A l T F):ldS h (.ptr (some (A 0,0)))=some (.ptr (some (A 1,0))):=by
 obtain⟨v,hv,_⟩:=H.hpb
 rw [ldS_at hv];rfl
theorem HpAt.c0 (H:HpAt h A l T F):ldS h (.ptr (some (A 1,0)))=some (.ptr (some (A 6,0))):=by
 obtain⟨m,bl,d,u,hc⟩:=H.cyb
 rw [ldS_at hc];rfl
theorem HpAt.c1 (H:HpAt h A l T F):ldS h (.ptr (some (A 1,1)))=some (.ptr (some (A 2,0))):=by
 obtain⟨m,bl,d,u,hc⟩:=H.cyb
 rw [ldS_at hc];rfl
theorem HpAt.c2 (H:HpAt h A l T F):ldS h (.ptr (some (A 1,2)))=some (.ptr (some (A 4,0))):=by
 obtain⟨m,bl,d,u,hc⟩:=H.cyb
 rw [ldS_at hc];rfl
theorem HpAt.c4 (H:HpAt h A l T F):ldS h (.ptr (some (A 1,4)))=some (.int .i64 0):=by
 obtain⟨m,bl,d,u,hc⟩:=H.cyb
 rw [ldS_at hc];rfl
theorem hcycle_eq (H:HpAt h A l T F):Aw (.ptr (some (A 0,0))) h=some (.ptr (some (A 1,0)),h):=by
 simp -implicitDefEqProofs only [Aw,nilV_ptr,Option.bind_some,faP_ptr,Nat.zero_add,H.ld0]
theorem carena_eq (H:HpAt h A l T F):AQ (.ptr (some (A 1,0))) h=some (.ptr (some (A 6,0)),h):=by
 simp -implicitDefEqProofs only [AQ,nilV_ptr,Option.bind_some,faP_ptr,Nat.zero_add,H.c0]
theorem ctable_eq (H:HpAt h A l T F):AG (.ptr (some (A 1,0))) h=some (.ptr (some (A 2,0)),h):=by
 simp -implicitDefEqProofs only [AG,nilV_ptr,Option.bind_some,faP_ptr,Nat.zero_add,H.c1]
theorem shades_eq (H:HpAt h A l T F):Aa (.ptr (some (A 1,0))) h=some (.bool false,h):=by
 have z1:decide ((0:Int)=1)=false:=rfl
 have z2:decide ((0:Int)=2)=false:=rfl
 simp -implicitDefEqProofs only [Aa,nilV_ptr,Option.bind_some,faP_ptr,Nat.zero_add,H.c4,eql_int,z1,z2,gdW_ff,gQ_true,cl_some,pickP_bool,Bool.false_eq_true,if_false]
theorem barrier_eq (H:HpAt h A l T F)(x y z:AV):A0 (.ptr (some (A 1,0))) x y z h=some (.tup [],h):=by
 simp -implicitDefEqProofs only [A0,shades_eq H,cl_some,un_not,Bool.not_false,Option.bind_some,condE_true]
structure Made (l l':PAl)(ad:Int)(ws:List Int):Prop where
 new:l.ar.find ad=none
 lo:64≤ad
 hi:ad < 32768
 lies:Lies l'.ar ad ws
 find:∀ ad',ad'≠ad→l'.ar.find ad'=l.ar.find ad'
 old:∀ ad' ws',ad'≠ad→Lies l.ar ad' ws'→Lies l'.ar ad' ws'
 used:l'.ar.used≤l.ar.used+1
 len:l'.ar.sp.length=l.ar.sp.length
theorem class_some {n:Int}(h1:1≤n)(h2:n≤64):classOf n≠-1∧n≤wordsOf (classOf n):=by
 have:classOf n≠-1:=by
  unfold classOf
  rw [if_neg (by omega)]
  repeat (first | (split;· omega))
  omega
 refine⟨this,?_⟩
 rcases classOf_range n with h | h
 ·exact absurd h this
 ·exact h.2.2.1
theorem rowIx {v:AV}{b:Nat}(hs:SlB h (some b) 3 v (shC T) T.length){sx:Nat}{s:Shp}(hx:T[sx]?=some s):iaS 3 v (.int .i64 (sx:Int))=some (.ptr (some (b,sx * 3)))∧ldA 3 h (.ptr (some (b,sx * 3)))=some (.agg s.row):=by
 obtain⟨j,hj,hix⟩:=hs.ix (List.getElem?_eq_some_iff.1 hx).1
 cases hj
 exact⟨hix _,by rw [ldA_at (hs.blk b rfl).2.1,shC_at hx];rfl⟩
theorem good_kind {s:Shp}(h:goodB s=true):0≤s.kind∧s.kind≤3:=by
 unfold goodB at h
 split at h
 ·omega
 ·split at h
  ·omega
  ·cases h
theorem make_ok (H:HpAt h A l T F){sx:Nat}{s:Shp}(hx:T[sx]?=some s){n:Int}(h1:1≤n)(h2:n≤64)(hu:l.ar.used+1<l.ar.sp.length)(r:AV) :
  Ok (Bk (.ptr (some (A 0,0))) (.int .i64 sx) (.int .i64 n) r h) fun r=>∃ ad l',r.1 = .tup [.int .i64 ad,.int .i64 0]∧HpAt r.2 A l' T F∧Same [A 5,A 7,A 8] h r.2∧
   Made l l' ad ((n+128*s.kind+1024*sx)::List.replicate ((wordsOf (classOf n)).toNat - 1) 0):=by
 obtain⟨v,hv,hs⟩:=H.hpb
 have hlen:=(List.getElem?_eq_some_iff.1 hx).1
 have b1 : ¬ (sx:Int) < 0:=by omega
 have b2 : ¬ (T.length:Int)≤sx:=by omega
 have b3 : ¬ n < 1:=by omega
 have b4 : ¬ 64<n:=by omega
 have lv:ldS h (.ptr (some (A 0,1)))=some v:=by rw [ldS_at hv];rfl
 obtain⟨ix,la⟩:=rowIx hs hx
 have zr:([AV.int .i64 0,.int .i64 0,.int .u64 0]:List AV)=(⟨0,0,0⟩:Shp).row:=rfl
 refine Ok.eq ?_ (by simp -implicitDefEqProofs only [Bk,bin_lss,b1,b3,decide_false,Option.bind_some,gdW_ff,gQ_true,cl_some,nilV_ptr,faP_ptr,Nat.zero_add,lv,hs.lnL,bin_geq,b2,pickP_bool,Bool.false_eq_true,if_false,bin_gtr,b4,condE_false,ix,la,zr]<;>rfl)
 refine ok_tmp (z:=(⟨0,0,0⟩:Shp).row) (cs:=s.row) (n:=3) rfl rfl rfl fun g1 s1 n1 p1=>?_
 have H1:=H.keep s1
 refine Ok.eq ?_ (by simp -implicitDefEqProofs only [nilV_ptr,faP_ptr,Nat.zero_add,Option.bind_some,H1.ld0,BO,H1.c2]<;>rfl)
 have hcl:=class_some h1 h2
 have tk:=atake_ok H1.al H1.t0 (H1.pos 8 (by decide)) (H1.pos 5 (by decide)) (H1.pos 7 (by decide)) n
 obtain⟨ad,l',e,f',w',fn,lo,hi,li,_,st,us,ul⟩:=atake_lies H.fi H.wf (n:=n) hcl.1 (room_used H.fi hu)
 rw [e] at tk
 refine ok_cl (P:=fun r=>r.1 = .tup [.int .i64 ad,.int .i64 0]∧HpAt r.2 A l' T F∧Same [A 5,A 7,A 8] g1 r.2) ?_ ?_
 ·refine ok_cl tk ?_
  rintro _ g2 ⟨rfl,a2,s2⟩
  simp only at a2 s2
  have H2:=H1.turn (s2.sub (by simp)) a2 f' w'
  have z0:decide ((0:Int)=0)=true:=rfl
  exact ok_val (by simp -implicitDefEqProofs only [extractV_tup,e0,e1,Option.bind_some,eql_int,decide_true,gdW_tt,gQ_true,cl_some,shades_eq H2,pickP_bool,if_true,condE_false]<;>rfl) ⟨rfl,H2,s2.sub (by simp)⟩
 rintro _ g2 ⟨rfl,H2,s2⟩
 simp only at H2 s2
 have hA:∀ i,i < 11→A i<h.next:=H.lt
 have p2:g2.get h.next=some (.cells true s.row):=(s2.get _ (by omega) (by
  have h5:=hA 5 (by decide)
  have h7:=hA 7 (by decide)
  have h8:=hA 8 (by decide)
  simp;omega)).trans p1
 have z5:decide ((0:Int)=5)=false:=rfl
 have z0:decide ((0:Int)=0)=true:=rfl
 refine Ok.eq ?_ (by simp -implicitDefEqProofs only [extractV_tup,e0,e1,Option.bind_some,eql_int,z5,condE_false,CK,neq_int,decide_true,Bool.not_true,nilV_ptr,faP_ptr,Nat.zero_add,H2.ld0,ctable_eq H2,cl_some,rdC,ldA_row p2,clC_some]<;>rfl)
 refine ok_cl (number_at H2.tab hx) ?_
 rintro _ g3 ⟨rfl,s3⟩
 simp only at s3
 have H3:=H2.keep s3
 have p3:=(s3.get _ (Nat.lt_of_lt_of_le (by omega) s2.next) (by simp)).trans p2
 have lk:ldS g3 (.ptr (some (h.next,0)))=some (.int .i64 s.kind):=by rw [ldS_at p3];rfl
 have hgd:=good_kind (H.tab.good s (List.mem_of_getElem? hx))
 have hTl:=H.tab.len
 have z3:bldS [(0,1),(1,1),(2,1)] [(AV.int .i64 0),(AV.int .i64 0),(AV.int .i64 0)] [(0,.int .i64 n),(1,.int .i64 s.kind),(2,.int .i64 (sx:Int))]=some (.agg (hdC n s.kind sx)):=rfl
 refine Ok.eq ?_ (by simp -implicitDefEqProofs only [extractV_tup,e0,e1,Option.bind_some,chk_two (f:=fun g=>ldA 3 g (.ptr (some (h.next,0)))) (same_row s) (ldA_row p2) (ldA_row p2),faP_ptr,Nat.zero_add,lk,z3]<;>rfl)
 refine ok_cl (pack_ok n s.kind sx g3 ⟨h1,h2,hgd.1,hgd.2,by omega,by omega⟩) ?_
 rintro _ g4 ⟨rfl,s4⟩
 simp only at s4
 have H4:=H3.keep s4
 refine Ok.eq ?_ (by simp -implicitDefEqProofs only [extractV_tup,e0,e1,Option.bind_some,neq_int,decide_true,Bool.not_true,condE_false,nilV_ptr,faP_ptr,Nat.zero_add,H4.ld0,carena_eq H4,cl_some]<;>rfl)
 have hws:(1:Int)≤wordsOf (classOf n):=by omega
 have hll:(List.replicate (wordsOf (classOf n)).toNat (0:Int)).length=(wordsOf (classOf n)).toNat:=List.length_replicate ..
 obtain⟨b,eb,wb,bs,lb,lo'⟩:=li.write w' (k:=0) (by rw [hll];omega) (n+128*s.kind+1024*sx)
 have wr:=write_ok H4.al.ar ad 0 (n+128*s.kind+1024*sx)
 refine ok_cl wr ?_
 rintro _ g5 ⟨rfl,a5,s5⟩
 simp only at a5 s5
 have H5:=H4.wrote s5 a5
 rw [eb] at H5
 refine ok_val (by rfl) ⟨ad,⟨b,l'.un⟩,rfl,H5,?_,fn,lo,hi,?_,fun x hx=>?_,fun x ws hx L=>lo' x ws hx (st.lies x ws L),?_,?_⟩
 ·exact((((s1.sub (by simp)).trans s2).trans (s3.sub (by simp))).trans (s4.sub (by simp))).trans (s5.sub (by simp))
 ·have:(List.replicate (wordsOf (classOf n)).toNat (0:Int)).set (0:Int).toNat (n+128*s.kind+1024*sx)=(n+128*s.kind+1024*sx)::List.replicate ((wordsOf (classOf n)).toNat - 1) 0:=by
   obtain⟨m,hm⟩:∃ m,(wordsOf (classOf n)).toNat=m+1:=⟨(wordsOf (classOf n)).toNat - 1,by omega⟩
   rw [hm,List.replicate_succ];rfl
  rw [← this];exact lb
 ·rw [find_sp bs];exact st.find x hx
 ·rw [used_same (fun m=>cls_sp bs m) (by rw [bs])];exact us
 ·show b.sp.length=_
  rw [bs];exact st.len
end
set_option linter.all false
attribute [local congr] c_bind c_cl c_mk c_lp c_clC c_gQ c_gV c_condE c_thenK
def shpZ:Shp:=⟨0,0,0⟩
def ofP (a:PAr)(T:List Shp)(ad:Int):Option ((Int × Int × Int) × Shp):=
 if (a.read ad 0).2=0 then
  match unp (a.read ad 0).1 with
  | some x=>match T[x.2.2.toNat]? with
   | some s=>some (x,s)
   | none=>none
  | none=>none
 else none
def ofV:Option ((Int × Int × Int) × Shp)→AV
 | some (x,s)=>.tup [.agg (hdC x.1 x.2.1 x.2.2),.agg s.row,.bool true]
 | none=>.tup [.agg (hdC 0 0 0),.agg shpZ.row,.bool false]
section
variable {h:Heap}{A:Nat→Nat}{l:PAl}{T:List Shp}{F:Int}
theorem of_end {g:Heap}{p q:Nat}{u v:List AV}{x y:List AV}(hp:g.get p=some (.cells true u))(hq:g.get q=some (.cells true v))(hpq:p≠q)(lu:u.length=3)(lv:v.length=3)(lx:x.length=3)(ly:y.length=3)(sx:x.all scalar=true)(sy:y.all scalar=true) :
  ∃ g1 g2,stP 3 g (.ptr (some (p,0))) (.agg x)=some (.bot,g1)∧stP 3 g1 (.ptr (some (q,0))) (.agg y)=some (.bot,g2)∧ldA 3 g2 (.ptr (some (p,0)))=some (.agg x)∧ldA 3 g2 (.ptr (some (q,0)))=some (.agg y)∧
   Same [p,q] g g2∧Same [p,q] g g1∧g1.get q=some (.cells true v)∧g1.next=g.next:=by
 refine⟨g.put p (some (.cells true x)),(g.put p (some (.cells true x))).put q (some (.cells true y)),stP_all hp lu lx sx,stP_all (by rw [get_put_ne (Ne.symm hpq)];exact hq) lv ly sy,?_,?_,?_,?_,?_,rfl⟩
 ·exact ldA_all (by rw [get_put_ne hpq];exact get_put_eq) lx
 ·exact ldA_all get_put_eq ly
 ·exact((Same.put _ _ _).sub (by simp)).trans ((Same.put _ _ _).sub (by simp))
 ·exact(Same.put _ _ _).sub (by simp)
 ·rw [get_put_ne (Ne.symm hpq)];exact hq
theorem of_ok (H:HpAt h A l T F)(ad:Int):Ok (Bo (.ptr (some (A 0,0))) (.int .i64 ad) h) fun r=>r.1=ofV (ofP l.ar T ad)∧Same [] h r.2:=by
 have zh:([AV.int .i64 0,.int .i64 0,.int .i64 0]:List AV)=hdC 0 0 0:=rfl
 have zr:([AV.int .i64 0,.int .i64 0,.int .u64 0]:List AV)=shpZ.row:=rfl
 have b1:bldS [(0,1),(1,1),(2,1)] (hdC 0 0 0) []=some (.agg (hdC 0 0 0)):=rfl
 have b2:bldS [(0,1),(1,1),(2,1)] shpZ.row []=some (.agg shpZ.row):=rfl
 have sa:Same [] h (h.new (.cells true (hdC 0 0 0))):=Same.new _ _
 have sb:Same [] (h.new (.cells true (hdC 0 0 0))) ((h.new (.cells true (hdC 0 0 0))).new (.cells true shpZ.row)):=Same.new _ _
 have p4:((h.new (.cells true (hdC 0 0 0))).new (.cells true shpZ.row)).get h.next=some (.cells true (hdC 0 0 0)):=by rw [get_new_ne (by rw [Heap.next_new];omega)];exact get_new_eq
 have p5:((h.new (.cells true (hdC 0 0 0))).new (.cells true shpZ.row)).get (h.next+1)=some (.cells true shpZ.row):=get_new_eq (h:=h.new (.cells true (hdC 0 0 0)))
 have nn:((h.new (.cells true (hdC 0 0 0))).new (.cells true shpZ.row)).next=h.next+2:=rfl
 have nm:(h.new (.cells true (hdC 0 0 0))).next=h.next+1:=rfl
 have s1:=sa.trans sb
 refine Ok.eq ?_ (by simp -implicitDefEqProofs only [Bo,zh,zr,mk_some,nm,nilV_ptr,Option.bind_some,faP_ptr,Nat.zero_add]<;>rfl)
 generalize (h.new (.cells true (hdC 0 0 0))).new (.cells true shpZ.row)=g1 at *
 clear sa sb nm
 have H1:=H.keep s1
 have hr:∀ {g:Heap} {S:List Nat},Same S g1 g→(∀ j∈S,j=h.next∨j=h.next+1)→Same [] h g:=fun s hS=>s1.old s (fun j hj=>.inr (by rcases hS j hj with e | e<;>omega))
 have rd:=read_eq H1.al.ar ad 0
 have no:∀ {g:Heap},Same [] g1 g→∃ ga gb,stP 3 g (.ptr (some (h.next,0))) (.agg (hdC 0 0 0))=some (.bot,ga)∧stP 3 ga (.ptr (some (h.next+1,0))) (.agg shpZ.row)=some (.bot,gb)∧ldA 3 gb (.ptr (some (h.next,0)))=some (.agg (hdC 0 0 0))∧ldA 3 gb (.ptr (some (h.next+1,0)))=some (.agg shpZ.row)∧Same [] h gb:=fun {g} s=>by
  obtain⟨ga,gb,q1,q2,q3,q4,q5,_⟩:=of_end (x:=hdC 0 0 0) (y:=shpZ.row) ((s.get _ (by omega) (by simp)).trans p4) ((s.get _ (by omega) (by simp)).trans p5) (by omega) rfl rfl rfl rfl rfl rfl
  exact⟨ga,gb,q1,q2,q3,q4,hr ((s.sub (by simp)).trans q5) (by simp)⟩
 by_cases he:(l.ar.read ad 0).2=0
 ·have hof:ofP l.ar T ad=match unp (l.ar.read ad 0).1 with
   | some x=>match T[x.2.2.toNat]? with
    | some s=>some (x,s)
    | none=>none
   | none=>none:=by unfold ofP;rw [if_pos he]
  rw [hof]
  rw [he] at rd
  refine Ok.eq ?_ (by simp -implicitDefEqProofs only [H1.ld0,Option.bind_some,carena_eq H1,cl_some,rd,extractV_tup,e0,e1,neq_int,decide_true,Bool.not_true,condE_false]<;>rfl)
  refine ok_cl (unpack_ok (l.ar.read ad 0).1 g1) ?_
  rintro _ g2 ⟨rfl,s2⟩
  simp only at s2
  cases hun:unp (l.ar.read ad 0).1 with
  | none=>
   have hv:unpV (l.ar.read ad 0).1 = .tup [.agg (hdC 0 0 0),.int .i64 3]:=by unfold unpV;rw [hun]
   rw [hv]
   refine Ok.eq ?_ (by simp -implicitDefEqProofs only [extractV_tup,e0,e1,Option.bind_some]<;>rfl)
   refine ok_tmp2 (z:=hdC 0 0 0) (cs:=hdC 0 0 0) (n:=3) rfl rfl rfl fun _ g3 s3 n3 p3=>?_
   obtain⟨ga,gb,q1,q2,q3,q4,q5⟩:=no (s2.trans s3)
   have z3:decide ((3:Int)=0)=false:=rfl
   exact ok_val (by simp -implicitDefEqProofs only [neq_int,z3,Bool.not_false,Option.bind_some,condE_true,b1,b2,q1,q2,q3,q4,cl_some]<;>rfl) ⟨rfl,q5⟩
  | some x=>
   obtain⟨a,b,c⟩:=x
   have hm:=unp_may hun
   have hv:unpV (l.ar.read ad 0).1 = .tup [.agg (hdC a b c),.int .i64 0]:=by unfold unpV;rw [hun]
   rw [hv]
   refine Ok.eq ?_ (by simp -implicitDefEqProofs only [extractV_tup,e0,e1,Option.bind_some]<;>rfl)
   refine ok_tmp2 (z:=hdC 0 0 0) (cs:=hdC a b c) (n:=3) rfl rfl rfl fun _ g3 s3 n3 p3=>?_
   have s13:=s2.trans s3
   have H3:=H1.keep s13
   have s3':Same [] g3 (hpN g3 1):=⟨Nat.le_succ _,fun _ _ _=>rfl⟩
   have H3':=H3.keep s3'
   have lc:ldS (hpN g3 1) (.ptr (some (g2.next,2)))=some (.int .i64 c):=by rw [ldS_at (show(hpN g3 1).get g2.next=_ from p3)];rfl
   refine Ok.eq ?_ (by simp -implicitDefEqProofs only [neq_int,decide_true,Bool.not_true,Option.bind_some,condE_false,nilV_ptr,faP_ptr,Nat.zero_add,H3'.ld0,ctable_eq H3',cl_some,rdC,lc,clC_some]<;>rfl)
   refine ok_cl (shape_ok H3'.tab c) ?_
   rintro _ g4 ⟨rfl,s4⟩
   simp only at s4
   have hc0 : ¬ c < 0:=by have:=hm.2.2.2.2.1;omega
   have n4:g3.next<g4.next:=Nat.lt_of_lt_of_le (Nat.lt_succ_self _) s4.next
   have ck:∀ {R:Type} (hs:List Heap) (y:Option R),chk (hpN g3 1::hpN g3 1::hs) [((fun g=>ldS g (.ptr (some (g2.next,2)))),.int .i64 c,0,1)] y=y:=fun hs y=>chk_two (same_int _ _) lc lc
   have ma:mkAt Heap.put (some (Blk.cells true shpZ.row,fun i=>AV.ptr (some (i,0)))) (g3.next+0) g4=some (.ptr (some (g3.next,0)),g4.put g3.next (some (.cells true shpZ.row))):=rfl
   have sf:∀ (z:List AV),Same [] g3 (g4.put g3.next (some (.cells true z))):=fun z=>(s3'.trans s4).old (Same.put _ _ _) (fun j hj=>by simp at hj;right;omega)
   have sput:∀ (y z:List AV),Same [g3.next] (g4.put g3.next (some (.cells true y))) ((g4.put g3.next (some (.cells true y))).put g3.next (some (.cells true z))):=fun y z=>Same.put _ _ _
   have stT:∀ (s:Shp),stP 3 (g4.put g3.next (some (.cells true shpZ.row))) (.ptr (some (g3.next,0))) (.agg s.row)=some (.bot,(g4.put g3.next (some (.cells true shpZ.row))).put g3.next (some (.cells true s.row))):=fun s=>stP_all get_put_eq rfl rfl rfl
   have s35:∀ (s:Shp),Same [] g3 ((g4.put g3.next (some (.cells true shpZ.row))).put g3.next (some (.cells true s.row))):=fun s=>(sf shpZ.row).old (sput _ _) (fun j hj=>by simp at hj;right;omega)
   have p35:∀ (s:Shp),((g4.put g3.next (some (.cells true shpZ.row))).put g3.next (some (.cells true s.row))).get g3.next=some (.cells true s.row):=fun s=>get_put_eq
   have n35:∀ (s:Shp),((g4.put g3.next (some (.cells true shpZ.row))).put g3.next (some (.cells true s.row))).next=g4.next:=fun s=>rfl
   cases hT:T[c.toNat]? with
   | none=>
    have hsv:shapeV T c = .tup [.agg shpZ.row,.int .i64 4]:=by unfold shapeV;rw [if_neg hc0,hT];rfl
    rw [hsv]
    obtain⟨ga,gb,q1,q2,q3,q4,q5⟩:=no (s13.trans (s35 shpZ))
    have z4:decide ((4:Int)=0)=false:=rfl
    have hx:(match some (a,b,c) with
     | some x=>match T[x.2.2.toNat]? with
      | some s=>some (x,s)
      | none=>none
     | none=>(none:Option ((Int × Int × Int) × Shp)))=none:=by simp only [hT]
    exact ok_val (by simp -implicitDefEqProofs only [extractV_tup,e0,e1,Option.bind_some,ma,stT,ck,cl_some,neq_int,z4,Bool.not_false,condE_true,b1,b2,q1,q2,q3,q4]<;>rfl) ⟨by rw [hx];rfl,q5⟩
   | some s=>
    have hsv:shapeV T c = .tup [.agg s.row,.int .i64 0]:=by unfold shapeV;rw [if_neg hc0,hT]
    rw [hsv]
    have hx:(match some (a,b,c) with
     | some x=>match T[x.2.2.toNat]? with
      | some s=>some (x,s)
      | none=>none
     | none=>(none:Option ((Int × Int × Int) × Shp)))=some ((a,b,c),s):=by simp only [hT]
    rw [hx]
    refine Ok.eq ?_ (by simp -implicitDefEqProofs only [extractV_tup,e0,e1,Option.bind_some,ma,stT,ck,cl_some,neq_int,decide_true,Bool.not_true,condE_false]<;>rfl)
    have s5:=s35 s
    have p5':=p35 s
    have n5:=n35 s
    generalize (g4.put g3.next (some (.cells true shpZ.row))).put g3.next (some (.cells true s.row))=g5 at *
    have sg:=s13.trans s5
    have hle:=s13.next
    have hlt:=s2.next
    have p9:g5.get g2.next=some (.cells true (hdC a b c)):=(s5.get _ (by omega) (by simp)).trans p3
    obtain⟨ga,gb,q1,q2,q3,q4,q5,q6,q7,q8⟩:=of_end (x:=hdC a b c) (y:=s.row) ((sg.get _ (by omega) (by simp)).trans p4) ((sg.get _ (by omega) (by simp)).trans p5) (by omega) rfl rfl rfl rfl rfl rfl
    have pa:ga.get g3.next=some (.cells true s.row):=(q6.get _ (by omega) (by simp;omega)).trans p5'
    exact ok_val (by simp -implicitDefEqProofs only [ldA_hd p9,ldA_row p5',Option.bind_some,rdC,clC_some,q1,q2,cl_some,chk_two (f:=fun g=>ldA 3 g (.ptr (some (g3.next,0)))) (same_row s) (ldA_row p5') (ldA_row pa),q3,q4]<;>rfl) ⟨rfl,hr ((sg.sub (by simp)).trans q5) (by simp)⟩
 ·have hof:ofP l.ar T ad=none:=by unfold ofP;rw [if_neg he]
  rw [hof]
  obtain⟨ga,gb,q1,q2,q3,q4,q5⟩:=no (Same.refl [] g1)
  exact ok_val (by simp -implicitDefEqProofs only [H1.ld0,Option.bind_some,carena_eq H1,cl_some,rd,extractV_tup,e0,e1,neq_int,he,decide_false,Bool.not_false,condE_true,b1,b2,q1,q2,q3,q4]<;>rfl) ⟨rfl,q5⟩
end
set_option linter.all false
attribute [local congr] c_bind c_cl c_mk c_lp c_clC c_gQ c_gV c_condE c_thenK
theorem ok_two {R:Type}{h:Heap}{z1 z2 c1 c2:List AV}{n:Nat}(h1:z1.length=n)(h2:z2.length=n)(h3:c1.length=n)(h4:c2.length=n)(t1:c1.all scalar=true)(t2:c2.all scalar=true){K:AV→AV→Heap→Option R}{Q:R→Prop}
  (hk:∀ g,Same [] h g→g.next=h.next+2→g.get h.next=some (.cells true c1)→g.get (h.next+1)=some (.cells true c2)→Ok (K (.ptr (some (h.next,0))) (.ptr (some (h.next+1,0))) g) Q) :
  Ok (mk Heap.new (some (Blk.cells true z1,fun i=>AV.ptr (some (i,0)))) h fun t ha=>mk Heap.new (some (Blk.cells true z2,fun i=>AV.ptr (some (i,0)))) ha fun u hb=>
   cl (stP n hb t (.agg c1)) fun _ hc=>cl (stP n hc u (.agg c2)) fun _ hd=>K t u hd) Q:=by
 rw [mk_some,mk_some]
 have p4:((h.new (.cells true z1)).new (.cells true z2)).get h.next=some (.cells true z1):=by rw [get_new_ne (by rw [Heap.next_new];omega)];exact get_new_eq
 have p5:((h.new (.cells true z1)).new (.cells true z2)).get (h.next+1)=some (.cells true z2):=get_new_eq (h:=h.new (.cells true z1))
 have nm:(h.new (.cells true z1)).next=h.next+1:=rfl
 rw [nm,stP_all p4 h1 h3 t1,cl_some,stP_all (by rw [get_put_ne (by omega)];exact p5) h2 h4 t2,cl_some]
 refine hk _ ⟨by show h.next≤h.next+1+1;omega,fun j hj _=>?_⟩ rfl ?_ get_put_eq
 ·rw [get_put_ne (by omega),get_put_ne (by omega),get_new_ne (by rw [nm];omega),get_new_ne (by omega)]
 ·rw [get_put_ne (by omega)];exact get_put_eq
def hdOf:Option ((Int × Int × Int) × Shp)→List AV
 | some (x,_)=>hdC x.1 x.2.1 x.2.2
 | none=>hdC 0 0 0
def shOf:Option ((Int × Int × Int) × Shp)→Shp
 | some (_,s)=>s
 | none=>shpZ
theorem ofV_eq (x:Option ((Int × Int × Int) × Shp)):ofV x = .tup [.agg (hdOf x),.agg (shOf x).row,.bool x.isSome]:=by
 cases x with
 | none=>rfl
 | some y=>rfl
theorem hdOf_len (x:Option ((Int × Int × Int) × Shp)):(hdOf x).length=3:=by cases x<;>rfl
theorem hdOf_sc (x:Option ((Int × Int × Int) × Shp)):(hdOf x).all scalar=true:=by cases x<;>rfl
section
variable {h:Heap}{A:Nat→Nat}{l:PAl}{T:List Shp}{F:Int}
end
set_option linter.all false
attribute [local congr] c_bind c_cl c_mk c_lp c_clC c_gQ c_gV c_condE c_thenK
theorem shC_sc (l:List Shp):(shC l).all scalar=true:=by
 induction l with
 | nil=>rfl
 | cons a l ih=>rw [show a::l = [a]++l from rfl,shC_app,List.all_append,ih];rfl
theorem clone_sh {h:Heap}{b:Nat}{T:List Shp}{w:Bool}{c:Cap}(hw:h.get b=some (.cells w (shC T)))(hlt:b<h.next)(h0:T≠[])(hn:T.length≤60000) :
  AE (.sl (some (b,0)) T.length c) h=some (.sl (some (h.next+1,0)) T.length (.un 3),(h.new (.cells true [])).new (.cells true (shC T))):=by
 have hb:bsP 3 [AV.int .i64 0,AV.int .i64 0,AV.int .u64 0] 0 []=some (.cells true [],fun i=>.sl (some (i,0)) 0 (.ex 0)):=rfl
 have hg:(h.new (.cells true [])).get b=some (.cells w (shC T)):=by rw [get_new_ne (by omega)];exact hw
 have hl : ¬ T.length≤0:=by have:=List.length_pos_iff.2 h0;omega
 have ha:appendA (h.new (.cells true [])) 3 24 (.sl (some (h.next,0)) 0 (.ex 0)) (.sl (some (b,0)) T.length c)=some (.sl (some (h.next+1,0)) T.length (.un 3),(h.new (.cells true [])).new (.cells true (shC T))):=by
  have hld:loadN (h.new (.cells true [])) (b,0) (T.length * 3)=some (shC T):=by
   simp only [loadN,hg,spanF_eq]
   rw [span_some _ _ _ (by rw [shC_len];omega)]
   rw [← shC_len,List.drop_zero,List.take_length]
  have hld0:loadN (h.new (.cells true [])) (h.next,0) (0 * 3)=some []:=by
   simp only [loadN,get_new_eq,spanF_eq];rfl
  simp only [appendA,countA,addedA,hld,Option.bind_some,Nat.zero_add,hl,if_false]
  rw [if_pos (by omega)]
  simp only [hld0,Option.bind_some,List.nil_append,shC_sc,if_true,Heap.next_new]
 simp -implicitDefEqProofs only [AE,hb,mk_some,ha,cl_some]
 have:eqP (some (.slice 0)) none false .eql (.sl (some (b,0)) T.length c) (.sl none 0 (.ex 0))=some (.bool false):=rfl
 simp -implicitDefEqProofs only [this,Option.bind_some,condE_false]
def cyC (n:Nat):List AV:=[.ptr (some (n+2,0)),.ptr (some (n+4,0)),.ptr (some (n+6,0)),.ptr (some (n+8,0)),.int .i64 0,.mp (some (n+9)),.int .i64 0,.int .i64 64]
theorem cnew_ok {h:Heap}(N:Nat)(h1:8≤N)(h2:N≤512) :
  Ok (C6 (.int .i64 N) h) fun r=>r.1 = .tup [.ptr (some (h.next+10,0)),.int .i64 0]∧Same [] h r.2∧r.2.next=h.next+11∧
   r.2.get (h.next+10)=some (.cells true (cyC h.next))∧TbAt r.2 (h.next+4) (h.next+3) none []∧AlAt r.2 (h.next+6) (h.next+5) (h.next+2) h.next (h.next+1) ⟨newA N,List.replicate N false⟩∧
   r.2.get (h.next+8)=some (.cells true [.ptr (some (h.next+2,0)),.ptr (some (h.next+4,0)),.ptr (some (h.next+7,0))])∧r.2.get (h.next+7)=some (.cells true [.sl none 0 (.ex 0)])∧r.2.get (h.next+9)=some (.mp []):=by
 generalize hn:h.next=n
 have nw:=new_ok (h:=h) N h1 h2
 rw [hn] at nw
 refine Ok.eq ?_ (by unfold C6;rfl)
 refine ok_cl nw ?_
 rintro _ g1 ⟨rfl,H,s1,n1⟩
 simp only at H s1 n1
 have b1:bldS [(0,1),(1,1)] [AV.sl none 0 (.ex 0),AV.mp none] [(1,.mp (some (n+3)))]=some (.agg [.sl none 0 (.ex 0),.mp (some (n+3))]):=rfl
 have x1:bxP (.agg [.sl none 0 (.ex 0),.mp (some (n+3))])=some (.cells true [.sl none 0 (.ex 0),.mp (some (n+3))],fun i=>.ptr (some (i,0))):=rfl
 have nn:(g1.new (.mp [])).next=n+4:=by rw [Heap.next_new,n1]
 have hd:DT g1=some (.ptr (some (n+4,0)),(g1.new (.mp [])).new (.cells true [.sl none 0 (.ex 0),.mp (some (n+3))])):=by
  simp -implicitDefEqProofs only [DT,mk_some,n1,b1,x1,Option.bind_some,nn]
 refine Ok.eq ?_ (by simp -implicitDefEqProofs only [extractV_tup,e0,e1,Option.bind_some,neq_int,decide_true,Bool.not_true,condE_false,hd,cl_some]<;>rfl)
 have s2:Same [] g1 ((g1.new (.mp [])).new (.cells true [.sl none 0 (.ex 0),.mp (some (n+3))])):=(Same.new _ _).trans (Same.new _ _)
 have n2:((g1.new (.mp [])).new (.cells true [.sl none 0 (.ex 0),.mp (some (n+3))])).next=n+5:=by rw [Heap.next_new,nn]
 have p3:((g1.new (.mp [])).new (.cells true [.sl none 0 (.ex 0),.mp (some (n+3))])).get (n+3)=some (.mp []):=by
  rw [get_new_ne (by omega),← n1];exact get_new_eq
 have p4:((g1.new (.mp [])).new (.cells true [.sl none 0 (.ex 0),.mp (some (n+3))])).get (n+4)=some (.cells true [.sl none 0 (.ex 0),.mp (some (n+3))]):=by
  rw [← nn];exact get_new_eq
 generalize (g1.new (.mp [])).new (.cells true [.sl none 0 (.ex 0),.mp (some (n+3))])=g2 at *
 have H2:=H.same s2 (by simp) (by simp) (by simp)
 have an:=anew_ok H2
 rw [n2] at an
 refine ok_cl an ?_
 rintro _ g3 ⟨rfl,H3,s3,n3⟩
 simp only at H3 s3 n3
 have hl:(newA N).sp.length=N:=by show(List.replicate N _).length=N;rw [List.length_replicate]
 rw [hl] at H3
 have bq:bldS [(0,1)] [AV.sl none 0 (.ex 0)] []=some (.agg [.sl none 0 (.ex 0)]):=rfl
 have xq:bxP (.agg [.sl none 0 (.ex 0)])=some (.cells true [.sl none 0 (.ex 0)],fun i=>.ptr (some (i,0))):=rfl
 have bm:bldS [(0,1),(1,1),(2,1)] [AV.ptr none,AV.ptr none,AV.ptr none] [(0,.ptr (some (n+2,0))),(1,.ptr (some (n+4,0))),(2,.ptr (some (n+7,0)))]=some (.agg [.ptr (some (n+2,0)),.ptr (some (n+4,0)),.ptr (some (n+7,0))]):=rfl
 have xm:bxP (.agg [.ptr (some (n+2,0)),.ptr (some (n+4,0)),.ptr (some (n+7,0))])=some (.cells true [.ptr (some (n+2,0)),.ptr (some (n+4,0)),.ptr (some (n+7,0))],fun i=>.ptr (some (i,0))):=rfl
 have n4:(g3.new (.cells true [.sl none 0 (.ex 0)])).next=n+8:=by rw [Heap.next_new,n3]
 have n5:((g3.new (.cells true [.sl none 0 (.ex 0)])).new (.cells true [.ptr (some (n+2,0)),.ptr (some (n+4,0)),.ptr (some (n+7,0))])).next=n+9:=by rw [Heap.next_new,n4]
 have hm:DR (.ptr (some (n+2,0))) (.ptr (some (n+4,0))) g3=some (.ptr (some (n+8,0)),(g3.new (.cells true [.sl none 0 (.ex 0)])).new (.cells true [.ptr (some (n+2,0)),.ptr (some (n+4,0)),.ptr (some (n+7,0))])):=by
  simp -implicitDefEqProofs only [DR,Ec,bq,xq,mk_some,n3,Option.bind_some,cl_some,show n+5+2=n+7 from rfl,bm,xm,n4]
 refine Ok.eq ?_ (by simp -implicitDefEqProofs only [hm,cl_some]<;>rfl)
 have s5:Same [] g3 ((g3.new (.cells true [.sl none 0 (.ex 0)])).new (.cells true [.ptr (some (n+2,0)),.ptr (some (n+4,0)),.ptr (some (n+7,0))])):=(Same.new _ _).trans (Same.new _ _)
 have p7:((g3.new (.cells true [.sl none 0 (.ex 0)])).new (.cells true [.ptr (some (n+2,0)),.ptr (some (n+4,0)),.ptr (some (n+7,0))])).get (n+7)=some (.cells true [.sl none 0 (.ex 0)]):=by
  rw [get_new_ne (by omega),show n+7=g3.next by omega];exact get_new_eq
 have p8:((g3.new (.cells true [.sl none 0 (.ex 0)])).new (.cells true [.ptr (some (n+2,0)),.ptr (some (n+4,0)),.ptr (some (n+7,0))])).get (n+8)=some (.cells true [.ptr (some (n+2,0)),.ptr (some (n+4,0)),.ptr (some (n+7,0))]):=by
  rw [← n4];exact get_new_eq
 generalize (g3.new (.cells true [.sl none 0 (.ex 0)])).new (.cells true [.ptr (some (n+2,0)),.ptr (some (n+4,0)),.ptr (some (n+7,0))])=g5 at *
 have bc:bldS [(0,1),(1,1),(2,1),(3,1),(4,1),(5,1),(6,1),(7,1)] [(AV.ptr none),(AV.ptr none),(AV.ptr none),(AV.ptr none),(AV.int .i64 0),(AV.mp none),(AV.int .i64 0),(AV.int .i64 0)] [(0,.ptr (some (n+2,0))),(1,.ptr (some (n+4,0))),(2,.ptr (some (n+6,0))),(3,.ptr (some (n+8,0))),(5,.mp (some (n+9))),(7,(AV.int .i64 64))]=some (.agg (cyC n)):=rfl
 have xc:bxP (.agg (cyC n))=some (.cells true (cyC n),fun i=>.ptr (some (i,0))):=rfl
 have n6:(g5.new (.mp [])).next=n+10:=by rw [Heap.next_new,n5]
 have s6:Same [] g5 ((g5.new (.mp [])).new (.cells true (cyC n))):=(Same.new _ _).trans (Same.new _ _)
 have s36:=s5.trans s6
 have s26:=s3.trans s36
 refine ok_val (v:=.tup [.ptr (some (n+10,0)),.int .i64 0]) (g:=(g5.new (.mp [])).new (.cells true (cyC n))) (by
  simp -implicitDefEqProofs only [mk_some,n5,show n+5+1=n+6 from rfl,bc,xc,Option.bind_some,n6]) ⟨rfl,((s1.trans s2).trans s26),by rw [Heap.next_new,n6],by rw [← n6];exact get_new_eq,?_,H3.same s36 (by simp) (by simp) (by simp) (by simp) (by simp),?_,?_,?_⟩
 ·have q4:=(s26.get (n+4) (by omega) (by simp)).trans p4
  have q3:=(s26.get (n+3) (by omega) (by simp)).trans p3
  exact⟨⟨_,q4,SlB.mt⟩,q3,by show n+4 < _;rw [Heap.next_new,n6];omega,by show n+3 < _;rw [Heap.next_new,n6];omega,by omega,by simp,by simp,by simp,by simp,by simp⟩
 ·exact(s6.get _ (by omega) (by simp)).trans p8
 ·exact(s6.get _ (by omega) (by simp)).trans p7
 ·show((g5.new (.mp [])).new (.cells true (cyC n))).get (n+9)=_
  rw [get_new_ne (by omega),← n5];exact get_new_eq
def addrs (n bt bs:Nat):Nat→Nat
 | 0=>n+11
 | 1=>n+10
 | 2=>n+4
 | 3=>n+3
 | 4=>n+6
 | 5=>n+5
 | 6=>n+2
 | 7=>n
 | 8=>n+1
 | 9=>bt
 | _=>bs
theorem addrs_inj {n bt bs i j:Nat}(h1:n+12≤bt)(h2:bt<bs)(hi:i < 11)(hj:j < 11)(e:addrs n bt bs i=addrs n bt bs j):i=j:=by
 have dj:∀ k:Nat,k < 11→(k=0∨k=1∨k=2∨k=3∨k=4∨k=5∨k=6∨k=7∨k=8∨k=9∨k=10):=fun k hk=>by omega
 rcases dj i hi with rfl | rfl | rfl | rfl | rfl | rfl | rfl | rfl | rfl | rfl | rfl <;>
 rcases dj j hj with rfl | rfl | rfl | rfl | rfl | rfl | rfl | rfl | rfl | rfl | rfl <;>
 first | rfl | (simp only [addrs] at e;omega)
theorem hnew_ok {h : Heap} {b N : Nat} {T : List Shp} {w : Bool} (h1 : 8 ≤ N) (h2 : N ≤ 512) (ht : Tab0 h) (hb : h.get b = some (.cells w (shC T))) (hlt : b < h.next) (hT : T ≠ []) (hl : T.length ≤ 1000) (hnd : T.Nodup) (hgd : ∀ s ∈ T, goodB s = true) :
    Ok (Cd (.int .i64 N) (.sl (some (b, 0)) T.length (.ex T.length)) h) fun r => ∃ A, r.1 = .tup [.ptr (some (A 0, 0)), .int .i64 0] ∧ HpAt r.2 A ⟨newA N, List.replicate N false⟩ T 0 ∧ Same [] h r.2 ∧ ∀ i, i < 11 → h.next ≤ A i := by
  generalize hn : h.next = n at *
  have cn := cnew_ok (h := h) N h1 h2
  rw [hn] at cn
  refine Ok.eq ?_ (by unfold Cd; rfl)
  refine ok_cl cn ?_
  rintro _ g1 ⟨rfl, s1, n1, pc, tb, al, _, _, _⟩
  simp only at s1 n1 pc tb al
  have bh : bldS [(0, 1), (1, 1), (2, 1)] [(AV.ptr none), (AV.sl none 0 (.ex 0)), (AV.int .i64 0)] [(0, .ptr (some (n + 10, 0)))] = some (.agg [.ptr (some (n + 10, 0)), .sl none 0 (.ex 0), .int .i64 0]) := rfl
  have xh : bxP (.agg [.ptr (some (n + 10, 0)), .sl none 0 (.ex 0), .int .i64 0]) = some (.cells true [.ptr (some (n + 10, 0)), .sl none 0 (.ex 0), .int .i64 0], fun i => .ptr (some (i, 0))) := rfl
  refine Ok.eq ?_ (by simp -implicitDefEqProofs only [extractV_tup, e0, e1, Option.bind_some, neq_int, decide_true, Bool.not_true, condE_false, bh, xh, mk_some, n1, lnL_sl] <;> rfl)
  have s2 : Same [] g1 (g1.new (.cells true [.ptr (some (n + 10, 0)), .sl none 0 (.ex 0), .int .i64 0])) := Same.new _ _
  have n2 : (g1.new (.cells true [.ptr (some (n + 10, 0)), .sl none 0 (.ex 0), .int .i64 0])).next = n + 12 := by rw [Heap.next_new, n1]
  have ph : (g1.new (.cells true [.ptr (some (n + 10, 0)), .sl none 0 (.ex 0), .int .i64 0])).get (n + 11) = some (.cells true [.ptr (some (n + 10, 0)), .sl none 0 (.ex 0), .int .i64 0]) := by rw [← n1]; exact get_new_eq
  generalize g1.new (.cells true [.ptr (some (n + 10, 0)), .sl none 0 (.ex 0), .int .i64 0]) = g2 at *
  have tb2 := tb.same s2 (by simp) (by simp) (fun i hi => by cases hi)
  have al2 := al.same s2 (by simp) (by simp) (by simp) (by simp) (by simp)
  have pc2 : g2.get (n + 10) = some (.cells true (cyC n)) := (s2.get _ (by omega) (by simp)).trans pc
  have s12 := s1.trans s2
  have pb2 : g2.get b = some (.cells w (shC T)) := (s12.get _ (by omega) (by simp)).trans hb
  have zr : ([AV.int .i64 0, .int .i64 0, .int .u64 0] : List AV) = shpZ.row := rfl
  have lp0 : Ok (Es (.sl (some (b, 0)) T.length (.ex T.length)) (.ptr (some (n + 10, 0))) (.int .i64 T.length) (.ptr none) (.int .i64 0) (.int .i64 0) g2) fun r => r.1 = .exit 0 ∧ ∃ b', n + 12 ≤ b' ∧ TbAt r.2.2 (n + 4) (n + 3) (some b') T ∧ Same [n + 3, n + 4] g2 r.2.2 := by
    refine ok_loop (fun m vs g => ∃ (i : Nat) (b' : Option Nat), vs = [.ptr none, .int .i64 0, .int .i64 i] ∧ m + i = T.length ∧ TbAt g (n + 4) (n + 3) b' (T.take i) ∧ (∀ x, b' = some x → n + 12 ≤ x) ∧ Same [n + 3, n + 4] g2 g) ?_ (n := T.length) (by omega)
      ⟨0, none, rfl, rfl, tb2, (fun x hx => by cases hx), Same.refl _ _⟩
    rintro m vs g ⟨i, b', rfl, hm, Tg, hb', sg⟩
    rw [gd0, gd1, gd2]
    by_cases hi : i < T.length
    · have hli : (i : Int) < T.length := by omega
      obtain ⟨s, hs⟩ : ∃ s, T[i]? = some s := ⟨_, List.getElem?_eq_getElem hi⟩
      have ix : iaS 3 (.sl (some (b, 0)) T.length (.ex T.length)) (.int .i64 (i : Int)) = some (.ptr (some (b, i * 3))) := by
        rw [iaS_sl 3 (b, 0) _ _ .i64 _ ⟨by omega, by omega⟩]; simp
      have pb : g.get b = some (.cells w (shC T)) := (sg.get _ (by omega) (by simp; omega)).trans pb2
      have la : ldA 3 g (.ptr (some (b, i * 3))) = some (.agg s.row) := by rw [ldA_at pb, shC_at hs]; rfl
      refine Ok.eq ?_ (by simp -implicitDefEqProofs only [Dc, bin_lss, hli, decide_true, Option.bind_some, condE_true, ix, la, zr] <;> rfl)
      refine ok_tmp (z := shpZ.row) (cs := s.row) (n := 3) rfl rfl rfl fun g3 s3 n3 p3 => ?_
      have sg3 := sg.trans (s3.sub (by simp))
      have pc3 : g3.get (n + 10) = some (.cells true (cyC n)) := (sg3.get _ (by omega) (by simp)).trans pc2
      have lt3 : ldS g3 (.ptr (some (n + 10, 1))) = some (.ptr (some (n + 4, 0))) := by rw [ldS_at pc3]; rfl
      have ct : AG (.ptr (some (n + 10, 0))) g3 = some (.ptr (some (n + 4, 0)), g3) := by
        simp -implicitDefEqProofs only [AG, nilV_ptr, Option.bind_some, faP_ptr, Nat.zero_add, lt3]
      have T3 := Tg.same s3 (by simp) (by simp) (fun _ _ => by simp)
      have hno : s ∉ T.take i := fun hm => by
        obtain ⟨j, hj⟩ := List.getElem?_of_mem hm
        rw [List.getElem?_take] at hj
        split at hj
        · rename_i hji
          obtain ⟨q1, q2⟩ := List.getElem?_eq_some_iff.1 hj
          obtain ⟨q3, q4⟩ := List.getElem?_eq_some_iff.1 hs
          have := (List.getElem_inj hnd).1 (q2.trans q4.symm)
          omega
        · cases hj
      refine Ok.eq ?_ (by simp -implicitDefEqProofs only [ct, cl_some, rdC, ldA_row p3, Option.bind_some, clC_some] <;> rfl)
      refine ok_cl (number_new T3 hno (hgd s (List.mem_of_getElem? hs)) (by simp; omega)) ?_
      rintro _ g4 ⟨rfl, s4, b4, l4, T4⟩
      simp only at s4 l4 T4
      refine (Ok.of (r := (.normal, [.ptr none, .int .i64 0, .int .i64 ((i + 1 : Nat) : Int)], g4)) ?_).eq (by
        simp -implicitDefEqProofs only [extractV_tup, e0, e1, Option.bind_some, chk_two (f := fun g' => ldA 3 g' (.ptr (some (g.next, 0)))) (same_row s) (ldA_row p3) (ldA_row p3), neq_int, decide_true, Bool.not_true, condE_false, bin_add, suc64 i (by omega)])
      left
      have e : T.take i ++ [s] = T.take (i + 1) := by rw [List.take_add_one, hs]; rfl
      rw [e] at T4
      have hgn := sg3.next
      refine ⟨rfl, m - 1, by omega, i + 1, some b4, rfl, by omega, T4, fun x hx => by cases hx; omega, ?_⟩
      refine sg3.old s4 fun j hj => ?_
      simp only [List.mem_cons] at hj
      rcases hj with rfl | rfl | hj
      · left; simp
      · left; simp
      · right
        cases b' with
        | none => simp at hj
        | some x => simp at hj; subst hj; have := hb' _ rfl; omega
    · have hli : ¬ (i : Int) < T.length := by omega
      obtain rfl : i = T.length := by omega
      refine (Ok.of (r := (.exit 0, [.ptr none, .int .i64 0, .int .i64 (T.length : Int)], g)) ?_).eq (by simp -implicitDefEqProofs only [Dc, bin_lss, hli, decide_false, Option.bind_some, condE_false])
      rw [List.take_length] at Tg
      cases b' with
      | none =>
        obtain ⟨v, _, hv⟩ := Tg.tbl
        have := hv.nil rfl
        exact absurd (List.length_eq_zero_iff.1 this) hT
      | some x => exact .inr ⟨by simp, rfl, x, hb' x rfl, Tg, sg⟩
  refine ok_lp lp0 ?_
  rintro _ vs g3 ⟨rfl, bt, hbt, T3, s3⟩
  simp only at T3 s3
  have n3 := s3.next
  have pb3 : g3.get b = some (.cells w (shC T)) := (s3.get _ (by omega) (by simp; omega)).trans pb2
  have cl := clone_sh (c := .ex T.length) pb3 (by omega) hT (by omega)
  have s4 : Same [] g3 ((g3.new (.cells true [])).new (.cells true (shC T))) := (Same.new _ _).trans (Same.new _ _)
  have p4 : ((g3.new (.cells true [])).new (.cells true (shC T))).get (g3.next + 1) = some (.cells true (shC T)) := get_new_eq (h := g3.new (.cells true []))
  have n4 : ((g3.new (.cells true [])).new (.cells true (shC T))).next = g3.next + 2 := rfl
  refine Ok.eq ?_ (by simp -implicitDefEqProofs only [if_true, thenK_normal, cl, cl_some, nilV_ptr, Option.bind_some, faP_ptr, Nat.zero_add] <;> rfl)
  generalize (g3.new (.cells true [])).new (.cells true (shC T)) = g4 at *
  have ph4 : g4.get (n + 11) = some (.cells true [.ptr (some (n + 10, 0)), .sl none 0 (.ex 0), .int .i64 0]) := (s4.get _ (by omega) (by simp)).trans ((s3.get _ (by omega) (by simp)).trans ph)
  have st : stP 1 g4 (.ptr (some (n + 11, 1))) (.sl (some (g3.next + 1, 0)) T.length (.un 3)) = some (.bot, g4.put (n + 11) (some (.cells true [.ptr (some (n + 10, 0)), .sl (some (g3.next + 1, 0)) T.length (.un 3), .int .i64 0]))) := stP_one ph4 (by simp) rfl
  have s5 : Same [n + 11] g4 (g4.put (n + 11) (some (.cells true [.ptr (some (n + 10, 0)), .sl (some (g3.next + 1, 0)) T.length (.un 3), .int .i64 0]))) := Same.put _ _ _
  have n5 : (g4.put (n + 11) (some (.cells true [.ptr (some (n + 10, 0)), .sl (some (g3.next + 1, 0)) T.length (.un 3), .int .i64 0]))).next = g4.next := rfl
  have p5 : (g4.put (n + 11) (some (.cells true [.ptr (some (n + 10, 0)), .sl (some (g3.next + 1, 0)) T.length (.un 3), .int .i64 0]))).get (n + 11) = _ := get_put_eq
  refine ok_val (v := .tup [.ptr (some (n + 11, 0)), .int .i64 0]) (by simp -implicitDefEqProofs only [st, cl_some] <;> rfl) ?_
  generalize g4.put (n + 11) (some (.cells true [.ptr (some (n + 10, 0)), .sl (some (g3.next + 1, 0)) T.length (.un 3), .int .i64 0])) = g5 at *
  have T4 := (T3.same s4 (by simp) (by simp) (fun _ _ => by simp)).same s5 (by simp) (by simp) (fun i hi => by cases hi; simp; omega)
  have al3 := al2.same s3 (by simp) (by simp) (by simp) (by simp) (by simp)
  have al4 := (al3.same s4 (by simp) (by simp) (by simp) (by simp) (by simp)).same s5 (by simp) (by simp) (by simp) (by simp) (by simp)
  have sAll : Same [] h g5 := ((s12.old s3 (fun j hj => by simp at hj; right; omega)).trans s4).old s5 (fun j hj => by simp at hj; right; omega)
  have hbl : bt < g3.next := by
    obtain ⟨v, _, hv⟩ := T3.tbl
    exact (hv.blk bt rfl).1
  have hpos : 0 < n := by have := ht.pos; omega
  have pc5 : g5.get (n + 10) = some (.cells true (cyC n)) := (s5.get _ (by omega) (by simp)).trans ((s4.get _ (by omega) (by simp)).trans ((s3.get _ (by omega) (by simp)).trans pc2))
  refine ⟨addrs n bt (g3.next + 1), rfl, ?_, sAll, ?_⟩
  · exact
    { hpb := ⟨_, p5, ⟨by rw [shC_len], shC_sc T, rfl, (fun h => by cases h), fun i hi => by
        obtain rfl : i = g3.next + 1 := (Option.some.inj hi).symm
        exact ⟨by show g3.next + 1 < g5.next; omega, (s5.get _ (by omega) (by simp; omega)).trans p4, List.length_pos_iff.2 hT⟩⟩⟩
      cyb := ⟨_, _, _, _, pc5⟩
      tab := T4
      al := al4
      fi := fi_new N
      wf := wf_new N h2
      lt := fun i hi => by
        show _ < g5.next
        rcases (by omega : i = 0 ∨ i = 1 ∨ i = 2 ∨ i = 3 ∨ i = 4 ∨ i = 5 ∨ i = 6 ∨ i = 7 ∨ i = 8 ∨ i = 9 ∨ i = 10) with rfl | rfl | rfl | rfl | rfl | rfl | rfl | rfl | rfl | rfl | rfl <;> simp only [addrs] <;> omega
      pos := fun i hi => by
        rcases (by omega : i = 0 ∨ i = 1 ∨ i = 2 ∨ i = 3 ∨ i = 4 ∨ i = 5 ∨ i = 6 ∨ i = 7 ∨ i = 8 ∨ i = 9 ∨ i = 10) with rfl | rfl | rfl | rfl | rfl | rfl | rfl | rfl | rfl | rfl | rfl <;> simp only [addrs] <;> omega
      inj := fun i j hi hj => addrs_inj (by omega) (by omega) hi hj
      t0 := ht.same sAll (by simp) }
  · intro i hi
    rcases (by omega : i = 0 ∨ i = 1 ∨ i = 2 ∨ i = 3 ∨ i = 4 ∨ i = 5 ∨ i = 6 ∨ i = 7 ∨ i = 8 ∨ i = 9 ∨ i = 10) with rfl | rfl | rfl | rfl | rfl | rfl | rfl | rfl | rfl | rfl | rfl <;> simp only [addrs] <;> omega
end Go.Ab.F
