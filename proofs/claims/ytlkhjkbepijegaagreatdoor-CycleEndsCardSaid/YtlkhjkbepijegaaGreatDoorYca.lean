import Derived.Test.YtlkhjkbepijegaaGreatDoorKit
import Derived.Test.YtlkhjkbepijegaaGreatDoorQuFn
import Derived.Test.YtlkhjkbepijegaaGreatDoorArn
import Derived.Test.YtlkhjkbepijegaaGreatDoorRel
import Derived.Test.YtlkhjkbepijegaaGreatDoorMar
import Derived.Test.YtlkhjkbepijegaaGreatDoorRch
namespace Go.Ab.F
open Go Go.Ab
set_option linter.all false
attribute [local congr] c_bind c_cl c_mk c_lp c_clC c_gQ c_gV c_condE c_thenK
def wI (l:List Int):List AV:=l.map (AV.int .i64)
theorem sc_wI (l:List Int):(wI l).all scalar=true:=by simp [wI,scalar]
theorem len_wI (l:List Int):(wI l).length=l.length:=by simp [wI]
def CapL (n:Nat):Cap→Prop
 | .ex k=>n≤k
 | .un s=>s=1
structure Lst (h g:Heap)(v:AV)(l:List Int):Prop where
 same:Same [] h g
 eq:(v = .sl none 0 (.ex 0)∧l = [])∨∃ b c rest,v = .sl (some (b,0)) l.length c∧h.next≤b∧b<g.next∧CapL l.length c∧g.get b=some (.cells true (wI l++rest))∧rest.all scalar=true
theorem Lst.mt {h g:Heap}(s:Same [] h g):Lst h g (.sl none 0 (.ex 0)) []:=⟨s,.inl ⟨rfl,rfl⟩⟩
theorem Lst.lnL {h g:Heap}{v:AV}{l:List Int}(H:Lst h g v l):Go.Ab.lnL v=some (.int .i64 l.length):=by
 rcases H.eq with⟨rfl,rfl⟩ | ⟨b,c,rest,rfl,_⟩
 ·rfl
 ·simp
theorem Lst.at {h g:Heap}{v:AV}{l:List Int}(H:Lst h g v l){i:Nat}{x:Int}(hx:l[i]?=some x) :
  ∃ b,h.next≤b∧b<g.next∧(∀ k,iaS 1 v (.int k (i:Int))=some (.ptr (some (b,i))))∧ldS g (.ptr (some (b,i)))=some (.int .i64 x):=by
 have hi:=(List.getElem?_eq_some_iff.1 hx).1
 rcases H.eq with⟨rfl,rfl⟩ | ⟨b,c,rest,rfl,h1,h2,h3,h4,_⟩
 ·simp at hx
 ·refine⟨b,h1,h2,fun k=>?_,?_⟩
  ·rw [iaS_sl 1 (b,0) _ _ k _ ⟨by omega,by omega⟩];simp
  ·rw [ldS_at h4,List.getElem?_append_left (by rw [len_wI];exact hi)]
   simp [wI,hx]
theorem Lst.rd {h g:Heap}{v:AV}{l:List Int}(H:Lst h g v l):RdW g 1 v (wI l) l.length:=by
 refine⟨by simp [wI],?_⟩
 rcases H.eq with⟨rfl,rfl⟩ | ⟨b,c,rest,rfl,h1,h2,h3,h4,_⟩
 ·exact .inl ⟨rfl,rfl⟩
 ·exact .inr ⟨b,0,c,rfl,h2,fun _=>⟨true,[],rest,rfl,by simpa using h4⟩⟩
theorem Lst.keep {h g g':Heap}{v:AV}{l:List Int}(H:Lst h g v l)(s:Same [] g g'):Lst h g' v l:=by
 refine⟨H.same.trans s,?_⟩
 rcases H.eq with e | ⟨b,c,rest,rfl,h1,h2,h3,h4,h5⟩
 ·exact .inl e
 ·exact .inr ⟨b,c,rest,rfl,h1,Nat.lt_of_lt_of_le h2 s.next,h3,by rw [s.get b h2 (by simp)];exact h4,h5⟩
theorem Lst.old {h0 h g:Heap}{v:AV}{l:List Int}(H:Lst h g v l)(s:Same [] h0 h):Lst h0 g v l:=by
 refine⟨s.trans H.same,?_⟩
 rcases H.eq with e | ⟨b,c,rest,rfl,h1,h2,h3,h4,h5⟩
 ·exact .inl e
 ·exact .inr ⟨b,c,rest,rfl,Nat.le_trans s.next h1,h2,h3,h4,h5⟩
theorem Lst.of_slb {h g:Heap}{b:Option Nat}{v:AV}{l:List Int}{n:Nat}(H:SlB g b 1 v (wI l) n)(hb:∀ j,b=some j→h.next≤j)(s:Same [] h g):Lst h g v l:=by
 have hn:n=l.length:=by have:=H.len;rw [len_wI] at this;omega
 subst hn
 refine⟨s,?_⟩
 cases b with
 | none=>exact .inl ⟨H.eq,List.eq_nil_of_length_eq_zero (H.nil rfl)⟩
 | some b=>
  obtain⟨h1,h2,h3⟩:=H.blk b rfl
  exact .inr ⟨b,.un 1,[],H.eq,hb b rfl,h1,rfl,by rw [List.append_nil];exact h2,rfl⟩
theorem Lst.sc {h g:Heap}{v:AV}{l:List Int}(H:Lst h g v l):scalar v=true:=H.rd.sc
theorem Lst.lit {h g:Heap}(s:Same [] h g)(l:List Int):Lst h (g.new (.cells true (wI l))) (.sl (some (g.next,0)) l.length (.ex l.length)) l:=
 ⟨s.trans (Same.new _ _),.inr ⟨g.next,_,[],rfl,s.next,Nat.lt_succ_self _,Nat.le_refl _,by rw [List.append_nil];exact get_new_eq,rfl⟩⟩
theorem bs1 (z a:Int):bsP 1 [.int .i64 z] 1 [(0,.int .i64 a)]=some (.cells true (wI [a]),fun i=>.sl (some (i,0)) 1 (.ex 1)):=rfl
theorem slc_to {b n k:Nat}{c:Cap}(hk:k≤n)(hc:CapL n c):∃ c',slcP 1 (.sl (some (b,0)) n c) none (some (.int .i64 (k:Int))) none=some (.sl (some (b,0)) k c')∧CapL k c':=by
 cases c with
 | ex m=>
  simp only [CapL] at hc
  refine⟨.ex m,?_,by simp only [CapL];omega⟩
  simp only [slcP,sliceEx,mostA,highA,lowA,boundA,Option.bind_some]
  rw [if_pos ⟨by omega,by omega⟩]
  simp only [Option.bind_some,Int.toNat_natCast,Nat.zero_mul,addA,Option.map_some,Nat.add_zero,Nat.sub_zero,ite_self]
 | un s=>
  simp only [CapL] at hc
  subst hc
  refine⟨.un 1,?_,rfl⟩
  simp only [slcP,sliceUn,ne_eq,not_true_eq_false,if_false,highA,lowA,boundA]
  rw [if_pos ⟨by omega,by omega⟩]
  simp only [Option.bind_some,Int.toNat_natCast,Nat.zero_mul,addA,Option.map_some,Nat.add_zero,Nat.sub_zero]
theorem slc_from {b n k:Nat}{c:Cap}(hk:k<n)(hc:CapL n c):∃ c',slcP 1 (.sl (some (b,0)) n c) (some (.int .i64 (k:Int))) none none=some (.sl (some (b,k)) (n-k) c')∧CapL (n-k) c':=by
 cases c with
 | ex m=>
  simp only [CapL] at hc
  refine⟨.ex (m-k),?_,by simp only [CapL];omega⟩
  simp only [slcP,sliceEx,mostA,highA,lowA,boundA,Option.bind_some]
  rw [if_pos ⟨by omega,by omega⟩]
  simp only [Option.bind_some,Int.toNat_natCast,Nat.mul_one,addA,Option.map_some,Nat.zero_add]
  rw [if_neg (by omega)]
 | un s=>
  simp only [CapL] at hc
  subst hc
  refine⟨.un 1,?_,rfl⟩
  simp only [slcP,sliceUn,ne_eq,not_true_eq_false,if_false,highA,lowA,boundA,Option.bind_some]
  rw [if_pos ⟨by omega,by omega⟩]
  simp only [Option.bind_some,Int.toNat_natCast,Nat.mul_one,addA,Option.map_some,Nat.zero_add]
theorem sc_rep0:∀ n:Nat,(rep [AV.int .i64 0] n).all scalar=true
 | 0=>rfl
 | n+1=>by simp only [rep,List.all_append,sc_rep0 n,Bool.and_true];rfl
theorem len_rep0:∀ n:Nat,(rep [AV.int .i64 0] n).length=n
 | 0=>rfl
 | n+1=>by simp only [rep,List.length_append,len_rep0 n,List.length_singleton];omega
theorem clL_at {h:Heap}{b k n:Nat}{c:Cap}{cs:List AV}(hb:h.get b=some (.cells true cs))(hl:k+n≤cs.length) :
  ∃ cs',clL 1 [AV.int .i64 0] h (.sl (some (b,k)) n c)=some (.tup [],if n=0 then h else h.put b (some (.cells true cs')))∧cs'.take k=cs.take k∧(cs.all scalar=true→cs'.all scalar=true)∧cs'.length=cs.length:=by
 by_cases hn:n=0
 ·exact⟨cs,by simp only [clL,hn,if_true],rfl,id,rfl⟩
 ·refine⟨cs.take k++rep [AV.int .i64 0] n++cs.drop (k+n),?_,?_,fun hs=>?_,?_⟩
  ·simp only [clL,hn,if_false,List.length_singleton,ne_eq,not_true_eq_false,storeN,sc_rep0,if_true,hb,spliceF_eq]
   rw [splice_some cs k _ (by rw [len_rep0];exact hl),len_rep0];rfl
  ·rw [List.append_assoc,List.take_append_of_le_length (by simp;omega),List.take_take,Nat.min_self]
  ·simp only [List.all_append,Bool.and_eq_true]
   refine⟨⟨?_,sc_rep0 n⟩,?_⟩<;>simp only [List.all_eq_true] at hs ⊢
   ·exact fun x hx=>hs x (List.mem_of_mem_take hx)
   ·exact fun x hx=>hs x (List.mem_of_mem_drop hx)
  ·simp only [List.length_append,List.length_take,len_rep0,List.length_drop];omega
theorem take_len {α:Type}{a b:List α}{n:Nat}(h:n=a.length):(a++b).take n=a:=by subst h;simp
def Tst (call:CallF)(x:AV)(P:Int→Bool)(h:Heap)(S:List Nat):Prop:=
 ∀ g n,Same S h g→∃ f args,cvP x [.int .i64 n]=some (f,args)∧call f args g=some (.bool (P n),g)
theorem Tst.run {R:Type}{call:CallF}{x:AV}{P:Int→Bool}{h g:Heap}{S:List Nat}(H:Tst call x P h S)(n:Int)(s:Same S h g)(K:AV→Heap→Option R):clF call (cvP x [.int .i64 n]) g K=K (.bool (P n)) g:=by
 obtain⟨f,args,e1,e2⟩:=H g n s
 rw [e1]
 show cl (call f args g) K=_
 rw [e2];rfl
theorem index_ok {h0 h:Heap}{v x:AV}{l:List Int}{P:Int→Bool}(H:Lst h0 h v l)(hl:l.length≤4611686018427387904)(hP:Tst (lookT T48) x P h []) :
  Ok (Aj v x h) fun r=>r.2=h∧((r.1 = .int .i64 (-1)∧∀ n∈l,P n=false)∨∃ k:Nat,r.1 = .int .i64 k∧k<l.length∧(∀ (j:Nat) n,j<k→l[j]?=some n→P n=false)∧∀ n,l[k]?=some n→P n=true):=by
 refine Ok.eq ?_ (by simp -implicitDefEqProofs only [Aj,H.lnL,Option.bind_some];rfl)
 refine ok_lp (P:=fun r=>r.2.2=h∧((r.1 = .exit 0∧∀ n∈l,P n=false)∨∃ k:Nat,r.1 = .ret∧r.2.1.getD 0 .bot = .int .i64 k∧k<l.length∧(∀ (j:Nat) n,j<k→l[j]?=some n→P n=false)∧∀ n,l[k]?=some n→P n=true)) ?_ ?_
 ·refine ok_loop (fun m vs g=>∃ i:Nat,(∃ q,vs = [q,.int .i64 i])∧g=h∧m+i=l.length∧∀ (j:Nat) n,j<i→l[j]?=some n→P n=false) ?_ (n:=l.length) (by omega)
   ⟨0,⟨_,rfl⟩,rfl,rfl,fun j n hj=>by omega⟩
  rintro m vs g ⟨i,⟨q,rfl⟩,rfl,hm,hall⟩
  rw [gd0,gd1]
  by_cases hi:i<l.length
  ·obtain⟨n,hn⟩:∃ n,l[i]?=some n:=⟨_,List.getElem?_eq_getElem hi⟩
   have hi':(i:Int)<l.length:=by omega
   obtain⟨b,_,_,hix,hld⟩:=H.at hn
   refine Ok.eq ?_ (by simp -implicitDefEqProofs only [Bn,bin_lss,hi',decide_true,Option.bind_some,condE_true,hix,hld,hP.run n (Same.refl _ _)];rfl)
   cases hp:P n with
   | true=>exact Ok.of (r:=(Ex.ret,[AV.int .i64 (i:Int),.int .i64 (i:Int)],g)) (.inr ⟨by simp,rfl,.inr ⟨i,rfl,rfl,hi,hall,fun n' hn'=>by rw [hn] at hn';cases hn';exact hp⟩⟩)
   | false=>
    refine(Ok.of (r:=(Ex.normal,[q,AV.int .i64 ((i+1:Nat):Int)],g)) (.inl ⟨rfl,m - 1,by omega,i+1,⟨_,rfl⟩,rfl,by omega,fun j n' hj hn'=>?_⟩)).eq (by simp -implicitDefEqProofs only [condE_false,bin_add,suc64 i (by omega),Option.bind_some])
    rcases (by omega:j<i∨j=i) with hj | rfl
    ·exact hall j n' hj hn'
    ·rw [hn] at hn';cases hn';exact hp
  ·have hi' : ¬ (i:Int)<l.length:=by omega
   refine(Ok.of (r:=(Ex.exit 0,[q,AV.int .i64 (i:Int)],g)) (.inr ⟨by simp,rfl,.inl ⟨rfl,fun n hn=>?_⟩⟩)).eq (by simp -implicitDefEqProofs only [Bn,bin_lss,hi',decide_false,Option.bind_some,condE_false])
   obtain⟨j,hj⟩:=List.getElem?_of_mem hn
   have:=(List.getElem?_eq_some_iff.1 hj).1
   exact hall j n (by omega) hj
 ·rintro _ vs g ⟨rfl,⟨rfl,hall⟩ | ⟨k,rfl,hv,hk,h1,h2⟩⟩
  ·exact ok_val (v:=.int .i64 (-1)) (g:=g) (by simp -implicitDefEqProofs only [if_true,thenK_normal]) ⟨rfl,.inl ⟨rfl,hall⟩⟩
  ·exact ok_val (v:=.int .i64 (k:Int)) (g:=g) (by simp only at hv;simp -implicitDefEqProofs only [reduceCtorEq,if_false,thenK_ret,endE_ret,hv]) ⟨rfl,.inr ⟨k,rfl,hk,h1,h2⟩⟩
theorem filter_take_succ {P:Int→Bool}{l:List Int}{i:Nat}{x:Int}(hx:l[i]?=some x):(l.take (i+1)).filter P=(l.take i).filter P++(if P x then [x] else []):=by
 rw [List.take_add_one,hx,List.filter_append]
 cases hp:P x<;>simp [hp]
theorem filter_none {P:Int→Bool}:∀ {l:List Int},(∀ n∈l,P n=false)→l.filter (fun n=>!P n)=l
 | [],_=>rfl
 | x::l,h=>by rw [List.filter_cons_of_pos (by simp [h x (List.mem_cons_self ..)]),filter_none fun n hn=>h n (List.mem_cons_of_mem _ hn)]
theorem delete_ok {h0 h:Heap}{v x:AV}{l:List Int}{P:Int→Bool}(H:Lst h0 h v l)(hl:l.length≤4611686018427387904)(hP:Tst (lookT T48) x P h [])(hQ:∀ b n c,v = .sl (some (b,0)) n c→Tst (lookT T49) x P h [b]) :
  Ok (Ae v x h) fun r=>Lst h0 r.2 r.1 (l.filter fun n=>!P n):=by
 refine Ok.eq ?_ (by simp -implicitDefEqProofs only [Ae];rfl)
 refine ok_cl (index_ok H hl hP) ?_
 rintro w g ⟨rfl,hr⟩
 simp only at hr
 rcases hr with⟨rfl,hall⟩ | ⟨k,rfl,hk,h1,h2⟩
 ·refine ok_val (by simp -implicitDefEqProofs only [eql_int,decide_true,Option.bind_some,condE_true];rfl) ?_
  rw [filter_none hall];exact H
 ·obtain⟨hs,heq⟩:=H
  rcases heq with⟨rfl,rfl⟩ | ⟨b,c,rest,rfl,hb1,hb2,hc,hbl,hsc⟩
  ·simp at hk
  have hQ:=hQ b _ c rfl
  have hne : ¬ ((k:Int) = -1):=by omega
  have hf0:(l.take k).filter (fun n=>!P n)=l.take k:=filter_none fun n hn=>by
   obtain⟨j,hj⟩:=List.getElem?_of_mem hn
   have hjk:j<k:=by have:=(List.getElem?_eq_some_iff.1 hj).1;simp at this;omega
   rw [List.getElem?_take,if_pos hjk] at hj
   exact h1 j n hjk hj
  refine Ok.eq ?_ (by simp -implicitDefEqProofs only [eql_int,hne,decide_false,Option.bind_some,condE_false,bin_add,suc64 k (by omega)];rfl)
  refine ok_lp (P:=fun r=>∃ (i:Nat) (cs:List AV) ,r.1 = .exit 0∧r.2.1.getD 0 .bot = .int .i64 i∧i=(l.filter fun n=>!P n).length∧i<l.length∧cs.length=l.length+rest.length∧cs.all scalar=true∧cs.take i=wI (l.filter fun n=>!P n)∧
   Same [b] g r.2.2∧r.2.2.get b=some (.cells true cs)) ?_ ?_
  ·refine ok_loop (fun m vs g'=>∃ (i j:Nat) (cs:List AV),vs = [.int .i64 i,.int .i64 j]∧m+j=l.length∧i<j∧i=((l.take j).filter fun n=>!P n).length∧cs.length=l.length+rest.length∧cs.all scalar=true∧cs.take i=wI ((l.take j).filter fun n=>!P n)∧cs.drop j=wI (l.drop j)++rest∧
    Same [b] g g'∧g'.get b=some (.cells true cs)) ?_ (n:=l.length-(k+1)) (by omega) ?_
   ·rintro m vs g' ⟨i,j,cs,rfl,hm,hij,hi,hlen,hcs,ht,hd,hsame,hget⟩
    rw [gd0,gd1]
    have hlnL:lnL (.sl (some (b,0)) l.length c)=some (.int .i64 l.length):=by simp
    by_cases hj:j<l.length
    ·obtain⟨n,hn⟩:∃ n,l[j]?=some n:=⟨_,List.getElem?_eq_getElem hj⟩
     have hj':(j:Int)<l.length:=by omega
     have hcj:cs[j]?=some (.int .i64 n):=by
      have:=congrArg (fun l=>l[0]?) hd
      simp only [List.getElem?_drop,Nat.add_zero] at this
      rw [this,List.getElem?_append_left (by rw [len_wI];simp;omega)]
      simp [wI,hn]
     have hix:iaS 1 (.sl (some (b,0)) l.length c) (.int .i64 (j:Int))=some (.ptr (some (b,j))):=by rw [iaS_sl 1 (b,0) _ _ _ _ ⟨by omega,by omega⟩];simp
     have hix2:iaS 1 (.sl (some (b,0)) l.length c) (.int .i64 (i:Int))=some (.ptr (some (b,i))):=by rw [iaS_sl 1 (b,0) _ _ _ _ ⟨by omega,by omega⟩];simp
     have hld:ldS g' (.ptr (some (b,j)))=some (.int .i64 n):=by rw [ldS_at hget,hcj]
     have hdj:cs.drop (j+1)=wI (l.drop (j+1))++rest:=by
      have:=congrArg (List.drop 1) hd
      rw [List.drop_drop,List.drop_append_of_le_length (by rw [len_wI];simp;omega)] at this
      rw [this];simp [wI,List.map_drop,List.drop_drop]
     have ej:((j:Int)+1)=((j+1:Nat):Int):=by omega
     refine Ok.eq ?_ (by simp -implicitDefEqProofs only [BU,hlnL,bin_lss,hj',decide_true,Option.bind_some,condE_true,hix,hld,hQ.run n hsame,un_not];rfl)
     have hft:=filter_take_succ (P:=fun n=>!P n) hn
     cases hp:P n with
     | true=>
      rw [hp] at hft
      simp only [Bool.not_true,Bool.false_eq_true,if_false,List.append_nil] at hft
      refine(Ok.of (r:=(Ex.normal,[AV.int .i64 (i:Int),.int .i64 ((j+1:Nat):Int)],g')) (.inl ⟨rfl,m - 1,by omega,i,j+1,cs,rfl,by omega,by omega,by rw [hft];exact hi,hlen,hcs,by rw [hft];exact ht,hdj,hsame,hget⟩)).eq (by simp -implicitDefEqProofs only [Bool.not_true,condE_false,bin_add,suc64 j (by omega),Option.bind_some])
     | false=>
      rw [hp] at hft
      simp only [Bool.not_false,if_true] at hft
      have hst:stP 1 g' (.ptr (some (b,i))) (.int .i64 n)=some (.bot,g'.put b (some (.cells true (cs.set i (.int .i64 n))))):=stP_one hget (by omega) rfl
      refine(Ok.of (r:=(Ex.normal,[AV.int .i64 ((i+1:Nat):Int),.int .i64 ((j+1:Nat):Int)],g'.put b (some (.cells true (cs.set i (.int .i64 n)))))) (.inl ⟨rfl,m - 1,by omega,i+1,j+1,cs.set i (.int .i64 n),rfl,by omega,by omega,by rw [hft];simp;exact hi,by simpa using hlen,?_,?_,?_,hsame.trans (Same.put _ _ _),get_put_eq⟩)).eq (by simp -implicitDefEqProofs only [Bool.not_false,condE_true,hix2,hst,cl_some,bin_add,suc64 i (by omega),suc64 j (by omega),Option.bind_some])
      ·simp only [List.all_eq_true] at hcs ⊢
       intro y hy
       rcases List.mem_or_eq_of_mem_set hy with hy | rfl
       ·exact hcs y hy
       ·rfl
      ·rw [hft,List.take_add_one,List.take_set_of_le (Nat.le_refl _),ht,List.getElem?_set_self (by omega)]
       simp [wI]
      ·rw [List.drop_set_of_lt (by omega)];exact hdj
    ·have hj' : ¬ (j:Int)<l.length:=by omega
     have htl:l.take j=l:=List.take_of_length_le (by omega)
     rw [htl] at hi ht
     refine(Ok.of (r:=(Ex.exit 0,[AV.int .i64 (i:Int),.int .i64 (j:Int)],g')) (.inr ⟨by simp,i,cs,rfl,rfl,hi,?_,hlen,hcs,ht,hsame,hget⟩)).eq (by simp -implicitDefEqProofs only [BU,hlnL,bin_lss,hj',decide_false,Option.bind_some,condE_false])
     omega
   ·obtain⟨n,hn⟩:∃ n,l[k]?=some n:=⟨_,List.getElem?_eq_getElem hk⟩
    have hft:=filter_take_succ (P:=fun n=>!P n) hn
    rw [h2 n hn] at hft
    simp only [Bool.not_true,Bool.false_eq_true,if_false,List.append_nil,hf0] at hft
    refine⟨k,k+1,wI l++rest,rfl,by omega,by omega,by rw [hft];simp;omega,by simp [len_wI],by rw [List.all_append,sc_wI,hsc];rfl,?_,?_,Same.refl _ _,hbl⟩
    ·rw [hft,List.take_append_of_le_length (by rw [len_wI];omega)];simp [wI,List.map_take]
    ·rw [List.drop_append_of_le_length (by rw [len_wI];omega)];simp [wI,List.map_drop]
  ·rintro _ vs g3 ⟨i,cs,rfl,hv,hi,hil,hlen,hcs,ht,hsame,hget⟩
   simp only at hv hsame hget
   obtain⟨c1,e1,_⟩:=slc_from (b:=b) hil hc
   obtain⟨c2,e2,hc2⟩:=slc_to (b:=b) (Nat.le_of_lt hil) hc
   obtain⟨cs',e3,t3,s3,l3⟩:=clL_at (k:=i) (n:=l.length-i) (c:=c1) hget (by omega)
   rw [if_neg (by omega)] at e3
   refine ok_val (by simp -implicitDefEqProofs only [if_true,thenK_normal,hv,e1,Option.bind_some,e3,cl_some,e2];rfl) ?_
   have hs3:Same [] h0 (g3.put b (some (.cells true cs'))):=hs.old (hsame.trans (Same.put _ _ _)) (fun j hj=>.inr (by simp at hj;omega))
   refine⟨hs3,.inr ⟨b,c2,cs'.drop i,?_,hb1,Nat.lt_of_lt_of_le hb2 hsame.next,by rw [← hi];exact hc2,?_,?_⟩⟩
   ·rw [← hi]
   ·have:wI (l.filter fun n=>!P n)=cs'.take i:=by rw [t3,ht]
    rw [this,List.take_append_drop];exact get_put_eq
   ·have:=s3 hcs
    simp only [List.all_eq_true] at this ⊢
    exact fun y hy=>this y (List.mem_of_mem_drop hy)
end Go.Ab.F
namespace Go.Ab.F
open Go Go.Ab
set_option linter.all false
set_option linter.all false
structure Swept (a b:PAr)(n:Int):Prop where
 wf:Wf b
 len:b.sp.length=a.sp.length
 find:∀ ad m q,b.find ad=some (m,q)↔a.find ad=some (m,q)∧(m=n→(a.at n).md.getLsbD q=true)
 lies:∀ ad W,Lies a ad W→b.find ad≠none→Lies b ad W
 isM:∀ ad,b.find ad≠none→b.isM ad=a.isM ad
 cls:∀ m,m≠n→b.cls m=a.cls m
 clsn:b.cls n = -1∨(b.cls n=a.cls n∧∃ ad q,b.find ad=some (n,q))
theorem sweep_swept {a:PAr}(H:Wf a){n:Int}(hc:a.cls n≠-1):Swept a (a.sweep n).2 n:=by
 obtain⟨hn,he⟩:=cls_has hc
 have hfi:=H.fi n hn
 rw [← he] at hfi
 rcases hfi with h | ⟨c0,c5,hbd⟩
 ·exact absurd h hc
 obtain⟨P0,P1,P2,_⟩:=pls_eq (c:=a.cls n) ⟨c0,c5⟩
 have hn1:=hn.1
 have hn2:=hn.2
 unfold PAr.sweep
 rw [if_neg hc]
 simp only
 generalize hx:(if (a.at n).tk &&& (a.at n).md=0 then(⟨-1,0,0⟩:PSp) else⟨(a.at n).cls,(a.at n).tk &&& (a.at n).md,(a.at n).md⟩)=x
 have hat:=PAr.setS_at x hn
 have hcls:=fun m=>a.setS_cls (m:=m) x hn
 have hlen:=a.setS_len n x
 have hhas:=fun m=>a.setS_has n m x
 have hne:∀ m,a.has m→m≠n→(a.setS n x).at m=a.at m:=fun m hm h=>PAr.setS_ne _ hn hm h
 have hws:=PAr.setS_ws a n x
 generalize a.setS n x=b at *
 have hxc:((a.at n).tk &&& (a.at n).md=0→x=⟨-1,0,0⟩)∧(¬ (a.at n).tk &&& (a.at n).md=0→x.cls=a.cls n∧x.md=(a.at n).md):=by
  rw [← hx]
  constructor
  ·intro h;rw [if_pos h]
  ·intro h;rw [if_neg h];exact⟨he.symm,rfl⟩
 have hxt:∀ j,x.tk.getLsbD j=((a.at n).tk.getLsbD j && (a.at n).md.getLsbD j):=fun j=>by
  rw [← hx]
  split
  ·rename_i h
   rw [← BitVec.getLsbD_and,h]
  ·show((a.at n).tk &&& (a.at n).md).getLsbD j=_
   rw [BitVec.getLsbD_and]
 have nz:∀ {q:Nat},(a.at n).tk.getLsbD q=true→(a.at n).md.getLsbD q=true→¬ (a.at n).tk &&& (a.at n).md=0:=fun {q} h1 h2 h=>by
  have h6:((a.at n).tk &&& (a.at n).md).getLsbD q=true:=by rw [BitVec.getLsbD_and,h1,h2];rfl
  rw [h] at h6
  simp at h6
 have hpl:∀ e:En,Placed b e↔Placed a e∧(e.s=n→(a.at n).md.getLsbD e.q=true):=by
  intro e
  by_cases hs:e.s=n
  ·constructor
   ·rintro⟨h1,h2,h3,h4⟩
    rw [hs,hat] at h2 h4
    rw [hxt,Bool.and_eq_true] at h4
    have hz:=nz h4.1 h4.2
    exact⟨⟨by rw [hs];exact hn,by rw [hs,← he,← h2,(hxc.2 hz).1],h3,by rw [hs];exact h4.1⟩,fun _=>h4.2⟩
   ·rintro⟨⟨h1,h2,h3,h4⟩,h5⟩
    have h5:=h5 hs
    rw [hs] at h2 h4
    have hz:=nz h4 h5
    exact⟨(hhas _).2 h1,by rw [hs,hat,(hxc.2 hz).1,he];exact h2,h3,by rw [hs,hat,hxt,h4,h5];rfl⟩
  ·constructor
   ·rintro⟨h1,h2,h3,h4⟩
    have h1':=(hhas _).1 h1
    rw [hne _ h1' hs] at h2 h4
    exact⟨⟨h1',h2,h3,h4⟩,fun h=>absurd h hs⟩
   ·rintro⟨⟨h1,h2,h3,h4⟩,_⟩
    exact⟨(hhas _).2 h1,by rw [hne _ h1 hs];exact h2,h3,by rw [hne _ h1 hs];exact h4⟩
 have hwf:Wf b:=⟨by rw [hlen,hws];exact H.len,by rw [hlen];exact H.hi,fun m hm=>by
  have hm':=(hhas m).1 hm
  by_cases e:m=n
  ·subst e
   rw [hat]
   by_cases hz:(a.at m).tk &&& (a.at m).md=0
   ·rw [hxc.1 hz];exact .inl rfl
   ·right
    rw [(hxc.2 hz).1]
    refine⟨c0,c5,fun j hj=>?_⟩
    rw [hxt,hbd j hj];rfl
  ·rw [hne m hm' e];exact H.fi m hm'⟩
 have hf:∀ ad m q,b.find ad=some (m,q)↔a.find ad=some (m,q)∧(m=n→(a.at n).md.getLsbD q=true):=fun ad m q=>by
  constructor
  ·intro hf
   obtain⟨g1,g2⟩:=find_en hf
   obtain⟨g3,g4⟩:=(hpl _).1 g2
   have:=placed_find' H g3
   rw [g1] at this;exact⟨this,g4⟩
  ·rintro⟨hf,h⟩
   obtain⟨g1,g2⟩:=find_en hf
   have:=placed_find' hwf ((hpl _).2 ⟨g2,h⟩)
   rw [g1] at this;exact this
 refine⟨hwf,hlen,hf,fun ad W L hb=>?_,fun ad hb=>?_,fun m hm=>by rw [hcls,if_neg hm],?_⟩
 ·obtain⟨⟨m,q⟩,hb⟩:=Option.ne_none_iff_exists'.1 hb
  obtain⟨h1,h2⟩:=(hf ad m q).1 hb
  obtain⟨e,k1,k2,k3⟩:=L.en
  have:=placed_find' H k2
  rw [k1,h1] at this
  injection this with this
  injection this with e1 e2
  exact⟨⟨e,k1,(hpl e).2 ⟨k2,fun hs=>by rw [← e2];exact h2 (by rw [e1];exact hs)⟩,k3⟩,fun i hi=>by rw [hws];exact L.wd i hi⟩
 ·obtain⟨⟨m,q⟩,hb⟩:=Option.ne_none_iff_exists'.1 hb
  obtain⟨h1,h2⟩:=(hf ad m q).1 hb
  rw [isM_of h1,isM_of hb]
  by_cases e:m=n
  ·subst e
   rw [hat,(hxc.2 (nz (find_some h1).2.2.2.1 (h2 rfl))).2]
  ·rw [hne m (find_some h1).1 e]
 ·by_cases hz:(a.at n).tk &&& (a.at n).md=0
  ·left;rw [hcls,if_pos rfl,hxc.1 hz]
  ·right
   refine⟨by rw [hcls,if_pos rfl,(hxc.2 hz).1],?_⟩
   obtain⟨j,hj⟩:∃ j,((a.at n).tk &&& (a.at n).md).getLsbD j=true:=by
    apply Classical.byContradiction
    intro hno
    apply hz
    apply BitVec.eq_of_getLsbD_eq
    intro j _
    cases hb:((a.at n).tk &&& (a.at n).md).getLsbD j with
    | true=>exact absurd ⟨j,hb⟩ hno
    | false=>simp
   rw [BitVec.getLsbD_and,Bool.and_eq_true] at hj
   have hjp:j<pls (a.cls n):=by
    apply Classical.byContradiction
    intro h
    rw [hbd j (by omega)] at hj;cases hj.1
   have hfd:=find_at (a:=a) H.hi hn (q:=j) (by rw [← he];omega)
   rw [hj.1,if_pos rfl] at hfd
   exact⟨_,j,(hf _ n j).2 ⟨hfd,fun _=>hj.2⟩⟩
theorem sweep_wf {a:PAr}(H:Wf a)(n:Int):Wf (a.sweep n).2:=by
 by_cases hc:a.cls n = -1
 ·rw [sweep_no hc];exact H
 ·exact(sweep_swept H hc).wf
set_option linter.all false
def PAl.u (l:PAl)(m:Int):Bool:=(l.un[m.toNat]?).getD false
structure SwE (l l':PAl):Prop where
 wf:Wf l'.ar
 len:l'.ar.sp.length=l.ar.sp.length
 unl:l'.un.length=l.un.length
 un:∀ m,l'.u m=true→l.u m=true
 find:∀ ad m q,l'.ar.find ad=some (m,q)↔l.ar.find ad=some (m,q)∧(l.u m=true→l'.u m=false→l.ar.isM ad=true)
 lies:∀ ad W,Lies l.ar ad W→l'.ar.find ad≠none→Lies l'.ar ad W
 isM:∀ ad,l'.ar.find ad≠none→l'.ar.isM ad=l.ar.isM ad
theorem SwE.refl {l:PAl}(H:Wf l.ar):SwE l l:=⟨H,rfl,rfl,fun m h=>h,fun ad m q=>⟨fun h=>⟨h,fun h1 h2=>by rw [h1] at h2;cases h2⟩,fun h=>h.1⟩,fun ad W h _=>h,fun ad _=>rfl⟩
theorem SwE.back {l l':PAl}(S:SwE l l'){ad:Int}(h:l'.ar.find ad≠none):l.ar.find ad≠none:=by
 obtain⟨⟨m,q⟩,h⟩:=Option.ne_none_iff_exists'.1 h
 rw [((S.find ad m q).1 h).1];simp
theorem SwE.trans {l l' l'':PAl}(S:SwE l l')(R:SwE l' l''):SwE l l'':=
 ⟨R.wf,R.len.trans S.len,R.unl.trans S.unl,fun m h=>S.un m (R.un m h),fun ad m q=>by
  rw [R.find,S.find]
  constructor
  ·rintro⟨⟨h1,h2⟩,h3⟩
   refine⟨h1,fun h4 h5=>?_⟩
   cases h6:l'.u m with
   | false=>exact h2 h4 h6
   | true=>
    have h7:=h3 h6 h5
    rw [S.isM ad] at h7
    ·exact h7
    ·rw [(S.find ad m q).2 ⟨h1,fun h8 h9=>by rw [h6] at h9;cases h9⟩];simp
  ·rintro⟨h1,h2⟩
   have hf:l'.ar.find ad=some (m,q):=(S.find ad m q).2 ⟨h1,fun h4 h5=>h2 h4 (by
    cases h6:l''.u m with
    | false=>rfl
    | true=>have:=R.un m h6;rw [h5] at this;cases this)⟩
   refine⟨(S.find ad m q).1 hf,fun h3 h4=>?_⟩
   rw [S.isM ad (by rw [hf];simp)]
   exact h2 (S.un m h3) h4,fun ad W h1 h2=>R.lies ad W (S.lies ad W h1 (R.back h2)) h2,fun ad h=>(R.isM ad h).trans (S.isM ad (R.back h))⟩
theorem u_set (l:PAl)(a:PAr)(n:Nat){m:Int}(hm:0≤m):(⟨a,l.un.set n false⟩:PAl).u m=if m=n then false else l.u m:=by
 unfold PAl.u
 simp only
 by_cases e:m.toNat=n
 ·rw [if_pos (by omega),e]
  by_cases hn:n<l.un.length
  ·rw [List.getElem?_set_self hn];rfl
  ·rw [List.getElem?_eq_none (by simp;omega)];rfl
 ·rw [if_neg (by omega),List.getElem?_set_ne (fun e'=>e e'.symm)]
theorem u_setN (l:PAl)(a:PAr)(n:Nat)(m:Int)(h:(⟨a,l.un.set n false⟩:PAl).u m=true):l.u m=true:=by
 unfold PAl.u at *
 simp only at h
 by_cases e:m.toNat=n
 ·rw [e] at h
  by_cases hn:n<l.un.length
  ·rw [List.getElem?_set_self hn] at h;cases h
  ·rw [List.getElem?_eq_none (by simp;omega)] at h;cases h
 ·rwa [List.getElem?_set_ne (fun e'=>e e'.symm)] at h
theorem u_sweep (l:PAl)(n:Nat){m:Int}(hm:0≤m):(l.sweepU n).u m=if m=n then false else l.u m:=u_set l _ n hm
theorem swe_one {l:PAl}(H:Wf l.ar){n:Nat}(hu:(l.un[n]?).getD false=true):SwE l (l.sweepU n):=by
 have hl:=sweepL_len l n
 have hun:l.u n=true:=by unfold PAl.u;rw [Int.toNat_natCast];exact hu
 by_cases hc:l.ar.cls n = -1
 ·have e:(l.sweepU n).ar=l.ar:=by show(l.ar.sweep n).2=l.ar;rw [sweep_no hc]
  refine⟨by rw [e];exact H,hl.2,hl.1,fun m h=>u_setN l _ n m h,fun ad m q=>?_,fun ad W h _=>by rw [e];exact h,fun ad _=>by rw [e]⟩
  rw [e]
  refine⟨fun h=>⟨h,fun h1 h2=>?_⟩,fun h=>h.1⟩
  exfalso
  obtain⟨f1,_,_,_,_,f6,_⟩:=find_some h
  have hm:=f1.1
  rw [u_sweep l n (by omega)] at h2
  by_cases e:m=n
  ·subst e
   rw [cls_at f1] at hc
   omega
  ·rw [if_neg e,h1] at h2;cases h2
 ·have W:=sweep_swept H hc
  refine⟨W.wf,hl.2,hl.1,fun m h=>u_setN l _ n m h,fun ad m q=>?_,fun ad W' h1 h2=>W.lies ad W' h1 h2,fun ad h=>W.isM ad h⟩
  rw [show(l.sweepU n).ar=(l.ar.sweep n).2 from rfl,W.find ad m q]
  constructor
  ·rintro⟨h1,h2⟩
   refine⟨h1,fun h3 h4=>?_⟩
   have hm:=(find_some h1).1.1
   rw [u_sweep l n (by omega)] at h4
   by_cases e:m=n
   ·rw [isM_of h1,e];exact h2 e
   ·rw [if_neg e,h3] at h4;cases h4
  ·rintro⟨h1,h2⟩
   refine⟨h1,fun e=>?_⟩
   have:=h2 (by rw [e];exact hun) (by
    have hm:=(find_some h1).1.1
    rw [u_sweep l n (by omega),if_pos e])
   rw [isM_of h1,e] at this;exact this
theorem swe_at1 {l:PAl}(H:Wf l.ar)(c:Int)(n:Nat):SwE l (l.at1 c n)∧(l.at1 c n).u n=false:=by
 unfold PAl.at1
 split
 ·rename_i h
  refine⟨swe_one H h,?_⟩
  rw [u_sweep l n (by omega),if_pos rfl]
 ·rename_i h
  refine⟨SwE.refl H,?_⟩
  unfold PAl.u;rw [Int.toNat_natCast];simpa using h
structure Made (l1 l':PAl)(ad c:Int):Prop where
 wf:Wf l'.ar
 none:l1.ar.find ad=none
 lo:64≤ad
 hi:ad < 32768
 lies:Lies l'.ar ad (List.replicate (wordsOf c).toNat 0)
 isM:l'.ar.isM ad=false
 stay:Stay l1.ar l'.ar ad
 unl:l'.un.length=l1.un.length
 un:∀ m,l'.u m=true→l1.u m=true
 unf:∀ x m q,l1.ar.find x=some (m,q)→l'.u m=l1.u m
 una:l'.u (spanOf ad)=false
theorem take_at {a:PAr}{n ad:Int}{b:PAr}(hn:a.has n)(hN:a.sp.length≤512)(hc:0≤(a.at n).cls∧(a.at n).cls≤5)(h:a.take n=(ad,0,b)):spanOf ad=n:=by
 obtain⟨P0,P1,P2,W1,W2,P3⟩:=pls_eq hc
 have h1:=hn.1
 have h2:=hn.2
 unfold PAr.take at h
 split at h
 ·cases h
 ·split at h
  ·cases h
  ·rename_i hq
   have hwp:=wp_cases (a.at n).cls (first0 (a.at n).tk) (by omega) (by omega)
   have e:n * 64+first0 (a.at n).tk*wordsOf (a.at n).cls=ad:=congrArg Prod.fst h
   have h0:(0:Int)≤(first0 (a.at n).tk:Int)*wordsOf (a.at n).cls:=Int.mul_nonneg (by omega) (by omega)
   rw [← e]
   exact spanOf_at ⟨by omega,by omega⟩ h0 (by omega)
theorem made_take {l1:PAl}(H:Wf l1.ar){c:Int}(hc:0≤c∧c≤5){n:Nat}(hr:roomAt l1.ar c n)(hu:l1.u n=false):∃ ad l',((l1.ar.take n).1,(l1.ar.take n).2.1)=(ad,0)∧(⟨(l1.ar.take n).2.2,l1.un⟩:PAl)=l'∧Made l1 l' ad c:=by
 obtain⟨ad,b',t1,t2,t3,t4,t5,t6,t7,t8,t9⟩:=take_lies H hc hr
 obtain⟨_,_,hn,hcl⟩:=room_bit hc hr H.fi
 have hs:=take_at hn H.hi (by rw [hcl];exact hc) t1
 rw [t1]
 exact⟨ad,_,rfl,rfl,t2,t3,t4,t5,t6,t7,t8,rfl,fun m h=>h,fun x m q h=>rfl,by rw [hs];exact hu⟩
theorem made_begin {l1:PAl}(H:Wf l1.ar){c:Int}(hc:0≤c∧c≤5){n:Nat}(hn:l1.ar.has n)(h1:l1.ar.cls n = -1):∃ ad,(l1.beginU n c).1=(ad,0)∧Made l1 (l1.beginU n c).2 ad c:=by
 obtain⟨b,e1,e2,e3,e4,e5,e6,e7⟩:=set_lies H hc hn h1 0
 obtain⟨ad,b',t1,t2,t3,t4,t5,t6,t7,t8,t9⟩:=take_lies e2 hc e5
 obtain⟨b2,e1',e2',e3',e4',e5',e6',e7'⟩:=set_lies H hc hn h1 ad
 have hbb:b2=b:=by rw [e1] at e1';cases e1';rfl
 subst hbb
 have hb1:(l1.beginU n c).1=(ad,0):=by unfold PAl.beginU;rw [e1];simp only;rw [t1]
 have hb2:(l1.beginU n c).2=⟨b',l1.un.set n false⟩:=by unfold PAl.beginU;rw [e1];simp only;rw [t1]
 obtain⟨_,_,hn2,hcl⟩:=room_bit hc e5 e2.fi
 have hs:=take_at hn2 e2.hi (by rw [hcl];exact hc) t1
 refine⟨ad,hb1,?_⟩
 rw [hb2]
 refine⟨t2,by rw [← e6',t3],t4,t5,t6,t7,e3'.trans t8,by simp,fun m h=>u_setN l1 _ n m h,fun x m q h=>?_,?_⟩
 ·obtain⟨f1,_,_,_,_,f6,_⟩:=find_some h
  have hm:=f1.1
  rw [u_set l1 _ n (by omega),if_neg]
  intro e
  subst e
  rw [cls_at f1] at h1;omega
 ·rw [hs,u_set l1 _ n (by omega),if_pos rfl]
def Got (l:PAl)(c:Int)(res:Option (Int × Int) × PAl):Prop:=∃ l1,SwE l l1∧(res=(none,l1)∨∃ ad l',res=(some (ad,0),l')∧Made l1 l' ad c)
theorem Got.after {l l1:PAl}{c:Int}{res:Option (Int × Int) × PAl}(S:SwE l l1)(G:Got l1 c res):Got l c res:=by
 obtain⟨l2,h1,h2⟩:=G
 exact⟨l2,S.trans h1,h2⟩
theorem got_scan1 {c:Int}(hc:0≤c∧c≤5):∀ (k n:Nat) (l:PAl),Wf l.ar→Got l c (PAl.scan1 c k n l)
 | 0,n,l,H=>⟨l,SwE.refl H,.inl rfl⟩
 | k+1,n,l,H=>by
  rw [PAl.scan1]
  split
  ·exact got_scan1 hc k (n+1) l H
  ·obtain⟨S,hu⟩:=swe_at1 H c n
   split
   ·rename_i hr
    obtain⟨ad,l',e1,e2,M⟩:=made_take S.wf hc hr hu
    rw [e1,e2]
    exact⟨_,S,.inr ⟨ad,l',rfl,M⟩⟩
   ·exact(got_scan1 hc k (n+1) _ S.wf).after S
theorem got_scan2 {c:Int}(hc:0≤c∧c≤5):∀ (k n:Nat) (l:PAl),Wf l.ar→1≤n→(k≠0→n+k≤l.ar.sp.length)→Got l c (PAl.scan2 c k n l)
 | 0,n,l,H,h1,h2=>⟨l,SwE.refl H,.inl rfl⟩
 | k+1,n,l,H,h1,h2=>by
  rw [PAl.scan2]
  have h2:=h2 (by omega)
  split
  ·rename_i hcl
   obtain⟨ad,e1,M⟩:=made_begin H hc (n:=n) ⟨by omega,by omega⟩ hcl
   rw [e1]
   exact⟨l,SwE.refl H,.inr ⟨ad,_,rfl,M⟩⟩
  ·exact got_scan2 hc k (n+1) l H (by omega) (fun _=>by omega)
theorem got_scan3 {c:Int}(hc:0≤c∧c≤5):∀ (k n:Nat) (l:PAl),Wf l.ar→U0 l→n+k≤l.ar.sp.length→Got l c (PAl.scan3 c k n l)
 | 0,n,l,H,h1,h2=>⟨l,SwE.refl H,.inl rfl⟩
 | k+1,n,l,H,h1,h2=>by
  rw [PAl.scan3]
  split
  ·rename_i hu
   have S:=swe_one H hu
   have hn:1≤n:=by
    rcases Nat.eq_zero_or_pos n with h | h
    ·subst h;unfold U0 at h1;rw [h1] at hu;cases hu
    ·exact h
   have hl:=S.len
   split
   ·rename_i hcl
    obtain⟨ad,e1,M⟩:=made_begin S.wf hc (n:=n) ⟨by omega,by omega⟩ hcl
    rw [e1]
    exact⟨_,S,.inr ⟨ad,_,rfl,M⟩⟩
   ·exact(got_scan3 hc k (n+1) _ S.wf (u0_set h1 _ n) (by omega)).after S
  ·exact got_scan3 hc k (n+1) l H h1 (by omega)
theorem u0_swe {l l':PAl}(S:SwE l l')(h:U0 l):U0 l':=by
 unfold U0 at *
 cases h1:(l'.un[0]?).getD false with
 | false=>rfl
 | true=>
  have:=S.un 0 (by unfold PAl.u;exact h1)
  unfold PAl.u at this
  rw [show(0:Int).toNat=0 from rfl,h] at this;cases this
theorem gtake {l:PAl}(H:Wf l.ar)(hu:l.un.length=l.ar.sp.length)(h0:U0 l){w:Int}(hw:classOf w≠-1) :
  ∃ l1,SwE l l1∧(l.take w=((0,5),l1)∨∃ ad l',l.take w=((ad,0),l')∧Made l1 l' ad (classOf w)):=by
 have hc:0≤classOf w∧classOf w≤5:=by
  rcases classOf_range w with h | h
  ·exact absurd h hw
  ·exact⟨h.1,h.2.1⟩
 unfold PAl.take
 rw [if_neg hw]
 obtain⟨l1,S1,h1⟩:=got_scan1 hc l.un.length 0 l H
 rcases h1 with h1 | ⟨ad,l',h1,M⟩
 ·rw [h1]
  simp only
  unfold PAl.more
  have e1:=S1.len
  have e2:=S1.unl
  obtain⟨l2,S2,h2⟩:=got_scan2 hc (l1.un.length - 1) 1 l1 S1.wf (by omega) (fun h=>by omega)
  rcases h2 with h2 | ⟨ad,l',h2,M⟩
  ·rw [h2]
   simp only
   unfold PAl.more2
   have e3:=S2.len
   have e4:=S2.unl
   obtain⟨l3,S3,h3⟩:=got_scan3 hc l2.un.length 0 l2 S2.wf (u0_swe S2 (u0_swe S1 h0)) (by omega)
   rcases h3 with h3 | ⟨ad,l',h3,M⟩
   ·rw [h3]
    exact⟨l3,S1.trans (S2.trans S3),.inl rfl⟩
   ·rw [h3]
    exact⟨l3,S1.trans (S2.trans S3),.inr ⟨ad,l',rfl,M⟩⟩
  ·rw [h2]
   exact⟨l2,S1.trans S2,.inr ⟨ad,l',rfl,M⟩⟩
 ·rw [h1]
  exact⟨l1,S1,.inr ⟨ad,l',rfl,M⟩⟩
set_option linter.all false
attribute [local congr] c_bind c_cl c_mk c_lp c_clC c_gQ c_gV c_condE c_thenK
structure SC where
 l:PAl
 gq:List Int
 ph:Int
 bl:List Int
 dn:Int
structure SH where
 L:Nat→List Int
 on:Nat→Bool
 ms:List Int
structure Vb where
 qb:Option Nat
 b:Option Nat
 bT:Option Nat
 bq:Option Nat
 cls:List Int
 L:List Tm
 lb:Nat→Option Nat
def cyC (C K:Nat→Nat)(p:SC)(us:Int):List AV:=[.ptr (some (C 6,0)),.ptr (some (C 2,0)),.ptr (some (C 4,0)),.ptr (some (C 11,0)),.int .i64 p.ph,.mp (some (K 1)),.int .i64 p.dn,.int .i64 us]
def dcC (D:Nat→Nat)(v:AV)(r:SC)(us:Int):List AV:=[.ptr (some (D 0,0)),.ptr (some (D 2,0)),.ptr (some (D 4,0)),.int .i64 r.ph,v,.int .i64 r.dn,.int .i64 us]
def plC (K:Nat→Nat)(v:AV):List AV:=[.ptr (some (K 0,0)),.ptr (some (K 2,0)),.ptr (some (K 4,0)),v]
def hoC (w:Nat→AV)(on:Nat→Bool):List AV:=[w 0,w 1,w 2,w 3,w 4,.bool (on 0),.bool (on 1),.bool (on 2),.bool (on 3)]
structure Yw (g:Heap)(C D K:Nat→Nat)(lb:Nat→Option Nat)(p r:SC)(h:SH):Prop where
 cy:∃ u,g.get (K 0)=some (.cells true (cyC C K p u))
 mp:g.get (K 1)=some (.mp (SetM p.bl))
 dc:∃ v u,g.get (K 2)=some (.cells true (dcC D v r u))∧SlG g (lb 6) 1 v (wsC r.bl) r.bl.length
 pl:∃ v,g.get (K 3)=some (.cells true (plC K v))∧SlG g (lb 5) 1 v (wsC h.ms) h.ms.length
 ho:∃ w,g.get (K 4)=some (.cells true (hoC w h.on))∧∀ i,i < 5→SlG g (lb i) 1 (w i) (wsC (h.L i)) (h.L i).length
 lt:∀ i,i < 5→K i<g.next∧K i≠0
 inj:∀ i j,i < 5→j < 5→K i=K j→i=j
 lbl:∀ i,i < 7→∀ b,lb i=some b→b≠0∧b<g.next∧∀ j,j < 5→b≠K j
 lbi:∀ i j,i < 7→j < 7→∀ b,lb i=some b→lb j=some b→i=j
def ownY (K:Nat→Nat)(lb:Nat→Option Nat):List Nat:=K 0::K 1::K 2::K 3::K 4::(List.range 7).filterMap lb
theorem ownY_mem {K:Nat→Nat}{lb:Nat→Option Nat}{j:Nat}:j∈ownY K lb↔(∃ i,i < 5∧j=K i)∨∃ i,i < 7∧lb i=some j:=by
 simp only [ownY,List.mem_cons,List.mem_filterMap,List.mem_range]
 constructor
 ·rintro(h | h | h | h | h | h)
  ·exact .inl ⟨0,by omega,h⟩
  ·exact .inl ⟨1,by omega,h⟩
  ·exact .inl ⟨2,by omega,h⟩
  ·exact .inl ⟨3,by omega,h⟩
  ·exact .inl ⟨4,by omega,h⟩
  ·exact .inr h
 ·rintro(⟨i,hi,h⟩ | h)
  ·rcases (by omega:i=0∨i=1∨i=2∨i=3∨i=4) with rfl | rfl | rfl | rfl | rfl<;>simp [h]
  ·simp [h]
theorem ownK {K:Nat→Nat}{lb:Nat→Option Nat}(i:Nat)(hi:i < 5:=by omega):K i∈ownY K lb:=ownY_mem.2 (.inl ⟨i,hi,rfl⟩)
theorem ownL {K:Nat→Nat}{lb:Nat→Option Nat}{b:Nat}(i:Nat)(h:lb i=some b)(hi:i < 7:=by omega):b∈ownY K lb:=ownY_mem.2 (.inr ⟨i,hi,h⟩)
section
variable {g g':Heap}{C D K:Nat→Nat}{lb:Nat→Option Nat}{p r:SC}{h:SH}
theorem Yw.own (Y:Yw g C D K lb p r h){j:Nat}(hj:j∈ownY K lb):j≠0∧j<g.next:=by
 rcases ownY_mem.1 hj with⟨i,hi,rfl⟩ | ⟨i,hi,hb⟩
 ·exact⟨(Y.lt i hi).2,(Y.lt i hi).1⟩
 ·exact⟨(Y.lbl i hi j hb).1,(Y.lbl i hi j hb).2.1⟩
theorem Yw.frame {S : List Nat} (Y : Yw g C D K lb p r h) (s : Same S g g') (hS : ∀ j ∈ S, j ∉ ownY K lb) : Yw g' C D K lb p r h := by
  obtain ⟨u0, cy0⟩ := Y.cy
  obtain ⟨v2, u2, d1, d2⟩ := Y.dc
  obtain ⟨v3, p1, p2⟩ := Y.pl
  obtain ⟨w, h1, h2⟩ := Y.ho
  have hk : ∀ i, i < 5 → g'.get (K i) = g.get (K i) := fun i hi => s.get _ (Y.lt i hi).1 (fun hm => hS _ hm (ownY_mem.2 (.inl ⟨i, hi, rfl⟩)))
  have hl : ∀ i, i < 7 → ∀ b, lb i = some b → b ∉ S := fun i hi b hb hm => hS _ hm (ownY_mem.2 (.inr ⟨i, hi, hb⟩))
  exact
  { cy := ⟨u0, (hk 0 (by omega)).trans cy0⟩
    mp := (hk 1 (by omega)).trans Y.mp
    dc := ⟨v2, u2, (hk 2 (by omega)).trans d1, d2.keep s (hl 6 (by omega))⟩
    pl := ⟨v3, (hk 3 (by omega)).trans p1, p2.keep s (hl 5 (by omega))⟩
    ho := ⟨w, (hk 4 (by omega)).trans h1, fun i hi => (h2 i hi).keep s (hl i (by omega))⟩
    lt := fun i hi => ⟨Nat.lt_of_lt_of_le (Y.lt i hi).1 s.next, (Y.lt i hi).2⟩
    inj := Y.inj
    lbl := fun i hi b hb => ⟨(Y.lbl i hi b hb).1, Nat.lt_of_lt_of_le (Y.lbl i hi b hb).2.1 s.next, (Y.lbl i hi b hb).2.2⟩
    lbi := Y.lbi }
theorem Yw.kp {Z:List Nat}(Y:Yw g C D K lb p r h)(k:KpX Z g g')(hZ:∀ j∈ownY K lb,j∈Z):Yw g' C D K lb p r h:=
 Y.frame k.frame fun j hj hm=>not_out (hZ j hm) hj
theorem Yw.cell (Y:Yw g C D K lb p r h){k:Nat}(hk:k < 5)(x:Blk):(∀ i,i < 5→i≠k→(g.put (K k) (some x)).get (K i)=g.get (K i))∧(∀ i,i < 7→∀ b,lb i=some b→b∉[K k])∧(g.put (K k) (some x)).get (K k)=some x:=
 ⟨fun i hi hne=>get_put_ne (fun e=>hne (Y.inj i k hi hk e)),fun i hi b hb=>by simpa using (Y.lbl i hi b hb).2.2 k hk,get_put_eq⟩
theorem Yw.setP (Y : Yw g C D K lb p r h) (ph dn us : Int) : Yw (g.put (K 0) (some (.cells true (cyC C K ⟨p.l, p.gq, ph, p.bl, dn⟩ us)))) C D K lb ⟨p.l, p.gq, ph, p.bl, dn⟩ r h := by
  obtain ⟨c1, c2, c3⟩ := Y.cell (k := 0) (by omega) (.cells true (cyC C K ⟨p.l, p.gq, ph, p.bl, dn⟩ us))
  obtain ⟨u0, cy0⟩ := Y.cy
  obtain ⟨v2, u2, d1, d2⟩ := Y.dc
  obtain ⟨v3, p1, p2⟩ := Y.pl
  obtain ⟨w, h1, h2⟩ := Y.ho
  exact
  { cy := ⟨us, c3⟩
    mp := (c1 1 (by omega) (by omega)).trans Y.mp
    dc := ⟨v2, u2, (c1 2 (by omega) (by omega)).trans d1, d2.keep (Same.put _ _ _) (c2 6 (by omega))⟩
    pl := ⟨v3, (c1 3 (by omega) (by omega)).trans p1, p2.keep (Same.put _ _ _) (c2 5 (by omega))⟩
    ho := ⟨w, (c1 4 (by omega) (by omega)).trans h1, fun i hi => (h2 i hi).keep (Same.put _ _ _) (c2 i (by omega))⟩
    lt := Y.lt
    inj := Y.inj
    lbl := Y.lbl
    lbi := Y.lbi }
theorem Yw.setM (Y : Yw g C D K lb p r h) (bl : List Int) : Yw (g.put (K 1) (some (.mp (SetM bl)))) C D K lb ⟨p.l, p.gq, p.ph, bl, p.dn⟩ r h := by
  obtain ⟨c1, c2, c3⟩ := Y.cell (k := 1) (by omega) (.mp (SetM bl))
  obtain ⟨u0, cy0⟩ := Y.cy
  obtain ⟨v2, u2, d1, d2⟩ := Y.dc
  obtain ⟨v3, p1, p2⟩ := Y.pl
  obtain ⟨w, h1, h2⟩ := Y.ho
  exact
  { cy := ⟨u0, (c1 0 (by omega) (by omega)).trans cy0⟩
    mp := c3
    dc := ⟨v2, u2, (c1 2 (by omega) (by omega)).trans d1, d2.keep (Same.put _ _ _) (c2 6 (by omega))⟩
    pl := ⟨v3, (c1 3 (by omega) (by omega)).trans p1, p2.keep (Same.put _ _ _) (c2 5 (by omega))⟩
    ho := ⟨w, (c1 4 (by omega) (by omega)).trans h1, fun i hi => (h2 i hi).keep (Same.put _ _ _) (c2 i (by omega))⟩
    lt := Y.lt
    inj := Y.inj
    lbl := Y.lbl
    lbi := Y.lbi }
theorem Yw.setR (Y : Yw g C D K lb p r h) {v : AV} {u : Int} (hv : g.get (K 2) = some (.cells true (dcC D v r u))) (ph dn us : Int) : Yw (g.put (K 2) (some (.cells true (dcC D v ⟨r.l, r.gq, ph, r.bl, dn⟩ us)))) C D K lb p ⟨r.l, r.gq, ph, r.bl, dn⟩ h := by
  obtain ⟨c1, c2, c3⟩ := Y.cell (k := 2) (by omega) (.cells true (dcC D v ⟨r.l, r.gq, ph, r.bl, dn⟩ us))
  obtain ⟨u0, cy0⟩ := Y.cy
  obtain ⟨v2, u2, d1, d2⟩ := Y.dc
  obtain ⟨v3, p1, p2⟩ := Y.pl
  obtain ⟨w, h1, h2⟩ := Y.ho
  have e : v = v2 := by rw [d1] at hv; simp [dcC] at hv; exact hv.1.symm
  subst e
  exact
  { cy := ⟨u0, (c1 0 (by omega) (by omega)).trans cy0⟩
    mp := (c1 1 (by omega) (by omega)).trans Y.mp
    dc := ⟨v, us, c3, d2.keep (Same.put _ _ _) (c2 6 (by omega))⟩
    pl := ⟨v3, (c1 3 (by omega) (by omega)).trans p1, p2.keep (Same.put _ _ _) (c2 5 (by omega))⟩
    ho := ⟨w, (c1 4 (by omega) (by omega)).trans h1, fun i hi => (h2 i hi).keep (Same.put _ _ _) (c2 i (by omega))⟩
    lt := Y.lt
    inj := Y.inj
    lbl := Y.lbl
    lbi := Y.lbi }
theorem Yw.setOn (Y : Yw g C D K lb p r h) {w : Nat → AV} (hw : g.get (K 4) = some (.cells true (hoC w h.on))) (hl : ∀ i, i < 5 → SlG g (lb i) 1 (w i) (wsC (h.L i)) (h.L i).length) (on : Nat → Bool) : Yw (g.put (K 4) (some (.cells true (hoC w on)))) C D K lb p r ⟨h.L, on, h.ms⟩ := by
  obtain ⟨c1, c2, c3⟩ := Y.cell (k := 4) (by omega) (.cells true (hoC w on))
  obtain ⟨u0, cy0⟩ := Y.cy
  obtain ⟨v2, u2, d1, d2⟩ := Y.dc
  obtain ⟨v3, p1, p2⟩ := Y.pl
  exact
  { cy := ⟨u0, (c1 0 (by omega) (by omega)).trans cy0⟩
    mp := (c1 1 (by omega) (by omega)).trans Y.mp
    dc := ⟨v2, u2, (c1 2 (by omega) (by omega)).trans d1, d2.keep (Same.put _ _ _) (c2 6 (by omega))⟩
    pl := ⟨v3, (c1 3 (by omega) (by omega)).trans p1, p2.keep (Same.put _ _ _) (c2 5 (by omega))⟩
    ho := ⟨w, c3, fun i hi => (hl i hi).keep (Same.put _ _ _) (c2 i (by omega))⟩
    lt := Y.lt
    inj := Y.inj
    lbl := Y.lbl
    lbi := Y.lbi }
theorem Yw.list (Y:Yw g C D K lb p r h){k:Nat}(hk:k < 7){g1:Heap}{S:List Nat}(s:Same S g g1)(hS:∀ j∈S,lb k=some j){b:Option Nat}(hb:∀ j,b=some j→lb k=some j∨(g.next≤j∧j<g1.next)) :
  (∀ i,i < 5→g1.get (K i)=g.get (K i))∧(∀ i,i < 7→i≠k→∀ b,lb i=some b→b∉S)∧
  (∀ i,i < 7→∀ b',upd lb k b i=some b'→b'≠0∧b'<g1.next∧∀ j,j < 5→b'≠K j)∧
  (∀ i j,i < 7→j < 7→∀ b',upd lb k b i=some b'→upd lb k b j=some b'→i=j):=by
 have hn:=s.next
 have z0:0<g.next:=by have:=(Y.lt 0 (by omega)).1;omega
 refine⟨fun i hi=>s.get _ (Y.lt i hi).1 fun hm=>(Y.lbl k hk _ (hS _ hm)).2.2 i hi rfl,fun i hi hne b' hb' hm=>hne (Y.lbi i k hi hk b' hb' (hS _ hm)),fun i hi b' hb'=>?_,fun i j hi hj b' hb1 hb2=>?_⟩
 ·by_cases e:i=k
  ·subst e
   rw [upd_eq] at hb'
   rcases hb b' hb' with h1 | ⟨h1,h2⟩
   ·obtain⟨x1,x2,x3⟩:=Y.lbl i hi b' h1
    exact⟨x1,by omega,x3⟩
   ·exact⟨by omega,h2,fun j hj e=>by have:=(Y.lt j hj).1;omega⟩
  ·rw [upd_ne _ _ e] at hb'
   obtain⟨x1,x2,x3⟩:=Y.lbl i hi b' hb'
   exact⟨x1,by omega,x3⟩
 ·have key:∀ m,m < 7→m≠k→upd lb k b m=some b'→b≠some b':=fun m hm hne hu he=>by
   rw [upd_ne _ _ hne] at hu
   rcases hb b' he with h1 | ⟨h1,_⟩
   ·exact hne (Y.lbi m k hm hk b' hu h1)
   ·have:=(Y.lbl m hm b' hu).2.1;omega
  by_cases e1:i=k
  ·by_cases e2:j=k
   ·omega
   ·subst e1
    rw [upd_eq] at hb1
    exact absurd hb1 (key j hj e2 hb2)
  ·by_cases e2:j=k
   ·subst e2
    rw [upd_eq] at hb2
    exact absurd hb2 (key i hi e1 hb1)
   ·rw [upd_ne _ _ e1] at hb1
    rw [upd_ne _ _ e2] at hb2
    exact Y.lbi i j hi hj b' hb1 hb2
theorem hoC_set {w:Nat→AV}{on:Nat→Bool}{k:Nat}(hk:k < 5)(v:AV):(hoC w on).set k v=hoC (upd w k v) on:=by
 rcases (by omega:k=0∨k=1∨k=2∨k=3∨k=4) with rfl | rfl | rfl | rfl | rfl<;>rfl
theorem hoC_at {w:Nat→AV}{on:Nat→Bool}{k:Nat}(hk:k < 5):(hoC w on)[k]?=some (w k):=by
 rcases (by omega:k=0∨k=1∨k=2∨k=3∨k=4) with rfl | rfl | rfl | rfl | rfl<;>rfl
theorem hoC_on {w:Nat→AV}{on:Nat→Bool}{k:Nat}(hk:k < 4):(hoC w on)[5+k]?=some (.bool (on k)):=by
 rcases (by omega:k=0∨k=1∨k=2∨k=3) with rfl | rfl | rfl | rfl<;>rfl
theorem hoC_seton {w:Nat→AV}{on:Nat→Bool}{k:Nat}(hk:k < 4)(x:Bool):(hoC w on).set (5+k) (.bool x)=hoC w (upd on k x):=by
 rcases (by omega:k=0∨k=1∨k=2∨k=3) with rfl | rfl | rfl | rfl<;>rfl
theorem Yw.setL (Y : Yw g C D K lb p r h) {k : Nat} (hk : k < 5) {w : Nat → AV} (hw : g.get (K 4) = some (.cells true (hoC w h.on))) {g1 : Heap} {S : List Nat} (s : Same S g g1) (hS : ∀ j ∈ S, lb k = some j) {b : Option Nat} (hb : ∀ j, b = some j → lb k = some j ∨ (g.next ≤ j ∧ j < g1.next)) {v : AV} {L : List Int} (hv : SlG g1 b 1 v (wsC L) L.length) :
    stP 1 g1 (.ptr (some (K 4, k))) v = some (.bot, g1.put (K 4) (some (.cells true (hoC (upd w k v) h.on)))) ∧ Yw (g1.put (K 4) (some (.cells true (hoC (upd w k v) h.on)))) C D K (upd lb k b) p r ⟨upd h.L k L, h.on, h.ms⟩ := by
  obtain ⟨l1, l2, l3, l4⟩ := Y.list (k := k) (by omega) s hS hb
  obtain ⟨u0, cy0⟩ := Y.cy
  obtain ⟨v2, u2, d1, d2⟩ := Y.dc
  obtain ⟨v3, p1, p2⟩ := Y.pl
  obtain ⟨w', h1, h2⟩ := Y.ho
  have hne : ∀ i, i < 5 → i ≠ 4 → (g1.put (K 4) (some (.cells true (hoC (upd w k v) h.on)))).get (K i) = g.get (K i) := fun i hi hne => (get_put_ne (fun e => hne (Y.inj i 4 hi (by omega) e))).trans (l1 i hi)
  have hne4 : ∀ i, i < 7 → ∀ b', upd lb k b i = some b' → b' ∉ [K 4] := fun i hi b' hb' => by simpa using (l3 i hi b' hb').2.2 4 (by omega)
  have e : w' 0 = w 0 ∧ w' 1 = w 1 ∧ w' 2 = w 2 ∧ w' 3 = w 3 ∧ w' 4 = w 4 := by rw [h1] at hw; simp [hoC] at hw; exact hw
  have e' : ∀ i, i < 5 → w' i = w i := fun i hi => by
    rcases (by omega : i = 0 ∨ i = 1 ∨ i = 2 ∨ i = 3 ∨ i = 4) with rfl | rfl | rfl | rfl | rfl
    · exact e.1
    · exact e.2.1
    · exact e.2.2.1
    · exact e.2.2.2.1
    · exact e.2.2.2.2
  refine ⟨by rw [← hoC_set hk]; exact stP_one ((l1 4 (by omega)).trans hw) (by simp [hoC]; omega) hv.scv, 
  { cy := ⟨u0, (hne 0 (by omega) (by omega)).trans cy0⟩
    mp := (hne 1 (by omega) (by omega)).trans Y.mp
    dc := ⟨v2, u2, (hne 2 (by omega) (by omega)).trans d1, by rw [upd_ne _ _ (by omega)]; exact (d2.keep s (l2 6 (by omega) (by omega))).keep (Same.put _ _ _) (fun b' hb' => hne4 6 (by omega) b' (by rw [upd_ne _ _ (by omega)]; exact hb'))⟩
    pl := ⟨v3, (hne 3 (by omega) (by omega)).trans p1, by rw [upd_ne _ _ (by omega)]; exact (p2.keep s (l2 5 (by omega) (by omega))).keep (Same.put _ _ _) (fun b' hb' => hne4 5 (by omega) b' (by rw [upd_ne _ _ (by omega)]; exact hb'))⟩
    ho := ⟨upd w k v, get_put_eq, fun i hi => ?_⟩
    lt := fun i hi => ⟨Nat.lt_of_lt_of_le (Y.lt i hi).1 s.next, (Y.lt i hi).2⟩
    inj := Y.inj
    lbl := fun i hi b' hb' => l3 i hi b' hb'
    lbi := l4 }⟩
  by_cases e1 : i = k
  · subst e1
    have hbk := hne4 i (by omega)
    rw [upd_eq] at hbk ⊢
    simp only [upd_eq]
    exact hv.keep (Same.put _ _ _) hbk
  · have hbk := hne4 i (by omega)
    rw [upd_ne _ _ e1] at hbk ⊢
    simp only [upd_ne _ _ e1]
    rw [← e' i hi]
    exact ((h2 i hi).keep s (l2 i (by omega) e1)).keep (Same.put _ _ _) hbk
theorem Yw.setA (Y : Yw g C D K lb p r h) {g1 : Heap} {S : List Nat} (s : Same S g g1) (hS : ∀ j ∈ S, lb 5 = some j) {b : Option Nat} (hb : ∀ j, b = some j → lb 5 = some j ∨ (g.next ≤ j ∧ j < g1.next)) {v : AV} {L : List Int} (hv : SlG g1 b 1 v (wsC L) L.length) :
    stP 1 g1 (.ptr (some (K 3, 3))) v = some (.bot, g1.put (K 3) (some (.cells true (plC K v)))) ∧ Yw (g1.put (K 3) (some (.cells true (plC K v)))) C D K (upd lb 5 b) p r ⟨h.L, h.on, L⟩ := by
  obtain ⟨l1, l2, l3, l4⟩ := Y.list (k := 5) (by omega) s hS hb
  obtain ⟨u0, cy0⟩ := Y.cy
  obtain ⟨v2, u2, d1, d2⟩ := Y.dc
  obtain ⟨v3, p1, p2⟩ := Y.pl
  obtain ⟨w', h1, h2⟩ := Y.ho
  have hne : ∀ i, i < 5 → i ≠ 3 → (g1.put (K 3) (some (.cells true (plC K v)))).get (K i) = g.get (K i) := fun i hi hne => (get_put_ne (fun e => hne (Y.inj i 3 hi (by omega) e))).trans (l1 i hi)
  have hne4 : ∀ i, i < 7 → ∀ b', upd lb 5 b i = some b' → b' ∉ [K 3] := fun i hi b' hb' => by simpa using (l3 i hi b' hb').2.2 3 (by omega)
  have hne5 := hne4 5 (by omega)
  rw [upd_eq] at hne5
  exact ⟨stP_one ((l1 3 (by omega)).trans p1) (by simp [plC]) hv.scv,
  { cy := ⟨u0, (hne 0 (by omega) (by omega)).trans cy0⟩
    mp := (hne 1 (by omega) (by omega)).trans Y.mp
    dc := ⟨v2, u2, (hne 2 (by omega) (by omega)).trans d1, by rw [upd_ne _ _ (by omega)]; exact (d2.keep s (l2 6 (by omega) (by omega))).keep (Same.put _ _ _) (fun b' hb' => hne4 6 (by omega) b' (by rw [upd_ne _ _ (by omega)]; exact hb'))⟩
    pl := ⟨v, get_put_eq, by rw [upd_eq]; exact hv.keep (Same.put _ _ _) hne5⟩
    ho := ⟨w', (hne 4 (by omega) (by omega)).trans h1, fun i hi => by rw [upd_ne _ _ (by omega)]; exact ((h2 i hi).keep s (l2 i (by omega) (by omega))).keep (Same.put _ _ _) (fun b' hb' => hne4 i (by omega) b' (by rw [upd_ne _ _ (by omega)]; exact hb'))⟩
    lt := fun i hi => ⟨Nat.lt_of_lt_of_le (Y.lt i hi).1 s.next, (Y.lt i hi).2⟩
    inj := Y.inj
    lbl := fun i hi b' hb' => l3 i hi b' hb'
    lbi := l4 }⟩
theorem Yw.setB (Y : Yw g C D K lb p r h) {g1 : Heap} {S : List Nat} (s : Same S g g1) (hS : ∀ j ∈ S, lb 6 = some j) {b : Option Nat} (hb : ∀ j, b = some j → lb 6 = some j ∨ (g.next ≤ j ∧ j < g1.next)) {v : AV} {L : List Int} (hv : SlG g1 b 1 v (wsC L) L.length) :
    ∃ u2, stP 1 g1 (.ptr (some (K 2, 4))) v = some (.bot, g1.put (K 2) (some (.cells true (dcC D v r u2)))) ∧ Yw (g1.put (K 2) (some (.cells true (dcC D v r u2)))) C D K (upd lb 6 b) p ⟨r.l, r.gq, r.ph, L, r.dn⟩ h := by
  obtain ⟨l1, l2, l3, l4⟩ := Y.list (k := 6) (by omega) s hS hb
  obtain ⟨u0, cy0⟩ := Y.cy
  obtain ⟨v2, u2, d1, d2⟩ := Y.dc
  obtain ⟨v3, p1, p2⟩ := Y.pl
  obtain ⟨w', h1, h2⟩ := Y.ho
  have hne : ∀ i, i < 5 → i ≠ 2 → (g1.put (K 2) (some (.cells true (dcC D v r u2)))).get (K i) = g.get (K i) := fun i hi hne => (get_put_ne (fun e => hne (Y.inj i 2 hi (by omega) e))).trans (l1 i hi)
  have hne4 : ∀ i, i < 7 → ∀ b', upd lb 6 b i = some b' → b' ∉ [K 2] := fun i hi b' hb' => by simpa using (l3 i hi b' hb').2.2 2 (by omega)
  have hne5 := hne4 6 (by omega)
  rw [upd_eq] at hne5
  exact ⟨u2, stP_one ((l1 2 (by omega)).trans d1) (by simp [dcC]) hv.scv,
  { cy := ⟨u0, (hne 0 (by omega) (by omega)).trans cy0⟩
    mp := (hne 1 (by omega) (by omega)).trans Y.mp
    dc := ⟨v, u2, get_put_eq, by rw [upd_eq]; exact hv.keep (Same.put _ _ _) hne5⟩
    pl := ⟨v3, (hne 3 (by omega) (by omega)).trans p1, by rw [upd_ne _ _ (by omega)]; exact (p2.keep s (l2 5 (by omega) (by omega))).keep (Same.put _ _ _) (fun b' hb' => hne4 5 (by omega) b' (by rw [upd_ne _ _ (by omega)]; exact hb'))⟩
    ho := ⟨w', (hne 4 (by omega) (by omega)).trans h1, fun i hi => by rw [upd_ne _ _ (by omega)]; exact ((h2 i hi).keep s (l2 i (by omega) (by omega))).keep (Same.put _ _ _) (fun b' hb' => hne4 i (by omega) b' (by rw [upd_ne _ _ (by omega)]; exact hb'))⟩
    lt := fun i hi => ⟨Nat.lt_of_lt_of_le (Y.lt i hi).1 s.next, (Y.lt i hi).2⟩
    inj := Y.inj
    lbl := fun i hi b' hb' => l3 i hi b' hb'
    lbi := l4 }⟩
end
set_option linter.all false
attribute [local congr] c_bind c_cl c_mk c_lp c_clC c_gQ c_gV c_condE c_thenK
structure Wi (g:Heap)(C D K:Nat→Nat)(v:Vb)(p r:SC)(h:SH)(T:List Shp)(Z:List Nat):Prop where
 j:J g C D v.qb v.b v.bT v.bq v.cls v.L p.l p.gq r.l r.gq T (ownY K v.lb++Z)
 y:Yw g C D K v.lb p r h
 yz:∀ j∈ownY K v.lb,j∉Z
 z0:0∈Z
 ww:WfW v.L
section
variable {g g':Heap}{C D K:Nat→Nat}{v:Vb}{p r:SC}{h:SH}{T:List Shp}{Z:List Nat}
theorem Wi.zl (W:Wi g C D K v p r h T Z){j:Nat}(hj:j∈Z):j<g.next:=W.j.zl (List.mem_append_right _ hj)
theorem Wi.g0 (W:Wi g C D K v p r h T Z):0<g.next:=W.zl W.z0
theorem Wi.frame {S Y : List Nat} (W : Wi g C D K v p r h T Z) (s : Same S g g') (hS : ∀ j ∈ S, (j ∈ Z ∧ j ≠ 0) ∨ g.next ≤ j) (hY : ∀ j ∈ Y, (j ∈ Z ∨ g.next ≤ j) ∧ j < g'.next) (h0 : 0 ∈ Y) : Wi g' C D K v p r h T Y := by
  have hyl : ∀ j ∈ ownY K v.lb, j < g.next := fun j hj => (W.y.own hj).2
  exact
  { j := W.j.frame s (fun j hj => by
      rcases hS j hj with h | h
      · exact .inl ⟨List.mem_append_right _ h.1, h.2⟩
      · exact .inr h) (fun j hj => by
      rw [List.mem_append] at hj
      rcases hj with hj | hj
      · exact ⟨.inl (List.mem_append_left _ hj), Nat.lt_of_lt_of_le (hyl j hj) s.next⟩
      · exact ⟨(hY j hj).1.imp (fun h => List.mem_append_right _ h) id, (hY j hj).2⟩) (List.mem_append_right _ h0)
    y := W.y.frame s (fun j hj hm => by
      rcases hS j hj with h | h
      · exact W.yz j hm h.1
      · have := hyl j hm; omega)
    yz := fun j hj hm => by
      rcases (hY j hm).1 with h | h
      · exact W.yz j hj h
      · have := hyl j hj; omega
    z0 := h0
    ww := W.ww }
theorem Wi.keep (W:Wi g C D K v p r h T Z)(s:Same [] g g'):Wi g' C D K v p r h T Z:=
 W.frame s (fun j hj=>by simp at hj) (fun j hj=>⟨.inl hj,Nat.lt_of_lt_of_le (W.zl hj) s.next⟩) W.z0
theorem Wi.addZ (W:Wi g C D K v p r h T Z)(s:Same [] g g'){j:Nat}(h1:g.next≤j)(h2:j<g'.next):Wi g' C D K v p r h T (j::Z):=
 W.frame s (fun j hj=>by simp at hj) (fun i hi=>by
  rw [List.mem_cons] at hi
  rcases hi with rfl | hi
  ·exact⟨.inr h1,h2⟩
  ·exact⟨.inl hi,Nat.lt_of_lt_of_le (W.zl hi) s.next⟩) (List.mem_cons_of_mem _ W.z0)
theorem Wi.addL {L:List Nat}(W:Wi g C D K v p r h T Z)(s:Same [] g g')(hL:∀ j∈L,g.next≤j∧j<g'.next):Wi g' C D K v p r h T (L++Z):=
 W.frame s (fun j hj=>by simp at hj) (fun i hi=>by
  rw [List.mem_append] at hi
  rcases hi with hi | hi
  ·exact⟨.inr (hL i hi).1,(hL i hi).2⟩
  ·exact⟨.inl hi,Nat.lt_of_lt_of_le (W.zl hi) s.next⟩) (List.mem_append_right _ W.z0)
theorem Wi.subZ {Y:List Nat}(W:Wi g C D K v p r h T Z)(hs:∀ j∈Y,j∈Z)(h0:0∈Y):Wi g C D K v p r h T Y:=
 W.frame (Same.refl [] g) (fun j hj=>by simp at hj) (fun j hj=>⟨.inl (hs j hj),W.zl (hs j hj)⟩) h0
theorem Wi.prog {qb':Option Nat}{l':PAl}{gq':List Int}(W:Wi g C D K v p r h T Z)(H:Mm g' C l' T qb' gq' (ownR D v.b v.bT v.bq v.L++(ownY K v.lb++Z)))(k:KpX (ownR D v.b v.bT v.bq v.L++(ownY K v.lb++Z)) g g') :
  Wi g' C D K ⟨qb',v.b,v.bT,v.bq,v.cls,v.L,v.lb⟩ ⟨l',gq',p.ph,p.bl,p.dn⟩ r h T Z∧KpX Z g g':=by
 obtain⟨P,k'⟩:=W.j.prog H k
 have Y:=W.y.kp k' (fun j hj=>List.mem_append_left _ hj)
 exact⟨⟨P,{ Y with cy:=Y.cy,mp:=Y.mp,dc:=Y.dc,pl:=Y.pl,ho:=Y.ho },W.yz,W.z0,W.ww⟩,k'.sub fun j hj=>List.mem_append_right _ hj⟩
theorem Wi.doc {b' bT' bq':Option Nat}{cls':List Int}{L':List Tm}{l':PAl}{gq':List Int}(W:Wi g C D K v p r h T Z)(H:Rk g' D b' bT' bq' cls' L' l' T gq' (ownP C v.qb++(ownY K v.lb++Z)))(k:KpX (ownP C v.qb++(ownY K v.lb++Z)) g g')(hw:WfW L') :
  Wi g' C D K ⟨v.qb,b',bT',bq',cls',L',v.lb⟩ p ⟨l',gq',r.ph,r.bl,r.dn⟩ h T Z∧KpX Z g g':=by
 obtain⟨P,k'⟩:=W.j.doc H k
 have Y:=W.y.kp k' (fun j hj=>List.mem_append_left _ hj)
 exact⟨⟨P,{ Y with cy:=Y.cy,mp:=Y.mp,dc:=Y.dc,pl:=Y.pl,ho:=Y.ho },W.yz,W.z0,hw⟩,k'.sub fun j hj=>List.mem_append_right _ hj⟩
theorem Wi.turn {S:List Nat}{lb':Nat→Option Nat}{ph1 ph2 dn1 dn2:Int}{bl1 bl2:List Int}{h':SH}(W:Wi g C D K v p r h T Z)(s:Same S g g')(hS:∀ j∈S,j∈ownY K v.lb∨g.next≤j)
  (Y:Yw g' C D K lb' ⟨p.l,p.gq,ph1,bl1,dn1⟩ ⟨r.l,r.gq,ph2,bl2,dn2⟩ h') (hb:∀ j∈ownY K lb',j∈ownY K v.lb∨g.next≤j) :
  Wi g' C D K ⟨v.qb,v.b,v.bT,v.bq,v.cls,v.L,lb'⟩ ⟨p.l,p.gq,ph1,bl1,dn1⟩ ⟨r.l,r.gq,ph2,bl2,dn2⟩ h' T Z∧KpX Z g g':=by
 refine⟨⟨W.j.frame s (fun j hj=>?_) (fun j hj=>?_) (List.mem_append_right _ W.z0),Y,fun j hj hz=>?_,W.z0,W.ww⟩,KpX.of s fun j hj hz=>?_⟩
 ·rcases hS j hj with h | h
  ·exact .inl ⟨List.mem_append_left _ h,(W.y.own h).1⟩
  ·exact .inr h
 ·rw [List.mem_append] at hj
  rcases hj with hj | hj
  ·refine⟨(hb j hj).imp (fun h=>List.mem_append_left _ h) id,(Y.own hj).2⟩
  ·exact⟨.inl (List.mem_append_right _ hj),Nat.lt_of_lt_of_le (W.zl hj) s.next⟩
 ·rcases hb j hj with h | h
  ·exact W.yz j h hz
  ·have:=W.zl hz;omega
 ·rcases hS j hj with h | h
  ·exact W.yz j h hz
  ·have:=W.zl hz;omega
theorem Wi.put {k:Nat}{x:Blk}{ph1 ph2 dn1 dn2:Int}{bl1 bl2:List Int}{h':SH}(W:Wi g C D K v p r h T Z)(hk:k < 5)(Y:Yw (g.put (K k) (some x)) C D K v.lb ⟨p.l,p.gq,ph1,bl1,dn1⟩ ⟨r.l,r.gq,ph2,bl2,dn2⟩ h') :
  Wi (g.put (K k) (some x)) C D K v ⟨p.l,p.gq,ph1,bl1,dn1⟩ ⟨r.l,r.gq,ph2,bl2,dn2⟩ h' T Z∧KpX Z g (g.put (K k) (some x)):=
 W.turn (Same.put _ _ _) (fun j hj=>by simp at hj;subst hj;exact .inl (ownK k hk)) Y (fun j hj=>.inl hj)
theorem Wi.list {k c:Nat}{S:List Nat}{g1:Heap}{x:Blk}{b:Option Nat}{bl2:List Int}{h':SH}(W:Wi g C D K v p r h T Z)(hk:k < 7)(hc:c < 5)(s:Same S g g1)(hS:∀ j∈S,v.lb k=some j∨g.next≤j)(hb:∀ j,b=some j→v.lb k=some j∨g.next≤j)
  (Y:Yw (g1.put (K c) (some x)) C D K (upd v.lb k b) ⟨p.l,p.gq,p.ph,p.bl,p.dn⟩ ⟨r.l,r.gq,r.ph,bl2,r.dn⟩ h') :
  Wi (g1.put (K c) (some x)) C D K ⟨v.qb,v.b,v.bT,v.bq,v.cls,v.L,upd v.lb k b⟩ p ⟨r.l,r.gq,r.ph,bl2,r.dn⟩ h' T Z∧KpX Z g (g1.put (K c) (some x)):=by
 refine W.turn (S:=K c::S) ((s.sub (fun j hj=>List.mem_cons_of_mem _ hj)).trans ((Same.put _ _ _).sub (by simp))) (fun j hj=>?_) Y (fun j hj=>?_)
 ·rw [List.mem_cons] at hj
  rcases hj with rfl | hj
  ·exact .inl (ownK c hc)
  ·exact(hS j hj).imp (fun h=>ownL k h hk) id
 ·rcases ownY_mem.1 hj with⟨i,hi,rfl⟩ | ⟨i,hi,hb'⟩
  ·exact .inl (ownK i hi)
  ·by_cases e:i=k
   ·subst e
    rw [upd_eq] at hb'
    exact(hb j hb').imp (fun h=>ownL i h hk) id
   ·rw [upd_ne _ _ e] at hb'
    exact .inl (ownL i hb' hi)
theorem Wi.c (W:Wi g C D K v p r h T Z)(k:Nat)(x:AV)(hx:∀ u,(cyC C K p u)[k]?=some x):ldS g (.ptr (some (K 0,k)))=some x:=by obtain⟨u,cy⟩:=W.y.cy;rw [ldS_at cy];exact hx u
theorem Wi.pl3 (W:Wi g C D K v p r h T Z)(k:Nat)(x:AV)(hx : [AV.ptr (some (K 0,0)),.ptr (some (K 2,0)),.ptr (some (K 4,0))][k]?=some x):ldS g (.ptr (some (K 3,k)))=some x:=by
 obtain⟨v3,p1,_⟩:=W.y.pl
 rw [ldS_at p1]
 rcases (by have:=(List.getElem?_eq_some_iff.1 hx).1;simp at this;omega:k=0∨k=1∨k=2) with rfl | rfl | rfl<;>exact hx
theorem Wi.on (W:Wi g C D K v p r h T Z){k:Nat}(hk:k < 4):ldS g (.ptr (some (K 4,5+k)))=some (.bool (h.on k)):=by
 obtain⟨w,h1,_⟩:=W.y.ho
 rw [ldS_at h1];exact hoC_on hk
theorem Wi.ls (W:Wi g C D K v p r h T Z){k:Nat}(hk:k < 5):∃ x,ldS g (.ptr (some (K 4,k)))=some x∧SlG g (v.lb k) 1 x (wsC (h.L k)) (h.L k).length:=by
 obtain⟨w,h1,h2⟩:=W.y.ho
 exact⟨w k,by rw [ldS_at h1];exact hoC_at hk,h2 k hk⟩
theorem Wi.d (W:Wi g C D K v p r h T Z):∃ x u,g.get (K 2)=some (.cells true (dcC D x r u))∧(∀ k y,(dcC D x r u)[k]?=some y→ldS g (.ptr (some (K 2,k)))=some y)∧SlG g (v.lb 6) 1 x (wsC r.bl) r.bl.length:=by
 obtain⟨x,u,d1,d2⟩:=W.y.dc
 exact⟨x,u,d1,fun k y hy=>by rw [ldS_at d1];exact hy,d2⟩
theorem Wi.setP (W:Wi g C D K v p r h T Z)(k:Nat)(x:AV)(ph dn:Int)(hk:∀ u,∃ us,(cyC C K p u).set k x=cyC C K ⟨p.l,p.gq,ph,p.bl,dn⟩ us)(hl:k < 8)(hx:scalar x=true):∃ g',stP 1 g (.ptr (some (K 0,k))) x=some (.bot,g')∧Wi g' C D K v ⟨p.l,p.gq,ph,p.bl,dn⟩ r h T Z∧KpX Z g g':=by
 obtain⟨u,cy⟩:=W.y.cy
 obtain⟨us,e⟩:=hk u
 exact⟨_,by rw [stP_one cy (by simp [cyC];omega) hx,e],W.put (k:=0) (by omega) (W.y.setP ph dn us)⟩
theorem Wi.setR (W:Wi g C D K v p r h T Z)(k:Nat)(x:AV)(ph dn:Int)(hk:∀ v u,∃ us,(dcC D v r u).set k x=dcC D v ⟨r.l,r.gq,ph,r.bl,dn⟩ us)(hl:k < 7)(hx:scalar x=true):∃ g',stP 1 g (.ptr (some (K 2,k))) x=some (.bot,g')∧Wi g' C D K v p ⟨r.l,r.gq,ph,r.bl,dn⟩ h T Z∧KpX Z g g':=by
 obtain⟨w,u,d1,_⟩:=W.y.dc
 obtain⟨us,e⟩:=hk w u
 exact⟨_,by rw [stP_one d1 (by simp [dcC];omega) hx,e],W.put (k:=2) (by omega) (W.y.setR d1 ph dn us)⟩
theorem Wi.setM (W:Wi g C D K v p r h T Z)(bl:List Int):Wi (g.put (K 1) (some (.mp (SetM bl)))) C D K v ⟨p.l,p.gq,p.ph,bl,p.dn⟩ r h T Z∧KpX Z g (g.put (K 1) (some (.mp (SetM bl)))):=
 W.put (k:=1) (by omega) (W.y.setM bl)
end
set_option linter.all false
attribute [local congr] c_bind c_cl c_mk c_lp c_clC c_gQ c_gV c_condE c_thenK
theorem added_slg {g:Heap}{b:Option Nat}{v:AV}{L:List Int}(hv:SlG g b 1 v (wsC L) L.length):countA v=some L.length∧∀ g':Heap,(∀ i,b=some i→g'.get i=g.get i)→addedA g' 1 v=some (wsC L):=by
 rcases hv with hv | ⟨i,rfl,rfl,h1,h2,h3,h4⟩
 ·exact added_slb hv
 ·obtain rfl:L = []:=List.eq_nil_of_length_eq_zero h2
  refine⟨rfl,fun g' hg=>?_⟩
  simp only [addedA,loadN,Nat.zero_mul,hg i rfl,h3,spanF_eq];rfl
def Fl (g g':Heap)(v:AV)(L:List Int):Prop:=∃ b,SlG g' b 1 v (wsC L) L.length∧Same [] g g'∧∀ j,b=some j→g.next≤j
theorem SlG.lt {g:Heap}{b:Option Nat}{v:AV}{L:List Int}(H:SlG g b 1 v (wsC L) L.length){j:Nat}(hj:b=some j):j<g.next:=by
 rcases H with h | ⟨i,rfl,_,_,_,_,h⟩
 ·exact(h.blk j hj).1
 ·cases hj;exact h
theorem SlG.lnL {g:Heap}{b:Option Nat}{v:AV}{L:List Int}(H:SlG g b 1 v (wsC L) L.length):Go.Ab.lnL v=some (.int .i64 L.length):=by
 rcases H with h | ⟨i,rfl,rfl,_,h,_,_⟩
 ·exact h.lnL
 ·rw [h];rfl
theorem lit_app {R:Type}{g:Heap}{x:AV}{xs:List Int}(hc:countA x=some xs.length)(ha:∀ g',Same [] g g'→addedA g' 1 x=some (wsC xs))(hl:xs.length≤2 ^ 40){K:AV→Heap→Option R}{Q:R→Prop}
  (hk:∀ v' g',Fl g g' v' xs→Ok (K v' g') Q):Ok (mk Heap.new (bsP 1 [AV.int .i64 0] 0 []) g fun t h0=>cl (appendA h0 1 8 t x) K) Q:=by
 have b1:bsP 1 [AV.int .i64 0] 0 []=some (.cells true [],fun i=>.sl (some (i,0)) 0 (.ex 0)):=rfl
 rw [b1,mk_some]
 have s1:Same [] g (g.new (.cells true [])):=Same.new _ _
 have G1:SlG (g.new (.cells true [])) (some g.next) 1 (.sl (some (g.next,0)) 0 (.ex 0)) [] 0:=.inr ⟨g.next,rfl,rfl,rfl,rfl,get_new_eq,Nat.lt_succ_self _⟩
 obtain⟨b',v',g',e,G2,s2,hb⟩:=appS (bytes:=8) G1 hc (ha _ s1) (by rw [wsC_len];omega) (sc_ws xs) (by decide) (by omega)
 rw [e,cl_some]
 rw [List.nil_append,Nat.zero_add] at G2
 refine hk v' g' ⟨b',G2,s1.old s2 (fun j hj=>by simp at hj;right;omega),fun j hj=>?_⟩
 rcases hb with rfl | rfl
 ·cases hj;exact Nat.le_refl _
 ·cases hj;exact Nat.le_succ _
section
variable {g g':Heap}{C D K:Nat→Nat}{v:Vb}{p r:SC}{h:SH}{T:List Shp}{Z:List Nat}
def SH.sm (h:SH):Prop:=∀ i,i < 5→(h.L i).length≤2 ^ 20
theorem hglob_ok (W:Wi g C D K v p r h T Z)(hs:h.sm):Ok (A5 (.ptr (some (K 4,0))) g) fun r=>Fl g r.2 r.1 (h.L 0):=by
 obtain⟨x,l0,hx⟩:=W.ls (k:=0) (by omega)
 have l1:ldS (g.new (.cells true [])) (.ptr (some (K 4,0)))=some x:=by
  obtain⟨w,h1,_⟩:=W.y.ho
  rw [ldS_at (((Same.new g (.cells true [])).get _ (W.y.lt 4 (by omega)).1 (by simp)).trans h1)]
  rw [ldS_at h1] at l0;exact l0
 obtain⟨c1,c2⟩:=added_slg hx
 have hx2:=hs 0 (by omega)
 have b1:bsP 1 [AV.int .i64 0] 0 []=some (.cells true [],fun i=>.sl (some (i,0)) 0 (.ex 0)):=rfl
 refine Ok.eq (lit_app (K:=fun t8 h1=>some (t8,h1)) c1 (fun g' s=>c2 g' fun i hi=>s.get i (hx.lt hi) (by simp)) (by omega) fun v' g' H=>Ok.of H) ?_
 rw [A5,b1,mk_some,mk_some]
 simp -implicitDefEqProofs only [nilV_ptr,Option.bind_some,faP_ptr,Nat.zero_add,l1]
def stk (h:SH)(id:Int):List Int:=if 1≤id∧id≤4 then h.L id.toNat else []
theorem Fl.nil:Fl g g (.sl none 0 (.ex 0)) []:=⟨none,.inl SlB.mt,Same.refl _ _,(fun j hj=>by cases hj)⟩
theorem hstack_ok (W:Wi g C D K v p r h T Z)(hs:h.sm)(id:Int):Ok (Ah (.ptr (some (K 4,0))) (.int .i64 id) g) fun r=>Fl g r.2 r.1 (stk h id):=by
 unfold stk
 by_cases h1:id < 1
 ·rw [if_neg (by omega)]
  exact ok_val (v:=.sl none 0 (.ex 0)) (g:=g) (by simp -implicitDefEqProofs only [Ah,bin_lss,h1,decide_true,Option.bind_some,gdW_tf,gQ_false,pickP_bool,if_true,condE_true]) Fl.nil
 by_cases h2:4<id
 ·rw [if_neg (by omega)]
  have h2':id > 4:=h2
  exact ok_val (v:=.sl none 0 (.ex 0)) (g:=g) (by simp -implicitDefEqProofs only [Ah,bin_lss,bin_gtr,h1,h2',decide_true,decide_false,Option.bind_some,gdW_ff,gQ_true,cl_some,pickP_bool,Bool.false_eq_true,if_false,condE_true]) Fl.nil
 rw [if_pos (by omega)]
 have hk:id.toNat < 5:=by omega
 obtain⟨x,l0,hx⟩:=W.ls hk
 have l1:ldS (g.new (.cells true [])) (.ptr (some (K 4,id.toNat)))=some x:=by
  obtain⟨w,h1,_⟩:=W.y.ho
  rw [ldS_at (((Same.new g (.cells true [])).get _ (W.y.lt 4 (by omega)).1 (by simp)).trans h1)]
  rw [ldS_at h1] at l0;exact l0
 obtain⟨c1,c2⟩:=added_slg hx
 have hx2:=hs id.toNat hk
 have b1:bsP 1 [AV.int .i64 0] 0 []=some (.cells true [],fun i=>.sl (some (i,0)) 0 (.ex 0)):=rfl
 have sb:binP .sub (.int .i64 id) (.int .i64 1)=some (.int .i64 (id - 1)):=by rw [bin_sub,wrap_i64 (by omega) (by omega)]
 have ia:iaA 4 1 (.ptr (some (K 4,1))) (.int .i64 (id - 1))=some (.ptr (some (K 4,id.toNat))):=by
  rw [iaA_ptr,if_pos ⟨by omega,by omega⟩]
  have:1+(id - 1).toNat * 1=id.toNat:=by omega
  rw [this]
 have h2' : ¬ id > 4:=h2
 refine Ok.eq (lit_app (K:=fun t8 h1=>some (t8,h1)) c1 (fun g' s=>c2 g' fun i hi=>s.get i (hx.lt hi) (by simp)) (by omega) fun v' g' H=>Ok.of H) ?_
 rw [Ah,b1,mk_some]
 simp -implicitDefEqProofs only [bin_lss,bin_gtr,h1,h2',decide_false,Option.bind_some,gdW_ff,gQ_true,cl_some,pickP_bool,Bool.false_eq_true,if_false,condE_false,b1,mk_some,sb,nilV_ptr,faP_ptr,Nat.zero_add,ia,l1]
def idsN (on:Nat→Bool):Nat→List Int
 | 0=>[]
 | n+1=>idsN on n++if on n then [(n:Int)+1] else []
def ids (h:SH):List Int:=idsN h.on 4
theorem idsN_len (on:Nat→Bool):∀ n,(idsN on n).length≤n
 | 0=>Nat.le_refl _
 | n+1=>by
  rw [idsN,List.length_append]
  have:=idsN_len on n
  split<;>simp<;>omega
theorem idsN_mem {on:Nat→Bool}{x:Int}:∀ {n:Nat},x∈idsN on n↔∃ k,k<n∧on k=true∧x=(k:Int)+1
 | 0=>by simp [idsN]
 | n+1=>by
  rw [idsN,List.mem_append,idsN_mem]
  constructor
  ·rintro(⟨k,h1,h2,h3⟩ | h)
   ·exact⟨k,by omega,h2,h3⟩
   ·split at h
    ·rename_i ho
     exact⟨n,by omega,ho,by simpa using h⟩
    ·simp at h
  ·rintro⟨k,h1,h2,h3⟩
   by_cases e:k=n
   ·subst e;rw [h2];simp [h3]
   ·exact .inl ⟨k,by omega,h2,h3⟩
theorem hstacks_ok (W:Wi g C D K v p r h T Z):Ok (BG (.ptr (some (K 4,0))) g) fun r=>Lst g r.2 r.1 (ids h):=by
 refine Ok.eq ?_ (by unfold BG;rfl)
 refine ok_lp (P:=fun r=>r.1 = .exit 0∧Lst g r.2.2 (r.2.1.getD 0 .bot) (ids h)) ?_ ?_
 ·refine ok_loop (fun m vs g2=>∃ (i:Nat) (b:Option Nat) (q:AV),vs = [q,.int .i64 (i:Int)]∧m+i=4∧SlB g2 b 1 q (wI (idsN h.on i)) (idsN h.on i).length∧(∀ j,b=some j→g.next≤j)∧Same [] g g2) ?_ (n:=4) (by omega) ⟨0,none,_,rfl,rfl,SlB.mt,(fun j hj=>by cases hj),Same.refl _ _⟩
  rintro m vs g2 ⟨i,b,q,rfl,hm,hq,hb,s⟩
  rw [gd0,gd1]
  have W2:=W.keep s
  by_cases hi:i < 4
  ·have hlt:(i:Int) < 4:=by omega
   have ia:iaA 4 1 (.ptr (some (K 4,5))) (.int .i64 (i:Int))=some (.ptr (some (K 4,5+i))):=by
    rw [iaA_ptr,if_pos ⟨by omega,by omega⟩]
    simp
   have lo:=W2.on hi
   have hl:=idsN_len h.on i
   refine Ok.eq ?_ (by simp -implicitDefEqProofs only [CZ,bin_lss,hlt,decide_true,Option.bind_some,condE_true,nilV_ptr,faP_ptr,Nat.zero_add,ia,lo]<;>rfl)
   cases ho:h.on i with
   | true=>
    refine Ok.eq ?_ (by simp -implicitDefEqProofs only [condE_true,bin_add,suc64 i (by omega),Option.bind_some]<;>rfl)
    refine app1 hq rfl rfl rfl (by decide) (by omega) fun v' g' hq' s' n'=>?_
    refine(Ok.of (r:=(.normal,[v',.int .i64 ((i+1:Nat):Int)],g')) (.inl ⟨rfl,m - 1,by omega,i+1,some (g2.next+1),v',rfl,by omega,?_,fun j hj=>by have:=Option.some.inj hj;have:=s.next;omega,s.old s' (fun j hj=>.inr (by simp at hj;exact hb j hj))⟩)).eq rfl
    have e:idsN h.on (i+1)=idsN h.on i ++ [((i+1:Nat):Int)]:=by rw [idsN,ho,if_pos rfl];rfl
    rw [e]
    have e2:wI (idsN h.on i ++ [((i+1:Nat):Int)])=wI (idsN h.on i) ++ [.int .i64 ((i+1:Nat):Int)]:=by simp [wI]
    rw [e2,List.length_append]
    exact hq'
   | false=>
    refine(Ok.of (r:=(.normal,[q,.int .i64 ((i+1:Nat):Int)],g2)) (.inl ⟨rfl,m - 1,by omega,i+1,b,q,rfl,by omega,?_,hb,s⟩)).eq (by
     simp -implicitDefEqProofs only [condE_false,bin_add,suc64 i (by omega),Option.bind_some])
    rw [idsN,ho];simpa using hq
  ·have hlt : ¬ (i:Int) < 4:=by omega
   obtain rfl:i=4:=by omega
   exact(Ok.of (r:=(.exit 0,[q,.int .i64 ((4:Nat):Int)],g2)) (.inr ⟨by simp,rfl,Lst.of_slb hq hb s⟩)).eq (by
    simp -implicitDefEqProofs only [CZ,bin_lss,hlt,decide_false,Option.bind_some,condE_false])
 ·rintro _ vs g2 ⟨rfl,hL⟩
  exact ok_val (v:=vs.getD 0 .bot) (g:=g2) rfl hL
end
theorem contains_ok {h0 g:Heap}{v:AV}{l:List Int}(H:Lst h0 g v l)(hl:l.length≤4611686018427387904)(x:Int):Ok (Aq v (.int .i64 x) g) fun r=>r=(.bool (decide (x∈l)),g):=by
 refine Ok.eq ?_ (by unfold Aq;rfl)
 refine ok_cl (P:=fun r=>r.2=g∧∃ k:Int,r.1 = .int .i64 k∧(k≥0↔x∈l)) ?_ ?_
 ·refine Ok.eq ?_ (by simp -implicitDefEqProofs only [B4,H.lnL,Option.bind_some]<;>rfl)
  refine ok_lp (P:=fun r=>r.2.2=g∧((r.1 = .exit 0∧x∉l)∨∃ k:Nat,r.1 = .ret∧r.2.1.getD 0 .bot = .int .i64 (k:Int)∧x∈l)) ?_ ?_
  ·refine ok_loop (fun m vs g2=>∃ (i:Nat) (q:AV),vs = [q,.int .i64 (i:Int)]∧m+i=l.length∧g2=g∧x∉l.take i) ?_ (n:=l.length) (by omega) ⟨0,_,rfl,by omega,rfl,by simp⟩
   rintro m vs g2 ⟨i,q,rfl,hm,rfl,hx⟩
   rw [gd0,gd1]
   by_cases hi:i<l.length
   ·have hlt:(i:Int)<l.length:=by omega
    obtain⟨y,hy⟩:∃ y,l[i]?=some y:=⟨_,List.getElem?_eq_getElem hi⟩
    obtain⟨b,_,_,hix,hld⟩:=H.at hy
    refine Ok.eq ?_ (by simp -implicitDefEqProofs only [CE,bin_lss,hlt,decide_true,Option.bind_some,condE_true,hix,hld,eql_int]<;>rfl)
    by_cases e:x=y
    ·subst e
     exact(Ok.of (r:=(.ret,[.int .i64 (i:Int),.int .i64 (i:Int)],g2)) (.inr ⟨by simp,rfl,.inr ⟨i,rfl,rfl,List.mem_of_getElem? hy⟩⟩)).eq (by simp -implicitDefEqProofs only [decide_true,condE_true])
    ·refine(Ok.of (r:=(.normal,[q,.int .i64 ((i+1:Nat):Int)],g2)) (.inl ⟨rfl,m - 1,by omega,i+1,q,rfl,by omega,rfl,?_⟩)).eq (by
      simp -implicitDefEqProofs only [e,decide_false,condE_false,bin_add,suc64 i (by omega),Option.bind_some])
     rw [List.take_add_one,hy,List.mem_append]
     simp [e,hx]
   ·have hlt : ¬ (i:Int)<l.length:=by omega
    rw [List.take_of_length_le (by omega)] at hx
    exact(Ok.of (r:=(.exit 0,[q,.int .i64 (i:Int)],g2)) (.inr ⟨by simp,rfl,.inl ⟨rfl,hx⟩⟩)).eq (by
     simp -implicitDefEqProofs only [CE,bin_lss,hlt,decide_false,Option.bind_some,condE_false])
  ·rintro _ vs g2 ⟨rfl,⟨rfl,hx⟩ | ⟨k,rfl,hv,hx⟩⟩
   ·exact ok_val (v:=.int .i64 (-1)) (g:=g2) rfl ⟨rfl,-1,rfl,by simp [hx]⟩
   ·exact ok_val (v:=.int .i64 (k:Int)) (g:=g2) (by simp only at hv;simp -implicitDefEqProofs only [reduceCtorEq,if_false,thenK_ret,endE_ret,hv]) ⟨rfl,(k:Int),rfl,by simp [hx]⟩
 ·rintro _ g1 ⟨he,k,rfl,hk⟩
  simp only at he
  subst he
  refine ok_val (v:=.bool (decide (0≤k))) (g:=g1) (by simp -implicitDefEqProofs only [bin_geq,Option.bind_some]) ?_
  have:decide (0≤k)=decide (x∈l):=decide_eq_decide.2 hk
  rw [this]
theorem cloneI_ok {h0 g:Heap}{v:AV}{l:List Int}(H:Lst h0 g v l)(hl:l.length≤2 ^ 30):Ok (Ap v g) fun r=>Lst h0 r.2 r.1 l:=by
 have eqn:∀ p n c,eqP (some (.slice 0)) none false .eql (.sl (some p) n c) (.sl none 0 (.ex 0))=some (.bool false):=fun p n c=>rfl
 have eqz:eqP (some (.slice 0)) none false .eql (.sl none 0 (.ex 0)) (.sl none 0 (.ex 0))=some (.bool true):=rfl
 rcases H.eq with⟨rfl,rfl⟩ | ⟨b,c,rest,rfl,h1,h2,h3,h4,h5⟩
 ·exact ok_val (v:=.sl none 0 (.ex 0)) (g:=g) (by simp -implicitDefEqProofs only [Ap,eqz,Option.bind_some,condE_true]) H
 ·refine Ok.eq (lit_app (K:=fun t8 h1=>some (t8,h1)) (x:=.sl (some (b,0)) l.length c) (xs:=l) (g:=g) rfl (fun g' s=>?_) (by omega) fun v' g' hF=>Ok.of ?_) (by
   simp -implicitDefEqProofs only [Ap,eqn,Option.bind_some,condE_false]<;>rfl)
  ·have:loadN g' (b,0) (l.length * 1)=some (wsC l):=by
    simp only [loadN,s.get b h2 (by simp),h4,spanF_eq]
    rw [span_some _ _ _ (by rw [List.length_append,len_wI];omega),List.drop_zero,Nat.mul_one]
    congr 1
    exact take_len (by rw [len_wI])
   simp only [addedA,this]
  ·obtain⟨b',G2,s2,hb⟩:=hF
   refine⟨H.same.trans s2,?_⟩
   have hn:=H.same.next
   rcases G2 with G2 | ⟨i,rfl,rfl,_,hz,hg,hlt⟩
   ·cases b' with
    | none=>exact .inl ⟨G2.eq,List.eq_nil_of_length_eq_zero (G2.nil rfl)⟩
    | some i=>
     obtain⟨e1,e2,e3⟩:=G2.blk i rfl
     exact .inr ⟨i,.un 1,[],G2.eq,by have:=hb i rfl;omega,e1,rfl,by rw [List.append_nil];exact e2,rfl⟩
   ·obtain rfl:l = []:=List.eq_nil_of_length_eq_zero hz
    exact .inr ⟨i,.ex 0,[],rfl,by have:=hb i rfl;omega,hlt,Nat.le_refl _,hg,rfl⟩
theorem min_ok {h0 g:Heap}{v:AV}{l:List Int}(H:Lst h0 g v l)(hl:l.length≤4611686018427387904)(h1:0<l.length):Ok (Bo v g) fun r=>r.2=g∧∃ x,r.1 = .int .i64 x∧x∈l∧∀ y∈l,x≤y:=by
 have hlt0 : ¬ (l.length:Int) < 1:=by omega
 obtain⟨y0,hy0⟩:∃ y,l[0]?=some y:=⟨_,List.getElem?_eq_getElem h1⟩
 obtain⟨b0,_,_,hix0,hld0⟩:=H.at hy0
 refine Ok.eq ?_ (by simp -implicitDefEqProofs only [Bo,H.lnL,Option.bind_some,bin_lss,hlt0,decide_false,condE_false,DA,hix0 .i64,show((0:Nat):Int)=0 from rfl,hld0]<;>rfl)
 have hix0':=hix0 .i64
 simp only [show((0:Nat):Int)=0 from rfl] at hix0'
 refine Ok.eq ?_ (by rw [hix0',Option.bind_some,hld0,Option.bind_some])
 refine ok_lp (P:=fun r=>r.2.2=g∧r.1 = .exit 0∧∃ x,r.2.1.getD 0 .bot = .int .i64 x∧x∈l∧∀ y∈l,x≤y) ?_ ?_
 ·refine ok_loop (fun m vs g2=>∃ (i:Nat) (x:Int),vs = [.int .i64 x,.int .i64 (i:Int)]∧m+i=l.length∧g2=g∧x∈l∧∀ y∈l.take i,x≤y) ?_ (n:=l.length - 1) (by omega) ⟨1,y0,rfl,by omega,rfl,List.mem_of_getElem? hy0,fun y hy=>?_⟩
  ·rintro m vs g2 ⟨i,x,rfl,hm,rfl,hx,hall⟩
   rw [gd0,gd1]
   by_cases hi:i<l.length
   ·have hlt:(i:Int)<l.length:=by omega
    obtain⟨y,hy⟩:∃ y,l[i]?=some y:=⟨_,List.getElem?_eq_getElem hi⟩
    obtain⟨b,_,_,hix,hld⟩:=H.at hy
    have hmin:minP (.int .i64 x) (.int .i64 y)=some (.int .i64 (if y<x then y else x)):=rfl
    refine(Ok.of (r:=(.normal,[.int .i64 (if y<x then y else x),.int .i64 ((i+1:Nat):Int)],g2)) (.inl ⟨rfl,m - 1,by omega,i+1,_,rfl,by omega,rfl,?_,fun z hz=>?_⟩)).eq (by
     simp -implicitDefEqProofs only [CX,H.lnL,Option.bind_some,bin_lss,hlt,decide_true,condE_true,hix,hld,hmin,bin_add,suc64 i (by omega)])
    ·split
     ·exact List.mem_of_getElem? hy
     ·exact hx
    ·rw [List.take_add_one,hy,List.mem_append] at hz
     rcases hz with hz | hz
     ·have:=hall z hz;split<;>omega
     ·simp at hz;subst hz;split<;>omega
   ·have hlt : ¬ (i:Int)<l.length:=by omega
    rw [List.take_of_length_le (by omega)] at hall
    exact(Ok.of (r:=(.exit 0,[.int .i64 x,.int .i64 (i:Int)],g2)) (.inr ⟨by simp,rfl,rfl,x,rfl,hx,hall⟩)).eq (by
     simp -implicitDefEqProofs only [CX,H.lnL,Option.bind_some,bin_lss,hlt,decide_false,condE_false])
  ·rw [List.take_add_one,hy0] at hy
   simp at hy
   omega
 ·rintro _ vs g2 ⟨rfl,rfl,x,hv,hx,hall⟩
  exact ok_val (v:=vs.getD 0 .bot) (g:=g2) rfl ⟨rfl,x,hv,hx,hall⟩
set_option linter.all false
attribute [local congr] c_bind c_cl c_mk c_lp c_clC c_gQ c_gV c_condE c_thenK
def shB (ph:Int):Bool:=decide (ph=1)||decide (ph=2)
def SC.shade (p:SC)(L:List Int):SC:=⟨⟨(shadeL p.l.ar p.gq L).1,p.l.un⟩,(shadeL p.l.ar p.gq L).2,p.ph,p.bl,p.dn⟩
def SC.black (p:SC)(bl:List Int):SC:=⟨p.l,p.gq,p.ph,bl,p.dn⟩
def SC.at (p:SC)(ph:Int):SC:=⟨p.l,p.gq,ph,p.bl,p.dn⟩
def SC.start (p:SC)(h:SH):Bool × SC:=if p.ph=0 then(true,(⟨⟨p.l.ar.clear,p.l.un⟩,p.gq,1,[],p.dn⟩:SC).shade (h.L 0)) else(false,p)
def SC.scan (p:SC)(h:SH)(id:Int):Bool × SC:=if shB p.ph=true∧id∉p.bl∧id∈ids h then(true,(p.shade (stk h id)).black (p.bl ++ [id])) else(false,p)
def SC.wh (p:SC)(h:SH):List Int:=(ids h).filter fun n=>!decide (n∈p.bl)
def SC.swept (p:SC):Bool × SC:=if p.l.sweepOne.1 then(true,⟨p.l.sweepOne.2,p.gq,3,p.bl,p.dn⟩) else(true,⟨p.l,p.gq,0,p.bl,IntKind.i64.wrap (p.dn+1)⟩)
def SC.step (T:List Shp)(p:SC)(h:SH):Bool × SC:=
 if p.ph=1 then(true,match p.wh h with | []=>p.at 2 | id::_=>(p.scan h id).2)
 else if p.ph=2 then(true,match p.gq with
  | x::q=>(⟨p.l,q,p.ph,p.bl,p.dn⟩:SC).shade (fieldsL T p.l.ar x)
  | []=>match p.wh h with | []=>⟨p.l.stale,p.gq,3,p.bl,p.dn⟩ | _::_=>p.at 1)
 else if p.ph=3 then p.swept
 else(false,p)
def SC.barrier (p:SC)(old fresh id:Int):SC:=if shB p.ph then(if id∈p.bl then p.shade [old] else p.shade [old,fresh]) else p
def SC.born (p:SC)(id:Int):SC:=if shB p.ph=true∧id∉p.bl then p.black (p.bl ++ [id]) else p
def SC.dies (p:SC)(id:Int):SC:=p.black (p.bl.filter fun n=>!decide (n=id))
def SC.take (p:SC)(n:Int):(Int × Int) × SC:=((p.l.take n).1,if (p.l.take n).1.2=0∧shB p.ph=true then⟨⟨((p.l.take n).2.ar.mark (p.l.take n).1.1).2,(p.l.take n).2.un⟩,p.gq,p.ph,p.bl,p.dn⟩ else⟨(p.l.take n).2,p.gq,p.ph,p.bl,p.dn⟩)
section
variable {g g':Heap}{C D K:Nat→Nat}{v:Vb}{p r:SC}{h:SH}{T:List Shp}{Z:List Nat}
theorem shades_eq (W:Wi g C D K v p r h T Z):AH (.ptr (some (K 0,0))) g=some (.bool (shB p.ph),g):=by
 have l4:=W.c 4 _ (fun _=>rfl)
 unfold shB
 by_cases h1:p.ph=1
 ·simp -implicitDefEqProofs only [AH,nilV_ptr,Option.bind_some,faP_ptr,Nat.zero_add,l4,eql_int,h1,decide_true,gdW_tf,gQ_false,pickP_bool,if_true,Bool.true_or]
 ·simp -implicitDefEqProofs only [AH,nilV_ptr,Option.bind_some,faP_ptr,Nat.zero_add,l4,eql_int,h1,decide_false,gdW_ff,gQ_true,cl_some,pickP_bool,Bool.false_eq_true,if_false,Bool.false_or]
theorem black_eq (W:Wi g C D K v p r h T Z)(id:Int):lkP (fdA (.int .i64)) (AV.bool false) false g (.mp (some (K 1))) (.int .i64 id)=some (.bool (decide (id∈p.bl))):=by
 have hm:=W.y.mp
 simp only [lkP,hm,set_find,Option.bind_some]
 by_cases e:id∈p.bl<;>simp [e]
theorem lrd_fl {g g':Heap}{v:AV}{L:List Int}{X:List Nat}(H:Fl g g' v L):∃ b:Option Nat,Lrd g' v L (b.toList++X)∧∀ j∈b.toList,g.next≤j∧j<g'.next:=by
 obtain⟨b,h1,h2,h3⟩:=H
 refine⟨b,?_,fun j hj=>?_⟩
 ·rcases h1 with h | ⟨i,rfl,rfl,_,h2,_,_⟩
  ·exact lrd_of h (fun j hj=>by simp [hj])
  ·obtain rfl:L = []:=List.eq_nil_of_length_eq_zero h2
   exact⟨rfl,fun i x hx=>by simp at hx⟩
 ·rw [Option.mem_toList] at hj
  exact⟨h3 j hj,h1.lt hj⟩
theorem Lrd.sub {g:Heap}{v:AV}{L:List Int}{X Y:List Nat}(H:Lrd g v L X)(h:∀ j∈X,j∈Y):Lrd g v L Y:=
 ⟨H.1,fun i x hx=>by
  obtain⟨p,h1,h2⟩:=H.2 i x hx
  exact⟨p,h1,fun g' k=>h2 g' (k.sub h)⟩⟩
theorem cshade_loop (W:Wi g C D K v p r h T Z){L:List Int}{x:AV}(hv:Lrd g x L Z)(hq:p.gq.length+L.length≤2 ^ 40) :
  Ok (DE (.ptr (some (K 0,0))) x (.int .i64 L.length) (.int .i64 0) g) fun s=>s.1 = .exit 0∧∃ v',Wi s.2.2 C D K v' (p.shade L) r h T Z∧KpX Z g s.2.2:=by
 refine ok_loop (fun m vs g2=>∃ (i:Nat) (p':SC) (v':Vb),vs = [.int .i64 (i:Int)]∧m+i=L.length∧Wi g2 C D K v' p' r h T Z∧p'.shade (L.drop i)=p.shade L∧p'.gq.length≤p.gq.length+i∧KpX Z g g2) ?_ (n:=L.length) (by omega) ⟨0,p,v,rfl,rfl,W,rfl,by omega,KpX.refl _ _⟩
 rintro m vs g2 ⟨i,p',v',rfl,hm,W',he,hl,k⟩
 rw [gd0]
 by_cases hi:i<L.length
 ·have hlt:(i:Int)<L.length:=by omega
  obtain⟨y,hy⟩:∃ y,L[i]?=some y:=⟨_,List.getElem?_eq_getElem hi⟩
  obtain⟨q,hix,hld⟩:=hv.2 i y hy
  have ld:=hld g2 k
  refine Ok.eq ?_ (by simp -implicitDefEqProofs only [Ce,bin_lss,hlt,decide_true,Option.bind_some,condE_true,hix,ld,nilV_ptr,faP_ptr,Nat.zero_add,W'.c 3 _ (fun _=>rfl)]<;>rfl)
  refine ok_cl (mshade_ok W'.j.pm y (by omega)) ?_
  rintro _ g3 ⟨rfl,qb2,H2,k2⟩
  simp only at H2 k2
  obtain⟨W2,k3⟩:=W'.prog H2 k2
  refine(Ok.of (r:=(.normal,[.int .i64 ((i+1:Nat):Int)],g3)) (.inl ⟨rfl,m - 1,by omega,i+1,_,_,rfl,by omega,W2,?_,?_,k.trans k3⟩)).eq (by
   simp -implicitDefEqProofs only [bin_add,Option.bind_some,suc64 i (by omega)])
  ·rw [← he,drop_at hy]
   simp only [SC.shade,shadeL]
  ·simp only
   split
   ·rw [List.length_append];simp;omega
   ·omega
 ·have hlt : ¬ (i:Int)<L.length:=by omega
  obtain rfl:i=L.length:=by omega
  rw [List.drop_of_length_le (Nat.le_refl _)] at he
  have e:p'=p.shade L:=by rw [← he];rfl
  rw [← e]
  exact(Ok.of (r:=(.exit 0,[.int .i64 (L.length:Int)],g2)) (.inr ⟨by simp,rfl,v',W',k⟩)).eq (by
   simp -implicitDefEqProofs only [Ce,bin_lss,hlt,decide_false,Option.bind_some,condE_false])
theorem cshade_ok (W:Wi g C D K v p r h T Z){L:List Int}{x:AV}(hv:Lrd g x L Z)(hq:p.gq.length+L.length≤2 ^ 40) :
  Ok (Ar (.ptr (some (K 0,0))) x g) fun s=>s.1 = .tup []∧∃ v',Wi s.2 C D K v' (p.shade L) r h T Z∧KpX Z g s.2:=by
 refine Ok.eq ?_ (by simp -implicitDefEqProofs only [Ar,hv.1,Option.bind_some]<;>rfl)
 refine ok_lp (cshade_loop W hv hq) ?_
 rintro _ vs g2 ⟨rfl,v',W',k⟩
 exact ok_val (v:=.tup []) (g:=g2) rfl ⟨rfl,v',W',k⟩
theorem cshade_fl {g1:Heap}(W:Wi g C D K v p r h T Z){L:List Int}{x:AV}(hF:Fl g g1 x L)(hq:p.gq.length+L.length≤2 ^ 40) :
  Ok (Ar (.ptr (some (K 0,0))) x g1) fun s=>s.1 = .tup []∧∃ v',Wi s.2 C D K v' (p.shade L) r h T Z∧KpX Z g s.2:=by
 obtain⟨b,hL,hb⟩:=lrd_fl (X:=Z) hF
 obtain⟨_,_,s1,_⟩:=hF
 have W1:=W.addL s1 hb
 refine Ok.mono (cshade_ok W1 hL hq) ?_
 rintro s ⟨h1,v',W',k⟩
 exact⟨h1,v',W'.subZ (fun j hj=>List.mem_append_right _ hj) W.z0,(KpX.same s1).trans (k.sub fun j hj=>List.mem_append_right _ hj)⟩
def rI (K:Nat→Nat):AV:=.ifc 34 (.ptr (some (K 4,0)))
theorem iv57 (K:Nat→Nat):ivP [(34,59)] (rI K) []=some (59,[.ptr (some (K 4,0))]):=rfl
theorem iv179 (K:Nat→Nat):ivP [(34,181)] (rI K) []=some (181,[.ptr (some (K 4,0))]):=rfl
theorem iv88 (K:Nat→Nat)(x:AV):ivP [(34,90)] (rI K) [x]=some (90,[.ptr (some (K 4,0)),x]):=rfl
theorem t45 (x:AV)(g:Heap):lookT T45 59 [x] g=A5 x g:=rfl
theorem t51 (x:AV)(g:Heap):lookT T51 181 [x] g=BG x g:=rfl
theorem t54 (x:AV)(g:Heap):lookT T54 181 [x] g=BG x g:=rfl
theorem t54' (x y:AV)(g:Heap):lookT T54 90 [x,y] g=Ah x y g:=rfl
theorem clF_some {R:Type}(call:CallF)(f:FuncId)(l:List AV)(g:Heap)(K:AV→Heap→Option R):clF call (some (f,l)) g K=cl (call f l g) K:=rfl
theorem cstart_ok (W:Wi g C D K v p r h T Z)(hs:h.sm)(hq:p.gq.length≤2 ^ 30):Ok (AO (.ptr (some (K 0,0))) (rI K) g) fun s=>s.1 = .bool (p.start h).1∧∃ v',Wi s.2 C D K v' (p.start h).2 r h T Z∧KpX Z g s.2:=by
 have l4:=W.c 4 _ (fun _=>rfl)
 unfold SC.start
 by_cases h0:p.ph=0
 ·rw [if_pos h0]
  refine Ok.eq ?_ (by simp -implicitDefEqProofs only [AO,nilV_ptr,Option.bind_some,faP_ptr,Nat.zero_add,l4,neq_int,h0,decide_true,Bool.not_true,condE_false,W.c 0 _ (fun _=>rfl)]<;>rfl)
  refine ok_cl (clear_ok W.j.pm.al.ar) ?_
  rintro _ g1 ⟨rfl,A1,s1⟩
  simp only at A1 s1
  have S:=clear_same p.l.ar
  obtain⟨H1,k1⟩:=W.j.pm.turn (l':=⟨p.l.ar.clear,p.l.un⟩) (s1.sub (by simp)) (W.j.pm.al.arena (s1.sub (by simp)) A1 S.len) (S.wf W.j.pm.wf)
  obtain⟨W1,k1⟩:=W.prog H1 k1
  obtain⟨g2,e2,W2,k2⟩:=W1.setP 4 (.int .i64 1) 1 p.dn (fun u=>⟨u,rfl⟩) (by omega) rfl
  have hm:clM g2 (.mp (some (K 1)))=some (.tup [],g2.put (K 1) (some (.mp []))):=by simp only [clM,W2.y.mp]
  obtain⟨W3,k3⟩:=W2.setM []
  refine Ok.eq ?_ (by simp -implicitDefEqProofs only [nilV_ptr,Option.bind_some,faP_ptr,Nat.zero_add,e2,cl_some,W2.c 5 _ (fun _=>rfl),hm,iv57,clF_some,t45]<;>rfl)
  refine ok_cl (hglob_ok W3 hs) ?_
  rintro x g4 hF
  simp only at hF
  have hl:=hs 0 (by omega)
  refine ok_cl (cshade_fl W3 hF (by simp only;omega)) ?_
  rintro _ g5 ⟨rfl,v',W5,k5⟩
  exact ok_val (v:=.bool true) (g:=g5) rfl ⟨rfl,v',W5,((k1.trans k2).trans k3).trans k5⟩
 ·rw [if_neg h0]
  exact ok_val (v:=.bool false) (g:=g) (by simp -implicitDefEqProofs only [AO,nilV_ptr,Option.bind_some,faP_ptr,Nat.zero_add,l4,neq_int,h0,decide_false,Bool.not_false,condE_true]) ⟨rfl,v,W,KpX.refl _ _⟩
theorem ids_len (h:SH):(ids h).length≤4:=idsN_len h.on 4
theorem cscan_ok (W:Wi g C D K v p r h T Z)(hs:h.sm)(hq:p.gq.length≤2 ^ 30)(id:Int):Ok (AZ (.ptr (some (K 0,0))) (rI K) (.int .i64 id) g) fun s=>s.1 = .bool (p.scan h id).1∧∃ v',Wi s.2 C D K v' (p.scan h id).2 r h T Z∧KpX Z g s.2:=by
 have hsh:=shades_eq W
 have hbl:=black_eq W id
 have l5:=W.c 5 _ (fun _=>rfl)
 unfold SC.scan
 cases h1:shB p.ph with
 | false=>
  rw [if_neg (by simp)]
  rw [h1] at hsh
  exact ok_val (v:=.bool false) (g:=g) (by simp -implicitDefEqProofs only [AZ,hsh,cl_some,un_not,Bool.not_false,Option.bind_some,gdW_tf,gQ_false,pickP_bool,if_true,condE_true]) ⟨rfl,v,W,KpX.refl _ _⟩
 | true=>
  rw [h1] at hsh
  by_cases h2:id∈p.bl
  ·rw [if_neg (by simp [h2])]
   rw [decide_eq_true h2] at hbl
   exact ok_val (v:=.bool false) (g:=g) (by simp -implicitDefEqProofs only [AZ,hsh,cl_some,un_not,Bool.not_true,Option.bind_some,gdW_ff,gdW_tf,gQ_true,gQ_false,nilV_ptr,faP_ptr,Nat.zero_add,l5,hbl,pickP_bool,Bool.false_eq_true,if_true,if_false,condE_true]) ⟨rfl,v,W,KpX.refl _ _⟩
  ·rw [decide_eq_false h2] at hbl
   refine Ok.eq ?_ (by simp -implicitDefEqProofs only [AZ,hsh,cl_some,un_not,Bool.not_true,Option.bind_some,gdW_ff,gQ_true,nilV_ptr,faP_ptr,Nat.zero_add,l5,hbl,pickP_bool,Bool.false_eq_true,if_false,iv179,clF_some,t54]<;>rfl)
   refine ok_cl (P:=fun r=>Lst g r.2 r.1 (ids h)) ?_ ?_
   ·refine ok_cl (hstacks_ok W) ?_
    rintro x g1 hL
    exact ok_val (v:=x) (g:=g1) rfl hL
   ·rintro x g1 hL
    simp only at hL
    have hl:=ids_len h
    refine ok_cl (P:=fun r=>r=(.bool (decide (id∈ids h)),g1)) ?_ ?_
    ·refine ok_cl (contains_ok hL (by omega) id) ?_
     rintro _ _ he
     cases he
     exact ok_val rfl rfl
    ·rintro _ _ he
     cases he
     have W1:=W.keep hL.same
     by_cases h3:id∈ids h
     ·rw [if_pos ⟨rfl,h2,h3⟩]
      refine Ok.eq ?_ (by simp -implicitDefEqProofs only [h3,decide_true,un_not,Bool.not_true,Option.bind_some,cl_some,pickP_bool,Bool.false_eq_true,if_false,condE_false,iv88,clF_some,t54']<;>rfl)
      refine ok_cl (hstack_ok W1 hs id) ?_
      rintro y g2 hF
      simp only at hF
      have hlen:(stk h id).length≤2 ^ 20:=by
       unfold stk;split
       ·exact hs _ (by omega)
       ·simp
      refine ok_cl (cshade_fl W1 hF (by omega)) ?_
      rintro _ g3 ⟨rfl,v',W3,k3⟩
      simp only at W3 k3
      obtain⟨W4,k4⟩:=W3.setM (p.bl ++ [id])
      have hmu:muP (ptA (.int .i64)) g3 (.mp (some (K 1))) (.int .i64 id) (.bool true)=some (.bot,g3.put (K 1) (some (.mp (SetM (p.bl ++ [id]))))):=by
       have hm:g3.get (K 1)=some (.mp (SetM p.bl)):=W3.y.mp
       simp only [muP,hm,set_put h2,Option.map_some]
      exact ok_val (v:=.bool true) (by simp -implicitDefEqProofs only [nilV_ptr,Option.bind_some,faP_ptr,Nat.zero_add,W3.c 5 _ (fun _=>rfl),hmu,cl_some]<;>rfl) ⟨rfl,v',W4,((KpX.same hL.same).trans k3).trans k4⟩
     ·rw [if_neg (fun hh=>h3 hh.2.2)]
      exact ok_val (v:=.bool false) (g:=g1) (by simp -implicitDefEqProofs only [h3,decide_false,un_not,Bool.not_false,Option.bind_some,cl_some,pickP_bool,Bool.false_eq_true,if_false,condE_true]) ⟨rfl,v,W1,KpX.same hL.same⟩
end
set_option linter.all false
attribute [local congr] c_bind c_cl c_mk c_lp c_clC c_gQ c_gV c_condE c_thenK
theorem idsN_so (on:Nat→Bool):∀ n,(idsN on n).Pairwise (· < ·)
 | 0=>List.Pairwise.nil
 | n+1=>by
  rw [idsN,List.pairwise_append]
  refine⟨idsN_so on n,by split<;>simp,fun a ha b hb=>?_⟩
  obtain⟨k,h1,h2,rfl⟩:=idsN_mem.1 ha
  split at hb
  ·simp at hb;omega
  ·simp at hb
theorem wh_so (p:SC)(h:SH):(p.wh h).Pairwise (· < ·):=(idsN_so h.on 4).filter _
section
variable {g g':Heap}{C D K:Nat→Nat}{v:Vb}{p r:SC}{h:SH}{T:List Shp}{Z:List Nat}
theorem black_run (W:Wi g C D K v p r h T Z)(id:Int):Av (.ptr (some (K 0,0))) (.int .i64 id) g=some (.bool (decide (id∈p.bl)),g):=by
 simp -implicitDefEqProofs only [Av,nilV_ptr,Option.bind_some,faP_ptr,Nat.zero_add,W.c 5 _ (fun _=>rfl),black_eq W id]
theorem cv29 (K:Nat→Nat)(n:Int):cvP (AV.fn 31 [.ptr (some (K 0,0))] []) [.int .i64 n]=some (31,[.ptr (some (K 0,0)),.int .i64 n]):=rfl
theorem t48 (x y:AV)(g:Heap):lookT T48 31 [x,y] g=Av x y g:=rfl
theorem t49 (x y:AV)(g:Heap):lookT T49 31 [x,y] g=Av x y g:=rfl
def nxtV (p:SC)(h:SH):AV:=match p.wh h with | []=>.tup [.int .i64 0,.bool false] | id::_=>.tup [.int .i64 id,.bool true]
theorem cnext_ok (W:Wi g C D K v p r h T Z):Ok (Bh (.ptr (some (K 0,0))) (rI K) g) fun s=>s.1=nxtV p h∧Same [] g s.2:=by
 refine Ok.eq ?_ (by simp -implicitDefEqProofs only [Bh,iv179,clF_some,t51]<;>rfl)
 refine ok_cl (hstacks_ok W) ?_
 rintro x g1 hL
 simp only at hL
 have hl:=ids_len h
 refine ok_cl (cloneI_ok hL (by omega)) ?_
 rintro y g2 hM
 simp only at hM
 refine ok_cl (delete_ok (P:=fun n=>decide (n∈p.bl)) hM (by omega) (fun g3 n s=>⟨31,_,cv29 K n,by rw [t48];exact black_run (W.keep (hM.same.trans s)) n⟩) (fun b n c e g3 m s=>⟨31,_,cv29 K m,?_⟩)) ?_
 ·rw [t49]
  have hb:g.next≤b:=by
   rcases hM.eq with⟨e1,_⟩ | ⟨b',c',rest,e1,h1,_⟩
   ·rw [e1] at e;cases e
   ·rw [e1] at e;cases e;exact h1
  exact black_run (W.keep (hM.same.old s (fun j hj=>.inr (by simp at hj;omega)))) m
 ·rintro z g3 hN
  simp only at hN
  have hwl:(p.wh h).length≤4:=Nat.le_trans (List.length_filter_le _ _) hl
  have hso:=wh_so p h
  change Lst g g3 z (p.wh h) at hN
  unfold nxtV
  cases hw:p.wh h with
  | nil=>
   rw [hw] at hN
   exact ok_val (v:=.tup [.int .i64 0,.bool false]) (g:=g3) (by simp -implicitDefEqProofs only [hN.lnL,List.length_nil,Option.bind_some,eql_int,Int.natCast_zero,Int.ofNat_zero,decide_true,condE_true]) ⟨rfl,hN.same⟩
  | cons a l=>
   rw [hw] at hN hso hwl
   have hz : ¬ (((a::l).length:Nat):Int)=0:=by simp;omega
   refine Ok.eq ?_ (by simp -implicitDefEqProofs only [hN.lnL,Option.bind_some,eql_int,hz,decide_false,condE_false]<;>rfl)
   refine ok_cl (min_ok hN (by omega) (by simp)) ?_
   rintro _ g4 ⟨he,m,rfl,hm,hall⟩
   simp only at he
   subst he
   have e:m=a:=by
    have h1:=hall a (by simp)
    rw [List.pairwise_cons] at hso
    rw [List.mem_cons] at hm
    rcases hm with rfl | hm
    ·rfl
    ·have:=hso.1 m hm;omega
   subst e
   exact ok_val (v:=.tup [.int .i64 m,.bool true]) (g:=g4) rfl ⟨rfl,hN.same⟩
theorem chk_same5 {R:Type}{f:Heap→Option AV}{v:AV}{g:Heap}{x:Option R}(hv:same v v=true)(h0:f g=some v):chk [g,g,g,g,g] [(f,v,0,2)] x=x:=by
 rw [chk_cons,allFrom_succ,allFrom_succ,allFrom_succ,allFrom_zero]
 simp [h0,hv]
theorem used_ok {h:Heap}{q u pb w s:Nat}{l:PAl}(H:AlAt h q u pb w s l)(W:Wf l.ar):Ok (Bm (.ptr (some (q,0))) h) fun r=>∃ n:Int,r=(.int .i64 n,h):=by
 have hN:=W.hi
 have hul:=H.len
 obtain⟨d,hd⟩:=H.ld1
 have ldp:=H.ld0
 have lp0:Ok (DJ (.ptr (some (q,0))) (.int .i64 l.un.length) (.int .i64 0) (.int .i64 0) h) fun r=>r.1 = .exit 0∧r.2.2=h∧∃ n:Int,r.2.1.getD 0 .bot = .int .i64 n:=by
  refine ok_loop (fun m vs g=>∃ (i:Nat) (n:Int),vs = [.int .i64 n,.int .i64 i]∧m+i=l.un.length∧g=h) ?_ (n:=l.un.length) (by omega) ⟨0,0,rfl,rfl,rfl⟩
  rintro m vs g ⟨i,n,rfl,hm,hgg⟩
  subst hgg
  rw [gd0,gd1]
  by_cases hi:i<l.un.length
  ·have hlt:(i:Int)<l.un.length:=by omega
   exact(Ok.of (r:=(.normal,[.int .i64 (IntKind.i64.wrap (n+IntKind.i64.wrap ((ones (l.ar.taken i):Int)*wordsOf (l.ar.cls i)))),.int .i64 ((i+1:Nat):Int)],g)) (.inl ⟨rfl,m - 1,by omega,i+1,_,rfl,by omega,rfl⟩)).eq (by
    simp -implicitDefEqProofs only [Co,bin_lss,hlt,decide_true,Option.bind_some,condE_true,nilV_ptr,faP_ptr,Nat.zero_add,ldp,taken_eq H.ar,cl_some,bones_eq,rdC,clC_some,class_eq H.ar,words_eq,bin_mul,bin_add,chk_same5 (f:=fun g=>ldS g (.ptr (some (q,0)))) (same_ptr _) ldp,suc64 i (by omega)])
  ·have hlt : ¬ (i:Int)<l.un.length:=by omega
   exact(Ok.of (r:=(.exit 0,[.int .i64 n,.int .i64 (i:Int)],g)) (.inr ⟨by simp,rfl,rfl,n,rfl⟩)).eq (by
    simp -implicitDefEqProofs only [Co,bin_lss,hlt,decide_false,Option.bind_some,condE_false])
 refine Ok.eq ?_ (by simp -implicitDefEqProofs only [Bm,nilV_ptr,Option.bind_some,faP_ptr,Nat.zero_add,hd,lnL_sl]<;>rfl)
 refine ok_lp lp0 ?_
 rintro _ vs g ⟨rfl,hg,n,hv⟩
 simp only at hg hv
 subst hg
 exact ok_val (v:=.int .i64 n) (g:=g) (by rw [← hv];rfl) ⟨n,rfl⟩
theorem sweepU_wf {l:PAl}(H:Wf l.ar):Wf l.sweepOne.2.ar:=by
 unfold PAl.sweepOne
 cases l.one l.un.length 0 with
 | none=>exact H
 | some n=>exact sweep_wf H n
theorem cswept_ok (W:Wi g C D K v p r h T Z)(hp:p.ph=3)(x1:AV):Ok (AC (.ptr (some (K 0,0))) x1 g) fun s=>s.1 = .bool true∧p.swept.1=true∧∃ v',Wi s.2 C D K v' p.swept.2 r h T Z∧KpX Z g s.2:=by
 have l4:=W.c 4 _ (fun _=>rfl)
 rw [hp] at l4
 refine Ok.eq ?_ (by simp -implicitDefEqProofs only [AC,nilV_ptr,Option.bind_some,faP_ptr,Nat.zero_add,l4,eql_int,decide_true,decide_false,show((3:Int)=1)=False by simp,show((3:Int)=2)=False by simp,condE_true,condE_false,W.c 2 _ (fun _=>rfl)]<;>rfl)
 refine ok_cl (sweepOne_ok W.j.pm.al) ?_
 rintro _ g3 ⟨rfl,A3,s3⟩
 simp only at A3 s3
 obtain⟨H3,k3⟩:=W.j.pm.turn (s3.sub (by simp)) A3 (sweepU_wf W.j.pm.wf)
 obtain⟨W3,k3⟩:=W.prog H3 k3
 unfold SC.swept
 cases h1:p.l.sweepOne.1 with
 | true=>
  rw [hp] at W3
  exact ok_val (v:=.bool true) (g:=g3) rfl ⟨rfl,rfl,_,W3,k3⟩
 | false=>
  have hl:p.l.sweepOne.2=p.l:=by
   unfold PAl.sweepOne at h1 ⊢
   cases hl:p.l.one p.l.un.length 0 with
   | none=>rfl
   | some n=>rw [hl] at h1;cases h1
  rw [hl] at W3
  obtain⟨g4,e4,W4,k4⟩:=W3.setP 4 (.int .i64 0) 0 p.dn (fun u=>⟨u,rfl⟩) (by omega) rfl
  obtain⟨g5,e5,W5,k5⟩:=W4.setP 6 (.int .i64 (IntKind.i64.wrap (p.dn+1))) 0 (IntKind.i64.wrap (p.dn+1)) (fun u=>⟨u,rfl⟩) (by omega) rfl
  refine Ok.eq ?_ (by simp -implicitDefEqProofs only [un_not,Bool.not_false,Option.bind_some,condE_true,nilV_ptr,faP_ptr,Nat.zero_add,e4,cl_some,W4.c 6 _ (fun _=>rfl),bin_add,e5,W5.c 2 _ (fun _=>rfl)]<;>rfl)
  refine ok_cl (used_ok W5.j.pm.al W5.j.pm.wf) ?_
  rintro _ _ ⟨n,he⟩
  cases he
  obtain⟨y,hy⟩:∃ y:Int,maxP (.int .i64 n) (.int .i64 64)=some (.int .i64 y):=⟨_,rfl⟩
  obtain⟨g6,e6,W6,k6⟩:=W5.setP 7 (.int .i64 y) 0 (IntKind.i64.wrap (p.dn+1)) (fun u=>⟨y,rfl⟩) (by omega) rfl
  exact ok_val (v:=.bool true) (g:=g6) (by simp -implicitDefEqProofs only [hy,Option.bind_some,nilV_ptr,faP_ptr,Nat.zero_add,e6,cl_some]) ⟨rfl,rfl,_,W6,((k3.trans k4).trans k5).trans k6⟩
theorem cstep_ok (W:Wi g C D K v p r h T Z)(hs:h.sm)(hq:p.gq.length≤2 ^ 30):Ok (AC (.ptr (some (K 0,0))) (rI K) g) fun s=>s.1 = .bool (p.step T h).1∧∃ v',Wi s.2 C D K v' (p.step T h).2 r h T Z∧KpX Z g s.2:=by
 have l4:=W.c 4 _ (fun _=>rfl)
 unfold SC.step
 by_cases h1:p.ph=1
 ·rw [if_pos h1]
  rw [h1] at l4
  refine Ok.eq ?_ (by simp -implicitDefEqProofs only [AC,nilV_ptr,Option.bind_some,faP_ptr,Nat.zero_add,l4,eql_int,decide_true,condE_true]<;>rfl)
  refine ok_cl (cnext_ok W) ?_
  rintro _ g1 ⟨rfl,s1⟩
  simp only at s1
  have W1:=W.keep s1
  unfold nxtV
  cases hw:p.wh h with
  | nil=>
   obtain⟨g2,e2,W2,k2⟩:=W1.setP 4 (.int .i64 2) 2 p.dn (fun u=>⟨u,rfl⟩) (by omega) rfl
   exact ok_val (v:=.bool true) (g:=g2) (by simp -implicitDefEqProofs only [extractV_tup,e0,e1,Option.bind_some,condE_false,nilV_ptr,faP_ptr,Nat.zero_add,e2,cl_some]) ⟨rfl,_,W2,(KpX.same s1).trans k2⟩
  | cons id l=>
   refine Ok.eq ?_ (by simp -implicitDefEqProofs only [extractV_tup,e0,e1,Option.bind_some,condE_true]<;>rfl)
   refine ok_cl (cscan_ok W1 hs hq id) ?_
   rintro _ g2 ⟨rfl,v',W2,k2⟩
   exact ok_val (v:=.bool true) (g:=g2) rfl ⟨rfl,v',W2,(KpX.same s1).trans k2⟩
 ·rw [if_neg h1]
  by_cases h2:p.ph=2
  ·rw [if_pos h2]
   rw [h2] at l4
   refine Ok.eq ?_ (by simp -implicitDefEqProofs only [AC,nilV_ptr,Option.bind_some,faP_ptr,Nat.zero_add,l4,eql_int,decide_true,decide_false,show((2:Int)=1)=False by simp,condE_true,condE_false,W.c 3 _ (fun _=>rfl)]<;>rfl)
   cases hgq:p.gq with
   | cons x q=>
    have H:=W.j.pm
    rw [hgq] at H hq
    refine ok_cl (mstep_ok H (by simp at hq;omega)) ?_
    rintro _ g1 ⟨rfl,qb',H2,k2⟩
    simp only at H2 k2
    obtain⟨W2,k2⟩:=W.prog H2 k2
    exact ok_val (v:=.bool true) (g:=g1) rfl ⟨rfl,_,W2,k2⟩
   | nil=>
    have H:=W.j.pm
    rw [hgq] at H
    refine Ok.eq ?_ (by simp -implicitDefEqProofs only [mstep_no H,cl_some,condE_false]<;>rfl)
    refine ok_cl (cnext_ok W) ?_
    rintro _ g1 ⟨rfl,s1⟩
    simp only at s1
    have W1:=W.keep s1
    unfold nxtV
    cases hw:p.wh h with
    | nil=>
     obtain⟨g2,e2,W2,k2⟩:=W1.setP 4 (.int .i64 3) 3 p.dn (fun u=>⟨u,rfl⟩) (by omega) rfl
     refine Ok.eq ?_ (by simp -implicitDefEqProofs only [extractV_tup,e0,e1,Option.bind_some,condE_false,nilV_ptr,faP_ptr,Nat.zero_add,e2,cl_some,W2.c 2 _ (fun _=>rfl)]<;>rfl)
     refine ok_cl (stale_ok W2.j.pm.al) ?_
     rintro _ g3 ⟨rfl,A3,s3⟩
     simp only at A3 s3
     obtain⟨H3,k3⟩:=W2.j.pm.turn (s3.sub (by simp)) A3 W2.j.pm.wf
     obtain⟨W3,k3⟩:=W2.prog H3 k3
     simp only [hgq] at W3
     exact ok_val (v:=.bool true) (g:=g3) rfl ⟨rfl,_,W3,((KpX.same s1).trans k2).trans k3⟩
    | cons id l=>
     obtain⟨g2,e2,W2,k2⟩:=W1.setP 4 (.int .i64 1) 1 p.dn (fun u=>⟨u,rfl⟩) (by omega) rfl
     exact ok_val (v:=.bool true) (g:=g2) (by simp -implicitDefEqProofs only [extractV_tup,e0,e1,Option.bind_some,condE_true,nilV_ptr,faP_ptr,Nat.zero_add,e2,cl_some]) ⟨rfl,_,W2,(KpX.same s1).trans k2⟩
  ·rw [if_neg h2]
   by_cases h3:p.ph=3
   ·rw [if_pos h3]
    refine Ok.mono (cswept_ok W h3 _) ?_
    rintro s ⟨e1,e2,e3⟩
    rw [e2]
    exact⟨e1,e3⟩
   ·rw [if_neg h3]
    exact ok_val (v:=.bool false) (g:=g) (by simp -implicitDefEqProofs only [AC,nilV_ptr,Option.bind_some,faP_ptr,Nat.zero_add,l4,eql_int,h1,h2,h3,decide_false,condE_false]) ⟨rfl,v,W,KpX.refl _ _⟩
end
set_option linter.all false
attribute [local congr] c_bind c_cl c_mk c_lp c_clC c_gQ c_gV c_condE c_thenK
theorem set_del {x:Int}:∀ {S:List Int},S.Nodup→dlA (.int .i64) (.int .i64 x) (SetM S)=some (SetM (S.filter fun n=>!decide (n=x)))
 | [],_=>rfl
 | y::S,h=>by
  rw [List.nodup_cons] at h
  have ih:=set_del (x:=x) h.2
  have hk:kindOk (.int .i64) (.int .i64 x)=some ():=rfl
  unfold dlA at ih ⊢
  rw [hk,Option.bind_some] at ih ⊢
  show delMap (.int .i64) (.int .i64 x) ((AV.int .i64 y,AV.bool true)::SetM S)=_
  rw [delMap]
  have he:eqT (.int .i64) (.int .i64 x) (.int .i64 y)=some (decide (x=y)):=rfl
  rw [he,Option.bind_some]
  by_cases e:x=y
  ·subst e
   have hf:S.filter (fun n=>!decide (n=x))=S:=List.filter_eq_self.2 fun n hn=>by
    have:n≠x:=fun e=>h.1 (e ▸ hn)
    simp [this]
   simp [hf]
  ·have e' : ¬ y=x:=fun h=>e h.symm
   simp only [e,decide_false,Bool.false_eq_true,if_false,ih,Option.map_some]
   rw [List.filter_cons_of_pos (by simp [e'])]
   rfl
section
variable {g g':Heap}{C D K:Nat→Nat}{v:Vb}{p r:SC}{h:SH}{T:List Shp}{Z:List Nat}
theorem cshade1 (W:Wi g C D K v p r h T Z)(x:Int)(hq:p.gq.length≤2 ^ 30):Ok (AW (.ptr (some (C 11,0))) (.int .i64 x) g) fun s=>∃ v',Wi s.2 C D K v' (p.shade [x]) r h T Z∧KpX Z g s.2:=by
 refine Ok.mono (mshade_ok W.j.pm x (by omega)) ?_
 rintro s ⟨_,qb',H2,k2⟩
 obtain⟨W2,k3⟩:=W.prog H2 k2
 exact⟨_,W2,k3⟩
theorem shade_len (p:SC)(L:List Int):(p.shade L).gq.length≤p.gq.length+L.length:=by
 have:∀ (L:List Int) (a:PAr) (q:List Int),(shadeL a q L).2.length≤q.length+L.length:=by
  intro L
  induction L with
  | nil=>intro a q;simp [shadeL]
  | cons x L ih=>
   intro a q
   rw [shadeL]
   refine Nat.le_trans (ih _ _) ?_
   split<;>simp<;>omega
 exact this L p.l.ar p.gq
theorem cbarrier_ok (W:Wi g C D K v p r h T Z)(hq:p.gq.length≤2 ^ 29)(old fresh id:Int):Ok (AL (.ptr (some (K 0,0))) (.int .i64 old) (.int .i64 fresh) (.int .i64 id) g) fun s=>∃ v',Wi s.2 C D K v' (p.barrier old fresh id) r h T Z∧KpX Z g s.2:=by
 have hsh:=shades_eq W
 unfold SC.barrier
 cases h1:shB p.ph with
 | false=>
  rw [h1] at hsh
  exact ok_val (v:=.tup []) (g:=g) (by simp -implicitDefEqProofs only [AL,hsh,cl_some,un_not,Bool.not_false,Option.bind_some,condE_true]) ⟨v,by simpa using W,KpX.refl _ _⟩
 | true=>
  rw [h1] at hsh
  refine Ok.eq ?_ (by simp -implicitDefEqProofs only [AL,hsh,cl_some,un_not,Bool.not_true,Option.bind_some,condE_false,nilV_ptr,faP_ptr,Nat.zero_add,W.c 3 _ (fun _=>rfl)]<;>rfl)
  refine ok_cl (cshade1 W old (by omega)) ?_
  rintro _ g1 ⟨v1,W1,k1⟩
  simp only at W1 k1
  have hb:=black_eq W1 id
  have l5:=W1.c 5 _ (fun _=>rfl)
  have l3:=W1.c 3 _ (fun _=>rfl)
  have hl:=shade_len p [old]
  by_cases h2:id∈p.bl
  ·rw [decide_eq_true (show id∈(p.shade [old]).bl from h2)] at hb
   refine ok_val (v:=.tup []) (g:=g1) (by simp -implicitDefEqProofs only [nilV_ptr,Option.bind_some,faP_ptr,Nat.zero_add,l5,hb,un_not,Bool.not_true,condE_false]) ⟨v1,?_,k1⟩
   rw [if_pos rfl,if_pos h2];exact W1
  ·rw [decide_eq_false (show id∉(p.shade [old]).bl from h2)] at hb
   refine Ok.eq ?_ (by simp -implicitDefEqProofs only [nilV_ptr,Option.bind_some,faP_ptr,Nat.zero_add,l5,hb,un_not,Bool.not_false,condE_true,l3]<;>rfl)
   refine ok_cl (cshade1 W1 fresh (by simp at hl ⊢;omega)) ?_
   rintro _ g2 ⟨v2,W2,k2⟩
   simp only at W2 k2
   refine ok_val (v:=.tup []) (g:=g2) rfl ⟨v2,?_,k1.trans k2⟩
   rw [if_pos rfl,if_neg h2];exact W2
theorem set_putA {x:Int}{S:List Int}:ptA (.int .i64) (.int .i64 x) (.bool true) (SetM S)=some (SetM (if x∈S then S else S ++ [x])):=by
 by_cases hx:x∈S
 ·rw [if_pos hx]
  induction S with
  | nil=>simp at hx
  | cons y S ih=>
   have hk:kindOk (.int .i64) (.int .i64 x)=some ():=rfl
   unfold ptA at ih ⊢
   rw [hk,Option.bind_some] at ih ⊢
   show putMap (.int .i64) (.int .i64 x) (.bool true) ((AV.int .i64 y,AV.bool true)::SetM S)=_
   rw [putMap]
   have he:eqT (.int .i64) (.int .i64 x) (.int .i64 y)=some (decide (x=y)):=rfl
   rw [he,Option.bind_some]
   by_cases e:x=y
   ·subst e;simp [SetM]
   ·have hx':x∈S:=by simpa [e] using hx
    simp only [e,decide_false,Bool.false_eq_true,if_false,ih hx',Option.map_some]
    rfl
 ·rw [if_neg hx];exact set_put hx
theorem cborn_ok (W:Wi g C D K v p r h T Z)(id:Int):Ok (BA (.ptr (some (K 0,0))) (.int .i64 id) g) fun s=>Wi s.2 C D K v (p.born id) r h T Z∧KpX Z g s.2:=by
 have hsh:=shades_eq W
 unfold SC.born
 cases h1:shB p.ph with
 | false=>
  rw [h1] at hsh
  refine ok_val (v:=.tup []) (g:=g) (by simp -implicitDefEqProofs only [BA,hsh,cl_some,condE_false]) ⟨?_,KpX.refl _ _⟩
  rw [if_neg (by simp)];exact W
 | true=>
  rw [h1] at hsh
  have hmu:muP (ptA (.int .i64)) g (.mp (some (K 1))) (.int .i64 id) (.bool true)=some (.bot,g.put (K 1) (some (.mp (SetM (if id∈p.bl then p.bl else p.bl ++ [id]))))):=by
   simp only [muP,W.y.mp,set_putA,Option.map_some]
  obtain⟨W2,k2⟩:=W.setM (if id∈p.bl then p.bl else p.bl ++ [id])
  refine ok_val (v:=.tup []) (by simp -implicitDefEqProofs only [BA,hsh,cl_some,condE_true,nilV_ptr,Option.bind_some,faP_ptr,Nat.zero_add,W.c 5 _ (fun _=>rfl),hmu]<;>rfl) ⟨?_,k2⟩
  by_cases h2:id∈p.bl
  ·rw [if_pos h2] at W2 ⊢
   rw [if_neg (fun hh=>hh.2 h2)];exact W2
  ·rw [if_neg h2] at W2 ⊢
   rw [if_pos ⟨rfl,h2⟩];exact W2
theorem cdies_ok (W:Wi g C D K v p r h T Z)(hn:p.bl.Nodup)(id:Int):Ok (Bl (.ptr (some (K 0,0))) (.int .i64 id) g) fun s=>Wi s.2 C D K v (p.dies id) r h T Z∧KpX Z g s.2:=by
 have hm:dlP (dlA (.int .i64)) g (.mp (some (K 1))) (.int .i64 id)=some (.tup [],g.put (K 1) (some (.mp (SetM (p.bl.filter fun n=>!decide (n=id)))))):=by
  simp only [dlP,W.y.mp,set_del hn,Option.map_some]
 exact ok_val (v:=.tup []) (by simp -implicitDefEqProofs only [Bl,nilV_ptr,Option.bind_some,faP_ptr,Nat.zero_add,W.c 5 _ (fun _=>rfl),hm,cl_some]<;>rfl) (W.setM _)
theorem take_wf {l:PAl}(H:Wf l.ar)(hu:l.un.length=l.ar.sp.length)(h0:U0 l)(w:Int):Wf (l.take w).2.ar:=by
 by_cases hc:classOf w = -1
 ·unfold PAl.take;rw [if_pos hc];exact H
 ·obtain⟨l1,S,h | ⟨ad,l',h,M⟩⟩:=gtake H hu h0 hc
  ·rw [h];exact S.wf
  ·rw [h];exact M.wf
theorem ctake_ok (W:Wi g C D K v p r h T Z)(h0:U0 p.l)(w:Int):Ok (BD (.ptr (some (K 0,0))) (.int .i64 w) g) fun s=>s.1 = .tup [.int .i64 (p.take w).1.1,.int .i64 (p.take w).1.2]∧∃ v',Wi s.2 C D K v' (p.take w).2 r h T Z∧KpX Z g s.2:=by
 have H:=W.j.pm
 have hu:=H.al.len
 refine Ok.eq ?_ (by simp -implicitDefEqProofs only [BD,nilV_ptr,Option.bind_some,faP_ptr,Nat.zero_add,W.c 2 _ (fun _=>rfl)]<;>rfl)
 refine ok_cl (atake_ok H.al H.t0 (H.pos 8 rfl) (H.pos 5 rfl) (H.pos 7 rfl) w) ?_
 rintro _ g1 ⟨rfl,A1,s1⟩
 simp only at A1 s1
 obtain⟨H1,k1⟩:=H.turn s1 A1 (take_wf H.wf hu h0 w)
 obtain⟨W1,k1⟩:=W.prog H1 k1
 have hsh:=shades_eq W1
 simp only at hsh
 unfold SC.take
 by_cases he:(p.l.take w).1.2=0
 ·cases hb:shB p.ph with
  | true=>
   rw [hb] at hsh
   refine Ok.eq ?_ (by simp -implicitDefEqProofs only [extractV_tup,e0,e1,Option.bind_some,eql_int,he,decide_true,gdW_tt,gQ_true,cl_some,hsh,pickP_bool,if_true,condE_true,nilV_ptr,faP_ptr,Nat.zero_add,W1.c 0 _ (fun _=>rfl)]<;>rfl)
   refine ok_cl (mark_ok W1.j.pm.al.ar _) ?_
   rintro _ g2 ⟨rfl,A2,s2⟩
   simp only at A2 s2
   have S:=mark_same (p.l.take w).2.ar (p.l.take w).1.1
   obtain⟨H2,k2⟩:=W1.j.pm.turn (l':=⟨((p.l.take w).2.ar.mark (p.l.take w).1.1).2,(p.l.take w).2.un⟩) (s2.sub (by simp)) (W1.j.pm.al.arena (s2.sub (by simp)) A2 S.len) (S.wf W1.j.pm.wf)
   obtain⟨W2,k2⟩:=W1.prog H2 k2
   refine ok_val (v:=.tup [.int .i64 (p.l.take w).1.1,.int .i64 (p.l.take w).1.2]) (g:=g2) (by rw [he]) ⟨rfl,?_⟩
   rw [if_pos ⟨he,rfl⟩]
   exact⟨_,W2,k1.trans k2⟩
  | false=>
   rw [hb] at hsh
   refine ok_val (v:=.tup [.int .i64 (p.l.take w).1.1,.int .i64 (p.l.take w).1.2]) (g:=g1) (by simp -implicitDefEqProofs only [extractV_tup,e0,e1,Option.bind_some,eql_int,he,decide_true,gdW_tt,gQ_true,cl_some,hsh,pickP_bool,if_true,condE_false]) ⟨rfl,?_⟩
   rw [if_neg (by simp)]
   exact⟨_,W1,k1⟩
 ·refine ok_val (v:=.tup [.int .i64 (p.l.take w).1.1,.int .i64 (p.l.take w).1.2]) (g:=g1) (by simp -implicitDefEqProofs only [extractV_tup,e0,e1,Option.bind_some,eql_int,he,decide_false,gdW_ft,gQ_false,pickP_bool,Bool.false_eq_true,if_false,condE_false]) ⟨rfl,?_⟩
  rw [if_neg (fun hh=>he hh.1)]
  exact⟨_,W1,k1⟩
end
set_option linter.all false
attribute [local congr] c_bind c_cl c_mk c_lp c_clC c_gQ c_gV c_condE c_thenK
theorem one_at {l:PAl}:∀ {k n m:Nat},l.one k n=some m→(l.un[m]?).getD false=true∧n≤m∧m<n+k
 | 0,n,m,h=>by cases h
 | k+1,n,m,h=>by
  rw [PAl.one] at h
  split at h
  ·rename_i e;cases h;exact⟨e,Nat.le_refl _,by omega⟩
  ·obtain⟨h1,h2,h3⟩:=one_at h
   exact⟨h1,by omega,by omega⟩
theorem one_no {l:PAl}:∀ {k n:Nat},l.one k n=none→∀ m,n≤m→m<n+k→(l.un[m]?).getD false=false
 | 0,n,h,m,h1,h2=>by omega
 | k+1,n,h,m,h1,h2=>by
  rw [PAl.one] at h
  split at h
  ·cases h
  ·rename_i e
   by_cases em:m=n
   ·subst em;simpa using e
   ·exact one_no h m (by omega) (by omega)
theorem one_cases (l:PAl):(l.sweepOne.1=false∧l.sweepOne.2=l∧∀ m:Nat,(l.un[m]?).getD false=false)∨(∃ n,l.sweepOne=(true,l.sweepU n)∧n<l.un.length∧(l.un[n]?).getD false=true):=by
 unfold PAl.sweepOne
 cases h:l.one l.un.length 0 with
 | none=>
  left
  refine⟨rfl,rfl,fun m=>?_⟩
  by_cases hm:m<l.un.length
  ·exact one_no h m (Nat.zero_le _) (by omega)
  ·rw [List.getElem?_eq_none (by omega)];rfl
 | some n=>
  right
  obtain⟨h1,h2,h3⟩:=one_at h
  exact⟨n,rfl,by omega,h1⟩
theorem left_one {l:PAl}(h:l.sweepOne.1=true):l.sweepOne.2.left+1=l.left:=by
 rcases one_cases l with⟨h1,_⟩ | ⟨n,h1,h2,h3⟩
 ·rw [h1] at h;cases h
 ·rw [h1]
  show(l.sweepU n).left+1=l.left
  unfold PAl.left
  rw [(sweepL_len l n).1]
  have:=cnt_ins n (fun i=>((l.un.set n false)[i]?).getD false) (by rw [List.getElem?_set_self h2];rfl) l.un.length
  simp only [h2,decide_true,Bool.toNat_true] at this
  show cnt (fun i=>((l.un.set n false)[i]?).getD false) l.un.length+1=_
  rw [← this]
  apply cnt_congr
  intro i hi
  by_cases e:n=i
  ·subst e;simp [h3]
  ·simp [e]
def SC.f (p:SC)(h:SH):Nat:=if p.ph=1 then(if (p.wh h).length=0 then 1 else 3*(p.wh h).length) else(if (p.wh h).length=0 then 0 else 3*(p.wh h).length+1)
def SC.meas (p:SC)(h:SH):Nat:=if shB p.ph=true then p.gq.length+p.l.ar.mu+p.f h+p.l.un.length+2 else if p.ph=3 then 1+p.l.left else 0
theorem sh1:shB 1=true:=rfl
theorem sh2:shB 2=true:=rfl
theorem sh3:shB 3=false:=rfl
theorem sh0:shB 0=false:=rfl
theorem shB_iff {n:Int}:shB n=true↔n=1∨n=2:=by unfold shB;simp
theorem shade_mu (p:SC)(L:List Int):(p.shade L).gq.length+(p.shade L).l.ar.mu=p.gq.length+p.l.ar.mu:=shadeL_mu L p.l.ar p.gq
theorem wh_scan {p:SC}{h:SH}{id:Int}{l:List Int}(hw:p.wh h=id::l):id∉p.bl∧id∈ids h:=by
 have:id∈p.wh h:=by rw [hw];simp
 unfold SC.wh at this
 rw [List.mem_filter] at this
 simpa [and_comm] using this
theorem wh_less {p:SC}{h:SH}{id:Int}{l:List Int}(hw:p.wh h=id::l)(q:SC)(hq:q.bl=p.bl ++ [id]):(q.wh h).length<(p.wh h).length:=by
 have e:q.wh h=(p.wh h).filter fun n=>!decide (n=id):=by
  unfold SC.wh
  rw [List.filter_filter,hq]
  apply List.filter_congr
  intro x _
  simp only [List.mem_append,List.mem_singleton]
  by_cases h1:x∈p.bl<;>by_cases h2:x=id<;>simp [h1,h2]
 rw [e]
 apply List.length_filter_lt_length_iff_exists.2
 exact⟨id,by rw [hw];simp,by simp⟩
theorem scan_ok {p:SC}{h:SH}{id:Int}{l:List Int}(h1:shB p.ph=true)(hw:p.wh h=id::l):p.scan h id=(true,(p.shade (stk h id)).black (p.bl ++ [id])):=by
 obtain⟨h2,h3⟩:=wh_scan hw
 unfold SC.scan;rw [if_pos ⟨h1,h2,h3⟩]
theorem left_le (l:PAl):l.left≤l.un.length:=cnt_le _ _
theorem step_less {T:List Shp}{p:SC}{h:SH}(hs:(p.step T h).1=true):(p.step T h).2.meas h<p.meas h:=by
 unfold SC.step at hs ⊢
 by_cases h1:p.ph=1
 ·rw [if_pos h1]
  have hm:p.meas h=p.gq.length+p.l.ar.mu+p.f h+p.l.un.length+2:=by unfold SC.meas;rw [h1,if_pos sh1]
  rw [hm]
  cases hw:p.wh h with
  | nil=>
   simp only
   have e:(p.at 2).wh h = []:=hw
   have e2:(p.at 2).f h=0:=by unfold SC.f;rw [e];rfl
   have e3:p.f h=1:=by unfold SC.f;rw [if_pos h1,hw];rfl
   unfold SC.meas
   rw [show(p.at 2).ph=2 from rfl,if_pos sh2,e2,e3]
   show p.gq.length+p.l.ar.mu+0+p.l.un.length+2 < _
   omega
  | cons id l=>
   simp only
   rw [scan_ok (by rw [h1];rfl) hw]
   have hl:=wh_less hw ((p.shade (stk h id)).black (p.bl ++ [id])) rfl
   have hmu:=shade_mu p (stk h id)
   have e3:p.f h=3*(p.wh h).length:=by unfold SC.f;rw [if_pos h1,if_neg (by rw [hw];simp)]
   have e2:((p.shade (stk h id)).black (p.bl ++ [id])).f h≤3*(((p.shade (stk h id)).black (p.bl ++ [id])).wh h).length+1:=by
    unfold SC.f
    rw [if_pos (show((p.shade (stk h id)).black (p.bl ++ [id])).ph=1 from h1)]
    split<;>omega
   unfold SC.meas
   rw [show((p.shade (stk h id)).black (p.bl ++ [id])).ph=p.ph from rfl,h1,if_pos sh1]
   show(p.shade (stk h id)).gq.length+(p.shade (stk h id)).l.ar.mu+((p.shade (stk h id)).black (p.bl ++ [id])).f h+p.l.un.length+2 < _
   omega
 ·rw [if_neg h1] at hs ⊢
  by_cases h2:p.ph=2
  ·rw [if_pos h2] at hs ⊢
   have hm:p.meas h=p.gq.length+p.l.ar.mu+p.f h+p.l.un.length+2:=by unfold SC.meas;rw [h2,if_pos sh2]
   rw [hm]
   cases hq:p.gq with
   | cons x q=>
    simp only
    have hmu:=shade_mu ⟨p.l,q,p.ph,p.bl,p.dn⟩ (fieldsL T p.l.ar x)
    simp only at hmu
    unfold SC.meas
    rw [show((⟨p.l,q,p.ph,p.bl,p.dn⟩:SC).shade (fieldsL T p.l.ar x)).ph=p.ph from rfl,h2,if_pos sh2]
    rw [h2] at hmu
    show((⟨p.l,q,2,p.bl,p.dn⟩:SC).shade (fieldsL T p.l.ar x)).gq.length+((⟨p.l,q,2,p.bl,p.dn⟩:SC).shade (fieldsL T p.l.ar x)).l.ar.mu+((⟨p.l,q,2,p.bl,p.dn⟩:SC).shade (fieldsL T p.l.ar x)).f h+p.l.un.length+2 < _
    have e:((⟨p.l,q,2,p.bl,p.dn⟩:SC).shade (fieldsL T p.l.ar x)).f h=p.f h:=by
     unfold SC.f
     rw [if_neg h1]
     rfl
    rw [e,hmu,List.length_cons]
    omega
   | nil=>
    simp only
    cases hw:p.wh h with
    | nil=>
     simp only
     have hl:=left_le p.l.stale
     have hsl:p.l.stale.un.length=p.l.un.length:=by simp [PAl.stale]
     unfold SC.meas
     rw [if_neg (by rw [sh3];simp),if_pos rfl]
     simp only
     omega
    | cons id l=>
     simp only
     have e3:p.f h=3*(p.wh h).length+1:=by unfold SC.f;rw [if_neg h1,if_neg (by rw [hw];simp)]
     have e2:(p.at 1).f h=3*(p.wh h).length:=by unfold SC.f;rw [if_pos (show(p.at 1).ph=1 from rfl)];rw [show(p.at 1).wh h=p.wh h from rfl,if_neg (by rw [hw];simp)]
     unfold SC.meas
     rw [show(p.at 1).ph=1 from rfl,if_pos sh1,e2,e3]
     show p.gq.length+p.l.ar.mu+_+p.l.un.length+2 < _
     rw [hq]
     omega
  ·rw [if_neg h2] at hs ⊢
   by_cases h3:p.ph=3
   ·rw [if_pos h3] at hs ⊢
    have hm:p.meas h=1+p.l.left:=by unfold SC.meas;rw [h3,if_neg (by rw [sh3];simp),if_pos rfl]
    rw [hm]
    unfold SC.swept
    cases h4:p.l.sweepOne.1 with
    | true=>
     rw [if_pos rfl]
     have:=left_one h4
     unfold SC.meas
     rw [if_neg (by rw [sh3];simp),if_pos rfl]
     simp only
     omega
    | false=>
     rw [if_neg (by simp)]
     unfold SC.meas
     rw [if_neg (by rw [sh0];simp),if_neg (by simp)]
     omega
   ·rw [if_neg h3] at hs;cases hs
def SC.run (T:List Shp)(h:SH):Nat→SC→SC
 | 0,p=>p
 | n+1,p=>if (p.step T h).1=true then SC.run T h n (p.step T h).2 else p
theorem run_stable (T:List Shp)(h:SH):∀ (n m:Nat) (p:SC),p.meas h≤n→p.meas h≤m→p.run T h n=p.run T h m:=by
 intro n
 induction n with
 | zero=>
  intro m p h1 h2
  cases m with
  | zero=>rfl
  | succ m=>
   rw [SC.run,SC.run]
   split
   ·rename_i hs;have:=step_less hs;omega
   ·rfl
 | succ n ih=>
  intro m p h1 h2
  cases m with
  | zero=>
   rw [SC.run,SC.run]
   split
   ·rename_i hs;have:=step_less hs;omega
   ·rfl
  | succ m=>
   rw [SC.run,SC.run]
   split
   ·rename_i hs
    have:=step_less hs
    exact ih m _ (by omega) (by omega)
   ·rfl
def SC.fin (T:List Shp)(h:SH)(p:SC):SC:=p.run T h (p.meas h)
theorem fin_step {T:List Shp}{h:SH}{p:SC}(hs:(p.step T h).1=true):p.fin T h=(p.step T h).2.fin T h:=by
 have hl:=step_less hs
 unfold SC.fin
 rw [run_stable T h (p.meas h) (p.meas h+1) p (Nat.le_refl _) (by omega),SC.run,if_pos hs]
 exact run_stable T h _ _ _ (by omega) (Nat.le_refl _)
theorem fin_end {T:List Shp}{h:SH}{p:SC}(hs:(p.step T h).1=false):p.fin T h=p:=by
 unfold SC.fin
 rw [run_stable T h (p.meas h) (p.meas h+1) p (Nat.le_refl _) (by omega),SC.run,if_neg (by rw [hs];simp)]
def SC.whole (T:List Shp)(h:SH)(p:SC):SC:=((p.fin T h).start h).2.fin T h
structure Iq (B:Nat)(p:SC):Prop where
 q:p.gq.length≤B
 m:shB p.ph=true→p.gq.length+p.l.ar.mu≤B
theorem step_q {T:List Shp}{B:Nat}{p:SC}{h:SH}(I:Iq B p):Iq B (p.step T h).2:=by
 unfold SC.step
 by_cases h1:p.ph=1
 ·rw [if_pos h1]
  have hm:=I.m (by rw [h1];rfl)
  cases hw:p.wh h with
  | nil=>exact⟨I.q,fun _=>hm⟩
  | cons id l=>
   simp only
   rw [scan_ok (by rw [h1];rfl) hw]
   have hmu:=shade_mu p (stk h id)
   refine⟨?_,fun _=>?_⟩
   ·show(p.shade (stk h id)).gq.length≤B
    omega
   ·show(p.shade (stk h id)).gq.length+(p.shade (stk h id)).l.ar.mu≤B
    omega
 ·rw [if_neg h1]
  by_cases h2:p.ph=2
  ·rw [if_pos h2]
   have hm:=I.m (by rw [h2];rfl)
   cases hq:p.gq with
   | cons x q=>
    simp only
    have hmu:=shade_mu ⟨p.l,q,p.ph,p.bl,p.dn⟩ (fieldsL T p.l.ar x)
    simp only at hmu
    rw [hq,List.length_cons] at hm
    exact⟨by omega,fun _=>by omega⟩
   | nil=>
    simp only
    cases hw:p.wh h with
    | nil=>exact⟨by simp,fun h=>by simp [sh3] at h⟩
    | cons id l=>exact⟨I.q,fun _=>hm⟩
  ·rw [if_neg h2]
   by_cases h3:p.ph=3
   ·rw [if_pos h3]
    unfold SC.swept
    split
    ·exact⟨I.q,fun h=>by simp [sh3] at h⟩
    ·exact⟨I.q,fun h=>by simp [sh0] at h⟩
   ·rw [if_neg h3];exact I
theorem start_q {B:Nat}{p:SC}{h:SH}(I:Iq B p)(hm:p.l.ar.clear.mu≤32768):Iq (B+32768) (p.start h).2:=by
 unfold SC.start
 have hq:=I.q
 split
 ·have hmu:=shade_mu ⟨⟨p.l.ar.clear,p.l.un⟩,p.gq,1,[],p.dn⟩ (h.L 0)
  simp only at hmu
  exact⟨by simp only;omega,fun _=>by simp only;omega⟩
 ·exact⟨by simp only;omega,fun hh=>by have:=I.m hh;simp only;omega⟩
theorem mu_wf {a:PAr}(H:Wf a):a.mu≤32768:=by
 have:=mu_le a
 have:=H.hi
 omega
theorem f_le (p:SC)(h:SH):p.f h≤13:=by
 have h1:(p.wh h).length≤4:=Nat.le_trans (List.length_filter_le _ _) (ids_len h)
 unfold SC.f
 repeat (split<;>try omega)
theorem meas_le {p:SC}(H:Wf p.l.ar)(hu:p.l.un.length=p.l.ar.sp.length)(h:SH):p.meas h≤p.gq.length+p.l.ar.sp.length * 65+15:=by
 have h1:=mu_le p.l.ar
 have h2:=f_le p h
 have h3:=left_le p.l
 unfold SC.meas
 split
 ·omega
 ·split<;>omega
section
variable {g g':Heap}{C D K:Nat→Nat}{v:Vb}{p r:SC}{h:SH}{T:List Shp}{Z:List Nat}
theorem cwhole_loop (W:Wi g C D K v p r h T Z)(hs:h.sm){B:Nat}(I:Iq B p)(hB:B≤2 ^ 30)(e:Nat){b:Heap→OutV}
  (hb:∀ g,b g=cl (AC (.ptr (some (K 0,0))) (rI K) g) fun t h1=>condE t (some (.normal,[],h1)) (some (.exit e,[],h1))) :
  Ok (loopN (fun us g=>b g) [] g) fun s=>s.1 = .exit e∧∃ v',Wi s.2.2 C D K v' (p.fin T h) r h T Z∧KpX Z g s.2.2∧Iq B (p.fin T h):=by
 refine ok_loop (fun m vs g2=>vs = []∧∃ p' v',Wi g2 C D K v' p' r h T Z∧KpX Z g g2∧p'.fin T h=p.fin T h∧p'.meas h≤m∧Iq B p'∧m≤p.meas h) ?_ (n:=p.meas h) (by have h1:=meas_le W.j.pm.wf W.j.pm.al.len h;have h2:=W.j.pm.wf.hi;have h3:=I.q;omega) ⟨rfl,p,v,W,KpX.refl _ _,rfl,Nat.le_refl _,I,Nat.le_refl _⟩
 rintro m vs g2 ⟨rfl,p',v',W',k,he,hm,I',hmm⟩
 refine Ok.eq ?_ (by rw [hb])
 have hq:=I'.q
 refine ok_cl (cstep_ok W' hs (by omega)) ?_
 rintro _ g3 ⟨rfl,v2,W2,k2⟩
 simp only at W2 k2
 cases hst:(p'.step T h).1 with
 | true=>
  have hl:=step_less hst
  exact(Ok.of (r:=((Ex.normal,([]:List AV),g3):Ex × List AV × Heap)) (.inl ⟨rfl,m - 1,by omega,rfl,_,v2,W2,k.trans k2,by rw [← he,← fin_step hst],by omega,step_q I',by omega⟩)).eq (by simp only [condE_true])
 | false=>
  have e1:(p'.step T h).2=p':=by
   unfold SC.step at hst ⊢
   split at hst
   ·cases hst
   ·split at hst
    ·cases hst
    ·split at hst
     ·unfold SC.swept at hst;split at hst<;>cases hst
     ·rename_i a1 a2 a3;rw [if_neg a1,if_neg a2,if_neg a3]
  rw [e1] at W2
  have e2:=fin_end hst
  rw [he] at e2
  exact(Ok.of (r:=((Ex.exit e,([]:List AV),g3):Ex × List AV × Heap)) (.inr ⟨by simp,rfl,v2,by rw [e2];exact W2,k.trans k2,by rw [e2];exact I'⟩)).eq (by simp only [condE_false])
theorem cwhole_ok (W:Wi g C D K v p r h T Z)(hs:h.sm){B:Nat}(I:Iq B p)(hB:B≤2 ^ 29):Ok (BO (.ptr (some (K 0,0))) (rI K) g) fun s=>s.1 = .tup []∧∃ v',Wi s.2 C D K v' (p.whole T h) r h T Z∧KpX Z g s.2:=by
 refine Ok.eq ?_ (by unfold BO;rfl)
 refine ok_lp (cwhole_loop W hs I (by omega) 0 (b:=DF (.ptr (some (K 0,0))) (rI K)) (fun g=>rfl)) ?_
 rintro _ vs g1 ⟨rfl,v1,W1,k1,I1⟩
 simp only at W1 k1
 rw [if_pos rfl,thenK_normal]
 have hq:=I1.q
 have I2:=start_q (h:=h) I1 (mu_wf ((clear_same _).wf W1.j.pm.wf))
 refine ok_cl (cstart_ok W1 hs (by omega)) ?_
 rintro _ g2 ⟨rfl,v2,W2,k2⟩
 simp only at W2 k2
 refine ok_lp (cwhole_loop W2 hs I2 (by omega) 2 (b:=DC (.ptr (some (K 0,0))) (rI K)) (fun g=>rfl)) ?_
 rintro _ vs3 g3 ⟨rfl,v3,W3,k3,I3⟩
 simp only at W3 k3
 exact ok_val (v:=.tup []) (g:=g3) rfl ⟨rfl,v3,W3,(k1.trans k2).trans k3⟩
end
end Go.Ab.F
