import Derived.Test.YtdpdnkdafkcllaaGreatDoorKit
import Derived.Test.YtdpdnkdafkcllaaGreatDoorArn
import Derived.Test.YtdpdnkdafkcllaaGreatDoorQuFn
import Derived.Test.YtdpdnkdafkcllaaGreatDoorChn
import Derived.Test.YtdpdnkdafkcllaaGreatDoorHea
namespace Go.Ab.F
open Go Go.Ab
set_option linter.all false
set_option linter.all false
def SlG (g:Heap)(b:Option Nat)(sz:Nat)(v:AV)(cs:List AV)(n:Nat):Prop:=
 SlB g b sz v cs n∨(∃ i,b=some i∧v = .sl (some (i,0)) 0 (.ex 0)∧cs = []∧n=0∧g.get i=some (.cells true [])∧i<g.next)
theorem appG {g:Heap}{b:Option Nat}{sz n m bytes:Nat}{q x:AV}{cs xs:List AV}(H:SlG g b sz q cs n)(hc:countA x=some m)(ha:addedA g sz x=some xs)(hl:xs.length=m*sz)(hs:xs.all scalar=true)(h0:0<sz)(hm:0<m)(hn:(n+m)*bytes≤2 ^ 47) :
  ∃ v' g',appendA g sz bytes q x=some (v',g')∧SlB g' (some g.next) sz v' (cs++xs) (n+m)∧Same b.toList g g'∧g'.next=g.next+1:=by
 have hms:0<m*sz:=Nat.mul_pos hm h0
 rcases H with H | ⟨i,rfl,rfl,rfl,rfl,hg,hlt⟩
 ·cases b with
  | none=>
   have e:q = .sl none 0 (.ex 0):=H.eq
   have hn0:=H.nil rfl
   subst hn0
   have hcs:cs = []:=by have:=H.len;simpa using this
   subst hcs
   refine⟨.sl (some (g.next,0)) m (.un sz),g.new (.cells true xs),?_,⟨by rw [List.nil_append,Nat.zero_add];exact hl,by rw [List.nil_append];exact hs,by rw [Nat.zero_add],(fun h=>by cases h),fun i hi=>?_⟩,Same.new _ _,rfl⟩
   ·rw [e]
    simp only [appendA,hc,ha,Option.bind_some]
    rw [if_neg (by omega),if_pos (by omega)]
    simp only [if_true,Option.bind_some,List.nil_append,hs,Nat.zero_add]
   ·cases hi
    exact⟨Nat.lt_succ_self _,by rw [List.nil_append];exact get_new_eq,by omega⟩
  | some i=>
   have e:q = .sl (some (i,0)) n (.un sz):=H.eq
   obtain⟨b1,b2,b3⟩:=H.blk i rfl
   have hlc:=H.len
   have hmul:(n+m)*sz=n*sz+m*sz:=Nat.add_mul ..
   refine⟨.sl (some (g.next,0)) (n+m) (.un sz),(g.put i none).new (.cells true (cs++xs)),?_,⟨by rw [List.length_append,hl,hlc,hmul],by rw [List.all_append,H.sc,hs];rfl,rfl,(fun h=>by cases h),fun j hj=>?_⟩,?_,rfl⟩
   ·rw [e]
    simp only [appendA,hc,ha,Option.bind_some,ne_eq,not_true_eq_false,if_false,b2]
    rw [if_neg (by omega),if_pos hn,if_neg (by omega),if_pos (by omega)]
    simp only [hs,if_true,List.drop_zero]
   ·cases hj
    exact⟨Nat.lt_succ_self _,by have:=get_new_eq (h:=g.put i none) (b:=.cells true (cs++xs));simpa using this,by omega⟩
   ·exact(Same.put _ _ _).sub (by simp) |>.trans ((Same.new _ _).sub (by simp))
 ·have hlo:loadN g (i,0) (0*sz)=some []:=by
   rw [Nat.zero_mul]
   simp only [loadN,hg,spanF_eq];rfl
  refine⟨.sl (some (g.next,0)) m (.un sz),g.new (.cells true xs),?_,⟨by rw [List.nil_append,Nat.zero_add];exact hl,by rw [List.nil_append];exact hs,by rw [Nat.zero_add],(fun h=>by cases h),fun j hj=>?_⟩,(Same.new _ _).sub (by simp),rfl⟩
  ·simp only [appendA,hc,ha,Option.bind_some]
   rw [if_neg (by omega),if_pos (by omega)]
   simp only [hlo,Option.bind_some,List.nil_append,hs,if_true,Nat.zero_add]
  ·cases hj
   exact⟨Nat.lt_succ_self _,by rw [List.nil_append];exact get_new_eq,by omega⟩
theorem appG0 {g:Heap}{b:Option Nat}{sz n bytes:Nat}{q x:AV}{cs:List AV}(H:SlG g b sz q cs n)(hc:countA x=some 0)(ha:addedA g sz x=some []) :
  ∃ g',appendA g sz bytes q x=some (q,g')∧SlG g' b sz q cs n∧Same [] g g'∧g'.next=g.next:=by
 rcases H with H | ⟨i,rfl,rfl,rfl,rfl,hg,hlt⟩
 ·cases b with
  | none=>
   have e:q = .sl none 0 (.ex 0):=H.eq
   refine⟨g,?_,.inl H,Same.refl _ _,rfl⟩
   rw [e];simp [appendA,hc,ha]
  | some i=>
   have e:q = .sl (some (i,0)) n (.un sz):=H.eq
   refine⟨g,?_,.inl H,Same.refl _ _,rfl⟩
   rw [e];simp [appendA,hc,ha]
 ·refine⟨g.put i (some (.cells true [])),?_,.inr ⟨i,rfl,rfl,rfl,rfl,get_put_eq,hlt⟩,⟨Nat.le_refl _,fun j _ _=>?_⟩,rfl⟩
  ·have:storeN g (i,0) []=some (g.put i (some (.cells true []))):=by
    simp only [storeN,hg,spliceF_eq];rfl
   simp [appendA,hc,ha,addA,this]
  ·by_cases e:j=i
   ·subst e;rw [get_put_eq,hg]
   ·rw [get_put_ne e]
theorem SlG.scv {g:Heap}{b:Option Nat}{sz n:Nat}{v:AV}{cs:List AV}(H:SlG g b sz v cs n):scalar v=true:=by
 rcases H with H | ⟨i,rfl,rfl,_⟩
 ·exact H.scv
 ·rfl
theorem SlG.keep {g g':Heap}{b:Option Nat}{sz n:Nat}{v:AV}{cs:List AV}{S:List Nat}(H:SlG g b sz v cs n)(s:Same S g g')(hb:∀ i,b=some i→i∉S):SlG g' b sz v cs n:=by
 rcases H with H | ⟨i,rfl,rfl,rfl,rfl,h1,h2⟩
 ·exact .inl (H.same s hb)
 ·exact .inr ⟨i,rfl,rfl,rfl,rfl,(s.get _ h2 (hb i rfl)).trans h1,Nat.lt_of_lt_of_le h2 s.next⟩
set_option linter.all false
attribute [local congr] c_bind c_cl c_mk c_lp c_clC c_gQ c_gV c_condE c_thenK
theorem ok_box {R:Type}{h:Heap}{cs:List AV}(hs:cs.all scalar=true){K:AV→Heap→Option R}{Q:R→Prop}
  (hk:∀ g,Same [] h g→g.next=h.next+1→g.get h.next=some (.cells true cs)→Ok (K (.ptr (some (h.next,0))) g) Q):Ok (mk Heap.new (bxP (.agg cs)) h K) Q:=by
 rw [bx_agg hs,mk_some]
 exact hk _ (Same.new _ _) rfl get_new_eq
theorem ok_lit1 {R:Type}{h:Heap}{sz:Nat}{z cs:List AV}(hz:z.length=sz)(hc:cs.length=sz)(hs:cs.all scalar=true){K:AV→Heap→Option R}{Q:R→Prop}
  (hk:∀ g,Same [] h g→g.next=h.next+1→g.get h.next=some (.cells true cs)→Ok (K (.sl (some (h.next,0)) 1 (.ex 1)) g) Q):Ok (mk Heap.new (bsP sz z 1 [(0,.agg cs)]) h K) Q:=by
 rw [bsP_one hz (t:=.agg cs) hc hs,mk_some]
 exact hk _ (Same.new _ _) rfl get_new_eq
structure Vw (g:Heap)(b:Option Nat)(sz:Nat)(v:AV)(rows:List (List AV)):Prop where
 eq:(b=none∧v = .sl none 0 (.ex 0)∧rows = [])∨∃ i c,b=some i∧v = .sl (some (i,0)) rows.length c∧i<g.next∧g.get i=some (.cells true rows.flatten)
 len:∀ r∈rows,r.length=sz
theorem Vw.mt {g:Heap}{sz:Nat}:Vw g none sz (.sl none 0 (.ex 0)) []:=⟨.inl ⟨rfl,rfl,rfl⟩,by simp⟩
theorem Vw.same {g g':Heap}{b:Option Nat}{sz:Nat}{v:AV}{rows:List (List AV)}{S:List Nat}(H:Vw g b sz v rows)(s:Same S g g')(hb:∀ j,b=some j→j∉S):Vw g' b sz v rows:=
 ⟨H.eq.imp id fun⟨i,c,h1,h2,h3,h4⟩=>⟨i,c,h1,h2,Nat.lt_of_lt_of_le h3 s.next,by rw [s.get i h3 (hb i h1)];exact h4⟩,H.len⟩
theorem Vw.keep {g g':Heap}{b:Option Nat}{sz:Nat}{v:AV}{rows:List (List AV)}(H:Vw g b sz v rows)(s:Same [] g g'):Vw g' b sz v rows:=H.same s (by simp)
theorem Vw.lnL {g:Heap}{b:Option Nat}{sz:Nat}{v:AV}{rows:List (List AV)}(H:Vw g b sz v rows):Go.Ab.lnL v=some (.int .i64 rows.length):=by
 rcases H.eq with⟨rfl,rfl,rfl⟩ | ⟨i,c,rfl,rfl,_⟩
 ·rfl
 ·simp
theorem flat_len {sz:Nat}:∀ {l:List (List AV)},(∀ r∈l,r.length=sz)→l.flatten.length=l.length*sz
 | [],_=>by simp
 | a::l,H=>by
  rw [List.flatten_cons,List.length_append,H a (List.mem_cons_self ..),flat_len fun r hr=>H r (List.mem_cons_of_mem _ hr),List.length_cons,Nat.succ_mul];omega
theorem flat_at {sz:Nat}:∀ {l:List (List AV)},(∀ r∈l,r.length=sz)→∀ {i:Nat} {r:List AV},l[i]?=some r→span l.flatten (i*sz) sz=some r
 | [],_,i,r,h=>by simp at h
 | a::l,H,i,r,h=>by
  have ha:=H a (List.mem_cons_self ..)
  have hr:=H r (List.mem_of_getElem? h)
  cases i with
  | zero=>
   simp at h;subst h
   rw [List.flatten_cons,Nat.zero_mul,span_some _ _ _ (by simp;omega),List.drop_zero,← hr,List.take_left]
  | succ i=>
   have h3:=flat_at (fun r hr=>H r (List.mem_cons_of_mem _ hr)) (i:=i) (by simpa using h)
   have hle:=span_le h3
   rw [span_some _ _ _ hle] at h3
   rw [List.flatten_cons,span_some _ _ _ (by rw [List.length_append,Nat.succ_mul];omega),show(i+1)*sz=a.length+i*sz by rw [Nat.succ_mul];omega,← List.drop_drop,List.drop_left]
   exact h3
theorem Vw.at {g:Heap}{b:Option Nat}{sz:Nat}{v:AV}{rows:List (List AV)}(H:Vw g b sz v rows){i:Nat}{r:List AV}(hr:rows[i]?=some r) :
  ∃ p o,b=some p∧p<g.next∧(∀ k,iaS sz v (.int k (i:Int))=some (.ptr (some (p,o))))∧(∀ g',g'.get p=g.get p→ldA sz g' (.ptr (some (p,o)))=some (.agg r))∧∀ (f:Nat) x g',r[f]?=some x→g'.get p=g.get p→ldS g' (.ptr (some (p,o+f)))=some x:=by
 have hi:=(List.getElem?_eq_some_iff.1 hr).1
 rcases H.eq with⟨rfl,rfl,rfl⟩ | ⟨p,c,rfl,rfl,h1,h2⟩
 ·simp at hr
 ·have hf:=flat_at H.len hr
  have hle:=span_le hf
  refine⟨p,i*sz,rfl,h1,fun k=>by rw [iaS_sl sz _ _ _ k _ ⟨by omega,by omega⟩];simp,fun g' hg=>by rw [ldA_at (hg.trans h2),hf];rfl,fun f x g' hx hg=>?_⟩
  rw [ldS_at (hg.trans h2)]
  rw [span_some _ _ _ hle] at hf
  cases hf
  rw [List.getElem?_take] at hx
  split at hx
  ·rw [List.getElem?_drop] at hx;exact hx
  ·cases hx
theorem Vw.added {g:Heap}{b:Option Nat}{sz:Nat}{v:AV}{rows:List (List AV)}(H:Vw g b sz v rows):countA v=some rows.length∧∀ g':Heap,(∀ i,b=some i→g'.get i=g.get i)→addedA g' sz v=some rows.flatten:=by
 rcases H.eq with⟨rfl,rfl,rfl⟩ | ⟨p,c,rfl,rfl,h1,h2⟩
 ·exact⟨rfl,fun g' _=>rfl⟩
 ·refine⟨rfl,fun g' hg=>?_⟩
  simp only [addedA,loadN,hg p rfl,h2,spanF_eq]
  have hl:=flat_len H.len
  rw [span_some _ _ _ (by omega),List.drop_zero,← hl,List.take_length]
theorem Vw.lit {g:Heap}{i sz n:Nat}{c:Cap}{rows:List (List AV)}(h1:i<g.next)(h2:g.get i=some (.cells true rows.flatten))(hl:∀ r∈rows,r.length=sz)(hn:n=rows.length):Vw g (some i) sz (.sl (some (i,0)) n c) rows:=
 ⟨.inr ⟨i,c,rfl,by rw [hn],h1,h2⟩,hl⟩
theorem _root_.Go.Ab.SlB.vw {g:Heap}{b:Option Nat}{sz:Nat}{v:AV}{rows:List (List AV)}(H:SlB g b sz v rows.flatten rows.length)(hl:∀ r∈rows,r.length=sz):Vw g b sz v rows:=by
 refine⟨?_,hl⟩
 cases b with
 | none=>
  have:=H.nil rfl
  exact .inl ⟨rfl,H.eq,List.eq_nil_of_length_eq_zero this⟩
 | some i=>
  obtain⟨h1,h2,_⟩:=H.blk i rfl
  exact .inr ⟨i,_,rfl,H.eq,h1,h2⟩
def Nw (g g':Heap)(sz:Nat)(v:AV)(rows:List (List AV)):Prop:=∃ b,Vw g' b sz v rows∧Same [] g g'∧∀ j,b=some j→g.next≤j
structure Gk where
 fn:Int
 a:Int
 b:Int
 c:Int
def insK (k:Int):Ins:=if k=0 then⟨43,0,0,0,0⟩ else if k=1 then⟨38,0,2,0,0⟩ else if k=2 then⟨39,2,0,-1,0⟩ else if k=3 then⟨39,-1,1,-1,0⟩ else if k=4 then⟨41,0,2,0,0⟩ else if k=5 then⟨41,2,3,0,0⟩ else⟨39,1,0,-1,0⟩
def insR:Ins:=⟨22,-1,0,0,0⟩
def cas16:List Cas:=[⟨0,0,2,1⟩,⟨1,1,2,1⟩,⟨0,0,2,1⟩,⟨1,1,2,1⟩,⟨2,0,0,1⟩]
structure F16 (g:Heap)(k:Nat)(r:List AV)(kb db mb:Nat):Prop where
 row:∃ c1 c2 c3,r = [.int .i64 3,.int .i64 0,.int .i64 3,.int .i64 0,.sl (some (kb,0)) 3 c1,.sl (some (db,0)) 2 c2,.sl (some (mb,0)) 2 c3]
 kk:g.get kb=some (.cells true [.bool true,.bool true,.bool false])
 dd:g.get db=some (.cells true ((insK k).row++insR.row))
 kl:kb<g.next
 dl:db<g.next
theorem F16.keep {g g':Heap}{k:Nat}{r:List AV}{kb db mb:Nat}(H:F16 g k r kb db mb)(s:Same [] g g'):F16 g' k r kb db mb:=
 ⟨H.row,by rw [s.get _ H.kl (by simp)];exact H.kk,by rw [s.get _ H.dl (by simp)];exact H.dd,Nat.lt_of_lt_of_le H.kl s.next,Nat.lt_of_lt_of_le H.dl s.next⟩
structure M16 (g:Heap)(sv cv fv:AV):Prop where
 cs:∃ b,cv = .sl (some (b,0)) 5 (.ex 5)∧g.get b=some (.cells true (cas16.map Cas.row).flatten)∧b<g.next
 fs:∃ b rows,Vw g (some b) 7 fv rows∧rows.length=7∧∀ (k:Nat) r,rows[k]?=some r→∃ kb db mb,F16 g k r kb db mb
 sh:∃ b,sv = .sl (some (b,0)) 1 (.ex 1)∧g.get b=some (.cells true [.int .i64 3,.int .i64 0,.int .u64 0])∧b<g.next
theorem M16.keep {g g':Heap}{sv cv fv:AV}(H:M16 g sv cv fv)(s:Same [] g g'):M16 g' sv cv fv:=by
 obtain⟨b1,h1,h1a,h1b⟩:=H.cs
 obtain⟨b2,rows,h2,h3,h4⟩:=H.fs
 obtain⟨b3,h5,h6,h7⟩:=H.sh
 exact⟨⟨b1,h1,by rw [s.get _ h1b (by simp)];exact h1a,Nat.lt_of_lt_of_le h1b s.next⟩,⟨b2,rows,h2.keep s,h3,fun k r hr=>by obtain⟨x,y,z,hf⟩:=h4 k r hr;exact⟨x,y,z,hf.keep s⟩⟩,⟨b3,h5,by rw [s.get _ h7 (by simp)];exact h6,Nat.lt_of_lt_of_le h7 s.next⟩⟩
def mdC (sv cv fv:AV):List AV:=[sv,.sl none 0 (.ex 0),.sl none 0 (.ex 0),cv,fv,.int .i64 0]
theorem M16.sc {g:Heap}{sv cv fv:AV}(H:M16 g sv cv fv):(mdC sv cv fv).all scalar=true:=by
 obtain⟨b1,rfl,_⟩:=H.cs
 obtain⟨b2,rows,h2,_⟩:=H.fs
 obtain⟨b3,rfl,_⟩:=H.sh
 rcases h2.eq with⟨h,_⟩ | ⟨i,c,_,rfl,_⟩
 ·cases h
 rfl
structure StR (g:Heap)(s:Nat)(x:Gk)(fb sb:Nat):Prop where
 st:∃ c,g.get s=some (.cells true [.sl (some (fb,0)) 1 c])
 fr:∃ c,g.get fb=some (.cells true [.int .i64 x.fn,.int .i64 0,.sl (some (sb,0)) 3 c])
 sl:g.get sb=some (.cells true [.int .i64 x.a,.int .i64 x.b,.int .i64 x.c])
 l1:s<g.next
 l2:fb<g.next
 l3:sb<g.next
theorem StR.keep {g g':Heap}{s fb sb:Nat}{x:Gk}(H:StR g s x fb sb)(e:Same [] g g'):StR g' s x fb sb:=
 ⟨by obtain⟨c,h⟩:=H.st;exact⟨c,by rw [e.get _ H.l1 (by simp)];exact h⟩,by obtain⟨c,h⟩:=H.fr;exact⟨c,by rw [e.get _ H.l2 (by simp)];exact h⟩,by rw [e.get _ H.l3 (by simp)];exact H.sl,Nat.lt_of_lt_of_le H.l1 e.next,Nat.lt_of_lt_of_le H.l2 e.next,Nat.lt_of_lt_of_le H.l3 e.next⟩
section
variable {g:Heap}{s fb sb:Nat}{x:Gk}{sv cv fv:AV}
theorem top_eq (H:StR g s x fb sb):Am (.ptr (some (s,0))) g=some (.ptr (some (fb,0)),g):=by
 obtain⟨c,h1⟩:=H.st
 have l0:ldS g (.ptr (some (s,0)))=some (.sl (some (fb,0)) 1 c):=by rw [ldS_at h1];rfl
 have ix:iaS 3 (.sl (some (fb,0)) 1 c) (.int .i64 0)=some (.ptr (some (fb,0))):=by rw [iaS_sl 3 _ _ _ _ _ ⟨by omega,by omega⟩];rfl
 have hw:IntKind.i64.wrap (1 - 1)=0:=rfl
 simp -implicitDefEqProofs only [Am,nilV_ptr,faP_ptr,Nat.zero_add,Option.bind_some,l0,lnL_sl,show((1:Nat):Int)=1 from rfl,eql_int,show decide ((1:Int)=0)=false from rfl,condE_false,bin_sub,hw,ix,chk_nil]
def slotK (x:Gk)(n:Int):Int:=if n=0 then x.a else if n=1 then x.b else if n=2 then x.c else 0
theorem get_eq (H:StR g s x fb sb){n:Int}(h0:0≤n)(h2:n≤2):BA (.ptr (some (s,0))) (.int .i64 n) g=some (.int .i64 (slotK x n),g):=by
 obtain⟨c,h1⟩:=H.fr
 have l2:ldS g (.ptr (some (fb,0+2)))=some (.sl (some (sb,0)) 3 c):=by rw [ldS_at h1];rfl
 have lt : ¬ n < 0:=by omega
 have ge : ¬ (3:Int)≤n:=by omega
 have ix:iaS 1 (.sl (some (sb,0)) 3 c) (.int .i64 n)=some (.ptr (some (sb,n.toNat))):=by rw [iaS_sl 1 _ _ _ _ _ ⟨by omega,by omega⟩];simp
 have ld:ldS g (.ptr (some (sb,n.toNat)))=some (.int .i64 (slotK x n)):=by
  rw [ldS_at H.sl]
  rcases (by omega:n=0∨n=1∨n=2) with rfl | rfl | rfl<;>rfl
 simp -implicitDefEqProofs only [BA,top_eq H,cl_some,eql_ptr_nil,Option.bind_some,gdW_ff,gQ_true,bin_lss,lt,decide_false,pickP_bool,Bool.false_eq_true,if_false,nilV_ptr,faP_ptr,l2,lnL_sl,bin_geq,show((3:Nat):Int)=3 from rfl,ge_iff_le,ge,condE_false,ix,ld]
end
set_option linter.all false
attribute [local congr] c_bind c_cl c_mk c_lp c_clC c_gQ c_gV c_condE c_thenK
def sh16:List Shp:=[⟨3,0,0#64⟩]
section
variable {g:Heap}{s fb sb tb mp:Nat}{x:Gk}{sv cv fv:AV}{A:Nat→Nat}{l:PAl}{F:Int}
theorem at_ok (H:StR g s x fb sb)(M:M16 g sv cv fv)(h0:0≤x.fn)(h6:x.fn < 7):Ok (A4 (.ptr (some (s,0))) (.agg (mdC sv cv fv)) g) fun r=>r.1 = .tup [.agg (insK x.fn).row,.bool true]∧Same [] g r.2:=by
 refine Ok.eq ?_ (by unfold A4;rfl)
 refine ok_box M.sc fun g1 s1 n1 b1=>?_
 rw [mk_some]
 have s2:Same [] g1 (g1.new (.cells true [(AV.int .i64 0),(AV.int .i64 0),(AV.int .i64 0),(AV.int .i64 0),(AV.int .i64 0)])):=Same.new _ _
 have b2:(g1.new (.cells true [(AV.int .i64 0),(AV.int .i64 0),(AV.int .i64 0),(AV.int .i64 0),(AV.int .i64 0)])).get g1.next=some (.cells true [(AV.int .i64 0),(AV.int .i64 0),(AV.int .i64 0),(AV.int .i64 0),(AV.int .i64 0)]):=get_new_eq
 have n2:(g1.new (.cells true [(AV.int .i64 0),(AV.int .i64 0),(AV.int .i64 0),(AV.int .i64 0),(AV.int .i64 0)])).next=g1.next+1:=rfl
 generalize g1.new (.cells true [(AV.int .i64 0),(AV.int .i64 0),(AV.int .i64 0),(AV.int .i64 0),(AV.int .i64 0)])=g2 at *
 have ss:=s1.trans s2
 have H2:=H.keep ss
 have M2:=M.keep ss
 obtain⟨c,h1⟩:=H2.fr
 have l0:ldS g2 (.ptr (some (fb,0+0)))=some (.int .i64 x.fn):=by rw [ldS_at h1];rfl
 have l1:ldS g2 (.ptr (some (fb,0+1)))=some (.int .i64 0):=by rw [ldS_at h1];rfl
 have b12:=(s2.get _ (by omega) (by simp)).trans b1
 have lf:ldS g2 (.ptr (some (g.next,0+4)))=some fv:=by rw [ldS_at b12];rfl
 obtain⟨bf,rows,V,hr7,hf⟩:=M2.fs
 have lnf:=V.lnL
 rw [hr7] at lnf
 obtain⟨r,hr⟩:∃ r,rows[x.fn.toNat]?=some r:=⟨_,List.getElem?_eq_getElem (by omega)⟩
 obtain⟨p,o,_,hp,ix,_,lx⟩:=V.at hr
 have exn:((x.fn.toNat:Nat):Int)=x.fn:=by omega
 rw [exn] at ix
 obtain⟨kb,db,mb,K⟩:=hf _ r hr
 obtain⟨c1,c2,c3,er⟩:=K.row
 have l5:ldS g2 (.ptr (some (p,o+5)))=some (.sl (some (db,0)) 2 c2):=lx 5 _ g2 (by rw [er];rfl) rfl
 have ix5:iaS 5 (.sl (some (db,0)) 2 c2) (.int .i64 0)=some (.ptr (some (db,0))):=by rw [iaS_sl 5 _ _ _ _ _ ⟨by omega,by omega⟩];rfl
 have la5:ldA 5 g2 (.ptr (some (db,0)))=some (.agg (insK x.fn).row):=by
  rw [ldA_at K.dd,exn];rfl
 have lt : ¬ x.fn < 0:=by omega
 have ge7 : ¬ ((7:Nat):Int)≤x.fn:=by omega
 have st:=stP_all (n:=5) b2 rfl (cs:=(insK x.fn).row) rfl rfl
 refine(Ok.of (r:=((AV.tup [.agg (insK x.fn).row,.bool true],g2.put g1.next (some (.cells true (insK x.fn).row))):AV × Heap)) ⟨rfl,?_⟩).eq ?_
 ·simp -implicitDefEqProofs only [top_eq H2,cl_some,eql_ptr_nil,Option.bind_some,gdW_ff,gV_true,nilV_ptr,faP_ptr,l0,bin_lss,lt,decide_false,pickP_bool,Bool.false_eq_true,if_false,lf,lnf,bin_geq,ge_iff_le,ge7,l1,show ¬ ((0:Int) < 0) by omega,ix,l5,lnL_sl,show ¬ (((2:Nat):Int)≤0) by omega,chk_nil,condE_false,ix5,la5,st,ldA_all (get_put_eq (h:=g2) (i:=g1.next) (b:=some (.cells true (insK x.fn).row))) (n:=5) rfl]
 ·exact ss.old (Same.put g2 g1.next (some (.cells true (insK x.fn).row))) fun j hj=>by simp at hj;right;omega
theorem cloneK_ok {c:Cap}(hs:g.get sb=some (.cells true [.int .i64 x.a,.int .i64 x.b,.int .i64 x.c]))(hl:sb<g.next):Ok (AO (.sl (some (sb,0)) 3 c) g) fun r=>scalar r.1=true∧Same [] g r.2:=by
 have e1:eqP (some (.slice 0)) none false .eql (.sl (some (sb,0)) 3 c) (.sl none 0 (.ex 0))=some (.bool false):=rfl
 have e2:bsP 1 [(AV.int .i64 0)] 0 []=some (.cells true [],fun i=>.sl (some (i,0)) 0 (.ex 0)):=rfl
 have s1:Same [] g (g.new (.cells true [])):=Same.new _ _
 have S:SlG (g.new (.cells true [])) (some g.next) 1 (.sl (some (g.next,0)) 0 (.ex 0)) [] 0:=.inr ⟨g.next,rfl,rfl,rfl,rfl,get_new_eq,Nat.lt_succ_self _⟩
 have hs1:=(s1.get _ hl (by simp)).trans hs
 have ha:addedA (g.new (.cells true [])) 1 (.sl (some (sb,0)) 3 c)=some [.int .i64 x.a,.int .i64 x.b,.int .i64 x.c]:=by
  simp only [addedA,loadN,hs1,spanF_eq];rfl
 obtain⟨v',g',e3,S',s3,n3⟩:=appG (bytes:=8) S (x:=.sl (some (sb,0)) 3 c) (m:=3) rfl ha rfl rfl (by omega) (by omega) (by omega)
 exact ok_val (v:=v') (g:=g') (by simp -implicitDefEqProofs only [AO,e1,e2,Option.bind_some,condE_false,mk_some,e3,cl_some]) ⟨by rw [S'.eq];rfl,s1.old s3 fun j hj=>by simp at hj;right;omega⟩
theorem top_ok (H:StR g s x fb sb):Ok (A9 (.ptr (some (s,0))) g) fun r=>∃ w,scalar w=true∧r.1 = .tup [.agg [.int .i64 x.fn,.int .i64 0,w],.bool true]∧Same [] g r.2:=by
 refine Ok.eq ?_ (by unfold A9;rfl)
 rw [mk_some]
 have s2:Same [] g (g.new (.cells true [(AV.int .i64 0),(AV.int .i64 0),(AV.sl none 0 (.ex 0))])):=Same.new _ _
 have b2:(g.new (.cells true [(AV.int .i64 0),(AV.int .i64 0),(AV.sl none 0 (.ex 0))])).get g.next=some (.cells true [(AV.int .i64 0),(AV.int .i64 0),(AV.sl none 0 (.ex 0))]):=get_new_eq
 have n2:(g.new (.cells true [(AV.int .i64 0),(AV.int .i64 0),(AV.sl none 0 (.ex 0))])).next=g.next+1:=rfl
 generalize g.new (.cells true [(AV.int .i64 0),(AV.int .i64 0),(AV.sl none 0 (.ex 0))])=g2 at *
 have H2:=H.keep s2
 obtain⟨c,h1⟩:=H2.fr
 have la:ldA 3 g2 (.ptr (some (fb,0)))=some (.agg [.int .i64 x.fn,.int .i64 0,.sl (some (sb,0)) 3 c]):=ldA_all h1 rfl
 refine Ok.eq ?_ (by simp -implicitDefEqProofs only [top_eq H2,cl_some,eql_ptr_nil,Option.bind_some,condE_false,nilV_ptr,la]<;>rfl)
 refine ok_cl (P:=fun r=>∃ w,scalar w=true∧r.1 = .agg [.int .i64 x.fn,.int .i64 0,w]∧Same [] g2 r.2) ?_ ?_
 ·refine Ok.eq ?_ (by unfold CS;rfl)
  refine ok_box rfl fun g3 s3 n3 b3=>?_
  rw [mk_some]
  have s4:Same [] g3 (g3.new (.cells true [(AV.int .i64 0),(AV.int .i64 0),(AV.sl none 0 (.ex 0))])):=Same.new _ _
  have b4:(g3.new (.cells true [(AV.int .i64 0),(AV.int .i64 0),(AV.sl none 0 (.ex 0))])).get g3.next=some (.cells true [(AV.int .i64 0),(AV.int .i64 0),(AV.sl none 0 (.ex 0))]):=get_new_eq
  have n4:(g3.new (.cells true [(AV.int .i64 0),(AV.int .i64 0),(AV.sl none 0 (.ex 0))])).next=g3.next+1:=rfl
  generalize g3.new (.cells true [(AV.int .i64 0),(AV.int .i64 0),(AV.sl none 0 (.ex 0))])=g4 at *
  have s24:=s3.trans s4
  have b34:=(s4.get _ (by omega) (by simp)).trans b3
  have l2:ldS g4 (.ptr (some (g2.next,0+2)))=some (.sl (some (sb,0)) 3 c):=by rw [ldS_at b34];rfl
  have H4:=H2.keep s24
  refine Ok.eq ?_ (by simp -implicitDefEqProofs only [faP_ptr,Option.bind_some,l2]<;>rfl)
  refine ok_cl (cloneK_ok (c:=c) H4.sl H4.l3) ?_
  rintro w g5 ⟨hw,s5⟩
  simp only at hw s5
  have b35:=(s5.get _ (by omega) (by simp)).trans b34
  have b45:=(s5.get _ (by omega) (by simp)).trans b4
  have st:=stP_one b35 (o:=0+2) (by simp) hw
  have s6:Same [g2.next] g5 (g5.put g2.next (some (.cells true (List.set [AV.int .i64 x.fn,.int .i64 0,.sl (some (sb,0)) 3 c] (0+2) w)))):=Same.put _ _ _
  have b36:(g5.put g2.next (some (.cells true (List.set [AV.int .i64 x.fn,.int .i64 0,.sl (some (sb,0)) 3 c] (0+2) w)))).get g2.next=some (.cells true [AV.int .i64 x.fn,.int .i64 0,w]):=get_put_eq
  have b46:(g5.put g2.next (some (.cells true (List.set [AV.int .i64 x.fn,.int .i64 0,.sl (some (sb,0)) 3 c] (0+2) w)))).get g3.next=some (.cells true [(AV.int .i64 0),(AV.int .i64 0),(AV.sl none 0 (.ex 0))]):=by rw [get_put_ne (by omega)];exact b45
  refine Ok.eq ?_ (by simp -implicitDefEqProofs only [faP_ptr,Option.bind_some,st,cl_some]<;>rfl)
  generalize g5.put g2.next (some (.cells true (List.set [AV.int .i64 x.fn,.int .i64 0,.sl (some (sb,0)) 3 c] (0+2) w)))=g6 at *
  have st2:=stP_all (n:=3) b46 rfl (cs:=[AV.int .i64 x.fn,.int .i64 0,w]) rfl (by simp only [List.all_cons,List.all_nil,hw,Bool.and_true];rfl)
  have ss:Same [] g2 (g6.put g3.next (some (.cells true [AV.int .i64 x.fn,.int .i64 0,w]))):=((s24.trans s5).old s6 (fun j hj=>by simp at hj;right;omega)).old (Same.put g6 g3.next _) (fun j hj=>by simp at hj;right;omega)
  exact ok_val (v:=.agg [AV.int .i64 x.fn,.int .i64 0,w]) (g:=g6.put g3.next (some (.cells true [AV.int .i64 x.fn,.int .i64 0,w]))) (by
   simp -implicitDefEqProofs only [ldA_all b36 (n:=3) rfl,Option.bind_some,st2,cl_some,ldA_all (get_put_eq (h:=g6) (i:=g3.next) (b:=some (.cells true [AV.int .i64 x.fn,.int .i64 0,w]))) (n:=3) rfl]) ⟨w,hw,rfl,ss⟩
 ·rintro _ g7 ⟨w,hw,rfl,s7⟩
  simp only at s7
  have b27:=(s7.get _ (by omega) (by simp)).trans b2
  have st:=stP_all (n:=3) b27 rfl (cs:=[AV.int .i64 x.fn,.int .i64 0,w]) rfl (by simp only [List.all_cons,List.all_nil,hw,Bool.and_true];rfl)
  exact ok_val (v:=.tup [.agg [AV.int .i64 x.fn,.int .i64 0,w],.bool true]) (g:=g7.put g.next (some (.cells true [AV.int .i64 x.fn,.int .i64 0,w]))) (by
   simp -implicitDefEqProofs only [st,cl_some,ldA_all (get_put_eq (h:=g7) (i:=g.next) (b:=some (.cells true [AV.int .i64 x.fn,.int .i64 0,w]))) (n:=3) rfl,Option.bind_some]) ⟨w,hw,rfl,(s2.trans s7).old (Same.put g7 g.next _) fun j hj=>by simp at hj;right;omega⟩
def isC (l:PAl)(ad:Int)(a:Bool):Bool:=(isP (ofP l.ar sh16 ad)).1 && ((isP (ofP l.ar sh16 ad)).2 == a)
def fitK (l:PAl)(ad:Int)(out:Bool)(slot:Int):Bool:=if slot = -1∧out=false then isC l ad true||isC l ad false else if slot=2 then isC l ad false else if 0≤slot then isC l ad true else false
def ofC (pl:Int)(out:Bool)(ad:Int)(fit:Bool):List AV:=[.int .i64 pl,.bool out,.int .i64 ad,.bool fit]
theorem offered_ok (H:StR g s x fb sb)(M:M16 g sv cv fv){rest:List AV}(B:g.get tb=some (.cells true (mdC sv cv fv++rest)))(hB:tb<g.next)(P:HpAt g A l sh16 F)(h0:0≤x.fn)(h6:x.fn < 7)(pl:Int)(out:Bool){ch slot:Int}(c0:0≤ch)(c2:ch≤2)(hs : -1≤slot)(hs2:slot≤2)(hso:slot = -1→out=false) :
  Ok (AF (.ptr (some (tb,0))) (.ptr (some (A 0,0))) (.ptr (some (s,0))) (.int .i64 pl) (.bool out) (.int .i64 ch) (.int .i64 slot) g) fun r=>r.1 = .agg (ofC pl out (slotK x ch) (fitK l (slotK x ch) out slot))∧Same [] g r.2:=by
 refine Ok.eq ?_ (by unfold AF;rfl)
 rw [mk_some]
 have s1:Same [] g (g.new (.cells true [(AV.int .i64 0),(AV.bool false),(AV.int .i64 0),(AV.bool false)])):=Same.new _ _
 have b1:(g.new (.cells true [(AV.int .i64 0),(AV.bool false),(AV.int .i64 0),(AV.bool false)])).get g.next=some (.cells true [(AV.int .i64 0),(AV.bool false),(AV.int .i64 0),(AV.bool false)]):=get_new_eq
 have n1:(g.new (.cells true [(AV.int .i64 0),(AV.bool false),(AV.int .i64 0),(AV.bool false)])).next=g.next+1:=rfl
 generalize g.new (.cells true [(AV.int .i64 0),(AV.bool false),(AV.int .i64 0),(AV.bool false)])=g1 at *
 have bl:bldS [(0,1),(1,1),(2,1),(3,1)] [(AV.int .i64 0),(AV.bool false),(AV.int .i64 0),(AV.bool false)] [(0,.int .i64 pl),(1,.bool out),(2,.int .i64 (slotK x ch))]=some (.agg (ofC pl out (slotK x ch) false)):=rfl
 refine Ok.eq ?_ (by simp -implicitDefEqProofs only [get_eq (H.keep s1) c0 c2,cl_some,bl,Option.bind_some]<;>rfl)
 refine ok_tmp (cs:=ofC pl out (slotK x ch) false) (n:=4) rfl rfl rfl fun g2 s2 n2 b2=>?_
 have s02:=s1.trans s2
 have P2:=P.keep s02
 have b12:=(s2.get _ (by omega) (by simp)).trans b1
 have lc:ldS g2 (.ptr (some (g1.next,0+2)))=some (.int .i64 (slotK x ch)):=by rw [ldS_at b2];rfl
 generalize hadr:slotK x ch=ad at *
 -- the end: the kind is told
 have fin:∀ (g3:Heap) (fit:Bool),Same [] g2 g3→Ok (cl (stP 1 g3 (.ptr (some (g1.next,0+3))) (.bool fit)) fun u h17=>(ldA 4 h17 (.ptr (some (g1.next,0)))).bind fun t42=>cl (stP 4 h17 (.ptr (some (g.next,0))) t42) fun u_18 h19=>(ldA 4 h19 (.ptr (some (g.next,0)))).bind fun t=>some (t,h19)) fun r=>r.1 = .agg (ofC pl out ad fit)∧Same [] g r.2:=by
  intro g3 fit s3
  have b3:=(s3.get _ (by omega) (by simp)).trans b2
  have b13:=(s3.get _ (by omega) (by simp)).trans b12
  have st:=stP_one b3 (o:=0+3) (by simp [ofC]) (v:=.bool fit) rfl
  have b4:(g3.put g1.next (some (.cells true ((ofC pl out ad false).set (0+3) (.bool fit))))).get g1.next=some (.cells true (ofC pl out ad fit)):=get_put_eq
  have b14:(g3.put g1.next (some (.cells true ((ofC pl out ad false).set (0+3) (.bool fit))))).get g.next=some (.cells true [(AV.int .i64 0),(AV.bool false),(AV.int .i64 0),(AV.bool false)]):=by rw [get_put_ne (by omega)];exact b13
  have st2:=stP_all (n:=4) b14 rfl (cs:=ofC pl out ad fit) rfl rfl
  have ss:Same [] g ((g3.put g1.next (some (.cells true ((ofC pl out ad false).set (0+3) (.bool fit))))).put g.next (some (.cells true (ofC pl out ad fit)))):=
   ((s02.trans s3).old (Same.put _ _ _) (fun j hj=>by simp at hj;right;omega)).old (Same.put _ _ _) (fun j hj=>by simp at hj;right;omega)
  exact ok_val (v:=.agg (ofC pl out ad fit)) (g:=(g3.put g1.next (some (.cells true ((ofC pl out ad false).set (0+3) (.bool fit))))).put g.next (some (.cells true (ofC pl out ad fit)))) (by
   simp -implicitDefEqProofs only [st,cl_some,ldA_all b4 (n:=4) rfl,Option.bind_some,st2,ldA_all (get_put_eq (h:=g3.put g1.next (some (.cells true ((ofC pl out ad false).set (0+3) (.bool fit))))) (i:=g.next) (b:=some (.cells true (ofC pl out ad fit)))) (n:=4) rfl]) ⟨rfl,ss⟩
 by_cases hsl:slot = -1
 ·have ho:=hso hsl
  subst hsl ho
  have ef:fitK l ad false (-1)=(isC l ad true||isC l ad false):=by unfold fitK;simp
  rw [ef]
  refine Ok.eq ?_ (by simp -implicitDefEqProofs only [eql_int,decide_true,Option.bind_some,gdW_tt,gQ_true,cl_some,un_not,Bool.not_false,pickP_bool,if_true,condE_true,faP_ptr,lc]<;>rfl)
  refine ok_cl (cIs_ok P2 (ad:=ad) true) ?_
  rintro _ g3 ⟨rfl,s3⟩
  simp only at s3
  have e1:((isP (ofP l.ar sh16 ad)).1 && ((isP (ofP l.ar sh16 ad)).2 == true))=isC l ad true:=rfl
  rw [e1]
  have lc3:ldS g3 (.ptr (some (g1.next,0+2)))=some (.int .i64 ad):=by rw [ldS_at ((s3.get _ (by omega) (by simp)).trans b2)];rfl
  cases hi:isC l ad true with
  | true=>
   refine(fin g3 true s3).eq (by simp -implicitDefEqProofs only [gdW_tf,gQ_false,Option.bind_some,pickP_bool,if_true,faP_ptr])
  | false=>
   refine Ok.eq ?_ (by simp -implicitDefEqProofs only [gdW_ff,gQ_true,cl_some,Option.bind_some,faP_ptr,lc3]<;>rfl)
   refine ok_cl (P:=fun r=>r.1 = .bool (isC l ad false)∧Same [] g3 r.2) ?_ ?_
   ·refine ok_cl (cIs_ok (P2.keep s3) (ad:=ad) false) ?_
    rintro _ g4 ⟨rfl,s4⟩
    exact ok_val rfl ⟨rfl,s4⟩
   ·rintro _ g4 ⟨rfl,s4⟩
    refine(fin g4 (isC l ad false) (s3.trans s4)).eq (by simp -implicitDefEqProofs only [Option.bind_some,pickP_bool,Bool.false_eq_true,if_false,faP_ptr])
 ·have h0s:0≤slot:=by omega
  obtain⟨k,hk⟩:∃ k:Bool,k = !decide (slot=2):=⟨_,rfl⟩
  have ef:fitK l ad out slot=isC l ad k:=by
   unfold fitK;rw [if_neg (fun h=>hsl h.1)]
   by_cases e2:slot=2
   ·rw [if_pos e2,hk,e2];rfl
   ·rw [if_neg e2,if_pos h0s,hk,decide_eq_false e2];rfl
  rw [ef]
  have H2:=H.keep s02
  refine Ok.eq ?_ (by simp -implicitDefEqProofs only [eql_int,decide_eq_false hsl,Option.bind_some,gdW_ft,gQ_false,pickP_bool,Bool.false_eq_true,if_false,condE_false]<;>rfl)
  refine ok_cl (top_ok H2) ?_
  rintro _ g3 ⟨w,hw,rfl,s3⟩
  simp only at s3
  refine Ok.eq ?_ (by simp -implicitDefEqProofs only [extractV_tup,e0,e1,Option.bind_some]<;>rfl)
  refine ok_tmp (cs:=[.int .i64 x.fn,.int .i64 0,w]) (n:=3) rfl rfl (by simp only [List.all_cons,List.all_nil,hw,Bool.and_true];rfl) fun g4 s4 n4 b4=>?_
  have s24:=s3.trans s4
  have s04:=s02.trans s24
  have B4:=(s04.get _ hB (by simp)).trans B
  have M4:=M.keep s04
  have lf:ldS g4 (.ptr (some (tb,0+0+4)))=some fv:=by rw [ldS_at B4];rfl
  have lfn:ldS g4 (.ptr (some (g3.next,0+0)))=some (.int .i64 x.fn):=by rw [ldS_at b4];rfl
  obtain⟨bf,rows,V,hr7,hf⟩:=M4.fs
  obtain⟨r,hr⟩:∃ r,rows[x.fn.toNat]?=some r:=⟨_,List.getElem?_eq_getElem (by omega)⟩
  obtain⟨p,o,_,hp,ix,_,lx⟩:=V.at hr
  have exn:((x.fn.toNat:Nat):Int)=x.fn:=by omega
  rw [exn] at ix
  obtain⟨kb,db,mb,K⟩:=hf _ r hr
  obtain⟨c1,c2',c3,er⟩:=K.row
  have l4:ldS g4 (.ptr (some (p,o+4)))=some (.sl (some (kb,0)) 3 c1):=lx 4 _ g4 (by rw [er];rfl) rfl
  have ixk:iaS 1 (.sl (some (kb,0)) 3 c1) (.int .i64 slot)=some (.ptr (some (kb,slot.toNat))):=by rw [iaS_sl 1 _ _ _ _ _ ⟨by omega,by omega⟩];simp
  have lk:ldS g4 (.ptr (some (kb,slot.toNat)))=some (.bool k):=by
   rw [ldS_at K.kk,hk]
   rcases (by omega:slot=0∨slot=1∨slot=2) with rfl | rfl | rfl<;>rfl
  have lc4:ldS g4 (.ptr (some (g1.next,0+2)))=some (.int .i64 ad):=by rw [ldS_at ((s24.get _ (by omega) (by simp)).trans b2)];rfl
  have ge:(0:Int)≤slot:=h0s
  have lt3:slot<((3:Nat):Int):=by omega
  refine Ok.eq ?_ (by simp -implicitDefEqProofs only [nilV_ptr,faP_ptr,Option.bind_some,lf,lfn,ix,l4,chk_nil,bin_geq,ge_iff_le,ge,decide_true,gdW_tt,gV_true,lnL_sl,bin_lss,lt3,pickP_bool,if_true,lc4,ixk,lk,gQ_true]<;>rfl)
  refine ok_cl (P:=fun r=>r.1 = .bool (isC l ad k)∧Same [] g4 r.2) ?_ ?_
  ·refine ok_cl (cIs_ok (P.keep s04) (ad:=ad) k) ?_
   rintro _ g5 ⟨rfl,s5⟩
   exact ok_val rfl ⟨rfl,s5⟩
  ·rintro _ g5 ⟨rfl,s5⟩
   refine(fin g5 (isC l ad k) (s24.trans s5)).eq (by simp -implicitDefEqProofs only [Option.bind_some,pickP_bool,if_true,faP_ptr,chk_nil])
end
set_option linter.all false
attribute [local congr] c_bind c_cl c_mk c_lp c_clC c_gQ c_gV c_condE c_thenK
theorem gx2 (a b c:AV)(l:List AV):(a::b::c::l).getD 2 .bot=c:=rfl
structure Of where
 pl:Int
 sd:Bool
 ad:Int
 ok:Bool
def Of.row (o:Of):List AV:=ofC o.pl o.sd o.ad o.ok
def ofOf (l:PAl)(x:Gk)(k:Nat)(c:Cas):Of:=⟨k,decide (c.kind=1),slotK x c.chan,fitK l (slotK x c.chan) (decide (c.kind=1)) c.val⟩
def offI (l:PAl)(x:Gk):Nat→List Cas→List Of
 | _,[]=>[]
 | k,c::cs=>(if c.kind=0∨c.kind=1 then [ofOf l x k c] else [])++offI l x (k+1) cs
def stdI:Nat→Int→List Cas→Int
 | _,d,[]=>d
 | k,d,c::cs=>stdI (k+1) (if c.kind=0∨c.kind=1 then d else k) cs
theorem offI_app (l:PAl)(x:Gk)(c:Cas):∀ (cs:List Cas) (k:Nat),offI l x k (cs ++ [c])=offI l x k cs++(if c.kind=0∨c.kind=1 then [ofOf l x (k+cs.length) c] else [])
 | [],k=>by simp [offI]
 | d::cs,k=>by
  rw [List.cons_append,offI,offI_app l x c cs (k+1),offI,List.append_assoc,List.length_cons,show k+1+cs.length=k+(cs.length+1) by omega]
theorem stdI_app (c:Cas):∀ (cs:List Cas) (k:Nat) (d:Int),stdI k d (cs ++ [c])=if c.kind=0∨c.kind=1 then stdI k d cs else((k+cs.length:Nat):Int)
 | [],k,d=>by simp [stdI]
 | e::cs,k,d=>by
  rw [List.cons_append,stdI,stdI_app c cs (k+1),stdI,List.length_cons,show k+1+cs.length=k+(cs.length+1) by omega]
def offL (l:PAl)(x:Gk):List Of:=
 if x.fn=1 then [⟨-1,true,x.a,isC l x.a false⟩]
 else if x.fn=2 then [⟨-1,false,x.a,isC l x.a false⟩]
 else if x.fn=3 then [⟨-1,false,x.b,isC l x.b true||isC l x.b false⟩]
 else if x.fn=4∨x.fn=5 then [⟨0,false,x.a,isC l x.a false⟩,⟨1,true,x.b,isC l x.b false⟩]
 else if x.fn=6 then [⟨-1,false,x.a,isC l x.a true⟩]
 else []
def stdK (x:Gk):Int:=if x.fn=5 then 2 else -1
theorem ofs_len (L:List Of):∀ r∈L.map Of.row,r.length=4:=fun r hr=>by
 obtain⟨o,_,rfl⟩:=List.mem_map.1 hr;rfl
structure TbS (g:Heap)(A:Nat→Nat)(l:PAl)(F:Int)(tb:Nat)(sv cv fv:AV)(rest:List AV):Prop where
 B:g.get tb=some (.cells true (mdC sv cv fv++rest))
 lt:tb<g.next
 M:M16 g sv cv fv
 P:HpAt g A l sh16 F
theorem TbS.keep {g g':Heap}{A:Nat→Nat}{l:PAl}{F:Int}{tb:Nat}{sv cv fv:AV}{rest:List AV}(H:TbS g A l F tb sv cv fv rest)(s:Same [] g g'):TbS g' A l F tb sv cv fv rest:=
 ⟨by rw [s.get _ H.lt (by simp)];exact H.B,Nat.lt_of_lt_of_le H.lt s.next,H.M.keep s,H.P.keep s⟩
section
variable {g:Heap}{s fb sb tb mp:Nat}{x:Gk}{sv cv fv:AV}{rest:List AV}{A:Nat→Nat}{l:PAl}{F:Int}
theorem offers_loop (H:StR g s x fb sb)(B:TbS g A l F tb sv cv fv rest)(h0:0≤x.fn)(h6:x.fn < 7){cb off n:Nat}{c:Cap}{cl:List Cas}(hn:cl.length=n)(hl:n≤5)
  (hc:∀ g',Same [] g g'→∀ (i:Nat) y,cl[i]?=some y→ldA 4 g' (.ptr (some (cb,off+i * 4)))=some (.agg y.row)) (hv:∀ y∈cl,y.kind=0∨y.kind=1→0≤y.chan∧y.chan≤2∧0≤y.val∧y.val≤2) :
  Ok (CW (.ptr (some (tb,0))) (.ptr (some (A 0,0))) (.ptr (some (s,0))) (.sl (some (cb,off)) n c) (.int .i64 n) (AV.sl none 0 (.ex 0)) (AV.int .i64 (-1)) (AV.int .i64 0) g) fun r=>r.1 = .exit 1∧∃ v b,r.2.1.getD 0 .bot=v∧r.2.1.getD 1 .bot = .int .i64 (stdI 0 (-1) cl)∧SlB r.2.2 b 4 v ((offI l x 0 cl).map Of.row).flatten ((offI l x 0 cl).map Of.row).length∧Same [] g r.2.2∧∀ j,b=some j→g.next≤j:=by
 refine ok_loop (fun m vs g2=>∃ (i:Nat) (q:AV) (b:Option Nat),vs = [q,.int .i64 (stdI 0 (-1) (cl.take i)),.int .i64 (i:Int)]∧m+i=n∧SlB g2 b 4 q ((offI l x 0 (cl.take i)).map Of.row).flatten ((offI l x 0 (cl.take i)).map Of.row).length∧Same [] g g2∧(∀ j,b=some j→g.next≤j)∧(offI l x 0 (cl.take i)).length≤i) ?_ (n:=n) (by omega) ⟨0,_,none,rfl,by omega,SlB.mt,Same.refl _ _,by simp,Nat.le_refl _⟩
 rintro m vs g2 ⟨i,q,b,rfl,hm,S,s2,hb,hle⟩
 rw [gd0,gd1,gx2]
 by_cases hi:i<n
 ·have hlt:(i:Int)<n:=by omega
  obtain⟨y,hy⟩:∃ y,cl[i]?=some y:=⟨_,List.getElem?_eq_getElem (by omega)⟩
  have et:cl.take (i+1)=cl.take i ++ [y]:=by rw [List.take_succ,hy];rfl
  have htl:(cl.take i).length=i:=by rw [List.length_take];omega
  have ix:iaS 4 (.sl (some (cb,off)) n c) (.int .i64 (i:Int))=some (.ptr (some (cb,off+i * 4))):=by rw [iaS_sl 4 _ _ _ _ _ ⟨by omega,by omega⟩];simp
  refine Ok.eq ?_ (by simp -implicitDefEqProofs only [Bh,bin_lss,hlt,decide_true,Option.bind_some,condE_true,ix,hc g2 s2 i y hy]<;>rfl)
  refine ok_tmp (cs:=y.row) (n:=4) rfl rfl (Cas.sc y) fun g3 s3 n3 b3=>?_
  have s13:=s2.trans s3
  have f0:ldS g3 (.ptr (some (g2.next,0+0)))=some (.int .i64 y.kind):=by rw [ldS_at b3];rfl
  have f1:ldS g3 (.ptr (some (g2.next,0+1)))=some (.int .i64 y.chan):=by rw [ldS_at b3];rfl
  have f2:ldS g3 (.ptr (some (g2.next,0+2)))=some (.int .i64 y.val):=by rw [ldS_at b3];rfl
  have S3:=S.same s3 (by simp)
  have yes:y.kind=0∨y.kind=1→Ok (Aq (.ptr (some (tb,0))) (.ptr (some (A 0,0))) (.ptr (some (s,0))) q (.int .i64 (stdI 0 (-1) (cl.take i))) (.int .i64 (i:Int)) (.ptr (some (g2.next,0))) (.bool true) g3)
    fun r=>(r.1 = .normal∧∃ m',m'<m∧∃ (i:Nat) (q:AV) (b:Option Nat),r.2.1 = [q,.int .i64 (stdI 0 (-1) (cl.take i)),.int .i64 (i:Int)]∧m'+i=n∧SlB r.2.2 b 4 q ((offI l x 0 (cl.take i)).map Of.row).flatten ((offI l x 0 (cl.take i)).map Of.row).length∧Same [] g r.2.2∧(∀ j,b=some j→g.next≤j)∧(offI l x 0 (cl.take i)).length≤i)∨(r.1≠.normal∧(r.1 = .exit 1∧∃ v b,r.2.1.getD 0 .bot=v∧r.2.1.getD 1 .bot = .int .i64 (stdI 0 (-1) cl)∧SlB r.2.2 b 4 v ((offI l x 0 cl).map Of.row).flatten ((offI l x 0 cl).map Of.row).length∧Same [] g r.2.2∧∀ j,b=some j→g.next≤j)):=by
   intro hk
   obtain⟨v1,v2,v3,v4⟩:=hv y (List.mem_of_getElem? hy) hk
   refine Ok.eq ?_ (by simp -implicitDefEqProofs only [Aq,condE_true,faP_ptr,f0,f1,f2,Option.bind_some,eql_int]<;>rfl)
   refine ok_cl (offered_ok (H.keep s13) (B.M.keep s13) (B.keep s13).B (B.keep s13).lt (B.P.keep s13) h0 h6 (i:Int) (decide (y.kind=1)) v1 v2 (by omega) v4 (by omega)) ?_
   rintro _ g4 ⟨rfl,s4⟩
   simp only at s4
   have S4:=S3.same s4 (by simp)
   refine app1 S4 (t:=.agg (ofOf l x i y).row) rfl rfl rfl (by decide) (by rw [List.length_map];omega) fun v' g5 S5 s5 n5=>?_
   have ef:(offI l x 0 (cl.take (i+1)))=offI l x 0 (cl.take i) ++ [ofOf l x i y]:=by rw [et,offI_app,if_pos hk,htl,Nat.zero_add]
   have es:stdI 0 (-1) (cl.take (i+1))=stdI 0 (-1) (cl.take i):=by rw [et,stdI_app,if_pos hk]
   refine(Ok.of (r:=(Ex.normal,[v',.int .i64 (stdI 0 (-1) (cl.take i)),.int .i64 ((i+1:Nat):Int)],g5)) (.inl ⟨rfl,m - 1,by omega,i+1,v',some (g4.next+1),by rw [es],by omega,?_,(s13.trans s4).old s5 (fun j hj=>?_),fun j hj=>?_,?_⟩)).eq (by
    simp -implicitDefEqProofs only [A8,bin_add,Option.bind_some,suc64 i (by omega)])
   ·rw [ef,List.map_append,List.flatten_append,List.length_append]
    have e2:(List.map Of.row [ofOf l x i y]).flatten=(AV.agg (ofOf l x i y).row).cells:=by simp [AV.cells]
    rw [e2];exact S5
   ·right;exact hb j (by simpa using hj)
   ·cases hj;have:=s13.next;have:=s4.next;omega
   ·rw [ef,List.length_append];simp;omega
  by_cases k0:y.kind=0
  ·refine(yes (.inl k0)).eq (by simp -implicitDefEqProofs only [faP_ptr,f0,Option.bind_some,eql_int,decide_eq_true k0,condE_true])
  ·by_cases k1:y.kind=1
   ·refine(yes (.inr k1)).eq (by simp -implicitDefEqProofs only [faP_ptr,f0,Option.bind_some,eql_int,decide_eq_false k0,decide_eq_true k1,condE_false])
   ·have hk : ¬ (y.kind=0∨y.kind=1):=by omega
    have ef:(offI l x 0 (cl.take (i+1)))=offI l x 0 (cl.take i):=by rw [et,offI_app,if_neg hk,List.append_nil]
    have es:stdI 0 (-1) (cl.take (i+1))=(i:Int):=by rw [et,stdI_app,if_neg hk,htl,Nat.zero_add]
    refine(Ok.of (r:=(Ex.normal,[q,.int .i64 (i:Int),.int .i64 ((i+1:Nat):Int)],g3)) (.inl ⟨rfl,m - 1,by omega,i+1,q,b,by rw [es],by omega,by rw [ef];exact S3,s13,hb,by rw [ef];omega⟩)).eq (by
     simp -implicitDefEqProofs only [faP_ptr,f0,Option.bind_some,eql_int,decide_eq_false k0,decide_eq_false k1,condE_false,Aq,A8,bin_add,suc64 i (by omega)])
 ·have hlt : ¬ (i:Int)<n:=by omega
  have e:cl.take i=cl:=List.take_of_length_le (by omega)
  rw [e] at S
  exact(Ok.of (r:=(Ex.exit 1,[q,.int .i64 (stdI 0 (-1) (cl.take i)),.int .i64 (i:Int)],g2)) (.inr ⟨by simp,rfl,q,b,rfl,by rw [e];rfl,S,s2,hb⟩)).eq (by
   simp -implicitDefEqProofs only [Bh,bin_lss,hlt,decide_false,Option.bind_some,condE_false])
end
set_option linter.all false
attribute [local congr] c_bind c_cl c_mk c_lp c_clC c_gQ c_gV c_condE c_thenK
section
variable {g:Heap}{s fb sb tb mp:Nat}{x:Gk}{sv cv fv:AV}{rest:List AV}{A:Nat→Nat}{l:PAl}{F:Int}
theorem fit_2 (l:PAl)(ad:Int)(b:Bool):fitK l ad b 2=isC l ad false:=by unfold fitK;rw [if_neg (by simp),if_pos rfl]
theorem fit_1 (l:PAl)(ad:Int)(b:Bool):fitK l ad b 1=isC l ad true:=by unfold fitK;rw [if_neg (by simp),if_neg (by simp),if_pos (by simp)]
theorem fit_m (l:PAl)(ad:Int):fitK l ad false (-1)=(isC l ad true||isC l ad false):=by unfold fitK;rw [if_pos ⟨rfl,rfl⟩]
theorem offers_one (H:StR g s x fb sb)(B:TbS g A l F tb sv cv fv rest)(h0:0≤x.fn)(h6:x.fn < 7){i:Ins}{out:Bool}{ch slot:Int}(hop:(i.op=38∧out=true∧ch=i.a∧slot=i.b)∨(i.op=39∧out=false∧ch=i.b∧slot=i.a))(c0:0≤ch)(c2:ch≤2)(hs : -1≤slot)(hs2:slot≤2)(hso:slot = -1→out=false) :
  Ok (AC (.ptr (some (tb,0))) (.ptr (some (A 0,0))) (.ptr (some (s,0))) (.agg i.row) g) fun r=>∃ v,r.1 = .tup [v,.int .i64 (-1)]∧Nw g r.2 4 v [ofC (-1) out (slotK x ch) (fitK l (slotK x ch) out slot)]:=by
 refine Ok.eq ?_ (by unfold AC;rfl)
 refine ok_box (cs:=i.row) (Ins.sc i) fun g1 s1 n1 b1=>?_
 have f0:ldS g1 (.ptr (some (g.next,0+0)))=some (.int .i64 i.op):=by rw [ldS_at b1];rfl
 have f1:ldS g1 (.ptr (some (g.next,0+1)))=some (.int .i64 i.a):=by rw [ldS_at b1];rfl
 have f2:ldS g1 (.ptr (some (g.next,0+2)))=some (.int .i64 i.b):=by rw [ldS_at b1];rfl
 have go:∀ {K:AV→Heap→Option (AV × Heap)},(∀ v g',K v g'=mk Heap.new (bsP 4 [(AV.int .i64 0),(AV.bool false),(AV.int .i64 0),(AV.bool false)] 1 [(0,v)]) g' fun t26 h2=>some (AV.tup [t26,(AV.int .i64 (-1))],h2))→
   Ok (cl (AF (.ptr (some (tb,0))) (.ptr (some (A 0,0))) (.ptr (some (s,0))) (.int .i64 (-1)) (.bool out) (.int .i64 ch) (.int .i64 slot) g1) K) fun r=>∃ v,r.1 = .tup [v,.int .i64 (-1)]∧Nw g r.2 4 v [ofC (-1) out (slotK x ch) (fitK l (slotK x ch) out slot)]:=by
  intro K hK
  refine ok_cl (offered_ok (H.keep s1) (B.M.keep s1) (B.keep s1).B (B.keep s1).lt (B.P.keep s1) h0 h6 (-1) out c0 c2 hs hs2 hso) ?_
  rintro _ g2 ⟨rfl,s2⟩
  simp only at s2
  rw [hK]
  refine ok_lit1 rfl rfl rfl fun g3 s3 n3 b3=>?_
  refine Ok.of ⟨_,rfl,some g2.next,Vw.lit (by show g2.next<g3.next;omega) (by simpa using b3) (by simp [ofC]) rfl,(s1.trans s2).trans s3,fun j hj=>?_⟩
  cases hj;have:=s1.next;have:=s2.next;omega
 rcases hop with⟨e0,rfl,rfl,rfl⟩ | ⟨e0,rfl,rfl,rfl⟩
 ·refine Ok.eq (go fun v g'=>rfl) (by
   simp -implicitDefEqProofs only [faP_ptr,f0,Option.bind_some,eql_int,decide_eq_true e0,condE_true,f1,f2]<;>rfl)
 ·have e38 : ¬ i.op=38:=by omega
  refine Ok.eq (go fun v g'=>rfl) (by
   simp -implicitDefEqProofs only [faP_ptr,f0,Option.bind_some,eql_int,decide_eq_false e38,decide_eq_true e0,condE_true,condE_false,f1,f2]<;>rfl)
theorem offers_sel (H:StR g s x fb sb)(B:TbS g A l F tb sv cv fv rest)(h0:0≤x.fn)(h6:x.fn < 7){a n:Nat}(ha:(a=0∧n=2)∨(a=2∧n=3)) :
  Ok (AC (.ptr (some (tb,0))) (.ptr (some (A 0,0))) (.ptr (some (s,0))) (.agg (Ins.row ⟨41,a,n,0,0⟩)) g) fun r=>∃ v,r.1 = .tup [v,.int .i64 (stdI 0 (-1) ((cas16.drop a).take n))]∧Nw g r.2 4 v ((offI l x 0 ((cas16.drop a).take n)).map Of.row):=by
 refine Ok.eq ?_ (by unfold AC;rfl)
 refine ok_box (cs:=Ins.row ⟨41,a,n,0,0⟩) rfl fun g1 s1 n1 b1=>?_
 have f0:ldS g1 (.ptr (some (g.next,0+0)))=some (.int .i64 41):=by rw [ldS_at b1];rfl
 have f1:ldS g1 (.ptr (some (g.next,0+1)))=some (.int .i64 (a:Int)):=by rw [ldS_at b1];rfl
 have f2:ldS g1 (.ptr (some (g.next,0+2)))=some (.int .i64 (n:Int)):=by rw [ldS_at b1];rfl
 have B1:=B.keep s1
 obtain⟨cb,rfl,hcb,hcl⟩:=B1.M.cs
 have l3:ldS g1 (.ptr (some (tb,0+0+3)))=some (.sl (some (cb,0)) 5 (.ex 5)):=by rw [ldS_at B1.B];rfl
 have a0 : ¬ (a:Int) < 0:=by omega
 have n0 : ¬ (n:Int) < 0:=by omega
 have a5 : ¬ (a:Int) > ((5:Nat):Int):=by omega
 have w5:IntKind.i64.wrap (((5:Nat):Int)-(a:Int))=5-(a:Int):=wrap_i64 (by omega) (by omega)
 have n5 : ¬ (n:Int) > 5-(a:Int):=by omega
 have wa:IntKind.i64.wrap ((a:Int)+(n:Int))=((a+n:Nat):Int):=wrap_i64 (by omega) (by omega)
 obtain⟨c,hsl⟩:∃ c,slcP 4 (.sl (some (cb,0)) 5 (.ex 5)) (some (.int .i64 (a:Int))) (some (.int .i64 ((a+n:Nat):Int))) none=some (.sl (some (cb,a * 4)) n c):=by
  rcases ha with⟨rfl,rfl⟩ | ⟨rfl,rfl⟩
  ·exact⟨_,rfl⟩
  ·exact⟨_,rfl⟩
 refine Ok.eq ?_ (by
  simp -implicitDefEqProofs only [faP_ptr,f0,Option.bind_some,eql_int,show decide ((41:Int)=38)=false from rfl,show decide ((41:Int)=39)=false from rfl,decide_true,condE_true,condE_false,f1,f2,bin_lss,a0,n0,decide_false,gdW_ff,gV_true,nilV_ptr,l3,lnL_sl,bin_gtr,a5,pickP_bool,Bool.false_eq_true,if_false,bin_sub,w5,n5,chk_nil,bin_add,wa,hsl]<;>rfl)
 have hlen:((cas16.drop a).take n).length=n:=by rcases ha with⟨rfl,rfl⟩ | ⟨rfl,rfl⟩<;>rfl
 refine ok_lp (offers_loop (H.keep s1) B1 h0 h6 (cl:=(cas16.drop a).take n) hlen (by omega) (fun g' sg i y hy=>?_) (fun y hy _=>?_)) ?_
 ·have hb':=(sg.get _ hcl (by simp)).trans hcb
  have hi:i<n:=by rw [← hlen];exact(List.getElem?_eq_some_iff.1 hy).1
  have h16:cas16[a+i]?=some y:=by
   rw [List.getElem?_take,if_pos hi,List.getElem?_drop] at hy;exact hy
  have hr:(cas16.map Cas.row)[a+i]?=some y.row:=by rw [List.getElem?_map,h16];rfl
  have hf:=flat_at (sz:=4) (l:=cas16.map Cas.row) (by intro r hr;obtain⟨z,_,rfl⟩:=List.mem_map.1 hr;rfl) hr
  rw [ldA_at hb',show a * 4+i * 4=(a+i) * 4 by omega,hf];rfl
 ·have hy:y∈cas16:=List.mem_of_mem_drop (List.mem_of_mem_take hy)
  simp only [cas16,List.mem_cons,List.not_mem_nil,or_false] at hy
  rcases hy with rfl | rfl | rfl | rfl | rfl<;>simp
 ·rintro _ vs g2 ⟨rfl,v,b,hv0,hv1,S,s2,hb⟩
  simp only at hv0 hv1 S s2
  refine(Ok.of (r:=((AV.tup [v,.int .i64 (stdI 0 (-1) ((cas16.drop a).take n))],g2):AV × Heap)) ⟨v,rfl,b,S.vw (ofs_len _),s1.trans s2,fun j hj=>by have:=hb j hj;have:=s1.next;omega⟩).eq (by
   rw [if_pos rfl,thenK_normal,hv0,hv1])
theorem offers_none {x0 x1 x2:AV}{i:Ins}(h1:i.op≠38)(h2:i.op≠39)(h3:i.op≠41):Ok (AC x0 x1 x2 (.agg i.row) g) fun r=>r.1 = .tup [.sl none 0 (.ex 0),.int .i64 (-1)]∧Same [] g r.2:=by
 refine Ok.eq ?_ (by unfold AC;rfl)
 refine ok_box (cs:=i.row) (Ins.sc i) fun g1 s1 n1 b1=>?_
 have f0:ldS g1 (.ptr (some (g.next,0+0)))=some (.int .i64 i.op):=by rw [ldS_at b1];rfl
 exact ok_val (v:=.tup [.sl none 0 (.ex 0),.int .i64 (-1)]) (g:=g1) (by
  simp -implicitDefEqProofs only [faP_ptr,f0,Option.bind_some,eql_int,decide_eq_false h1,decide_eq_false h2,decide_eq_false h3,condE_false]) ⟨rfl,s1⟩
theorem offers_ok (H:StR g s x fb sb)(B:TbS g A l F tb sv cv fv rest)(h0:0≤x.fn)(h6:x.fn < 7) :
  Ok (AC (.ptr (some (tb,0))) (.ptr (some (A 0,0))) (.ptr (some (s,0))) (.agg (insK x.fn).row) g) fun r=>∃ v,r.1 = .tup [v,.int .i64 (stdK x)]∧Nw g r.2 4 v ((offL l x).map Of.row):=by
 have sa:slotK x 0=x.a:=rfl
 have sb':slotK x 1=x.b:=by unfold slotK;rw [if_neg (by omega),if_pos rfl]
 rcases (by omega:x.fn=0∨x.fn=1∨x.fn=2∨x.fn=3∨x.fn=4∨x.fn=5∨x.fn=6) with e | e | e | e | e | e | e
 ·have e1:insK x.fn=⟨43,0,0,0,0⟩:=by rw [e];rfl
  have e2:offL l x = []:=by unfold offL;rw [e];rfl
  have e3:stdK x = -1:=by unfold stdK;rw [e];rfl
  rw [e1,e2,e3]
  refine Ok.mono (offers_none (by simp) (by simp) (by simp)) ?_
  rintro r ⟨h1,h2⟩
  exact⟨_,h1,none,Vw.mt,h2,by simp⟩
 ·have e1:insK x.fn=⟨38,0,2,0,0⟩:=by rw [e];rfl
  have e2:offL l x = [⟨-1,true,x.a,isC l x.a false⟩]:=by unfold offL;rw [e];rfl
  have e3:stdK x = -1:=by unfold stdK;rw [e];rfl
  rw [e1,e2,e3]
  have:=offers_one H B h0 h6 (i:=⟨38,0,2,0,0⟩) (out:=true) (ch:=0) (slot:=2) (.inl ⟨rfl,rfl,rfl,rfl⟩) (by omega) (by omega) (by omega) (by omega) (by omega)
  rw [sa,fit_2] at this
  exact this
 ·have e1:insK x.fn=⟨39,2,0,-1,0⟩:=by rw [e];rfl
  have e2:offL l x = [⟨-1,false,x.a,isC l x.a false⟩]:=by unfold offL;rw [e];rfl
  have e3:stdK x = -1:=by unfold stdK;rw [e];rfl
  rw [e1,e2,e3]
  have:=offers_one H B h0 h6 (i:=⟨39,2,0,-1,0⟩) (out:=false) (ch:=0) (slot:=2) (.inr ⟨rfl,rfl,rfl,rfl⟩) (by omega) (by omega) (by omega) (by omega) (by omega)
  rw [sa,fit_2] at this
  exact this
 ·have e1:insK x.fn=⟨39,-1,1,-1,0⟩:=by rw [e];rfl
  have e2:offL l x = [⟨-1,false,x.b,isC l x.b true||isC l x.b false⟩]:=by unfold offL;rw [e];rfl
  have e3:stdK x = -1:=by unfold stdK;rw [e];rfl
  rw [e1,e2,e3]
  have:=offers_one H B h0 h6 (i:=⟨39,-1,1,-1,0⟩) (out:=false) (ch:=1) (slot:=-1) (.inr ⟨rfl,rfl,rfl,rfl⟩) (by omega) (by omega) (by omega) (by omega) (fun _=>rfl)
  rw [sb',fit_m] at this
  exact this
 ·have e1:insK x.fn=⟨41,(0:Nat),(2:Nat),0,0⟩:=by rw [e];rfl
  have e2:offL l x=offI l x 0 ((cas16.drop 0).take 2):=by
   unfold offL
   rw [e]
   show [(⟨0,false,x.a,isC l x.a false⟩:Of),⟨1,true,x.b,isC l x.b false⟩] = [ofOf l x 0 ⟨0,0,2,1⟩,ofOf l x 1 ⟨1,1,2,1⟩]
   unfold ofOf;simp only [sa,sb',fit_2];rfl
  have e3:stdK x=stdI 0 (-1) ((cas16.drop 0).take 2):=by unfold stdK;rw [e];rfl
  rw [e1,e2,e3]
  exact offers_sel H B h0 h6 (.inl ⟨rfl,rfl⟩)
 ·have e1:insK x.fn=⟨41,(2:Nat),(3:Nat),0,0⟩:=by rw [e];rfl
  have e2:offL l x=offI l x 0 ((cas16.drop 2).take 3):=by
   unfold offL
   rw [e]
   show [(⟨0,false,x.a,isC l x.a false⟩:Of),⟨1,true,x.b,isC l x.b false⟩] = [ofOf l x 0 ⟨0,0,2,1⟩,ofOf l x 1 ⟨1,1,2,1⟩]
   unfold ofOf;simp only [sa,sb',fit_2];rfl
  have e3:stdK x=stdI 0 (-1) ((cas16.drop 2).take 3):=by unfold stdK;rw [e];rfl
  rw [e1,e2,e3]
  exact offers_sel H B h0 h6 (.inr ⟨rfl,rfl⟩)
 ·have e1:insK x.fn=⟨39,1,0,-1,0⟩:=by rw [e];rfl
  have e2:offL l x = [⟨-1,false,x.a,isC l x.a true⟩]:=by unfold offL;rw [e];rfl
  have e3:stdK x = -1:=by unfold stdK;rw [e];rfl
  rw [e1,e2,e3]
  have:=offers_one H B h0 h6 (i:=⟨39,1,0,-1,0⟩) (out:=false) (ch:=0) (slot:=1) (.inr ⟨rfl,rfl,rfl,rfl⟩) (by omega) (by omega) (by omega) (by omega) (by omega)
  rw [sa,fit_1] at this
  exact this
end
set_option linter.all false
attribute [local congr] c_bind c_cl c_mk c_lp c_clC c_gQ c_gV c_condE c_thenK
def wyC (a b c:Int):List AV:=[.int .i64 a,.int .i64 b,.int .i64 c]
def entK:Nat→List Nat→List (AV × AV)
 | _,[]=>[]
 | k,s::ss=>(.int .i64 ((k+1:Nat):Int),.ptr (some (s,0)))::entK (k+1) ss
def idsK (k n:Nat):List Int:=(List.range n).map fun i=>((k+i+1:Nat):Int)
theorem idsK_succ (k n:Nat):idsK k (n+1)=((k+1:Nat):Int)::idsK (k+1) n:=by
 unfold idsK
 rw [List.range_succ_eq_map,List.map_cons,List.map_map]
 congr 1
 apply List.map_congr_left
 intro i _
 simp only [Function.comp]
 congr 1;omega
theorem keys_ent:∀ (ss:List Nat) (k:Nat),keyInts (entK k ss)=some (idsK k ss.length)
 | [],k=>rfl
 | s::ss,k=>by
  show(keyInts (entK (k+1) ss)).map (((k+1:Nat):Int) :: ·)=_
  rw [keys_ent ss (k+1),List.length_cons,idsK_succ];rfl
theorem idsK_mem {k n:Nat}{x:Int}:x∈idsK k n↔(k:Int)<x∧x≤((k+n:Nat):Int):=by
 unfold idsK
 rw [List.mem_map]
 constructor
 ·rintro⟨i,hi,rfl⟩
  rw [List.mem_range] at hi
  omega
 ·rintro⟨h1,h2⟩
  exact⟨(x-k - 1).toNat,by rw [List.mem_range];omega,by omega⟩
theorem idsK_so:∀ (n k:Nat),(idsK k n).Pairwise (· < ·)
 | 0,k=>List.Pairwise.nil
 | n+1,k=>by
  rw [idsK_succ,List.pairwise_cons]
  exact⟨fun x hx=>by have:=idsK_mem.1 hx;omega,idsK_so n (k+1)⟩
theorem putIn_le {x:Int}:∀ {l:List Int},(∀ y∈l,x≤y)→putIn x l=x::l
 | [],_=>rfl
 | y::l,h=>by rw [putIn,if_pos (h y (by simp))]
theorem isort_so:∀ {l:List Int},l.Pairwise (· < ·)→isort l=l
 | [],_=>rfl
 | x::l,h=>by
  rw [List.pairwise_cons] at h
  rw [isort,isort_so h.2,putIn_le fun y hy=>by have:=h.1 y hy;omega]
theorem okKeys_so:∀ {l:List Int},l.Pairwise (· < ·)→(∀ n∈l,(Lit.int .i64 n).wf=true)→okKeys l=true
 | [],_,_=>rfl
 | x::l,h,hw=>by
  rw [List.pairwise_cons] at h
  rw [okKeys,hw x (by simp),okKeys_so h.2 fun n hn=>hw n (by simp [hn])]
  have:(l.all fun m=>!decide (m=x))=true:=by
   rw [List.all_eq_true]
   intro m hm
   have:=h.1 m hm
   simp;omega
  rw [this];rfl
theorem fd_ent (id:Int):∀ (ss:List Nat) (k:Nat),fdA (.int .i64) (.int .i64 id) (entK k ss)=some (if (k:Int)<id then(ss[(id-k - 1).toNat]?).map fun s=>AV.ptr (some (s,0)) else none)
 | [],k=>by
  show some none=_
  simp
 | s::ss,k=>by
  have ih:=fd_ent id ss (k+1)
  have hk:kindOk (.int .i64) (.int .i64 id)=some ():=rfl
  unfold fdA at ih ⊢
  rw [hk,Option.bind_some] at ih ⊢
  rw [entK,findA]
  have he:eqT (.int .i64) (.int .i64 id) (.int .i64 ((k+1:Nat):Int))=some (decide (id=((k+1:Nat):Int))):=rfl
  rw [he,Option.bind_some]
  by_cases h:id=((k+1:Nat):Int)
  ·rw [decide_eq_true h,if_pos rfl,if_pos (by omega),show(id-k - 1).toNat=0 by omega];rfl
  ·rw [decide_eq_false h]
   simp only [Bool.false_eq_true,if_false,ih]
   by_cases h2:(k:Int)<id
   ·rw [if_pos (by omega),if_pos h2,show(id-k - 1).toNat=(id-((k+1:Nat):Int) - 1).toNat+1 by omega];rfl
   ·rw [if_neg (by omega),if_neg h2]
theorem pt_ent (s:Nat):∀ (ss:List Nat) (k:Nat),ptA (.int .i64) (.int .i64 ((k+ss.length+1:Nat):Int)) (.ptr (some (s,0))) (entK k ss)=some (entK k (ss ++ [s]))
 | [],k=>rfl
 | t::ss,k=>by
  have ih:=pt_ent s ss (k+1)
  have hk:kindOk (.int .i64) (.int .i64 ((k+(t::ss).length+1:Nat):Int))=some ():=rfl
  have e:k+1+ss.length+1=k+(t::ss).length+1:=by simp only [List.length_cons];omega
  rw [e] at ih
  unfold ptA at ih ⊢
  rw [hk,Option.bind_some] at ih ⊢
  rw [entK,putMap]
  have he:eqT (.int .i64) (.int .i64 ((k+(t::ss).length+1:Nat):Int)) (.int .i64 ((k+1:Nat):Int))=some (decide (((k+(t::ss).length+1:Nat):Int)=((k+1:Nat):Int))):=rfl
  rw [he,Option.bind_some,decide_eq_false (by simp only [List.length_cons];omega)]
  simp only [Bool.false_eq_true,if_false,ih,Option.map_some]
  rfl
theorem wf_sm {n:Int}(h:0≤n∧n < 32768):(Lit.int .i64 n).wf=true:=by
 have h1:IntKind.i64.min = -9223372036854775808:=rfl
 have h2:IntKind.i64.max=9223372036854775807:=rfl
 show(decide (IntKind.i64.min≤n) && decide (n≤IntKind.i64.max))=true
 rw [h1,h2]
 simp;omega
theorem cl_idS (x:Option (AV × Heap)):(cl x fun t h=>some (t,h))=x:=by cases x<;>rfl
structure TbG (g:Heap)(A:Nat→Nat)(l:PAl)(F:Int)(tb mp:Nat)(sv cv fv:AV)(gs:List Gk)(ss:List Nat):Prop where
 T:TbS g A l F tb sv cv fv [.mp (some mp),.int .i64 gs.length]
 mpb:g.get mp=some (.mp (entK 0 ss))
 ml:mp<g.next
 len:ss.length=gs.length
 st:∀ (k:Nat) x s,gs[k]?=some x→ss[k]?=some s→0≤x.fn∧x.fn < 7∧∃ fb sb,StR g s x fb sb
 few:gs.length≤100
theorem TbG.keep {g g':Heap}{A:Nat→Nat}{l:PAl}{F:Int}{tb mp:Nat}{sv cv fv:AV}{gs:List Gk}{ss:List Nat}(H:TbG g A l F tb mp sv cv fv gs ss)(s:Same [] g g'):TbG g' A l F tb mp sv cv fv gs ss:=
 ⟨H.T.keep s,by rw [s.get _ H.ml (by simp)];exact H.mpb,Nat.lt_of_lt_of_le H.ml s.next,H.len,fun k x t h1 h2=>by obtain⟨a,b,fb,sb,h⟩:=H.st k x t h1 h2;exact⟨a,b,fb,sb,h.keep s⟩,H.few⟩
section
variable {g:Heap}{tb mp:Nat}{sv cv fv:AV}{gs:List Gk}{ss:List Nat}{A:Nat→Nat}{l:PAl}{F:Int}
theorem TbG.l6 (H:TbG g A l F tb mp sv cv fv gs ss):ldS g (.ptr (some (tb,0+6)))=some (.mp (some mp)):=by rw [ldS_at H.T.B];rfl
theorem TbG.la (H:TbG g A l F tb mp sv cv fv gs ss):ldA 6 g (.ptr (some (tb,0+0)))=some (.agg (mdC sv cv fv)):=by rw [ldA_at H.T.B];rfl
theorem TbG.lk (H:TbG g A l F tb mp sv cv fv gs ss)(id:Int):lkP (fdA (.int .i64)) (AV.ptr none) false g (.mp (some mp)) (.int .i64 id)=some (((if 0<id then(ss[(id - 1).toNat]?).map fun s=>AV.ptr (some (s,0)) else none)).getD (.ptr none)):=by
 have h:=fd_ent id ss 0
 have key:∀ o:Option AV,((match o with | some v=>some (v,true) | none=>some (AV.ptr none,false)).bind fun x=>some x.fst)=some (o.getD (.ptr none)):=fun o=>by cases o<;>rfl
 simp only [lkP,H.mpb,h,Option.bind_some]
 rw [show(id-((0:Nat):Int) - 1).toNat=(id - 1).toNat by omega]
 exact key _
theorem TbG.at_ (H:TbG g A l F tb mp sv cv fv gs ss){k:Nat}{x:Gk}(hx:gs[k]?=some x):∃ s fb sb,ss[k]?=some s∧0≤x.fn∧x.fn < 7∧StR g s x fb sb∧lkP (fdA (.int .i64)) (AV.ptr none) false g (.mp (some mp)) (.int .i64 ((k+1:Nat):Int))=some (.ptr (some (s,0))):=by
 have hk:=(List.getElem?_eq_some_iff.1 hx).1
 obtain⟨s,hs⟩:∃ s,ss[k]?=some s:=⟨_,List.getElem?_eq_getElem (by rw [H.len];exact hk)⟩
 obtain⟨a,b,fb,sb,h⟩:=H.st k x s hx hs
 refine⟨s,fb,sb,hs,a,b,h,?_⟩
 rw [H.lk,if_pos (by omega),show(((k+1:Nat):Int) - 1).toNat=k by omega,hs];rfl
theorem ids_ok (H:TbG g A l F tb mp sv cv fv gs ss):Ok (AY (.ptr (some (tb,0))) g) fun r=>Nw g r.2 1 r.1 ((idsK 0 gs.length).map fun n=>[AV.int .i64 n]):=by
 have l6:=H.l6
 have s1:Same [] g (g.new (.cells false [.mp (some mp)])):=Same.new _ _
 have hm:(g.new (.cells false [.mp (some mp)])).get mp=some (.mp (entK 0 ss)):=(s1.get _ H.ml (by simp)).trans H.mpb
 have hn:(g.new (.cells false [.mp (some mp)])).get g.next=some (.cells false [.mp (some mp)]):=get_new_eq
 have hlen:(idsK 0 ss.length).length=gs.length:=by simp [idsK,H.len]
 have hfew:=H.few
 have hok:okKeys (idsK 0 ss.length)=true:=okKeys_so (idsK_so _ _) fun n hn=>wf_sm (by have:=idsK_mem.1 hn;have:=H.len;omega)
 have hle:(idsK 0 ss.length).length≤1099511627776:=by omega
 have hs:Ok (some (ownInts (idsK 0 ss.length) (g.new (.cells false [.mp (some mp)])))) fun r=>Nw g r.2 1 r.1 ((idsK 0 gs.length).map fun n=>[AV.int .i64 n]):=by
  rw [H.len]
  refine Ok.of ?_
  generalize hL:idsK 0 gs.length=L
  cases L with
  | nil=>exact⟨none,Vw.mt,s1,by simp⟩
  | cons y L=>
   refine⟨some (g.new (.cells false [.mp (some mp)])).next,Vw.lit (Nat.lt_succ_self _) ?_ (fun r hr=>by obtain⟨z,_,rfl⟩:=List.mem_map.1 hr;rfl) (by simp),s1.trans (Same.new _ _),fun j hj=>by cases hj;exact s1.next⟩
   show((g.new (.cells false [.mp (some mp)])).new (.cells true ((y::L).map fun n=>.int .i64 n))).get (g.new (.cells false [.mp (some mp)])).next=_
   rw [get_new_eq]
   congr 2
   have:∀ M:List Int,M.map (fun n=>AV.int .i64 n)=(M.map fun n=>[AV.int .i64 n]).flatten:=fun M=>by
    induction M with
    | nil=>rfl
    | cons z M ih=>simp [ih]
   exact this (y::L)
 refine hs.eq ?_
 simp -implicitDefEqProofs only [AY,nilV_ptr,faP_ptr,Option.bind_some,l6,AD,keysV,cl_some,Bc,sortedV,if_true,hn,hm,keys_ent,hok,hle,and_self,isort_so (idsK_so _ _)]
 exact cl_idS _
end
set_option linter.all false
attribute [local congr] c_bind c_cl c_mk c_lp c_clC c_gQ c_gV c_condE c_thenK
def fitsO (o y:Of):Bool:=y.ok && decide (y.ad=o.ad) && (y.sd != o.sd)
def prt1 (o:Of)(p:Int)(ys:List Of):List (List AV):=(ys.filter (fitsO o)).map fun y=>wyC o.pl p y.pl
def prtI (l:PAl)(id:Int)(o:Of):Nat→List Gk→List (List AV)
 | _,[]=>[]
 | k,x::gs=>(if ((k+1:Nat):Int)=id then [] else prt1 o ((k+1:Nat):Int) (offL l x))++prtI l id o (k+1) gs
theorem prt1_app (o:Of)(p:Int)(ys:List Of)(y:Of):prt1 o p (ys ++ [y])=prt1 o p ys++(if fitsO o y then [wyC o.pl p y.pl] else []):=by
 unfold prt1
 rw [List.filter_append,List.map_append]
 congr 1
 cases h:fitsO o y<;>simp [List.filter,h]
theorem prtI_app (l:PAl)(id:Int)(o:Of)(x:Gk):∀ (gs:List Gk) (k:Nat),prtI l id o k (gs ++ [x])=prtI l id o k gs++(if ((k+gs.length+1:Nat):Int)=id then [] else prt1 o ((k+gs.length+1:Nat):Int) (offL l x))
 | [],k=>by simp [prtI]
 | y::gs,k=>by
  rw [List.cons_append,prtI,prtI_app l id o x gs (k+1),prtI,List.append_assoc,List.length_cons,show k+1+gs.length=k+(gs.length+1) by omega]
theorem prt1_len (o:Of)(p:Int)(ys:List Of):(prt1 o p ys).length≤ys.length:=by
 unfold prt1;rw [List.length_map];exact List.length_filter_le _ _
theorem offL_len (l:PAl)(x:Gk):(offL l x).length≤2:=by
 unfold offL
 repeat (split<;>try simp)
theorem prt1_row {o:Of}{p:Int}{ys:List Of}:∀ r∈prt1 o p ys,r.length=3:=fun r hr=>by
 obtain⟨y,_,rfl⟩:=List.mem_map.1 hr;rfl
theorem prtI_row {l:PAl}{id:Int}{o:Of}:∀ {gs:List Gk} {k:Nat},∀ r∈prtI l id o k gs,r.length=3
 | [],k,r,hr=>by simp [prtI] at hr
 | x::gs,k,r,hr=>by
  rw [prtI,List.mem_append] at hr
  rcases hr with hr | hr
  ·split at hr
   ·cases hr
   ·exact prt1_row r hr
  ·exact prtI_row r hr
theorem prtI_len (l:PAl)(id:Int)(o:Of):∀ (gs:List Gk) (k:Nat),(prtI l id o k gs).length≤2*gs.length
 | [],k=>by simp [prtI]
 | x::gs,k=>by
  rw [prtI,List.length_append,List.length_cons]
  have h1:=prtI_len l id o gs (k+1)
  have h2:(if ((k+1:Nat):Int)=id then [] else prt1 o ((k+1:Nat):Int) (offL l x)).length≤2:=by
   split
   ·simp
   ·exact Nat.le_trans (prt1_len _ _ _) (offL_len l x)
  omega
structure Ow (g0 g:Heap)(b:Option Nat)(sz:Nat)(q:AV)(rows:List (List AV)):Prop where
 S:SlB g b sz q rows.flatten rows.length
 same:Same [] g0 g
 new:∀ j,b=some j→g0.next≤j
theorem Ow.mt {g0 g:Heap}{sz:Nat}(s:Same [] g0 g):Ow g0 g none sz (.sl none 0 (.ex 0)) []:=⟨SlB.mt,s,by simp⟩
theorem Ow.keep {g0 g g':Heap}{b:Option Nat}{sz:Nat}{q:AV}{rows:List (List AV)}(H:Ow g0 g b sz q rows)(s:Same [] g g'):Ow g0 g' b sz q rows:=⟨H.S.same s (by simp),H.same.trans s,H.new⟩
theorem Ow.nw {g0 g:Heap}{b:Option Nat}{sz:Nat}{q:AV}{rows:List (List AV)}(H:Ow g0 g b sz q rows)(hl:∀ r∈rows,r.length=sz):Nw g0 g sz q rows:=⟨b,H.S.vw hl,H.same,H.new⟩
theorem Ow.push {R:Type}{g0 g:Heap}{b:Option Nat}{sz bytes:Nat}{q:AV}{rows:List (List AV)}{z cs:List AV}(H:Ow g0 g b sz q rows)(hz:z.length=sz)(hc:cs.length=sz)(hs:cs.all scalar=true)(h0:0<sz)(hn:(rows.length+1)*bytes≤2 ^ 47){K:AV→Heap→Option R}{Q:R→Prop}
  (hk:∀ v' g',Ow g0 g' (some (g.next+1)) sz v' (rows ++ [cs])→Same b.toList g g'→g'.next=g.next+2→Ok (K v' g') Q) :
  Ok (Go.Ab.mk Heap.new (bsP sz z 1 [(0,.agg cs)]) g fun x h=>cl (appendA h sz bytes q x) K) Q:=by
 refine app1 H.S (t:=.agg cs) hz hc hs h0 hn fun v' g' S' s' n'=>hk v' g' ⟨?_,H.same.old s' (fun j hj=>.inr (H.new j (by simpa using hj))),fun j hj=>by cases hj;have:=H.same.next;omega⟩ s' n'
 rw [List.flatten_append,List.length_append]
 have e:(AV.agg cs).cells = [cs].flatten:=by simp [AV.cells]
 rw [← e];exact S'
theorem Ow.more {R:Type}{g0 g:Heap}{b b2:Option Nat}{sz bytes:Nat}{q v:AV}{rows more:List (List AV)}(H:Ow g0 g b sz q rows)(V:Vw g b2 sz v more)(hs:more.flatten.all scalar=true)(h0:0<sz)(hn:(rows.length+more.length)*bytes≤2 ^ 47){K:AV→Heap→Option R}{Q:R→Prop}
  (hk:∀ v' g' b',Ow g0 g' b' sz v' (rows++more)→Same b.toList g g'→(b'=b∨b'=some g.next)→Ok (K v' g') Q):Ok (cl (appendA g sz bytes q v) K) Q:=by
 obtain⟨hc,ha⟩:=V.added
 have ha':=ha g fun _ _=>rfl
 have hfl:=flat_len V.len
 cases hm:more with
 | nil=>
  subst hm
  obtain⟨g',e,S',s',n'⟩:=appG0 (bytes:=bytes) (.inl H.S) hc ha'
  rw [e,cl_some]
  refine hk q g' b ⟨?_,H.same.trans s',H.new⟩ (s'.sub (by simp)) (.inl rfl)
  rw [List.append_nil]
  exact H.S.same s' (by simp)
 | cons r more'=>
  have hp:0<more.length:=by rw [hm];simp
  obtain⟨v',g',e,S',s',n'⟩:=appG (bytes:=bytes) (.inl H.S) hc ha' hfl hs h0 hp hn
  rw [e,cl_some]
  refine hk v' g' (some g.next) ⟨?_,H.same.old s' (fun j hj=>.inr (H.new j (by simpa using hj))),fun j hj=>by cases hj;exact H.same.next⟩ s' (.inr rfl)
  rw [List.flatten_append,List.length_append];exact S'
section
variable {g:Heap}{tb mp:Nat}{sv cv fv:AV}{gs:List Gk}{ss:List Nat}{A:Nat→Nat}{l:PAl}{F:Int}
theorem partners_L0 {g0:Heap}{o:Of}{p:Int}{tq:Nat}{b ob:Option Nat}{q v:AV}{rows:List (List AV)}{ys:List Of}(H:Ow g0 g b 3 q rows)(V:Vw g ob 4 v (ys.map Of.row))(hq:g.get tq=some (.cells true o.row))(hl:tq<g.next)(h1:b≠some tq)(h2:∀ j,ob=some j→b≠some j)(hy:ys.length≤2)(hr:rows.length≤1000) :
  Ok (CJ (.ptr (some (tq,0))) (.int .i64 p) v (.int .i64 ys.length) q (.int .i64 0) g) fun r=>r.1 = .exit 2∧∃ b',Ow g0 r.2.2 b' 3 (r.2.1.getD 0 .bot) (rows++prt1 o p ys)∧Same b.toList g r.2.2∧(b'=b∨∀ j,b'=some j→g.next≤j):=by
 refine ok_loop (fun m vs g2=>∃ (i:Nat) (q':AV) (b':Option Nat),vs = [q',.int .i64 (i:Int)]∧m+i=ys.length∧Ow g0 g2 b' 3 q' (rows++prt1 o p (ys.take i))∧Same b.toList g g2∧(b'=b∨∀ j,b'=some j→g.next≤j)) ?_ (n:=ys.length) (by omega) ⟨0,q,b,rfl,by omega,by simpa [prt1] using H,Same.refl _ _,.inl rfl⟩
 rintro m vs g2 ⟨i,q',b',rfl,hm,H',s2,hb'⟩
 rw [gd0,gd1]
 have V2:=V.same s2 (fun j hj hm=>h2 j hj (by simpa using hm))
 have hq2:g2.get tq=some (.cells true o.row):=(s2.get _ hl (fun hm=>h1 (by simpa using hm))).trans hq
 have hb2:∀ j∈b'.toList,g0.next≤j:=fun j hj=>H'.new j (by simpa using hj)
 by_cases hi:i<ys.length
 ·have hlt:(i:Int)<ys.length:=by omega
  obtain⟨y,hyy⟩:∃ y,ys[i]?=some y:=⟨_,List.getElem?_eq_getElem hi⟩
  have et:ys.take (i+1)=ys.take i ++ [y]:=by rw [List.take_succ,hyy];rfl
  obtain⟨pp,oo,_,hpl,ix,la,_⟩:=V2.at (i:=i) (r:=y.row) (by rw [List.getElem?_map,hyy];rfl)
  refine Ok.eq ?_ (by simp -implicitDefEqProofs only [BT,bin_lss,hlt,decide_true,Option.bind_some,condE_true,ix,la g2 rfl]<;>rfl)
  refine ok_tmp (cs:=y.row) (n:=4) rfl rfl rfl fun g3 s3 n3 b3=>?_
  have f0:ldS g3 (.ptr (some (g2.next,0+0)))=some (.int .i64 y.pl):=by rw [ldS_at b3];rfl
  have f1:ldS g3 (.ptr (some (g2.next,0+1)))=some (.bool y.sd):=by rw [ldS_at b3];rfl
  have f2:ldS g3 (.ptr (some (g2.next,0+2)))=some (.int .i64 y.ad):=by rw [ldS_at b3];rfl
  have f3:ldS g3 (.ptr (some (g2.next,0+3)))=some (.bool y.ok):=by rw [ldS_at b3];rfl
  have hl2:tq<g2.next:=Nat.lt_of_lt_of_le hl s2.next
  have hq3:=(s3.get _ hl2 (by simp)).trans hq2
  have o0:ldS g3 (.ptr (some (tq,0+0)))=some (.int .i64 o.pl):=by rw [ldS_at hq3];rfl
  have o1:ldS g3 (.ptr (some (tq,0+1)))=some (.bool o.sd):=by rw [ldS_at hq3];rfl
  have o2:ldS g3 (.ptr (some (tq,0+2)))=some (.int .i64 o.ad):=by rw [ldS_at hq3];rfl
  have H3:=H'.keep s3
  have sb3:Same b.toList g g3:=s2.trans (s3.sub (by simp))
  have no:fitsO o y=false→Ok (Af (.int .i64 (i:Int)) q' g3) fun r=>(r.1 = .normal∧∃ m',m'<m∧∃ (i:Nat) (q':AV) (b':Option Nat),r.2.1 = [q',.int .i64 (i:Int)]∧m'+i=ys.length∧Ow g0 r.2.2 b' 3 q' (rows++prt1 o p (ys.take i))∧Same b.toList g r.2.2∧(b'=b∨∀ j,b'=some j→g.next≤j))∨(r.1≠.normal∧(r.1 = .exit 2∧∃ b',Ow g0 r.2.2 b' 3 (r.2.1.getD 0 .bot) (rows++prt1 o p ys)∧Same b.toList g r.2.2∧(b'=b∨∀ j,b'=some j→g.next≤j))):=fun hf=>
   (Ok.of (r:=(Ex.normal,[q',.int .i64 ((i+1:Nat):Int)],g3)) (.inl ⟨rfl,m - 1,by omega,i+1,q',b',rfl,by omega,by rw [et,prt1_app,hf];simpa using H3,sb3,hb'⟩)).eq (by
    simp -implicitDefEqProofs only [Af,bin_add,Option.bind_some,suc64 i (by omega)])
  by_cases k3:y.ok=true
  ·by_cases k2:y.ad=o.ad
   ·by_cases k1:y.sd=o.sd
    ·have hf:fitsO o y=false:=by unfold fitsO;rw [k3,k1];simp
     refine(no hf).eq (by simp -implicitDefEqProofs only [faP_ptr,f3,k3,Option.bind_some,gdW_tt,gQ_true,f2,o2,eql_int,decide_eq_true k2,cl_some,pickP_bool,if_true,f1,o1,neq_bool,k1,beq_self_eq_true,Bool.not_true,condE_false])
    ·have hf:fitsO o y=true:=by unfold fitsO;rw [k3,decide_eq_true k2];simpa using k1
     have hb:(!(y.sd == o.sd))=true:=by simpa using k1
     have hpl:=prt1_len o p (ys.take i)
     have htl:=List.length_take_le i ys
     refine Ok.eq ?_ (by simp -implicitDefEqProofs only [faP_ptr,f3,k3,Option.bind_some,gdW_tt,gQ_true,f2,o2,eql_int,decide_eq_true k2,cl_some,pickP_bool,if_true,f1,o1,neq_bool,hb,condE_true,o0,f0,show bldS [(0,1),(1,1),(2,1)] [(AV.int .i64 0),(AV.int .i64 0),(AV.int .i64 0)] [(0,.int .i64 o.pl),(1,.int .i64 p),(2,.int .i64 y.pl)]=some (.agg (wyC o.pl p y.pl)) from rfl]<;>rfl)
     have hbd:(rows++prt1 o p (ys.take i)).length≤1002:=by rw [List.length_append];omega
     refine H3.push (bytes:=24) rfl rfl rfl (by omega) (by omega) fun v' g4 H4 s4 n4=>?_
     refine(Ok.of (r:=(Ex.normal,[v',.int .i64 ((i+1:Nat):Int)],g4)) (.inl ⟨rfl,m - 1,by omega,i+1,v',some (g3.next+1),rfl,by omega,by rw [et,prt1_app,hf];simpa [List.append_assoc] using H4,?_,.inr fun j hj=>?_⟩)).eq (by
      simp -implicitDefEqProofs only [Af,bin_add,Option.bind_some,suc64 i (by omega)])
     ·refine sb3.old s4 fun j hj=>?_
      rcases hb' with rfl | h
      ·exact .inl hj
      ·exact .inr (h j (by simpa using hj))
     ·cases hj;have:=sb3.next;omega
   ·have hf:fitsO o y=false:=by unfold fitsO;rw [decide_eq_false k2];simp
    refine(no hf).eq (by simp -implicitDefEqProofs only [faP_ptr,f3,k3,Option.bind_some,gdW_tt,gdW_ft,gQ_true,gQ_false,f2,o2,eql_int,decide_eq_false k2,cl_some,pickP_bool,if_true,Bool.false_eq_true,if_false,condE_false])
  ·have k3':y.ok=false:=by simpa using k3
   have hf:fitsO o y=false:=by unfold fitsO;rw [k3'];simp
   refine(no hf).eq (by simp -implicitDefEqProofs only [faP_ptr,f3,k3',Option.bind_some,gdW_ft,gQ_false,pickP_bool,Bool.false_eq_true,if_false,condE_false])
 ·have hlt : ¬ (i:Int)<ys.length:=by omega
  have e:ys.take i=ys:=List.take_of_length_le (by omega)
  rw [e] at H'
  exact(Ok.of (r:=(Ex.exit 2,[q',.int .i64 (i:Int)],g2)) (.inr ⟨by simp,rfl,b',H',s2,hb'⟩)).eq (by
   simp -implicitDefEqProofs only [BT,bin_lss,hlt,decide_false,Option.bind_some,condE_false])
end
set_option linter.all false
attribute [local congr] c_bind c_cl c_mk c_lp c_clC c_gQ c_gV c_condE c_thenK
theorem rdC_some {f:Heap→Option AV}{h:Heap}{v:AV}(e:f h=some v)(lo hi:Nat)(cs:List Asked):rdC f h lo hi cs=some (v,(f,v,lo,hi)::cs):=by
 unfold rdC;rw [e];rfl
section
variable {g:Heap}{tb mp:Nat}{sv cv fv:AV}{gs:List Gk}{ss:List Nat}{A:Nat→Nat}{l:PAl}{F:Int}
theorem partners_ok (H:TbG g A l F tb mp sv cv fv gs ss)(id:Int)(o:Of)(hgs:gs.length≤64) :
  Ok (Ae (.ptr (some (tb,0))) (.ptr (some (A 0,0))) (.int .i64 id) (.agg o.row) g) fun r=>Nw g r.2 3 r.1 (prtI l id o 0 gs):=by
 refine Ok.eq ?_ (by unfold Ae;rfl)
 refine ok_box (cs:=o.row) rfl fun g1 s1 n1 b1=>?_
 refine ok_cl (ids_ok (H.keep s1)) ?_
 rintro v20 g2 ⟨bi,V,s2,hbi⟩
 simp only at V s2
 have hidl:(idsK 0 gs.length).length=gs.length:=by simp [idsK]
 have ln:=V.lnL
 rw [List.length_map,hidl] at ln
 refine Ok.eq ?_ (by simp -implicitDefEqProofs only [ln,Option.bind_some]<;>rfl)
 have s02:=s1.trans s2
 have b2:=(s2.get _ (by omega) (by simp)).trans b1
 have hl2:g.next<g2.next:=by have:=s2.next;omega
 refine ok_lp (P:=fun r=>r.1 = .exit 0∧∃ b',Ow g2 r.2.2 b' 3 (r.2.1.getD 0 .bot) (prtI l id o 0 gs)) ?_ ?_
 ·refine ok_loop (fun m vs g3=>∃ (i:Nat) (q:AV) (b:Option Nat),vs = [q,.int .i64 (i:Int)]∧m+i=gs.length∧Ow g2 g3 b 3 q (prtI l id o 0 (gs.take i))) ?_ (n:=gs.length) (by omega) ⟨0,_,none,rfl,by omega,Ow.mt (Same.refl _ _)⟩
  rintro m vs g3 ⟨i,q,b,rfl,hm,O⟩
  rw [gd0,gd1]
  have s03:=s02.trans O.same
  by_cases hi:i<gs.length
  ·have hlt:(i:Int)<gs.length:=by omega
   obtain⟨x,hx⟩:∃ x,gs[i]?=some x:=⟨_,List.getElem?_eq_getElem hi⟩
   have et:gs.take (i+1)=gs.take i ++ [x]:=by rw [List.take_succ,hx];rfl
   have htl:(gs.take i).length=i:=by rw [List.length_take];omega
   have H3:=H.keep s03
   obtain⟨s,fb,sb,hs,f0,f6,St,lk⟩:=H3.at_ hx
   have hid:(idsK 0 gs.length)[i]?=some ((i+1:Nat):Int):=by
    unfold idsK
    rw [List.getElem?_map,List.getElem?_range hi]
    simp
   obtain⟨pp,oo,_,_,ix,_,lx⟩:=(V.keep O.same).at (i:=i) (r:=[.int .i64 ((i+1:Nat):Int)]) (by rw [List.getElem?_map,hid];rfl)
   have l0:ldS g3 (.ptr (some (pp,oo)))=some (.int .i64 ((i+1:Nat):Int)):=lx 0 _ g3 rfl rfl
   refine Ok.eq ?_ (by simp -implicitDefEqProofs only [BV,bin_lss,hlt,decide_true,Option.bind_some,condE_true,ix,l0,nilV_ptr,faP_ptr,H3.l6,lk,H3.la]<;>rfl)
   refine ok_cl (at_ok St H3.T.M f0 f6) ?_
   rintro _ g4 ⟨rfl,s4⟩
   simp only at s4
   refine Ok.eq ?_ (by simp -implicitDefEqProofs only [extractV_tup,e0,e1,Option.bind_some]<;>rfl)
   refine ok_tmp (cs:=(insK x.fn).row) (n:=5) rfl rfl (Ins.sc _) fun g5 s5 n5 b5=>?_
   have s35:=s4.trans s5
   have O5:=O.keep s35
   have ef:prtI l id o 0 (gs.take (i+1))=prtI l id o 0 (gs.take i)++(if ((i+1:Nat):Int)=id then [] else prt1 o ((i+1:Nat):Int) (offL l x)):=by rw [et,prtI_app,htl,Nat.zero_add]
   by_cases hsame:((i+1:Nat):Int)=id
   ·refine(Ok.of (r:=(Ex.normal,[q,.int .i64 ((i+1:Nat):Int)],g5)) (.inl ⟨rfl,m - 1,by omega,i+1,q,b,rfl,by omega,by rw [ef,if_pos hsame,List.append_nil];exact O5⟩)).eq (by
     simp -implicitDefEqProofs only [eql_int,decide_eq_true hsame,Option.bind_some,gdW_tf,gQ_false,pickP_bool,if_true,condE_true,bin_add,suc64 i (by omega)])
   ·have la5:ldA 5 g5 (.ptr (some (g4.next,0)))=some (.agg (insK x.fn).row):=ldA_all b5 rfl
    refine Ok.eq ?_ (by simp -implicitDefEqProofs only [eql_int,decide_eq_false hsame,Option.bind_some,gdW_ff,gQ_true,cl_some,un_not,Bool.not_true,pickP_bool,Bool.false_eq_true,if_false,condE_false,la5]<;>rfl)
    refine ok_cl (offers_ok (St.keep s35) (H3.T.keep s35) f0 f6) ?_
    rintro _ g6 ⟨v,rfl,ob,Vo,s6,hob⟩
    simp only at Vo s6
    have lno:=Vo.lnL
    rw [List.length_map] at lno
    refine Ok.eq ?_ (by simp -implicitDefEqProofs only [extractV_tup,e0,e1,Option.bind_some,lno]<;>rfl)
    have O6:=O5.keep s6
    have s26:=O6.same
    have hq6:=(s26.get _ hl2 (by simp)).trans b2
    have hbl:∀ j,b=some j→j<g5.next:=fun j hj=>(O5.S.blk j hj).1
    have hpl:=prtI_len l id o (gs.take i) 0
    rw [htl] at hpl
    refine ok_lp (partners_L0 O6 Vo hq6 (by have:=s26.next;omega) (fun e=>by have:=O.new _ e;omega) (fun j hj e=>by have:=hob j hj;have:=hbl j e;omega) (offL_len l x) (by omega)) ?_
    rintro _ vs g7 ⟨rfl,b',O7,s7,_⟩
    simp only at O7 s7
    refine(Ok.of (r:=(Ex.normal,[vs.getD 0 .bot,.int .i64 ((i+1:Nat):Int)],g7)) (.inl ⟨rfl,m - 1,by omega,i+1,_,b',rfl,by omega,by rw [ef,if_neg hsame];exact O7⟩)).eq (by
     simp -implicitDefEqProofs only [if_true,reduceCtorEq,if_false,thenK_normal,bin_add,Option.bind_some,suc64 i (by omega)])
  ·have hlt : ¬ (i:Int)<gs.length:=by omega
   have e:gs.take i=gs:=List.take_of_length_le (by omega)
   rw [e] at O
   exact(Ok.of (r:=(Ex.exit 0,[q,.int .i64 (i:Int)],g3)) (.inr ⟨by simp,rfl,b,O⟩)).eq (by
    simp -implicitDefEqProofs only [BV,bin_lss,hlt,decide_false,Option.bind_some,condE_false])
 ·rintro _ vs g3 ⟨rfl,b',O⟩
  simp only at O
  obtain⟨b3,V3,s3,h3⟩:=O.nw prtI_row
  refine(Ok.of (r:=((vs.getD 0 .bot,g3):AV × Heap)) ⟨b3,V3,s02.trans s3,fun j hj=>by have:=h3 j hj;omega⟩).eq (by rw [if_pos rfl,thenK_normal])
structure Chn (l:PAl)(ad:Int)(c:Chan):Prop where
 at_:∃ rest,ChAt l.ar sh16 ad c false 0 rest
def wayO (l:PAl)(gs:List Gk)(st:Int→Option Chan)(id:Int)(o:Of):List (List AV):=
 if o.ok=false then(if o.pl = -1 then [wyC o.pl 0 (-1)] else [])
 else match st o.ad with
  | none=>[]
  | some c=>if c.closed≠0∨(o.sd=true∧c.count<c.room)∨(o.sd=false∧0<c.count) then [wyC o.pl 0 (-1)] else if c.room=0 then prtI l id o 0 gs else []
theorem wayO_row {l:PAl}{gs:List Gk}{st:Int→Option Chan}{id:Int}{o:Of}:∀ r∈wayO l gs st id o,r.length=3:=by
 unfold wayO
 intro r hr
 split at hr
 ·split at hr
  ·simp at hr;subst hr;rfl
  ·cases hr
 ·split at hr
  ·cases hr
  ·split at hr
   ·simp at hr;subst hr;rfl
   ·split at hr
    ·exact prtI_row r hr
    ·cases hr
theorem ways_ok (H:TbG g A l F tb mp sv cv fv gs ss)(id:Int)(o:Of)(hgs:gs.length≤64){st:Int→Option Chan}(hst:o.ok=true→∃ c,st o.ad=some c∧Chn l o.ad c) :
  Ok (BL (.ptr (some (tb,0))) (.ptr (some (A 0,0))) (.int .i64 id) (.agg o.row) g) fun r=>Nw g r.2 3 r.1 (wayO l gs st id o):=by
 refine Ok.eq ?_ (by unfold BL;rfl)
 refine ok_box (cs:=o.row) rfl fun g1 s1 n1 b1=>?_
 have f0:ldS g1 (.ptr (some (g.next,0+0)))=some (.int .i64 o.pl):=by rw [ldS_at b1];rfl
 refine Ok.eq ?_ (by simp -implicitDefEqProofs only [faP_ptr,f0,Option.bind_some,show bldS [(0,1),(1,1),(2,1)] [(AV.int .i64 0),(AV.int .i64 0),(AV.int .i64 0)] [(0,.int .i64 o.pl),(1,(AV.int .i64 0)),(2,(AV.int .i64 (-1)))]=some (.agg (wyC o.pl 0 (-1))) from rfl]<;>rfl)
 refine ok_lit1 rfl rfl rfl fun g2 s2 n2 b2=>?_
 have s02:=s1.trans s2
 have b12:=(s2.get _ (by omega) (by simp)).trans b1
 have F0:∀ g',Same [] g2 g'→ldS g' (.ptr (some (g.next,0+0)))=some (.int .i64 o.pl):=fun g' s=>by rw [ldS_at ((s.get _ (by omega) (by simp)).trans b12)];rfl
 have F1:∀ g',Same [] g2 g'→ldS g' (.ptr (some (g.next,0+1)))=some (.bool o.sd):=fun g' s=>by rw [ldS_at ((s.get _ (by omega) (by simp)).trans b12)];rfl
 have F2:∀ g',Same [] g2 g'→ldS g' (.ptr (some (g.next,0+2)))=some (.int .i64 o.ad):=fun g' s=>by rw [ldS_at ((s.get _ (by omega) (by simp)).trans b12)];rfl
 have F3:∀ g',Same [] g2 g'→ldS g' (.ptr (some (g.next,0+3)))=some (.bool o.ok):=fun g' s=>by rw [ldS_at ((s.get _ (by omega) (by simp)).trans b12)];rfl
 have FA:∀ g',Same [] g2 g'→ldA 4 g' (.ptr (some (g.next,0)))=some (.agg o.row):=fun g' s=>ldA_all ((s.get _ (by omega) (by simp)).trans b12) rfl
 have rr:=Same.refl [] g2
 -- alone
 have alone:∀ g',Same [] g2 g'→Nw g g' 3 (.sl (some (g1.next,0)) 1 (.ex 1)) [wyC o.pl 0 (-1)]:=fun g' s=>
  ⟨some g1.next,(Vw.lit (g:=g2) (i:=g1.next) (sz:=3) (n:=1) (c:=.ex 1) (rows:=[wyC o.pl 0 (-1)]) (by omega) (by simpa using b2) (by simp [wyC]) rfl).keep s,s02.trans s,fun j hj=>by cases hj;omega⟩
 have nil:∀ g',Same [] g2 g'→Nw g g' 3 (.sl none 0 (.ex 0)) []:=fun g' s=>⟨none,Vw.mt,s02.trans s,by simp⟩
 cases hok:o.ok with
 | false=>
  rw [hok] at F3
  by_cases hp:o.pl = -1
  ·have e:wayO l gs st id o = [wyC o.pl 0 (-1)]:=by unfold wayO;rw [if_pos hok,if_pos hp]
   rw [e]
   exact ok_val (g:=g2) (by simp -implicitDefEqProofs only [faP_ptr,F3 g2 rr,Option.bind_some,un_not,Bool.not_false,gdW_tt,gdW_tf,gQ_true,gQ_false,F0 g2 rr,neq_int,decide_eq_true hp,Bool.not_true,cl_some,pickP_bool,if_true,condE_false,condE_true]) (alone g2 rr)
  ·have e:wayO l gs st id o = []:=by unfold wayO;rw [if_pos hok,if_neg hp]
   rw [e]
   exact ok_val (g:=g2) (by simp -implicitDefEqProofs only [faP_ptr,F3 g2 rr,Option.bind_some,un_not,Bool.not_false,gdW_tt,gQ_true,F0 g2 rr,neq_int,decide_eq_false hp,cl_some,pickP_bool,if_true,condE_true]) (nil g2 rr)
 | true=>
  rw [hok] at F3
  obtain⟨c,hc,⟨rest,C⟩⟩:=hst hok
  have P2:=(H.keep s02).T.P
  refine Ok.eq ?_ (by simp -implicitDefEqProofs only [faP_ptr,F3 g2 rr,Option.bind_some,un_not,Bool.not_true,gdW_ft,gdW_ff,gQ_false,gQ_true,pickP_bool,Bool.false_eq_true,if_false,condE_false,F2 g2 rr,cl_some]<;>rfl)
  refine ok_cl (P:=fun r=>r.1 = .bool (!decide (c.closed=0))∧Same [] g2 r.2) ?_ ?_
  ·refine ok_cl (closed_ok P2 C) ?_
   rintro _ g3 ⟨rfl,s3⟩
   exact ok_val rfl ⟨rfl,s3⟩
  rintro _ g3 ⟨rfl,s3⟩
  simp only at s3
  by_cases hcl : ¬ c.closed=0
  ·have e:wayO l gs st id o = [wyC o.pl 0 (-1)]:=by unfold wayO;rw [if_neg (by rw [hok];simp),hc];simp only;rw [if_pos (.inl hcl)]
   rw [e]
   exact ok_val (g:=g3) (by simp -implicitDefEqProofs only [decide_eq_false hcl,Bool.not_false,Option.bind_some,pickP_bool,Bool.false_eq_true,if_false,condE_true]) (alone g3 s3)
  have hcl:c.closed=0:=by omega
  have P3:=P2.keep s3
  refine Ok.eq ?_ (by simp -implicitDefEqProofs only [decide_eq_true hcl,Bool.not_true,Option.bind_some,pickP_bool,Bool.false_eq_true,if_false,condE_false,faP_ptr,F1 g3 s3]<;>rfl)
  -- behind both questions: room
  have last:∀ (g5:Heap),Same [] g2 g5→¬ (c.closed≠0∨(o.sd=true∧c.count<c.room)∨(o.sd=false∧0<c.count))→Ok ((faP 2 (.ptr (some (g.next,0)))).bind fun t63=>(ldS g5 t63).bind fun t64=>cl (BM (.ptr (some (A 0,0))) t64 g5) fun t65 h32=>
    (eqP (some (.int .i64)) none false .eql t65 (AV.int .i64 0)).bind fun t66=>condE t66 ((ldA 4 h32 (.ptr (some (g.next,0)))).bind fun t70=>cl (Ae (.ptr (some (tb,0))) (.ptr (some (A 0,0))) (.int .i64 id) t70 h32) fun t71 h33=>some (t71,h33)) (some ((AV.sl none 0 (.ex 0)),h32))) fun r=>Nw g r.2 3 r.1 (wayO l gs st id o):=by
   intro g5 s5 hno
   refine Ok.eq ?_ (by simp -implicitDefEqProofs only [faP_ptr,F2 g5 s5,Option.bind_some]<;>rfl)
   refine ok_cl (room_ok (P2.keep s5) C) ?_
   rintro _ g6 ⟨rfl,s6⟩
   simp only at s6
   have s56:=s5.trans s6
   by_cases hr:c.room=0
   ·have e:wayO l gs st id o=prtI l id o 0 gs:=by unfold wayO;rw [if_neg (by rw [hok];simp),hc];simp only;rw [if_neg hno,if_pos hr]
    rw [e]
    refine Ok.eq ?_ (by simp -implicitDefEqProofs only [eql_int,decide_eq_true hr,Option.bind_some,condE_true,FA g6 s56]<;>rfl)
    refine ok_cl (partners_ok (H.keep (s02.trans s56)) id o hgs) ?_
    rintro v g7 ⟨b7,V7,s7,h7⟩
    refine ok_val (v:=v) (g:=g7) rfl ⟨b7,V7,(s02.trans s56).trans s7,fun j hj=>by have:=h7 j hj;have:=(s02.trans s56).next;omega⟩
   ·have e:wayO l gs st id o = []:=by unfold wayO;rw [if_neg (by rw [hok];simp),hc];simp only;rw [if_neg hno,if_neg hr]
    rw [e]
    exact ok_val (g:=g6) (by simp -implicitDefEqProofs only [eql_int,decide_eq_false hr,Option.bind_some,condE_false]) (nil g6 s56)
  cases hsd:o.sd with
  | true=>
   rw [hsd] at F1
   refine Ok.eq ?_ (by simp -implicitDefEqProofs only [gdW_tt,gV_true,Option.bind_some,faP_ptr,F2 g3 s3,gQ_true]<;>rfl)
   refine ok_cl (P:=fun r=>r.1 = .int .i64 c.count∧Same [] g3 r.2) ?_ ?_
   ·refine ok_cl (count_ok P3 C) ?_
    rintro _ g4 ⟨rfl,s4⟩
    exact ok_val rfl ⟨rfl,s4⟩
   rintro _ g4 ⟨rfl,s4⟩
   simp only at s4
   have s24:=s3.trans s4
   refine Ok.eq ?_ (by simp -implicitDefEqProofs only [gdW_tt,gV_true,Option.bind_some,faP_ptr,rdC_some (f:=fun g'=>ldS g' (.ptr (some (g.next,0+2)))) (h:=g4) (F2 g4 s24),clC_some,gQ_true]<;>rfl)
   refine ok_cl (P:=fun r=>r.1 = .int .i64 c.room∧Same [] g4 r.2) ?_ ?_
   ·refine ok_cl (room_ok (P2.keep s24) C) ?_
    rintro _ g5 ⟨rfl,s5⟩
    exact ok_val rfl ⟨rfl,s5⟩
   rintro _ g5 ⟨rfl,s5⟩
   simp only at s5
   have s25:=s24.trans s5
   have ck:∀ {x:Option (AV × Heap)},chk [g3,g4,g5] [(fun g'=>ldS g' (.ptr (some (g.next,0+2))),AV.int .i64 o.ad,0,1)] x=x:=fun {x}=>chk_two (f:=fun g'=>ldS g' (.ptr (some (g.next,0+2)))) (same_int _ _) (F2 g3 s3) (F2 g4 s24)
   by_cases hlt:c.count<c.room
   ·have e:wayO l gs st id o = [wyC o.pl 0 (-1)]:=by unfold wayO;rw [if_neg (by rw [hok];simp),hc];simp only;rw [if_pos (.inr (.inl ⟨hsd,hlt⟩))]
    rw [e]
    exact ok_val (g:=g5) (by simp -implicitDefEqProofs only [gdW_tt,gV_true,bin_lss,hlt,decide_true,Option.bind_some,ck,pickP_bool,if_true,condE_true]) (alone g5 s25)
   ·have hno : ¬ (c.closed≠0∨(o.sd=true∧c.count<c.room)∨(o.sd=false∧0<c.count)):=by
     rintro(h | ⟨_,h⟩ | ⟨h,_⟩)
     ·exact h hcl
     ·exact hlt h
     ·rw [hsd] at h;cases h
    refine(last g5 s25 hno).eq (by simp -implicitDefEqProofs only [gdW_tt,gV_true,bin_lss,hlt,decide_false,Option.bind_some,ck,pickP_bool,if_true,condE_false,faP_ptr,F1 g5 s25,un_not,Bool.not_true,gdW_ft,gQ_false,Bool.false_eq_true,if_false])
  | false=>
   rw [hsd] at F1
   refine Ok.eq ?_ (by simp -implicitDefEqProofs only [gdW_ft,gV_false,Option.bind_some,gQ_false,clC_some,pickP_bool,Bool.false_eq_true,if_false,chk_nil,condE_false,faP_ptr,F1 g3 s3,un_not,Bool.not_false,gdW_tt,gQ_true,F2 g3 s3,cl_some]<;>rfl)
   refine ok_cl (P:=fun r=>r.1 = .int .i64 c.count∧Same [] g3 r.2) ?_ ?_
   ·refine ok_cl (count_ok P3 C) ?_
    rintro _ g4 ⟨rfl,s4⟩
    exact ok_val rfl ⟨rfl,s4⟩
   rintro _ g4 ⟨rfl,s4⟩
   simp only at s4
   have s24:=s3.trans s4
   by_cases hgt:c.count > 0
   ·have e:wayO l gs st id o = [wyC o.pl 0 (-1)]:=by unfold wayO;rw [if_neg (by rw [hok];simp),hc];simp only;rw [if_pos (.inr (.inr ⟨hsd,hgt⟩))]
    rw [e]
    exact ok_val (g:=g4) (by simp -implicitDefEqProofs only [bin_gtr,hgt,decide_true,Option.bind_some,gdW_tt,gQ_true,cl_some,pickP_bool,if_true,condE_true]) (alone g4 s24)
   ·have hno : ¬ (c.closed≠0∨(o.sd=true∧c.count<c.room)∨(o.sd=false∧0<c.count)):=by
     rintro(h | ⟨h,_⟩ | ⟨_,h⟩)
     ·exact h hcl
     ·rw [hsd] at h;cases h
     ·exact hgt h
    refine(last g4 s24 hno).eq (by simp -implicitDefEqProofs only [bin_gtr,hgt,decide_false,Option.bind_some,gdW_tt,gQ_true,cl_some,pickP_bool,if_true,condE_false,faP_ptr])
end
set_option linter.all false
attribute [local congr] c_bind c_cl c_mk c_lp c_clC c_gQ c_gV c_condE c_thenK
def waysL (l:PAl)(gs:List Gk)(st:Int→Option Chan)(id:Int):List Of→List (List AV)
 | []=>[]
 | o::os=>wayO l gs st id o++waysL l gs st id os
theorem waysL_app (l:PAl)(gs:List Gk)(st:Int→Option Chan)(id:Int)(o:Of):∀ os,waysL l gs st id (os ++ [o])=waysL l gs st id os++wayO l gs st id o
 | []=>by simp [waysL]
 | p::os=>by rw [List.cons_append,waysL,waysL_app l gs st id o os,waysL,List.append_assoc]
theorem waysL_row {l:PAl}{gs:List Gk}{st:Int→Option Chan}{id:Int}:∀ {os:List Of},∀ r∈waysL l gs st id os,r.length=3
 | [],r,hr=>by simp [waysL] at hr
 | o::os,r,hr=>by
  rw [waysL,List.mem_append] at hr
  exact hr.elim (wayO_row r) (waysL_row r)
theorem wayO_len (l:PAl)(gs:List Gk)(st:Int→Option Chan)(id:Int)(o:Of):(wayO l gs st id o).length≤2*gs.length+1:=by
 unfold wayO
 have h:=prtI_len l id o gs 0
 repeat (split<;>try (simp;done))
 all_goals (try simp)
 all_goals (try omega)
theorem wayO_sc {l:PAl}{gs:List Gk}{st:Int→Option Chan}{id:Int}{o:Of}:(wayO l gs st id o).flatten.all scalar=true:=by
 rw [List.all_eq_true]
 intro x hx
 obtain⟨r,hr,hx⟩:=List.mem_flatten.1 hx
 have wy:∀ a b c,x∈wyC a b c→scalar x=true:=fun a b c h=>by
  simp only [wyC,List.mem_cons,List.not_mem_nil,or_false] at h
  rcases h with rfl | rfl | rfl<;>rfl
 have pr:∀ (gs:List Gk) (k:Nat),r∈prtI l id o k gs→scalar x=true:=by
  intro gs
  induction gs with
  | nil=>intro k h;simp [prtI] at h
  | cons y gs ih=>
   intro k h
   rw [prtI,List.mem_append] at h
   rcases h with h | h
   ·split at h
    ·cases h
    ·obtain⟨z,_,rfl⟩:=List.mem_map.1 h
     exact wy _ _ _ hx
   ·exact ih _ h
 unfold wayO at hr
 split at hr
 ·split at hr
  ·simp at hr;subst hr;exact wy _ _ _ hx
  ·cases hr
 ·split at hr
  ·cases hr
  ·split at hr
   ·simp at hr;subst hr;exact wy _ _ _ hx
   ·split at hr
    ·exact pr _ _ hr
    ·cases hr
def waysG (l:PAl)(gs:List Gk)(st:Int→Option Chan)(id:Int)(x:Gk):List (List AV):=
 if x.fn=0 then [wyC (-1) 0 (-1)]
 else if (waysL l gs st id (offL l x)).length=0∧stdK x≠-1 then [wyC (stdK x) 0 (-1)] else waysL l gs st id (offL l x)
section
variable {g:Heap}{tb mp:Nat}{sv cv fv:AV}{gs:List Gk}{ss:List Nat}{A:Nat→Nat}{l:PAl}{F:Int}
theorem waysT_ok (H:TbG g A l F tb mp sv cv fv gs ss)(hgs:gs.length≤64){st:Int→Option Chan}(hst:∀ x∈gs,∀ o∈offL l x,o.ok=true→∃ c,st o.ad=some c∧Chn l o.ad c){k:Nat}{x:Gk}(hx:gs[k]?=some x) :
  Ok (AB (.ptr (some (tb,0))) (.ptr (some (A 0,0))) (.int .i64 ((k+1:Nat):Int)) g) fun r=>Nw g r.2 3 r.1 (waysG l gs st ((k+1:Nat):Int) x):=by
 obtain⟨s,fb,sb,hs,f0,f6,St,lk⟩:=H.at_ hx
 refine Ok.eq ?_ (by simp -implicitDefEqProofs only [AB,nilV_ptr,faP_ptr,Option.bind_some,H.l6,lk,eql_ptr_nil,condE_false,H.la]<;>rfl)
 refine ok_cl (at_ok St H.T.M f0 f6) ?_
 rintro _ g1 ⟨rfl,s1⟩
 simp only at s1
 refine Ok.eq ?_ (by simp -implicitDefEqProofs only [extractV_tup,e0,e1,Option.bind_some]<;>rfl)
 refine ok_tmp (cs:=(insK x.fn).row) (n:=5) rfl rfl (Ins.sc _) fun g2 s2 n2 b2=>?_
 have s02:=s1.trans s2
 have f0':ldS g2 (.ptr (some (g1.next,0+0)))=some (.int .i64 (insK x.fn).op):=by rw [ldS_at b2];rfl
 have la5:ldA 5 g2 (.ptr (some (g1.next,0)))=some (.agg (insK x.fn).row):=ldA_all b2 rfl
 by_cases h0:x.fn=0
 ·have e:waysG l gs st ((k+1:Nat):Int) x = [wyC (-1) 0 (-1)]:=by unfold waysG;rw [if_pos h0]
  have ei:(insK x.fn).op=43:=by rw [h0];rfl
  rw [e]
  rw [ei] at f0'
  refine Ok.eq ?_ (by simp -implicitDefEqProofs only [un_not,Bool.not_true,Option.bind_some,condE_false,faP_ptr,f0',neq_int,show decide ((43:Int)=38)=false from rfl,show decide ((43:Int)=39)=false from rfl,show decide ((43:Int)=41)=false from rfl,Bool.not_false,gdW_tt,gQ_true,cl_some,pickP_bool,if_true,condE_true,show bldS [(0,1),(1,1),(2,1)] [(AV.int .i64 0),(AV.int .i64 0),(AV.int .i64 0)] [(0,(AV.int .i64 (-1))),(1,(AV.int .i64 0)),(2,(AV.int .i64 (-1)))]=some (.agg (wyC (-1) 0 (-1))) from rfl]<;>rfl)
  refine ok_lit1 rfl rfl rfl fun g3 s3 n3 b3=>?_
  refine Ok.of ⟨some g2.next,Vw.lit (by show g2.next<g3.next;omega) (by simpa using b3) (by simp [wyC]) rfl,s02.trans s3,fun j hj=>?_⟩
  cases hj;exact s02.next
 ·have hin:(insK x.fn).op=38∨(insK x.fn).op=39∨(insK x.fn).op=41:=by
   rcases (by omega:x.fn=1∨x.fn=2∨x.fn=3∨x.fn=4∨x.fn=5∨x.fn=6) with e | e | e | e | e | e<;>rw [e]<;>simp [insK]
  -- the rest
  have rest:Ok (cl (AC (.ptr (some (tb,0))) (.ptr (some (A 0,0))) (.ptr (some (s,0))) (.agg (insK x.fn).row) g2) fun t54 h16=>
    (extractV 0 t54).bind fun t55=>(extractV 1 t54).bind fun t56=>(lnL t55).bind fun t58=>
    lp (Cm (.ptr (some (tb,0))) (.ptr (some (A 0,0))) (.int .i64 ((k+1:Nat):Int)) t55 t58 (AV.sl none 0 (.ex 0)) (AV.int .i64 0) h16) fun e vs h23=>
    thenK (if e = .exit 0 then .normal else e) (
    (lnL (vs.getD 0 .bot)).bind fun t72=>
    (eqP (some (.int .i64)) none false .eql t72 (AV.int .i64 0)).bind fun t73=>
    gQ (gdW t73 true) h23 (some (t56,h23)) fun t75 h24=>
    gQ (gdW t73 true) h24 ((eqP (some (.int .i64)) none false .neq t75 (AV.int .i64 (-1))).bind fun t76=>
    some (t76,h24)) fun t76_25 h26=>
    (pickP t73 t76_25 (AV.bool false)).bind fun t77=>
    condE t77 (
    (bldS [(0,1),(1,1),(2,1)] [(AV.int .i64 0),(AV.int .i64 0),(AV.int .i64 0)] [(0,t56),(1,(AV.int .i64 0)),(2,(AV.int .i64 (-1)))]).bind fun t79=>
    mk Heap.new (bsP 3 [(AV.int .i64 0),(AV.int .i64 0),(AV.int .i64 0)] 1 [(0,t79)]) h26 fun t80 h29=>
    some (t80,h29)) (
    some ((vs.getD 0 .bot),h26))) (fun e_30=>endE e_30 (some ((AV.sl none 0 (.ex 0)),h23)))) fun r=>Nw g r.2 3 r.1 (waysG l gs st ((k+1:Nat):Int) x):=by
   refine ok_cl (offers_ok (St.keep s02) (H.T.keep s02) f0 f6) ?_
   rintro _ g3 ⟨v,rfl,ob,Vo,s3,hob⟩
   simp only at Vo s3
   have lno:=Vo.lnL
   rw [List.length_map] at lno
   have hol:=offL_len l x
   have ho:=hst x (List.mem_of_getElem? hx)
   obtain⟨os,hos⟩:∃ os,os=offL l x:=⟨_,rfl⟩
   have ewg:waysG l gs st ((k+1:Nat):Int) x=if (waysL l gs st ((k+1:Nat):Int) os).length=0∧stdK x≠-1 then [wyC (stdK x) 0 (-1)] else waysL l gs st ((k+1:Nat):Int) os:=by unfold waysG;rw [if_neg h0,hos]
   rw [ewg]
   rw [← hos] at Vo lno hol ho
   clear ewg
   refine Ok.eq ?_ (by simp -implicitDefEqProofs only [extractV_tup,e0,e1,Option.bind_some,lno]<;>rfl)
   have s03:=s02.trans s3
   refine ok_lp (P:=fun r=>r.1 = .exit 0∧∃ b',Ow g3 r.2.2 b' 3 (r.2.1.getD 0 .bot) (waysL l gs st ((k+1:Nat):Int) os)) ?_ ?_
   ·refine ok_loop (fun m vs g4=>∃ (i:Nat) (q:AV) (b:Option Nat),vs = [q,.int .i64 (i:Int)]∧m+i=os.length∧Ow g3 g4 b 3 q (waysL l gs st ((k+1:Nat):Int) (os.take i))∧(waysL l gs st ((k+1:Nat):Int) (os.take i)).length≤i*(2*gs.length+1)) ?_ (n:=os.length) (by omega) ⟨0,_,none,rfl,by omega,Ow.mt (Same.refl _ _),by simp [waysL]⟩
    rintro m vs g4 ⟨i,q,b,rfl,hm,O,hle⟩
    rw [gd0,gd1]
    by_cases hi:i<os.length
    ·have hlt:(i:Int)<os.length:=by omega
     obtain⟨o,hoo⟩:∃ o,os[i]?=some o:=⟨_,List.getElem?_eq_getElem hi⟩
     have et:os.take (i+1)=os.take i ++ [o]:=by rw [List.take_succ,hoo];rfl
     obtain⟨pp,oo,_,_,ix,la,_⟩:=(Vo.keep O.same).at (i:=i) (r:=o.row) (by rw [List.getElem?_map,hoo];rfl)
     refine Ok.eq ?_ (by simp -implicitDefEqProofs only [B7,bin_lss,hlt,decide_true,Option.bind_some,condE_true,ix,la g4 rfl]<;>rfl)
     refine ok_tmp (cs:=o.row) (n:=4) rfl rfl rfl fun g5 s5 n5 b5=>?_
     have la4:ldA 4 g5 (.ptr (some (g4.next,0)))=some (.agg o.row):=ldA_all b5 rfl
     have O5:=O.keep s5
     refine Ok.eq ?_ (by simp -implicitDefEqProofs only [la4,Option.bind_some]<;>rfl)
     refine ok_cl (ways_ok (H.keep (s03.trans O5.same)) ((k+1:Nat):Int) o hgs (fun h=>ho o (List.mem_of_getElem? hoo) h)) ?_
     rintro w g6 ⟨bw,Vw',s6,hbw⟩
     simp only at Vw' s6
     have hwl:=wayO_len l gs st ((k+1:Nat):Int) o
     have hi2:i*(2*gs.length+1)≤2 * 129:=Nat.mul_le_mul (by omega) (by omega)
     refine(O5.keep s6).more (bytes:=24) Vw' wayO_sc (by omega) (by omega) fun v' g7 b7 O7 s7 _=>?_
     refine(Ok.of (r:=(Ex.normal,[v',.int .i64 ((i+1:Nat):Int)],g7)) (.inl ⟨rfl,m - 1,by omega,i+1,v',b7,rfl,by omega,by rw [et,waysL_app];exact O7,?_⟩)).eq (by
      simp -implicitDefEqProofs only [bin_add,Option.bind_some,suc64 i (by omega)])
     rw [et,waysL_app,List.length_append,Nat.succ_mul];omega
    ·have hlt : ¬ (i:Int)<os.length:=by omega
     have e:os.take i=os:=List.take_of_length_le (by omega)
     rw [e] at O
     exact(Ok.of (r:=(Ex.exit 0,[q,.int .i64 (i:Int)],g4)) (.inr ⟨by simp,rfl,b,O⟩)).eq (by
      simp -implicitDefEqProofs only [B7,bin_lss,hlt,decide_false,Option.bind_some,condE_false])
   ·rintro _ vs g4 ⟨rfl,b4,O⟩
    simp only at O
    obtain⟨b5,V5,s5,h5⟩:=O.nw waysL_row
    have ln:=V5.lnL
    have s05:=s03.trans s5
    refine Ok.eq ?_ (by rw [if_pos rfl,thenK_normal])
    generalize hW:waysL l gs st ((k+1:Nat):Int) os=W at *
    by_cases hz:W.length=0
    ·have hz':((W.length:Nat):Int)=0:=by omega
     by_cases hs1:stdK x = -1
     ·rw [if_neg (fun h=>h.2 hs1)]
      exact ok_val (v:=vs.getD 0 .bot) (g:=g4) (by simp -implicitDefEqProofs only [ln,Option.bind_some,eql_int,decide_eq_true hz',gdW_tt,gQ_true,cl_some,neq_int,decide_eq_true hs1,Bool.not_true,pickP_bool,if_true,condE_false]) ⟨b5,V5,s05,fun j hj=>by have:=h5 j hj;have:=s03.next;omega⟩
     ·rw [if_pos ⟨hz,hs1⟩]
      refine Ok.eq ?_ (by simp -implicitDefEqProofs only [ln,Option.bind_some,eql_int,decide_eq_true hz',gdW_tt,gQ_true,cl_some,neq_int,decide_eq_false hs1,Bool.not_false,pickP_bool,if_true,condE_true,show bldS [(0,1),(1,1),(2,1)] [(AV.int .i64 0),(AV.int .i64 0),(AV.int .i64 0)] [(0,.int .i64 (stdK x)),(1,(AV.int .i64 0)),(2,(AV.int .i64 (-1)))]=some (.agg (wyC (stdK x) 0 (-1))) from rfl]<;>rfl)
      refine ok_lit1 rfl rfl rfl fun g6 s6 n6 b6=>?_
      refine Ok.of ⟨some g4.next,Vw.lit (by show g4.next<g6.next;omega) (by simpa using b6) (by simp [wyC]) rfl,s05.trans s6,fun j hj=>?_⟩
      cases hj;exact s05.next
    ·have hz' : ¬ ((W.length:Nat):Int)=0:=by omega
     rw [if_neg (fun h=>hz h.1)]
     exact ok_val (v:=vs.getD 0 .bot) (g:=g4) (by simp -implicitDefEqProofs only [ln,Option.bind_some,eql_int,decide_eq_false hz',gdW_ft,gQ_false,pickP_bool,Bool.false_eq_true,if_false,condE_false]) ⟨b5,V5,s05,fun j hj=>by have:=h5 j hj;have:=s03.next;omega⟩
  rcases hin with e | e | e
  ·rw [e] at f0'
   refine rest.eq (by simp -implicitDefEqProofs only [un_not,Bool.not_true,Option.bind_some,condE_false,faP_ptr,f0',neq_int,decide_true,Bool.not_true,gdW_ft,gQ_false,pickP_bool,Bool.false_eq_true,if_false,la5]<;>rfl)
  ·rw [e] at f0'
   refine rest.eq (by simp -implicitDefEqProofs only [un_not,Bool.not_true,Bool.not_false,Option.bind_some,condE_false,faP_ptr,f0',neq_int,show decide ((39:Int)=38)=false from rfl,decide_true,gdW_tt,gdW_ft,gQ_true,gQ_false,cl_some,pickP_bool,Bool.false_eq_true,if_false,if_true,la5]<;>rfl)
  ·rw [e] at f0'
   refine rest.eq (by simp -implicitDefEqProofs only [un_not,Bool.not_true,Bool.not_false,Option.bind_some,condE_false,faP_ptr,f0',neq_int,show decide ((41:Int)=38)=false from rfl,show decide ((41:Int)=39)=false from rfl,decide_true,gdW_tt,gQ_true,cl_some,pickP_bool,if_true,la5]<;>rfl)
theorem ways_nobody (H:TbG g A l F tb mp sv cv fv gs ss){id:Int}(h:id≤0∨(gs.length:Int)<id):AB (.ptr (some (tb,0))) (.ptr (some (A 0,0))) (.int .i64 id) g=some (.sl none 0 (.ex 0),g):=by
 have lk:=H.lk id
 have e:(if 0<id then(ss[(id - 1).toNat]?).map fun s=>AV.ptr (some (s,0)) else none)=none:=by
  split
  ·rw [List.getElem?_eq_none (by rw [H.len];omega)];rfl
  ·rfl
 rw [e] at lk
 simp -implicitDefEqProofs only [AB,nilV_ptr,faP_ptr,Option.bind_some,H.l6,lk,Option.getD_none,show eqP (some (.pointer 0)) none false .eql (.ptr none) (AV.ptr none)=some (.bool true) from rfl,condE_true]
end
set_option linter.all false
attribute [local congr] c_bind c_cl c_mk c_lp c_clC c_gQ c_gV c_condE c_thenK
theorem hpNs (h:Heap)(n:Nat):Same [] h (hpN h n):=⟨Nat.le_add_right _ _,fun j _ _=>rfl⟩
def insM:List Ins:=[⟨43,0,0,0,0⟩,⟨38,0,2,0,0⟩,⟨39,2,0,-1,0⟩,⟨39,-1,1,-1,0⟩,⟨41,0,2,0,0⟩,⟨41,2,3,0,0⟩,⟨39,1,0,-1,0⟩]
theorem insM_at {i:Nat}(h:i < 7):insM[i]?=some (insK (i:Int)):=by
 rcases (by omega:i=0∨i=1∨i=2∨i=3∨i=4∨i=5∨i=6) with e | e | e | e | e | e | e<;>subst e<;>rfl
def mdv (t5 t11:AV):List AV:=[t5,.sl none 0 (.ex 0),.sl none 0 (.ex 0),t11,.sl none 0 (.ex 0),.int .i64 0]
theorem module_loop {g0:Heap}{p ib:Nat}{t5 t11:AV}(hp:g0.get p=some (.cells true (mdv t5 t11)))(hpl:p<g0.next)(hib:g0.get ib=some (.cells true (insM.map Ins.row).flatten))(hil:ib<g0.next)(hne:ib≠p) :
  Ok (DU (.ptr (some (p,0))) (.sl (some (ib,0)) 7 (.ex 7)) (.int .i64 0) g0) fun r=>r.1 = .exit 0∧∃ v b rows,RowsIn g0 r.2.2 p 4 7 (mdv t5 t11) rows v b∧rows.length=7∧∀ (k:Nat) r',rows[k]?=some r'→∃ kb db mb,F16 r.2.2 k r' kb db mb∧g0.next≤kb∧g0.next≤db∧b≠some kb∧b≠some db:=by
 refine ok_loop (fun m vs g=>∃ (i:Nat),vs = [.int .i64 (i:Int)]∧m+i=7∧∃ v b rows,RowsIn g0 g p 4 7 (mdv t5 t11) rows v b∧rows.length=i∧∀ (k:Nat) r',rows[k]?=some r'→∃ kb db mb,F16 g k r' kb db mb∧g0.next≤kb∧g0.next≤db∧b≠some kb∧b≠some db) ?_ (n:=7) (by omega) ⟨0,rfl,rfl,_,_,[],RowsIn.mt hpl hp rfl,rfl,by simp⟩
 rintro m vs g ⟨i,rfl,hm,v,b,rows,H,hri,HK⟩
 rw [gd0]
 by_cases hi:i < 7
 ·have hlt:(i:Int)<((7:Nat):Int):=by omega
  have s1:=hpNs g 4
  have hib1:(hpN g 4).get ib=some (.cells true (insM.map Ins.row).flatten):=(H.same.get ib hil (by simp [hne])).trans hib
  have ix:iaS 5 (.sl (some (ib,0)) 7 (.ex 7)) (.int .i64 (i:Int))=some (.ptr (some (ib,i * 5))):=by rw [iaS_sl 5 _ _ _ _ _ ⟨by omega,by omega⟩];simp
  have la:ldA 5 (hpN g 4) (.ptr (some (ib,i * 5)))=some (.agg (insK (i:Int)).row):=by
   have hr:(insM.map Ins.row)[i]?=some (insK (i:Int)).row:=by rw [List.getElem?_map,insM_at hi];rfl
   have hf:=flat_at (sz:=5) (l:=insM.map Ins.row) (by intro r hr;obtain⟨z,_,rfl⟩:=List.mem_map.1 hr;rfl) hr
   rw [ldA_at hib1,hf];rfl
  have lv:=H.ld s1
  have eI:bldS [(0,1),(1,1),(2,1),(3,1),(4,1)] [(AV.int .i64 0),(AV.int .i64 0),(AV.int .i64 0),(AV.int .i64 0),(AV.int .i64 0)] [(0,(AV.int .i64 22)),(1,(AV.int .i64 (-1)))]=some (.agg insR.row):=rfl
  have eK:bsP 1 [(AV.bool false)] 3 [(0,(AV.bool true)),(1,(AV.bool true)),(2,(AV.bool false))]=some (.cells true [.bool true,.bool true,.bool false],fun i=>.sl (some (i,0)) 3 (.ex 3)):=rfl
  have eD:bsP 5 [(AV.int .i64 0),(AV.int .i64 0),(AV.int .i64 0),(AV.int .i64 0),(AV.int .i64 0)] 2 [(0,.agg (insK (i:Int)).row),(1,.agg insR.row)]=some (.cells true ((insK (i:Int)).row++insR.row),fun i=>.sl (some (i,0)) 2 (.ex 2)):=rfl
  have eM:bsP 1 [(AV.int .u64 0)] 2 [(0,(AV.int .u64 3)),(1,(AV.int .u64 0))]=some (.cells true [.int .u64 3,.int .u64 0],fun i=>.sl (some (i,0)) 2 (.ex 2)):=rfl
  have eF:bldS [(0,1),(1,1),(2,1),(3,1),(4,1),(5,1),(6,1)] [(AV.int .i64 0),(AV.int .i64 0),(AV.int .i64 0),(AV.int .i64 0),(AV.sl none 0 (.ex 0)),(AV.sl none 0 (.ex 0)),(AV.sl none 0 (.ex 0))] [(0,(AV.int .i64 3)),(2,(AV.int .i64 3)),(4,.sl (some (g.next+0,0)) 3 (.ex 3)),(5,.sl (some (g.next+1,0)) 2 (.ex 2)),(6,.sl (some (g.next+2,0)) 2 (.ex 2))]=some (.agg [.int .i64 3,.int .i64 0,.int .i64 3,.int .i64 0,.sl (some (g.next+0,0)) 3 (.ex 3),.sl (some (g.next+1,0)) 2 (.ex 2),.sl (some (g.next+2,0)) 2 (.ex 2)]):=rfl
  obtain⟨row,hrow⟩:∃ row,row = [AV.int .i64 3,.int .i64 0,.int .i64 3,.int .i64 0,.sl (some (g.next+0,0)) 3 (.ex 3),.sl (some (g.next+1,0)) 2 (.ex 2),.sl (some (g.next+2,0)) 2 (.ex 2)]:=⟨_,rfl⟩
  have eB:bsP 7 [(AV.int .i64 0),(AV.int .i64 0),(AV.int .i64 0),(AV.int .i64 0),(AV.sl none 0 (.ex 0)),(AV.sl none 0 (.ex 0)),(AV.sl none 0 (.ex 0))] 1 [(0,.agg row)]=some (.cells true row,fun i=>.sl (some (i,0)) 1 (.ex 1)):=bsP_one rfl (by rw [hrow];rfl) (by rw [hrow];rfl)
  rw [← hrow] at eF
  -- the four blocks
  obtain⟨g7,hg7⟩:∃ g7,g7=(hpN g 4).put (g.next+0) (some (.cells true [.bool true,.bool true,.bool false])):=⟨_,rfl⟩
  obtain⟨g8,hg8⟩:∃ g8,g8=g7.put (g.next+1) (some (.cells true ((insK (i:Int)).row++insR.row))):=⟨_,rfl⟩
  obtain⟨g9,hg9⟩:∃ g9,g9=g8.put (g.next+2) (some (.cells true [.int .u64 3,.int .u64 0])):=⟨_,rfl⟩
  obtain⟨g10,hg10⟩:∃ g10,g10=g9.put (g.next+3) (some (.cells true row)):=⟨_,rfl⟩
  have n10:g10.next=g.next+4:=by rw [hg10,hg9,hg8,hg7];rfl
  have s10:Same [] g g10:=by
   refine⟨by omega,fun j hj _=>?_⟩
   rw [hg10,get_put_ne (by omega),hg9,get_put_ne (by omega),hg8,get_put_ne (by omega),hg7,get_put_ne (by omega)];rfl
  have k10:g10.get (g.next+0)=some (.cells true [.bool true,.bool true,.bool false]):=by
   rw [hg10,get_put_ne (by omega),hg9,get_put_ne (by omega),hg8,get_put_ne (by omega),hg7,get_put_eq]
  have d10:g10.get (g.next+1)=some (.cells true ((insK (i:Int)).row++insR.row)):=by
   rw [hg10,get_put_ne (by omega),hg9,get_put_ne (by omega),hg8,get_put_eq]
  have r10:g10.get (g.next+3)=some (.cells true row):=by rw [hg10,get_put_eq]
  obtain⟨v',g3,g4,e3,e4,H4,n4,o4⟩:=H.step (bytes:=104) s10 r10 (by omega) (by rw [hrow];rfl) (by rw [hrow];rfl) (by omega) (by omega)
  have lv7:=lv
  have hbl:∀ j,b=some j→j<g.next:=fun j hj=>(H.sl.blk j hj).1
  have hpg:p<g.next:=Nat.lt_of_lt_of_le H.plt H.same.next
  have g0g:=H.same.next
  refine(Ok.of (r:=(Ex.normal,[.int .i64 ((i+1:Nat):Int)],g4)) (.inl ⟨rfl,m - 1,by omega,i+1,rfl,by omega,v',some g10.next,rows ++ [row],H4,by simp [hri],fun k r' hr'=>?_⟩)).eq (by
   simp -implicitDefEqProofs only [Cf,lnL_sl,Option.bind_some,bin_lss,hlt,decide_true,condE_true,faP_ptr,lv,ix,la,eI,eK,eD,eM,eF,eB,mkAt_some,cl_some,← hg7,← hg8,← hg9,← hg10,e3,e4,chk_nil,bin_add,suc64 i (by omega)])
  by_cases hk:k<i
  ·rw [List.getElem?_append_left (by omega)] at hr'
   obtain⟨kb,db,mb,f,h1,h2,h3,h4⟩:=HK k r' hr'
   refine⟨kb,db,mb,⟨f.row,?_,?_,?_,?_⟩,h1,h2,?_,?_⟩
   ·rw [o4 kb (by have:=f.kl;omega) (by omega) h3,s10.get kb f.kl (by simp)];exact f.kk
   ·rw [o4 db (by have:=f.dl;omega) (by omega) h4,s10.get db f.dl (by simp)];exact f.dd
   ·show kb<g4.next;have:=f.kl;omega
   ·show db<g4.next;have:=f.dl;omega
   ·intro e;cases e;have:=f.kl;omega
   ·intro e;cases e;have:=f.dl;omega
  ·have hk2:k=i:=by
    have:=(List.getElem?_eq_some_iff.1 hr').1
    simp at this;omega
   subst hk2
   rw [List.getElem?_append_right (by omega),hri,Nat.sub_self] at hr'
   simp at hr'
   subst hr'
   refine⟨g.next+0,g.next+1,g.next+2,⟨⟨_,_,_,hrow⟩,?_,?_,(by show g.next+0<g4.next;omega),(by show g.next+1<g4.next;omega)⟩,by omega,by omega,fun e=>?_,fun e=>?_⟩
   ·rw [o4 _ (by omega) (by omega) (fun e=>by have:=hbl _ e;omega)];exact k10
   ·rw [o4 _ (by omega) (by omega) (fun e=>by have:=hbl _ e;omega)];exact d10
   ·have:=Option.some.inj e;omega
   ·have:=Option.some.inj e;omega
 ·have hlt : ¬ (i:Int)<((7:Nat):Int):=by omega
  obtain rfl:i=7:=by omega
  exact(Ok.of (r:=(Ex.exit 0,[.int .i64 ((7:Nat):Int)],g)) (.inr ⟨by simp,rfl,v,b,rows,H,hri,HK⟩)).eq (by
   simp -implicitDefEqProofs only [Cf,lnL_sl,Option.bind_some,bin_lss,hlt,decide_false,condE_false])
theorem module_ok (h:Heap):Ok (Ap h) fun r=>∃ sv cv fv,r.1 = .agg (mdC sv cv fv)∧M16 r.2 sv cv fv∧Same [] h r.2:=by
 refine Ok.eq ?_ (by unfold Ap;rfl)
 have z6:List AV:=[(AV.sl none 0 (.ex 0)),(AV.sl none 0 (.ex 0)),(AV.sl none 0 (.ex 0)),(AV.sl none 0 (.ex 0)),(AV.sl none 0 (.ex 0)),(AV.int .i64 0)]
 rw [mk_some]
 obtain⟨g1,hg1⟩:∃ g1,g1=h.new (.cells true [(AV.sl none 0 (.ex 0)),(AV.sl none 0 (.ex 0)),(AV.sl none 0 (.ex 0)),(AV.sl none 0 (.ex 0)),(AV.sl none 0 (.ex 0)),(AV.int .i64 0)]):=⟨_,rfl⟩
 have s1:Same [] h g1:=by rw [hg1];exact Same.new _ _
 have n1:g1.next=h.next+1:=by rw [hg1];rfl
 have b1:g1.get h.next=some (.cells true [(AV.sl none 0 (.ex 0)),(AV.sl none 0 (.ex 0)),(AV.sl none 0 (.ex 0)),(AV.sl none 0 (.ex 0)),(AV.sl none 0 (.ex 0)),(AV.int .i64 0)]):=by rw [hg1];exact get_new_eq
 rw [← hg1]
 refine Ok.eq ?_ (by simp -implicitDefEqProofs only [show bldS [(0,1),(1,1),(2,1)] [(AV.int .i64 0),(AV.int .i64 0),(AV.int .u64 0)] [(0,(AV.int .i64 3))]=some (.agg [.int .i64 3,.int .i64 0,.int .u64 0]) from rfl,Option.bind_some]<;>rfl)
 refine ok_lit1 rfl rfl rfl fun g2 s2 n2 b2=>?_
 have eC:bsP 4 [(AV.int .i64 0),(AV.int .i64 0),(AV.int .i64 0),(AV.int .i64 0)] 5 [(0,.agg (Cas.row ⟨0,0,2,1⟩)),(1,.agg (Cas.row ⟨1,1,2,1⟩)),(2,.agg (Cas.row ⟨0,0,2,1⟩)),(3,.agg (Cas.row ⟨1,1,2,1⟩)),(4,.agg (Cas.row ⟨2,0,0,1⟩))]=some (.cells true (cas16.map Cas.row).flatten,fun i=>.sl (some (i,0)) 5 (.ex 5)):=rfl
 have c0:bldS [(0,1),(1,1),(2,1),(3,1)] [(AV.int .i64 0),(AV.int .i64 0),(AV.int .i64 0),(AV.int .i64 0)] [(0,(AV.int .i64 0)),(1,(AV.int .i64 0)),(2,(AV.int .i64 2)),(3,(AV.int .i64 1))]=some (.agg (Cas.row ⟨0,0,2,1⟩)):=rfl
 have c1:bldS [(0,1),(1,1),(2,1),(3,1)] [(AV.int .i64 0),(AV.int .i64 0),(AV.int .i64 0),(AV.int .i64 0)] [(0,(AV.int .i64 1)),(1,(AV.int .i64 1)),(2,(AV.int .i64 2)),(3,(AV.int .i64 1))]=some (.agg (Cas.row ⟨1,1,2,1⟩)):=rfl
 have c2:bldS [(0,1),(1,1),(2,1),(3,1)] [(AV.int .i64 0),(AV.int .i64 0),(AV.int .i64 0),(AV.int .i64 0)] [(0,(AV.int .i64 2)),(3,(AV.int .i64 1))]=some (.agg (Cas.row ⟨2,0,0,1⟩)):=rfl
 refine Ok.eq ?_ (by simp -implicitDefEqProofs only [c0,c1,c2,Option.bind_some,eC,mk_some]<;>rfl)
 obtain⟨g3,hg3⟩:∃ g3,g3=g2.new (.cells true (cas16.map Cas.row).flatten):=⟨_,rfl⟩
 have s3:Same [] g2 g3:=by rw [hg3];exact Same.new _ _
 have n3:g3.next=g2.next+1:=by rw [hg3];rfl
 have b3:g3.get g2.next=some (.cells true (cas16.map Cas.row).flatten):=by rw [hg3];exact get_new_eq
 rw [← hg3]
 have eT:bldS [(0,1),(1,1),(2,1),(3,1),(4,1),(5,1)] [(AV.sl none 0 (.ex 0)),(AV.sl none 0 (.ex 0)),(AV.sl none 0 (.ex 0)),(AV.sl none 0 (.ex 0)),(AV.sl none 0 (.ex 0)),(AV.int .i64 0)] [(0,.sl (some (g1.next,0)) 1 (.ex 1)),(3,.sl (some (g2.next,0)) 5 (.ex 5))]=some (.agg (mdv (.sl (some (g1.next,0)) 1 (.ex 1)) (.sl (some (g2.next,0)) 5 (.ex 5)))):=rfl
 refine Ok.eq ?_ (by simp -implicitDefEqProofs only [eT,Option.bind_some]<;>rfl)
 refine ok_tmp2 (cs:=mdv (.sl (some (g1.next,0)) 1 (.ex 1)) (.sl (some (g2.next,0)) 5 (.ex 5))) (n:=6) rfl rfl rfl fun _ g4 s4 n4 b4=>?_
 have i0:bldS [(0,1),(1,1),(2,1),(3,1),(4,1)] [(AV.int .i64 0),(AV.int .i64 0),(AV.int .i64 0),(AV.int .i64 0),(AV.int .i64 0)] [(0,(AV.int .i64 43))]=some (.agg (Ins.row ⟨43,0,0,0,0⟩)):=rfl
 have i1:bldS [(0,1),(1,1),(2,1),(3,1),(4,1)] [(AV.int .i64 0),(AV.int .i64 0),(AV.int .i64 0),(AV.int .i64 0),(AV.int .i64 0)] [(0,(AV.int .i64 38)),(1,(AV.int .i64 0)),(2,(AV.int .i64 2))]=some (.agg (Ins.row ⟨38,0,2,0,0⟩)):=rfl
 have i2:bldS [(0,1),(1,1),(2,1),(3,1),(4,1)] [(AV.int .i64 0),(AV.int .i64 0),(AV.int .i64 0),(AV.int .i64 0),(AV.int .i64 0)] [(0,(AV.int .i64 39)),(1,(AV.int .i64 2)),(2,(AV.int .i64 0)),(3,(AV.int .i64 (-1)))]=some (.agg (Ins.row ⟨39,2,0,-1,0⟩)):=rfl
 have i3:bldS [(0,1),(1,1),(2,1),(3,1),(4,1)] [(AV.int .i64 0),(AV.int .i64 0),(AV.int .i64 0),(AV.int .i64 0),(AV.int .i64 0)] [(0,(AV.int .i64 39)),(1,(AV.int .i64 (-1))),(2,(AV.int .i64 1)),(3,(AV.int .i64 (-1)))]=some (.agg (Ins.row ⟨39,-1,1,-1,0⟩)):=rfl
 have i4:bldS [(0,1),(1,1),(2,1),(3,1),(4,1)] [(AV.int .i64 0),(AV.int .i64 0),(AV.int .i64 0),(AV.int .i64 0),(AV.int .i64 0)] [(0,(AV.int .i64 41)),(1,(AV.int .i64 0)),(2,(AV.int .i64 2))]=some (.agg (Ins.row ⟨41,0,2,0,0⟩)):=rfl
 have i5:bldS [(0,1),(1,1),(2,1),(3,1),(4,1)] [(AV.int .i64 0),(AV.int .i64 0),(AV.int .i64 0),(AV.int .i64 0),(AV.int .i64 0)] [(0,(AV.int .i64 41)),(1,(AV.int .i64 2)),(2,(AV.int .i64 3))]=some (.agg (Ins.row ⟨41,2,3,0,0⟩)):=rfl
 have i6:bldS [(0,1),(1,1),(2,1),(3,1),(4,1)] [(AV.int .i64 0),(AV.int .i64 0),(AV.int .i64 0),(AV.int .i64 0),(AV.int .i64 0)] [(0,(AV.int .i64 39)),(1,(AV.int .i64 1)),(2,(AV.int .i64 0)),(3,(AV.int .i64 (-1)))]=some (.agg (Ins.row ⟨39,1,0,-1,0⟩)):=rfl
 have eN:bsP 5 [(AV.int .i64 0),(AV.int .i64 0),(AV.int .i64 0),(AV.int .i64 0),(AV.int .i64 0)] 7 [(0,.agg (Ins.row ⟨43,0,0,0,0⟩)),(1,.agg (Ins.row ⟨38,0,2,0,0⟩)),(2,.agg (Ins.row ⟨39,2,0,-1,0⟩)),(3,.agg (Ins.row ⟨39,-1,1,-1,0⟩)),(4,.agg (Ins.row ⟨41,0,2,0,0⟩)),(5,.agg (Ins.row ⟨41,2,3,0,0⟩)),(6,.agg (Ins.row ⟨39,1,0,-1,0⟩))]=some (.cells true (insM.map Ins.row).flatten,fun i=>.sl (some (i,0)) 7 (.ex 7)):=rfl
 refine Ok.eq ?_ (by simp -implicitDefEqProofs only [i0,i1,i2,i3,i4,i5,i6,Option.bind_some,eN,mk_some]<;>rfl)
 obtain⟨g5,hg5⟩:∃ g5,g5=g4.new (.cells true (insM.map Ins.row).flatten):=⟨_,rfl⟩
 have s5:Same [] g4 g5:=by rw [hg5];exact Same.new _ _
 have n5:g5.next=g4.next+1:=by rw [hg5];rfl
 have b5:g5.get g4.next=some (.cells true (insM.map Ins.row).flatten):=by rw [hg5];exact get_new_eq
 rw [← hg5]
 have b45:=(s5.get g3.next (by omega) (by simp)).trans b4
 refine ok_lp (module_loop b45 (by omega) b5 (by omega) (by omega)) ?_
 rintro _ vs g6 ⟨rfl,v,b,rows,H,hr7,HK⟩
 simp only at H HK
 have hs56:=H.same
 have n6:=H.same.next
 have p6:=H.at_
 have hmd:(mdv (.sl (some (g1.next,0)) 1 (.ex 1)) (.sl (some (g2.next,0)) 5 (.ex 5))).set 4 v=mdC (.sl (some (g1.next,0)) 1 (.ex 1)) (.sl (some (g2.next,0)) 5 (.ex 5)) v:=rfl
 rw [hmd] at p6
 have hscv:scalar v=true:=H.sl.scv
 have b16:g6.get h.next=some (.cells true [(AV.sl none 0 (.ex 0)),(AV.sl none 0 (.ex 0)),(AV.sl none 0 (.ex 0)),(AV.sl none 0 (.ex 0)),(AV.sl none 0 (.ex 0)),(AV.int .i64 0)]):=by
  rw [hs56.get h.next (by omega) (by simp;omega),s5.get h.next (by omega) (by simp),s4.get h.next (by omega) (by simp),s3.get h.next (by omega) (by simp),s2.get h.next (by omega) (by simp)];exact b1
 have b26:g6.get g1.next=some (.cells true [.int .i64 3,.int .i64 0,.int .u64 0]):=by
  rw [hs56.get g1.next (by omega) (by simp;omega),s5.get g1.next (by omega) (by simp),s4.get g1.next (by omega) (by simp),s3.get g1.next (by omega) (by simp)];exact b2
 have b36:g6.get g2.next=some (.cells true (cas16.map Cas.row).flatten):=by
  rw [hs56.get g2.next (by omega) (by simp;omega),s5.get g2.next (by omega) (by simp),s4.get g2.next (by omega) (by simp)];exact b3
 have st:=stP_all (n:=6) b16 rfl (cs:=mdC (.sl (some (g1.next,0)) 1 (.ex 1)) (.sl (some (g2.next,0)) 5 (.ex 5)) v) rfl (by simp only [mdC,List.all_cons,List.all_nil,hscv,Bool.and_true];rfl)
 have s67:Same [h.next] g6 (g6.put h.next (some (.cells true (mdC (.sl (some (g1.next,0)) 1 (.ex 1)) (.sl (some (g2.next,0)) 5 (.ex 5)) v)))):=Same.put _ _ _
 have s04:Same [] h g5:=(((s1.trans s2).trans s3).trans s4).trans s5
 have s06:Same [] h g6:=s04.old hs56 fun j hj=>by simp at hj;right;omega
 refine ok_val (v:=.agg (mdC (.sl (some (g1.next,0)) 1 (.ex 1)) (.sl (some (g2.next,0)) 5 (.ex 5)) v)) (g:=g6.put h.next (some (.cells true (mdC (.sl (some (g1.next,0)) 1 (.ex 1)) (.sl (some (g2.next,0)) 5 (.ex 5)) v)))) (by
  simp -implicitDefEqProofs only [if_true,thenK_normal,ldA_all p6 (n:=6) rfl,Option.bind_some,st,cl_some,ldA_all (get_put_eq (h:=g6) (i:=h.next) (b:=some (.cells true (mdC (.sl (some (g1.next,0)) 1 (.ex 1)) (.sl (some (g2.next,0)) 5 (.ex 5)) v)))) (n:=6) rfl]) ⟨_,_,_,rfl,⟨⟨g2.next,rfl,?_,?_⟩,?_,⟨g1.next,rfl,?_,?_⟩⟩,s06.old s67 fun j hj=>by simp at hj;right;omega⟩
 ·rw [get_put_ne (by omega)];exact b36
 ·show g2.next<g6.next;omega
 ·have hb7:b≠none:=fun e=>by have:=H.sl.nil e;omega
  obtain⟨bb,hbb⟩:=Option.ne_none_iff_exists'.1 hb7
  subst hbb
  have hbn:=H.new bb rfl
  refine⟨bb,rows,(H.sl.vw H.len).same s67 (fun j hj=>by cases hj;simp;omega),hr7,fun k r hr=>?_⟩
  obtain⟨kb,db,mb,f,h1,h2,h3,h4⟩:=HK k r hr
  exact⟨kb,db,mb,⟨f.row,by rw [get_put_ne (by omega)];exact f.kk,by rw [get_put_ne (by omega)];exact f.dd,f.kl,f.dl⟩⟩
 ·rw [get_put_ne (by omega)];exact b26
 ·show g1.next<g6.next;omega
set_option linter.all false
attribute [local congr] c_bind c_cl c_mk c_lp c_clC c_gQ c_gV c_condE c_thenK
structure TbB (g:Heap)(tb mp:Nat)(sv cv fv:AV)(gs:List Gk)(ss:List Nat):Prop where
 B:g.get tb=some (.cells true (mdC sv cv fv ++ [.mp (some mp),.int .i64 gs.length]))
 lt:tb<g.next
 M:∀ g',Same [tb,mp] g g'→M16 g' sv cv fv
 mpb:g.get mp=some (.mp (entK 0 ss))
 ml:mp<g.next
 ne:tb≠mp
 len:ss.length=gs.length
 st:∀ (k:Nat) x s,gs[k]?=some x→ss[k]?=some s→0≤x.fn∧x.fn < 7∧∃ fb sb,∀ g',Same [tb,mp] g g'→StR g' s x fb sb
 few:gs.length≤100
theorem StR.same {g g':Heap}{s fb sb:Nat}{x:Gk}{S:List Nat}(H:StR g s x fb sb)(e:Same S g g')(h1:s∉S)(h2:fb∉S)(h3:sb∉S):StR g' s x fb sb:=
 ⟨by obtain⟨c,h⟩:=H.st;exact⟨c,by rw [e.get _ H.l1 h1];exact h⟩,by obtain⟨c,h⟩:=H.fr;exact⟨c,by rw [e.get _ H.l2 h2];exact h⟩,by rw [e.get _ H.l3 h3];exact H.sl,Nat.lt_of_lt_of_le H.l1 e.next,Nat.lt_of_lt_of_le H.l2 e.next,Nat.lt_of_lt_of_le H.l3 e.next⟩
theorem TbB.keep {g g':Heap}{tb mp:Nat}{sv cv fv:AV}{gs:List Gk}{ss:List Nat}(H:TbB g tb mp sv cv fv gs ss)(s:Same [] g g'):TbB g' tb mp sv cv fv gs ss:=
 ⟨by rw [s.get _ H.lt (by simp)];exact H.B,Nat.lt_of_lt_of_le H.lt s.next,fun g2 s2=>H.M g2 ((s.sub (by simp)).trans s2),by rw [s.get _ H.ml (by simp)];exact H.mpb,Nat.lt_of_lt_of_le H.ml s.next,H.ne,H.len,fun k x t h1 h2=>by obtain⟨a,b,fb,sb,h⟩:=H.st k x t h1 h2;exact⟨a,b,fb,sb,fun g2 s2=>h g2 ((s.sub (by simp)).trans s2)⟩,H.few⟩
theorem TbB.full {g:Heap}{A:Nat→Nat}{l:PAl}{F:Int}{tb mp:Nat}{sv cv fv:AV}{gs:List Gk}{ss:List Nat}(H:TbB g tb mp sv cv fv gs ss)(P:HpAt g A l sh16 F):TbG g A l F tb mp sv cv fv gs ss:=
 ⟨⟨H.B,H.lt,H.M g (Same.refl _ _),P⟩,H.mpb,H.ml,H.len,fun k x s h1 h2=>by obtain⟨a,b,fb,sb,h⟩:=H.st k x s h1 h2;exact⟨a,b,fb,sb,h g (Same.refl _ _)⟩,H.few⟩
section
variable {g:Heap}{tb mp:Nat}{sv cv fv:AV}{gs:List Gk}{ss:List Nat}{A:Nat→Nat}{l:PAl}{F:Int}
theorem schedNew_ok (M:M16 g sv cv fv):Ok (CQ (.agg (mdC sv cv fv)) g) fun r=>∃ tb mp,r.1 = .ptr (some (tb,0))∧TbB r.2 tb mp sv cv fv [] []∧g.next≤tb∧g.next≤mp∧Same [] g r.2:=by
 refine Ok.eq ?_ (by unfold CQ;rfl)
 refine ok_box M.sc fun g1 s1 n1 b1=>?_
 have la:ldA 6 g1 (.ptr (some (g.next,0)))=some (.agg (mdC sv cv fv)):=ldA_all b1 rfl
 refine Ok.eq ?_ (by simp -implicitDefEqProofs only [la,Option.bind_some,mk_some]<;>rfl)
 obtain⟨g2,hg2⟩:∃ g2,g2=g1.new (.mp []):=⟨_,rfl⟩
 have s2:Same [] g1 g2:=by rw [hg2];exact Same.new _ _
 have n2:g2.next=g1.next+1:=by rw [hg2];rfl
 have b2:g2.get g1.next=some (.mp []):=by rw [hg2];exact get_new_eq
 rw [← hg2]
 have eB:bldS [(0,6),(6,1),(7,1)] [(AV.sl none 0 (.ex 0)),(AV.sl none 0 (.ex 0)),(AV.sl none 0 (.ex 0)),(AV.sl none 0 (.ex 0)),(AV.sl none 0 (.ex 0)),(AV.int .i64 0),(AV.mp none),(AV.int .i64 0)] [(0,.agg (mdC sv cv fv)),(1,.mp (some g1.next))]=some (.agg (mdC sv cv fv ++ [.mp (some g1.next),.int .i64 0])):=by
  obtain⟨b1',rfl,_⟩:=M.cs
  obtain⟨b2',rows',h2',_⟩:=M.fs
  obtain⟨b3',rfl,_⟩:=M.sh
  rcases h2'.eq with⟨h,_⟩ | ⟨i',c',_,rfl,_⟩
  ·cases h
  ·rfl
 refine Ok.eq ?_ (by simp -implicitDefEqProofs only [eB,Option.bind_some]<;>rfl)
 refine ok_box (by rw [List.all_append,M.sc];rfl) fun g3 s3 n3 b3=>?_
 refine Ok.of ⟨g2.next,g1.next,rfl,⟨b3,by show g2.next<g3.next;omega,fun g' s'=>M.keep (((s1.trans s2).trans s3).old s' fun j hj=>by simp at hj;right;omega),(s3.get _ (by omega) (by simp)).trans b2,by show g1.next<g3.next;omega,by omega,rfl,by simp,by simp⟩,by omega,by omega,(s1.trans s2).trans s3⟩
theorem cp3 {i ab:Nat}{c:Cap}{x y z:AV}{h:Heap}(hs : [x,y,z].all scalar=true)(h1:h.get ab=some (.cells true [x,y,z]))(h2:∃ vs,h.get i=some (.cells true vs)∧vs.length=3):cpP 1 h (.sl (some (i,0)) 3 (.ex 3)) (.sl (some (ab,0)) 3 c)=some (.int .i64 3,h.put i (some (.cells true [x,y,z]))):=by
 obtain⟨vs,h2,hl⟩:=h2
 have hm:Nat.min 3 3=3:=rfl
 have hld:loadN h (ab,0) (3 * 1)=some [x,y,z]:=by
  simp only [loadN,h1,spanF_eq];rfl
 have hst:storeN h (i,0) [x,y,z]=some (h.put i (some (.cells true [x,y,z]))):=by
  simp only [storeN,hs,if_true,h2,spliceF_eq]
  rw [splice_all vs [x,y,z] (by rw [hl];rfl)];rfl
 show((countA (.sl (some (ab,0)) 3 c)).bind fun n=>_)=_
 have hc:countA (.sl (some (ab,0)) 3 c)=some 3:=rfl
 rw [hc,Option.bind_some]
 simp only [hm,show ¬ (3=0) by omega,if_false,hld,Option.bind_some,hst,Option.map_some]
 rfl
theorem begin_ok (M:M16 g sv cv fv){x:Gk}(h0:0≤x.fn)(h6:x.fn < 7){ab:Nat}{c:Cap}(hab:g.get ab=some (.cells true [.int .i64 x.a,.int .i64 x.b,.int .i64 x.c]))(hal:ab<g.next) :
  Ok (CT (.agg (mdC sv cv fv)) (.int .i64 x.fn) (.sl (some (ab,0)) 3 c) g) fun r=>∃ sb,r.1 = .tup [.agg [.int .i64 x.fn,.int .i64 0,.sl (some (sb,0)) 3 (.ex 3)],.int .i64 0]∧r.2.get sb=some (.cells true [.int .i64 x.a,.int .i64 x.b,.int .i64 x.c])∧sb<r.2.next∧g.next≤sb∧Same [] g r.2:=by
 refine Ok.eq ?_ (by unfold CT;rfl)
 refine ok_box M.sc fun g1 s1 n1 b1=>?_
 rw [mk_some]
 obtain⟨g2,hg2⟩:∃ g2,g2=g1.new (.cells true [(AV.int .i64 0),(AV.int .i64 0),(AV.sl none 0 (.ex 0))]):=⟨_,rfl⟩
 have s2:Same [] g1 g2:=by rw [hg2];exact Same.new _ _
 have n2:g2.next=g1.next+1:=by rw [hg2];rfl
 have b2:g2.get g1.next=some (.cells true [(AV.int .i64 0),(AV.int .i64 0),(AV.sl none 0 (.ex 0))]):=by rw [hg2];exact get_new_eq
 rw [← hg2]
 have b12:=(s2.get _ (by omega) (by simp)).trans b1
 have M2:=M.keep (s1.trans s2)
 have lf:ldS g2 (.ptr (some (g.next,0+4)))=some fv:=by rw [ldS_at b12];rfl
 obtain⟨bf,rows,V,hr7,hf⟩:=M2.fs
 have lnf:=V.lnL
 rw [hr7] at lnf
 obtain⟨r,hr⟩:∃ r,rows[x.fn.toNat]?=some r:=⟨_,List.getElem?_eq_getElem (by omega)⟩
 obtain⟨p,o,_,hp,ix,la,_⟩:=V.at hr
 have exn:((x.fn.toNat:Nat):Int)=x.fn:=by omega
 rw [exn] at ix
 obtain⟨kb,db,mb,K⟩:=hf _ r hr
 obtain⟨c1,c2,c3,er⟩:=K.row
 have lt : ¬ x.fn < 0:=by omega
 have ge7 : ¬ ((7:Nat):Int)≤x.fn:=by omega
 refine Ok.eq ?_ (by simp -implicitDefEqProofs only [bin_lss,lt,decide_false,Option.bind_some,gdW_ff,gQ_true,cl_some,faP_ptr,lf,lnf,bin_geq,ge_iff_le,ge7,pickP_bool,Bool.false_eq_true,if_false,condE_false,ix,la g2 rfl]<;>rfl)
 refine ok_tmp (cs:=r) (n:=7) rfl (by rw [er];rfl) (by rw [er];rfl) fun g3 s3 n3 b3=>?_
 have q0:ldS g3 (.ptr (some (g2.next,0+0)))=some (.int .i64 3):=by rw [ldS_at b3,er];rfl
 have q1:ldS g3 (.ptr (some (g2.next,0+1)))=some (.int .i64 0):=by rw [ldS_at b3,er];rfl
 have q2:ldS g3 (.ptr (some (g2.next,0+2)))=some (.int .i64 3):=by rw [ldS_at b3,er];rfl
 have w3:IntKind.i64.wrap (3+0)=3:=rfl
 have ms:msP 1 8 [(AV.int .i64 0)] (.int .i64 3) (.int .i64 3)=some (.cells true [.int .i64 0,.int .i64 0,.int .i64 0],fun i=>.sl (some (i,0)) 3 (.ex 3)):=msP_ok 1 8 [(AV.int .i64 0)] 3 (by omega) (by omega) rfl
 refine Ok.eq ?_ (by simp -implicitDefEqProofs only [lnL_sl,Option.bind_some,faP_ptr,q0,q1,bin_add,w3,show((3:Nat):Int)=3 from rfl,neq_int,decide_true,Bool.not_true,gdW_ff,gQ_true,cl_some,q2,bin_gtr,gt_iff_lt,show ¬ (3:Int) < 3 by omega,decide_false,pickP_bool,Bool.false_eq_true,if_false,show ¬ (64:Int) < 3 by omega,condE_false,ms,mk_some]<;>rfl)
 obtain⟨g4,hg4⟩:∃ g4,g4=g3.new (.cells true [.int .i64 0,.int .i64 0,.int .i64 0]):=⟨_,rfl⟩
 have s4:Same [] g3 g4:=by rw [hg4];exact Same.new _ _
 have n4:g4.next=g3.next+1:=by rw [hg4];rfl
 have b4:g4.get g3.next=some (.cells true [.int .i64 0,.int .i64 0,.int .i64 0]):=by rw [hg4];exact get_new_eq
 rw [← hg4]
 have s04:=((s1.trans s2).trans s3).trans s4
 have hab4:=(s04.get _ hal (by simp)).trans hab
 have cp:=cp3 (i:=g3.next) (c:=c) (h:=g4) rfl hab4 ⟨_,b4,rfl⟩
 obtain⟨g5,hg5⟩:∃ g5,g5=g4.put g3.next (some (.cells true [.int .i64 x.a,.int .i64 x.b,.int .i64 x.c])):=⟨_,rfl⟩
 have s5:Same [g3.next] g4 g5:=by rw [hg5];exact Same.put _ _ _
 have n5:g5.next=g4.next:=by rw [hg5];rfl
 have b5:g5.get g3.next=some (.cells true [.int .i64 x.a,.int .i64 x.b,.int .i64 x.c]):=by rw [hg5];exact get_put_eq
 rw [← hg5] at cp
 have b25:g5.get g1.next=some (.cells true [(AV.int .i64 0),(AV.int .i64 0),(AV.sl none 0 (.ex 0))]):=by
  rw [s5.get _ (by omega) (by simp;omega),s4.get _ (by omega) (by simp),s3.get _ (by omega) (by simp)];exact b2
 have eB:bldS [(0,1),(1,1),(2,1)] [(AV.int .i64 0),(AV.int .i64 0),(AV.sl none 0 (.ex 0))] [(0,.int .i64 x.fn),(2,.sl (some (g3.next,0)) 3 (.ex 3))]=some (.agg [.int .i64 x.fn,.int .i64 0,.sl (some (g3.next,0)) 3 (.ex 3)]):=rfl
 have st:=stP_all (n:=3) b25 rfl (cs:=[.int .i64 x.fn,.int .i64 0,.sl (some (g3.next,0)) 3 (.ex 3)]) rfl rfl
 have s05:Same [] g g5:=s04.old s5 fun j hj=>by simp at hj;right;have:=s1.next;omega
 refine ok_val (v:=.tup [.agg [.int .i64 x.fn,.int .i64 0,.sl (some (g3.next,0)) 3 (.ex 3)],.int .i64 0]) (g:=g5.put g1.next (some (.cells true [.int .i64 x.fn,.int .i64 0,.sl (some (g3.next,0)) 3 (.ex 3)]))) (by
  simp -implicitDefEqProofs only [cp,cl_some,eB,Option.bind_some,st,ldA_all (get_put_eq (h:=g5) (i:=g1.next) (b:=some (.cells true [.int .i64 x.fn,.int .i64 0,.sl (some (g3.next,0)) 3 (.ex 3)]))) (n:=3) rfl]) ⟨g3.next,rfl,?_,?_,by omega,s05.old (Same.put g5 g1.next (some (.cells true [.int .i64 x.fn,.int .i64 0,.sl (some (g3.next,0)) 3 (.ex 3)]))) fun j hj=>by simp at hj;right;omega⟩
 ·rw [get_put_ne (by omega)];exact b5
 ·show g3.next<g5.next;omega
theorem frameNew_ok (M:M16 g sv cv fv){x:Gk}(h0:0≤x.fn)(h6:x.fn < 7){ab:Nat}{c:Cap}(hab:g.get ab=some (.cells true [.int .i64 x.a,.int .i64 x.b,.int .i64 x.c]))(hal:ab<g.next) :
  Ok (C1 (.agg (mdC sv cv fv)) (.int .i64 x.fn) (.sl (some (ab,0)) 3 c) g) fun r=>∃ s fb sb,r.1 = .tup [.ptr (some (s,0)),.int .i64 0]∧StR r.2 s x fb sb∧g.next≤s∧g.next≤fb∧g.next≤sb∧Same [] g r.2:=by
 refine Ok.eq ?_ (by unfold C1;rfl)
 refine ok_box M.sc fun g1 s1 n1 b1=>?_
 have la:ldA 6 g1 (.ptr (some (g.next,0)))=some (.agg (mdC sv cv fv)):=ldA_all b1 rfl
 refine Ok.eq ?_ (by simp -implicitDefEqProofs only [la,Option.bind_some]<;>rfl)
 refine ok_cl (begin_ok (M.keep s1) h0 h6 ((s1.get _ hal (by simp)).trans hab) (by have:=s1.next;omega)) ?_
 rintro _ g2 ⟨sb,rfl,hsb,hsl,hsn,s2⟩
 simp only at hsb hsl s2
 refine Ok.eq ?_ (by simp -implicitDefEqProofs only [extractV_tup,e0,e1,Option.bind_some]<;>rfl)
 refine ok_tmp (cs:=[.int .i64 x.fn,.int .i64 0,.sl (some (sb,0)) 3 (.ex 3)]) (n:=3) rfl rfl rfl fun g3 s3 n3 b3=>?_
 have la3:ldA 3 g3 (.ptr (some (g2.next,0)))=some (.agg [.int .i64 x.fn,.int .i64 0,.sl (some (sb,0)) 3 (.ex 3)]):=ldA_all b3 rfl
 refine Ok.eq ?_ (by simp -implicitDefEqProofs only [neq_int,decide_true,Bool.not_true,Option.bind_some,condE_false,la3]<;>rfl)
 refine ok_lit1 rfl rfl rfl fun g4 s4 n4 b4=>?_
 refine Ok.eq ?_ (by simp -implicitDefEqProofs only [show bldS [(0,1)] [(AV.sl none 0 (.ex 0))] [(0,.sl (some (g3.next,0)) 1 (.ex 1))]=some (.agg [.sl (some (g3.next,0)) 1 (.ex 1)]) from rfl,Option.bind_some]<;>rfl)
 refine ok_box rfl fun g5 s5 n5 b5=>?_
 have s25:=(s3.trans s4).trans s5
 have n02:=(s1.trans s2).next
 refine Ok.of ⟨g4.next,g3.next,sb,rfl,⟨⟨_,b5⟩,⟨_,(s5.get _ (by omega) (by simp)).trans b4⟩,(s25.get _ hsl (by simp)).trans hsb,by show g4.next<g5.next;omega,by show g3.next<g5.next;omega,by show sb<g5.next;omega⟩,by omega,by omega,by have:=s1.next;omega,(s1.trans s2).trans s25⟩
theorem add_ok (H : TbB g tb mp sv cv fv gs ss) {x : Gk} (h0 : 0 ≤ x.fn) (h6 : x.fn < 7) {ab : Nat} {c : Cap} (hab : g.get ab = some (.cells true [.int .i64 x.a, .int .i64 x.b, .int .i64 x.c])) (hal : ab < g.next) (hfew : gs.length < 60) :
    Ok (Ax (.ptr (some (tb, 0))) (.int .i64 x.fn) (.sl (some (ab, 0)) 3 c) g) fun r => ∃ s, r.1 = .tup [.int .i64 ((gs.length + 1 : Nat) : Int), .int .i64 0] ∧ TbB r.2 tb mp sv cv fv (gs ++ [x]) (ss ++ [s]) ∧ Same [tb, mp] g r.2 := by
  have l6 : ldS g (.ptr (some (tb, 0 + 6))) = some (.mp (some mp)) := by rw [ldS_at H.B]; rfl
  have la : ldA 6 g (.ptr (some (tb, 0 + 0))) = some (.agg (mdC sv cv fv)) := by rw [ldA_at H.B]; rfl
  have entl : ∀ (ss : List Nat) (k : Nat), (entK k ss).length = ss.length := by
    intro ss
    induction ss with
    | nil => intro k; rfl
    | cons s ss ih => intro k; simp only [entK, List.length_cons, ih]
  have lm : lnM g (.mp (some mp)) = some (.int .i64 gs.length) := by simp only [lnM, H.mpb, entl, H.len]
  have ge : ¬ (64 : Int) ≤ gs.length := by omega
  refine Ok.eq ?_ (by simp -implicitDefEqProofs only [Ax, nilV_ptr, faP_ptr, Option.bind_some, l6, lm, bin_geq, ge_iff_le, ge, decide_false, condE_false, la] <;> rfl)
  refine ok_cl (frameNew_ok (H.M g (Same.refl _ _)) h0 h6 hab hal) ?_
  rintro _ g1 ⟨s, fb, sb, rfl, S, hs, hfb, hsb, s1⟩
  simp only at S s1
  have H1 := H.keep s1
  have sb1 := S.l3
  have l7 : ldS g1 (.ptr (some (tb, 0 + 7))) = some (.int .i64 gs.length) := by rw [ldS_at H1.B]; rfl
  have wn : IntKind.i64.wrap ((gs.length : Int) + 1) = ((gs.length + 1 : Nat) : Int) := suc64 _ (by omega)
  have st : stP 1 g1 (.ptr (some (tb, 0 + 7))) (.int .i64 ((gs.length + 1 : Nat) : Int)) = some (.bot, g1.put tb (some (.cells true (mdC sv cv fv ++ [.mp (some mp), .int .i64 ((gs.length + 1 : Nat) : Int)])))) := by
    rw [stP_one H1.B (by simp [mdC]) rfl]; rfl
  obtain ⟨g2, hg2⟩ : ∃ g2, g2 = g1.put tb (some (.cells true (mdC sv cv fv ++ [.mp (some mp), .int .i64 ((gs.length + 1 : Nat) : Int)]))) := ⟨_, rfl⟩
  have s2 : Same [tb] g1 g2 := by rw [hg2]; exact Same.put _ _ _
  have b2 : g2.get tb = some (.cells true (mdC sv cv fv ++ [.mp (some mp), .int .i64 ((gs.length + 1 : Nat) : Int)])) := by rw [hg2]; exact get_put_eq
  have m2 : g2.get mp = some (.mp (entK 0 ss)) := (s2.get _ H1.ml (by simp; exact fun e => H.ne e.symm)).trans H1.mpb
  rw [← hg2] at st
  have l62 : ldS g2 (.ptr (some (tb, 0 + 6))) = some (.mp (some mp)) := by rw [ldS_at b2]; rfl
  have l72 : ldS g2 (.ptr (some (tb, 0 + 7))) = some (.int .i64 ((gs.length + 1 : Nat) : Int)) := by rw [ldS_at b2]; rfl
  have pt := pt_ent s ss 0
  rw [Nat.zero_add, H.len] at pt
  have mu : muP (ptA (.int .i64)) g2 (.mp (some mp)) (.int .i64 ((gs.length + 1 : Nat) : Int)) (.ptr (some (s, 0))) = some (.bot, g2.put mp (some (.mp (entK 0 (ss ++ [s]))))) := by
    simp only [muP, m2, pt, Option.map_some]
  obtain ⟨g3, hg3⟩ : ∃ g3, g3 = g2.put mp (some (.mp (entK 0 (ss ++ [s])))) := ⟨_, rfl⟩
  have s3 : Same [mp] g2 g3 := by rw [hg3]; exact Same.put _ _ _
  have m3 : g3.get mp = some (.mp (entK 0 (ss ++ [s]))) := by rw [hg3]; exact get_put_eq
  have b3 := (s3.get tb (Nat.lt_of_lt_of_le H1.lt s2.next) (by simp; exact H.ne)).trans b2
  rw [← hg3] at mu
  have l73 : ldS g3 (.ptr (some (tb, 0 + 7))) = some (.int .i64 ((gs.length + 1 : Nat) : Int)) := by rw [ldS_at b3]; rfl
  have s13 : Same [tb, mp] g1 g3 := (s2.sub (by simp)).trans (s3.sub (by simp))
  have s03 : Same [tb, mp] g g3 := (s1.sub (by simp)).trans s13
  refine ok_val (v := .tup [.int .i64 ((gs.length + 1 : Nat) : Int), .int .i64 0]) (g := g3) (by
    simp -implicitDefEqProofs only [extractV_tup, e0, e1, Option.bind_some, neq_int, decide_true, Bool.not_true, condE_false, nilV_ptr, faP_ptr, l7, bin_add, wn, st, cl_some, l62, l72, mu, chk_nil, l73]) ⟨s, rfl, ?_, s03⟩
  have htl := H.lt
  have hml := H.ml
  exact
    { B := by rw [b3, List.length_append]; rfl
      lt := Nat.lt_of_lt_of_le H.lt s03.next
      M := fun g' s' => H.M g' (s03.trans s')
      mpb := m3
      ml := Nat.lt_of_lt_of_le H.ml s03.next
      ne := H.ne
      len := by simp [H.len]
      st := fun k y t hy ht => by
        by_cases hk : k < gs.length
        · rw [List.getElem?_append_left hk] at hy
          rw [List.getElem?_append_left (by rw [H.len]; exact hk)] at ht
          obtain ⟨a, b, fb', sb', h⟩ := H.st k y t hy ht
          exact ⟨a, b, fb', sb', fun g' s' => h g' (s03.trans s')⟩
        · have hk2 : k = gs.length := by
            have := (List.getElem?_eq_some_iff.1 hy).1
            simp at this; omega
          subst hk2
          rw [List.getElem?_append_right (Nat.le_refl _), Nat.sub_self] at hy
          rw [List.getElem?_append_right (by rw [H.len]; exact Nat.le_refl _), H.len, Nat.sub_self] at ht
          simp at hy ht
          subst hy; subst ht
          exact ⟨h0, h6, fb, sb, fun g' s' => S.same (s13.trans s') (by simp; omega) (by simp; omega) (by simp; omega)⟩
      few := by simp; omega }
end
set_option linter.all false
attribute [local congr] c_bind c_cl c_mk c_lp c_clC c_gQ c_gV c_condE c_thenK
abbrev CnL:=List (Int × Chan)
structure ChL (l:PAl)(cs:CnL):Prop where
 at_:∀ x∈cs,∃ rest,ChAt l.ar sh16 x.1 x.2 false 0 rest
 nd:(cs.map Prod.fst).Nodup
theorem chl_mt (l:PAl):ChL l []:=⟨by simp,List.nodup_nil⟩
theorem chl_made {l l':PAl}{cs:CnL}{ad:Int}{c:Chan}{ws rest:List Int}(W:Wf l.ar)(H:ChL l cs)(M:Made l l' ad ws)(C:ChAt l'.ar sh16 ad c false 0 rest):ChL l' (cs ++ [(ad,c)]):=by
 have hne:∀ x∈cs,x.1≠ad:=fun x hx e=>by
  obtain⟨r,C'⟩:=H.at_ x hx
  obtain⟨p,q,hf⟩:=C'.lies.find W
  rw [e,M.new] at hf;cases hf
 refine⟨fun x hx=>?_,?_⟩
 ·rw [List.mem_append] at hx
  rcases hx with hx | hx
  ·obtain⟨r,C'⟩:=H.at_ x hx
   exact⟨r,M.old _ _ (hne x hx) C'.lies,C'.ok,C'.sh,C'.sx⟩
  ·simp at hx;subst hx;exact⟨rest,C⟩
 ·rw [List.map_append,List.nodup_append]
  refine⟨H.nd,by simp,fun a ha b hb=>?_⟩
  obtain⟨x,hx,rfl⟩:=List.mem_map.1 ha
  simp at hb;subst hb
  exact hne x hx
def stC (cs:CnL)(ad:Int):Option Chan:=(cs.find? fun x=>decide (x.1=ad)).map Prod.snd
theorem stC_mem {l:PAl}{cs:CnL}(H:ChL l cs){x:Int × Chan}(hx:x∈cs):stC cs x.1=some x.2:=by
 have hnd:=H.nd
 unfold stC
 induction cs with
 | nil=>cases hx
 | cons y cs ih=>
  rw [List.map_cons,List.nodup_cons] at hnd
  rw [List.find?_cons]
  rcases List.mem_cons.1 hx with rfl | hx
  ·simp
  ·have hne:y.1≠x.1:=fun e=>hnd.1 (by rw [e];exact List.mem_map.2 ⟨x,hx,rfl⟩)
   rw [decide_eq_false hne]
   exact ih ⟨fun z hz=>H.at_ z (List.mem_cons_of_mem _ hz),hnd.2⟩ hx hnd.2
theorem isC_mem {l:PAl}{cs:CnL}(W:Wf l.ar)(H:ChL l cs){x:Int × Chan}(hx:x∈cs)(a:Bool):isC l x.1 a = !a:=by
 obtain⟨r,C⟩:=H.at_ x hx
 unfold isC
 rw [C.isP W]
 cases a<;>rfl
theorem isC_zero {l:PAl}(W:Wf l.ar)(a:Bool):isC l 0 a=false:=by
 unfold isC
 have:l.ar.find 0=none:=by
  cases h:l.ar.find 0 with
  | none=>rfl
  | some x=>
   obtain⟨m,q⟩:=x
   obtain⟨f1,_,_,_,f5,f6,f7⟩:=find_some h
   obtain⟨P0,P1,P2,_⟩:=pls_eq (c:=(l.ar.at m).cls) ⟨f6,f7⟩
   have:=f1.1
   have hw:0<wordsOf (l.ar.at m).cls:=by
    rcases (by omega:(l.ar.at m).cls=0∨(l.ar.at m).cls=1∨(l.ar.at m).cls=2∨(l.ar.at m).cls=3∨(l.ar.at m).cls=4∨(l.ar.at m).cls=5) with e | e | e | e | e | e<;>rw [e]<;>decide
   have h2:0≤(q:Int)*wordsOf (l.ar.at m).cls:=Int.mul_nonneg (by omega) (by omega)
   omega
 rw [ofP_none this];rfl
def adL (cs:CnL):List (List AV):=cs.map fun x=>[AV.int .i64 x.1]
theorem adL_row {cs:CnL}:∀ r∈adL cs,r.length=1:=fun r hr=>by obtain⟨x,_,rfl⟩:=List.mem_map.1 hr;rfl
theorem adL_app (cs:CnL)(x:Int × Chan):adL (cs ++ [x])=adL cs ++ [[AV.int .i64 x.1]]:=by simp [adL]
structure Cw (g0 g:Heap)(A:Nat→Nat)(ph N:Nat)(cs:CnL)(q:AV)(b bh:Option Nat):Prop where
 hp:∃ l,HpAt g A l sh16 0∧ChL l cs∧l.ar.used≤cs.length∧l.ar.sp.length=N
 ql:SlB g b 1 q (adL cs).flatten (adL cs).length
 hl:∃ vh,g.get ph=some (.cells true [vh])∧SlB g bh 1 vh (adL cs).flatten (adL cs).length
 n1:∀ j,b=some j→g0.next≤j
 n2:∀ j,bh=some j→g0.next≤j
 df:∀ j,b=some j→bh≠some j
 same:Same [A 5,A 7,A 8,ph] g0 g
theorem cw_push {R:Type}{g0 g:Heap}{A:Nat→Nat}{ph N:Nat}{cs:CnL}{q:AV}{b bh:Option Nat}{l:PAl}{ad:Int}{c:Chan}(hA:∀ i,i < 11→A i<g0.next)(hph:ph<g0.next)(hpA:∀ i,i < 11→A i≠ph)(hp0:ph≠0)(hz:0<g0.next)
  (H:HpAt g A l sh16 0) (hc:ChL l (cs ++ [(ad,c)])) (hu:l.ar.used≤cs.length+1) (hN:l.ar.sp.length=N) (ql:SlB g b 1 q (adL cs).flatten (adL cs).length) (hl:∃ vh,g.get ph=some (.cells true [vh])∧SlB g bh 1 vh (adL cs).flatten (adL cs).length)
  (n1:∀ j,b=some j→g0.next≤j) (n2:∀ j,bh=some j→g0.next≤j) (df:∀ j,b=some j→bh≠some j) (same:Same [A 5,A 7,A 8,ph] g0 g) (hlen:cs.length≤100) {K:AV→Heap→Option R} {Q:R→Prop}
  (hk:∀ q' g' b' bh',Cw g0 g' A ph N (cs ++ [(ad,c)]) q' b' bh'→Same (ph::(b.toList++bh.toList)) g g'→(∀ j,b'=some j→g.next≤j)→(∀ j,bh'=some j→g.next≤j)→Ok (K q' g') Q) :
  Ok ((nilV (.ptr (some (ph,0)))).bind fun t49=>(faP 0 t49).bind fun t50=>(ldS g t50).bind fun t51=>Go.Ab.mk Heap.new (bsP 1 [(AV.int .i64 0)] 1 [(0,.int .i64 ad)]) g fun t53 h6=>cl (appendA h6 1 8 t51 t53) fun t54 h7=>
   (nilV (.ptr (some (ph,0)))).bind fun t55=>(faP 0 t55).bind fun t56=>cl (stP 1 h7 t56 t54) fun u h8=>Go.Ab.mk Heap.new (bsP 1 [(AV.int .i64 0)] 1 [(0,.int .i64 ad)]) h8 fun t59 h9=>cl (appendA h9 1 8 q t59) K) Q:=by
 obtain⟨vh,hvh,sh⟩:=hl
 have g0g:=same.next
 have lv:ldS g (.ptr (some (ph,0+0)))=some vh:=by rw [ldS_at hvh];rfl
 refine Ok.eq ?_ (by simp -implicitDefEqProofs only [nilV_ptr,faP_ptr,Option.bind_some,lv]<;>rfl)
 have hal:(adL cs).length=cs.length:=by simp [adL]
 refine app1 sh (t:=.int .i64 ad) rfl rfl rfl (by decide) (by omega) fun v1 g1 m1 s1 k1=>?_
 have bhl:∀ j,bh=some j→j<g.next:=fun j hj=>(sh.blk j hj).1
 have bl:∀ j,b=some j→j<g.next:=fun j hj=>(ql.blk j hj).1
 have hv1:g1.get ph=some (.cells true [vh]):=(s1.get _ (by omega) (fun hm=>by have:=n2 ph (by simpa using hm);omega)).trans hvh
 have st:=stP_one hv1 (o:=0+0) (by simp) m1.scv
 have q1:=ql.same s1 (fun j hj hm=>df j hj (by simpa using hm))
 obtain⟨g2,hg2⟩:∃ g2,g2=g1.put ph (some (.cells true [v1])):=⟨_,rfl⟩
 have s2:Same [ph] g1 g2:=by rw [hg2];exact Same.put _ _ _
 have k2:g2.next=g1.next:=by rw [hg2];rfl
 have st':stP 1 g1 (.ptr (some (ph,0+0))) v1=some (.bot,g2):=by rw [st,hg2];rfl
 refine Ok.eq ?_ (by simp -implicitDefEqProofs only [st',cl_some]<;>rfl)
 have q2:=q1.same s2 (fun j hj hm=>by simp at hm;have:=n1 j hj;omega)
 refine app1 q2 (t:=.int .i64 ad) rfl rfl rfl (by decide) (by omega) fun v3 g3 m3 s3 k3=>?_
 have eF:(adL (cs ++ [(ad,c)])).flatten=(adL cs).flatten++(AV.int .i64 ad).cells:=by rw [adL_app,List.flatten_append];simp [AV.cells]
 have eL:(adL (cs ++ [(ad,c)])).length=(adL cs).length+1:=by rw [adL_app];simp
 have bfacts:∀ j∈b.toList,g0.next≤j∧j<g.next:=fun j hj=>⟨n1 j (by simpa using hj),bl j (by simpa using hj)⟩
 have bhfacts:∀ j∈bh.toList,g0.next≤j∧j<g.next:=fun j hj=>⟨n2 j (by simpa using hj),bhl j (by simpa using hj)⟩
 have sAll:Same (ph::(b.toList++bh.toList)) g g3:=((s1.sub fun j hj=>by simp at hj ⊢;exact .inr (.inr hj)).trans (s2.sub fun j hj=>by simp at hj ⊢;exact .inl hj)).trans (s3.sub fun j hj=>by simp at hj ⊢;exact .inr (.inl hj))
 have H3:=H.mono sAll (fun i hi hm=>by
  have:=hA i hi
  rw [List.mem_cons,List.mem_append] at hm
  rcases hm with h | h | h
  ·exact hpA i hi h
  ·have:=(bfacts _ h).1;omega
  ·have:=(bhfacts _ h).1;omega) (fun hm=>by
  rw [List.mem_cons,List.mem_append] at hm
  rcases hm with h | h | h
  ·exact hp0 h.symm
  ·have:=(bfacts _ h).1;omega
  ·have:=(bhfacts _ h).1;omega)
 refine hk v3 g3 (some (g2.next+1)) (some (g.next+1)) ⟨⟨l,H3,hc,by simpa using hu,hN⟩,by rw [eF,eL];exact m3,⟨v1,?_,?_⟩,fun j hj=>by cases hj;omega,fun j hj=>by cases hj;omega,fun j hj e=>by
  have e1:=Option.some.inj hj
  have e2:=Option.some.inj e
  omega,?_⟩ sAll (fun j hj=>by cases hj;omega) (fun j hj=>by cases hj;omega)
 ·rw [s3.get ph (by omega) (fun hm=>by have:=(bfacts _ hm).1;omega),hg2];exact get_put_eq
 ·rw [eF,eL]
  exact(m1.same s2 (fun j hj hm=>by cases hj;simp at hm;omega)).same s3 (fun j hj hm=>by cases hj;have:=(bfacts _ hm).2;omega)
 ·refine same.old sAll fun j hj=>?_
  rw [List.mem_cons,List.mem_append] at hj
  rcases hj with rfl | h | h
  ·exact .inl (by simp)
  ·exact .inr (bfacts _ h).1
  ·exact .inr (bhfacts _ h).1
end Go.Ab.F
