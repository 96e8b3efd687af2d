import Derived.Test.YtlkhjkbepijegaaGreatDoorMar
namespace Go.Ab.F
open Go Go.Ab
set_option linter.all false
set_option linter.all false
attribute [local congr] c_bind c_cl c_mk c_lp c_clC c_gQ c_gV c_condE c_thenK
def SetM (S:List Int):List (AV × AV):=S.map fun n=>(AV.int .i64 n,AV.bool true)
theorem set_find (x:Int):∀ S:List Int,fdA (.int .i64) (.int .i64 x) (SetM S)=some (if x∈S then some (.bool true) else none)
 | []=>rfl
 | y::S=>by
  have ih:=set_find x S
  have hk:kindOk (.int .i64) (.int .i64 x)=some ():=rfl
  unfold fdA at ih ⊢
  rw [hk,Option.bind_some] at ih ⊢
  show findA (.int .i64) (.int .i64 x) ((AV.int .i64 y,AV.bool true)::SetM S)=_
  rw [findA]
  have he:eqT (.int .i64) (.int .i64 x) (.int .i64 y)=some (decide (x=y)):=rfl
  rw [he,Option.bind_some]
  by_cases h:x=y
  ·simp [h]
  ·simp only [h,decide_false,Bool.false_eq_true,if_false,ih,List.mem_cons,false_or]
theorem set_put {x:Int}:∀ {S:List Int},x∉S→ptA (.int .i64) (.int .i64 x) (.bool true) (SetM S)=some (SetM (S ++ [x]))
 | [],_=>rfl
 | y::S,h=>by
  rw [List.mem_cons,not_or] at h
  have ih:=set_put h.2
  have hk:kindOk (.int .i64) (.int .i64 x)=some ():=rfl
  unfold ptA at ih ⊢
  rw [hk,Option.bind_some] at ih ⊢
  show putMap (.int .i64) (.int .i64 x) (.bool true) ((AV.int .i64 y,AV.bool true)::SetM S)=_
  rw [putMap]
  have he:eqT (.int .i64) (.int .i64 x) (.int .i64 y)=some (decide (x=y)):=rfl
  rw [he,Option.bind_some]
  simp only [h.1,decide_false,Bool.false_eq_true,if_false,ih,Option.map_some]
  rfl
theorem set_keys:∀ S:List Int,keyInts (SetM S)=some S
 | []=>rfl
 | y::S=>by
  show(keyInts (SetM S)).map (y :: ·)=_
  rw [set_keys S];rfl
theorem ok_keys:∀ {S:List Int},S.Nodup→(∀ n∈S,(Lit.int .i64 n).wf=true)→okKeys S=true
 | [],_,_=>rfl
 | n::S,h,hw=>by
  rw [List.nodup_cons] at h
  rw [okKeys,hw n (by simp),ok_keys h.2 fun m hm=>hw m (by simp [hm])]
  simp only [Bool.true_and,Bool.and_true,List.all_eq_true]
  intro m hm
  have : ¬ m=n:=fun e=>h.1 (by rw [← e];exact hm)
  simp [this]
theorem wf_small {n:Int}(h:0≤n∧n < 32768):(Lit.int .i64 n).wf=true:=by
 have h1:IntKind.i64.min = -9223372036854775808:=rfl
 have h2:IntKind.i64.max=9223372036854775807:=rfl
 show(decide (IntKind.i64.min≤n) && decide (n≤IntKind.i64.max))=true
 rw [h1,h2]
 simp;omega
def sc (S:List Int):Nat:=cnt (fun j=>decide ((j:Int)∈S)) 32768
theorem sc_add {S:List Int}{x:Int}(h:0≤x∧x < 32768)(hx:x∉S):sc (S ++ [x])=sc S+1:=by
 unfold sc
 have e:∀ j,j < 32768→(fun j:Nat=>decide ((j:Int)∈S ++ [x])) j=(fun j=>decide (x.toNat=j)||decide ((j:Int)∈S)) j:=fun j hj=>by
  simp only [List.mem_append,List.mem_singleton]
  by_cases h1:(j:Int)=x
  ·have:x.toNat=j:=by omega
   simp [h1,this]
  ·have : ¬ x.toNat=j:=by omega
   simp [h1,this]
 rw [cnt_congr e,cnt_ins x.toNat (fun j=>decide ((j:Int)∈S)) (by
  have:((x.toNat:Nat):Int)=x:=by omega
  simp [this,hx])]
 simp;omega
theorem sc_le (S:List Int):sc S≤32768:=cnt_le _ _
structure RI (T:List Shp)(a:PAr)(G S q:List Int):Prop where
 nd:S.Nodup
 so:∀ x∈S,Rch T a G x
 qs:∀ x∈q,a.find x≠none→Rch T a G x
 root:∀ x∈G,a.find x≠none→x∈S∨x∈q
 cl:∀ x∈S,∀ y∈fieldsL T a x,a.find y≠none→y∈S∨y∈q
section
variable {T:List Shp}{a:PAr}{G S q:List Int}{x:Int}
theorem ri_start:RI T a G [] G:=⟨List.nodup_nil,fun x h=>by simp at h,fun x h hf=>Rch.root h hf,fun x h _=>.inr h,fun x h=>by simp at h⟩
theorem ri_skip (R:RI T a G S (x::q))(h:x∈S∨a.find x=none):RI T a G S q:=by
 have hd:∀ y,a.find y≠none→(y∈S∨y∈x::q)→y∈S∨y∈q:=fun y hf hy=>by
  rcases hy with hy | hy
  ·exact .inl hy
  ·rcases List.mem_cons.1 hy with rfl | hy
   ·rcases h with h | h
    ·exact .inl h
    ·exact absurd h hf
   ·exact .inr hy
 exact⟨R.nd,R.so,fun y hy=>R.qs y (List.mem_cons_of_mem _ hy),fun y hy hf=>hd y hf (R.root y hy hf),fun z hz y hy hf=>hd y hf (R.cl z hz y hy hf)⟩
theorem ri_step (R:RI T a G S (x::q))(h1:x∉S)(h2:a.find x≠none):RI T a G (S ++ [x]) (q++fieldsL T a x):=by
 have hx:=R.qs x (List.mem_cons_self ..) h2
 have hd:∀ y,(y∈S∨y∈x::q)→y∈S ++ [x]∨y∈q++fieldsL T a x:=fun y hy=>by
  rcases hy with hy | hy
  ·exact .inl (List.mem_append_left _ hy)
  ·rcases List.mem_cons.1 hy with rfl | hy
   ·exact .inl (by simp)
   ·exact .inr (List.mem_append_left _ hy)
 refine⟨?_,fun y hy=>?_,fun y hy hf=>?_,fun y hy hf=>hd y (R.root y hy hf),fun z hz y hy hf=>?_⟩
 ·rw [List.nodup_append]
  exact⟨R.nd,by simp,fun u hu z hz=>by rw [List.mem_singleton] at hz;subst hz;exact fun e=>h1 (by rw [← e];exact hu)⟩
 ·rcases List.mem_append.1 hy with hy | hy
  ·exact R.so y hy
  ·rw [List.mem_singleton] at hy;subst hy;exact hx
 ·rcases List.mem_append.1 hy with hy | hy
  ·exact R.qs y (List.mem_cons_of_mem _ hy) hf
  ·exact Rch.step hx hy hf
 ·rcases List.mem_append.1 hz with hz | hz
  ·exact hd y (R.cl z hz y hy hf)
  ·rw [List.mem_singleton] at hz;subst hz
   exact .inr (List.mem_append_right _ hy)
theorem ri_end (R:RI T a G S []):RchL T a G (isort S):=by
 refine⟨?_,fun x=>?_⟩
 ·have h1:=isort_sorted S
  have h2:(isort S).Nodup:=(isort_perm S).nodup_iff.2 R.nd
  exact List.Pairwise.imp₂ (fun a b (h:a≤b) (h':a≠b)=>by omega) h1 h2
 ·rw [(isort_perm S).mem_iff]
  constructor
  ·exact R.so x
  ·intro h
   induction h with
   | root h1 h2=>rcases R.root _ h1 h2 with h | h;exact h;simp at h
   | step _ h1 h2 ih=>rcases R.cl _ ih _ h1 h2 with h | h;exact h;simp at h
end
theorem QuV.appL {g:Heap}{base m:Nat}{b:Option Nat}{v x:AV}{L xs:List Int}(H:QuV g base b v L)(hc:countA x=some m)(ha:addedA g 1 x=some (wsC xs))(hm:xs.length=m)(hb:base≤g.next)(hl:L.length+m≤2 ^ 40) :
  ∃ b' v' g',appendA g 1 8 v x=some (v',g')∧QuV g' base b' v' (L++xs)∧Same b.toList g g'∧(b'=b∨(b'=some g.next∧g.next<g'.next)):=by
 by_cases h0:m=0
 ·subst h0
  have hx:xs = []:=List.eq_nil_of_length_eq_zero hm
  subst hx
  refine⟨b,v,g,?_,by simpa using H,Same.refl _ _,.inl rfl⟩
  cases b with
  | none=>
   obtain⟨rfl,rfl⟩:=H.nil rfl
   simp [appendA,hc,ha,wsC]
  | some i=>
   obtain⟨b1,b2,pre,b3,rfl⟩:=H.blk i rfl
   simp [appendA,hc,ha,wsC]
 ·have hsc:(wsC xs).all scalar=true:=sc_ws xs
  have hlx:(wsC xs).length=m:=by rw [wsC_len];exact hm
  cases b with
  | none=>
   obtain⟨rfl,rfl⟩:=H.nil rfl
   refine⟨some g.next,.sl (some (g.next,0)) m (.un 1),g.new (.cells true (wsC xs)),?_,⟨(fun h=>by cases h),fun i hi=>?_⟩,Same.new _ _,.inr ⟨rfl,Nat.lt_succ_self _⟩⟩
   ·simp only [appendA,hc,ha,Option.bind_some]
    rw [if_neg (by omega),if_pos (by simp at hl;omega)]
    simp only [if_true,Option.bind_some,List.nil_append,hsc,Nat.zero_add]
   ·cases hi
    exact⟨hb,Nat.lt_succ_self _,[],by rw [List.nil_append,List.nil_append];exact get_new_eq,by simp [hm]⟩
  | some i=>
   obtain⟨b1,b2,pre,b3,rfl⟩:=H.blk i rfl
   refine⟨some g.next,.sl (some (g.next,0)) (L.length+m) (.un 1),(g.put i none).new (.cells true (wsC (L++xs))),?_,⟨(fun h=>by cases h),fun j hj=>?_⟩,(Same.put _ _ _).sub (by simp) |>.trans ((Same.new _ _).sub (by simp)),.inr ⟨rfl,Nat.lt_succ_self _⟩⟩
   ·have hle:(pre++wsC L).length=pre.length+L.length:=by rw [List.length_append,wsC_len]
    simp only [appendA,hc,ha,Option.bind_some,ne_eq,not_true_eq_false,if_false,b3]
    rw [if_neg (by omega),if_pos (by omega),if_neg (by omega),if_pos (by omega)]
    simp only [hsc,if_true,List.drop_left,wsC_app]
   ·cases hj
    exact⟨hb,Nat.lt_succ_self _,[],by
     have:=get_new_eq (h:=g.put i none) (b:=.cells true (wsC (L++xs)));simpa using this,by simp [hm]⟩
set_option linter.all false
attribute [local congr] c_bind c_cl c_mk c_lp c_clC c_gQ c_gV c_condE c_thenK
theorem added_slb {g:Heap}{b:Option Nat}{v:AV}{L:List Int}(hv:SlB g b 1 v (wsC L) L.length):countA v=some L.length∧∀ g':Heap,(∀ i,b=some i→g'.get i=g.get i)→addedA g' 1 v=some (wsC L):=by
 cases b with
 | none=>
  have e:v = .sl none 0 (.ex 0):=hv.eq
  obtain rfl:L = []:=List.eq_nil_of_length_eq_zero (hv.nil rfl)
  subst e
  exact⟨rfl,fun _ _=>rfl⟩
 | some i=>
  have e:v = .sl (some (i,0)) L.length (.un 1):=hv.eq
  obtain⟨b1,b2,b3⟩:=hv.blk i rfl
  subst e
  refine⟨rfl,fun g' hg=>?_⟩
  have:loadN g' (i,0) (L.length * 1)=some (wsC L):=by
   simp only [loadN,hg i rfl,b2,spanF_eq]
   have hl:(wsC L).length=L.length * 1:=by rw [wsC_len];omega
   rw [span_some _ _ _ (by omega),List.drop_zero,← hl,List.take_length]
  simp only [addedA,this]
def Srd (h:Heap)(v:AV)(G:List Int):Prop:=(v = .sl none 0 (.ex 0)∧G = [])∨((∃ p n c,v = .sl (some p) n c)∧countA v=some G.length∧∀ g,Same [] h g→addedA g 1 v=some (wsC G))
theorem Srd.of {h:Heap}{b:Option Nat}{v:AV}{G:List Int}(H:SlB h b 1 v (wsC G) G.length):Srd h v G:=by
 cases b with
 | none=>exact .inl ⟨H.eq,List.eq_nil_of_length_eq_zero (H.nil rfl)⟩
 | some i=>
  obtain⟨h1,h2⟩:=added_slb H
  exact .inr ⟨⟨_,_,_,H.eq⟩,h1,fun g s=>h2 g fun j hj=>s.get j (H.blk j hj).1 (by simp)⟩
section
variable {h:Heap}{C:Nat→Nat}{l:PAl}{T:List Shp}{qb:Option Nat}{gq:List Int}{X:List Nat}
def Todo (g:Heap)(base:Nat)(v:AV)(q:List Int):Prop:=(q = []∧lnL v=some (.int .i64 0))∨∃ b,QuV g base b v q
theorem Todo.len {g:Heap}{base:Nat}{v:AV}{q:List Int}(H:Todo g base v q):lnL v=some (.int .i64 q.length):=by
 rcases H with⟨rfl,h⟩ | ⟨b,h⟩
 ·exact h
 ·exact h.lnL
theorem clone_ok {v:AV}{G:List Int}(hv:Srd h v G)(hG:G.length≤2 ^ 30):Ok (AQ v h) fun r=>Todo r.2 h.next r.1 G∧Same [] h r.2:=by
 have eqn:∀ p n c,eqP (some (.slice 0)) none false .eql (.sl (some p) n c) (.sl none 0 (.ex 0))=some (.bool false):=fun p n c=>rfl
 have eqz:eqP (some (.slice 0)) none false .eql (.sl none 0 (.ex 0)) (.sl none 0 (.ex 0))=some (.bool true):=rfl
 rcases hv with⟨rfl,rfl⟩ | ⟨⟨p,n,c,rfl⟩,hc,ha⟩
 ·exact ok_val (v:=.sl none 0 (.ex 0)) (g:=h) (by simp -implicitDefEqProofs only [AQ,eqz,Option.bind_some,condE_true]) ⟨.inr ⟨none,QuV.mt⟩,Same.refl _ _⟩
 ·have b1:bsP 1 [AV.int .i64 0] 0 []=some (.cells true [],fun i=>.sl (some (i,0)) 0 (.ex 0)):=rfl
  have s1:Same [] h (h.new (.cells true [])):=Same.new _ _
  have G1:SlG (h.new (.cells true [])) (some h.next) 1 (.sl (some (h.next,0)) 0 (.ex 0)) [] 0:=.inr ⟨h.next,rfl,rfl,rfl,rfl,get_new_eq,Nat.lt_succ_self _⟩
  obtain⟨b',v',g',e,G2,s2,hb⟩:=appS (bytes:=8) G1 hc (ha _ s1) (by rw [wsC_len];omega) (sc_ws G) (by decide) (by omega)
  refine ok_val (by simp -implicitDefEqProofs only [AQ,eqn,Option.bind_some,condE_false,b1,mk_some,e,cl_some]<;>rfl) ⟨?_,s1.old s2 (fun j hj=>by simp at hj;right;omega)⟩
  rw [List.nil_append,Nat.zero_add] at G2
  by_cases h0:0<G.length
  ·have hs:=G2.slb h0
   cases b' with
   | none=>have:=hs.nil rfl;omega
   | some i=>
    obtain⟨h1,h2,h3⟩:=hs.blk i rfl
    refine .inr ⟨some i,⟨(fun h=>by cases h),fun j hj=>?_⟩⟩
    cases hj
    refine⟨?_,h1,[],by simpa using h2,hs.eq⟩
    rcases hb with hb | hb
    ·cases hb;exact Nat.le_refl _
    ·cases hb;exact Nat.le_succ _
  ·have:G = []:=List.eq_nil_of_length_eq_zero (by omega)
   subst this
   refine .inl ⟨rfl,?_⟩
   rcases G2 with hs | ⟨i,_,rfl,_⟩
   ·exact hs.lnL
   ·rfl
theorem is_find (a:PAr)(x:Int):a.is x=true↔a.find x≠none:=by
 unfold PAr.is;cases a.find x<;>simp
theorem find_rng {a:PAr}(H:Wf a){x:Int}(h:a.find x≠none):64≤x∧x < 32768:=by
 obtain⟨⟨m,q⟩,hf⟩:=Option.ne_none_iff_exists'.1 h
 obtain⟨W,hl⟩:=lies_of H hf
 have:=hl.pos H
 exact⟨this.1,this.2.1⟩
theorem reach_ok (H:Mm h C l T qb gq X){v:AV}{G:List Int}(hv:Srd h v G)(hG:G.length≤2 ^ 30) :
  Ok (B4 (.ptr (some (C 11,0))) v h) fun r=>∃ R,RchL T l.ar G R∧R.length≤32768∧Back h r.2 r.1 R:=by
 have s0:Same [] h (h.new (.mp [])):=Same.new _ _
 have g0:(h.new (.mp [])).get h.next=some (.mp []):=get_new_eq
 have n0:(h.new (.mp [])).next=h.next+1:=rfl
 refine Ok.eq ?_ (by simp -implicitDefEqProofs only [B4,mk_some]<;>rfl)
 generalize h.new (.mp [])=h0 at *
 have hv0:Srd h0 v G:=by
  rcases hv with h1 | ⟨h1,h2,h3⟩
  ·exact .inl h1
  ·exact .inr ⟨h1,h2,fun g s=>h3 g (s0.trans s)⟩
 refine ok_cl (clone_ok hv0 hG) ?_
 rintro v1 g1 ⟨t1,s1⟩
 simp only at t1 s1
 rw [n0] at t1
 have lp:Ok (DN (.ptr (some (C 11,0))) (.mp (some h.next)) v1 g1) fun r=>r.1 = .exit 0∧∃ S,r.2.2.get h.next=some (.mp (SetM S))∧Same [] h r.2.2∧h.next<r.2.2.next∧RI T l.ar G S []:=by
  refine ok_loop (fun m vs g=>∃ (S q:List Int) (w:AV),vs = [w]∧g.get h.next=some (.mp (SetM S))∧Same [] h g∧h.next<g.next∧Todo g (h.next+1) w q∧RI T l.ar G S q∧m=65*(32768-sc S)+q.length∧m≤65 * 32768+G.length) ?_ (n:=65*(32768-sc [])+G.length) (by have:=sc_le [];omega)
   ⟨[],G,v1,rfl,(s1.get _ (by omega) (by simp)).trans g0,s0.trans s1,by have:=s1.next;omega,t1,ri_start,rfl,by have:=sc_le [];omega⟩
  rintro m vs g ⟨S,q,w,rfl,hm,s,hlt,t,R,em,hM⟩
  show Ok (Au _ _ w g) _
  have ln:=t.len
  cases q with
  | nil=>
   have z : ¬ (0:Int)<(([]:List Int).length:Int):=by simp
   exact(Ok.of (r:=(.exit 0,[w],g)) (.inr ⟨by simp,rfl,S,hm,s,hlt,R⟩)).eq (by
    simp -implicitDefEqProofs only [Au,ln,Option.bind_some,bin_gtr,z,decide_false,condE_false])
  | cons x q=>
   obtain⟨b,hq⟩:∃ b,QuV g (h.next+1) b w (x::q):=by
    rcases t with⟨h,_⟩ | h
    ·cases h
    ·exact h
   obtain⟨i,o,hb,hve,hld,w',hsl,hq'⟩:=hq.tail
   have z:(0:Int)<((x::q).length:Int):=by simp only [List.length_cons];omega
   have hix:iaS 1 w (.int .i64 0)=some (.ptr (some (i,o))):=by
    rw [hve,iaS_sl 1 _ _ _ _ _ ⟨by omega,by omega⟩];simp
   have lk:lkP (fdA (.int .i64)) (AV.bool false) false g (.mp (some h.next)) (.int .i64 x)=some (.bool (decide (x∈S))):=by
    simp only [lkP,hm,set_find,Option.bind_some]
    by_cases hx:x∈S<;>simp [hx]
   have Hg:=H.keep s
   simp only [List.length_cons] at em
   by_cases hx:x∈S
   ·refine(Ok.of (r:=(.normal,[w'],g)) (.inl ⟨rfl,m - 1,by omega,S,q,w',rfl,hm,s,hlt,.inr ⟨b,hq'⟩,ri_skip R (.inl hx),by omega,by omega⟩)).eq (by
     simp -implicitDefEqProofs only [Au,ln,Option.bind_some,bin_gtr,z,decide_true,condE_true,hix,hld,hsl,lk,hx,un_not,Bool.not_true,gdW_ft,gQ_false,pickP_bool,Bool.false_eq_true,if_false,condE_false])
   ·by_cases hf:l.ar.find x=none
    ·have his:l.ar.is x=false:=by unfold PAr.is;rw [hf];rfl
     refine(Ok.of (r:=(.normal,[w'],g)) (.inl ⟨rfl,m - 1,by omega,S,q,w',rfl,hm,s,hlt,.inr ⟨b,hq'⟩,ri_skip R (.inr hf),by omega,by omega⟩)).eq (by
      simp -implicitDefEqProofs only [Au,ln,Option.bind_some,bin_gtr,z,decide_true,condE_true,hix,hld,hsl,lk,hx,decide_false,un_not,Bool.not_false,gdW_tt,gQ_true,cl_some,nilV_ptr,faP_ptr,Nat.zero_add,Hg.m 0 _ rfl,is_eq Hg.al.ar,his,pickP_bool,if_true,condE_false])
    ·have his:l.ar.is x=true:=(is_find _ _).2 hf
     have hr:=find_rng H.wf hf
     have mu:muP (ptA (.int .i64)) g (.mp (some h.next)) (.int .i64 x) (.bool true)=some (.bot,g.put h.next (some (.mp (SetM (S ++ [x]))))):=by
      simp only [muP,hm,set_put hx,Option.map_some]
     have s2:Same [h.next] g (g.put h.next (some (.mp (SetM (S ++ [x]))))):=Same.put _ _ _
     have p2:(g.put h.next (some (.mp (SetM (S ++ [x]))))).get h.next=some (.mp (SetM (S ++ [x]))):=get_put_eq
     have s02:Same [] h (g.put h.next (some (.mp (SetM (S ++ [x]))))):=s.old s2 (fun j hj=>by simp at hj;right;omega)
     have n2:(g.put h.next (some (.mp (SetM (S ++ [x]))))).next=g.next:=rfl
     refine Ok.eq ?_ (by simp -implicitDefEqProofs only [Au,ln,Option.bind_some,bin_gtr,z,decide_true,condE_true,hix,hld,hsl,lk,hx,decide_false,un_not,Bool.not_false,gdW_tt,gQ_true,cl_some,nilV_ptr,faP_ptr,Nat.zero_add,Hg.m 0 _ rfl,is_eq Hg.al.ar,his,pickP_bool,if_true,mu]<;>rfl)
     generalize g.put h.next (some (.mp (SetM (S ++ [x]))))=g2 at *
     refine ok_cl (fields_ok (H.keep s02) x) ?_
     rintro vF g3 ⟨bF,hvF,s3,hbF⟩
     simp only at hvF s3
     obtain⟨hcF,haF⟩:=added_slb hvF
     have hq2:=(hq'.keep s2 (fun j hj=>by have:=(hq'.blk j hj).1;simp;omega)).keep s3 (by simp)
     have fl:=fieldsL_len T l.ar x
     obtain⟨b4,w4,g4,e4,hq4,s4,hb4⟩:=hq2.appL hcF (haF g3 fun _ _=>rfl) rfl (by have:=s3.next;omega) (by omega)
     have hsc:=sc_add (S:=S) (x:=x) (by omega) hx
     have hsl:=sc_le (S ++ [x])
     have s34:Same [] g2 g3:=s3
     have hb1:∀ j,j∈b.toList→h.next+1≤j:=fun j hj=>(hq.blk j (by simpa using hj)).1
     have hm4:g4.get h.next=some (.mp (SetM (S ++ [x]))):=(s4.get _ (by have:=s3.next;omega) (fun hj=>by have:=hb1 _ hj;omega)).trans ((s3.get _ (by omega) (by simp)).trans p2)
     refine(Ok.of (r:=(.normal,[w4],g4)) (.inl ⟨rfl,65*(32768-sc (S ++ [x]))+(q++fieldsL T l.ar x).length,by rw [List.length_append];omega,S ++ [x],q++fieldsL T l.ar x,w4,rfl,hm4,(s02.trans s3).old s4 (fun j hj=>by have:=hb1 j hj;right;omega),(show h.next<g4.next by have:=s3.next;have:=s4.next;omega),.inr ⟨b4,hq4⟩,ri_step R hx hf,rfl,by rw [List.length_append];omega⟩)).eq (by
      simp -implicitDefEqProofs only [e4,cl_some])
 refine ok_lp lp ?_
 rintro _ vs g2 ⟨rfl,S,hm,s,hlt,R⟩
 simp only at hm s hlt
 have RL:=ri_end R
 have hSr:∀ x∈S,64≤x∧x < 32768:=fun x hx=>find_rng H.wf (R.so x hx).found
 have hok:okKeys S=true:=ok_keys R.nd fun x hx=>wf_small (by have:=hSr x hx;omega)
 have hSl:S.length≤32768:=by
  have e:=cnt_listI (f:=fun x:Int=>x.toNat) (N:=32768) S (fun x hx=>by have:=hSr x hx;omega) (List.Pairwise.imp_of_mem (fun {x y} hx hy hne e=>hne (by have:=hSr x hx;have:=hSr y hy;omega)) R.nd)
  have:=cnt_le (fun j=>S.any fun t=>decide (t.toNat=j)) 32768
  omega
 have hil:(isort S).length=S.length:=(isort_perm S).length_eq
 have gm:(g2.new (.cells false [.mp (some h.next)])).get h.next=some (.mp (SetM S)):=by rw [get_new_ne (by omega)];exact hm
 have gn:(g2.new (.cells false [.mp (some h.next)])).get g2.next=some (.cells false [.mp (some h.next)]):=get_new_eq
 have s3:Same [] g2 (g2.new (.cells false [.mp (some h.next)])):=Same.new _ _
 have hs:Ok (some (ownInts (isort S) (g2.new (.cells false [.mp (some h.next)])))) fun r=>∃ R,RchL T l.ar G R∧R.length≤32768∧Back h r.2 r.1 R:=by
  refine Ok.of ⟨isort S,RL,by omega,?_⟩
  have sh:=s.trans s3
  generalize g2.new (.cells false [.mp (some h.next)])=g3 at *
  generalize isort S=R0 at *
  cases R0 with
  | nil=>exact Back.mt sh
  | cons x R0=>
   refine⟨some g3.next,⟨by simp [wsC],sc_ws _,rfl,(fun h=>by cases h),fun i hi=>?_⟩,sh.trans (Same.new _ _),fun j hj=>by cases hj;exact sh.next⟩
   cases hi
   exact⟨Nat.lt_succ_self _,get_new_eq,by simp⟩
 refine hs.eq ?_
 have hle:S.length≤1099511627776:=by omega
 simp -implicitDefEqProofs only [if_true,thenK_normal,Am,keysV,cl_some,Cu,sortedV,gn,gm,set_keys,Option.bind_some,hok,hle,and_self]
 exact cl_id _
end
end Go.Ab.F
