import Derived.Test.YtlkhjkbepijegaaGreatDoorMar
import Derived.Test.YtlkhjkbepijegaaGreatDoorYcc
namespace Go.Ab.F
open Go Go.Ab
set_option linter.all false
set_option linter.all false
inductive Rc (F:Int→Prop) (fl:Int→List Int) (G:Int→Prop):Int→Prop
 | root {x:Int}:G x→F x→Rc F fl G x
 | step {x y:Int}:Rc F fl G x→y∈fl x→F y→Rc F fl G y
inductive Pr (F:Int→Prop) (fl:Int→List Int) (M:Int→Prop) (q:List Int):Int→Prop
 | grey {x y:Int}:x∈q→y∈fl x→F y→Pr F fl M q y
 | step {x y:Int}:Pr F fl M q x→¬ M x→y∈fl x→F y→Pr F fl M q y
def Okk (F:Int→Prop)(fl:Int→List Int)(M:Int→Prop)(q:List Int)(y:Int):Prop:=M y∨Pr F fl M q y
structure Tc (F:Int→Prop)(fl:Int→List Int)(M:Int→Prop)(q:List Int)(B:Int→Prop):Prop where
 qm:∀ x∈q,M x
 t1:∀ x,M x→x∉q→∀ y∈fl x,F y→Okk F fl M q y
 t2:∀ y,B y→Okk F fl M q y
section
variable {F F':Int→Prop}{fl fl':Int→List Int}{M M':Int→Prop}{q q':List Int}{B B' G G':Int→Prop}
theorem Pr.f {y:Int}(h:Pr F fl M q y):F y:=by cases h<;>assumption
theorem Rc.f {y:Int}(h:Rc F fl G y):F y:=by cases h<;>assumption
theorem rc_mono (hG:∀ x,G x→F x→Rc F fl G' x){x:Int}(h:Rc F fl G x):Rc F fl G' x:=by
 induction h with
 | root h1 h2=>exact hG _ h1 h2
 | step h1 h2 h3 ih=>exact .step ih h2 h3
theorem Tc.sub (T:Tc F fl M q B)(h:∀ y,B' y→B y):Tc F fl M q B':=⟨T.qm,T.t1,fun y hy=>T.t2 y (h y hy)⟩
theorem okk_mark (h1:∀ y,M y→M' y)(h2:∀ y,M' y→M y∨y∈q')(h3:∀ x∈q,x∈q'∨∀ z∈fl x,F z→M' z){y:Int}(h:Okk F fl M q y):Okk F fl M' q' y:=by
 have key:∀ y,Pr F fl M q y→M' y∨Pr F fl M' q' y:=fun y h=>by
  induction h with
  | grey a b c=>
   rcases h3 _ a with h | h
   ·exact .inr (.grey h b c)
   ·exact .inl (h _ b c)
  | step a b c d ih=>
   rename_i x y
   by_cases hm:M' x
   ·rcases h2 x hm with h | h
    ·exact absurd h b
    ·exact .inr (.grey h c d)
   ·rcases ih with h | h
    ·exact absurd h hm
    ·exact .inr (.step h hm c d)
 rcases h with h | h
 ·exact .inl (h1 y h)
 ·exact key y h
theorem tc_mark (T:Tc F fl M q B)(h1:∀ y,M y→M' y)(h2:∀ y,M' y→M y∨y∈q')(h3:∀ x∈q,x∈q'∨∀ z∈fl x,F z→M' z)(h4:∀ x∈q',M' x)(h5:∀ y,B' y→B y∨M' y):Tc F fl M' q' B':=
 ⟨h4,fun x hx hq y hy hf=>by
  rcases h2 x hx with h | h
  ·by_cases hxq:x∈q
   ·rcases h3 x hxq with h6 | h6
    ·exact absurd h6 hq
    ·exact .inl (h6 y hy hf)
   ·exact okk_mark h1 h2 h3 (T.t1 x h hxq y hy hf)
  ·exact absurd h hq,fun y hy=>by
  rcases h5 y hy with h | h
  ·exact okk_mark h1 h2 h3 (T.t2 y h)
  ·exact .inl h⟩
theorem okk_write {a:Int}(h1:∀ x,x≠a→fl' x=fl x)(h2:∀ y∈fl a,F y→y∈fl' a∨M y){y:Int}(h:Okk F fl M q y):Okk F fl' M q y:=by
 have kept:∀ x y,y∈fl x→F y→y∈fl' x∨M y:=fun x y hy hf=>by
  by_cases e:x=a
  ·subst e;exact h2 y hy hf
  ·rw [h1 x e];exact .inl hy
 have key:∀ y,Pr F fl M q y→M y∨Pr F fl' M q y:=fun y h=>by
  induction h with
  | grey a b c=>
   rcases kept _ _ b c with h | h
   ·exact .inr (.grey a h c)
   ·exact .inl h
  | step a b c d ih=>
   rcases kept _ _ c d with h | h
   ·rcases ih with h' | h'
    ·exact absurd h' b
    ·exact .inr (.step h' b h d)
   ·exact .inl h
 rcases h with h | h
 ·exact .inl h
 ·exact key y h
theorem tc_write (T:Tc F fl M q B){a b:Int}(h1:∀ x,x≠a→fl' x=fl x)(h2:∀ y∈fl a,F y→y∈fl' a∨M y)(h3:∀ y∈fl' a,y∈fl a∨y=b)(h4:F b→Okk F fl M q b):Tc F fl' M q B:=
 ⟨T.qm,fun x hx hq y hy hf=>by
  have:y∈fl x∨y=b:=by
   by_cases e:x=a
   ·subst e;exact h3 y hy
   ·rw [h1 x e] at hy;exact .inl hy
  rcases this with h | rfl
  ·exact okk_write h1 h2 (T.t1 x hx hq y h hf)
  ·exact okk_write h1 h2 (h4 hf),fun y hy=>okk_write h1 h2 (T.t2 y hy)⟩
theorem okk_new {ad:Int}(h0 : ¬ F ad)(hF:∀ x,F x→F' x)(hM:∀ x,x≠ad→(M' x↔M x))(hl:∀ x,F x→fl' x=fl x)(hq:∀ x∈q,F x){y:Int}(hy:y≠ad)(h:Okk F fl M q y):Okk F' fl' M' q y:=by
 have key:∀ y,Pr F fl M q y→Pr F' fl' M' q y:=fun y h=>by
  induction h with
  | grey a b c=>exact .grey a (by rw [hl _ (hq _ a)];exact b) (hF _ c)
  | step a b c d ih=>
   have hx:=a.f
   exact .step ih (fun hm=>b ((hM _ (fun e=>h0 (by rw [← e];exact hx))).1 hm)) (by rw [hl _ hx];exact c) (hF _ d)
 rcases h with h | h
 ·exact .inl ((hM y hy).2 h)
 ·exact .inr (key y h)
theorem tc_new (T:Tc F fl M q B){ad:Int}(h0 : ¬ F ad)(hF:∀ x,F' x↔F x∨x=ad)(hM:∀ x,x≠ad→(M' x↔M x))(ha:M' ad)(hMF:∀ x,M x→F x)(hl:∀ x,F x→fl' x=fl x)(hn:fl' ad = [])(hB:∀ y,B' y→B y∨y=ad):Tc F' fl' M' q B':=by
 have hq:∀ x∈q,F x:=fun x hx=>hMF x (T.qm x hx)
 have ok:∀ y,Okk F fl M q y→Okk F' fl' M' q y:=fun y h=>by
  by_cases e:y=ad
  ·subst e;exact .inl ha
  ·exact okk_new h0 (fun x hx=>(hF x).2 (.inl hx)) hM hl hq e h
 refine⟨fun x hx=>?_,fun x hx hxq y hy hf=>?_,fun y hy=>?_⟩
 ·by_cases e:x=ad
  ·subst e;exact ha
  ·exact(hM x e).2 (T.qm x hx)
 ·by_cases e:x=ad
  ·subst e;rw [hn] at hy;cases hy
  ·have hx':=(hM x e).1 hx
   rw [hl x (hMF x hx')] at hy
   rcases (hF y).1 hf with h | h
   ·exact ok y (T.t1 x hx' hxq y hy h)
   ·subst h;exact .inl ha
 ·rcases hB y hy with h | h
  ·exact ok y (T.t2 y h)
  ·subst h;exact .inl ha
theorem Tc.okk_fl (T:Tc F fl M q B){a y:Int}(h:Okk F fl M q a)(hy:y∈fl a)(hf:F y):Okk F fl M q y:=by
 by_cases hm:M a
 ·by_cases hq:a∈q
  ·exact .inr (.grey hq hy hf)
  ·exact T.t1 a hm hq y hy hf
 ·rcases h with h | h
  ·exact absurd h hm
  ·exact .inr (.step h hm hy hf)
theorem Tc.end (T:Tc F fl M [] B)(hG:∀ x,G x→B x){x:Int}(h:Rc F fl G x):M x:=by
 have np:∀ y,¬ Pr F fl M [] y:=fun y h=>by
  induction h with
  | grey a=>cases a
  | step _ _ _ _ ih=>exact ih
 induction h with
 | root h1 h2=>rcases T.t2 _ (hG _ h1) with h | h;exact h;exact absurd h (np _)
 | step h1 h2 h3 ih=>rcases T.t1 _ ih (by simp) _ h2 h3 with h | h;exact h;exact absurd h (np _)
end
set_option linter.all false
def HdT (T:List Shp)(W:List Int):Prop:=∃ n kd sh s,unpR ((W[0]?).getD 0)=some (n,kd,sh)∧n≤W.length∧shpT T sh=some s
structure Lv (a:PAr):Prop where
 wf:Wf a
 hd:∀ x,a.find x≠none→∃ W,Lies a x W∧(∀ w∈W,wf64 w)∧HdT sh7 W
theorem Lv.lies {a:PAr}(H:Lv a){x:Int}{W:List Int}(hl:Lies a x W):a.find x≠none:=by
 obtain⟨n,q,h⟩:=hl.find H.wf
 rw [h];simp
theorem Lv.to {a b:PAr}(H:Lv a)(w:Wf b)(h:∀ x,b.find x≠none→a.find x≠none∧∀ W,Lies a x W→Lies b x W):Lv b∧∀ x,b.find x≠none→fieldsL sh7 b x=fieldsL sh7 a x:=by
 refine⟨⟨w,fun x hx=>?_⟩,fun x hx=>?_⟩
 ·obtain⟨h1,h2⟩:=h x hx
  obtain⟨W,l,w64,ht⟩:=H.hd x h1
  exact⟨W,h2 W l,w64,ht⟩
 ·obtain⟨h1,h2⟩:=h x hx
  obtain⟨W,l,w64,ht⟩:=H.hd x h1
  rw [fields_tm H.wf l w64,fields_tm w (h2 W l) w64]
theorem Lv.swe {l l':PAl}(H:Lv l.ar)(S:SwE l l'):Lv l'.ar∧∀ x,l'.ar.find x≠none→fieldsL sh7 l'.ar x=fieldsL sh7 l.ar x:=
 H.to S.wf fun x hx=>⟨S.back hx,fun W hl=>S.lies x W hl hx⟩
theorem mem_fieldsW {s:Shp}{W:List Int}{w:Int}{k:Nat}{y:Int}:y∈fieldsW s W w k↔∃ i:Nat,i<k∧holdsB s i w=true∧(W[i+1]?).getD 0=y∧y≠0:=by
 unfold fieldsW
 rw [List.mem_filterMap]
 constructor
 ·rintro⟨i,hi,h⟩
  split at h
  ·rename_i hc
   have:=Option.some.inj h
   exact⟨i,by simpa using hi,hc.1,this,by rw [← this];exact hc.2⟩
  ·cases h
 ·rintro⟨i,hi,h1,h2,h3⟩
  exact⟨i,by simpa using hi,by rw [if_pos ⟨h1,by rw [h2];exact h3⟩,h2]⟩
theorem shpT_some {T:List Shp}{sh:Int}{s:Shp}(h:shpT T sh=some s):T[sh.toNat]?=some s:=by
 unfold shpT at h
 split at h
 ·cases h
 ·exact h
theorem fieldsT_eq {W:List Int}{n kd sh:Int}{s:Shp}(h1:unpR ((W[0]?).getD 0)=some (n,kd,sh))(h2:n≤W.length)(h3:shpT sh7 sh=some s):fieldsT sh7 W=fieldsW s W n (n - 1).toNat:=by
 unfold fieldsT
 rw [h1]
 simp only
 rw [if_neg (by omega),shpT_some h3]
theorem Lv.head {a:PAr}(H:Lv a){x:Int}(hx:a.find x≠none):∃ n kd sh s W,Lies a x W∧(∀ w∈W,wf64 w)∧(a.read x 0).2=0∧unp (a.read x 0).1=some (n,kd,sh)∧shpT sh7 sh=some s∧unpR ((W[0]?).getD 0)=some (n,kd,sh)∧n≤W.length∧fieldsL sh7 a x=fieldsW s W n (n - 1).toNat:=by
 obtain⟨W,hl,w64,n,kd,sh,s,h1,h2,h3⟩:=H.hd x hx
 have hp:=(hl.pos H.wf).2.2
 have r0:=hl.read H.wf 0
 rw [if_pos ⟨by omega,by omega⟩] at r0
 have w0:wf64 ((W[(0:Int).toNat]?).getD 0):=by
  cases hy:W[(0:Int).toNat]? with
  | none=>unfold wf64;simp
  | some y=>exact w64 y (List.mem_of_getElem? hy)
 refine⟨n,kd,sh,s,W,hl,w64,by rw [r0],by rw [r0,unp_r w0];exact h1,h3,h1,h2,?_⟩
 rw [fields_tm H.wf hl w64,fieldsT_eq h1 h2 h3]
theorem Lv.write {a:PAr}(H:Lv a){x:Int}(hx:a.find x≠none){f:Nat}{v:Int}(hv:wf64 v) :
  Lv (a.write x (1+f) v).2∧(a.write x (1+f) v).2.sp=a.sp∧(∀ y,y≠x→fieldsL sh7 (a.write x (1+f) v).2 y=fieldsL sh7 a y)∧
  (∀ y∈fieldsL sh7 a x,y∈fieldsL sh7 (a.write x (1+f) v).2 x∨y=(a.read x (1+f)).1)∧∀ y∈fieldsL sh7 (a.write x (1+f) v).2 x,y∈fieldsL sh7 a x∨y=v:=by
 obtain⟨n,kd,sh,s,W,hl,w64,_,_,h3,h1,h2,hf⟩:=H.head hx
 by_cases hk:1+f<W.length
 ·obtain⟨b,e,wb,sp,lb,lo⟩:=hl.write H.wf (k:=((1+f:Nat):Int)) ⟨by omega,by omega⟩ v
  have ek:((1+f:Nat):Int)=1+(f:Int):=by omega
  rw [ek] at e
  rw [e]
  have fs:=find_sp sp
  have w64':∀ w∈W.set (1+f) v,wf64 w:=fun w hw=>by
   rcases List.mem_or_eq_of_mem_set hw with h | h
   ·exact w64 w h
   ·rw [h];exact hv
  rw [Int.toNat_natCast] at lb
  have h0:((W.set (1+f) v)[0]?).getD 0=(W[0]?).getD 0:=by rw [List.getElem?_set_ne (by omega)]
  have h1':unpR (((W.set (1+f) v)[0]?).getD 0)=some (n,kd,sh):=by rw [h0];exact h1
  have h2':n≤((W.set (1+f) v).length:Int):=by rw [List.length_set];exact h2
  have L':Lv b:=⟨wb,fun y hy=>by
   by_cases e:y=x
   ·subst e;exact⟨_,lb,w64',n,kd,sh,s,h1',h2',h3⟩
   ·obtain⟨W',l',w',t'⟩:=H.hd y (by rw [← fs];exact hy)
    exact⟨W',lo y W' e l',w',t'⟩⟩
  have hf':fieldsL sh7 b x=fieldsW s (W.set (1+f) v) n (n - 1).toNat:=by rw [fields_tm wb lb w64',fieldsT_eq h1' h2' h3]
  have rd:(a.read x (1+f)).1=(W[1+f]?).getD 0:=by
   have r:=hl.read H.wf ((1+f:Nat):Int)
   rw [if_pos ⟨by omega,by omega⟩,ek] at r
   rw [r]
   have:(1+(f:Int)).toNat=1+f:=by omega
   rw [this]
  refine⟨L',sp,fun y hy=>?_,fun y hy=>?_,fun y hy=>?_⟩
  ·by_cases hfy:a.find y=none
   ·rw [fields_no hfy,fields_no (by rw [fs];exact hfy)]
   ·obtain⟨W',l',w',_⟩:=H.hd y hfy
    rw [fields_tm wb (lo y W' hy l') w',fields_tm H.wf l' w']
  ·rw [hf,mem_fieldsW] at hy
   obtain⟨i,a1,a2,a3,a4⟩:=hy
   by_cases e:i=f
   ·right;rw [rd,← a3,e,Nat.add_comm]
   ·left;rw [hf',mem_fieldsW]
    exact⟨i,a1,a2,by rw [List.getElem?_set_ne (by omega)];exact a3,a4⟩
  ·rw [hf',mem_fieldsW] at hy
   obtain⟨i,a1,a2,a3,a4⟩:=hy
   by_cases e:i=f
   ·right
    subst e
    rw [Nat.add_comm i 1,List.getElem?_set_self hk] at a3
    exact a3.symm
   ·left;rw [hf,mem_fieldsW]
    exact⟨i,a1,a2,by rw [List.getElem?_set_ne (by omega)] at a3;exact a3,a4⟩
 ·have hw:a.word x (1+f)=none:=by
   have:=hl.word H.wf (1+(f:Int))
   rw [if_neg (by omega)] at this
   exact this
  rw [write_none hw]
  exact⟨H,rfl,fun y _=>rfl,fun y hy=>.inl hy,fun y hy=>.inl hy⟩
set_option linter.all false
theorem hdW_unp (sh wd:Int):unpR (hdW sh wd)=some (sizeT sh wd,kindW sh,shT sh):=by
 have h1:=sizeT_rng sh wd
 have h2:=kindW_rng sh
 have h3:=shT_rng sh
 rw [← unp_r (hdW_wf sh wd)]
 exact unp_pack ⟨h1.1,h1.2,h2.1,h2.2,h3.1,by omega⟩
theorem shpT_shT (sh:Int):∃ s,shpT sh7 (shT sh)=some s:=by
 obtain⟨s,h,_⟩:=sh7_at (shT_rng sh)
 refine⟨s,?_⟩
 unfold shpT
 rw [if_neg (by have:=shT_rng sh;omega)];exact h
theorem size_le (sh wd:Int):sizeT sh wd≤wordsOf (classOf (sizeT sh wd)):=by
 rcases classOf_range (sizeT sh wd) with h | h
 ·exact absurd h (size_cls sh wd)
 ·exact h.2.2.1
theorem Lv.made {l1 l':PAl}{ad sh wd:Int}(H:Lv l1.ar)(M:Made l1 l' ad (classOf (sizeT sh wd))){b:PAr}(S:SameTk l'.ar b) :
  Lv (b.write ad 0 (hdW sh wd)).2∧(b.write ad 0 (hdW sh wd)).2.sp=b.sp∧(∀ x,(b.write ad 0 (hdW sh wd)).2.find x≠none↔l1.ar.find x≠none∨x=ad)∧(∀ x,l1.ar.find x≠none→fieldsL sh7 (b.write ad 0 (hdW sh wd)).2 x=fieldsL sh7 l1.ar x)∧fieldsL sh7 (b.write ad 0 (hdW sh wd)).2 ad = []:=by
 have lb:=S.lies M.lies
 have wb:=S.wf M.wf
 have hsz:=size_le sh wd
 have hrg:=sizeT_rng sh wd
 have hlen:(List.replicate (wordsOf (classOf (sizeT sh wd))).toNat (0:Int)).length=(wordsOf (classOf (sizeT sh wd))).toNat:=by simp
 obtain⟨c,e,wc,sp,lc,lo⟩:=lb.write wb (k:=0) ⟨by omega,by rw [hlen];omega⟩ (hdW sh wd)
 rw [e]
 have fs:=find_sp sp
 have hfb:∀ x,x≠ad→c.find x=l1.ar.find x:=fun x hx=>by rw [fs,S.find,M.stay.find x hx]
 have hfa:c.find ad≠none:=by
  obtain⟨n,q,h⟩:=lc.find wc
  rw [h];simp
 rw [show(0:Int).toNat=0 from rfl] at lc
 have w64:∀ w∈(List.replicate (wordsOf (classOf (sizeT sh wd))).toNat (0:Int)).set 0 (hdW sh wd),wf64 w:=fun w hw=>by
  rcases List.mem_or_eq_of_mem_set hw with h | h
  ·have:=List.eq_of_mem_replicate h
   subst this;unfold wf64;omega
  ·rw [h];exact hdW_wf sh wd
 have h0:((((List.replicate (wordsOf (classOf (sizeT sh wd))).toNat (0:Int)).set 0 (hdW sh wd))[0]?).getD 0)=hdW sh wd:=by
  rw [List.getElem?_set_self (by rw [hlen];omega)];rfl
 obtain⟨s,hs⟩:=shpT_shT sh
 have hu:unpR ((((List.replicate (wordsOf (classOf (sizeT sh wd))).toNat (0:Int)).set 0 (hdW sh wd))[0]?).getD 0)=some (sizeT sh wd,kindW sh,shT sh):=by rw [h0];exact hdW_unp sh wd
 have hn:sizeT sh wd≤(((List.replicate (wordsOf (classOf (sizeT sh wd))).toNat (0:Int)).set 0 (hdW sh wd)).length:Int):=by rw [List.length_set,hlen];omega
 have old:∀ x,l1.ar.find x≠none→x≠ad:=fun x hx e=>by rw [e,M.none] at hx;exact hx rfl
 have low:∀ x,x≠ad→∀ W,Lies l1.ar x W→Lies c x W:=fun x hx W h=>lo x W hx (S.lies (M.stay.lies x W h))
 refine⟨⟨wc,fun x hx=>?_⟩,sp,fun x=>?_,fun x hx=>?_,?_⟩
 ·by_cases ex:x=ad
  ·subst ex;exact⟨_,lc,w64,_,_,_,s,hu,hn,hs⟩
  ·rw [hfb x ex] at hx
   obtain⟨W,l,w,t⟩:=H.hd x hx
   exact⟨W,low x ex W l,w,t⟩
 ·by_cases ex:x=ad
  ·subst ex;exact⟨fun _=>.inr rfl,fun _=>hfa⟩
  ·show c.find x≠none↔_
   rw [hfb x ex];simp [ex]
 ·obtain⟨W,l,w,_⟩:=H.hd x hx
  rw [fields_tm wc (low x (old x hx) W l) w,fields_tm H.wf l w]
 ·show fieldsL sh7 c ad = []
  rw [fields_tm wc lc w64,fieldsT_eq hu hn hs]
  apply List.eq_nil_iff_forall_not_mem.2
  intro y hy
  rw [mem_fieldsW] at hy
  obtain⟨i,_,_,h3,h4⟩:=hy
  rw [List.getElem?_set_ne (by omega)] at h3
  cases hz:(List.replicate (wordsOf (classOf (sizeT sh wd))).toNat (0:Int))[i+1]? with
  | none=>rw [hz] at h3;exact h4 h3.symm
  | some z=>
   rw [hz] at h3
   have:=List.eq_of_mem_replicate (List.mem_of_getElem? hz)
   subst this
   exact h4 h3.symm
theorem take_none0 {l l1:PAl}(h:∀ m,l.u m=false)(S:SwE l l1):∀ x,l1.ar.find x=l.ar.find x:=fun x=>by
 cases hf:l.ar.find x with
 | none=>
  cases hg:l1.ar.find x with
  | none=>rfl
  | some y=>
   have:=S.back (ad:=x) (by rw [hg];simp)
   rw [hf] at this;exact absurd rfl this
 | some y=>
  obtain⟨m,q⟩:=y
  exact(S.find x m q).2 ⟨hf,fun h1=>by rw [h m] at h1;cases h1⟩
set_option linter.all false
def Fd (a:PAr)(x:Int):Prop:=a.find x≠none
def Mk_ (a:PAr)(x:Int):Prop:=a.isM x=true
def Gs (h:SH)(x:Int):Prop:=∃ i,i < 5∧x∈h.L i
def Bs (p:SC)(h:SH)(y:Int):Prop:=y∈h.L 0∨∃ id,id∈p.bl∧y∈stk h id
def Rd_ (a:PAr)(h:SH):Int→Prop:=Rc (Fd a) (fieldsL sh7 a) (Gs h)
structure TI (p:SC)(h:SH):Prop where
 lv:Lv p.l.ar
 ul:p.l.un.length=p.l.ar.sp.length
 u0:U0 p.l
 n1:1≤p.l.un.length
 on:∀ i,i < 4→h.on i=false→h.L (i+1) = []
 bi:∀ id∈p.bl,id∈ids h
 nd:p.bl.Nodup
 ph:PhOk p
 gq:shB p.ph=false→p.gq = []
 un:p.ph≠3→∀ m,p.l.u m=false
 gf:∀ x,Gs h x→Fd p.l.ar x
 cl:∀ x,Rd_ p.l.ar h x→∀ y∈fieldsL sh7 p.l.ar x,Fd p.l.ar y
 tc:shB p.ph=true→Tc (Fd p.l.ar) (fieldsL sh7 p.l.ar) (Mk_ p.l.ar) p.gq (Bs p h)
 sw:p.ph=3→∀ x,Rd_ p.l.ar h x→p.l.u (spanOf x)=true→Mk_ p.l.ar x
theorem fd_same {a b:PAr}(S:SameTk a b):Fd b=Fd a:=by funext x;unfold Fd;rw [S.find]
theorem fl_same {a b:PAr}(S:SameTk a b):fieldsL sh7 b=fieldsL sh7 a:=by funext x;exact S.fields sh7 x
theorem mk_fd {a:PAr}{x:Int}(h:Mk_ a x):Fd a x:=by
 unfold Mk_ PAr.isM at h
 unfold Fd
 intro e
 rw [e] at h;cases h
theorem Lv.same {a b:PAr}(H:Lv a)(S:SameTk a b):Lv b:=(H.to (S.wf H.wf) fun x hx=>⟨by rw [S.find] at hx;exact hx,fun W hl=>S.lies hl⟩).1
theorem TI.marks {p : SC} {h : SH} (I : TI p h) {a : PAr} (S : SameTk p.l.ar a) {gq bl : List Int} {ph dn : Int} (hp : ph = 1 ∨ ph = 2) (hu : p.ph ≠ 3) (hbi : ∀ id ∈ bl, id ∈ ids h) (hnd : bl.Nodup)
    (tc : Tc (Fd p.l.ar) (fieldsL sh7 p.l.ar) (Mk_ a) gq (Bs ⟨⟨a, p.l.un⟩, gq, ph, bl, dn⟩ h)) : TI ⟨⟨a, p.l.un⟩, gq, ph, bl, dn⟩ h :=
  { lv := I.lv.same S
    ul := I.ul.trans S.len.symm
    u0 := I.u0
    n1 := I.n1
    on := I.on
    bi := hbi
    nd := hnd
    ph := by rcases hp with rfl | rfl <;> (unfold PhOk; simp)
    gq := fun hh => by rcases hp with rfl | rfl <;> simp [sh1, sh2] at hh
    un := fun _ => I.un hu
    gf := fun x hx => by rw [fd_same S]; exact I.gf x hx
    cl := by
      show ∀ x, Rd_ a h x → ∀ y ∈ fieldsL sh7 a x, Fd a y
      unfold Rd_; rw [fd_same S, fl_same S]; exact I.cl
    tc := fun _ => by
      show Tc (Fd a) (fieldsL sh7 a) (Mk_ a) gq _
      rw [fd_same S, fl_same S]; exact tc
    sw := fun hh => by rcases hp with rfl | rfl <;> simp at hh }
theorem shade_tc {a:PAr}(H:Lv a){q L:List Int}{B B':Int→Prop}(T:Tc (Fd a) (fieldsL sh7 a) (Mk_ a) q B)(hB:∀ y,B' y→B y∨(y∈L∧Fd a y)):Tc (Fd a) (fieldsL sh7 a) (Mk_ (shadeL a q L).1) (shadeL a q L).2 B':=by
 have hM:=shadeL_isM L q H.wf
 have hQ:=shadeL_q L q H.wf
 refine tc_mark T (fun y hy=>(hM y).2 (.inl hy)) (fun y hy=>(hQ y).2.2 hy) (fun x hx=>.inl ((hQ x).2.1 hx)) (fun x hx=>?_) (fun y hy=>?_)
 ·rcases (hQ x).1 hx with h | h
  ·exact(hM x).2 (.inl (T.qm x h))
  ·exact(hM x).2 (.inr h)
 ·rcases hB y hy with h | h
  ·exact .inl h
  ·exact .inr ((hM y).2 (.inr h))
theorem TI.shade {p:SC}{h:SH}(I:TI p h)(hs:shB p.ph=true)(L:List Int):TI (p.shade L) h∧∀ y∈L,Fd p.l.ar y→Mk_ (p.shade L).l.ar y:=by
 have hp:=shB_iff.1 hs
 refine⟨I.marks (shadeL_same L p.l.ar p.gq) hp (by omega) I.bi I.nd (shade_tc I.lv (I.tc hs) fun y hy=>.inl hy),fun y hy hf=>?_⟩
 exact(shadeL_isM L p.gq I.lv.wf y).2 (.inr ⟨hy,hf⟩)
theorem stk_gs {h:SH}{id y:Int}(hy:y∈stk h id):Gs h y:=by
 unfold stk at hy
 split at hy
 ·exact⟨id.toNat,by omega,hy⟩
 ·simp at hy
theorem TI.black {p:SC}{h:SH}(I:TI p h)(hs:shB p.ph=true){id:Int}(h1:id∉p.bl)(h2:id∈ids h)(hm:∀ y∈stk h id,Okk (Fd p.l.ar) (fieldsL sh7 p.l.ar) (Mk_ p.l.ar) p.gq y):TI (p.black (p.bl ++ [id])) h:=by
 have hp:=shB_iff.1 hs
 have T:=I.tc hs
 refine I.marks (SameTk.refl p.l.ar) hp (by omega) (fun x hx=>?_) ?_ ⟨T.qm,T.t1,fun y hy=>?_⟩
 ·rw [List.mem_append] at hx
  rcases hx with hx | hx
  ·exact I.bi x hx
  ·simp at hx;subst hx;exact h2
 ·rw [List.nodup_append]
  exact⟨I.nd,by simp,fun a ha b hb=>by simp at hb;subst hb;exact fun e=>h1 (e ▸ ha)⟩
 ·rcases hy with hy | ⟨i,hi,hy⟩
  ·exact T.t2 y (.inl hy)
  ·have hi:i∈p.bl ++ [id]:=hi
   rw [List.mem_append] at hi
   rcases hi with hi | hi
   ·exact T.t2 y (.inr ⟨i,hi,hy⟩)
   ·simp at hi;subst hi;exact hm y hy
theorem TI.scan {p:SC}{h:SH}(I:TI p h)(id:Int):TI (p.scan h id).2 h:=by
 by_cases hc:shB p.ph=true∧id∉p.bl∧id∈ids h
 ·rw [scan_yes hc]
  obtain⟨I2,hm⟩:=I.shade hc.1 (stk h id)
  exact I2.black hc.1 hc.2.1 hc.2.2 fun y hy=>.inl (hm y hy (I.gf y (stk_gs hy)))
 ·rw [scan_no hc];exact I
theorem TI.at {p:SC}{h:SH}(I:TI p h)(hs:shB p.ph=true){ph:Int}(hp:ph=1∨ph=2):TI (p.at ph) h:=by
 have hpp:=shB_iff.1 hs
 exact I.marks (SameTk.refl p.l.ar) hp (by omega) I.bi I.nd (I.tc hs)
theorem TI.mstep {p:SC}{h:SH}(I:TI p h)(hs:shB p.ph=true){x:Int}{q:List Int}(hq:p.gq=x::q):TI ((⟨p.l,q,p.ph,p.bl,p.dn⟩:SC).shade (fieldsL sh7 p.l.ar x)) h:=by
 have hp:=shB_iff.1 hs
 have T:=I.tc hs
 rw [hq] at T
 have hM:=shadeL_isM (fieldsL sh7 p.l.ar x) q I.lv.wf
 have hQ:=shadeL_q (fieldsL sh7 p.l.ar x) q I.lv.wf
 refine I.marks (shadeL_same _ p.l.ar q) hp (by omega) I.bi I.nd (tc_mark T (fun y hy=>(hM y).2 (.inl hy)) (fun y hy=>(hQ y).2.2 hy) (fun z hz=>?_) (fun z hz=>?_) (fun y hy=>.inl hy))
 ·rw [List.mem_cons] at hz
  rcases hz with rfl | hz
  ·exact .inr fun y hy hf=>(hM y).2 (.inr ⟨hy,hf⟩)
  ·exact .inl ((hQ z).2.1 hz)
 ·rcases (hQ z).1 hz with h' | h'
  ·exact(hM z).2 (.inl (T.qm z (by simp [h'])))
  ·exact(hM z).2 (.inr h')
theorem TI.stale {p : SC} {h : SH} (I : TI p h) (hp : p.ph = 2) (hq : p.gq = []) (hw : p.wh h = []) : TI ⟨p.l.stale, p.gq, 3, p.bl, p.dn⟩ h := by
  have T := I.tc (by rw [hp]; rfl)
  rw [hq] at T
  have hG : ∀ x, Gs h x → Bs p h x := fun x ⟨i, hi, hx⟩ => by
    cases i with
    | zero => exact .inl hx
    | succ i =>
      have ho : h.on i = true := by
        cases ho : h.on i with
        | true => rfl
        | false => rw [I.on i (by omega) ho] at hx; cases hx
      have hid : ((i : Int) + 1) ∈ ids h := idsN_mem.2 ⟨i, by omega, ho, rfl⟩
      have hb : ((i : Int) + 1) ∈ p.bl := by
        apply Classical.byContradiction
        intro hn
        have : ((i : Int) + 1) ∈ p.wh h := by unfold SC.wh; rw [List.mem_filter]; exact ⟨hid, by simp [hn]⟩
        rw [hw] at this; cases this
      refine .inr ⟨_, hb, ?_⟩
      unfold stk
      rw [if_pos ⟨by omega, by omega⟩]
      have : ((i : Int) + 1).toNat = i + 1 := by omega
      rw [this]; exact hx
  exact
    { lv := I.lv
      ul := by show (p.l.stale.un).length = p.l.ar.sp.length; rw [← I.ul]; simp [PAl.stale]
      u0 := by
        unfold U0 PAl.stale
        have h1 := I.n1
        have : ¬ p.l.ar.has 0 := fun hh => by have := hh.1; omega
        have hc : p.l.ar.cls 0 = -1 := by unfold PAr.cls; rw [if_neg this]
        rw [List.getElem?_map, List.getElem?_range (by omega)]
        simp [hc]
      n1 := by show 1 ≤ (p.l.stale.un).length; have := I.n1; simp [PAl.stale]; exact this
      on := I.on
      bi := I.bi
      nd := I.nd
      ph := by unfold PhOk; simp
      gq := fun _ => hq
      un := fun hh => absurd rfl hh
      gf := I.gf
      cl := I.cl
      tc := fun hh => by simp [sh3] at hh
      sw := fun _ x hx _ => T.end hG hx }
set_option linter.all false
theorem TI.start {p:SC}{h:SH}(I:TI p h):TI (p.start h).2 h:=by
 unfold SC.start
 split
 ·rename_i h0
  have hgq:=I.gq (by rw [h0];rfl)
  have S:=clear_same p.l.ar
  have hcl:∀ x,¬ Mk_ p.l.ar.clear x:=fun x hx=>by unfold Mk_ at hx;rw [clear_isM] at hx;cases hx
  have T0:Tc (Fd p.l.ar.clear) (fieldsL sh7 p.l.ar.clear) (Mk_ p.l.ar.clear) [] (fun _=>False):=⟨(fun x hx=>by cases hx),(fun x hx=>absurd hx (hcl x)),(fun y hy=>False.elim hy)⟩
  have T1:=shade_tc (q:=[]) (L:=h.L 0) (B':=fun y=>y∈h.L 0) (I.lv.same S) T0 (fun y hy=>.inr ⟨hy,by rw [fd_same S];exact I.gf y ⟨0,by omega,hy⟩⟩)
  have S1:=S.trans (shadeL_same (h.L 0) p.l.ar.clear [])
  rw [fd_same S,fl_same S] at T1
  have e:(⟨⟨p.l.ar.clear,p.l.un⟩,p.gq,1,[],p.dn⟩:SC).shade (h.L 0)=⟨⟨(shadeL p.l.ar.clear [] (h.L 0)).1,p.l.un⟩,(shadeL p.l.ar.clear [] (h.L 0)).2,1,[],p.dn⟩:=by
   unfold SC.shade;simp only [hgq]
  show TI ((⟨⟨p.l.ar.clear,p.l.un⟩,p.gq,1,[],p.dn⟩:SC).shade (h.L 0)) h
  rw [e]
  refine I.marks S1 (.inl rfl) (by omega) (fun id hid=>(by cases hid)) List.nodup_nil (T1.sub fun y hy=>?_)
  rcases hy with hy | ⟨id,hid,_⟩
  ·exact hy
  ·cases hid
 ·exact I
theorem rd_swe {l l1:PAl}{h:SH}(H:Lv l.ar)(S:SwE l l1)(hs:∀ x,Rd_ l.ar h x→l.u (spanOf x)=true→Mk_ l.ar x):(∀ x,Rd_ l.ar h x→Fd l1.ar x)∧∀ x,Rd_ l1.ar h x↔Rd_ l.ar h x:=by
 obtain⟨H1,hfl⟩:=H.swe S
 have keep:∀ x,Rd_ l.ar h x→Fd l1.ar x:=fun x hx=>by
  obtain⟨⟨m,q⟩,hf⟩:=Option.ne_none_iff_exists'.1 hx.f
  have hm:=(find_some hf).2.1
  unfold Fd
  rw [(S.find x m q).2 ⟨hf,fun h1 _=>hs x hx (by rw [← hm];exact h1)⟩]
  simp
 refine⟨keep,fun x=>⟨fun hx=>?_,fun hx=>?_⟩⟩
 ·induction hx with
  | root h1 h2=>exact .root h1 (S.back h2)
  | step h1 h2 h3 ih=>rw [hfl _ h1.f] at h2;exact .step ih h2 (S.back h3)
 ·induction hx with
  | root h1 h2=>exact .root h1 (keep _ (.root h1 h2))
  | step h1 h2 h3 ih=>exact .step ih (by rw [hfl _ (keep _ h1)];exact h2) (keep _ (.step h1 h2 h3))
theorem TI.swe {p : SC} {h : SH} (I : TI p h) {l1 : PAl} (S : SwE p.l l1) (hp : p.ph = 3) : TI ⟨l1, p.gq, 3, p.bl, p.dn⟩ h := by
  obtain ⟨H1, hfl⟩ := I.lv.swe S
  obtain ⟨keep, hrd⟩ := rd_swe I.lv S (I.sw hp)
  exact
    { lv := H1
      ul := by show l1.un.length = l1.ar.sp.length; rw [S.unl, S.len]; exact I.ul
      u0 := u0_swe S I.u0
      n1 := by show 1 ≤ l1.un.length; rw [S.unl]; exact I.n1
      on := I.on
      bi := I.bi
      nd := I.nd
      ph := by unfold PhOk; simp
      gq := fun _ => I.gq (by rw [hp]; rfl)
      un := fun hh => absurd rfl hh
      gf := fun x hx => keep x (.root hx (I.gf x hx))
      cl := fun x hx y hy => by
        have hx' := (hrd x).1 hx
        have hy : y ∈ fieldsL sh7 l1.ar x := hy
        rw [hfl x (keep x hx')] at hy
        have hf := I.cl x hx' y hy
        exact keep y (.step hx' hy hf)
      tc := fun hh => by simp [sh3] at hh
      sw := fun _ x hx hu => by
        have hx' := (hrd x).1 hx
        have := I.sw hp x hx' (S.un _ hu)
        unfold Mk_ at this ⊢
        show l1.ar.isM x = true
        rw [S.isM x (keep x hx')]; exact this }
theorem TI.done {p:SC}{h:SH}(I:TI p h)(hp:p.ph=3)(hu:∀ m,p.l.u m=false)(dn:Int):TI ⟨p.l,p.gq,0,p.bl,dn⟩ h:=
 { lv:=I.lv,ul:=I.ul,u0:=I.u0,n1:=I.n1,on:=I.on,bi:=I.bi,nd:=I.nd,ph:=by(unfold PhOk;simp),gq:=fun _=>I.gq (by rw [hp];rfl),un:=fun _=>hu,gf:=I.gf,cl:=I.cl,tc:=fun hh=>by simp [sh0] at hh,sw:=fun hh=>by simp at hh }
theorem TI.step {p:SC}{h:SH}(I:TI p h):TI (p.step sh7 h).2 h:=by
 unfold SC.step
 by_cases h1:p.ph=1
 ·rw [if_pos h1]
  have hs:shB p.ph=true:=by rw [h1];rfl
  cases hw:p.wh h with
  | nil=>exact I.at hs (.inr rfl)
  | cons id l=>exact I.scan id
 ·rw [if_neg h1]
  by_cases h2:p.ph=2
  ·rw [if_pos h2]
   have hs:shB p.ph=true:=by rw [h2];rfl
   cases hq:p.gq with
   | cons x q=>exact I.mstep hs hq
   | nil=>
    cases hw:p.wh h with
    | nil=>have:=I.stale h2 hq hw;rw [hq] at this;exact this
    | cons id l=>exact I.at hs (.inl rfl)
  ·rw [if_neg h2]
   by_cases h3:p.ph=3
   ·rw [if_pos h3]
    unfold SC.swept
    rcases one_cases p.l with⟨e1,_,e3⟩ | ⟨n,e1,e2,e3⟩
    ·rw [if_neg (by rw [e1];simp)]
     exact I.done h3 (fun m=>e3 m.toNat) _
    ·rw [e1,if_pos rfl]
     exact I.swe (swe_one I.lv.wf e3) h3
   ·rw [if_neg h3];exact I
theorem TI.run {h:SH}:∀ (n:Nat) {p:SC},TI p h→TI (p.run sh7 h n) h
 | 0,p,I=>I
 | n+1,p,I=>by
  rw [SC.run]
  split
  ·exact TI.run n I.step
  ·exact I
theorem TI.fin {p:SC}{h:SH}(I:TI p h):TI (p.fin sh7 h) h:=TI.run _ I
theorem TI.whole {p:SC}{h:SH}(I:TI p h):TI (p.whole sh7 h) h:=(I.fin.start).fin
theorem run_end {T:List Shp}{h:SH}:∀ (n:Nat) {p:SC},PhOk p→p.meas h≤n→(p.run T h n).ph=0
 | 0,p,hp,hm=>by
  show p.ph=0
  unfold SC.meas at hm
  split at hm
  ·omega
  ·split at hm
   ·omega
   ·rename_i h1 h2
    have:=shB_iff (n:=p.ph)
    unfold PhOk at hp
    by_cases e1:p.ph=1
    ·exact absurd (this.2 (.inl e1)) h1
    ·by_cases e2:p.ph=2
     ·exact absurd (this.2 (.inr e2)) h1
     ·omega
 | n+1,p,hp,hm=>by
  rw [SC.run]
  split
  ·rename_i hs
   have:=step_less hs
   exact run_end n (step_ph hp).1 (by omega)
  ·rename_i hs
   have hf:(p.step T h).1=false:=by simpa using hs
   unfold SC.step at hf
   unfold PhOk at hp
   split at hf
   ·cases hf
   ·split at hf
    ·cases hf
    ·split at hf
     ·unfold SC.swept at hf;split at hf<;>cases hf
     ·omega
theorem fin_ph {T:List Shp}{p:SC}{h:SH}(hp:PhOk p):(p.fin T h).ph=0:=run_end _ hp (Nat.le_refl _)
theorem whole_ph {T:List Shp}{p:SC}{h:SH}(hp:PhOk p):(p.whole T h).ph=0:=by
 refine fin_ph (start_ph ?_).1
 unfold PhOk;rw [fin_ph hp];simp
set_option linter.all false
theorem rd_hold {a:PAr}{h h':SH}(hG:∀ x,Gs h' x→Rd_ a h x){x:Int}(hx:Rd_ a h' x):Rd_ a h x:=rc_mono (fun x h1 _=>hG x h1) hx
theorem TI.hold {p : SC} {h h' : SH} (I : TI p h) (hG : ∀ x, Gs h' x → Rd_ p.l.ar h x) (on : ∀ i, i < 4 → h'.on i = false → h'.L (i + 1) = []) (bi : ∀ id ∈ p.bl, id ∈ ids h')
    (hB : shB p.ph = true → ∀ y, Bs p h' y → Okk (Fd p.l.ar) (fieldsL sh7 p.l.ar) (Mk_ p.l.ar) p.gq y) : TI p h' :=
  { I with
    on := on
    bi := bi
    gf := fun x hx => (hG x hx).f
    cl := fun x hx => I.cl x (rd_hold hG hx)
    tc := fun hh => ⟨(I.tc hh).qm, (I.tc hh).t1, hB hh⟩
    sw := fun hh x hx => I.sw hh x (rd_hold hG hx) }
theorem gs_rd {p:SC}{h:SH}(I:TI p h){x:Int}(hx:Gs h x):Rd_ p.l.ar h x:=.root hx (I.gf x hx)
structure Ba (p q:SC)(h:SH)(old b id:Int):Prop where
 ti:TI q h
 same:SameTk p.l.ar q.l.ar
 un:q.l.un=p.l.un
 bl:q.bl=p.bl
 ph:q.ph=p.ph
 old:shB p.ph=true→Fd p.l.ar old→Mk_ q.l.ar old
 fr:shB p.ph=true→id∉p.bl→Fd p.l.ar b→Mk_ q.l.ar b
theorem TI.barrier {p:SC}{h:SH}(I:TI p h)(old b id:Int):Ba p (p.barrier old b id) h old b id:=by
 unfold SC.barrier
 cases hs:shB p.ph with
 | false=>
  rw [if_neg (by simp)]
  exact⟨I,SameTk.refl _,rfl,rfl,rfl,fun h=>by simp [hs] at h,fun h=>by simp [hs] at h⟩
 | true=>
  rw [if_pos rfl]
  by_cases hb:id∈p.bl
  ·rw [if_pos hb]
   obtain⟨I1,h1⟩:=I.shade hs [old]
   exact⟨I1,shadeL_same [old] p.l.ar p.gq,rfl,rfl,rfl,fun _ hf=>h1 old (by simp) hf,fun _ hn=>absurd hb hn⟩
  ·rw [if_neg hb]
   obtain⟨I1,h1⟩:=I.shade hs [old,b]
   exact⟨I1,shadeL_same [old,b] p.l.ar p.gq,rfl,rfl,rfl,fun _ hf=>h1 old (by simp) hf,fun _ _ hf=>h1 b (by simp) hf⟩
theorem fl_nz {a:PAr}(H:Lv a){x y:Int}(hy:y∈fieldsL sh7 a x):y≠0:=by
 by_cases hx:a.find x=none
 ·rw [fields_no hx] at hy;cases hy
 ·obtain⟨n,kd,sh,s,W,_,_,_,_,_,_,_,hf⟩:=H.head hx
  rw [hf,mem_fieldsW] at hy
  obtain⟨i,_,_,_,h4⟩:=hy
  exact h4
theorem TI.write {p : SC} {h : SH} (I : TI p h) {x v : Int} {f : Nat} (hx : Gs h x) (hv : v = 0 ∨ Gs h v) (hw : wf64 v)
    (ho : shB p.ph = true → Fd p.l.ar (p.l.ar.read x (1 + f)).1 → Mk_ p.l.ar (p.l.ar.read x (1 + f)).1) (hf : shB p.ph = true → Fd p.l.ar v → Okk (Fd p.l.ar) (fieldsL sh7 p.l.ar) (Mk_ p.l.ar) p.gq v) : TI (p.wr x (1 + f) v) h := by
  obtain ⟨L', sp, f1, f2, f3⟩ := I.lv.write (I.gf x hx) (f := f) hw
  have eF : Fd (p.l.ar.write x (1 + f) v).2 = Fd p.l.ar := by funext y; unfold Fd; rw [find_sp sp]
  have eM : Mk_ (p.l.ar.write x (1 + f) v).2 = Mk_ p.l.ar := by funext y; unfold Mk_; rw [isM_sp sp]
  have fl' : ∀ z y, y ∈ fieldsL sh7 (p.l.ar.write x (1 + f) v).2 z → y ∈ fieldsL sh7 p.l.ar z ∨ y = v := fun z y hy => by
    by_cases e : z = x
    · subst e; exact f3 y hy
    · rw [f1 z e] at hy; exact .inl hy
  have rd : ∀ y, Rd_ (p.l.ar.write x (1 + f) v).2 h y → Rd_ p.l.ar h y := fun y hy => by
    unfold Rd_ at hy
    rw [eF] at hy
    induction hy with
    | root a b => exact .root a b
    | step a b c ih =>
      rcases fl' _ _ b with h1 | rfl
      · exact .step ih h1 c
      · rcases hv with rfl | hv
        · exact absurd rfl (fl_nz L' b)
        · exact .root hv c
  exact
    { I with
      lv := L'
      ul := by show p.l.un.length = (p.l.ar.write x (1 + f) v).2.sp.length; rw [sp]; exact I.ul
      gf := fun y hy => by show Fd (p.l.ar.write x (1 + f) v).2 y; rw [eF]; exact I.gf y hy
      cl := fun z hz y hy => by
        show Fd (p.l.ar.write x (1 + f) v).2 y
        rw [eF]
        rcases fl' z y hy with h1 | rfl
        · exact I.cl z (rd z hz) y h1
        · rcases hv with rfl | hv
          · exact absurd rfl (fl_nz L' hy)
          · exact I.gf _ hv
      tc := fun hh => by
        show Tc (Fd (p.l.ar.write x (1 + f) v).2) (fieldsL sh7 (p.l.ar.write x (1 + f) v).2) (Mk_ (p.l.ar.write x (1 + f) v).2) p.gq (Bs p h)
        rw [eF, eM]
        refine tc_write (I.tc hh) (a := x) (b := v) f1 (fun y hy hfy => ?_) f3 (hf hh)
        rcases f2 y hy with h1 | h1
        · exact .inl h1
        · subst h1; exact .inr (ho hh hfy)
      sw := fun hh y hy hu => by
        show Mk_ (p.l.ar.write x (1 + f) v).2 y
        rw [eM]; exact I.sw hh y (rd y hy) hu }
set_option linter.all false
theorem swe_eq {l l1:PAl}(H:Lv l.ar)(h:∀ m,l.u m=false)(S:SwE l l1):Fd l1.ar=Fd l.ar∧fieldsL sh7 l1.ar=fieldsL sh7 l.ar∧Mk_ l1.ar=Mk_ l.ar∧∀ m,l1.u m=false:=by
 have hf:=take_none0 h S
 have hF:Fd l1.ar=Fd l.ar:=by funext x;unfold Fd;rw [hf x]
 refine⟨hF,?_,?_,fun m=>?_⟩
 ·funext x
  by_cases hx:l1.ar.find x=none
  ·rw [fields_no hx,fields_no (by rw [← hf];exact hx)]
  ·exact(H.swe S).2 x hx
 ·funext x
  unfold Mk_
  by_cases hx:l1.ar.find x=none
  ·unfold PAr.isM;rw [hx,← hf x,hx]
  ·rw [S.isM x hx]
 ·cases e:l1.u m with
  | false=>rfl
  | true=>have:=S.un m e;rw [h m] at this;cases this
theorem TI.swe0 {p : SC} {h : SH} (I : TI p h) {l1 : PAl} (S : SwE p.l l1) (hp : p.ph ≠ 3) : TI ⟨l1, p.gq, p.ph, p.bl, p.dn⟩ h := by
  obtain ⟨eF, eL, eM, eU⟩ := swe_eq I.lv (I.un hp) S
  exact
    { lv := (I.lv.swe S).1
      ul := by show l1.un.length = l1.ar.sp.length; rw [S.unl, S.len]; exact I.ul
      u0 := u0_swe S I.u0
      n1 := by show 1 ≤ l1.un.length; rw [S.unl]; exact I.n1
      on := I.on
      bi := I.bi
      nd := I.nd
      ph := I.ph
      gq := I.gq
      un := fun _ => eU
      gf := fun x hx => by show Fd l1.ar x; rw [eF]; exact I.gf x hx
      cl := by show ∀ x, Rd_ l1.ar h x → ∀ y ∈ fieldsL sh7 l1.ar x, Fd l1.ar y; unfold Rd_; rw [eF, eL]; exact I.cl
      tc := fun hh => by show Tc (Fd l1.ar) (fieldsL sh7 l1.ar) (Mk_ l1.ar) p.gq (Bs p h); rw [eF, eL, eM]; exact I.tc hh
      sw := fun hh => absurd hh hp }
theorem TI.swes {p:SC}{h:SH}(I:TI p h){l1:PAl}(S:SwE p.l l1):TI ⟨l1,p.gq,p.ph,p.bl,p.dn⟩ h:=by
 by_cases hp:p.ph=3
 ·have:=I.swe S hp
  rw [← hp] at this;exact this
 ·exact I.swe0 S hp
def SH.push (h:SH)(k:Nat)(ad:Int):SH:=⟨upd h.L (k+1) (h.L (k+1) ++ [ad]),h.on,h.ms ++ [ad]⟩
theorem push_gs {h:SH}{k:Nat}{ad x:Int}(hk:k < 4):Gs (h.push k ad) x↔Gs h x∨x=ad:=by
 constructor
 ·rintro⟨i,hi,hx⟩
  by_cases e:i=k+1
  ·subst e
   have hx:x∈upd h.L (k+1) (h.L (k+1) ++ [ad]) (k+1):=hx
   rw [upd_eq,List.mem_append] at hx
   rcases hx with hx | hx
   ·exact .inl ⟨_,hi,hx⟩
   ·exact .inr (by simpa using hx)
  ·have hx:x∈upd h.L (k+1) (h.L (k+1) ++ [ad]) i:=hx
   rw [upd_ne _ _ e] at hx
   exact .inl ⟨i,hi,hx⟩
 ·rintro(⟨i,hi,hx⟩ | rfl)
  ·refine⟨i,hi,?_⟩
   show x∈upd h.L (k+1) (h.L (k+1) ++ [ad]) i
   by_cases e:i=k+1
   ·subst e;rw [upd_eq];exact List.mem_append_left _ hx
   ·rw [upd_ne _ _ e];exact hx
  ·refine⟨k+1,by omega,?_⟩
   show x∈upd h.L (k+1) (h.L (k+1) ++ [x]) (k+1)
   rw [upd_eq];simp
theorem stk_eq {h:SH}{k:Nat}(hk:k < 4):stk h ((k:Int)+1)=h.L (k+1):=by
 unfold stk
 rw [if_pos ⟨by omega,by omega⟩]
 have:((k:Int)+1).toNat=k+1:=by omega
 rw [this]
theorem push_bs {p q:SC}{h:SH}{k:Nat}{ad y:Int}(hq:q.bl=p.bl)(hy:Bs q (h.push k ad) y):Bs p h y∨y=ad:=by
 rcases hy with hy | ⟨id,hid,hy⟩
 ·have hy:y∈upd h.L (k+1) (h.L (k+1) ++ [ad]) 0:=hy
  rw [upd_ne _ _ (by omega)] at hy
  exact .inl (.inl hy)
 ·rw [hq] at hid
  unfold stk at hy
  split at hy
  ·rename_i hr
   have hy:y∈upd h.L (k+1) (h.L (k+1) ++ [ad]) id.toNat:=hy
   by_cases e:id.toNat=k+1
   ·rw [e,upd_eq,List.mem_append] at hy
    rcases hy with hy | hy
    ·refine .inl (.inr ⟨id,hid,?_⟩)
     unfold stk;rw [if_pos hr,e];exact hy
    ·exact .inr (by simpa using hy)
   ·rw [upd_ne _ _ e] at hy
    refine .inl (.inr ⟨id,hid,?_⟩)
    unfold stk;rw [if_pos hr];exact hy
  ·simp at hy
theorem TI.made {p : SC} {h : SH} (I : TI p h) {l' : PAl} {ad sh wd : Int} (M : Made p.l l' ad (classOf (sizeT sh wd))) {b : PAr} (S : SameTk l'.ar b) (hb : ∀ x, x ≠ ad → b.isM x = l'.ar.isM x) (hm : shB p.ph = true → b.isM ad = true) {k : Nat} (hk : k < 4) (hon : h.on k = true) :
    TI ⟨⟨(b.write ad 0 (hdW sh wd)).2, l'.un⟩, p.gq, p.ph, p.bl, p.dn⟩ (h.push k ad) := by
  obtain ⟨L', sp, f1, f2, f3⟩ := I.lv.made M S
  generalize (b.write ad 0 (hdW sh wd)).2 = c at *
  have eF : ∀ x, Fd c x ↔ Fd p.l.ar x ∨ x = ad := f1
  have eM : ∀ x, x ≠ ad → (Mk_ c x ↔ Mk_ p.l.ar x) := fun x hx => by unfold Mk_; rw [isM_sp sp, hb x hx, M.stay.isM x hx]
  have hn : ¬ Fd p.l.ar ad := fun h => h M.none
  have hG := fun x => push_gs (h := h) (ad := ad) (x := x) hk
  have rd : ∀ x, Rd_ c (h.push k ad) x → Rd_ p.l.ar h x ∨ x = ad := fun x hx => by
    induction hx with
    | root h1 h2 =>
      rcases (hG _).1 h1 with h1 | h1
      · exact .inl (gs_rd I h1)
      · exact .inr h1
    | step h1 h2 h3 ih =>
      rcases ih with ih | rfl
      · rw [f2 _ ih.f] at h2
        exact .inl (.step ih h2 (I.cl _ ih _ h2))
      · rw [f3] at h2; cases h2
  have ul : l'.un.length = p.l.un.length := M.unl
  exact
    { lv := L'
      ul := by show l'.un.length = c.sp.length; rw [ul, sp, S.len, M.stay.len]; exact I.ul
      u0 := by
        have := I.u0
        unfold U0 at *
        show (l'.un[0]?).getD false = false
        cases e : (l'.un[0]?).getD false with
        | false => rfl
        | true => have := M.un 0 e; unfold PAl.u at this; rw [show (0 : Int).toNat = 0 from rfl] at this; rw [I.u0] at this; cases this
      n1 := by show 1 ≤ l'.un.length; rw [ul]; exact I.n1
      on := fun i hi ho => by
        show upd h.L (k + 1) (h.L (k + 1) ++ [ad]) (i + 1) = []
        have ho' : h.on i = false := ho
        have hik : i + 1 ≠ k + 1 := fun e => by
          have e2 : i = k := by omega
          rw [e2, hon] at ho'; cases ho'
        rw [upd_ne _ _ hik]
        exact I.on i hi ho'
      bi := I.bi
      nd := I.nd
      ph := I.ph
      gq := I.gq
      un := fun hh m => by
        show l'.u m = false
        cases e : l'.u m with
        | false => rfl
        | true => have := M.un m e; rw [I.un hh m] at this; cases this
      gf := fun x hx => by
        show Fd c x
        rw [eF]
        rcases (hG x).1 hx with h1 | h1
        · exact .inl (I.gf x h1)
        · exact .inr h1
      cl := fun x hx y hy => by
        show Fd c y
        rw [eF]
        rcases rd x hx with h1 | rfl
        · have hy : y ∈ fieldsL sh7 c x := hy
          rw [f2 x h1.f] at hy
          exact .inl (I.cl x h1 y hy)
        · have hy : y ∈ fieldsL sh7 c x := hy
          rw [f3] at hy; cases hy
      tc := fun hh => tc_new (I.tc hh) hn eF eM (by show c.isM ad = true; rw [isM_sp sp]; exact hm hh) (fun x hx => mk_fd hx) f2 f3 (fun y hy => push_bs rfl hy)
      sw := fun hh x hx hu => by
        have hu : l'.u (spanOf x) = true := hu
        rcases rd x hx with h1 | rfl
        · have hx1 : x ≠ ad := fun e => hn (by rw [← e]; exact h1.f)
          exact (eM x hx1).2 (I.sw hh x h1 (M.un _ hu))
        · rw [M.una] at hu; cases hu }
set_option linter.all false
def Good (A:Bool × SC × SC × SH):Prop:=A.1=true∧A.2.1=A.2.2.1∧TI A.2.1 A.2.2.2
theorem take_ti {p:SC}{h:SH}(I:TI p h){k:Nat}(hk:k < 4)(x:Ac):Good (takA p p h k x):=by
 unfold takA
 cases hon:h.on k with
 | false=>rw [if_pos rfl];exact⟨rfl,rfl,I⟩
 | true=>
  rw [if_neg (by simp)]
  obtain⟨l1,S,hc⟩:=gtake I.lv.wf I.ul I.u0 (size_cls x.sh x.wd)
  have I1:=I.swes S
  rcases hc with e | ⟨ad,l',e,M⟩
  ·have et:p.take (sizeT x.sh x.wd)=((0,5),⟨l1,p.gq,p.ph,p.bl,p.dn⟩):=by
    unfold SC.take;rw [e];simp
   rw [et]
   simp only
   rw [if_neg (by simp),if_pos (by simp)]
   exact⟨rfl,rfl,I1⟩
  ·have hlo:=M.lo
   have h0:ad≠0:=by omega
   cases hs:shB p.ph with
   | true=>
    have et:p.take (sizeT x.sh x.wd)=((ad,0),⟨⟨(l'.ar.mark ad).2,l'.un⟩,p.gq,p.ph,p.bl,p.dn⟩):=by
     unfold SC.take;rw [e];simp [hs]
    rw [et]
    simp only
    rw [if_neg (by simp [h0]),if_neg (by simp)]
    have hM:=shadeL_isM [ad] ([]:List Int) M.wf
    have hfa:l'.ar.find ad≠none:=by
     obtain⟨n,q,hq⟩:=M.lies.find M.wf
     rw [hq];simp
    exact⟨rfl,rfl,I1.made M (mark_same l'.ar ad) (fun y hy=>by
     have:=hM y
     have e1:(shadeL l'.ar [] [ad]).1=(l'.ar.mark ad).2:=rfl
     rw [e1] at this
     cases h1:l'.ar.isM y with
     | true=>exact this.2 (.inl h1)
     | false=>
      cases h2:(l'.ar.mark ad).2.isM y with
      | false=>rfl
      | true=>
       rcases this.1 h2 with h3 | h3
       ·rw [h1] at h3;cases h3
       ·exact absurd (by simpa using h3.1) hy) (fun _=>(hM ad).2 (.inr ⟨by simp,hfa⟩)) hk hon⟩
   | false=>
    have et:p.take (sizeT x.sh x.wd)=((ad,0),⟨l',p.gq,p.ph,p.bl,p.dn⟩):=by
     unfold SC.take;rw [e];simp [hs]
    rw [et]
    simp only
    rw [if_neg (by simp [h0]),if_neg (by simp)]
    exact⟨rfl,rfl,I1.made M (SameTk.refl l'.ar) (fun y hy=>rfl) (fun hh=>by simp [hs] at hh) hk hon⟩
theorem held_gs {h:SH}{k:Nat}(hk:k < 4)(b:Int):heldI h k b=0∨heldI h k b∈h.L (k+1):=by
 unfold heldI
 split
 ·exact .inl rfl
 ·cases hy:(h.L (k+1))[(b % (h.L (k+1)).length).toNat]? with
  | none=>exact .inl rfl
  | some y=>exact .inr (List.mem_of_getElem? hy)
theorem held_wf64 {p:SC}{h:SH}(I:TI p h){y:Int}(hy:Gs h y):wf64 y:=by
 have hf:=find_rng I.lv.wf (I.gf y hy)
 unfold wf64;omega
theorem read_fl {a:PAr}(H:Lv a){x:Int}(hx:Fd a x){n kd sh:Int}{s:Shp}(hu:unp (a.read x 0).1=some (n,kd,sh))(hs:shpT sh7 sh=some s){f:Nat}(hh:holdsB s f n=true)(h0:(a.read x (1+f)).1≠0):(a.read x (1+f)).1∈fieldsL sh7 a x:=by
 obtain⟨n',kd',sh',s',W,hl,w64,_,e1,e2,e3,e4,e5⟩:=H.head hx
 rw [hu] at e1
 cases e1
 rw [hs] at e2
 cases e2
 have hmay:=unp_may hu
 have hfn:(f:Int)<n - 1:=by
  apply Classical.byContradiction
  intro hc
  unfold holdsB at hh
  revert hh
  simp
  omega
 have hr:=hl.read H.wf ((1+f:Nat):Int)
 have ek:((1+f:Nat):Int)=1+(f:Int):=by omega
 rw [if_pos ⟨by omega,by omega⟩,ek] at hr
 have ek2:(1+(f:Int)).toNat=f+1:=by omega
 rw [ek2] at hr
 rw [e5,mem_fieldsW]
 exact⟨f,by omega,hh,by rw [hr],h0⟩
set_option linter.all false
theorem good_id {p:SC}{h:SH}(I:TI p h):Good (true,p,p,h):=⟨rfl,rfl,I⟩
theorem set_gs {h:SH}{i:Nat}{L:List Int}{x:Int}(hx:Gs (h.set i L) x):Gs h x∨x∈L:=by
 obtain⟨j,hj,hx⟩:=hx
 have hx:x∈upd h.L i L j:=hx
 by_cases e:j=i
 ·subst e;rw [upd_eq] at hx;exact .inr hx
 ·rw [upd_ne _ _ e] at hx;exact .inl ⟨j,hj,hx⟩
theorem set_bs {p:SC}{h:SH}{i:Nat}{L:List Int}{y:Int}(hy:Bs p (h.set i L) y):Bs p h y∨(y∈L∧(i=0∨(i:Int)∈p.bl)):=by
 rcases hy with hy | ⟨id,hid,hy⟩
 ·have hy:y∈upd h.L i L 0:=hy
  by_cases e:0=i
  ·subst e;rw [upd_eq] at hy;exact .inr ⟨hy,.inl rfl⟩
  ·rw [upd_ne _ _ e] at hy;exact .inl (.inl hy)
 ·unfold stk at hy
  split at hy
  ·rename_i hr
   have hy:y∈upd h.L i L id.toNat:=hy
   by_cases e:id.toNat=i
   ·subst e
    rw [upd_eq] at hy
    refine .inr ⟨hy,.inr ?_⟩
    have:((id.toNat:Nat):Int)=id:=by omega
    rw [this];exact hid
   ·rw [upd_ne _ _ e] at hy
    refine .inl (.inr ⟨id,hid,?_⟩)
    unfold stk;rw [if_pos hr];exact hy
  ·simp at hy
theorem TI.set {p:SC}{h:SH}(I:TI p h){i:Nat}{L:List Int}(hon:∀ k,k < 4→k+1=i→h.on k=false→L = [])(hL:∀ y∈L,Rd_ p.l.ar h y)(hB:shB p.ph=true→(i=0∨(i:Int)∈p.bl)→∀ y∈L,Okk (Fd p.l.ar) (fieldsL sh7 p.l.ar) (Mk_ p.l.ar) p.gq y):TI p (h.set i L):=
 I.hold (fun x hx=>(set_gs hx).elim (gs_rd I) (hL x)) (fun k hk ho=>by
  show upd h.L i L (k+1) = []
  have ho:h.on k=false:=ho
  by_cases e:k+1=i
  ·subst e;rw [upd_eq];exact hon k hk rfl ho
  ·rw [upd_ne _ _ e];exact I.on k hk ho) I.bi (fun hh y hy=>by
  rcases set_bs hy with h1 | ⟨h1,h2⟩
  ·exact(I.tc hh).t2 y h1
  ·exact hB hh h2 y h1)
theorem gs_at {h:SH}{k:Nat}(hk:k < 4){y:Int}(hy:y∈h.L (k+1)):Gs h y:=⟨k+1,by omega,hy⟩
theorem bs_at {p:SC}{h:SH}{k:Nat}(hk:k < 4){y:Int}(hy:y∈h.L (k+1))(hb:((k+1:Nat):Int)∈p.bl):Bs p h y:=.inr ⟨_,hb,by
 have:=stk_eq (h:=h) hk
 have e:(((k+1:Nat)):Int)=(k:Int)+1:=by omega
 rw [e,this];exact hy⟩
theorem write_ti {p:SC}{h:SH}(I:TI p h){k:Nat}(hk:k < 4)(x:Ac):Good (wrF sh7 p p h x k):=by
 unfold wrF
 by_cases hc:heldI h k x.a=0∨h.on k=false∨x.f < 0
 ·rw [if_pos hc];exact good_id I
 rw [if_neg hc]
 have ha0:heldI h k x.a≠0:=fun e=>hc (.inl e)
 have hon:h.on k=true:=by
  cases e:h.on k with
  | true=>rfl
  | false=>exact absurd (.inr (.inl e)) hc
 have hf0 : ¬ x.f < 0:=fun e=>hc (.inr (.inr e))
 have ha:heldI h k x.a∈h.L (k+1):=(held_gs hk x.a).resolve_left ha0
 have hag:=gs_at hk ha
 have haf:=I.gf _ hag
 obtain⟨n,kd,sh,s,W,hl,w64,e1,e2,e3,e4,e5,e6⟩:=I.lv.head haf
 rw [if_neg (by rw [e1];simp),e2]
 simp only
 rw [e3]
 simp only
 cases hh:holdsB s (x.f % 64) n with
 | false=>rw [if_pos rfl];exact good_id I
 | true=>
  rw [if_neg (by simp)]
  obtain⟨f,hf⟩:∃ f:Nat,x.f % 64=(f:Int):=⟨(x.f % 64).toNat,by omega⟩
  rw [hf] at hh ⊢
  have rdo:(p.l.ar.read (heldI h k x.a) (1+f)).1≠0→(p.l.ar.read (heldI h k x.a) (1+f)).1∈fieldsL sh7 p.l.ar (heldI h k x.a):=fun h0=>read_fl I.lv haf e2 e3 hh h0
  by_cases h9:x.op=9
  ·rw [if_pos h9]
   by_cases h0:(p.l.ar.read (heldI h k x.a) (1+f)).1=0
   ·rw [if_pos h0];exact good_id I
   ·rw [if_neg h0]
    have hy:=rdo h0
    have hra:=gs_rd I hag
    have hyf:=I.cl _ hra _ hy
    refine⟨rfl,rfl,I.set (fun j _ hj ho=>?_) (fun y hy'=>?_) (fun hs hb y hy'=>?_)⟩
    ·have:j=k:=by omega
     subst this;rw [hon] at ho;cases ho
    ·rw [List.mem_append] at hy'
     rcases hy' with h1 | h1
     ·exact gs_rd I (gs_at hk h1)
     ·simp at h1;subst h1;exact .step hra hy hyf
    ·have hb':((k+1:Nat):Int)∈p.bl:=hb.resolve_left (by omega)
     have T:=I.tc hs
     rw [List.mem_append] at hy'
     rcases hy' with h1 | h1
     ·exact T.t2 y (bs_at hk h1 hb')
     ·simp at h1;subst h1
      exact T.okk_fl (T.t2 _ (bs_at hk ha hb')) hy hyf
  ·rw [if_neg h9]
   have B:=I.barrier (p.l.ar.read (heldI h k x.a) (1+f)).1 (heldI h k x.b) (k+1)
   refine⟨rfl,rfl,?_⟩
   have hv:heldI h k x.b=0∨Gs h (heldI h k x.b):=(held_gs hk x.b).imp id (gs_at hk)
   have hwf:wf64 (heldI h k x.b):=by
    rcases hv with e | e
    ·rw [e];unfold wf64;omega
    ·exact held_wf64 I e
   generalize hq:p.barrier (p.l.ar.read (heldI h k x.a) (1+f)).1 (heldI h k x.b) (k+1)=q at *
   have er:q.l.ar.read (heldI h k x.a) (1+f)=p.l.ar.read (heldI h k x.a) (1+f):=B.same.read _ _
   refine B.ti.write (f:=f) hag hv hwf (fun hs hfo=>?_) (fun hs hfv=>?_)
   ·rw [B.ph] at hs
    rw [er] at hfo ⊢
    rw [fd_same B.same] at hfo
    exact B.old hs hfo
   ·have hs':shB p.ph=true:=by rw [← B.ph];exact hs
    by_cases hb:((k:Int)+1)∈p.bl
    ·have hb':((k+1:Nat):Int)∈q.bl:=by rw [B.bl];simpa using hb
     rcases held_gs hk x.b (h:=h) with e | e
     ·rw [e] at hfv
      exact absurd (find_zero B.ti.lv.wf) hfv
     ·exact(B.ti.tc hs).t2 _ (bs_at hk e hb')
    ·rw [fd_same B.same] at hfv
     exact .inl (B.fr hs' hb hfv)
set_option linter.all false
theorem drop_ti {p:SC}{h:SH}(I:TI p h){k:Nat}(hk:k < 4)(n:Int):Good (dropA p p h k n):=by
 unfold dropA
 split
 ·refine⟨rfl,rfl,I.set (fun j hj e ho=>?_) (fun y hy=>gs_rd I (gs_at hk (List.mem_of_mem_drop hy))) (fun hs hb y hy=>?_)⟩
  ·have:j=k:=by omega
   subst this;rw [I.on j hj ho];simp
  ·exact(I.tc hs).t2 y (bs_at hk (List.mem_of_mem_drop hy) (hb.resolve_left (by omega)))
 ·exact good_id I
theorem glob_aux {p:SC}{h:SH}(I:TI p h){k:Nat}(hk:k < 4){b:Int}(hb:b∈h.L (k+1))(old:Int)(L:List Int)(hL:∀ y∈L,y∈h.L 0):TI (p.barrier old b (k+1)) (h.set 0 (L ++ [b])):=by
 have B:=I.barrier old b (k+1)
 have hg:=gs_at hk hb
 generalize hq:p.barrier old b (k+1)=q at *
 refine B.ti.set (fun j hj e=>by omega) (fun y hy=>?_) (fun hs _ y hy=>?_)
 ·rw [List.mem_append] at hy
  rcases hy with h1 | h1
  ·exact gs_rd B.ti ⟨0,by omega,hL y h1⟩
  ·simp at h1;subst h1;exact gs_rd B.ti hg
 ·rw [List.mem_append] at hy
  rcases hy with h1 | h1
  ·exact(B.ti.tc hs).t2 y (.inl (hL y h1))
  ·simp at h1;subst h1
   have hs':shB p.ph=true:=by rw [← B.ph];exact hs
   by_cases hbl:((k:Int)+1)∈p.bl
   ·have hb':((k+1:Nat):Int)∈q.bl:=by rw [B.bl];simpa using hbl
    exact(B.ti.tc hs).t2 _ (bs_at hk hb hb')
   ·exact .inl (B.fr hs' hbl (I.gf _ hg))
theorem glob_ti {p:SC}{h:SH}(I:TI p h){k:Nat}(hk:k < 4)(b:Int):Good (globA p p h k (heldI h k b)):=by
 unfold globA
 by_cases hc:heldI h k b=0∨h.on k=false
 ·rw [if_pos hc];exact good_id I
 rw [if_neg hc]
 have hb:heldI h k b∈h.L (k+1):=(held_gs hk b).resolve_left fun e=>hc (.inl e)
 split
 ·exact⟨rfl,rfl,glob_aux I hk hb _ _ fun y hy=>List.mem_of_mem_drop hy⟩
 ·exact⟨rfl,rfl,glob_aux I hk hb _ _ fun y hy=>hy⟩
theorem idsK {h:SH}{k:Nat}(hk:k < 4):((k:Int)+1)∈ids h↔h.on k=true:=by
 unfold ids
 rw [idsN_mem]
 constructor
 ·rintro⟨j,_,h1,h2⟩
  have:j=k:=by omega
  subst this;exact h1
 ·intro ho;exact⟨k,hk,ho,rfl⟩
theorem on_ti {p:SC}{h:SH}(I:TI p h){k:Nat}(hk:k < 4):TI p ⟨h.L,upd h.on k true,h.ms⟩:=
 I.hold (fun x hx=>gs_rd I hx) (fun i hi ho=>by
  have ho:upd h.on k true i=false:=ho
  by_cases e:i=k
  ·subst e;rw [upd_eq] at ho;cases ho
  ·rw [upd_ne _ _ e] at ho;exact I.on i hi ho) (fun id hid=>by
  obtain⟨j,h1,h2,h3⟩:=idsN_mem.1 (I.bi id hid)
  refine idsN_mem.2 ⟨j,h1,?_,h3⟩
  show upd h.on k true j=true
  by_cases e:j=k
  ·subst e;rw [upd_eq]
  ·rw [upd_ne _ _ e];exact h2) (fun hs y hy=>(I.tc hs).t2 y hy)
theorem born_ti {p : SC} {h : SH} (I : TI p h) {k : Nat} (hk : k < 4) : Good (bornA p p h k) := by
  unfold bornA
  cases hon : h.on k with
  | true =>
    rw [if_pos rfl]
    refine ⟨rfl, rfl, ?_⟩
    have hbl : ∀ id, id ∈ (p.dies (k + 1)).bl ↔ id ∈ p.bl ∧ id ≠ (k : Int) + 1 := fun id => by
      unfold SC.dies SC.black
      simp [List.mem_filter]
    have I1 : TI (p.dies (k + 1)) h :=
      { I with
        bi := fun id hid => I.bi id ((hbl id).1 hid).1
        nd := I.nd.filter _
        tc := fun hs => (I.tc hs).sub fun y hy => hy.imp id fun ⟨id, h1, h2⟩ => ⟨id, ((hbl id).1 h1).1, h2⟩ }
    refine I1.hold (h' := ⟨upd h.L (k + 1) [], upd h.on k false, h.ms⟩) (fun x hx => ?_) (fun i hi ho => ?_) (fun id hid => ?_) (fun hs y hy => (I1.tc hs).t2 y ?_)
    · obtain ⟨i, hi, hx⟩ := hx
      have hx : x ∈ upd h.L (k + 1) [] i := hx
      by_cases e : i = k + 1
      · subst e; rw [upd_eq] at hx; cases hx
      · rw [upd_ne _ _ e] at hx; exact gs_rd I1 ⟨i, hi, hx⟩
    · show upd h.L (k + 1) [] (i + 1) = []
      have ho : upd h.on k false i = false := ho
      by_cases e : i = k
      · subst e; rw [upd_eq]
      · rw [upd_ne _ _ e] at ho
        rw [upd_ne _ _ (by omega)]; exact I.on i hi ho
    · obtain ⟨h1, h2⟩ := (hbl id).1 hid
      obtain ⟨j, j1, j2, j3⟩ := idsN_mem.1 (I.bi id h1)
      refine idsN_mem.2 ⟨j, j1, ?_, j3⟩
      show upd h.on k false j = true
      rw [upd_ne _ _ (fun e => h2 (by rw [j3, e]))]; exact j2
    · rcases hy with hy | ⟨id, h1, hy⟩
      · have hy : y ∈ upd h.L (k + 1) [] 0 := hy
        rw [upd_ne _ _ (by omega)] at hy; exact .inl hy
      · refine .inr ⟨id, h1, ?_⟩
        unfold stk at hy ⊢
        split at hy
        · rename_i hr
          have hy : y ∈ upd h.L (k + 1) [] id.toNat := hy
          rw [if_pos hr]
          by_cases e : id.toNat = k + 1
          · rw [e, upd_eq] at hy; cases hy
          · rw [upd_ne _ _ e] at hy; exact hy
        · simp at hy
  | false =>
    rw [if_neg (by simp)]
    refine ⟨rfl, rfl, ?_⟩
    have I1 := on_ti I hk
    unfold SC.born
    split
    · rename_i hc
      refine I1.black hc.1 hc.2 ((idsK hk).2 (by show upd h.on k true k = true; rw [upd_eq])) fun y hy => ?_
      have hy : y ∈ stk h ((k : Int) + 1) := hy
      rw [stk_eq hk, I.on k hk hon] at hy
      cases hy
    · exact I1
theorem act_ti {p:SC}{h:SH}(I:TI p h)(x:Ac):Good (act sh7 p p h x):=by
 have hk:(x.id % 4).toNat < 4:=by omega
 unfold act
 split
 ·exact take_ti I hk x
 split
 ·exact⟨by simp [startA],rfl,I.start⟩
 split
 ·exact⟨by simp [stepA],rfl,I.step⟩
 split
 ·exact⟨by simp [scanA],rfl,I.scan x.id⟩
 split
 ·exact write_ti I hk x
 split
 ·exact drop_ti I hk x.n
 split
 ·exact glob_ti I hk x.b
 split
 ·exact born_ti I hk
 split
 ·exact⟨rfl,rfl,on_ti I hk⟩
 split
 ·exact⟨rfl,rfl,I.whole⟩
 ·exact good_id I
end Go.Ab.F
