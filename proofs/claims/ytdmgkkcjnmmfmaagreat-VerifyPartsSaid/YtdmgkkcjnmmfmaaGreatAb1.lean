import Derived.Test.YtdmgkkcjnmmfmaaGreatAb0
namespace Go.Ab
open Go
set_option linter.all false
theorem Hq {α:Type}(n m:Nat)(x y:α):(bif Nat.beq n m then x else y)=if n=m then x else y:=by
 by_cases h:n=m
 ·subst h;simp
 ·have:Nat.beq n m=false:=by cases hb:Nat.beq n m with | false=>rfl | true=>exact absurd (Nat.eq_of_beq_eq_true hb) h
  simp [this,h]
theorem T.get_setF {α:Type}(a:Option α):∀ (k:Nat) (t:T α) (n m:Nat),n<k→(T.setF k t n a).get m=if m=n then a else t.get m:=by
 intro k
 induction k with
 | zero=>intro t n m h;omega
 | succ k ih=>
  intro t n m h
  cases t with
  | nil=>
   simp only [T.setF,Hq]
   by_cases h0:n=0
   ·subst h0
    simp only [if_true,T.get,Hq]
    by_cases hm:m=0
    ·simp [hm]
    ·simp [hm]
   ·by_cases h1:n % 2=1
    ·simp only [h0,if_false,h1,if_true,T.get,Hq]
     rw [ih _ _ _ (by omega)]
     by_cases hm:m=0
     ·have : ¬ m=n:=by omega
      simp [hm];omega
     ·by_cases hm1:m % 2=1
      ·simp only [hm,if_false,hm1,if_true,T.get]
       by_cases e:m=n
       ·simp [e]
       ·have : ¬ m / 2=n / 2:=by omega
        simp [e,this]
      ·have : ¬ m=n:=by intro e;subst e;exact hm1 h1
       simp [hm,hm1,this]
    ·simp only [h0,if_false,h1,T.get,Hq]
     rw [ih _ _ _ (by omega)]
     by_cases hm:m=0
     ·simp [hm];omega
     ·by_cases hm1:m % 2=1
      ·have : ¬ m=n:=by intro e;subst e;exact h1 hm1
       simp [hm,hm1,this]
      ·simp only [hm,if_false,hm1,T.get]
       by_cases e:m=n
       ·simp [e]
       ·have : ¬ m / 2 - 1=n / 2 - 1:=by omega
        simp [e,this]
  | node v l r=>
   simp only [T.setF,Hq]
   by_cases h0:n=0
   ·subst h0
    simp only [if_true,T.get,Hq]
    by_cases hm:m=0<;>simp [hm]
   ·by_cases h1:n % 2=1
    ·simp only [h0,if_false,h1,if_true,T.get,Hq]
     rw [ih _ _ _ (by omega)]
     by_cases hm:m=0
     ·simp [hm];intro e;omega
     ·by_cases hm1:m % 2=1
      ·simp only [hm,if_false,hm1,if_true]
       by_cases e:m=n
       ·simp [e]
       ·have : ¬ m / 2=n / 2:=by omega
        simp [e,this]
      ·have : ¬ m=n:=by intro e;subst e;exact hm1 h1
       simp [hm,hm1,this]
    ·simp only [h0,if_false,h1,T.get,Hq]
     rw [ih _ _ _ (by omega)]
     by_cases hm:m=0
     ·simp [hm];intro e;omega
     ·by_cases hm1:m % 2=1
      ·have : ¬ m=n:=by intro e;subst e;exact h1 hm1
       simp [hm,hm1,this]
      ·simp only [hm,if_false,hm1]
       by_cases e:m=n
       ·simp [e]
       ·have : ¬ m / 2 - 1=n / 2 - 1:=by omega
        simp [e,this]
theorem T.get_set {α:Type}(t:T α)(n m:Nat)(a:Option α):(t.set n a).get m=if m=n then a else t.get m:=
 T.get_setF a (n+1) t n m (Nat.lt_succ_self n)
theorem Heap.get_put (h:Heap)(i j:Nat)(b:Option Blk):(h.put i b).get j=if j=i then b else h.get j:=T.get_set _ _ _ _
theorem Heap.get_new (h:Heap)(j:Nat)(b:Blk):(h.new b).get j=if j=h.next then some b else h.get j:=T.get_set _ _ _ _
@[simp] theorem Heap.next_put (h:Heap)(i:Nat)(b:Option Blk):(h.put i b).next=h.next:=rfl
@[simp] theorem Heap.next_new (h:Heap)(b:Blk):(h.new b).next=h.next+1:=rfl
abbrev Rho:=Nat→Option (Nat × Nat × Nat)
mutual
def VR (ρ:Rho):AV→Value→Prop
 | .bool b,v=>v = .bool b
 | .int k n,v=>v = .int k n
 | .str s,v=>v = .string ⟨⟨s⟩⟩
 | .ptr none,v=>v = .pointer none
 | .ptr (some a),v=>∃ β b c,ρ a.1=some (β,b,c)∧v = .pointer (some ⟨β,b+a.2,none⟩)
 | .sl none n c,v=>n=0∧c = .ex 0∧v = .slice none 0 0
 | .sl (some a) n (.ex cap),v=>∃ β b c,ρ a.1=some (β,b,c)∧v = .slice (some ⟨β,b+a.2,none⟩) n cap
 | .sl (some a) n (.un sz),v=>∃ β b c cap ad,ρ a.1=some (β,b,c)∧v = .slice (some ad) n cap∧n≤cap∧b+a.2+cap*sz=c∧
   (cap=0∨ad=⟨β,b+a.2,none⟩)
 | .mp none,v=>v = .map none
 | .mp (some i),v=>∃ β b c,ρ i=some (β,b,c)∧v = .map (some β)
 | .fn f first caps,v=>∃ a c:Array Value,v = .func (.func f) a c∧VRL ρ first a.toList∧VRL ρ caps c.toList
 | .nilFn,v=>v = .nilFunc
 | .ifc t x,v=>∃ y,v = .iface t y∧VR ρ x y
 | .nilIfc,v=>v = .nilIface
 | .agg l,v=>∃ cs:Array Value,v = .agg cs∧VRL ρ l cs.toList
 | .tup l,v=>∃ cs:Array Value,v = .tuple cs∧VRL ρ l cs.toList
 | .bot,_=>True
def VRL (ρ:Rho):List AV→List Value→Prop
 | [],l=>l = []
 | a::as,l=>∃ v vs,l=v::vs∧VR ρ a v∧VRL ρ as vs
end
def Rho.le (ρ ρ':Rho):Prop:=∀ i x,ρ i=some x→ρ' i=some x
theorem Rho.le_refl (ρ:Rho):ρ.le ρ:=fun _ _ h=>h
theorem Rho.le_trans {a b c:Rho}(h:a.le b)(h':b.le c):a.le c:=fun i x e=>h' i x (h i x e)
mutual
theorem VR.mono {ρ ρ':Rho}(hl:ρ.le ρ'):∀ {a:AV} {v:Value},VR ρ a v→VR ρ' a v
 | .bool b,v,h=>by simpa only [VR] using h
 | .int k n,v,h=>by simpa only [VR] using h
 | .str s,v,h=>by simpa only [VR] using h
 | .ptr none,v,h=>by simpa only [VR] using h
 | .ptr (some a),v,h=>by simp only [VR] at h ⊢;obtain⟨β,b,c,e,r⟩:=h;exact⟨β,b,c,hl _ _ e,r⟩
 | .sl none n c,v,h=>by simpa only [VR] using h
 | .sl (some a) n (.ex cap),v,h=>by simp only [VR] at h ⊢;obtain⟨β,b,c,e,r⟩:=h;exact⟨β,b,c,hl _ _ e,r⟩
 | .sl (some a) n (.un sz),v,h=>by simp only [VR] at h ⊢;obtain⟨β,b,c,cap,ad,e,r⟩:=h;exact⟨β,b,c,cap,ad,hl _ _ e,r⟩
 | .mp none,v,h=>by simpa only [VR] using h
 | .mp (some i),v,h=>by simp only [VR] at h ⊢;obtain⟨β,b,c,e,r⟩:=h;exact⟨β,b,c,hl _ _ e,r⟩
 | .fn f first caps,v,h=>by
  simp only [VR] at h ⊢;obtain⟨a,c,e,h1,h2⟩:=h;exact⟨a,c,e,VRL.mono hl h1,VRL.mono hl h2⟩
 | .nilFn,v,h=>by simpa only [VR] using h
 | .ifc t x,v,h=>by simp only [VR] at h ⊢;obtain⟨y,e,h1⟩:=h;exact⟨y,e,VR.mono hl h1⟩
 | .nilIfc,v,h=>by simpa only [VR] using h
 | .agg l,v,h=>by simp only [VR] at h ⊢;obtain⟨cs,e,h1⟩:=h;exact⟨cs,e,VRL.mono hl h1⟩
 | .tup l,v,h=>by simp only [VR] at h ⊢;obtain⟨cs,e,h1⟩:=h;exact⟨cs,e,VRL.mono hl h1⟩
 | .bot,v,_=>by simp only [VR]
theorem VRL.mono {ρ ρ':Rho}(hl:ρ.le ρ'):∀ {l:List AV} {vs:List Value},VRL ρ l vs→VRL ρ' l vs
 | [],vs,h=>by simpa only [VRL] using h
 | a::as,vs,h=>by simp only [VRL] at h ⊢;obtain⟨v,vs',e,h1,h2⟩:=h;exact⟨v,vs',e,VR.mono hl h1,VRL.mono hl h2⟩
end
theorem VRL.length {ρ:Rho}:∀ {l:List AV} {vs:List Value},VRL ρ l vs→l.length=vs.length
 | [],vs,h=>by simp only [VRL] at h;simp [h]
 | a::as,vs,h=>by simp only [VRL] at h;obtain⟨v,vs',rfl,_,h2⟩:=h;simp [h2.length]
theorem VRL.get {ρ:Rho}:∀ {l:List AV} {vs:List Value},VRL ρ l vs→∀ (i:Nat) (a:AV),l[i]?=some a→∃ v,vs[i]?=some v∧VR ρ a v
 | [],vs,h,i,a,hi=>by simp at hi
 | x::as,vs,h,i,a,hi=>by
  simp only [VRL] at h;obtain⟨v,vs',rfl,h1,h2⟩:=h
  cases i with
  | zero=>simp at hi;subst hi;exact⟨v,by simp,h1⟩
  | succ i=>simp at hi;obtain⟨u,hu,hr⟩:=h2.get i a hi;exact⟨u,by simpa using hu,hr⟩
theorem VRL.of_get {ρ:Rho}:∀ {l:List AV} {vs:List Value},l.length=vs.length→(∀ (i:Nat) (a:AV),l[i]?=some a→∃ v,vs[i]?=some v∧VR ρ a v)→VRL ρ l vs
 | [],vs,hl,_=>by simp only [VRL];cases vs<;>simp_all
 | a::as,[],hl,_=>by simp at hl
 | a::as,v::vs,hl,h=>by
  simp only [VRL]
  refine⟨v,vs,rfl,?_,VRL.of_get (by simpa using hl) fun i x hx=>?_⟩
  ·obtain⟨u,hu,hr⟩:=h 0 a (by simp);simp at hu;subst hu;exact hr
  ·obtain⟨u,hu,hr⟩:=h (i+1) x (by simpa using hx);exact⟨u,by simpa using hu,hr⟩
theorem VRL.append {ρ:Rho}:∀ {l m:List AV} {vs us:List Value},VRL ρ l vs→VRL ρ m us→VRL ρ (l++m) (vs++us)
 | [],m,vs,us,h,h'=>by simp only [VRL] at h;subst h;simpa using h'
 | a::as,m,vs,us,h,h'=>by
  simp only [VRL] at h;obtain⟨v,vs',rfl,h1,h2⟩:=h
  simp only [List.cons_append,VRL];exact⟨v,_,rfl,h1,h2.append h'⟩
theorem VRL.nil {ρ:Rho}:VRL ρ [] []:=by simp only [VRL]
theorem VRL.cons {ρ:Rho}{a:AV}{v:Value}{l:List AV}{vs:List Value}(h:VR ρ a v)(h':VRL ρ l vs):VRL ρ (a::l) (v::vs):=by
 simp only [VRL];exact⟨v,vs,rfl,h,h'⟩
theorem LI {ρ:Rho}{a:AV}{v:Value}(h:VR ρ a v)(hs:scalar a=true):v.oneCell'=true:=by
 cases a with
 | bool b=>simp only [VR] at h;subst h;rfl
 | int k n=>simp only [VR] at h;subst h;rfl
 | str s=>simp only [VR] at h;subst h;rfl
 | ptr p=>cases p with
  | none=>simp only [VR] at h;subst h;rfl
  | some a=>simp only [VR] at h;obtain⟨_,_,_,_,rfl⟩:=h;rfl
 | sl p n c=>cases p with
  | none=>simp only [VR] at h;obtain⟨_,_,rfl⟩:=h;rfl
  | some a=>cases c with
   | ex cap=>simp only [VR] at h;obtain⟨_,_,_,_,rfl⟩:=h;rfl
   | un sz=>simp only [VR] at h;obtain⟨_,_,_,_,_,_,rfl,_⟩:=h;rfl
 | mp p=>cases p with
  | none=>simp only [VR] at h;subst h;rfl
  | some a=>simp only [VR] at h;obtain⟨_,_,_,_,rfl⟩:=h;rfl
 | fn f x y=>simp only [VR] at h;obtain⟨_,_,rfl,_⟩:=h;rfl
 | nilFn=>simp only [VR] at h;subst h;rfl
 | ifc t x=>simp only [VR] at h;obtain⟨_,rfl,_⟩:=h;rfl
 | nilIfc=>simp only [VR] at h;subst h;rfl
 | agg l=>simp [scalar] at hs
 | tup l=>simp [scalar] at hs
 | bot=>simp [scalar] at hs
theorem VR.cells_scalar {ρ:Rho}{a:AV}{v:Value}(h:VR ρ a v)(hs:scalar a=true):VRL ρ a.cells v.cells.toList:=by
 have h1:=LI h hs
 cases a<;>simp [scalar] at hs<;>simp only [AV.cells]<;>(cases v<;>simp [Value.oneCell'] at h1<;>simp only [Value.cells]<;>exact VRL.cons h VRL.nil)
theorem VR.cells_agg {ρ:Rho}{l:List AV}{v:Value}(h:VR ρ (.agg l) v):VRL ρ (AV.agg l).cells v.cells.toList:=by
 simp only [VR] at h;obtain⟨cs,rfl,h1⟩:=h;exact h1
theorem VR.cells {ρ:Rho}{a:AV}{v:Value}(h:VR ρ a v)(hs:a.cells.all scalar=true):VRL ρ a.cells v.cells.toList:=by
 cases a with
 | agg l=>exact h.cells_agg
 | tup l=>simp [AV.cells,scalar] at hs
 | bot=>simp [AV.cells,scalar] at hs
 | _=>exact h.cells_scalar rfl
def ER (ρ:Rho):List (AV × AV)→List MapEntry→Prop
 | [],l=>l = []
 | e::es,l=>∃ x xs,l=x::xs∧VR ρ e.1 x.key∧VR ρ e.2 x.val∧ER ρ es xs
def BX (wr:Bool)(vs:List AV)(b c:Nat)(fz:Nat × Nat):Prop:=
 match wr with
 | true=>∀ o,o<c→¬ (fz.1≤o∧o<fz.2)
 | false=>∀ x,vs = [.mp x]→b=0
def Born (ents:Array MapEntry)(clock:Nat):Prop:=(∀ x∈ents.toList,x.born<clock)∧(ents.toList.map (·.born)).Nodup
theorem Born.nil (clock:Nat):Born #[] clock:=⟨by simp,by simp⟩
theorem Born.push {ents:Array MapEntry}{clock:Nat}(h:Born ents clock)(k v:Value):Born (ents.push { key:=k,val:=v,born:=clock }) (clock+1):=by
 refine⟨fun x hx=>?_,?_⟩
 ·simp only [Array.toList_push,List.mem_append,List.mem_singleton] at hx
  rcases hx with hx | rfl
  ·exact Nat.lt_succ_of_lt (h.1 x hx)
  ·exact Nat.lt_succ_self _
 ·simp only [Array.toList_push,List.map_append,List.map_cons,List.map_nil]
  refine List.nodup_append.2 ⟨h.2,by simp,fun a ha b hb=>?_⟩
  simp only [List.mem_singleton] at hb
  subst hb
  simp only [List.mem_map] at ha
  obtain⟨x,hx,rfl⟩:=ha
  exact Nat.ne_of_lt (h.1 x hx)
theorem NQ (l:List MapEntry)(k v:Value):∀ j:Nat,(l.modify j fun e=>{ e with key:=k,val:=v }).map (·.born)=l.map (·.born):=by
 induction l with
 | nil=>intro j;cases j<;>rfl
 | cons x l ih=>
  intro j
  cases j with
  | zero=>rfl
  | succ j=>simp only [List.modify_succ_cons,List.map_cons,ih j]
theorem Born.modify {ents:Array MapEntry}{clock:Nat}(h:Born ents clock)(j:Nat)(k v:Value):Born (ents.modify j fun e=>{ e with key:=k,val:=v }) clock:=by
 have e:((ents.modify j fun e=>{ e with key:=k,val:=v }).toList.map (·.born))=ents.toList.map (·.born):=by
  rw [Array.toList_modify,NQ]
 refine⟨fun x hx=>?_,by rw [e];exact h.2⟩
 have hm:x.born∈ents.toList.map (·.born):=by rw [← e];exact List.mem_map_of_mem hx
 obtain⟨y,hy,ey⟩:=List.mem_map.1 hm
 rw [← ey];exact h.1 y hy
theorem Born.erase {ents:Array MapEntry}{clock:Nat}(h:Born ents clock)(j:Nat):Born (ents.eraseIdxIfInBounds j) clock:=by
 unfold Array.eraseIdxIfInBounds
 split
 ·rw [Born,Array.toList_eraseIdx]
  exact⟨fun x hx=>h.1 x (List.mem_of_mem_eraseIdx hx),List.Nodup.sublist ((List.eraseIdx_sublist ents.toList j).map _) h.2⟩
 ·exact h
def BR (ρ:Rho)(w:World)(i:Nat):Blk→Prop
 | .cells wr vs=>∃ β b c cs e fz,ρ i=some (β,b,c)∧w.heap[β]?=some (.cells cs e fz)∧cs.size=c∧b+vs.length≤c∧
   (∀ k a,vs[k]?=some a→∃ v,cs[b+k]?=some v∧VR ρ a v)∧BX wr vs b c fz
 | .mp es=>∃ β b c ents clock,ρ i=some (β,b,c)∧w.heap[β]?=some (.map ents clock)∧ER ρ es ents.toList∧Born ents clock
def Blk.wr:Blk→Bool
 | .cells w _=>w
 | .mp _=>true
structure R (P:Program)(ρ:Rho)(h:Heap)(w:World):Prop where
 blk:∀ i b,h.get i=some b→BR ρ w i b
 inj:∀ i j b b' β x x',i≠j→h.get i=some b→h.get j=some b'→ρ i=some (β,x)→ρ j=some (β,x')→b.wr=false∧b'.wr=false
 bnd:∀ i x,ρ i=some x→i<h.next
 glob:∀ g,g<P.globals.size→∃ c,ρ g=some (g,0,c)
theorem ER.mono {ρ ρ':Rho}(hl:ρ.le ρ'):∀ {es:List (AV × AV)} {l:List MapEntry},ER ρ es l→ER ρ' es l
 | [],_,h=>h
 | e::es,_,h=>by obtain⟨x,xs,rfl,h1,h2,h3⟩:=h;exact⟨x,xs,rfl,h1.mono hl,h2.mono hl,h3.mono hl⟩
theorem BR.mono {ρ ρ':Rho}(hl:ρ.le ρ'){w:World}{i:Nat}{b:Blk}(h:BR ρ w i b):BR ρ' w i b:=by
 cases b with
 | cells wr vs=>
  obtain⟨β,b,c,cs,e,fz,h1,h2,h3,h4,h5,h6⟩:=h
  exact⟨β,b,c,cs,e,fz,hl _ _ h1,h2,h3,h4,fun k a hk=>let ⟨v,hv,hr⟩:=h5 k a hk;⟨v,hv,hr.mono hl⟩,h6⟩
 | mp es=>
  obtain⟨β,b,c,ents,clock,h1,h2,h3,h4⟩:=h
  exact⟨β,b,c,ents,clock,hl _ _ h1,h2,h3.mono hl,h4⟩
theorem BR.same {ρ:Rho}{w w':World}{i:Nat}{b:Blk}(h:BR ρ w i b)(hw:∀ β x,ρ i=some (β,x)→w'.heap[β]?=w.heap[β]?):BR ρ w' i b:=by
 cases b with
 | cells wr vs=>
  obtain⟨β,b,c,cs,e,fz,h1,h2,h3⟩:=h
  exact⟨β,b,c,cs,e,fz,h1,by rw [hw β _ h1];exact h2,h3⟩
 | mp es=>
  obtain⟨β,b,c,ents,clock,h1,h2,h3⟩:=h
  exact⟨β,b,c,ents,clock,h1,by rw [hw β _ h1];exact h2,h3⟩
theorem BR.at {ρ:Rho}{w:World}{i:Nat}{b:Blk}(h:BR ρ w i b):∃ β x,ρ i=some (β,x)∧β<w.heap.size:=by
 cases b with
 | cells wr vs=>
  obtain⟨β,b,c,cs,e,fz,h1,h2,_⟩:=h
  exact⟨β,(b,c),h1,(Array.getElem?_eq_some_iff.1 h2).1⟩
 | mp es=>
  obtain⟨β,b,c,ents,clock,h1,h2,_⟩:=h
  exact⟨β,(b,c),h1,(Array.getElem?_eq_some_iff.1 h2).1⟩
structure Keeps (ρ:Rho)(h:Heap)(w w':World):Prop where
 size:w.heap.size≤w'.heap.size
 old:∀ β,β<w.heap.size→(∀ i b x,h.get i=some b→b.wr=true→ρ i≠some (β,x))→w'.heap[β]?=w.heap[β]?
 tape:w'.tape=w.tape
 os:w'.os=w.os
 output:w'.output=w.output
structure Step (P:Program)(ρ:Rho)(h:Heap)(w:World)(ρ':Rho)(h':Heap)(w':World):Prop where
 rel:R P ρ' h' w'
 le:ρ.le ρ'
 keeps:Keeps ρ h w w'
 next:h.next≤h'.next
 gone:∀ i,i<h.next→h.get i=none→h'.get i=none
 fresh:∀ i x,ρ' i=some x→ρ i=none→h.next≤i
 grow:∀ i b β x,h'.get i=some b→ρ' i=some (β,x)→β<w.heap.size→∃ j b' x',h.get j=some b'∧ρ j=some (β,x')∧(b.wr=true→b'.wr=true)
theorem Step.refl {P:Program}{ρ:Rho}{h:Heap}{w:World}(hr:R P ρ h w):Step P ρ h w ρ h w:=
 ⟨hr,ρ.le_refl,⟨Nat.le_refl _,fun _ _ _=>rfl,rfl,rfl,rfl⟩,Nat.le_refl _,fun _ _ h=>h,fun i x h h'=>(by rw [h] at h';cases h'),fun i b _ x hb hx _=>⟨i,b,x,hb,hx,id⟩⟩
theorem Step.trans {P:Program}{ρ ρ₁ ρ₂:Rho}{h h₁ h₂:Heap}{w w₁ w₂:World}(s:Step P ρ h w ρ₁ h₁ w₁)(t:Step P ρ₁ h₁ w₁ ρ₂ h₂ w₂):Step P ρ h w ρ₂ h₂ w₂ where
 rel:=t.rel
 le:=Rho.le_trans s.le t.le
 keeps:=by
  refine⟨Nat.le_trans s.keeps.size t.keeps.size,fun β hβ hno=>?_,t.keeps.tape.trans s.keeps.tape,t.keeps.os.trans s.keeps.os,t.keeps.output.trans s.keeps.output⟩
  rw [t.keeps.old β (Nat.lt_of_lt_of_le hβ s.keeps.size) ?_,s.keeps.old β hβ hno]
  intro i b x hi hw hx
  obtain⟨j,b',x',hj,hx',hwr⟩:=s.grow i b β x hi hx hβ
  exact hno j b' x' hj (hwr hw) hx'
 next:=Nat.le_trans s.next t.next
 gone:=fun i hi hn=>t.gone i (Nat.lt_of_lt_of_le hi s.next) (s.gone i hi hn)
 fresh:=fun i x hx hn=>by
  cases e:ρ₁ i with
  | none=>exact Nat.le_trans s.next (t.fresh i x hx e)
  | some y=>exact s.fresh i y e hn
 grow:=fun i b β x hb hx hβ=>by
  obtain⟨j,b',x',hj,hx',hwr⟩:=t.grow i b β x hb hx (Nat.lt_of_lt_of_le hβ s.keeps.size)
  obtain⟨k,b'',x'',hk,hx'',hwr'⟩:=s.grow j b' β x' hj hx' hβ
  exact⟨k,b'',x'',hk,hx'',fun h=>hwr' (hwr h)⟩
theorem R.drew {P:Program}{ρ:Rho}{h:Heap}{w:World}(hr:R P ρ h w):R P ρ h w.drew:=
 ⟨fun i b hb=>(hr.blk i b hb).same fun _ _ _=>rfl,hr.inj,hr.bnd,hr.glob⟩
theorem Step.drew {P:Program}{ρ:Rho}{h:Heap}{w:World}(hr:R P ρ h w):Step P ρ h w ρ h w.drew:=
 ⟨hr.drew,ρ.le_refl,⟨Nat.le_refl _,fun _ _ _=>rfl,rfl,rfl,rfl⟩,Nat.le_refl _,fun _ _ h=>h,fun i x h h'=>(by rw [h] at h';cases h'),fun i b _ x hb hx _=>⟨i,b,x,hb,hx,id⟩⟩
theorem Step.alloc_at {P:Program}{ρ₀:Rho}{h₀:Heap}{w₀:World}{ρ:Rho}{h:Heap}{w:World}(s:Step P ρ₀ h₀ w₀ ρ h w)(i:Nat)(hi₀:h₀.next≤i)(hρ:ρ i=none)(h':Heap)(hn:h.next≤h'.next)(hlt:i<h'.next)
  (o:Obj) (b:Blk) (x:Nat × Nat) (hget:∀ j,h'.get j=if j=i then some b else h.get j)
  (hb:BR (fun j=>if j=i then some (w.heap.size,x) else ρ j) (w.alloc o) i b) :
  Step P ρ₀ h₀ w₀ (fun j=>if j=i then some (w.heap.size,x) else ρ j) h' (w.alloc o):=by
 have hr:=s.rel
 have hle:ρ.le (fun j=>if j=i then some (w.heap.size,x) else ρ j):=fun j y hy=>by
  by_cases e:j=i
  ·subst e;rw [hρ] at hy;cases hy
  ·simp [e,hy]
 have hold:∀ β,β<w.heap.size→(w.alloc o).heap[β]?=w.heap[β]?:=fun β hβ=>by
  simp only [World.alloc,Array.getElem?_push]
  rw [if_neg (Nat.ne_of_lt hβ)]
 refine⟨⟨fun j b' hj=>?_,?_,?_,?_⟩,Rho.le_trans s.le hle,⟨by have:=s.keeps.size;simp;omega,fun β hβ hno=>(hold β (Nat.lt_of_lt_of_le hβ s.keeps.size)).trans (s.keeps.old β hβ hno),s.keeps.tape,s.keeps.os,s.keeps.output⟩,Nat.le_trans s.next hn,?_,?_,?_⟩
 ·rw [hget] at hj
  by_cases e:j=i
  ·subst e;simp at hj;subst hj;exact hb
  ·simp only [e,if_false] at hj
   refine((hr.blk j b' hj).mono hle).same fun β y hy=>?_
   simp only [e,if_false] at hy
   obtain⟨β',y',h1,h2⟩:=(hr.blk j b' hj).at
   rw [hy] at h1;cases h1
   exact hold _ h2
 ·intro j k bj bk β y y' hne hj hk hyj hyk
  rw [hget] at hj hk
  by_cases e:j=i
  ·have e' : ¬ k=i:=fun h=>hne (e.trans h.symm)
   simp only [e,if_true] at hyj
   simp only [e',if_false] at hyk hk
   cases hyj
   obtain⟨β',y',h1,h2⟩:=(hr.blk k bk hk).at
   rw [hyk] at h1;cases h1
   exact absurd h2 (Nat.lt_irrefl _)
  ·by_cases e':k=i
   ·simp only [e',if_true] at hyk
    simp only [e,if_false] at hyj hj
    cases hyk
    obtain⟨β',y',h1,h2⟩:=(hr.blk j bj hj).at
    rw [hyj] at h1;cases h1
    exact absurd h2 (Nat.lt_irrefl _)
   ·simp only [e,e',if_false] at hj hk hyj hyk
    exact hr.inj j k bj bk β y y' hne hj hk hyj hyk
 ·intro j y hy
  by_cases e:j=i
  ·subst e;exact hlt
  ·simp only [e,if_false] at hy;exact Nat.lt_of_lt_of_le (hr.bnd j y hy) hn
 ·intro g hg
  obtain⟨c,hc⟩:=hr.glob g hg
  exact⟨c,hle _ _ hc⟩
 ·intro j hj hnone
  rw [hget,if_neg (by omega)]
  exact s.gone j hj hnone
 ·intro j y hy hn'
  by_cases e:j=i
  ·subst e;exact hi₀
  ·simp only [e,if_false] at hy;exact s.fresh j y hy hn'
 ·intro j b' β y hj hy hβ
  rw [hget] at hj
  by_cases e:j=i
  ·simp only [e,if_true] at hy;cases hy;have:=s.keeps.size;omega
  ·simp only [e,if_false] at hj hy;exact s.grow j b' β y hj hy hβ
theorem Step.alloc {P:Program}{ρ:Rho}{h:Heap}{w:World}(hr:R P ρ h w)(o:Obj)(b:Blk)(x:Nat × Nat)
  (hb:BR (fun j=>if j=h.next then some (w.heap.size,x) else ρ j) (w.alloc o) h.next b) :
  Step P ρ h w (fun j=>if j=h.next then some (w.heap.size,x) else ρ j) (h.new b) (w.alloc o):=
 (Step.refl hr).alloc_at h.next (Nat.le_refl _) (by
  cases e:ρ h.next with
  | none=>rfl
  | some y=>exact absurd (hr.bnd _ _ e) (Nat.lt_irrefl _)) _ (by simp) (by simp) o b x (fun j=>h.get_new j b) hb
theorem R.fewer {P:Program}{ρ:Rho}{h h':Heap}{w:World}(hr:R P ρ h w)(hn:h.next≤h'.next)(hsub:∀ i b,h'.get i=some b→h.get i=some b):R P ρ h' w:=
 ⟨fun i b hb=>hr.blk i b (hsub i b hb),fun i j b b' β x x' hne hi hj=>hr.inj i j b b' β x x' hne (hsub i b hi) (hsub j b' hj),fun i x hx=>Nat.lt_of_lt_of_le (hr.bnd i x hx) hn,hr.glob⟩
theorem Step.put {P:Program}{ρ:Rho}{h:Heap}{w:World}(hr:R P ρ h w){i:Nat}{b:Blk}(hb:h.get i=some b)(hw:b.wr=true){β:Nat}{x:Nat × Nat}(hx:ρ i=some (β,x)){w':World}
  (hheap:∀ γ,γ≠β→w'.heap[γ]?=w.heap[γ]?) (hsize:w'.heap.size=w.heap.size) (ht:w'.tape=w.tape) (ho:w'.os=w.os) (hout:w'.output=w.output) {b':Blk} (hbr:BR ρ w' i b') :
  Step P ρ h w ρ (h.put i (some b')) w':=by
 refine⟨⟨fun j c hj=>?_,?_,hr.bnd,hr.glob⟩,ρ.le_refl,⟨by rw [hsize];exact Nat.le_refl _,fun γ _ hno=>hheap γ fun e=>hno i b x hb hw (e ▸ hx),ht,ho,hout⟩,Nat.le_refl _,?_,fun i x h h'=>(by rw [h] at h';cases h'),?_⟩
 ·rw [Heap.get_put] at hj
  by_cases e:j=i
  ·subst e;simp at hj;subst hj;exact hbr
  ·simp only [e,if_false] at hj
   refine(hr.blk j c hj).same fun γ y hy=>hheap γ fun eγ=>?_
   subst eγ
   have:=(hr.inj j i c b _ y x e hj hb hy hx).2
   rw [hw] at this;cases this
 ·intro j k bj bk γ y y' hne hj hk hyj hyk
  rw [Heap.get_put] at hj hk
  by_cases e:j=i
  ·have e' : ¬ k=i:=fun h=>hne (e.trans h.symm)
   simp only [e',if_false] at hk
   subst e
   have:=(hr.inj j k b bk γ y y' hne hb hk hyj hyk).1
   rw [hw] at this;cases this
  ·by_cases e':k=i
   ·simp only [e,if_false] at hj
    subst e'
    have:=(hr.inj j k bj b γ y y' hne hj hb hyj hyk).2
    rw [hw] at this;cases this
   ·simp only [e,e',if_false] at hj hk
    exact hr.inj j k bj bk γ y y' hne hj hk hyj hyk
 ·intro j hj hnone
  rw [Heap.get_put,if_neg (fun e=>by subst e;rw [hb] at hnone;cases hnone)]
  exact hnone
 ·intro j c γ y hj hy _
  rw [Heap.get_put] at hj
  by_cases e:j=i
  ·subst e;exact⟨j,b,y,hb,hy,fun _=>hw⟩
  ·simp only [e,if_false] at hj;exact⟨j,c,y,hj,hy,id⟩
theorem Step.move {P:Program}{ρ:Rho}{h:Heap}{w:World}(hr:R P ρ h w){i:Nat}{b:Blk}(hb:h.get i=some b)(hw:b.wr=true){β:Nat}{x:Nat × Nat}(hx:ρ i=some (β,x)){w':World}
  (hheap:∀ γ,γ≠β→w'.heap[γ]?=w.heap[γ]?) (hsize:w'.heap.size=w.heap.size) (ht:w'.tape=w.tape) (ho:w'.os=w.os) (hout:w'.output=w.output) {b':Blk} (y:Nat × Nat)
  (hbr:BR (fun j=>if j=h.next then some (β,y) else ρ j) w' h.next b') :
  Step P ρ h w (fun j=>if j=h.next then some (β,y) else ρ j) ((h.put i none).new b') w':=by
 have hρ:ρ h.next=none:=by
  cases e:ρ h.next with
  | none=>rfl
  | some y=>exact absurd (hr.bnd _ _ e) (Nat.lt_irrefl _)
 have hle:ρ.le (fun j=>if j=h.next then some (β,y) else ρ j):=fun j z hz=>by
  by_cases e:j=h.next
  ·subst e;rw [hρ] at hz;cases hz
  ·simp [e,hz]
 have hin:i≠h.next:=fun e=>by rw [e,hρ] at hx;cases hx
 have hget:∀ j,((h.put i none).new b').get j=if j=h.next then some b' else if j=i then none else h.get j:=fun j=>by
  rw [Heap.get_new,Heap.get_put];rfl
 have hβ:β<w.heap.size:=by
  obtain⟨β',y',h1,h2⟩:=(hr.blk i b hb).at
  rw [hx] at h1;cases h1;exact h2
 have hother:∀ j c γ z,j≠i→h.get j=some c→ρ j=some (γ,z)→γ≠β:=fun j c γ z hji hj hz eγ=>by
  subst eγ
  have:=(hr.inj j i c b _ z x hji hj hb hz hx).2
  rw [hw] at this;cases this
 refine⟨⟨fun j c hj=>?_,?_,?_,?_⟩,hle,⟨by rw [hsize];exact Nat.le_refl _,fun γ _ hno=>hheap γ fun e=>hno i b x hb hw (e ▸ hx),ht,ho,hout⟩,by simp,?_,?_,?_⟩
 ·rw [hget] at hj
  by_cases e:j=h.next
  ·subst e;simp at hj;subst hj;exact hbr
  ·by_cases e':j=i
   ·rw [if_neg e,if_pos e'] at hj;cases hj
   ·simp only [e,if_false,e'] at hj
    refine((hr.blk j c hj).mono hle).same fun γ z hz=>hheap γ ?_
    simp only [e,if_false] at hz
    exact hother j c γ z e' hj hz
 ·intro j k bj bk γ z z' hne hj hk hzj hzk
  rw [hget] at hj hk
  by_cases e:j=h.next
  ·have e' : ¬ k=h.next:=fun h=>hne (e.trans h.symm)
   simp only [e,if_true] at hzj;cases hzj
   by_cases e2:k=i
   ·rw [if_neg e',if_pos e2] at hk;cases hk
   ·simp only [e',if_false,e2] at hk hzk
    exact absurd rfl (hother k bk _ z' e2 hk hzk)
  ·by_cases e1:j=i
   ·rw [if_neg e,if_pos e1] at hj;cases hj
   ·simp only [e,if_false,e1] at hj hzj
    by_cases e':k=h.next
    ·simp only [e',if_true] at hzk;cases hzk
     exact absurd rfl (hother j bj _ z e1 hj hzj)
    ·by_cases e2:k=i
     ·rw [if_neg e',if_pos e2] at hk;cases hk
     ·simp only [e',if_false,e2] at hk hzk
      exact hr.inj j k bj bk γ z z' hne hj hk hzj hzk
 ·intro j z hz
  by_cases e:j=h.next
  ·subst e;simp
  ·simp only [e,if_false] at hz;have:=hr.bnd j z hz;simp;omega
 ·intro g hg
  obtain⟨c,hc⟩:=hr.glob g hg
  exact⟨c,hle _ _ hc⟩
 ·intro j hj hnone
  rw [hget,if_neg (Nat.ne_of_lt hj)]
  split
  ·rfl
  ·exact hnone
 ·intro j z hz hn'
  by_cases e:j=h.next
  ·subst e;exact Nat.le_refl _
  ·simp only [e,if_false] at hz;rw [hz] at hn';cases hn'
 ·intro j c γ z hj hz hγ
  rw [hget] at hj
  by_cases e:j=h.next
  ·simp only [e,if_true] at hz;cases hz;exact⟨i,b,x,hb,hx,fun _=>hw⟩
  ·by_cases e1:j=i
   ·rw [if_neg e,if_pos e1] at hj;cases hj
   ·simp only [e,if_false,e1] at hj hz
    exact⟨j,c,z,hj,hz,id⟩
def FR (ρ:Rho)(fr:Fr)(tm:Array Value):Prop:=fr.length=tm.size∧∀ s,VR ρ (fr.getD s .bot) (tm.getD s undef)
theorem FR.mono {ρ ρ':Rho}(hl:ρ.le ρ'){fr:Fr}{tm:Array Value}(h:FR ρ fr tm):FR ρ' fr tm:=⟨h.1,fun s=>(h.2 s).mono hl⟩
theorem FR.put {ρ:Rho}{fr:Fr}{a:Act}(h:FR ρ fr a.tmps){v:AV}{v':Value}(hv:VR ρ v v')(dst:Option Tmp):FR ρ (putA fr dst v) (a.put dst v').tmps:=by
 cases dst with
 | none=>exact h
 | some d=>
  refine⟨by simp [putA,GT,Act.put,h.1],fun s=>?_⟩
  have hs:=h.2 s
  simp only [putA,GT,Act.put]
  simp only [List.getD_eq_getElem?_getD,Array.getD_eq_getD_getElem?,List.getElem?_set,Array.getElem?_setIfInBounds] at hs ⊢
  by_cases e:d=s
  ·subst e
   by_cases hlt:d<fr.length
   ·simp [hlt,h.1 ▸ hlt,hv]
   ·simp [hlt,VR]
  ·simp [e,hs]
theorem LD (ρ:Rho):∀ {v:Value} {a:AV},absS v=some a→VR ρ a v:=by
 intro v a h
 unfold absS at h
 split at h<;>first | (cases h;simp only [VR];done) | (cases h;simp only [VR];first | trivial | exact⟨rfl,rfl,rfl⟩) | cases h
theorem I5 (ρ:Rho):∀ {l:List Value} {as:List AV},absL l=some as→VRL ρ as l
 | [],as,h=>by simp only [absL,Option.some.injEq] at h;subst h;exact VRL.nil
 | v::vs,as,h=>by
  simp only [absL,Option.bind_eq_some_iff,Option.map_eq_some_iff] at h
  obtain⟨a,ha,as',has,rfl⟩:=h
  exact VRL.cons (LD ρ ha) (I5 ρ has)
theorem LJ (ρ:Rho){v:Value}{a:AV}(h:absV v=some a):VR ρ a v:=by
 unfold absV at h
 split at h
 ·simp only [Option.map_eq_some_iff] at h;obtain⟨l,hl,rfl⟩:=h;simp only [VR];exact⟨_,rfl,I5 ρ hl⟩
 ·simp only [Option.map_eq_some_iff] at h;obtain⟨l,hl,rfl⟩:=h;simp only [VR];exact⟨_,rfl,I5 ρ hl⟩
 ·exact LD ρ h
section
variable {P:Program}{ρ:Rho}{fr:Fr}{a:Act}
theorem BQ (hg:∀ g,g<P.globals.size→∃ c,ρ g=some (g,0,c))(hf:FR ρ fr a.tmps){x:Operand}{v:AV}(h:ev P fr x=some v):VR ρ v (a.eval x):=by
 cases x with
 | tmp t=>simp only [ev,Jg,Option.some.injEq] at h;subst h;exact hf.2 t
 | const c=>exact LJ ρ h
 | global g=>
  simp only [ev] at h
  split at h
  ·rename_i hlt
   cases h
   obtain⟨c,hc⟩:=hg g hlt
   simp only [VR,Act.eval]
   exact⟨g,0,c,hc,rfl⟩
  ·cases h
 | func f=>simp only [ev,Option.some.injEq] at h;subst h;simp only [VR,Act.eval];exact⟨#[],#[],rfl,VRL.nil,VRL.nil⟩
theorem EE (hg:∀ g,g<P.globals.size→∃ c,ρ g=some (g,0,c))(hf:FR ρ fr a.tmps):∀ {xs:List Operand} {l:List AV},evs P fr xs=some l→VRL ρ l (xs.map a.eval)
 | [],l,h=>by simp only [evs,Option.some.injEq] at h;subst h;exact VRL.nil
 | x::xs,l,h=>by
  simp only [evs,Option.bind_eq_some_iff,Option.map_eq_some_iff] at h
  obtain⟨v,hv,l',hl,rfl⟩:=h
  exact VRL.cons (BQ hg hf hv) (EE hg hf hl)
end
end Go.Ab
