import Derived.Test.YtdmgkkcjnmmfmaaGreatAbS
import Derived.ChangeArms
import Derived.Carry
import Derived.Test.YtdmgkkcjnmmfmaaGreatAbQ
namespace Go.Ab
open Go
set_option linter.all false
def Ok {R:Type}(x:Option R)(Q:R→Prop):Prop:=∃ r,x=some r∧Q r
section
variable {R:Type}
theorem Ok.of {r:R}{Q:R→Prop}(q:Q r):Ok (some r) Q:=⟨r,rfl,q⟩
theorem Ok.mono {x:Option R}{P Q:R→Prop}(h:Ok x P)(hk:∀ r,P r→Q r):Ok x Q:=let ⟨r,e,q⟩:=h;⟨r,e,hk r q⟩
theorem Ok.eq {x y:Option R}{Q:R→Prop}(h:Ok y Q)(e:x=y):Ok x Q:=e ▸ h
theorem Ah {x:Option (AV × Heap)}{v:AV}{g:Heap}{Q:AV × Heap→Prop}(e:x=some (v,g))(q:Q (v,g)):Ok x Q:=⟨_,e,q⟩
theorem Ao {x:Option (AV × Heap)}{K:AV→Heap→Option R}{Q:R→Prop}{P:AV × Heap→Prop}(h:Ok x P)(hk:∀ v g,P (v,g)→Ok (K v g) Q):Ok (cl x K) Q:=by
 obtain⟨⟨v,g⟩,rfl,p⟩:=h;exact hk v g p
theorem CJ {x:OutV}{K:Ex→List AV→Heap→Option R}{Q:R→Prop}{P:Ex × List AV × Heap→Prop}(h:Ok x P)(hk:∀ e vs g,P (e,vs,g)→Ok (K e vs g) Q):Ok (lp x K) Q:=by
 obtain⟨⟨e,vs,g⟩,rfl,p⟩:=h;exact hk e vs g p
end
theorem TK (x:Option (AV × Heap)):(cl x fun v h=>some (v,h))=x:=by cases x<;>rfl
theorem AZ:gdW (.bool true) true=some true:=rfl
theorem AY:gdW (.bool true) false=some false:=rfl
theorem Ac:gdW (.bool false) true=some false:=rfl
theorem AX:gdW (.bool false) false=some true:=rfl
theorem Pm {F:List AV→Heap→OutV}{Q:Ex × List AV × Heap→Prop}(I:Nat→List AV→Heap→Prop)
  (step:∀ n vs h,I n vs h→Ok (F vs h) fun r=>(r.1 = .normal∧∃ m,m<n∧I m r.2.1 r.2.2)∨(r.1≠.normal∧Q r)) :
  ∀ k n vs h,n<k→I n vs h→Ok (iter k F vs h) Q
 | 0,n,vs,h,hk,_=>absurd hk (Nat.not_lt_zero n)
 | k+1,n,vs,h,hk,hi=>by
  obtain⟨⟨e,vs',h'⟩,he,hq⟩:=step n vs h hi
  rw [iter,he,Option.bind_some]
  rcases hq with⟨rfl,m,hm,hi'⟩ | ⟨hne,hq⟩
  ·exact Pm I step k m vs' h' (by omega) hi'
  ·cases e with
   | normal=>exact absurd rfl hne
   | exit id=>exact⟨_,rfl,hq⟩
   | ret=>exact⟨_,rfl,hq⟩
theorem BF {F:List AV→Heap→OutV}{Q:Ex × List AV × Heap→Prop}(I:Nat→List AV→Heap→Prop)
  (step:∀ n vs h,I n vs h→Ok (F vs h) fun r=>(r.1 = .normal∧∃ m,m<n∧I m r.2.1 r.2.2)∨(r.1≠.normal∧Q r))
  {n:Nat} {vs:List AV} {h:Heap} (hn:n < 1267650600228229401496703205376) (hi:I n vs h):Ok (loopN F vs h) Q:=
 Pm I step _ n vs h hn hi
structure Same (S:List Nat)(h h':Heap):Prop where
 next:h.next≤h'.next
 get:∀ j,j<h.next→j∉S→h'.get j=h.get j
theorem Same.refl (S:List Nat)(h:Heap):Same S h h:=⟨Nat.le_refl _,fun _ _ _=>rfl⟩
theorem Same.trans {S:List Nat}{h h' h'':Heap}(a:Same S h h')(b:Same S h' h''):Same S h h'':=
 ⟨Nat.le_trans a.next b.next,fun j hj hs=>(b.get j (Nat.lt_of_lt_of_le hj a.next) hs).trans (a.get j hj hs)⟩
theorem Same.sub {S T:List Nat}{h h':Heap}(a:Same S h h')(hs:∀ j,j∈S→j∈T):Same T h h':=
 ⟨a.next,fun j hj hn=>a.get j hj fun hm=>hn (hs j hm)⟩
theorem Same.old {S T:List Nat}{h h' h'':Heap}(a:Same T h h')(b:Same S h' h'')(hs:∀ j,j∈S→j∈T∨h.next≤j):Same T h h'':=
 ⟨Nat.le_trans a.next b.next,fun j hj hn=>(b.get j (Nat.lt_of_lt_of_le hj a.next) fun hm=>(hs j hm).elim hn (fun h=>by omega)).trans (a.get j hj hn)⟩
theorem Same.put (h:Heap)(i:Nat)(b:Option Blk):Same [i] h (h.put i b):=
 ⟨Nat.le_refl _,fun j _ hn=>by rw [Heap.get_put,if_neg (by simpa using hn)]⟩
theorem Same.new (h:Heap)(b:Blk):Same [] h (h.new b):=
 ⟨Nat.le_succ _,fun j hj _=>by rw [Heap.get_new,if_neg (by omega)]⟩
theorem Bd {h:Heap}{i j:Nat}{b:Option Blk}(hj:j≠i):(h.put i b).get j=h.get j:=by rw [Heap.get_put,if_neg hj]
theorem An {h:Heap}{i:Nat}{b:Option Blk}:(h.put i b).get i=b:=by rw [Heap.get_put,if_pos rfl]
theorem FK {h:Heap}{j:Nat}{b:Blk}(hj:j≠h.next):(h.new b).get j=h.get j:=by rw [Heap.get_new,if_neg hj]
theorem Am {h:Heap}{b:Blk}:(h.new b).get h.next=some b:=by rw [Heap.get_new,if_pos rfl]
theorem Dw (p:Option (Nat × Nat)):same (.ptr p) (.ptr p)=true:=by simp [same,sameS]
theorem Fg (k:IntKind)(n:Int):same (.int k n) (.int k n)=true:=by simp [same,sameS]
theorem I9 {R:Type}{f:Heap→Option AV}{v:AV}{g g':Heap}{hs:List Heap}{x:Option R}(hv:same v v=true)(h0:f g=some v)(h1:f g'=some v):chk (g::g'::hs) [(f,v,0,1)] x=x:=by
 rw [Lp,EF,EF,GJ]
 simp [h0,h1,hv]
theorem Bi {α:Type}:∀ (vs:List α) (o n:Nat),o+n≤vs.length→span vs o n=some ((vs.drop o).take n)
 | vs,0,0,_=>by cases vs<;>simp [span]
 | [],0,n+1,h=>by simp at h
 | v::vs,0,n+1,h=>by simp only [span,Bi vs 0 n (by simp at h;omega),Option.map_some];simp
 | [],o+1,n,h=>by simp at h
 | v::vs,o+1,n,h=>by simp only [span,Bi vs o n (by simp at h;omega),List.drop_succ_cons]
theorem F3 {α:Type}:∀ (vs:List α) (o:Nat) (xs:List α),o+xs.length≤vs.length→splice vs o xs=some (vs.take o++xs++vs.drop (o+xs.length))
 | vs,0,[],_=>by cases vs<;>simp [splice]
 | [],0,x::xs,h=>by simp at h
 | v::vs,0,x::xs,h=>by
  simp only [splice,F3 vs 0 xs (by simp at h;omega),Option.map_some];simp
 | [],o+1,xs,h=>by simp at h
 | v::vs,o+1,xs,h=>by
  simp only [splice,F3 vs o xs (by simp at h;omega),Option.map_some]
  simp [Nat.add_right_comm]
end Go.Ab
namespace Go.Ab
open Go
set_option linter.all false
inductive Ty where
 | bool
 | int (k:IntKind)
 | str
 | sl (e:Ty)
 | st (fs:List Ty)
mutual
def Ty.size:Ty→Nat
 | .st fs=>Ty.sizes fs
 | _=>1
def Ty.sizes:List Ty→Nat
 | []=>0
 | f::fs=>f.size+Ty.sizes fs
end
inductive D where
 | b (x:Bool)
 | i (n:Int)
 | s (l:List UInt8)
 | l (xs:List D)
 | t (xs:List D)
 deriving Inhabited
mutual
def tyIs (P:Program):Ty→TypeId→Bool
 | .bool,t=>match P.underlying t with | some .bool=>true | _=>false
 | .int k,t=>match P.underlying t with | some (.int k')=>decide (k'=k) | _=>false
 | .str,t=>match P.underlying t with | some .string=>true | _=>false
 | .sl e,t=>match P.underlying t with | some (.slice te)=>tyIs P e te && Nat.beq (P.cellsOf te) e.size && Nat.blt 0 e.size | _=>false
 | .st fs,t=>match P.underlying t with | some (.struct a)=>tysIs P fs a.toList 0 && Nat.beq (P.cellsOf t) (Ty.sizes fs) | _=>false
def tysIs (P:Program):List Ty→List Field→Nat→Bool
 | [],[],_=>true
 | f::fs,a::as,o=>tyIs P f a.type && Nat.beq a.offset o && Nat.beq (P.cellsOf a.type) f.size && tysIs P fs as (o+f.size)
 | _,_,_=>false
end
def CapOk (sz len:Nat):Cap→Prop
 | .ex k=>len≤k∧k≤maxLen
 | .un s=>s=sz
mutual
def Rep (h:Heap):Ty→D→List AV→Prop
 | .bool,.b x,cs=>cs = [.bool x]
 | .int k,.i n,cs=>cs = [.int k n]∧(Lit.int k n).wf=true
 | .str,.s l,cs=>cs = [.str l]
 | .sl e,.l xs,cs=>(cs = [.sl none 0 (.ex 0)]∧xs = [])∨
   ∃ i c vs,cs = [.sl (some (i,0)) xs.length c]∧i<h.next∧(xs≠[]→h.get i=some (.cells false vs))∧vs.length=xs.length*e.size∧xs.length≤maxLen∧
    (∀ (j:Nat) x,xs[j]?=some x→Rep h e x ((vs.drop (j*e.size)).take e.size))∧CapOk e.size xs.length c
 | .st fs,.t xs,cs=>Reps h fs xs cs
 | _,_,_=>False
def Reps (h:Heap):List Ty→List D→List AV→Prop
 | [],[],cs=>cs = []
 | f::fs,x::xs,cs=>Rep h f x (cs.take f.size)∧Reps h fs xs (cs.drop f.size)
 | _,_,_=>False
end
mutual
theorem Rep.mono {h h':Heap}(hn:h.next≤h'.next)(hg:∀ j,j<h.next→h'.get j=h.get j):∀ {τ:Ty} {x:D} {cs:List AV},Rep h τ x cs→Rep h' τ x cs
 | .bool,.b x,cs,r=>by simpa only [Rep] using r
 | .int k,.i n,cs,r=>by simpa only [Rep] using r
 | .str,.s l,cs,r=>by simpa only [Rep] using r
 | .sl e,.l xs,cs,r=>by
  simp only [Rep] at r ⊢
  rcases r with r | ⟨i,c,vs,h1,h2,h3,h4,h5,h6,h7⟩
  ·exact .inl r
  ·exact .inr ⟨i,c,vs,h1,by omega,fun hx=>by rw [hg i h2];exact h3 hx,h4,h5,fun j x hx=>Rep.mono hn hg (h6 j x hx),h7⟩
 | .st fs,.t xs,cs,r=>by simp only [Rep] at r ⊢;exact Reps.mono hn hg r
 | .bool,.i _,cs,r=>by simp [Rep] at r
 | .bool,.s _,cs,r=>by simp [Rep] at r
 | .bool,.l _,cs,r=>by simp [Rep] at r
 | .bool,.t _,cs,r=>by simp [Rep] at r
 | .int _,.b _,cs,r=>by simp [Rep] at r
 | .int _,.s _,cs,r=>by simp [Rep] at r
 | .int _,.l _,cs,r=>by simp [Rep] at r
 | .int _,.t _,cs,r=>by simp [Rep] at r
 | .str,.b _,cs,r=>by simp [Rep] at r
 | .str,.i _,cs,r=>by simp [Rep] at r
 | .str,.l _,cs,r=>by simp [Rep] at r
 | .str,.t _,cs,r=>by simp [Rep] at r
 | .sl _,.b _,cs,r=>by simp [Rep] at r
 | .sl _,.i _,cs,r=>by simp [Rep] at r
 | .sl _,.s _,cs,r=>by simp [Rep] at r
 | .sl _,.t _,cs,r=>by simp [Rep] at r
 | .st _,.b _,cs,r=>by simp [Rep] at r
 | .st _,.i _,cs,r=>by simp [Rep] at r
 | .st _,.s _,cs,r=>by simp [Rep] at r
 | .st _,.l _,cs,r=>by simp [Rep] at r
theorem Reps.mono {h h':Heap}(hn:h.next≤h'.next)(hg:∀ j,j<h.next→h'.get j=h.get j):∀ {τs:List Ty} {xs:List D} {cs:List AV},Reps h τs xs cs→Reps h' τs xs cs
 | [],[],cs,r=>by simpa only [Reps] using r
 | f::fs,x::xs,cs,r=>by
  simp only [Reps] at r ⊢
  exact⟨Rep.mono hn hg r.1,Reps.mono hn hg r.2⟩
 | [],_::_,cs,r=>by simp [Reps] at r
 | _::_,[],cs,r=>by simp [Reps] at r
end
def isMp:AV→Bool
 | .mp _=>true
 | _=>false
mutual
theorem Rep.noMp {h:Heap}:∀ {τ:Ty} {x:D} {cs:List AV},Rep h τ x cs→∀ a,a∈cs→isMp a=false
 | .bool,x,cs,r=>by cases x<;>simp only [Rep] at r;subst r;intro a ha;simp at ha;subst ha;rfl
 | .int k,x,cs,r=>by cases x<;>simp only [Rep] at r;rw [r.1];intro a ha;simp at ha;subst ha;rfl
 | .str,x,cs,r=>by cases x<;>simp only [Rep] at r;subst r;intro a ha;simp at ha;subst ha;rfl
 | .sl e,x,cs,r=>by
  cases x<;>simp only [Rep] at r
  rcases r with⟨rfl,_⟩ | ⟨i,c,vs,rfl,_⟩<;>(intro a ha;simp at ha;subst ha;rfl)
 | .st fs,x,cs,r=>by
  cases x<;>simp only [Rep] at r
  exact Reps.noMp r
theorem Reps.noMp {h:Heap}:∀ {τs:List Ty} {xs:List D} {cs:List AV},Reps h τs xs cs→∀ a,a∈cs→isMp a=false
 | [],xs,cs,r=>by
  cases xs<;>simp only [Reps] at r
  subst r;intro a ha;cases ha
 | f::fs,xs,cs,r=>by
  cases xs<;>simp only [Reps] at r
  intro a ha
  rw [← List.take_append_drop f.size cs] at ha
  rcases List.mem_append.1 ha with ha | ha
  ·exact Rep.noMp r.1 a ha
  ·exact Reps.noMp r.2 a ha
end
def RO (h:Heap):Prop:=∀ j b,h.get j=some b→b.wr=false
structure Ext (P:Program)(w:World)(ρ:Rho)(h:Heap)(ρ':Rho)(h':Heap):Prop where
 rel:R P ρ' h' w
 next:h.next≤h'.next
 get:∀ j,j<h.next→h'.get j=h.get j
 le:ρ.le ρ'
 ro:RO h'
section
variable {P:Program}{w:World}
theorem Ext.refl {ρ:Rho}{h:Heap}(hr:R P ρ h w)(ho:RO h):Ext P w ρ h ρ h:=⟨hr,Nat.le_refl _,fun _ _=>rfl,ρ.le_refl,ho⟩
theorem Ext.trans {ρ ρ₁ ρ₂:Rho}{h h₁ h₂:Heap}(a:Ext P w ρ h ρ₁ h₁)(b:Ext P w ρ₁ h₁ ρ₂ h₂):Ext P w ρ h ρ₂ h₂:=
 ⟨b.rel,Nat.le_trans a.next b.next,fun j hj=>(b.get j (Nat.lt_of_lt_of_le hj a.next)).trans (a.get j hj),Rho.le_trans a.le b.le,b.ro⟩
theorem Oc {ρ:Rho}{h:Heap}(hr:R P ρ h w)(x:Nat × Nat × Nat):ρ.le (fun j=>if j=h.next then some x else ρ j):=fun i y hy=>by
 have:=hr.bnd i y hy
 show(if i=h.next then some x else ρ i)=some y
 rw [if_neg (by omega)];exact hy
theorem Ext.block {ρ:Rho}{h:Heap}(hr:R P ρ h w)(ho:RO h){β b:Nat}{cs:Array Value}{e:TypeId}{fz:Nat × Nat}{vs:List AV}(hc:w.heap[β]?=some (.cells cs e fz))(hb:b+vs.length≤cs.size)
  (hv:∀ k a,vs[k]?=some a→∃ v,cs[b+k]?=some v∧VR ρ a v) (hm:∀ x,vs≠[.mp x]) :
  Ext P w ρ h (fun j=>if j=h.next then some (β,b,cs.size) else ρ j) (h.new (.cells false vs)):=by
 have hle:=Oc hr (β,b,cs.size)
 refine⟨⟨fun i bl hi=>?_,fun i j b1 b2 _ _ _ _ hi hj _ _=>?_,fun i x hx=>?_,fun g hg=>?_⟩,Nat.le_succ _,fun j hj=>by rw [Heap.get_new,if_neg (by omega)],hle,fun j bl hj=>?_⟩
 ·rw [Heap.get_new] at hi
  split at hi
  ·rename_i e';subst e'
   cases hi
   exact⟨β,b,cs.size,cs,e,fz,by simp,hc,rfl,hb,fun k a ha=>let ⟨v,h1,h2⟩:=hv k a ha;⟨v,h1,h2.mono hle⟩,fun x e=>absurd e (hm x)⟩
  ·exact(hr.blk i bl hi).mono hle
 ·have ro':∀ k bl,(h.new (.cells false vs)).get k=some bl→bl.wr=false:=fun k bl hk=>by
   rw [Heap.get_new] at hk
   split at hk
   ·cases hk;rfl
   ·exact ho k bl hk
  exact⟨ro' i b1 hi,ro' j b2 hj⟩
 ·show i<h.next+1
  by_cases e':i=h.next
  ·omega
  ·have:ρ i=some x:=by simpa [e'] using hx
   have:=hr.bnd i x this
   omega
 ·obtain⟨c,hc'⟩:=hr.glob g hg
  exact⟨c,hle _ _ hc'⟩
 ·rw [Heap.get_new] at hj
  split at hj
  ·cases hj;rfl
  ·exact ho j bl hj
theorem Ext.number {ρ:Rho}{h:Heap}(hr:R P ρ h w)(ho:RO h)(x:Nat × Nat × Nat):Ext P w ρ h (fun j=>if j=h.next then some x else ρ j) (hpN h 1):=by
 have hle:=Oc hr x
 refine⟨⟨fun i bl hi=>(hr.blk i bl hi).mono hle,fun i j b1 b2 _ _ _ _ hi hj _ _=>⟨ho i b1 hi,ho j b2 hj⟩,fun i y hy=>?_,fun g hg=>?_⟩,Nat.le_succ _,fun j _=>rfl,hle,ho⟩
 ·show i<h.next+1
  by_cases e':i=h.next
  ·omega
  ·have:ρ i=some y:=by simpa [e'] using hy
   have:=hr.bnd i y this
   omega
 ·obtain⟨c,hc'⟩:=hr.glob g hg
  exact⟨c,hle _ _ hc'⟩
theorem O8 (a:Addr)(m n:Nat):(a.add m).add n=a.add (m+n):=by
 unfold Addr.add
 by_cases h1:m=0
 ·subst h1;simp
 ·by_cases h2:n=0
  ·subst h2;simp [h1]
  ·have : ¬ m+n=0:=by omega
   simp [h1,h2,Nat.add_assoc]
theorem Ns {α β:Type}{f:α→Option β}:∀ {l:List α} {r:List β},l.mapM f=some r→r.length=l.length∧∀ (i:Nat) x,l[i]?=some x→f x=r[i]?
 | [],r,h=>by simp at h;subst h;simp
 | a::l,r,h=>by
  simp only [List.mapM_cons,Option.bind_eq_bind,Option.bind_eq_some_iff,Option.pure_def,Option.some.injEq] at h
  obtain⟨y,hy,ys,hys,rfl⟩:=h
  obtain⟨h1,h2⟩:=Ns hys
  refine⟨by simp [h1],fun i x hx=>?_⟩
  cases i with
  | zero=>simp at hx;subst hx;simpa using hy
  | succ i=>simp at hx ⊢;exact h2 i x hx
theorem Ma {w:World}{a:Addr}{n:Nat}{vs:List Value}(h:w.cells? 0 a n=some vs):vs.length=n∧∀ i,i<n→w.cell? (a.add i)=vs[i]?:=by
 unfold World.cells? at h
 rw [if_pos (Nat.zero_le _)] at h
 obtain⟨h1,h2⟩:=Ns h
 refine⟨by simpa using h1,fun i hi=>h2 i i (by simp [hi])⟩
section
variable {H:Type}{enc:TypeId × Value→H}
theorem vrl1 {ρ:Rho}{a:AV}{v:Value}(h:VR ρ a v):VRL ρ [a] [v]:=VRL.cons h VRL.nil
def Reads (P:Program)(w:World)(τ:Ty)(cs:List Value):Prop:=
 ∀ ρ h,R P ρ h w→RO h→∃ (ρ':Rho) (h':Heap) (x:D) (vs:List AV),Ext P w ρ h ρ' h'∧Rep h' τ x vs∧VRL ρ' vs cs∧vs.length=τ.size
theorem KE {e:Ty}{a:Addr}:∀ (k i0:Nat),(∀ i,i0≤i→i<i0+k→∃ vals,w.cells? 0 (a.add (i*e.size)) e.size=some vals∧Reads P w e vals)→
  ∀ ρ h,R P ρ h w→RO h→∃ (ρ':Rho) (h':Heap) (xs:List D) (vs:List AV),Ext P w ρ h ρ' h'∧xs.length=k∧vs.length=k*e.size∧
   (∀ (j:Nat) x,xs[j]?=some x→Rep h' e x ((vs.drop (j*e.size)).take e.size))∧(∀ (j:Nat) u,vs[j]?=some u→∃ v,w.cell? (a.add (i0*e.size+j))=some v∧VR ρ' u v)
 | 0,i0,_,ρ,h,hr,ho=>⟨ρ,h,[],[],Ext.refl hr ho,rfl,by simp,fun j x hx=>by simp at hx,fun j u hu=>by simp at hu⟩
 | k+1,i0,he,ρ,h,hr,ho=>by
  obtain⟨vals,hv,hread⟩:=he i0 (Nat.le_refl _) (by omega)
  obtain⟨ρ₁,h₁,x,vs,e1,r1,v1,l1⟩:=hread ρ h hr ho
  obtain⟨ρ₂,h₂,xs,us,e2,lx,lu,r2,v2⟩:=KE k (i0+1) (fun i hi hi'=>he i (by omega) (by omega)) ρ₁ h₁ e1.rel e1.ro
  obtain⟨lv,hc⟩:=Ma hv
  have hsucc:(k+1)*e.size=e.size+k*e.size:=by rw [Nat.succ_mul,Nat.add_comm]
  refine⟨ρ₂,h₂,x::xs,vs++us,e1.trans e2,by simp [lx],by rw [List.length_append,l1,lu,hsucc],fun j y hy=>?_,fun j u hu=>?_⟩
  ·cases j with
   | zero=>
    simp at hy;subst hy
    rw [Nat.zero_mul,List.drop_zero,← l1,List.take_left]
    exact Rep.mono e2.next e2.get r1
   | succ j=>
    simp at hy
    have:(vs++us).drop ((j+1)*e.size)=us.drop (j*e.size):=by
     rw [Nat.succ_mul,Nat.add_comm,← l1,← List.drop_drop,List.drop_left]
    rw [this]
    exact r2 j y hy
  ·by_cases hj:j<e.size
   ·rw [List.getElem?_append_left (by omega)] at hu
    obtain⟨v,hv1,hv2⟩:=v1.get j u hu
    refine⟨v,?_,hv2.mono e2.le⟩
    have:=hc j hj
    rw [O8] at this
    rw [this,hv1]
   ·rw [List.getElem?_append_right (by omega)] at hu
    obtain⟨v,hv1,hv2⟩:=v2 (j-vs.length) u hu
    refine⟨v,?_,hv2⟩
    rw [← hv1]
    congr 2
    rw [Nat.succ_mul];omega
mutual
theorem L8:∀ (τ:Ty) (t:TypeId) (fuel:Nat) (cs:List Value) (y:DataW H × List MemPlace),tyIs P τ t=true→DataW.trod enc P w 0 (fun _=>true) true fuel t cs=some y→Reads P w τ cs
 | .bool,t,fuel,cs,y,ht,hd=>fun ρ h hr ho=>by
  have hu:P.underlying t=some .bool:=by unfold tyIs at ht;split at ht<;>simp_all
  obtain⟨b,rfl,_⟩:=DataW.trod_bool hu hd
  exact⟨ρ,h,.b b,[.bool b],Ext.refl hr ho,by simp only [Rep],vrl1 (by simp only [VR]),rfl⟩
 | .int k,t,fuel,cs,y,ht,hd=>fun ρ h hr ho=>by
  have hu:P.underlying t=some (.int k):=by unfold tyIs at ht;split at ht<;>simp_all
  obtain⟨n,rfl,_,hw⟩:=DataW.trod_int hu hd
  exact⟨ρ,h,.i n,[.int k n],Ext.refl hr ho,by simp only [Rep];exact⟨trivial,hw⟩,vrl1 (by simp only [VR]),rfl⟩
 | .str,t,fuel,cs,y,ht,hd=>fun ρ h hr ho=>by
  have hu:P.underlying t=some .string:=by unfold tyIs at ht;split at ht<;>simp_all
  obtain⟨s,rfl,_,_⟩:=DataW.trod_string hu hd
  exact⟨ρ,h,.s s.data.toList,[.str s.data.toList],Ext.refl hr ho,by simp only [Rep],vrl1 (by simp only [VR]),rfl⟩
 | .sl e,t,fuel,cs,y,ht,hd=>fun ρ h hr ho=>by
  obtain⟨te,hu,h1,h2,h3⟩:∃ te,P.underlying t=some (.slice te)∧tyIs P e te=true∧P.cellsOf te=e.size∧0<e.size:=by
   unfold tyIs at ht
   split at ht
   ·rename_i te hu
    simp only [Bool.and_eq_true] at ht
    exact⟨te,hu,ht.1.1,Nat.eq_of_beq_eq_true ht.1.2,by have:=ht.2;rwa [Nat.blt_eq] at this⟩
   ·cases ht
  rcases DataW.trod_slice hu hd with⟨rfl,_⟩ | ⟨a,len,cap,elems,rest,n,rfl,rfl,_,_,hl,hm,hlen,hel,hsp,_⟩
  ·exact⟨ρ,h,.l [],[.sl none 0 (.ex 0)],Ext.refl hr ho,by simp only [Rep];exact .inl ⟨trivial,trivial⟩,vrl1 (by simp [VR]),rfl⟩
  ·have each:∀ i,0≤i→i < 0+len→∃ vals,w.cells? 0 (a.add (i*e.size)) e.size=some vals∧Reads P w e vals:=fun i _ hi=>by
    have:=hel i (by omega)
    rw [h2] at this
    have hlt:i<elems.length:=by omega
    rw [List.getElem?_eq_getElem hlt] at this
    simp only [Option.bind_eq_some_iff] at this
    obtain⟨vals,hv,htr⟩:=this
    exact⟨vals,hv,L8 e te n vals _ h1 htr⟩
   obtain⟨ρ₁,h₁,xs,vs,e1,lx,lv,r1,v1⟩:=KE len 0 each ρ h hr ho
   by_cases h0:len=0
   ·subst h0
    have hx:xs = []:=List.eq_nil_of_length_eq_zero lx
    subst hx
    by_cases hc:cap=0
    ·subst hc
     have e2:=Ext.number e1.rel e1.ro (0,0,0)
     refine⟨_,_,.l [],[.sl (some (h₁.next,0)) 0 (.un e.size)],e1.trans e2,?_,vrl1 ?_,rfl⟩
     ·simp only [Rep]
      exact .inr ⟨h₁.next,_,[],rfl,Nat.lt_succ_self _,fun h=>absurd rfl h,by simp,Nat.zero_le _,(fun j x hx=>by simp at hx),rfl⟩
     ·simp only [VR]
      exact⟨0,0,0,0,a,by simp,rfl,Nat.le_refl _,by simp,.inl rfl⟩
    ·have hs:=hsp rfl
     have h00:=hs.2 0 (by omega)
     rw [h2] at h00
     have hlt:0<rest.length:=by omega
     rw [List.getElem?_eq_getElem hlt] at h00
     simp only [Option.bind_eq_some_iff] at h00
     obtain⟨vals,hv,_⟩:=h00
     obtain⟨lv',hc'⟩:=Ma hv
     have hcell:=hc' 0 h3
     rw [O8,show(0+0)*e.size+0=0 by simp] at hcell
     have hcell:w.cell? a=vals[0]?:=by simpa [Addr.add] using hcell
     have hspot:a.spot=none:=by
      have hv0:vals[0]?=some vals[0]:=List.getElem?_eq_getElem (by omega)
      rw [hv0] at hcell
      unfold World.cell? at hcell
      split at hcell
      ·split at hcell
       ·cases hcell
       ·rename_i hs;simpa using hs
      ·cases hcell
     have e2:=Ext.number e1.rel e1.ro (a.block,a.off,0)
     refine⟨_,_,.l [],[.sl (some (h₁.next,0)) 0 (.ex cap)],e1.trans e2,?_,vrl1 ?_,rfl⟩
     ·simp only [Rep]
      exact .inr ⟨h₁.next,_,[],rfl,Nat.lt_succ_self _,fun h=>absurd rfl h,by simp,Nat.zero_le _,(fun j x hx=>by simp at hx),⟨Nat.zero_le _,by omega⟩⟩
     ·simp only [VR]
      refine⟨a.block,a.off,0,by simp,?_⟩
      cases a;simp_all
   ·have hpos:0<len*e.size:=Nat.mul_pos (by omega) h3
    obtain⟨u0,hu0⟩:∃ u,vs[0]?=some u:=⟨_,List.getElem?_eq_getElem (by omega)⟩
    obtain⟨v0,hv0,_⟩:=v1 0 u0 hu0
    rw [Nat.zero_mul,Nat.add_zero,show a.add 0=a by simp [Addr.add]] at hv0
    obtain⟨arr,te',fz,harr,hspot⟩:∃ arr te' fz,w.heap[a.block]?=some (.cells arr te' fz)∧a.spot=none:=by
     unfold World.cell? at hv0
     split at hv0
     ·rename_i arr te' fz harr
      split at hv0
      ·cases hv0
      ·rename_i hs;exact⟨arr,te',fz,harr,by simpa using hs⟩
     ·cases hv0
    have hcell:∀ j u,vs[j]?=some u→∃ v,arr[a.off+j]?=some v∧VR ρ₁ u v:=fun j u hu=>by
     obtain⟨v,hv,hvr⟩:=v1 j u hu
     refine⟨v,?_,hvr⟩
     rw [Nat.zero_mul,Nat.zero_add] at hv
     unfold World.cell? at hv
     have hb:(a.add j).block=a.block:=by unfold Addr.add;split<;>rfl
     rw [hb,harr] at hv
     simp only at hv
     have ho':(a.add j).off=a.off+j:=by unfold Addr.add;split<;>simp_all
     rw [ho'] at hv
     split at hv
     ·cases hv
     ·exact hv
    have hsz:a.off+vs.length≤arr.size:=by
     obtain⟨u,hu⟩:∃ u,vs[vs.length - 1]?=some u:=⟨_,List.getElem?_eq_getElem (by omega)⟩
     obtain⟨v,hv,_⟩:=hcell _ u hu
     have:=(Array.getElem?_eq_some_iff.1 hv).1
     omega
    have e2:=Ext.block e1.rel e1.ro harr hsz hcell (fun y ey=>by
     rw [ey] at lv
     have hl1:len*e.size=1:=by simpa using lv.symm
     have hs1:e.size=1:=Nat.eq_one_of_mul_eq_one_left hl1
     have hlen:len=1:=Nat.eq_one_of_mul_eq_one_right hl1
     have:=r1 0 xs[0] (List.getElem?_eq_getElem (by omega))
     rw [ey,hs1] at this
     exact absurd (Rep.noMp this (.mp y) (by simp)) (by simp [isMp]))
    refine⟨_,_,.l xs,[.sl (some (h₁.next,0)) len (.ex cap)],e1.trans e2,?_,vrl1 ?_,rfl⟩
    ·simp only [Rep]
     refine .inr ⟨h₁.next,.ex cap,vs,by rw [lx],Nat.lt_succ_self _,fun _=>by rw [Heap.get_new,if_pos rfl],by rw [lx];exact lv,by omega,fun j x hx=>?_,⟨by omega,by omega⟩⟩
     exact Rep.mono (Nat.le_succ _) e2.get (r1 j x hx)
    ·simp only [VR]
     refine⟨a.block,a.off,arr.size,by simp,?_⟩
     cases a;simp_all
 | .st fs,t,fuel,cs,y,ht,hd=>fun ρ h hr ho=>by
  obtain⟨fa,hu,h1,h2⟩:∃ fa,P.underlying t=some (.struct fa)∧tysIs P fs fa.toList 0=true∧P.cellsOf t=Ty.sizes fs:=by
   unfold tyIs at ht
   split at ht
   ·rename_i fa hu
    simp only [Bool.and_eq_true] at ht
    exact⟨fa,hu,ht.1,Nat.eq_of_beq_eq_true ht.2⟩
   ·cases ht
  obtain⟨xs,n,rfl,_,hl,hx,hf⟩:=DataW.trod_struct hu hd
  have hall:∀ (i:Nat) f,fa.toList[i]?=some f→∃ y,DataW.trod enc P w 0 (fun _=>true) true n f.type ((cs.drop f.offset).take (P.cellsOf f.type))=some y:=fun i f hi=>by
   have hi':fa[i]?=some f:=by simpa using hi
   have hlt:i<xs.length:=by rw [hx];exact(Array.getElem?_eq_some_iff.1 hi').1
   exact⟨xs[i],by rw [hf i f hi',List.getElem?_eq_getElem hlt]⟩
  obtain⟨ρ',h',ds,vs,e1,r1,v1,l1⟩:=Mx fs fa.toList 0 n cs h1 hall (by omega) ρ h hr ho
  rw [List.drop_zero] at v1
  exact⟨ρ',h',.t ds,vs,e1,by simp only [Rep];exact r1,v1,by simp only [Ty.size];exact l1⟩
theorem Mx:∀ (fs:List Ty) (as:List Field) (o n:Nat) (cs:List Value),tysIs P fs as o=true→
  (∀ (i:Nat) f,as[i]?=some f→∃ y:DataW H × List MemPlace,DataW.trod enc P w 0 (fun _=>true) true n f.type ((cs.drop f.offset).take (P.cellsOf f.type))=some y)→cs.length=o+Ty.sizes fs→
  ∀ ρ h,R P ρ h w→RO h→∃ (ρ':Rho) (h':Heap) (ds:List D) (vs:List AV),Ext P w ρ h ρ' h'∧Reps h' fs ds vs∧VRL ρ' vs (cs.drop o)∧vs.length=Ty.sizes fs
 | [],[],o,n,cs,_,_,hl,ρ,h,hr,ho=>⟨ρ,h,[],[],Ext.refl hr ho,by simp only [Reps],by
   simp only [Ty.sizes] at hl
   rw [List.drop_eq_nil_of_le (by omega)];exact VRL.nil,rfl⟩
 | f::fs,a::as,o,n,cs,ht,hall,hl,ρ,h,hr,ho=>by
  simp only [tysIs,Bool.and_eq_true] at ht
  obtain⟨⟨⟨t1,t2⟩,t3⟩,t4⟩:=ht
  have t2:=Nat.eq_of_beq_eq_true t2
  have t3:=Nat.eq_of_beq_eq_true t3
  obtain⟨y,hy⟩:=hall 0 a rfl
  rw [t2,t3] at hy
  simp only [Ty.sizes] at hl
  obtain⟨ρ₁,h₁,x,vs,e1,r1,v1,l1⟩:=L8 f a.type n _ y t1 hy ρ h hr ho
  obtain⟨ρ₂,h₂,xs,us,e2,r2,v2,l2⟩:=Mx fs as (o+f.size) n cs t4 (fun i g hg=>hall (i+1) g hg) (by omega) ρ₁ h₁ e1.rel e1.ro
  refine⟨ρ₂,h₂,x::xs,vs++us,e1.trans e2,?_,?_,by simp only [List.length_append,Ty.sizes,l1,l2]⟩
  ·simp only [Reps]
   refine⟨?_,?_⟩
   ·rw [← l1,List.take_left];exact Rep.mono e2.next e2.get r1
   ·rw [← l1,List.drop_left];exact r2
  ·have:cs.drop o=(cs.drop o).take f.size++cs.drop (o+f.size):=by
    rw [← List.drop_drop,List.take_append_drop]
   rw [this]
   exact(VRL.mono e2.le v1).append v2
 | [],_::_,_,_,_,ht,_,_,_,_,_,_=>by simp [tysIs] at ht
 | _::_,[],_,_,_,ht,_,_,_,_,_,_=>by simp [tysIs] at ht
end
end
end
def argAV:Ty→List AV→AV
 | .st _,vs=>.agg vs
 | _,vs=>vs.headD .bot
def Args (h:Heap):List Ty→List D→List AV→Prop
 | [],[],[]=>True
 | τ::τs,x::xs,a::as=>(∃ vs,Rep h τ x vs∧vs.length=τ.size∧a=argAV τ vs)∧Args h τs xs as
 | _,_,_=>False
theorem Args.mono {h h':Heap}(hn:h.next≤h'.next)(hg:∀ j,j<h.next→h'.get j=h.get j):∀ {τs:List Ty} {xs:List D} {as:List AV},Args h τs xs as→Args h' τs xs as
 | [],[],[],_=>trivial
 | τ::τs,x::xs,a::as,H=>by
  simp only [Args] at H ⊢
  obtain⟨⟨vs,h1,h2,h3⟩,H⟩:=H
  exact⟨⟨vs,h1.mono hn hg,h2,h3⟩,H.mono hn hg⟩
 | [],[],_::_,H=>by simp [Args] at H
 | [],_::_,_,H=>by simp [Args] at H
 | _::_,[],_,H=>by simp [Args] at H
 | _::_,_::_,[],H=>by simp [Args] at H
theorem Args.open {h:Heap}{τ:Ty}{τs:List Ty}{xs:List D}{as:List AV}(H:Args h (τ::τs) xs as):∃ x vs xs' as',as=argAV τ vs::as'∧Rep h τ x vs∧Args h τs xs' as':=by
 cases xs with
 | nil=>simp [Args] at H
 | cons x xs=>
  cases as with
  | nil=>simp [Args] at H
  | cons a as=>
   simp only [Args] at H
   obtain⟨⟨vs,h1,_,rfl⟩,h2⟩:=H
   exact⟨x,vs,xs,as,rfl,h1,h2⟩
theorem Args.shut {h:Heap}{xs:List D}{as:List AV}(H:Args h [] xs as):as = []:=by
 cases as with
 | nil=>rfl
 | cons a as=>cases xs<;>simp [Args] at H
def tysArg (P:Program):List Ty→List TypeId→Bool
 | [],[]=>true
 | τ::τs,t::ts=>tyIs P τ t && tysArg P τs ts
 | _,_=>false
section
variable {P:Program}{w:World}{H:Type}{enc:TypeId × Value→H}
theorem LY {ρ:Rho}{v:Value}{vs:List AV}(hc:v.cells.toList = [v])(hv:VRL ρ vs v.cells.toList):VR ρ (vs.headD .bot) v:=by
 rw [hc] at hv
 cases vs with
 | nil=>simp [VRL] at hv
 | cons a vs=>
  simp only [VRL] at hv
  obtain⟨v',us,e,h1,h2⟩:=hv
  cases e
  exact h1
theorem Sn {ρ:Rho}{τ:Ty}{t:TypeId}{v:Value}{vs:List AV}{base:Nat}(ht:tyIs P τ t=true)(hok:Value.okWide P w .any base t v)(hv:VRL ρ vs v.cells.toList):VR ρ (argAV τ vs) v:=by
 cases τ with
 | st fs=>
  obtain⟨fa,hu⟩:∃ fa,P.underlying t=some (.struct fa):=by
   unfold tyIs at ht
   split at ht
   ·exact⟨_,by assumption⟩
   ·cases ht
  unfold Value.okWide at hok
  rw [hu] at hok
  obtain⟨cs,rfl,_,_⟩:=hok
  simp only [argAV,VR]
  exact⟨cs,rfl,hv⟩
 | bool=>
  have hu:P.underlying t=some .bool:=by unfold tyIs at ht;split at ht<;>simp_all
  unfold Value.okWide Cell.okWide Cell.ok at hok
  rw [hu] at hok
  cases v<;>simp at hok
  exact LY rfl hv
 | int k=>
  have hu:P.underlying t=some (.int k):=by unfold tyIs at ht;split at ht<;>simp_all
  unfold Value.okWide Cell.okWide Cell.ok at hok
  rw [hu] at hok
  cases v<;>simp at hok
  exact LY rfl hv
 | str=>
  have hu:P.underlying t=some .string:=by unfold tyIs at ht;split at ht<;>simp_all
  unfold Value.okWide Cell.okWide Cell.ok at hok
  rw [hu] at hok
  cases v<;>simp at hok
  exact LY rfl hv
 | sl e=>
  obtain⟨te,hu⟩:∃ te,P.underlying t=some (.slice te):=by
   unfold tyIs at ht
   split at ht
   ·exact⟨_,by assumption⟩
   ·cases ht
  unfold Value.okWide Cell.okWide Cell.ok at hok
  rw [hu] at hok
  cases v<;>simp at hok
  exact LY rfl hv
theorem Pq {base:Nat}:∀ (τs:List Ty) (ts:List TypeId) (vs:List Value) (ds:List (DataW H)) (ps:List MemPlace),tysArg P τs ts=true→DataW.TrodAll enc P w 0 (fun _=>true) true ts vs ds ps→
  (∀ (j:Nat) t v,ts[j]?=some t→vs[j]?=some v→Value.okWide P w .any base t v)→∀ ρ h,R P ρ h w→RO h→
  ∃ (ρ':Rho) (h':Heap) (xs:List D) (as:List AV),Ext P w ρ h ρ' h'∧Args h' τs xs as∧VRL ρ' as vs
 | [],[],vs,ds,ps,_,hd,_,ρ,h,hr,ho=>by
  cases vs with
  | nil=>exact⟨ρ,h,[],[],Ext.refl hr ho,trivial,VRL.nil⟩
  | cons v vs=>simp [DataW.TrodAll] at hd
 | τ::τs,t::ts,vs,ds,ps,ht,hd,hok,ρ,h,hr,ho=>by
  cases vs with
  | nil=>simp [DataW.TrodAll] at hd
  | cons v vs=>
   cases ds with
   | nil=>simp [DataW.TrodAll] at hd
   | cons d ds=>
    obtain⟨p,q,⟨fuel,h1⟩,h2,_⟩:=hd
    simp only [tysArg,Bool.and_eq_true] at ht
    obtain⟨ρ₁,h₁,x,us,e1,r1,v1,l1⟩:=L8 τ t fuel _ _ ht.1 h1 ρ h hr ho
    obtain⟨ρ₂,h₂,xs,as,e2,r2,v2⟩:=Pq τs ts vs ds q ht.2 h2 (fun j t' v' hj hv=>hok (j+1) t' v' hj hv) ρ₁ h₁ e1.rel e1.ro
    refine⟨ρ₂,h₂,x::xs,argAV τ us::as,e1.trans e2,?_,?_⟩
    ·simp only [Args]
     exact⟨⟨us,r1.mono e2.next e2.get,l1,rfl⟩,r2⟩
    ·exact VRL.cons ((Sn ht.1 (hok 0 t v rfl rfl) v1).mono e2.le) v2
 | [],_::_,_,_,_,ht,_,_,_,_,_,_=>by simp [tysArg] at ht
 | _::_,[],_,_,_,ht,_,_,_,_,_,_=>by simp [tysArg] at ht
open Go.RowKit in
theorem Iz (hl:laidOutB P=true){W W':World}(hb:Below W.heap.size W W'):∀ (ts:List TypeId) (vs:List Value) (ds:List (DataW H)) (ps:List MemPlace),(ts.all fun t=>P.readableRec t && decide (t<P.types.size))=true→
  DataW.TrodAll enc P W 0 (fun _=>true) true ts vs ds ps→(∀ x∈ps,x.block<W.heap.size)→DataW.TrodAll enc P W' 0 (fun b=>decide (b<W.heap.size)) true ts vs ds ps
 | [],vs,ds,ps,_,hd,_=>by
  cases vs with
  | nil=>cases ds with
   | nil=>exact hd
   | cons d ds=>simp [DataW.TrodAll] at hd
  | cons v vs=>simp [DataW.TrodAll] at hd
 | t::ts,vs,ds,ps,ha,hd,hlt=>by
  cases vs with
  | nil=>simp [DataW.TrodAll] at hd
  | cons v vs=>cases ds with
   | nil=>simp [DataW.TrodAll] at hd
   | cons d ds=>
    obtain⟨p,q,h1,h2,rfl⟩:=hd
    simp only [List.all_cons,Bool.and_eq_true,decide_eq_true_eq] at ha
    exact⟨p,q,Below.trod hl ha.1.1 ha.1.2 h1 hb fun x hx=>hlt x (List.mem_append_left _ hx),Iz hl hb ts vs ds q (by simpa using ha.2) h2 fun x hx=>hlt x (List.mem_append_right _ hx),rfl⟩
theorem J3:∀ {ts:List TypeId} {vs:List Value} {ds:List (DataW H)} {ps:List MemPlace} {base:Nat} {sp:Nat→Bool} {held:Bool},DataW.TrodAll enc P w base sp held ts vs ds ps→ds.length=ts.length∧vs.length=ts.length
 | [],vs,ds,ps,_,_,_,h=>by
  cases vs with
  | nil=>cases ds with
   | nil=>exact⟨rfl,rfl⟩
   | cons d ds=>simp [DataW.TrodAll] at h
  | cons v vs=>simp [DataW.TrodAll] at h
 | t::ts,vs,ds,ps,_,_,_,h=>by
  cases vs with
  | nil=>simp [DataW.TrodAll] at h
  | cons v vs=>cases ds with
   | nil=>simp [DataW.TrodAll] at h
   | cons d ds=>
    obtain⟨p,q,h1,h2,_⟩:=h
    have:=J3 h2
    exact⟨by simp [this.1],by simp [this.2]⟩
theorem QM {ρ:Rho}{h:Heap}{W W':World}(hk:Keeps ρ h W W')(hro:RO h):Go.RowKit.Below W.heap.size W W':=
 ⟨hk.os,hk.tape,hk.output,hk.size,fun k hk'=>hk.old k hk' fun i b x hi hw _=>by rw [hro i b hi] at hw;cases hw⟩
end
end Go.Ab
namespace Go.Ab
open Go
set_option linter.all false
structure SlB (g:Heap)(b:Option Nat)(sz:Nat)(v:AV)(cs:List AV)(n:Nat):Prop where
 len:cs.length=n*sz
 sc:cs.all scalar=true
 eq:v=match b with | none=>.sl none 0 (.ex 0) | some i=>.sl (some (i,0)) n (.un sz)
 nil:b=none→n=0
 blk:∀ i,b=some i→i<g.next∧g.get i=some (.cells true cs)∧0<n
theorem SlB.mt {g:Heap}{sz:Nat}:SlB g none sz (.sl none 0 (.ex 0)) [] 0:=⟨by simp,rfl,rfl,fun _=>rfl,(fun i h=>by cases h)⟩
theorem SlB.same {g g':Heap}{b:Option Nat}{sz n:Nat}{v:AV}{cs:List AV}{S:List Nat}(H:SlB g b sz v cs n)(hs:Same S g g')(hb:∀ i,b=some i→i∉S):SlB g' b sz v cs n:=
 ⟨H.len,H.sc,H.eq,H.nil,fun i hi=>by
  obtain⟨h1,h2,h3⟩:=H.blk i hi
  exact⟨Nat.lt_of_lt_of_le h1 hs.next,(hs.get i h1 (hb i hi)).trans h2,h3⟩⟩
theorem SlB.lnL {g:Heap}{b:Option Nat}{sz n:Nat}{v:AV}{cs:List AV}(H:SlB g b sz v cs n):Go.Ab.lnL v=some (.int .i64 n):=by
 rw [H.eq]
 cases b with
 | none=>rw [H.nil rfl];rfl
 | some i=>rfl
theorem SlB.ix {g:Heap}{b:Option Nat}{sz n:Nat}{v:AV}{cs:List AV}(H:SlB g b sz v cs n){i:Nat}(hi:i<n):∃ j,b=some j∧∀ k,iaS sz v (.int k (i:Int))=some (.ptr (some (j,i*sz))):=by
 cases b with
 | none=>have:=H.nil rfl;omega
 | some j=>
  refine⟨j,rfl,fun k=>?_⟩
  have e:v = .sl (some (j,0)) n (.un sz):=H.eq
  rw [e,E7 sz (j,0) _ _ k _ ⟨by omega,by omega⟩];simp
theorem SlB.ld {g:Heap}{b:Option Nat}{sz n:Nat}{v:AV}{cs:List AV}(H:SlB g b sz v cs n){j o:Nat}(hb:b=some j):ldS g (.ptr (some (j,o)))=cs[o]?:=by
 obtain⟨_,h2,_⟩:=H.blk j hb
 rw [Ai h2]
theorem I3 {α:Type}:∀ (z x:List α),z.length=x.length→splice z 0 x=some x
 | [],[],_=>rfl
 | [],_::_,h=>by simp at h
 | _::_,[],h=>by simp at h
 | a::z,b::x,h=>by simp only [splice,I3 z x (by simpa using h),Option.map_some]
theorem RV {sz:Nat}{z:List AV}{t:AV}(hz:z.length=sz)(ht:t.cells.length=sz)(hs:t.cells.all scalar=true) :
  bsP sz z 1 [(0,t)]=some (.cells true t.cells,fun i=>.sl (some (i,0)) 1 (.ex 1)):=by
 have hr:rep z 1=z:=by simp [rep]
 simp only [bsP,fillA,hr,Option.bind_some,ht,hs,Nat.zero_mul]
 simp only [ne_eq,not_true_eq_false,Bool.true_eq_false,or_self,if_false]
 rw [I3 z t.cells (hz.trans ht.symm)]
 simp only [Option.bind_some,hs,if_true]
theorem app1 {R:Type}{g:Heap}{b:Option Nat}{sz n bytes:Nat}{q t:AV}{cs z:List AV}(H:SlB g b sz q cs n)(hz:z.length=sz)(ht:t.cells.length=sz)(hs:t.cells.all scalar=true)
  (h0:0<sz) (hn:(n+1)*bytes≤2 ^ 47) {K:AV→Heap→Option R} {Q:R→Prop}
  (hk:∀ v' g',SlB g' (some (g.next+1)) sz v' (cs++t.cells) (n+1)→Same b.toList g g'→g'.next=g.next+2→Ok (K v' g') Q) :
  Ok (mk Heap.new (bsP sz z 1 [(0,t)]) g fun x h=>cl (appendA h sz bytes q x) K) Q:=by
 rw [RV hz ht hs,Af]
 have hld:loadN (g.new (.cells true t.cells)) (g.next,0) (1*sz)=some t.cells:=by
  simp only [loadN,Am,Cc]
  rw [Bi _ _ _ (by rw [ht];omega),Nat.one_mul,← ht,List.drop_zero,List.take_length]
 cases b with
 | none=>
  have e:q = .sl none 0 (.ex 0):=H.eq
  have hn0:=H.nil rfl
  subst hn0
  have hc:cs = []:=by have:=H.len;simpa using this
  subst hc
  have ha:appendA (g.new (.cells true t.cells)) sz bytes q (.sl (some (g.next,0)) 1 (.ex 1))=some (.sl (some (g.next+1,0)) 1 (.un sz),(g.new (.cells true t.cells)).new (.cells true t.cells)):=by
   rw [e]
   simp only [appendA,countA,addedA,hld,Option.bind_some]
   rw [if_neg (by omega),if_pos (by omega)]
   simp only [if_true,Option.bind_some,List.nil_append,hs,Heap.next_new]
  rw [ha,AE]
  refine hk _ _ ⟨by simpa using ht,by simpa using hs,rfl,(fun h=>by cases h),fun i hi=>?_⟩ ?_ rfl
  ·cases hi
   exact⟨Nat.lt_succ_self _,by have:=Am (h:=g.new (.cells true t.cells)) (b:=.cells true t.cells);simpa using this,by omega⟩
  ·exact(Same.new _ _).trans (Same.new _ _)
 | some i=>
  have e:q = .sl (some (i,0)) n (.un sz):=H.eq
  obtain⟨b1,b2,b3⟩:=H.blk i rfl
  have hgi:(g.new (.cells true t.cells)).get i=some (.cells true cs):=by rw [FK (by omega)];exact b2
  have hl:=H.len
  have hmul:(n+1)*sz=n*sz+sz:=by rw [Nat.succ_mul]
  have ha:appendA (g.new (.cells true t.cells)) sz bytes q (.sl (some (g.next,0)) 1 (.ex 1))=some (.sl (some (g.next+1,0)) (n+1) (.un sz),((g.new (.cells true t.cells)).put i none).new (.cells true (cs++t.cells))):=by
   rw [e]
   simp only [appendA,countA,addedA,hld,Option.bind_some,ne_eq,not_true_eq_false,if_false,hgi]
   rw [if_neg (by omega),if_pos hn,if_neg (by omega),if_pos (by omega)]
   simp only [hs,if_true,List.drop_zero,Heap.next_new]
  rw [ha,AE]
  refine hk _ _ ⟨by rw [List.length_append,ht,hl,hmul],by rw [List.all_append,H.sc,hs];rfl,rfl,(fun h=>by cases h),fun j hj=>?_⟩ ?_ rfl
  ·cases hj
   exact⟨Nat.lt_succ_self _,by have:=Am (h:=(g.new (.cells true t.cells)).put i none) (b:=.cells true (cs++t.cells));simpa using this,by omega⟩
  ·exact((Same.new _ _).sub (by simp)).trans (((Same.put _ _ _).sub (by simp)).trans ((Same.new _ _).sub (by simp)))
end Go.Ab
namespace Go.Ab.F
open Go Go.Ab
set_option linter.all false
attribute [local congr] BI D1 Dy D2 Bu D3 Dz Aw Av
structure RdC (h:Heap)(sz:Nat)(v:AV)(cs:List AV)(n:Nat):Prop where
 len:cs.length=n*sz
 eq:(v = .sl none 0 (.ex 0)∧n=0)∨∃ b c,v = .sl (some (b,0)) n c∧b<h.next∧(n≠0→h.get b=some (.cells false cs))
theorem RdC.lnL {h:Heap}{sz n:Nat}{v:AV}{cs:List AV}(H:RdC h sz v cs n):Go.Ab.lnL v=some (.int .i64 n):=by
 rcases H.eq with⟨rfl,rfl⟩ | ⟨b,c,rfl,_⟩
 ·rfl
 ·simp
theorem RdC.ix {h:Heap}{sz n:Nat}{v:AV}{cs:List AV}(H:RdC h sz v cs n){i:Nat}(hi:i<n) :
  ∃ b,b<h.next∧h.get b=some (.cells false cs)∧∀ k,iaS sz v (.int k (i:Int))=some (.ptr (some (b,i*sz))):=by
 rcases H.eq with⟨rfl,rfl⟩ | ⟨b,c,rfl,hb,hg⟩
 ·omega
 ·refine⟨b,hb,hg (by omega),fun k=>?_⟩
  rw [E7 sz (b,0) _ _ k _ ⟨by omega,by omega⟩];simp
theorem PF {h:Heap}{k:IntKind}{x:D}{vs:List AV}(H:Rep h (.sl (.int k)) x vs) :
  ∃ l:List Int,RdC h 1 (argAV (.sl (.int k)) vs) (l.map fun n=>.int k n) l.length∧(∀ n∈l,(Lit.int k n).wf=true)∧l.length≤maxLen:=by
 cases x<;>simp only [Rep] at H
 rename_i xs
 rcases H with⟨rfl,rfl⟩ | ⟨i,c,us,rfl,h1,h2,h3,h4,h5,_⟩
 ·exact⟨[],⟨rfl,.inl ⟨rfl,rfl⟩⟩,by simp,Nat.zero_le _⟩
 ·have hs:Ty.size (.int k)=1:=rfl
  rw [hs,Nat.mul_one] at h3
  have each:∀ j,j<xs.length→∃ n,us[j]?=some (.int k n)∧(Lit.int k n).wf=true:=fun j hj=>by
   have:=h5 j xs[j] (List.getElem?_eq_getElem hj)
   rw [hs,Nat.mul_one] at this
   generalize xs[j]=y at this
   cases y<;>simp only [Rep] at this
   rename_i n
   refine⟨n,?_,this.2⟩
   have e:=congrArg (fun l=>l[0]?) this.1
   simpa [List.getElem?_take] using e
  have hl:∃ l:List Int,us=l.map (fun n=>.int k n)∧∀ n∈l,(Lit.int k n).wf=true:=by
   clear h2 h4 h5 h1
   rw [← h3] at each
   clear h3
   induction us with
   | nil=>exact⟨[],rfl,by simp⟩
   | cons u us ih=>
    obtain⟨n,hn,hw⟩:=each 0 (by simp)
    simp at hn;subst hn
    obtain⟨l,rfl,hl⟩:=ih fun j hj=>by
     obtain⟨n,hn,hw⟩:=each (j+1) (by simpa using hj)
     exact⟨n,by simpa using hn,hw⟩
    exact⟨n::l,rfl,by simpa using ⟨hw,hl⟩⟩
  obtain⟨l,rfl,hw⟩:=hl
  have hlen:l.length=xs.length:=by simpa using h3
  refine⟨l,⟨by simp,.inr ⟨i,c,by rw [hlen];rfl,h1,fun hne=>h2 fun e=>hne (by rw [hlen,e];rfl)⟩⟩,hw,by omega⟩
theorem R8 {h:Heap}{k:IntKind}{x:D}{vs:List AV}(H:Rep h (.int k) x vs):∃ n,argAV (.int k) vs = .int k n∧(Lit.int k n).wf=true:=by
 cases x<;>simp only [Rep] at H
 rename_i n
 exact⟨n,by rw [H.1];rfl,H.2⟩
theorem Rj {h:Heap}{x:D}{vs:List AV}(H:Rep h .bool x vs):∃ b,argAV .bool vs = .bool b:=by
 cases x<;>simp only [Rep] at H
 rename_i b
 exact⟨b,by rw [H];rfl⟩
theorem EW {n:Int}(h:(Lit.int .i64 n).wf=true) : -9223372036854775808≤n∧n≤9223372036854775807:=by
 simp only [Lit.wf,Bool.and_eq_true,decide_eq_true_eq] at h
 have e1:IntKind.i64.min = -9223372036854775808:=rfl
 have e2:IntKind.i64.max=9223372036854775807:=rfl
 omega
end Go.Ab.F
namespace Go.Ab.F
open Go Go.Ab
set_option linter.all false
theorem B9 {n:Int}(h1 : -9223372036854775808≤n)(h2:n≤9223372036854775807):IntKind.i64.wrap n=n:=by
 simp [IntKind.wrap,IntKind.bits,IntKind.signed]
 omega
theorem Ff {n:Int}(h1:0≤n)(h2:n < 18446744073709551616):IntKind.u64.wrap n=n:=by
 simp [IntKind.wrap,IntKind.bits,IntKind.signed]
 omega
end Go.Ab.F
namespace Go.Ab.F
open Go Go.Ab
set_option linter.all false
attribute [local congr] BI D1 Dy D2 Bu D3 Dz Aw Av
theorem D4 (a:BitVec 64):BitVec.ofInt 64 (a.toNat:Int)=a:=by
 rw [BitVec.ofInt_natCast];simp
theorem Gs (a:BitVec 64):IntKind.u64.wrap (a.toNat:Int)=a.toNat:=Ff (by omega) (by have:=a.isLt;omega)
@[simp] theorem Lq (x y:Int):binP .and (.int .u64 x) (.int .u64 y)=some (.int .u64 (BitVec.ofInt 64 x &&& BitVec.ofInt 64 y).toNat):=by
 rw [Eg _ (by decide) (by decide)]
 exact congrArg (fun n=>some (AV.int .u64 n)) (Gs _)
@[simp] theorem PL (x y:Int):binP .or (.int .u64 x) (.int .u64 y)=some (.int .u64 (BitVec.ofInt 64 x ||| BitVec.ofInt 64 y).toNat):=by
 rw [Eg _ (by decide) (by decide)]
 exact congrArg (fun n=>some (AV.int .u64 n)) (Gs _)
@[simp] theorem Rq (x y:Int):binP .xor (.int .u64 x) (.int .u64 y)=some (.int .u64 (BitVec.ofInt 64 x ^^^ BitVec.ofInt 64 y).toNat):=by
 rw [Eg _ (by decide) (by decide)]
 exact congrArg (fun n=>some (AV.int .u64 n)) (Gs _)
@[simp] theorem OS (x y:Int):binP .andNot (.int .u64 x) (.int .u64 y)=some (.int .u64 (BitVec.ofInt 64 x &&& ~~~(BitVec.ofInt 64 y)).toNat):=by
 rw [Eg _ (by decide) (by decide)]
 exact congrArg (fun n=>some (AV.int .u64 n)) (Gs _)
@[simp] theorem TE (a:BitVec 64):unA .xor (.int .u64 a.toNat)=some (.int .u64 (~~~a).toNat):=by
 have e:unA .xor (.int .u64 (a.toNat:Int))=some (.int .u64 (IntKind.u64.wrap (BitVec.ofInt 64 (if IntKind.u64.signed then -1 else IntKind.u64.max) ^^^ BitVec.ofInt 64 (a.toNat:Int)).toNat)):=rfl
 rw [e,D4,Gs]
 have:BitVec.ofInt 64 (if IntKind.u64.signed then -1 else IntKind.u64.max)=BitVec.allOnes 64:=by decide
 rw [this,BitVec.allOnes_xor]
theorem Nc (n:Int):IntKind.u64.wrap n=(BitVec.ofInt 64 n).toNat:=by
 rw [BitVec.toNat_ofInt]
 simp [IntKind.wrap,IntKind.bits,IntKind.signed]
 omega
@[simp] theorem TF (a:BitVec 64):unA .neg (.int .u64 a.toNat)=some (.int .u64 (-a).toNat):=by
 have e:unA .neg (.int .u64 (a.toNat:Int))=some (.int .u64 (IntKind.u64.wrap (0-(a.toNat:Int)))):=rfl
 rw [e,Nc]
 have:BitVec.ofInt 64 (0-(a.toNat:Int)) = -a:=by
  rw [Int.zero_sub,BitVec.ofInt_neg,D4]
 rw [this]
theorem Rt (a:BitVec 64)(k:IntKind)(n:Int)(h:0≤n):binP .shl (.int .u64 a.toNat) (.int k n)=some (.int .u64 (a <<< n.toNat).toNat):=by
 have e:binP .shl (.int .u64 (a.toNat:Int)) (.int k n)=shiftA .shl .u64 a.toNat n:=rfl
 rw [e,shiftA,if_neg (by omega)]
 simp only [Nc]
 congr 3
 rw [BitVec.toNat_ofInt,BitVec.toNat_shiftLeft,Nat.shiftLeft_eq]
 have hb:IntKind.u64.bits=64:=rfl
 rw [hb]
 by_cases hn:n.toNat≤64
 ·rw [Nat.min_eq_left hn]
  have:((a.toNat:Int) * 2 ^ n.toNat)=((a.toNat * 2 ^ n.toNat:Nat):Int):=by push_cast;rfl
  rw [this]
  omega
 ·rw [Nat.min_eq_right (by omega)]
  have h1:a.toNat * 2 ^ n.toNat % 2 ^ 64=0:=by
   have:2 ^ n.toNat=2 ^ 64 * 2 ^ (n.toNat - 64):=by rw [← Nat.pow_add];congr 1;omega
   rw [this,← Nat.mul_assoc,Nat.mul_comm a.toNat,Nat.mul_assoc]
   exact Nat.mul_mod_right _ _
  rw [h1]
  have:((a.toNat:Int) * 2 ^ 64) % ((2 ^ 64:Nat):Int)=0:=by
   have:((2 ^ 64:Nat):Int)=2 ^ 64:=by norm_cast
   rw [this];exact Int.mul_emod_left _ _
  rw [this];rfl
theorem RQ (a:BitVec 64)(k:IntKind)(n:Int)(h:0≤n):binP .shr (.int .u64 a.toNat) (.int k n)=some (.int .u64 (a >>> n.toNat).toNat):=by
 have e:binP .shr (.int .u64 (a.toNat:Int)) (.int k n)=shiftA .shr .u64 a.toNat n:=rfl
 rw [e,shiftA,if_neg (by omega)]
 have hb:IntKind.u64.bits=64:=rfl
 simp only [hb]
 congr 2
 rw [BitVec.toNat_ushiftRight,Nat.shiftRight_eq_div_pow]
 have h0:Int.fdiv (a.toNat:Int) (2 ^ min n.toNat 64)=((a.toNat / 2 ^ min n.toNat 64:Nat):Int):=by
  have hp:((2:Int) ^ min n.toNat 64)=((2 ^ min n.toNat 64:Nat):Int):=by push_cast;rfl
  rw [hp]
  exact(Int.ofNat_fdiv _ _).symm
 rw [h0]
 by_cases hn:n.toNat≤64
 ·rw [Nat.min_eq_left hn]
 ·rw [Nat.min_eq_right (by omega)]
  have h1:a.toNat / 2 ^ 64=0:=Nat.div_eq_of_lt a.isLt
  have h2:a.toNat / 2 ^ n.toNat=0:=Nat.div_eq_of_lt (Nat.lt_of_lt_of_le a.isLt (Nat.pow_le_pow_right (by decide) (by omega)))
  rw [h1,h2]
end Go.Ab.F
namespace Go.Ab.F
open Go Go.Ab
set_option linter.all false
structure RdW (h:Heap)(sz:Nat)(v:AV)(cs:List AV)(n:Nat):Prop where
 len:cs.length=n*sz
 eq:(v = .sl none 0 (.ex 0)∧n=0)∨∃ b o c,v = .sl (some (b,o)) n c∧b<h.next∧(n≠0→∃ w pre rest,pre.length=o∧h.get b=some (.cells w (pre++cs++rest)))
theorem RdC.w {h:Heap}{sz n:Nat}{v:AV}{cs:List AV}(H:RdC h sz v cs n):RdW h sz v cs n:=by
 refine⟨H.len,?_⟩
 rcases H.eq with e | ⟨b,c,rfl,h1,h2⟩
 ·exact .inl e
 ·exact .inr ⟨b,0,c,rfl,h1,fun hne=>⟨false,[],[],rfl,by rw [List.append_nil,List.nil_append];exact h2 hne⟩⟩
theorem RdW.lnL {h:Heap}{sz n:Nat}{v:AV}{cs:List AV}(H:RdW h sz v cs n):Go.Ab.lnL v=some (.int .i64 n):=by
 rcases H.eq with⟨rfl,rfl⟩ | ⟨b,o,c,rfl,_⟩
 ·rfl
 ·simp
theorem RdW.ix {h:Heap}{sz n:Nat}{v:AV}{cs:List AV}(H:RdW h sz v cs n){i:Nat}(hi:i<n) :
  ∃ b w pre rest,b<h.next∧h.get b=some (.cells w (pre++cs++rest))∧∀ k,iaS sz v (.int k (i:Int))=some (.ptr (some (b,pre.length+i*sz))):=by
 rcases H.eq with⟨rfl,rfl⟩ | ⟨b,o,c,rfl,hb,hg⟩
 ·omega
 ·obtain⟨w,pre,rest,ho,hg⟩:=hg (by omega)
  refine⟨b,w,pre,rest,hb,hg,fun k=>?_⟩
  rw [E7 sz (b,o) _ _ k _ ⟨by omega,by omega⟩];simp [ho]
theorem RdW.mono {h h':Heap}{sz n:Nat}{v:AV}{cs:List AV}(H:RdW h sz v cs n)(hn:h.next≤h'.next)(hg:∀ j,j<h.next→h'.get j=h.get j):RdW h' sz v cs n:=by
 refine⟨H.len,?_⟩
 rcases H.eq with e | ⟨b,o,c,rfl,h1,h2⟩
 ·exact .inl e
 ·exact .inr ⟨b,o,c,rfl,by omega,fun hne=>by rw [hg b h1];exact h2 hne⟩
theorem Gf {α:Type}:∀ {l:List α} {i n:Nat} {r:List α},span l i n=some r→i+n≤l.length
 | l,0,0,r,_=>by simp
 | [],0,n+1,r,h=>by simp [span] at h
 | [],i+1,n,r,h=>by simp [span] at h
 | v::vs,0,n+1,r,h=>by
  simp only [span,Option.map_eq_some_iff] at h
  obtain⟨r',h,_⟩:=h
  have:=Gf h
  simp;omega
 | v::vs,i+1,n,r,h=>by
  simp only [span] at h
  have:=Gf h
  simp;omega
theorem NJ {pre cs rest:List AV}{i n:Nat}{r:List AV}(h:span cs i n=some r):span (pre++cs++rest) (pre.length+i) n=some r:=by
 have hl:i+n≤cs.length:=Gf h
 rw [Bi cs i n hl] at h
 rw [Bi _ _ _ (by simp;omega)]
 cases h
 congr 1
 rw [List.append_assoc,List.drop_append,List.drop_eq_nil_of_le (by omega),List.nil_append,show pre.length+i-pre.length=i by omega,List.drop_append,List.take_append_of_le_length (by simp;omega)]
theorem Sq {pre cs rest:List AV}{i:Nat}{x:AV}(h:cs[i]?=some x):(pre++cs++rest)[pre.length+i]?=some x:=by
 have hl:=(List.getElem?_eq_some_iff.1 h).1
 rw [List.append_assoc,List.getElem?_append_right (by omega),show pre.length+i-pre.length=i by omega,List.getElem?_append_left hl,h]
def RwC (h:Heap)(sz:Nat)(v:AV)(l:List (List AV)):Prop:=
 ∃ cs,RdW h sz v cs l.length∧l.length≤maxLen∧∀ (i:Nat) r,l[i]?=some r→span cs (i*sz) sz=some r
def CapV (sz:Nat)(v:AV):Prop:=v = .sl none 0 (.ex 0)∨∃ p n c,v = .sl p n c∧CapOk sz n c
theorem KQ {h:Heap}{e:Ty}{x:D}{vs:List AV}(H:Rep h (.sl e) x vs):CapV e.size (argAV (.sl e) vs):=by
 cases x<;>simp only [Rep] at H
 rcases H with⟨rfl,rfl⟩ | ⟨i,c,us,rfl,h1,h2,h3,h4,h5,h6⟩
 ·exact .inl rfl
 ·exact .inr ⟨_,_,c,rfl,h6⟩
theorem MH {h:Heap}{e:Ty}{x:D}{vs:List AV}(H:Rep h (.sl e) x vs) :
  ∃ l:List (List AV),RwC h e.size (argAV (.sl e) vs) l∧∀ r∈l,∃ y,Rep h e y r:=by
 cases x<;>simp only [Rep] at H
 rename_i xs
 rcases H with⟨rfl,rfl⟩ | ⟨i,c,us,rfl,h1,h2,h3,h4,h5,_⟩
 ·exact⟨[],⟨[],RdW.mk (by simp) (.inl ⟨rfl,rfl⟩),Nat.zero_le _,fun i r hi=>by simp at hi⟩,fun r hr=>by simp at hr⟩
 ·have hl:((List.range xs.length).map fun j=>(us.drop (j*e.size)).take e.size).length=xs.length:=by simp
  refine⟨(List.range xs.length).map fun j=>(us.drop (j*e.size)).take e.size,⟨us,RdC.w ⟨by rw [hl];exact h3,.inr ⟨i,c,by rw [hl];rfl,h1,fun hne=>h2 fun e'=>hne (by rw [hl,e'];rfl)⟩⟩,by rw [hl];exact h4,fun j r hj=>?_⟩,fun r hr=>?_⟩
  ·have hlt:j<xs.length:=by
    rw [← hl];exact(List.getElem?_eq_some_iff.1 hj).1
   simp only [List.getElem?_map,List.getElem?_range hlt,Option.map_some,Option.some.injEq] at hj
   subst hj
   have:(j+1)*e.size≤xs.length*e.size:=Nat.mul_le_mul_right _ hlt
   rw [Nat.add_mul,Nat.one_mul] at this
   exact Bi us (j*e.size) e.size (by omega)
  ·simp only [List.mem_map,List.mem_range] at hr
   obtain⟨j,hj,rfl⟩:=hr
   exact⟨xs[j],h5 j _ (List.getElem?_eq_getElem hj)⟩
theorem RwC.mono {h h':Heap}{sz:Nat}{v:AV}{l:List (List AV)}(H:RwC h sz v l)(hn:h.next≤h'.next)(hg:∀ j,j<h.next→h'.get j=h.get j):RwC h' sz v l:=by
 obtain⟨cs,h1,h2⟩:=H
 exact⟨cs,h1.mono hn hg,h2⟩
theorem RwC.lnL {h:Heap}{sz:Nat}{v:AV}{l:List (List AV)}(H:RwC h sz v l):Go.Ab.lnL v=some (.int .i64 l.length):=by
 obtain⟨cs,h1,_⟩:=H
 exact h1.lnL
theorem Kp {h:Heap}:∀ (k:Nat) {xs:List D} {cs:List AV},Reps h (List.replicate k (.int .i64)) xs cs→∃ l:List Int,l.length=k∧cs=l.map (fun n=>AV.int .i64 n)∧∀ n∈l,(Lit.int .i64 n).wf=true
 | 0,xs,cs,H=>by
  cases xs<;>simp only [List.replicate,Reps] at H
  exact⟨[],rfl,H,by simp⟩
 | k+1,xs,cs,H=>by
  cases xs with
  | nil=>simp [List.replicate,Reps] at H
  | cons x xs=>
   simp only [List.replicate,Reps] at H
   obtain⟨h1,h2⟩:=H
   have hs:Ty.size (.int .i64)=1:=rfl
   rw [hs] at h1 h2
   obtain⟨l,hl,he,hw⟩:=Kp k h2
   cases x<;>simp only [Rep] at h1
   rename_i n
   refine⟨n::l,by simp [hl],?_,by simpa using ⟨h1.2,hw⟩⟩
   rw [← List.take_append_drop 1 cs,h1.1,he];rfl
structure Ins where
 op:Int
 a:Int
 b:Int
 c:Int
 d:Int
def Ins.wf (i:Ins):Prop:=(Lit.int .i64 i.op).wf=true∧(Lit.int .i64 i.a).wf=true∧(Lit.int .i64 i.b).wf=true∧(Lit.int .i64 i.c).wf=true∧(Lit.int .i64 i.d).wf=true
def Ins.row (i:Ins):List AV:=[.int .i64 i.op,.int .i64 i.a,.int .i64 i.b,.int .i64 i.c,.int .i64 i.d]
structure Cas where
 kind:Int
 chan:Int
 val:Int
 to:Int
def Cas.wf (i:Cas):Prop:=(Lit.int .i64 i.kind).wf=true∧(Lit.int .i64 i.chan).wf=true∧(Lit.int .i64 i.val).wf=true∧(Lit.int .i64 i.to).wf=true
def Cas.row (i:Cas):List AV:=[.int .i64 i.kind,.int .i64 i.chan,.int .i64 i.val,.int .i64 i.to]
theorem RE {h:Heap}{x:D}{r:List AV}(H:Rep h (.st (List.replicate 5 (.int .i64))) x r):∃ i:Ins,i.wf∧r=i.row:=by
 cases x<;>simp only [Rep] at H
 obtain⟨l,hl,rfl,hw⟩:=Kp 5 H
 rcases l with _ | ⟨a,_ | ⟨b,_ | ⟨c,_ | ⟨d,_ | ⟨e,_ | ⟨f,l⟩⟩⟩⟩⟩⟩<;>simp at hl
 simp only [List.mem_cons,List.not_mem_nil,or_false,forall_eq_or_imp,forall_eq] at hw
 exact⟨⟨a,b,c,d,e⟩,hw,rfl⟩
theorem RN {h:Heap}{x:D}{r:List AV}(H:Rep h (.st (List.replicate 4 (.int .i64))) x r):∃ i:Cas,i.wf∧r=i.row:=by
 cases x<;>simp only [Rep] at H
 obtain⟨l,hl,rfl,hw⟩:=Kp 4 H
 rcases l with _ | ⟨a,_ | ⟨b,_ | ⟨c,_ | ⟨d,_ | ⟨e,l⟩⟩⟩⟩⟩<;>simp at hl
 simp only [List.mem_cons,List.not_mem_nil,or_false,forall_eq_or_imp,forall_eq] at hw
 exact⟨⟨a,b,c,d⟩,hw,rfl⟩
theorem Jv {α:Type}{h:Heap}{e:Ty}(row:α→List AV)(wf:α→Prop)(each:∀ {x:D} {r:List AV},Rep h e x r→∃ i,wf i∧r=row i) :
  ∀ {l:List (List AV)},(∀ r∈l,∃ y,Rep h e y r)→∃ m:List α,(∀ i∈m,wf i)∧l=m.map row
 | [],_=>⟨[],by simp,rfl⟩
 | r::l,H=>by
  obtain⟨m,h1,rfl⟩:=Jv row wf each (l:=l) fun r' hr=>H r' (List.mem_cons_of_mem _ hr)
  obtain⟨y,hy⟩:=H r (List.mem_cons_self ..)
  obtain⟨i,hi,rfl⟩:=each hy
  exact⟨i::m,by simpa using ⟨hi,h1⟩,rfl⟩
theorem Mk {h:Heap}{x:D}{vs:List AV}(H:Rep h (.sl .bool) x vs) :
  ∃ l:List Bool,RdC h 1 (argAV (.sl .bool) vs) (l.map AV.bool) l.length∧l.length≤maxLen:=by
 cases x<;>simp only [Rep] at H
 rename_i xs
 rcases H with⟨rfl,rfl⟩ | ⟨i,c,us,rfl,h1,h2,h3,h4,h5,_⟩
 ·exact⟨[],⟨rfl,.inl ⟨rfl,rfl⟩⟩,by simp⟩
 ·have hs:Ty.size .bool=1:=rfl
  rw [hs,Nat.mul_one] at h3
  have each:∀ j,j<xs.length→∃ n,us[j]?=some (.bool n):=fun j hj=>by
   have:=h5 j xs[j] (List.getElem?_eq_getElem hj)
   rw [hs,Nat.mul_one] at this
   generalize xs[j]=y at this
   cases y<;>simp only [Rep] at this
   rename_i n
   refine⟨n,?_⟩
   have e:=congrArg (fun l=>l[0]?) this
   simpa [List.getElem?_take] using e
  have hl:∃ l:List Bool,us=l.map AV.bool:=by
   clear h2 h4 h5 h1
   rw [← h3] at each
   clear h3
   induction us with
   | nil=>exact⟨[],rfl⟩
   | cons u us ih=>
    obtain⟨n,hn⟩:=each 0 (by simp)
    simp at hn;subst hn
    obtain⟨l,rfl⟩:=ih fun j hj=>by
     obtain⟨n,hn⟩:=each (j+1) (by simpa using hj)
     exact⟨n,by simpa using hn⟩
    exact⟨n::l,rfl⟩
  obtain⟨l,rfl⟩:=hl
  have hlen:l.length=xs.length:=by simpa using h3
  exact⟨l,⟨by simp,.inr ⟨i,c,by rw [hlen];rfl,h1,fun hne=>h2 fun e=>hne (by rw [hlen,e];rfl)⟩⟩,by omega⟩
structure Fn where
 pa:Int
 ca:Int
 sl:Int
 re:Int
 kinds:List Bool
 code:List Ins
 maps:List Int
def wfI (n:Int):Prop:=(Lit.int .i64 n).wf=true
def FnRd (h:Heap)(r:List AV)(f:Fn):Prop:=
 ∃ kv cv mv,r = [.int .i64 f.pa,.int .i64 f.ca,.int .i64 f.sl,.int .i64 f.re,kv,cv,mv]∧
  RdW h 1 kv (f.kinds.map AV.bool) f.kinds.length∧RwC h 5 cv (f.code.map Ins.row)∧RdW h 1 mv (f.maps.map (AV.int .u64)) f.maps.length∧
  wfI f.pa∧wfI f.ca∧wfI f.sl∧wfI f.re∧f.kinds.length≤maxLen∧f.code.length≤maxLen∧f.maps.length≤maxLen∧
  CapV 1 kv∧CapV 5 cv∧CapV 1 mv∧(∀ i∈f.code,i.wf)∧∀ n∈f.maps,(Lit.int .u64 n).wf=true
def fnTy:Ty:=.st [.int .i64,.int .i64,.int .i64,.int .i64,.sl .bool,.sl (.st (List.replicate 5 (.int .i64))),.sl (.int .u64)]
theorem SA {h:Heap}{x:D}{r:List AV}(hlr:r.length=7)(H:Rep h fnTy x r):∃ f,FnRd h r f:=by
 cases x<;>simp only [fnTy,Rep] at H
 rename_i ys
 rcases r with _ | ⟨r0,_ | ⟨r1,_ | ⟨r2,_ | ⟨r3,_ | ⟨r4,_ | ⟨r5,_ | ⟨r6,_ | ⟨r7,r⟩⟩⟩⟩⟩⟩⟩⟩<;>simp at hlr
 rcases ys with _ | ⟨y0,_ | ⟨y1,_ | ⟨y2,_ | ⟨y3,_ | ⟨y4,_ | ⟨y5,_ | ⟨y6,_ | ⟨y7,ys⟩⟩⟩⟩⟩⟩⟩⟩<;>simp only [Reps,and_false] at H
 simp only [Ty.size,List.take_succ_cons,List.take_zero,List.drop_succ_cons,List.drop_zero] at H
 obtain⟨t0,t1,t2,t3,t4,t5,t6,_⟩:=H
 cases y0<;>simp only [Rep] at t0
 cases y1<;>simp only [Rep] at t1
 cases y2<;>simp only [Rep] at t2
 cases y3<;>simp only [Rep] at t3
 simp only [List.cons.injEq,and_true] at t0 t1 t2 t3
 obtain⟨kinds,k1,k2⟩:=Mk t4
 obtain⟨rows,c1,c2⟩:=MH t5
 obtain⟨code,c3,rfl⟩:=Jv Ins.row Ins.wf (fun H=>RE H) c2
 obtain⟨maps,m1,m2,m3⟩:=PF t6
 have hc:code.length≤maxLen:=by
  obtain⟨cs,_,h2,_⟩:=c1
  simpa using h2
 exact⟨⟨_,_,_,_,kinds,code,maps⟩,r4,r5,r6,by rw [t0.1,t1.1,t2.1,t3.1],k1.w,c1,m1.w,t0.2,t1.2,t2.2,t3.2,k2,hc,m3,KQ t4,KQ t5,KQ t6,c3,m2⟩
theorem FnRd.mono {h h':Heap}{r:List AV}{f:Fn}(H:FnRd h r f)(hn:h.next≤h'.next)(hg:∀ j,j<h.next→h'.get j=h.get j):FnRd h' r f:=by
 obtain⟨kv,cv,mv,e,h1,h2,h3,h4⟩:=H
 exact⟨kv,cv,mv,e,h1.mono hn hg,h2.mono hn hg,h3.mono hn hg,h4⟩
structure Md where
 shapes:List (List AV)
 globals:List Bool
 consts:List Int
 cases:List Cas
 funcs:List Fn
 main:Int
def FnsRd (h:Heap)(v:AV)(fs:List Fn):Prop:=
 ∃ rows,RwC h 7 v rows∧rows.length=fs.length∧∀ (i:Nat) r f,rows[i]?=some r→fs[i]?=some f→FnRd h r f
theorem FnsRd.mono {h h':Heap}{v:AV}{fs:List Fn}(H:FnsRd h v fs)(hn:h.next≤h'.next)(hg:∀ j,j<h.next→h'.get j=h.get j):FnsRd h' v fs:=by
 obtain⟨rows,h1,h2,h3⟩:=H
 exact⟨rows,h1.mono hn hg,h2,fun i r f hr hf=>(h3 i r f hr hf).mono hn hg⟩
theorem RwC.rows {h:Heap}{sz:Nat}{v:AV}{l:List (List AV)}(H:RwC h sz v l){r:List AV}(hr:r∈l):r.length=sz:=by
 obtain⟨cs,h1,_,h2⟩:=H
 obtain⟨i,hi⟩:=List.getElem?_of_mem hr
 have h3:=h2 i r hi
 have hlt:=(List.getElem?_eq_some_iff.1 hi).1
 have:(i+1)*sz≤l.length*sz:=Nat.mul_le_mul_right _ hlt
 rw [Nat.add_mul,Nat.one_mul,← h1.len] at this
 rw [Bi cs (i*sz) sz this] at h3
 cases h3
 simp;omega
theorem SP {h:Heap}{x:D}{vs:List AV}(H:Rep h (.sl fnTy) x vs):∃ fs,FnsRd h (argAV (.sl fnTy) vs) fs∧fs.length≤maxLen:=by
 obtain⟨rows,h1,h2⟩:=MH H
 have hs:fnTy.size=7:=rfl
 rw [hs] at h1
 have:∀ l:List (List AV),(∀ r∈l,r.length=7∧∃ y,Rep h fnTy y r)→∃ fs:List Fn,l.length=fs.length∧∀ (i:Nat) r f,l[i]?=some r→fs[i]?=some f→FnRd h r f:=by
  intro l
  induction l with
  | nil=>intro _;exact⟨[],rfl,by simp⟩
  | cons r l ih=>
   intro H
   obtain⟨fs,e1,e2⟩:=ih fun r' hr=>H r' (List.mem_cons_of_mem _ hr)
   obtain⟨hl,y,hy⟩:=H r (List.mem_cons_self ..)
   obtain⟨f,hf⟩:=SA hl hy
   refine⟨f::fs,by simp [e1],fun i r' f' hr hf'=>?_⟩
   cases i with
   | zero=>simp at hr hf';subst hr;subst hf';exact hf
   | succ i=>exact e2 i r' f' (by simpa using hr) (by simpa using hf')
 obtain⟨fs,e1,e2⟩:=this rows fun r hr=>⟨h1.rows hr,h2 r hr⟩
 have hm:rows.length≤maxLen:=by obtain⟨cs,_,h,_⟩:=h1;exact h
 exact⟨fs,⟨rows,h1,e1,e2⟩,by omega⟩
def MdRd (h:Heap)(v:AV)(m:Md):Prop:=
 ∃ sv gv kv cv fv,v = .agg [sv,gv,kv,cv,fv,.int .i64 m.main]∧RwC h 3 sv m.shapes∧RdW h 1 gv (m.globals.map AV.bool) m.globals.length∧RdW h 1 kv (m.consts.map (AV.int .i64)) m.consts.length∧
  RwC h 4 cv (m.cases.map Cas.row)∧FnsRd h fv m.funcs∧wfI m.main∧m.globals.length≤maxLen∧m.consts.length≤maxLen∧m.cases.length≤maxLen∧m.funcs.length≤maxLen∧CapV 4 cv∧CapV 7 fv∧(∀ i∈m.cases,i.wf)∧
  (∀ r∈m.shapes,∃ a b c,r = [.int .i64 a,.int .i64 b,.int .u64 c])∧∀ n∈m.consts,wfI n
theorem MdRd.mono {h h':Heap}{v:AV}{m:Md}(H:MdRd h v m)(hn:h.next≤h'.next)(hg:∀ j,j<h.next→h'.get j=h.get j):MdRd h' v m:=by
 obtain⟨sv,gv,kv,cv,fv,e,h1,h2,h3,h4,h5,h6⟩:=H
 exact⟨sv,gv,kv,cv,fv,e,h1.mono hn hg,h2.mono hn hg,h3.mono hn hg,h4.mono hn hg,h5.mono hn hg,h6⟩
def shTy:Ty:=.st [.int .i64,.int .i64,.int .u64]
def csTy:Ty:=.st (List.replicate 4 (.int .i64))
def mdTy:Ty:=.st [.sl shTy,.sl .bool,.sl (.int .i64),.sl csTy,.sl fnTy,.int .i64]
theorem RwC.at {h:Heap}{sz:Nat}{v:AV}{l:List (List AV)}(H:RwC h sz v l){i:Nat}{r:List AV}(hr:l[i]?=some r) :
  ∃ b o,b<h.next∧(∀ k,iaS sz v (.int k (i:Int))=some (.ptr (some (b,o))))∧ldA sz h (.ptr (some (b,o)))=some (.agg r)∧∀ (f:Nat) x,r[f]?=some x→ldS h (.ptr (some (b,o+f)))=some x:=by
 obtain⟨cs,h1,h2,h3⟩:=H
 have hi:=(List.getElem?_eq_some_iff.1 hr).1
 obtain⟨b,w,pre,rest,hb,hg,hix⟩:=h1.ix hi
 have hs:=NJ (pre:=pre) (rest:=rest) (h3 i r hr)
 refine⟨b,pre.length+i*sz,hb,hix,by rw [Eo hg,hs];rfl,fun f x hx=>?_⟩
 rw [Ai hg]
 have hl:=Gf hs
 rw [Bi _ _ _ hl] at hs
 cases hs
 rw [List.getElem?_take] at hx
 split at hx
 ·rw [List.getElem?_drop] at hx;exact hx
 ·cases hx
theorem RdW.at {h:Heap}{v:AV}{cs:List AV}{n:Nat}(H:RdW h 1 v cs n){i:Nat}{x:AV}(hx:cs[i]?=some x) :
  ∃ b o,b<h.next∧(∀ k,iaS 1 v (.int k (i:Int))=some (.ptr (some (b,o))))∧ldS h (.ptr (some (b,o)))=some x:=by
 have hi:=(List.getElem?_eq_some_iff.1 hx).1
 have hl:=H.len
 obtain⟨b,w,pre,rest,hb,hg,hix⟩:=H.ix (i:=i) (by omega)
 exact⟨b,pre.length+i,hb,(fun k=>by rw [hix k,Nat.mul_one]),by rw [Ai hg,Sq hx]⟩
theorem RdW.sc {h:Heap}{sz n:Nat}{v:AV}{cs:List AV}(H:RdW h sz v cs n):scalar v=true:=by
 rcases H.eq with⟨rfl,_⟩ | ⟨b,o,c,rfl,_⟩<;>rfl
theorem RwC.sc {h:Heap}{sz:Nat}{v:AV}{l:List (List AV)}(H:RwC h sz v l):scalar v=true:=by
 obtain⟨cs,h1,_⟩:=H
 exact h1.sc
theorem FnsRd.sc {h:Heap}{v:AV}{fs:List Fn}(H:FnsRd h v fs):scalar v=true:=by
 obtain⟨rows,h1,_⟩:=H
 exact h1.sc
theorem FnRd.sc {h:Heap}{r:List AV}{f:Fn}(H:FnRd h r f):r.all scalar=true:=by
 obtain⟨kv,cv,mv,rfl,h1,h2,h3,_⟩:=H
 simp only [List.all_cons,List.all_nil,h1.sc,h2.sc,h3.sc,Bool.and_true,Bool.and_self];rfl
theorem Ins.sc (i:Ins):i.row.all scalar=true:=rfl
theorem Cas.sc (i:Cas):i.row.all scalar=true:=rfl
theorem GL {cs:List AV}(hs:cs.all scalar=true):bxP (.agg cs)=some (.cells true cs,fun i=>.ptr (some (i,0))):=by
 have e:(AV.agg cs).cells=cs:=rfl
 simp only [bxP,e,hs,if_true]
theorem MdRd.bx {h:Heap}{v:AV}{m:Md}(H:MdRd h v m):∃ cs,v = .agg cs∧bxP v=some (.cells true cs,fun i=>.ptr (some (i,0))):=by
 obtain⟨sv,gv,kv,cv,fv,rfl,h1,h2,h3,h4,h5,_⟩:=H
 refine⟨_,rfl,GL ?_⟩
 simp only [List.all_cons,List.all_nil,h1.sc,h2.sc,h3.sc,h4.sc,h5.sc,Bool.and_true,Bool.and_self];rfl
def casesOf (m:Md)(a b:Int):List Cas:=
 if a < 0∨b < 0∨(m.cases.length:Int)<a∨(m.cases.length:Int)-a<b then [] else(m.cases.drop a.toNat).take b.toNat
end Go.Ab.F
namespace Go.Ab
open Go Go.Ab
set_option linter.all false
theorem Ds {h:Heap}{b n:Nat}{vs cs:List AV}(hb:h.get b=some (.cells true vs))(hl:vs.length=n)(hn:cs.length=n)(hs:cs.all scalar=true) :
  stP n h (.ptr (some (b,0))) (.agg cs)=some (.bot,h.put b (some (.cells true cs))):=by
 have e:(AV.agg cs).cells=cs:=rfl
 simp only [stP,e,hn,ne_eq,not_true_eq_false,if_false,storeN,hs,if_true,hb,DW]
 rw [I3 vs cs (by omega)];rfl
theorem EV {R:Type}{h:Heap}{z cs:List AV}{n:Nat}(hz:z.length=n)(hn:cs.length=n)(hs:cs.all scalar=true){K:AV→Heap→Option R}{Q:R→Prop}
  (hk:∀ g,Same [] h g→g.next=h.next+1→g.get h.next=some (.cells true cs)→Ok (K (.ptr (some (h.next,0))) g) Q) :
  Ok (mk Heap.new (some (Blk.cells true z,fun i=>AV.ptr (some (i,0)))) h fun t h'=>cl (stP n h' t (.agg cs)) fun _ h''=>K t h'') Q:=by
 rw [Af,Ds Am hz hn hs,AE]
 refine hk _ ⟨Nat.le_succ _,fun j hj _=>?_⟩ rfl An
 rw [Bd (by omega),FK (by omega)]
theorem Er {R:Type}{h:Heap}{z cs:List AV}{n:Nat}(hz:z.length=n)(hn:cs.length=n)(hs:cs.all scalar=true){K:AV→Heap→Option R}{Q:R→Prop}
  (hk:∀ u g,Same [] h g→g.next=h.next+1→g.get h.next=some (.cells true cs)→Ok (K u g) Q) :
  Ok (cl (stP n (h.new (.cells true z)) (.ptr (some (h.next,0))) (.agg cs)) K) Q:=by
 rw [Ds Am hz hn hs,AE]
 refine hk _ _ ⟨Nat.le_succ _,fun j hj _=>?_⟩ rfl An
 rw [Bd (by omega),FK (by omega)]
end Go.Ab
