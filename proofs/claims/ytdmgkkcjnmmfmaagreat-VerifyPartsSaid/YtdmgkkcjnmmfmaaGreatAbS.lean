import Derived.Test.YtdmgkkcjnmmfmaaGreatAbP
namespace Go.Ab
open Go
set_option linter.all false
section
variable {R α:Type}
@[simp] theorem AE (v:AV)(h:Heap)(K:AV→Heap→Option R):cl (some (v,h)) K=K v h:=rfl
@[simp] theorem Af (b:Blk)(f:Nat→AV)(h:Heap)(K:AV→Heap→Option R):mk Heap.new (some (b,f)) h K=K (f h.next) (h.new b):=rfl
@[simp] theorem Eu (b:Blk)(f:Nat→AV)(i:Nat)(h:Heap):mkAt Heap.put (some (b,f)) i h=some (f i,h.put i (some b)):=rfl
@[simp] theorem TJ (e:Ex)(vs:List AV)(h:Heap)(K:Ex→List AV→Heap→Option R):lp (some (e,vs,h)) K=K e vs h:=rfl
@[simp] theorem AM (v:AV)(cs:List Asked)(K:AV→List Asked→Option R):clC (some (v,cs)) K=K v cs:=rfl
@[simp] theorem AH (h:Heap)(x:Option (AV × Heap))(K:AV→Heap→Option R):gQ (some true) h x K=cl x K:=rfl
@[simp] theorem AD (h:Heap)(x:Option (AV × Heap))(K:AV→Heap→Option R):gQ (some false) h x K=K (.tup []) h:=rfl
@[simp] theorem Ad (x:Option α)(d:α):gV (some true) x d=x:=rfl
@[simp] theorem AQ (x:Option α)(d:α):gV (some false) x d=some d:=rfl
@[simp] theorem Sr (b w:Bool):gdW (.bool b) w=some (b == w):=rfl
@[simp] theorem AL (w:Bool):gdW (.tup []) w=some false:=rfl
@[simp] theorem AB (a b:Option R):condE (.bool true) a b=a:=rfl
@[simp] theorem AA (a b:Option R):condE (.bool false) a b=b:=rfl
@[simp] theorem Al (A:Option R)(B:Ex→Option R):thenK .normal A B=A:=rfl
@[simp] theorem Cm (A:Option R)(B:Ex→Option R):thenK .ret A B=B .ret:=rfl
@[simp] theorem Rx (i:Nat)(A:Option R)(B:Ex→Option R):thenK (.exit i) A B=B (.exit i):=rfl
@[simp] theorem IU (x:Option (AV × Heap)):endE .normal x=x:=rfl
@[simp] theorem Dx (x:Option (AV × Heap)):endE .ret x=x:=rfl
@[simp] theorem Ry (hs:List Heap):checkK hs []=true:=rfl
@[simp] theorem AW (hs:List Heap)(x:Option R):chk hs [] x=x:=rfl
@[simp] theorem Lp (hs:List Heap)(f:Heap→Option AV)(v:AV)(lo hi:Nat)(cs:List Asked)(x:Option R):chk hs ((f,v,lo,hi)::cs) x=if allFrom hs f v lo (hi+1-lo)=true then chk hs cs x else none:=by
 unfold chk
 rw [checkK]
 cases allFrom hs f v lo (hi+1-lo)<;>simp
@[simp] theorem GJ (hs:List Heap)(f:Heap→Option AV)(v:AV)(lo:Nat):allFrom hs f v lo 0=true:=rfl
theorem EF (hs:List Heap)(f:Heap→Option AV)(v:AV)(lo n:Nat):allFrom hs f v lo (n+1)=((match hs[lo]? with | some h=>(match f h with | some u=>same u v | none=>false) | none=>false) && allFrom hs f v (lo+1) n):=rfl
end
section
variable {α β R:Type}
theorem BI {x y:Option α}(h:x=y)(K:α→Option β):x.bind K=y.bind K:=by rw [h]
theorem D1 {x y:Option (AV × Heap)}(h:x=y)(K:AV→Heap→Option R):cl x K=cl y K:=by rw [h]
theorem Dy {x y:Option (Blk × (Nat→AV))}(e:x=y)(h:Heap)(K:AV→Heap→Option R):mk Heap.new x h K=mk Heap.new y h K:=by rw [e]
theorem D2 {x y:OutV}(h:x=y)(K:Ex→List AV→Heap→Option R):lp x K=lp y K:=by rw [h]
theorem Bu {x y:Option (AV × List Asked)}(h:x=y)(K:AV→List Asked→Option R):clC x K=clC y K:=by rw [h]
theorem D3 {w v:Option Bool}(e:w=v)(h:Heap)(x:Option (AV × Heap))(K:AV→Heap→Option R):gQ w h x K=gQ v h x K:=by rw [e]
theorem Dz {w v:Option Bool}(e:w=v)(x:Option α)(d:α):gV w x d=gV v x d:=by rw [e]
theorem Aw {c d:AV}(e:c=d)(a b:Option R):condE c a b=condE d a b:=by rw [e]
theorem Av {e f:Ex}(h:e=f)(A:Option R)(B:Ex→Option R):thenK e A B=thenK f A B:=by rw [h]
end
@[simp] theorem AO (a:Nat × Nat):nilV (.ptr (some a))=some (.ptr (some a)):=rfl
@[simp] theorem Br (ix:Nat)(l:List AV):extractV ix (.tup l)=l[ix]?:=rfl
@[simp] theorem AC (c:Bool)(a b:AV):pickP (.bool c) a b=some (if c then a else b):=by cases c<;>rfl
theorem Eg (op:BinOp)(h1:op≠.shl)(h2:op≠.shr)(k:IntKind)(a b:Int):binP op (.int k a) (.int k b)=intBin op k a b:=by
 unfold binP
 cases op<;>first | exact absurd rfl h1 | exact absurd rfl h2 | simp [binE]
@[simp] theorem Ap (k:IntKind)(a b:Int):binP .add (.int k a) (.int k b)=some (.int k (k.wrap (a+b))):=by rw [Eg _ (by decide) (by decide)];rfl
@[simp] theorem Bc (k:IntKind)(a b:Int):binP .sub (.int k a) (.int k b)=some (.int k (k.wrap (a-b))):=by rw [Eg _ (by decide) (by decide)];rfl
@[simp] theorem Lv (k:IntKind)(a b:Int):binP .mul (.int k a) (.int k b)=some (.int k (k.wrap (a*b))):=by rw [Eg _ (by decide) (by decide)];rfl
@[simp] theorem TL (k:IntKind)(a b:Int):binP .quo (.int k a) (.int k b)=if b=0 then none else some (.int k (k.wrap (a.tdiv b))):=by rw [Eg _ (by decide) (by decide)];rfl
@[simp] theorem TP (k:IntKind)(a b:Int):binP .rem (.int k a) (.int k b)=if b=0 then none else some (.int k (a.tmod b)):=by rw [Eg _ (by decide) (by decide)];rfl
@[simp] theorem AG (k:IntKind)(a b:Int):binP .lss (.int k a) (.int k b)=some (.bool (decide (a<b))):=by rw [Eg _ (by decide) (by decide)];rfl
@[simp] theorem AP (k:IntKind)(a b:Int):binP .leq (.int k a) (.int k b)=some (.bool (decide (a≤b))):=by rw [Eg _ (by decide) (by decide)];rfl
@[simp] theorem AR (k:IntKind)(a b:Int):binP .gtr (.int k a) (.int k b)=some (.bool (decide (b<a))):=by rw [Eg _ (by decide) (by decide)];rfl
@[simp] theorem AJ (k:IntKind)(a b:Int):binP .geq (.int k a) (.int k b)=some (.bool (decide (b≤a))):=by rw [Eg _ (by decide) (by decide)];rfl
@[simp] theorem AK (d:Option TypeDesc)(fs:Option (List (Nat × TypeDesc)))(k:IntKind)(a b:Int):eqP d fs false .eql (.int k a) (.int k b)=some (.bool (decide (a=b))):=by
 simp [eqP,guardE,binE,intBin];rfl
@[simp] theorem AU (d:Option TypeDesc)(fs:Option (List (Nat × TypeDesc)))(k:IntKind)(a b:Int):eqP d fs false .neq (.int k a) (.int k b)=some (.bool (!decide (a=b))):=by
 simp [eqP,guardE,binE,intBin];rfl
@[simp] theorem Su (fs:Option (List (Nat × TypeDesc)))(a b:Bool):eqP (some .bool) fs false .eql (.bool a) (.bool b)=some (.bool (a == b)):=by simp [eqP,guardE,binE,eqD]
@[simp] theorem MC (fs:Option (List (Nat × TypeDesc)))(a b:Bool):eqP (some .bool) fs false .neq (.bool a) (.bool b)=some (.bool (!(a == b))):=by simp [eqP,guardE,binE,eqD]
@[simp] theorem Ro (e:TypeId)(fs:Option (List (Nat × TypeDesc)))(p:Nat × Nat):eqP (some (.pointer e)) fs false .eql (.ptr (some p)) (.ptr none)=some (.bool false):=by simp [eqP,guardE,binE,eqD]
@[simp] theorem RB (e:TypeId)(fs:Option (List (Nat × TypeDesc)))(p:Nat × Nat):eqP (some (.pointer e)) fs false .neq (.ptr (some p)) (.ptr none)=some (.bool true):=by simp [eqP,guardE,binE,eqD]
@[simp] theorem Q8 (e:TypeId)(fs:Option (List (Nat × TypeDesc)))(p:Option (Nat × Nat)):eqP (some (.pointer e)) fs false .eql (.ptr none) (.ptr p)=some (.bool p.isNone):=by cases p<;>simp [eqP,guardE,binE,eqD]
@[simp] theorem RI (e:TypeId)(fs:Option (List (Nat × TypeDesc)))(p:Option (Nat × Nat)):eqP (some (.pointer e)) fs false .neq (.ptr none) (.ptr p)=some (.bool !p.isNone):=by cases p<;>simp [eqP,guardE,binE,eqD]
@[simp] theorem Ae (b:Bool):unA .not (.bool b)=some (.bool !b):=rfl
@[simp] theorem Fs (k k':IntKind)(n:Int):cvI k (.int k' n)=some (.int k (k.wrap n)):=rfl
@[simp] theorem AF (off:Nat)(p:Nat × Nat):faP off (.ptr (some p))=some (.ptr (some (p.1,p.2+off))):=rfl
@[simp] theorem TU (p:Option (Nat × Nat))(n:Nat)(c:Cap):lnL (.sl p n c)=some (.int .i64 n):=by cases p<;>cases c<;>rfl
theorem E7 (s:Nat)(p:Nat × Nat)(len:Nat)(c:Cap)(k:IntKind)(n:Int)(h:0≤n∧n<len):iaS s (.sl (some p) len c) (.int k n)=some (.ptr (some (p.1,p.2+n.toNat*s))):=by
 simp only [iaS,h,and_self,if_true,addA]
@[simp] theorem Sw (len s:Nat)(p:Nat × Nat)(k:IntKind)(n:Int):iaA len s (.ptr (some p)) (.int k n)=if 0≤n∧n<len then some (.ptr (some (p.1,p.2+n.toNat*s))) else none:=rfl
theorem Ai {h:Heap}{b o:Nat}{w:Bool}{vs:List AV}(hb:h.get b=some (.cells w vs)):ldS h (.ptr (some (b,o)))=vs[o]?:=by
 simp only [ldS,hb];exact Nz _ _
theorem Eo {n:Nat}{h:Heap}{b o:Nat}{w:Bool}{vs:List AV}(hb:h.get b=some (.cells w vs)):ldA n h (.ptr (some (b,o)))=(span vs o n).map .agg:=by
 simp only [ldA,hb,Cc]
theorem LL {α:Type}(x:α):∀ (vs:List α) (o:Nat),o<vs.length→splice vs o [x]=some (vs.set o x)
 | [],_,h=>by simp at h
 | v::vs,0,_=>by simp [splice]
 | v::vs,o+1,h=>by simp only [splice,LL x vs o (by simpa using h),Option.map_some,List.set_cons_succ]
theorem Cl {h:Heap}{b o:Nat}{vs:List AV}{v:AV}(hb:h.get b=some (.cells true vs))(ho:o<vs.length)(hv:scalar v=true):stP 1 h (.ptr (some (b,o))) v=some (.bot,h.put b (some (.cells true (vs.set o v)))):=by
 have hc:v.cells = [v]:=by cases v<;>simp_all [scalar,AV.cells]
 simp only [stP,hc,List.length_singleton,ne_eq,not_true_eq_false,if_false,storeN,List.all_cons,List.all_nil,Bool.and_true,hv,if_true,hb,DW,LL v vs o ho,Option.map_some]
@[simp] theorem get_put (h:Heap)(i j:Nat)(b:Option Blk):(h.put i b).get j=if j=i then b else h.get j:=Heap.get_put h i j b
@[simp] theorem get_new (h:Heap)(j:Nat)(b:Blk):(h.new b).get j=if j=h.next then some b else h.get j:=Heap.get_new h j b
end Go.Ab
