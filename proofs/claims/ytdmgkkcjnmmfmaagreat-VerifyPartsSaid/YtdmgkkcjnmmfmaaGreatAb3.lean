import Derived.Test.YtdmgkkcjnmmfmaaGreatAb2
namespace Go.Ab
open Go
set_option linter.all false
section
variable {P:Program}{ρ:Rho}
theorem Mn {op : BinOp} {k : IntKind} {x y : Int} {v : AV} (h : intBin op k x y = some v) (hs : op ≠ .shl) (hr : op ≠ .shr) (t : TypeId) :
    ∃ v', VR ρ v v' ∧ ∀ w, (binOp op t (.int k x) (.int k y)).run P w = .ok v' w := by
  cases op <;> simp only [intBin] at h <;> first
    | (cases h; exact ⟨_, by simp only [VR]; rfl, fun w => by simp [binOp, Op.intArith, Op.intBits, Op.intCmp]⟩)
    | (split at h
       · cases h
       · rename_i hy; cases h; exact ⟨_, by simp only [VR]; rfl, fun w => by simp [binOp, Op.intDiv, hy]⟩)
    | (exact absurd rfl hs)
    | (exact absurd rfl hr)
theorem JY {op:BinOp}{k ky:IntKind}{x y:Int}{v:AV}(h:shiftA op k x y=some v)(t:TypeId) :
  ∃ v',VR ρ v v'∧∀ w,(binOp op t (.int k x) (.int ky y)).run P w = .ok v' w:=by
 unfold shiftA at h
 split at h
 ·cases h
 ·rename_i hy
  split at h
  ·cases h;exact⟨_,by simp only [VR];rfl,fun w=>by simp [binOp,Op.shift,hy]⟩
  ·cases h;exact⟨_,by simp only [VR];rfl,fun w=>by simp [binOp,Op.shift,hy]⟩
  ·cases h
theorem Mg {op : BinOp} {x y : List UInt8} {v : AV} (h : strBin op x y = some v) (t : TypeId) :
    ∃ v', VR ρ v v' ∧ ∀ w, (binOp op t (.string ⟨⟨x⟩⟩) (.string ⟨⟨y⟩⟩)).run P w = .ok v' w := by
  have lx : ∀ l : List UInt8, (ByteArray.mk ⟨l⟩).toList = l := fun l => ByteArray.toList_mk l
  have la : ∀ l m : List UInt8, (ByteArray.mk ⟨l⟩) ++ (ByteArray.mk ⟨m⟩) = ⟨⟨l ++ m⟩⟩ := fun l m => by
    apply ByteArray.ext
    simp [ByteArray.data_append]
  have ls : ∀ l : List UInt8, (ByteArray.mk ⟨l⟩).size = l.length := fun l => rfl
  cases op <;> simp only [strBin] at h <;> first
    | (cases h; exact ⟨_, by simp only [VR]; rfl, fun w => by simp [binOp, Op.stringOp, lx]⟩)
    | (split at h
       · cases h
       · rename_i hy; cases h; exact ⟨_, by simp only [VR]; rfl, fun w => by simp only [binOp, Op.stringOp, ls, la]; rw [if_neg hy]; rfl⟩)
    | cases h
theorem PS {dd:TypeDesc}{x y:AV}{e:Bool}(he:eqT dd x y=some e){t:TypeId}(hu:P.underlying t=some dd){x' y':Value}(hrx:VR ρ x x')(hry:VR ρ y y'){d:Nat}(w:World) :
  (Op.equalIn (d+1) t x' y').run P w = .ok e w:=by
 unfold eqT at he
 split at he
 ·cases he;simp only [VR] at hrx hry;subst hrx;subst hry;simp only [Op.equalIn,Sem.run_bind,run_underlying hu,Result.andThen_ok,Sem.run_pure,Option.isNone_none,Option.isNone_some]
 ·split at he
  ·rename_i hk;cases he;simp only [VR] at hrx hry;subst hrx;subst hry;simp [Op.equalIn,run_underlying hu,hk]
  ·cases he
 ·cases he;simp only [VR] at hrx hry;subst hrx;subst hry;simp [Op.equalIn,run_underlying hu,beq_toListBytes,ByteArray.toList_mk]
 ·cases he
theorem GW {d:Nat}{xs ys:List AV}{xs' ys':Array Value}(hx:VRL ρ xs xs'.toList)(hy:VRL ρ ys ys'.toList):∀ {fs:List Field} {b:Bool},eqFields P fs xs ys=some b→
  ∀ w,(Op.eqFields (d+1) xs' ys' fs).run P w = .ok b w
 | [],b,h,w=>by simp only [eqFields,Option.some.injEq] at h;subst h;rfl
 | f::fs,b,h,w=>by
  simp only [eqFields] at h
  split at h
  ·rename_i hn
   split at h
   ·rename_i dd x y hu hxo hyo
    simp only [Option.bind_eq_some_iff] at h
    obtain⟨e,he,h⟩:=h
    obtain⟨x',hx',hrx⟩:=hx.get _ _ hxo
    obtain⟨y',hy',hry⟩:=hy.get _ _ hyo
    have ex:xs'[f.offset]?=some x':=by simpa using hx'
    have ey:ys'[f.offset]?=some y':=by simpa using hy'
    have hag:isAggA P f.type=false:=by
     unfold isAggA;rw [hu]
     unfold eqT at he
     split at he<;>simp_all
    have hus:(P.underlying f.type).isSome:=by rw [hu];rfl
    have px:(part f.type xs' f.offset).run P w = .ok x' w:=by simp [part,E9 f.type w hus,hag,ex]
    have py:(part f.type ys' f.offset).run P w = .ok y' w:=by simp [part,E9 f.type w hus,hag,ey]
    have heq:(Op.equalIn (d+1) f.type x' y').run P w = .ok e w:=PS he hu hrx hry w
    simp only [Op.eqFields]
    rw [if_pos hn]
    simp only [Sem.run_bind,px,py,heq,Result.andThen_ok]
    cases e
    ·simp at h;subst h;simp
    ·simp at h;simp;exact GW hx hy h w
   ·cases h
  ·rename_i hn
   simp only [Op.eqFields]
   rw [if_neg hn]
   exact GW hx hy h w
set_option maxHeartbeats 4000000 in
theorem MU (d:Nat){t:TypeId}{x y:AV}{x' y':Value}{b:Bool}(h:eqA P t x y=some b)(hx:VR ρ x x')(hy:VR ρ y y')(w:World) :
  (Op.equalIn (d+1+1) t x' y').run P w = .ok b w:=by
 unfold eqA at h
 split at h
 ·rename_i hu;cases h;simp only [VR] at hx hy;subst hx;subst hy;simp only [Op.equalIn,Sem.run_bind,run_underlying hu,Result.andThen_ok,Sem.run_pure,Option.isNone_none,Option.isNone_some]
 ·rename_i p hu
  cases h;simp only [VR] at hx;subst hx
  cases p with
  | none=>simp only [VR] at hy;subst hy;simp only [Op.equalIn,Sem.run_bind,run_underlying hu,Result.andThen_ok,Sem.run_pure,Option.isNone_none,Option.isNone_some]
  | some p=>simp only [VR] at hy;obtain⟨_,_,_,_,rfl⟩:=hy;simp only [Op.equalIn,Sem.run_bind,run_underlying hu,Result.andThen_ok,Sem.run_pure,Option.isNone_none,Option.isNone_some]
 ·rename_i hu
  cases h;simp only [VR] at hx hy;obtain⟨_,_,_,_,rfl⟩:=hx;subst hy;simp only [Op.equalIn,Sem.run_bind,run_underlying hu,Result.andThen_ok,Sem.run_pure,Option.isNone_none,Option.isNone_some]
 ·rename_i p _ c hu
  cases h;simp only [VR] at hx;obtain⟨_,_,rfl⟩:=hx
  cases p with
  | none=>simp only [VR] at hy;obtain⟨_,_,rfl⟩:=hy;simp only [Op.equalIn,Sem.run_bind,run_underlying hu,Result.andThen_ok,Sem.run_pure,Option.isNone_none,Option.isNone_some]
  | some p=>
   cases c with
   | ex c=>simp only [VR] at hy;obtain⟨_,_,_,_,rfl⟩:=hy;simp only [Op.equalIn,Sem.run_bind,run_underlying hu,Result.andThen_ok,Sem.run_pure,Option.isNone_none,Option.isNone_some]
   | un c=>simp only [VR] at hy;obtain⟨_,_,_,_,_,_,rfl,_⟩:=hy;simp only [Op.equalIn,Sem.run_bind,run_underlying hu,Result.andThen_ok,Sem.run_pure,Option.isNone_none,Option.isNone_some]
 ·rename_i p _ c _ _ hu
  cases h;simp only [VR] at hy;obtain⟨_,_,rfl⟩:=hy
  cases c with
  | ex c=>simp only [VR] at hx;obtain⟨_,_,_,_,rfl⟩:=hx;simp only [Op.equalIn,Sem.run_bind,run_underlying hu,Result.andThen_ok,Sem.run_pure,Option.isNone_none,Option.isNone_some]
  | un c=>simp only [VR] at hx;obtain⟨_,_,_,_,_,_,rfl,_⟩:=hx;simp only [Op.equalIn,Sem.run_bind,run_underlying hu,Result.andThen_ok,Sem.run_pure,Option.isNone_none,Option.isNone_some]
 ·rename_i p hu
  cases h;simp only [VR] at hx;subst hx
  cases p with
  | none=>simp only [VR] at hy;subst hy;simp only [Op.equalIn,Sem.run_bind,run_underlying hu,Result.andThen_ok,Sem.run_pure,Option.isNone_none,Option.isNone_some]
  | some p=>simp only [VR] at hy;obtain⟨_,_,_,_,rfl⟩:=hy;simp only [Op.equalIn,Sem.run_bind,run_underlying hu,Result.andThen_ok,Sem.run_pure,Option.isNone_none,Option.isNone_some]
 ·rename_i hu
  cases h;simp only [VR] at hx hy;obtain⟨_,_,_,_,rfl⟩:=hx;subst hy;simp only [Op.equalIn,Sem.run_bind,run_underlying hu,Result.andThen_ok,Sem.run_pure,Option.isNone_none,Option.isNone_some]
 ·rename_i hu;cases h;simp only [VR] at hx hy;subst hx;subst hy;simp only [Op.equalIn,Sem.run_bind,run_underlying hu,Result.andThen_ok,Sem.run_pure,Option.isNone_none,Option.isNone_some]
 ·rename_i hu;cases h;simp only [VR] at hx hy;obtain⟨_,_,rfl,_⟩:=hx;subst hy;simp only [Op.equalIn,Sem.run_bind,run_underlying hu,Result.andThen_ok,Sem.run_pure,Option.isNone_none,Option.isNone_some]
 ·rename_i hu;cases h;simp only [VR] at hx hy;subst hx;obtain⟨_,rfl,_⟩:=hy;simp only [Op.equalIn,Sem.run_bind,run_underlying hu,Result.andThen_ok,Sem.run_pure,Option.isNone_none,Option.isNone_some]
 ·rename_i hu;cases h;simp only [VR] at hx hy;obtain⟨_,rfl,_⟩:=hx;subst hy;simp only [Op.equalIn,Sem.run_bind,run_underlying hu,Result.andThen_ok,Sem.run_pure,Option.isNone_none,Option.isNone_some]
 ·rename_i fs xs ys hu
  split at h
  ·cases h
  ·rename_i hst
   simp only [VR] at hx hy
   obtain⟨xs',rfl,hx⟩:=hx
   obtain⟨ys',rfl,hy⟩:=hy
   have hfo:P.fieldsOf t=fs:=by simp [Program.fieldsOf,hu]
   rw [run_equalIn_struct w (d+1) t xs' ys' (by rw [hfo];exact hu) (by simpa using hst),hfo]
   exact GW hx hy h w
 ·cases h
theorem KP {t:TypeId}{x y:AV}{x' y':Value}{b:Bool}(h:eqA P t x y=some b)(hx:VR ρ x x')(hy:VR ρ y y')(w:World) :
  (Op.equal t x' y').run P w = .ok b w:=MU 9998 h hx hy w
theorem JW {t:TypeId}{x y:Value}(h:∀ k a k' b,x = .int k a→y = .int k' b→False)(h2:∀ a b,x = .string a→y = .string b→False)(h3:∀ k a k' b,x = .float k a→y = .float k' b→False)
  (h4:∀ k a b k' c d,x = .complex k a b→y = .complex k' c d→False) :
  binOp .eql t x y=(do pure (.bool (← Op.equal t x y)):Sem Value)∧binOp .neq t x y=(do pure (.bool (!(← Op.equal t x y))):Sem Value):=by
 cases x<;>cases y<;>first
  | exact⟨rfl,rfl⟩
  | exact(h _ _ _ _ rfl rfl).elim
  | exact(h2 _ _ rfl rfl).elim
  | exact(h3 _ _ _ _ rfl rfl).elim
  | exact(h4 _ _ _ _ _ _ rfl rfl).elim
theorem My {op:BinOp}{t:TypeId}{x y:Operand}{a b:Value}(h : ¬ (a = .nilIface∧b = .nilIface))(h2:∀ l m,a = .agg l→b = .agg m→P.eqGuardType P.depth t=false)(w:World) :
  (eqGuard op t x y a b).run P w = .ok () w:=by
 cases op<;>first
  | rfl
  | (cases a<;>cases b<;>first
    | rfl
    | exact(h ⟨rfl,rfl⟩).elim
    | exact run_eqGuard_agg w _ t x y _ _ (h2 _ _ rfl rfl))
theorem VR.not_nilIface {a:AV}{v:Value}(h:VR ρ a v)(hb:a≠.bot)(hn:a≠.nilIfc):v≠.nilIface:=by
 rintro rfl
 cases a with
 | bool b=>simp [VR] at h
 | int k n=>simp [VR] at h
 | str s=>simp [VR] at h
 | ptr p=>cases p<;>simp [VR] at h
 | sl p n c=>cases p<;>cases c<;>simp [VR] at h
 | mp p=>cases p<;>simp [VR] at h
 | fn f x y=>simp [VR] at h
 | nilFn=>simp [VR] at h
 | ifc t x=>simp [VR] at h
 | nilIfc=>exact hn rfl
 | agg l=>simp [VR] at h
 | tup l=>simp [VR] at h
 | bot=>exact hb rfl
theorem VR.agg_inv {a:AV}{l:Array Value}(h:VR ρ a (.agg l))(hb:a≠.bot):∃ m,a = .agg m:=by
 cases a with
 | bool b=>simp [VR] at h
 | int k n=>simp [VR] at h
 | str s=>simp [VR] at h
 | ptr p=>cases p<;>simp [VR] at h
 | sl p n c=>cases p<;>cases c<;>simp [VR] at h
 | mp p=>cases p<;>simp [VR] at h
 | fn f x y=>simp [VR] at h
 | nilFn=>simp [VR] at h
 | ifc t x=>simp [VR] at h
 | nilIfc=>simp [VR] at h
 | agg l=>exact⟨l,rfl⟩
 | tup l=>simp [VR] at h
 | bot=>exact absurd rfl hb
theorem Pf {t:TypeId}{x y:AV}{x' y':Value}{b:Bool}(h:eqA P t x y=some b)(hx:VR ρ x x')(hy:VR ρ y y') :
  (∀ k a k' b,x' = .int k a→y' = .int k' b→False)∧(∀ a b,x' = .string a→y' = .string b→False)∧(∀ k a k' b,x' = .float k a→y' = .float k' b→False)∧
  (∀ k a b k' c d,x' = .complex k a b→y' = .complex k' c d→False):=by
 have key:(∀ k a,x'≠.int k a)∧(∀ a,x'≠.string a)∧(∀ k a,x'≠.float k a)∧(∀ k a b,x'≠.complex k a b):=by
  unfold eqA at h
  split at h
  ·simp only [VR] at hx;subst hx;simp
  ·simp only [VR] at hx;subst hx;simp
  ·simp only [VR] at hx;obtain⟨_,_,_,_,rfl⟩:=hx;simp
  ·simp only [VR] at hx;obtain⟨_,_,rfl⟩:=hx;simp
  ·rename_i p _ c _ _ hu
   cases c with
   | ex c=>simp only [VR] at hx;obtain⟨_,_,_,_,rfl⟩:=hx;simp
   | un c=>simp only [VR] at hx;obtain⟨_,_,_,_,_,_,rfl,_⟩:=hx;simp
  ·simp only [VR] at hx;subst hx;simp
  ·simp only [VR] at hx;obtain⟨_,_,_,_,rfl⟩:=hx;simp
  ·simp only [VR] at hx;subst hx;simp
  ·simp only [VR] at hx;obtain⟨_,_,rfl,_⟩:=hx;simp
  ·simp only [VR] at hx;subst hx;simp
  ·simp only [VR] at hx;obtain⟨_,rfl,_⟩:=hx;simp
  ·simp only [VR] at hx;obtain⟨_,rfl,_⟩:=hx;simp
  ·cases h
 exact⟨fun k a _ _ e _=>key.1 k a e,fun a _ e _=>key.2.1 a e,fun k a _ _ e _=>key.2.2.1 k a e,fun k a b _ _ _ e _=>key.2.2.2 k a b e⟩
theorem OV {op:BinOp}{t:TypeId}{x y v:AV}{x' y':Value}(h:binA P op t x y=some v)(hx:VR ρ x x')(hy:VR ρ y y') :
  ∃ v',VR ρ v v'∧∀ w,(binOp op t x' y').run P w = .ok v' w:=by
 unfold binA at h
 split at h
 ·simp only [VR] at hx hy;subst hx;subst hy;exact JY h t
 ·simp only [VR] at hx hy;subst hx;subst hy;exact JY h t
 ·rename_i k a k' b hs hr
  split at h
  ·rename_i hk;subst hk
   simp only [VR] at hx hy;subst hx;subst hy
   exact Mn h hs hr t
  ·cases h
 ·simp only [VR] at hx hy;subst hx;subst hy;exact Mg h t
 ·simp only [Option.map_eq_some_iff] at h
  obtain⟨b,hb,rfl⟩:=h
  refine⟨.bool b,by simp only [VR],fun w=>?_⟩
  obtain⟨n1,n2,n3,n4⟩:=Pf hb hx hy
  rw [(JW n1 n2 n3 n4).1]
  simp only [Sem.run_bind,KP hb hx hy,Result.andThen_ok,Sem.run_pure]
 ·simp only [Option.map_eq_some_iff] at h
  obtain⟨b,hb,rfl⟩:=h
  refine⟨.bool !b,by simp only [VR],fun w=>?_⟩
  obtain⟨n1,n2,n3,n4⟩:=Pf hb hx hy
  rw [(JW n1 n2 n3 n4).2]
  simp only [Sem.run_bind,KP hb hx hy,Result.andThen_ok,Sem.run_pure]
 ·cases h
end
end Go.Ab
