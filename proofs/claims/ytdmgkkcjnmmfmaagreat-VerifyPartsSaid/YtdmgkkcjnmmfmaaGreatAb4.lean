import Derived.Test.YtdmgkkcjnmmfmaaGreatAb3
namespace Go.Ab
open Go
set_option linter.all false
section
variable {P:Program}{ρ:Rho}
theorem Ow {op:UnOp}{x v:AV}{x':Value}(h:unA op x=some v)(hx:VR ρ x x'):∃ v',VR ρ v v'∧∀ w,(Op.unary op x').run P w = .ok v' w:=by
 unfold unA at h
 split at h
 ·simp only [intBin] at h;cases h;simp only [VR] at hx;subst hx;exact⟨_,by simp only [VR];rfl,fun w=>by simp [Op.unary,Op.intArith]⟩
 ·simp only [intBin] at h;cases h;simp only [VR] at hx;subst hx;exact⟨_,by simp only [VR];rfl,fun w=>by simp [Op.unary,Op.intBits]⟩
 ·cases h;simp only [VR] at hx;subst hx;exact⟨_,by simp only [VR];rfl,fun w=>by simp [Op.unary]⟩
 ·cases h
theorem Gh (β b n:Nat):(⟨β,b,none⟩:Addr).add n=⟨β,b+n,none⟩:=by
 unfold Addr.add
 split
 ·rename_i h;subst h;rfl
 ·rfl
theorem Dd {x:AV}{x':Value}{y n:Nat}(h:boundA x y=some n)(hx:VR ρ x x'){y':Nat}(hy:y≤y')(code:BoundsCode):n≤y∧∀ w,(Instr.sliceBound x' y' code).run P w = .ok n w:=by
 unfold boundA at h
 split at h
 ·rename_i k i
  split at h
  ·rename_i hc
   cases h
   simp only [VR] at hx;subst hx
   refine⟨by omega,fun w=>run_sliceBound w k i y' code hc.1 (by omega)⟩
  ·cases h
 ·cases h
def OR (ρ:Rho)(x:Option AV)(x':Option Value):Prop:=
 match x with
 | none=>x'=none
 | some v=>∃ v',x'=some v'∧VR ρ v v'
theorem Fw {lo:Option AV}{lo':Option Value}{l h:Nat}(hl:lowA lo h=some l)(r:OR ρ lo lo')(m:Nat)(code:BoundsCode)(w:World) :
  l≤h∧(match (generalizing:=false) lo' with
   | some v=>do
    let l ← Instr.sliceBound v h code
    pure (l,h,m)
   | none=>do
    let l ← pure 0
    pure (l,h,m):Sem (Nat × Nat × Nat)).run P w = .ok (l,h,m) w:=by
 cases lo with
 | none=>simp only [OR] at r;subst r;simp only [lowA,Option.some.injEq] at hl;subst hl;exact⟨Nat.zero_le _,rfl⟩
 | some v=>
  simp only [OR] at r;obtain⟨v',rfl,hv⟩:=r
  have:=Dd (P:=P) hl hv (Nat.le_refl _)
  exact⟨(this .index).1,by simp only [Sem.run_bind,(this _).2,Result.andThen_ok,Sem.run_pure]⟩
theorem O6 {len cap:Nat}{lo hi mx:Option AV}{lo' hi' mx':Option Value}{l h m:Nat}
  (hm:mostA mx cap=some m) (hh:highA hi mx m len=some h) (hl:lowA lo h=some l)
  (rl:OR ρ lo lo') (rh:OR ρ hi hi') (rm:OR ρ mx mx') (b:Bool) (w:World) :
  (Instr.sliceBounds b len cap lo' hi' mx').run P w = .ok (l,h,m) w:=by
 unfold Instr.sliceBounds
 cases mx with
 | none=>
  simp only [OR] at rm;subst rm
  simp only [mostA,Option.some.injEq] at hm;subst hm
  simp only [Sem.run_bind,Sem.run_pure,Result.andThen_ok,Option.isSome_none]
  cases hi with
  | none=>
   simp only [OR] at rh;subst rh
   simp only [highA,Option.some.injEq] at hh;subst hh
   simp only [Sem.run_bind,Sem.run_pure,Result.andThen_ok]
   exact(Fw hl rl _ _ w).2
  | some u=>
   simp only [OR] at rh;obtain⟨u',rfl,hu⟩:=rh
   simp only [highA] at hh
   simp only [Sem.run_bind,(Dd (P:=P) hh hu (Nat.le_refl _) _).2,Result.andThen_ok]
   exact(Fw hl rl _ _ w).2
 | some z=>
  simp only [OR] at rm;obtain⟨z',rfl,hz⟩:=rm
  simp only [mostA] at hm
  simp only [Sem.run_bind,(Dd (P:=P) hm hz (Nat.le_refl _) _).2,Result.andThen_ok,Option.isSome_some]
  cases hi with
  | none=>simp [highA] at hh
  | some u=>
   simp only [OR] at rh;obtain⟨u',rfl,hu⟩:=rh
   simp only [highA] at hh
   simp only [Sem.run_bind,(Dd (P:=P) hh hu (Nat.le_refl _) _).2,Result.andThen_ok]
   exact(Fw hl rl _ _ w).2
theorem Ms {len cap:Nat}(hle:len≤cap){lo hi:Option AV}{lo' hi':Option Value}{l h:Nat}
  (hh:highA hi none len len=some h) (hl:lowA lo h=some l) (rl:OR ρ lo lo') (rh:OR ρ hi hi') (b:Bool) (w:World) :
  h≤len∧(Instr.sliceBounds b len cap lo' hi' none).run P w = .ok (l,h,cap) w:=by
 unfold Instr.sliceBounds
 simp only [Sem.run_bind,Sem.run_pure,Result.andThen_ok,Option.isSome_none]
 cases hi with
 | none=>
  simp only [OR] at rh;subst rh
  simp only [highA,Option.some.injEq] at hh;subst hh
  simp only [Sem.run_bind,Sem.run_pure,Result.andThen_ok]
  exact⟨Nat.le_refl _,(Fw hl rl _ _ w).2⟩
 | some u=>
  simp only [OR] at rh;obtain⟨u',rfl,hu⟩:=rh
  simp only [highA] at hh
  simp only [Sem.run_bind,(Dd (P:=P) hh hu hle _).2,Result.andThen_ok]
  exact⟨(Dd (P:=P) hh hu hle .index).1,(Fw hl rl _ _ w).2⟩
theorem Le {t e:TypeId}{size:Nat}(hu:P.underlying t=some (.slice e))(hs:sizeA P e=some size){p:Option (Nat × Nat)}{len cap:Nat}{lo hi mx:Option AV}{lo' hi' mx':Option Value}{x':Value}{v:AV}
  (h:sliceEx size p len cap lo hi mx=some v) (hx:VR ρ (.sl p len (.ex cap)) x') (rl:OR ρ lo lo') (rh:OR ρ hi hi') (rm:OR ρ mx mx') :
  ∃ v',VR ρ v v'∧∀ w,(Instr.sliceAt t x' lo' hi' mx').run P w = .ok v' w:=by
 simp only [sliceEx,Option.bind_eq_some_iff] at h
 obtain⟨m,hm,h₁,hh,l,hl,hv⟩:=h
 have hv:=Option.some.inj hv
 subst hv
 have hb:=fun b w=>O6 (P:=P) (len:=len) hm hh hl rl rh rm b w
 cases p with
 | none=>
  simp only [VR] at hx
  obtain⟨h0,hc,rfl⟩:=hx
  cases hc
  subst h0
  have hm0:m=0:=by
   cases mx with
   | none=>simpa [mostA] using hm.symm
   | some z=>simp only [OR] at rm;obtain⟨z',_,hz⟩:=rm;have:=(Dd (P:=P) hm hz (Nat.le_refl _) .index).1;omega
  subst hm0
  have hh0:h₁=0:=by
   cases hi with
   | none=>cases mx<;>simp [highA] at hh;exact hh.symm
   | some z=>simp only [OR] at rh;obtain⟨z',_,hz⟩:=rh;have:=(Dd (P:=P) hh hz (Nat.le_refl _) .index).1;omega
  subst hh0
  have hl0:l=0:=by have:=(Fw (P:=P) hl rl 0 .index default).1;omega
  subst hl0
  refine⟨.slice none 0 0,by simp [VR],fun w=>?_⟩
  simp only [Instr.sliceAt,Instr.slice,Sem.run_bind,run_underlying hu,Result.andThen_ok,hb,DU hs,Sem.run_pure]
  simp
 | some a=>
  simp only [VR] at hx
  obtain⟨β,b,c,hρ,rfl⟩:=hx
  refine⟨.slice (if m=l then some ⟨β,b+a.2,none⟩ else(some (⟨β,b+a.2,none⟩:Addr)).map (·.add (l*size))) (h₁-l) (m-l),?_,fun w=>?_⟩
  ·by_cases e:m=l
   ·simp only [e,if_true,VR];exact⟨β,b,c,hρ,rfl⟩
   ·simp only [e,if_false,VR,Option.map_some,Gh,addA];exact⟨β,b,c,hρ,by simp [Nat.add_assoc]⟩
  ·simp only [Instr.sliceAt,Instr.slice,Sem.run_bind,run_underlying hu,Result.andThen_ok,hb,DU hs,Sem.run_pure]
theorem LW {t e:TypeId}{size sz:Nat}(hu:P.underlying t=some (.slice e))(hs:sizeA P e=some size){p:Option (Nat × Nat)}{len:Nat}{lo hi mx:Option AV}{lo' hi' mx':Option Value}{x':Value}{v:AV}
  (h:sliceUn size sz p len lo hi mx=some v) (hx:VR ρ (.sl p len (.un sz)) x') (rl:OR ρ lo lo') (rh:OR ρ hi hi') (rm:OR ρ mx mx') :
  ∃ v',VR ρ v v'∧∀ w,(Instr.sliceAt t x' lo' hi' mx').run P w = .ok v' w:=by
 unfold sliceUn at h
 split at h
 ·cases h
 ·rename_i hsz
  have hsz:size=sz:=by simpa using hsz
  subst hsz
  cases mx with
  | some _=>cases h
  | none=>
   simp only [OR] at rm;subst rm
   simp only [Option.bind_eq_some_iff] at h
   obtain⟨h₁,hh,l,hl,hv⟩:=h
   have hv:=Option.some.inj hv
   subst hv
   cases p with
   | none=>simp [VR] at hx
   | some a=>
    simp only [VR] at hx
    obtain⟨β,b,c,cap,ad,hρ,rfl,hle,hc,had⟩:=hx
    have hb:=fun w=>Ms (P:=P) hle hh hl rl rh true w
    have hhle:=(hb default).1
    have hlle:=(Fw (P:=P) hl rl 0 .index default).1
    refine⟨.slice (if cap=l then some ad else(some ad).map (·.add (l*size))) (h₁-l) (cap-l),?_,fun w=>?_⟩
    ·simp only [Option.map_some,VR,addA]
     refine⟨β,b,c,cap-l,(if cap=l then ad else ad.add (l*size)),hρ,?_,by omega,?_,?_⟩
     ·by_cases e:cap=l<;>simp [e]
     ·have:cap*size=l*size+(cap-l)*size:=by rw [← Nat.add_mul];congr 1;omega
      omega
     ·by_cases e:cap=l
      ·exact .inl (by omega)
      ·refine .inr ?_
       rw [if_neg e,had.resolve_left (by omega),Gh,Nat.add_assoc]
    ·simp only [Instr.sliceAt,Instr.slice,Sem.run_bind,run_underlying hu,Result.andThen_ok,(hb _).2,DU hs,Sem.run_pure]
theorem Hp (s:List UInt8)(l h:Nat):(ByteArray.mk ⟨s⟩).extract l h=⟨⟨(s.take h).drop l⟩⟩:=by
 apply ByteArray.ext
 rw [ByteArray.data_extract]
 apply Array.toList_inj.1
 simp [List.drop_take]
theorem KF {s:TypeId}{fs:Array Field}(hu:P.underlying s=some (.struct fs)){f:Nat}{fd:Field}(hf:fs[f]?=some fd){n:Nat}(hn:sizeA P fd.type=some n)(h0:n≠0){p:Nat × Nat}{x':Value}
  (hx:VR ρ (.ptr (some p)) x'):∃ v',VR ρ (.ptr (some (addA p fd.offset))) v'∧∀ w,(Instr.fieldAt s x' f).run P w = .ok v' w:=by
 simp only [VR] at hx
 obtain⟨β,b,c,hρ,rfl⟩:=hx
 refine⟨.pointer (some ⟨β,b+p.2+fd.offset,none⟩),by simp only [VR,addA];exact⟨β,b,c,hρ,by simp [Nat.add_assoc]⟩,fun w=>?_⟩
 simp only [Instr.fieldAt,Sem.run_bind,run_underlying hu,Result.andThen_ok,hf,Instr.sureAddr,Sem.run_pure,fieldPlace,DU hn]
 rw [if_neg h0]
 simp [Gh]
theorem MA {t e:TypeId}(hu:P.underlying t=some (.slice e)){p:Nat × Nat}{len:Nat}{c:Cap}{k:IntKind}{n:Int}{s:Nat}(h:0≤n∧n<len)(hs:sizeA P e=some s){x':Value}
  (hx:VR ρ (.sl (some p) len c) x'):∃ v',VR ρ (.ptr (some (addA p (n.toNat*s)))) v'∧∀ w,(Instr.indexAt t x' (.int k n)).run P w = .ok v' w:=by
 have key:∃ β b c cap,ρ p.1=some (β,b,c)∧x' = .slice (some ⟨β,b+p.2,none⟩) len cap:=by
  cases c with
  | ex cap=>simp only [VR] at hx;obtain⟨β,b,c,hρ,rfl⟩:=hx;exact⟨β,b,c,cap,hρ,rfl⟩
  | un sz=>
   simp only [VR] at hx
   obtain⟨β,b,c,cap,ad,hρ,rfl,hle,hc,had⟩:=hx
   rcases had with h0 | rfl
   ·omega
   ·exact⟨β,b,c,cap,hρ,rfl⟩
 obtain⟨β,b,c',cap,hρ,rfl⟩:=key
 refine⟨.pointer (some ⟨β,b+p.2+n.toNat*s,none⟩),by simp only [VR,addA];exact⟨β,b,c',hρ,by simp [Nat.add_assoc]⟩,fun w=>?_⟩
 simp only [Instr.indexAt,asIntOf,Sem.run_bind,Sem.run_pure,run_underlying hu,Result.andThen_ok]
 rw [if_pos h]
 simp [DU hs,Gh]
theorem MG {t e:TypeId}{len:Nat}(hu:P.underlying t=some (.array len e)){p:Nat × Nat}{k:IntKind}{n:Int}{s:Nat}(h:0≤n∧n<len)(hs:sizeA P e=some s){x':Value}
  (hx:VR ρ (.ptr (some p)) x'):∃ v',VR ρ (.ptr (some (addA p (n.toNat*s)))) v'∧∀ w,(Instr.indexAt t x' (.int k n)).run P w = .ok v' w:=by
 simp only [VR] at hx
 obtain⟨β,b,c',hρ,rfl⟩:=hx
 refine⟨.pointer (some ⟨β,b+p.2+n.toNat*s,none⟩),by simp only [VR,addA];exact⟨β,b,c',hρ,by simp [Nat.add_assoc]⟩,fun w=>?_⟩
 simp only [Instr.indexAt,asIntOf,Sem.run_bind,Sem.run_pure,run_underlying hu,Result.andThen_ok,Instr.sureAddr]
 rw [if_pos h]
 simp [DU hs,Gh]
end
end Go.Ab
