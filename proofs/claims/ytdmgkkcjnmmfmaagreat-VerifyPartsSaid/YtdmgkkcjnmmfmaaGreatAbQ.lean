import Derived.Test.YtdmgkkcjnmmfmaaGreatAbW
namespace Go.Ab
open Go
set_option linter.all false
noncomputable section
theorem VR.flat {ρ ρ':Rho}{a:AV}{v:Value}(hf:flatV a=true)(h:VR ρ a v):VR ρ' a v:=by
 cases a<;>simp [flatV] at hf<;>simpa only [VR] using h
structure Base (P:Program)(h0:Heap):Prop where
 ro:∀ i b,h0.get i=some b→∃ vs,b = .cells false vs∧vs.all flatV=true
 bnd:∀ i b,h0.get i=some b→i<h0.next
 glob:P.globals.size≤h0.next
def Sub (h0 h:Heap):Prop:=∀ i b,h0.get i=some b→h.get i=some b
section
variable {P:Program}
theorem R.sub {ρ:Rho}{h0 h:Heap}{w:World}(hr:R P ρ h w)(hB:Base P h0)(hs:Sub h0 h):R P (fun i=>if i<h0.next then ρ i else none) h0 w:=by
 refine⟨fun i b hi=>?_,fun i j b b' _ _ _ _ hi hj _ _=>?_,fun i x hx=>?_,fun g hg=>?_⟩
 ·obtain⟨vs,rfl,hf⟩:=hB.ro i b hi
  have hlt:=hB.bnd i _ hi
  obtain⟨β,b,c,cs,e,fz,h1,h2,h3,h4,h5,h6⟩:=hr.blk i _ (hs i _ hi)
  refine⟨β,b,c,cs,e,fz,by simp [hlt,h1],h2,h3,h4,fun k a ha=>?_,h6⟩
  obtain⟨v,hv,hvr⟩:=h5 k a ha
  exact⟨v,hv,hvr.flat (List.all_eq_true.1 hf a (List.mem_of_getElem? ha))⟩
 ·obtain⟨vs,rfl,_⟩:=hB.ro i b hi
  obtain⟨us,rfl,_⟩:=hB.ro j b' hj
  exact⟨rfl,rfl⟩
 ·by_cases hlt:i<h0.next
  ·exact hlt
  ·simp [hlt] at hx
 ·obtain⟨c,hc⟩:=hr.glob g hg
  have:=hB.glob
  exact⟨c,by simp [show g<h0.next by omega,hc]⟩
open Classical in
def quiet (h0 h:Heap):Option (AV × Heap):=if Sub h0 h then some (.bool true,h) else none
theorem PG {h0 h:Heap}(hs:Sub h0 h):quiet h0 h=some (.bool true,h):=by unfold quiet;rw [if_pos hs]
theorem NR {L:Tab}(hL:CallOk P (lookT L)){f:FuncId}{g:Prim}(hR:CallOk P (lookT ((f,g)::L))){h0 g0:Heap}(hB:Base P h0)(hc:g [] h0=some (.bool true,g0)) :
  CallOk P (lookT ((f,p0 (quiet h0))::L)):=by
 intro f' args h v h' hx
 change (bif Nat.beq f f' then p0 (quiet h0) args h else lookT L f' args h)=some (v,h') at hx
 by_cases hf:Nat.beq f f'=true
 ·rw [hf,cond_true] at hx
  have hf':f=f':=Nat.eq_of_beq_eq_true hf
  subst hf'
  obtain⟨rfl,hs,rfl,rfl⟩:args = []∧Sub h0 h∧v = .bool true∧h'=h:=by
   unfold p0 at hx
   split at hx
   ·unfold quiet at hx
    split at hx
    ·rename_i hs;cases hx;exact⟨rfl,hs,rfl,rfl⟩
    ·cases hx
   ·cases hx
  have hrun:lookT ((f,g)::L) f [] h0=some (.bool true,g0):=by
   change (bif Nat.beq f f then g [] h0 else _)=_
   rw [hf,cond_true];exact hc
  obtain⟨hfn,hcall⟩:=hR f [] h0 _ _ hrun
  refine⟨hfn,fun ρ w args' hr hargs=>?_⟩
  refine(hcall _ w args' (hr.sub hB hs) (by simp only [VRL] at hargs ⊢;exact hargs)).mono ?_
  rintro e w' ⟨v',ρ',rfl,hv,hst⟩
  simp only [VR] at hv
  subst hv
  have old:∀ β,β<w.heap.size→w'.heap[β]?=w.heap[β]?:=fun β hβ=>hst.keeps.old β hβ fun i b x hi hw _=>by
   obtain⟨vs,rfl,_⟩:=hB.ro i b hi
   cases hw
  refine⟨_,ρ,rfl,by simp only [VR],⟨⟨fun i b hi=>(hr.blk i b hi).same fun β x hx=>?_,hr.inj,hr.bnd,hr.glob⟩,ρ.le_refl,⟨hst.keeps.size,fun β hβ _=>old β hβ,hst.keeps.tape,hst.keeps.os,hst.keeps.output⟩,Nat.le_refl _,fun _ _ h=>h,(fun i x h h'=>by rw [h] at h';cases h'),fun i b β x hi hx _=>⟨i,b,x,hi,hx,id⟩⟩⟩
  obtain⟨β',y,h1,h2⟩:=(hr.blk i b hi).at
  rw [hx] at h1
  cases h1
  exact old β h2
 ·rw [Bool.not_eq_true] at hf
  rw [hf,cond_false] at hx
  exact hL f' args h v h' hx
theorem MS {L:Tab}(hL:CallOk P (lookT L)){f:FuncId}{F G:Heap→Option (AV × Heap)}(hR:CallOk P (lookT ((f,p0 F)::L))){h0 g0:Heap}(hB:Base P h0)(hc:F h0=some (.bool true,g0))(hG:G=quiet h0) :
  CallOk P (lookT ((f,p0 G)::L)):=by
 subst hG
 exact NR (g:=p0 F) hL hR hB hc
end
end
end Go.Ab
namespace Go.Ab
open Go
noncomputable section
def hQ0:Heap:=⟨0,.nil⟩
theorem base0 {P:Program}(hg:P.globals.size=0):Base P hQ0:=
 ⟨(fun i b hi=>by cases hi),(fun i b hi=>by cases hi),by rw [hg];exact Nat.le_refl 0⟩
end
end Go.Ab
