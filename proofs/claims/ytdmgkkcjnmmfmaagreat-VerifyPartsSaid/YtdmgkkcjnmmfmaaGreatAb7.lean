import Derived.Test.YtdmgkkcjnmmfmaaGreatAb6
namespace Go.Ab
open Go
set_option linter.all false
section
variable {P:Program}{ρ:Rho}{fr:Fr}{a:Act}{h:Heap}{w:World}
def Rho.add (ρ:Rho)(i:Nat)(x:Nat × Nat × Nat):Rho:=fun j=>if j=i then some x else ρ j
theorem Rho.le_add {i:Nat}(hi:ρ i=none)(x:Nat × Nat × Nat):ρ.le (ρ.add i x):=fun j y hy=>by
 by_cases e:j=i
 ·subst e;rw [hi] at hy;cases hy
 ·simp [Rho.add,e,hy]
theorem Rho.add_at (i:Nat)(x:Nat × Nat × Nat):ρ.add i x i=some x:=by simp [Rho.add]
theorem KM {z:AV}{zv:Value}(hz:VRL ρ z.cells zv.cells.toList)(n:Nat)(m:Nat)(hm:m=n*z.cells.length) :
  VRL ρ (rep z.cells n) ((Array.range m).map (fun i=>zv.cells[i % zv.cells.size]!)).toList:=by
 have hl:=hz.length
 simp at hl
 refine VRL.of_get (by simp [I8,hm]) fun k v hk=>?_
 have hlt:k<m:=by have:=(List.getElem?_eq_some_iff.1 hk).1;rw [I8] at this;omega
 have hpos:0<z.cells.length:=by
  rcases Nat.eq_zero_or_pos z.cells.length with h0 | h0
  ·rw [hm,h0] at hlt;simp at hlt
  ·exact h0
 rw [O4 _ hpos _ _ (by omega)] at hk
 obtain⟨u,hu,hv⟩:=hz.get _ _ hk
 refine⟨u,?_,hv⟩
 have hu':zv.cells[k % zv.cells.size]?=some u:=by rw [← hl];simpa using hu
 simp only [Array.getElem?_toList,Array.getElem?_map,Array.getElem?_range]
 simp [hlt,hu',getElem!_def]
theorem KR (hr:R P ρ h w)(hf:FR ρ fr a.tmps){o:Oper}{b:Blk}{f:Nat→AV}(hm:makeA P o fr=some (b,f)){i:Nat}(hi:ρ i=none) :
  ∃ obj v' x,(execOp a.eval o).run P w = .ok (.value v') (w.alloc obj)∧BR (ρ.add i (w.heap.size,x)) (w.alloc obj) i b∧VR (ρ.add i (w.heap.size,x)) (f i) v'∧b.wr=true:=by
 have hg:=hr.glob
 obtain⟨dst,op,type,pos,after,guard⟩:=o
 unfold makeA at hm
 split at hm
 case h_1 t ho=>
  simp only at ho;subst ho
  simp only [Option.map_eq_some_iff] at hm
  obtain⟨z,hz,he⟩:=hm
  cases he
  obtain⟨inf,zv,hinfo,hzero,_,_,hcells⟩:=En (ρ:=ρ) hz
  refine⟨.cells zv.cells t,.pointer (some ⟨w.heap.size,0,none⟩),(0,zv.cells.size),?_,BR.fresh (Rho.le_add hi _) hcells (Rho.add_at _ _),?_,rfl⟩
  ·simp [execOp,Instr.alloc,zeroValue,typeInfo,hinfo,hzero,newVar,newRow]
  ·simp only [VR];exact⟨_,_,_,Rho.add_at _ _,rfl⟩
 case h_2 t x ho=>
  simp only at ho;subst ho
  simp only [Option.bind_eq_some_iff] at hm
  obtain⟨u,hu,hm⟩:=hm
  split at hm
  ·rename_i hs
   cases hm
   have hu':=BQ hg hf hu
   refine⟨.cells (a.eval x).cells t,.pointer (some ⟨w.heap.size,0,none⟩),(0,(a.eval x).cells.size),?_,BR.fresh (Rho.le_add hi _) (hu'.cells hs) (Rho.add_at _ _),?_,rfl⟩
   ·simp [execOp,Instr.box,newVar,newRow]
   ·simp only [VR];exact⟨_,_,_,Rho.add_at _ _,rfl⟩
  ·cases hm
 case h_3 t len parts ho=>
  simp only at ho;subst ho
  simp only [Option.bind_eq_some_iff] at hm
  obtain⟨e,he,n,hn,z,hz,ps,hps,hm⟩:=hm
  split at hm
  ·cases hm
  ·rename_i hno
   simp only [not_or,Nat.not_lt,Decidable.not_not] at hno
   simp only [Option.bind_eq_some_iff] at hm
   obtain⟨cs,hcs,hm⟩:=hm
   split at hm
   ·cases hm
    obtain⟨inf,zv,hinfo,hzero,_,_,hcells⟩:=En (ρ:=ρ) hz
    obtain⟨h1,h2⟩:=HB hg hf hps
    obtain⟨acs',hfill,hr'⟩:=H6 (parts':=(parts.map fun(i,x)=>(i,a.eval x)).toList) (fun _=>rfl) hcs (KM hcells len (len*n) (by rw [hno.2])) (by rw [h1];simp) (by simpa [Function.comp_def] using h2)
    refine⟨.cells acs' e,.slice (some ⟨w.heap.size,0,none⟩) len len,(0,acs'.size),?_,BR.fresh (Rho.le_add hi _) hr' (Rho.add_at _ _),?_,rfl⟩
    ·have hle : ¬ (len*n > 2 ^ 24):=by omega
     have hu:=run_underlying (HJ he) w
     by_cases h0:len*n=0
     ·have hfill':Instr.fill (fun i=>some (i*n,n)) ((Array.range (len*n)).map (fun x=>(#[]:Array Value)[x % (#[]:Array Value).size]!)) (parts.map fun(i,x)=>(i,a.eval x)).toList=some acs':=by
       have hr0:Array.range 0 = #[]:=rfl
       rw [← hfill,h0,hr0];simp
      simp only [execOp,Instr.buildSlice,Sem.run_bind,hu,Result.andThen_ok,DU hn,if_neg hle,if_pos h0,Sem.run_pure,hfill',newRow,run_newObj]
      rfl
     ·have hz0:(zeroValue e).run P w = .ok zv w:=by simp [zeroValue,typeInfo,hinfo,hzero]
      simp only [execOp,Instr.buildSlice,Sem.run_bind,hu,Result.andThen_ok,DU hn,if_neg hle,if_neg h0,hz0,Sem.run_pure,hfill,newRow,run_newObj]
      rfl
    ·simp only [VR];exact⟨_,_,_,Rho.add_at _ _,rfl⟩
   ·cases hm
 case h_4 t l c ho=>
  simp only at ho;subst ho
  simp only [Option.bind_eq_some_iff] at hm
  obtain⟨la,hla,ca,hca,hm⟩:=hm
  split at hm
  ·rename_i k x k' y
   simp only [Option.bind_eq_some_iff] at hm
   obtain⟨e,he,n,hn,by_,hby,z,hz,hm⟩:=hm
   split at hm
   ·rename_i hc
    cases hm
    obtain⟨inf,zv,hinfo,hzero,_,_,hcells⟩:=En (ρ:=ρ) hz
    have hsz:inf.size=n:=by
     obtain⟨j,hj,hj2⟩:=Gy hn
     rw [hinfo] at hj;cases hj;exact hj2
    have hbb:inf.bytes=by_:=by
     simp only [bytesA,hinfo,Option.map_some,Option.some.injEq] at hby;exact hby
    have hl':=BQ hg hf hla
    have hc':=BQ hg hf hca
    simp only [VR] at hl' hc'
    obtain⟨h0,h1,h2,h3,h4⟩:=hc
    have hrun:=run_make (P:=P) w t e inf zv (HJ he) hinfo hzero k k' x y h0 h1 (by rw [hbb];omega) (by omega)
    refine⟨.cells (madeCells zv.cells (y.toNat*inf.size)) e,.slice (some ⟨w.heap.size,0,none⟩) x.toNat y.toNat,(0,(madeCells zv.cells (y.toNat*inf.size)).size),by simp [execOp,hl',hc',hrun],BR.fresh (Rho.le_add hi _) (KM hcells y.toNat _ (by rw [h4,hsz])) (Rho.add_at _ _),?_,rfl⟩
    simp only [VR];exact⟨_,_,_,Rho.add_at _ _,rfl⟩
   ·cases hm
  ·cases hm
 case h_5 t ho=>
  simp only at ho;subst ho
  cases hm
  refine⟨.map #[] 0,.map (some w.heap.size),(0,0),?_,?_,?_,rfl⟩
  ·simp [execOp,Instr.makeMap]
  ·exact⟨w.heap.size,0,0,#[],0,Rho.add_at _ _,heap_alloc_new w _,rfl,Born.nil _⟩
  ·simp only [VR];exact⟨_,_,_,Rho.add_at _ _,rfl⟩
 case h_6=>cases hm
end
end Go.Ab
