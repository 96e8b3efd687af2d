import Derived.Test.YtdmgkkcjnmmfmaaGreatAb7
import Derived.Laws.AppendOwn
namespace Go.Ab
open Go
set_option linter.all false
section
variable {P:Program}{ρ:Rho}{fr:Fr}{a:Act}{h:Heap}{w:World}
structure RowSet (w w':World)(β:Nat)(cs':Array Value)(e:TypeId)(fz:Nat × Nat):Prop where
 row:w'.heap[β]?=some (.cells cs' e fz)
 other:∀ γ,γ≠β→w'.heap[γ]?=w.heap[γ]?
 size:w'.heap.size=w.heap.size
 tape:w'.tape=w.tape
 os:w'.os=w.os
 output:w'.output=w.output
theorem K3 {w:World}{β o:Nat}{cs:Array Value}{e:TypeId}{fz:Nat × Nat}(hb:w.heap[β]?=some (.cells cs e fz))(v:Value) :
  RowSet w (w.setCell ⟨β,o,none⟩ v) β (cs.setIfInBounds o v) e fz where
 row:=by simp [World.setCell,Array.getElem?_modify,hb]
 other:=fun γ hγ=>by simp [World.setCell,Array.getElem?_modify,Ne.symm hγ]
 size:=by simp
 tape:=rfl
 os:=rfl
 output:=rfl
theorem RowSet.trans {w w₁ w₂:World}{β:Nat}{c₁ c₂:Array Value}{e:TypeId}{fz:Nat × Nat}(h:RowSet w w₁ β c₁ e fz)(h':RowSet w₁ w₂ β c₂ e fz):RowSet w w₂ β c₂ e fz:=
 ⟨h'.row,fun γ hγ=>(h'.other γ hγ).trans (h.other γ hγ),h'.size.trans h.size,h'.tape.trans h.tape,h'.os.trans h.os,h'.output.trans h.output⟩
theorem Gj {e:TypeId}{fz:Nat × Nat}{β o:Nat}:∀ (vs:List Value) (i:Nat) (w:World) (cs:Array Value),w.heap[β]?=some (.cells cs e fz)→o+i+vs.length≤cs.size→(∀ v∈vs,v.oneCell'=true)→
  (∀ k,k<cs.size→¬ (fz.1≤k∧k<fz.2))→
  ∃ w' cs',(storeCells ⟨β,o,none⟩ vs i).run P w = .ok () w'∧RowSet w w' β cs' e fz∧cs'.size=cs.size∧
   ∀ k,cs'[k]?=if o+i≤k∧k<o+i+vs.length then vs[k-(o+i)]? else cs[k]?
 | [],i,w,cs,hb,_,_,_=>⟨w,cs,rfl,⟨hb,fun _ _=>rfl,rfl,rfl,rfl,rfl⟩,rfl,fun k=>by rw [if_neg (by simp)]⟩
 | v::vs,i,w,cs,hb,hlen,hone,hfz=>by
  simp only [List.length_cons] at hlen
  have hlt:o+i<cs.size:=by omega
  have hcell:w.cell? ⟨β,o+i,none⟩=some cs[o+i]:=by simp [World.cell?,hb,hlt]
  have hfr:w.frozen? ⟨β,o+i,none⟩=false:=by
   have:=hfz (o+i) hlt
   simp only [World.frozen?,hb]
   simpa using this
  have hst:(store ⟨β,o+i,none⟩ v).run P w = .ok () (w.setCell ⟨β,o+i,none⟩ v):=by
   rw [run_store P w _ v _ (hone v (.head _)),hcell]
   simp [hfr]
  have hrs:=K3 (o:=o+i) hb v
  obtain⟨w',cs',h1,h2,h3,h4⟩:=Gj (o:=o) vs (i+1) (w.setCell ⟨β,o+i,none⟩ v) (cs.setIfInBounds (o+i) v) hrs.row (by simp;omega) (fun u hu=>hone u (.tail _ hu)) (by simpa using hfz)
  refine⟨w',cs',?_,hrs.trans h2,by simpa using h3,fun k=>?_⟩
  ·simp only [storeCells,Sem.run_bind,Gh,hst,Result.andThen_ok];exact h1
  ·rw [h4 k]
   simp only [Array.getElem?_setIfInBounds,List.length_cons]
   by_cases e1:o+i=k
   ·subst e1
    rw [if_neg (by omega),if_pos rfl,if_pos hlt,if_pos (by omega)]
    simp
   ·rw [if_neg e1]
    by_cases hc:o+(i+1)≤k∧k<o+(i+1)+vs.length
    ·rw [if_pos hc,if_pos (by omega)]
     have:k-(o+i)=(k-(o+(i+1)))+1:=by omega
     rw [this];simp
    ·rw [if_neg hc,if_neg (by omega)]
theorem VRL.one_cell {l:List AV}{vs:List Value}(h:VRL ρ l vs)(hs:l.all scalar=true):∀ v∈vs,v.oneCell'=true:=by
 induction l generalizing vs with
 | nil=>simp only [VRL] at h;subst h;simp
 | cons x xs ih=>
  simp only [VRL] at h
  obtain⟨v,us,rfl,h1,h2⟩:=h
  simp only [List.all_cons,Bool.and_eq_true] at hs
  intro u hu
  cases hu with
  | head=>exact LI h1 hs.1
  | tail _ hu=>exact ih h2 hs.2 u hu
theorem FQ (hr:R P ρ h w){p:Nat × Nat}{xs:List AV}{h':Heap}(hs:storeN h p xs=some h'){β b c:Nat}(hρ:ρ p.1=some (β,b,c)){us:List Value}(hx:VRL ρ xs us) :
  ∃ w',(storeCells ⟨β,b+p.2,none⟩ us).run P w = .ok () w'∧Step P ρ h w ρ h' w':=by
 unfold storeN at hs
 split at hs
 ·rename_i hsc
  split at hs
  ·rename_i vs hb
   simp only [Option.map_eq_some_iff] at hs
   obtain⟨vs',hsp,rfl⟩:=hs
   obtain⟨s1,s2,s3⟩:=H7 ((DW _ _ _).symm.trans hsp)
   obtain⟨β',b',c',cs,e,fz,h1,h2,h3,h4,h5,h6⟩:=hr.blk p.1 _ hb
   rw [hρ] at h1;cases h1
   have hxl:=hx.length
   obtain⟨w',cs',r1,r2,r3,r4⟩:=Gj (P:=P) (o:=b+p.2) us 0 w cs h2 (by omega) (hx.one_cell hsc) (by rw [h3];exact h6)
   refine⟨w',r1,Step.put hr hb rfl hρ r2.other r2.size r2.tape r2.os r2.output ⟨β,b,c,cs',e,fz,hρ,r2.row,by rw [r3,h3],by rw [s1];exact h4,fun k v hk=>?_,h6⟩⟩
   rw [s3] at hk
   rw [r4]
   by_cases hc:p.2≤k∧k<p.2+xs.length
   ·rw [if_pos hc] at hk
    rw [if_pos (by omega)]
    have:b+k-(b+p.2+0)=k-p.2:=by omega
    rw [this]
    exact hx.get _ _ hk
   ·rw [if_neg hc] at hk
    rw [if_neg (by omega)]
    exact h5 k v hk
  ·cases hs
 ·cases hs
theorem Jd (hr:R P ρ h w){size:Nat}{x:AV}{l:List AV}(hl:addedA h size x=some l){x':Value}(hx:VR ρ x x'){n:Nat}(hn:countA x=some n) :
  ∃ us:Array Value,(Builtin.firstCells size n x').run P w = .ok us w∧VRL ρ l us.toList∧(Builtin.lenOf x').run P w = .ok n w:=by
 unfold addedA at hl
 split at hl
 ·rename_i p m c
  simp only [countA,Option.some.injEq] at hn;subst hn
  have hl:(m=0∧l = [])∨loadN h p (m*size)=some l:=by
   split at hl
   ·rename_i l' hl';cases hl;exact .inr hl'
   ·split at hl
    ·rename_i h0;cases hl;exact .inl ⟨h0,rfl⟩
    ·cases hl
  rcases hl with⟨rfl,rfl⟩ | hl
  ·cases c with
   | ex cap=>
    simp only [VR] at hx
    obtain⟨β,b,c,hρ,rfl⟩:=hx
    exact⟨#[],by simp [Builtin.firstCells,loadCells,loadCellsFrom],VRL.nil,rfl⟩
   | un sz=>
    simp only [VR] at hx
    obtain⟨β,b,c,cap,ad,hρ,rfl,hle,hc,had⟩:=hx
    exact⟨#[],by simp [Builtin.firstCells,loadCells,loadCellsFrom],VRL.nil,rfl⟩
  cases c with
  | ex cap=>
   simp only [VR] at hx
   obtain⟨β,b,c,hρ,rfl⟩:=hx
   obtain⟨cs,h1,h2⟩:=Cr hr hl hρ
   exact⟨cs,by simpa [Builtin.firstCells] using h1,h2,rfl⟩
  | un sz=>
   simp only [VR] at hx
   obtain⟨β,b,c,cap,ad,hρ,rfl,hle,hc,had⟩:=hx
   by_cases h0:m=0
   ·subst h0
    have hnil:l = []:=by
     unfold loadN at hl
     split at hl
     ·have:=(HA ((Cc _ _ _).symm.trans hl)).1;simp at this;exact this
     ·cases hl
    subst hnil
    exact⟨#[],by simp [Builtin.firstCells,loadCells,loadCellsFrom],VRL.nil,rfl⟩
   ·obtain rfl:=had.resolve_left (by omega)
    obtain⟨cs,h1,h2⟩:=Cr hr hl hρ
    exact⟨cs,by simpa [Builtin.firstCells] using h1,h2,rfl⟩
 ·cases hl
  simp only [countA,Option.some.injEq] at hn;subst hn
  simp only [VR] at hx
  obtain⟨_,_,rfl⟩:=hx
  exact⟨#[],by simp [Builtin.firstCells],VRL.nil,rfl⟩
 ·rename_i s
  split at hl
  case isFalse=>cases hl
  cases hl
  simp only [countA,Option.some.injEq] at hn;subst hn
  simp only [VR] at hx
  subst hx
  refine⟨((ByteArray.mk ⟨s⟩).extract 0 s.length).data.map fun b=>.int .u8 b.toNat,by simp [Builtin.firstCells],?_,rfl⟩
  rw [Hp]
  simp only [List.take_length,List.drop_zero]
  refine VRL.of_get (by simp) fun k v hk=>?_
  simp only [List.getElem?_map,Option.map_eq_some_iff] at hk
  obtain⟨u,hu,rfl⟩:=hk
  exact⟨.int .u8 u.toNat,by simp [hu],by simp only [VR]⟩
 ·cases hl
theorem OY (hr:R P ρ h w){size len cap:Nat}{base:Option (Nat × Nat)}{old:List AV}(hl:(match base with | some p=>loadN h p (len*size) | none=>if len=0 then some [] else none)=some old){x':Value}
  (hx:VR ρ (.sl base len (.ex cap)) x'):∃ us:Array Value,(Builtin.firstCells size len x').run P w = .ok us w∧VRL ρ old us.toList∧old.length=len*size:=by
 cases base with
 | none=>
  simp only at hl
  split at hl
  ·rename_i h0
   cases hl
   simp only [VR] at hx
   obtain⟨_,_,rfl⟩:=hx
   exact⟨#[],by simp [Builtin.firstCells],VRL.nil,by simp [h0]⟩
  ·cases hl
 | some p=>
  simp only [VR] at hx
  obtain⟨β,b,c,hρ,rfl⟩:=hx
  simp only at hl
  obtain⟨cs,h1,h2⟩:=Cr hr hl hρ
  refine⟨cs,by simpa [Builtin.firstCells] using h1,h2,?_⟩
  unfold loadN at hl
  split at hl
  ·exact(HA ((Cc _ _ _).symm.trans hl)).1
  ·cases hl
theorem JS {ts:Array TypeId}{ty t u e:TypeId}{du:TypeDesc}{inf:TypeInfo}{zv:Value}{size by_:Nat}(ht:ts[0]?=some t)(hu:ts[1]?=some u)(hdt:P.underlying t=some (.slice e))(hdu:P.underlying u=some du)(hni:∀ k,du≠.int k)
  (hinfo:P.info? e=some inf) (hsz:inf.size=size) (hby:inf.bytes=by_) (hz:inf.zero=some zv) (hb0:by_≠0) {base:Option Addr} {len cap n:Nat} {x':Value} {old new:Array Value}
  (hlen:(Builtin.lenOf x').run P w = .ok n w) (hgt : ¬ len+n≤cap) (hbytes:(len+n)*by_≤2 ^ 47)
  (hold:(Builtin.firstCells size len (.slice base len cap)).run P w.drew = .ok old w.drew) (hnew:(Builtin.firstCells size n x').run P w.drew = .ok new w.drew) :
  ∃ cap',len+n≤cap'∧(Builtin.append_ ts ty #[.slice base len cap,x']).run P w =
   .ok (.slice (some ⟨w.heap.size,0,none⟩) (len+n) cap') (w.drew.alloc (.cells (old++new++Builtin.zeroCells zv.cells (cap'-(len+n))) e)):=by
 refine⟨grownCap w (len+n) cap e,grownCap_ge w (len+n) cap e,?_⟩
 have hmatch:(match du with | .int _=>true | _=>false)=false:=by cases du<;>first | rfl | exact absurd rfl (hni _)
 have hn2 : ¬ (281474976710656<Builtin.nextslicecap (len+n) cap*by_):=by
  have:=growslice_fits (need:=len+n) (old:=cap) (bytes:=by_) (by omega) (by omega)
  omega
 subst hsz
 subst hby
 simp [Builtin.append_,ht,hu,run_underlying hdt,run_underlying hdu,hmatch,sizeOf,typeInfo,zeroValue,hinfo,hz,hlen,hgt,hb0,hn2,Question.forced,hold,hnew,newRow,grownCap]
theorem HG {ts:Array TypeId}{ty t u e:TypeId}{du:TypeDesc}{inf:TypeInfo}{size:Nat}(ht:ts[0]?=some t)(hu:ts[1]?=some u)(hdt:P.underlying t=some (.slice e))(hdu:P.underlying u=some du)(hni:∀ k,du≠.int k)
  (hinfo:P.info? e=some inf) (hsz:inf.size=size) {ad:Addr} {len cap n:Nat} {x':Value} {new:Array Value} {w':World}
  (hlen:(Builtin.lenOf x').run P w = .ok n w) (hle:len+n≤cap) (hnew:(Builtin.firstCells size n x').run P w = .ok new w) (hst:(storeCells (ad.add (len*size)) new.toList).run P w = .ok () w') :
  (Builtin.append_ ts ty #[.slice (some ad) len cap,x']).run P w = .ok (.slice (some ad) (len+n) cap) w':=by
 have hmatch:(match du with | .int _=>true | _=>false)=false:=by cases du<;>first | rfl | exact absurd rfl (hni _)
 subst hsz
 simp [Builtin.append_,ht,hu,run_underlying hdt,run_underlying hdu,hmatch,sizeOf,typeInfo,hinfo,hlen,hle,hnew,hst]
theorem append_nil {ts:Array TypeId}{ty t u e:TypeId}{du:TypeDesc}{inf:TypeInfo}{size:Nat}(ht:ts[0]?=some t)(hu:ts[1]?=some u)(hdt:P.underlying t=some (.slice e))(hdu:P.underlying u=some du)(hni:∀ k,du≠.int k)
  (hinfo:P.info? e=some inf) (hsz:inf.size=size) {x':Value} {new:Array Value}
  (hlen:(Builtin.lenOf x').run P w = .ok 0 w) (hnew:(Builtin.firstCells size 0 x').run P w = .ok new w) :
  (Builtin.append_ ts ty #[.slice none 0 0,x']).run P w = .ok (.slice none 0 0) w:=by
 have hmatch:(match du with | .int _=>true | _=>false)=false:=by cases du<;>first | rfl | exact absurd rfl (hni _)
 subst hsz
 simp [Builtin.append_,ht,hu,run_underlying hdt,run_underlying hdu,hmatch,sizeOf,typeInfo,hinfo,hlen,hnew]
theorem Ks (z:Array Value)(n:Nat):(Builtin.zeroCells z n).size=n*z.size:=by simp [Builtin.zeroCells]
theorem Ki {ρ':Rho}(hr:R P ρ h w){size:Nat}{old new:List AV}{olds news:Array Value}(ho:VRL ρ old olds.toList)(hn:VRL ρ new news.toList){len n cap':Nat}(hl:(old++new).length=(len+n)*size)(hcap:len+n≤cap'){zs:Array Value}(hz:zs.size=size){e:TypeId}
  (hρ':ρ'=ρ.add h.next (w.heap.size,0,cap'*size)) :
  Step P ρ h w.drew ρ' (h.new (.cells true (old++new))) (w.drew.alloc (.cells (olds++news++Builtin.zeroCells zs (cap'-(len+n))) e))∧
  VR ρ' (.sl (some (h.next,0)) (len+n) (.un size)) (.slice (some ⟨w.heap.size,0,none⟩) (len+n) cap'):=by
 subst hρ'
 have hnone:ρ h.next=none:=by
  cases e:ρ h.next with
  | none=>rfl
  | some y=>exact absurd (hr.bnd _ _ e) (Nat.lt_irrefl _)
 have hol:=ho.length
 have hnl:=hn.length
 have hsize:(olds++news++Builtin.zeroCells zs (cap'-(len+n))).size=cap'*size:=by
  simp only [Array.size_append,Ks,hz]
  simp only [List.length_append] at hl
  simp at hol hnl
  rw [← hol,← hnl,hl,← Nat.add_mul]
  congr 1;omega
 have hbr:BR (ρ.add h.next (w.heap.size,0,cap'*size)) (w.drew.alloc (.cells (olds++news++Builtin.zeroCells zs (cap'-(len+n))) e)) h.next (.cells true (old++new)):=by
  refine⟨w.heap.size,0,cap'*size,_,e,(0,0),Rho.add_at _ _,heap_alloc_new w.drew _,hsize,?_,fun k v hk=>?_,fun o _=>by simp⟩
  ·rw [hl];simp only [Nat.zero_add];exact Nat.mul_le_mul_right _ hcap
  ·obtain⟨u,hu,hv⟩:=(ho.append hn).get k v hk
   refine⟨u,?_,hv.mono (Rho.le_add hnone _)⟩
   have hk':k<(olds++news).size:=by
    have:=(List.getElem?_eq_some_iff.1 hu).1;simpa using this
   rw [Nat.zero_add,Array.getElem?_append_left hk']
   rw [← Array.getElem?_toList,Array.toList_append]
   exact hu
 exact⟨Step.alloc hr.drew _ _ (0,cap'*size) hbr,by simp only [VR];exact⟨_,_,_,cap',_,Rho.add_at _ _,rfl,hcap,by simp,.inr rfl⟩⟩
theorem Step.kill (hr:R P ρ h w)(i:Nat):Step P ρ h w ρ (h.put i none) w:=
 have hsub:∀ j b,(h.put i none).get j=some b→h.get j=some b:=fun j b hj=>by
  rw [Heap.get_put] at hj
  split at hj
  ·cases hj
  ·exact hj
 ⟨hr.fewer (Nat.le_refl _) hsub,ρ.le_refl,⟨Nat.le_refl _,fun _ _ _=>rfl,rfl,rfl,rfl⟩,Nat.le_refl _,fun j _ hn=>by rw [Heap.get_put];split<;>first | rfl | exact hn,fun i x h h'=>(by rw [h] at h';cases h'),
  fun j b _ x hb hx _=>⟨j,b,x,hsub j b hb,hx,id⟩⟩
theorem Mq {p:Nat × Nat}{n:Nat}{l:List AV}(hl:loadN h p n=some l):l.length=n:=by
 unfold loadN at hl
 split at hl
 ·exact(HA ((Cc _ _ _).symm.trans hl)).1
 ·cases hl
theorem KV {α:Type}:∀ (l:List α) (o n:Nat),o+n=l.length→span l o n=some (l.drop o)
 | l,0,0,h=>by
  have:l = []:=List.eq_nil_of_length_eq_zero (by omega)
  subst this;rfl
 | [],0,n+1,h=>by simp at h
 | v::vs,0,n+1,h=>by simp only [span,KV vs 0 n (by simp at h ⊢;omega)];simp
 | [],o+1,n,h=>by simp at h
 | v::vs,o+1,n,h=>by simp only [span,KV vs o n (by simp at h;omega)];simp
theorem Lb (hr:R P ρ h w){ts:Array TypeId}{ty t u e:TypeId}{du:TypeDesc}{size by_:Nat}{z:AV}(ht:ts[0]?=some t)(hu:ts[1]?=some u)(hdt:P.underlying t=some (.slice e))(hdu:P.underlying u=some du)(hni:∀ k,du≠.int k)
  (hsz:sizeA P e=some size) (hby:bytesA P e=some by_) (hz:zeroA P e=some z) (hzl:z.cells.length=size) (hs0:size≠0) (hb0:by_≠0) {s x v:AV} {h':Heap} (ha:appendA h size by_ s x=some (v,h'))
  {s' x':Value} (hs:VR ρ s s') (hx:VR ρ x x') :
  ∃ v' w' ρ',(Builtin.append_ ts ty #[s',x']).run P w = .ok v' w'∧Step P ρ h w ρ' h' w'∧VR ρ' v v':=by
 obtain⟨inf,zv,hinfo,hzero,_,_,hzc⟩:=En (ρ:=ρ) hz
 have hisz:inf.size=size:=by
  obtain⟨j,hj,hj2⟩:=Gy hsz
  rw [hinfo] at hj;cases hj;exact hj2
 have hibb:inf.bytes=by_:=by
  simp only [bytesA,hinfo,Option.map_some,Option.some.injEq] at hby;exact hby
 have hzvs:zv.cells.size=size:=by have:=hzc.length;simp at this;omega
 simp only [appendA,Option.bind_eq_some_iff] at ha
 obtain⟨n,hn,new,hnew,ha⟩:=ha
 obtain⟨news,hf1,hf2,hlen⟩:=Jd (P:=P) hr hnew hx hn
 obtain⟨news',hd1,hd2,_⟩:=Jd (P:=P) hr.drew hnew hx hn
 have hnl:new.length=n*size:=by
  unfold addedA at hnew
  split at hnew
  ·rename_i p m c
   simp only [countA,Option.some.injEq] at hn;subst hn
   split at hnew
   ·rename_i l' hl';cases hnew;exact Mq hl'
   ·split at hnew
    ·rename_i h0;cases hnew;simp [h0]
    ·cases hnew
  ·cases hnew;simp only [countA,Option.some.injEq] at hn;subst hn;simp
  ·split at hnew
   ·rename_i h1;cases hnew;simp only [countA,Option.some.injEq] at hn;subst hn;simp [h1]
   ·cases hnew
  ·cases hnew
 split at ha
 ·rename_i base len cap
  split at ha
  ·rename_i hle
   cases base with
   | none=>
    simp only at ha
    split at ha
    ·rename_i hn0
     cases ha
     subst hn0
     simp only [VR] at hs
     obtain⟨rfl,hc,rfl⟩:=hs
     cases hc
     exact⟨_,w,ρ,append_nil ht hu hdt hdu hni hinfo hisz hlen hf1,Step.refl hr,by simp [VR]⟩
    ·cases ha
   | some p=>
    simp only [Option.map_eq_some_iff] at ha
    obtain⟨h₁,hst,he⟩:=ha
    cases he
    simp only [VR] at hs
    obtain⟨β,b,c,hρ,rfl⟩:=hs
    obtain⟨w',r1,r2⟩:=FQ (P:=P) hr hst (show ρ (addA p (len*size)).1=some (β,b,c) from hρ) hf2
    refine⟨_,w',ρ,HG ht hu hdt hdu hni hinfo hisz hlen hle hf1 (by rw [Gh];simpa [addA,Nat.add_assoc] using r1),r2,?_⟩
    simp only [VR];exact⟨β,b,c,hρ,rfl⟩
  ·rename_i hgt
   split at ha
   ·rename_i hbytes
    simp only [Option.bind_eq_some_iff] at ha
    obtain⟨old,hold,ha⟩:=ha
    split at ha
    ·cases ha
     have hs2:=hs
     obtain⟨olds,ho1,ho2,ho3⟩:=OY (P:=P) hr.drew hold hs
     have hform:∃ ad,s' = .slice ad len cap:=by
      cases base with
      | none=>simp only [VR] at hs2;obtain⟨rfl,hc,rfl⟩:=hs2;cases hc;exact⟨_,rfl⟩
      | some p=>simp only [VR] at hs2;obtain⟨_,_,_,_,rfl⟩:=hs2;exact⟨_,rfl⟩
     obtain⟨ad,rfl⟩:=hform
     obtain⟨cap',hc1,hc2⟩:=JS (ty:=ty) ht hu hdt hdu hni hinfo hisz hibb hzero hb0 hlen hgt hbytes ho1 hd1
     obtain⟨g1,g2⟩:=Ki (P:=P) hr ho2 hd2 (size:=size) (by rw [List.length_append,ho3,hnl,Nat.add_mul]) hc1 hzvs (e:=e) rfl
     exact⟨_,_,_,hc2,(Step.drew hr).trans g1,g2⟩
    ·cases ha
   ·cases ha
 ·rename_i p len sz
  split at ha
  ·cases ha
  ·rename_i hsz'
   have hsz':sz=size:=by simpa using hsz'
   subst hsz'
   have hs2:=hs
   simp only [VR] at hs
   obtain⟨β,b,c,cap,ad,hρ,rfl,hle,hc,had⟩:=hs
   split at ha
   ·rename_i hn0
    cases ha
    subst hn0
    have hnn:news = #[]:=by
     have h1:=hf2.length
     rw [hnl] at h1;simp at h1
     exact Array.size_eq_zero_iff.1 (by simpa using h1.symm)
    subst hnn
    refine⟨_,w,ρ,HG ht hu hdt hdu hni hinfo hisz hlen (by omega) hf1 rfl,Step.refl hr,hs2⟩
   ·rename_i hn0
    split at ha
    ·rename_i hbytes
     split at ha
     ·rename_i vs hb
      obtain⟨β',b',c',cs,e',fz,k1,k2,k3,k4,k5,k6⟩:=hr.blk p.1 _ hb
      rw [hρ] at k1;cases k1
      split at ha
      ·rename_i hin
       simp only [Option.map_eq_some_iff] at ha
       obtain⟨h₁,hst,he⟩:=ha
       cases he
       have hcapn:len+n≤cap:=by
        have:(len+n)*sz≤cap*sz:=by omega
        exact Nat.le_of_mul_le_mul_right this (by omega)
       obtain rfl:=had.resolve_left (by omega)
       obtain⟨w',r1,r2⟩:=FQ (P:=P) hr hst (show ρ (addA p (len*sz)).1=some (β,b,c) from hρ) hf2
       refine⟨_,w',ρ,HG ht hu hdt hdu hni hinfo hisz hlen hcapn hf1 (by rw [Gh];simpa [addA,Nat.add_assoc] using r1),r2,?_⟩
       simp only [VR]
       exact⟨β,b,c,cap,_,hρ,rfl,hcapn,hc,.inr rfl⟩
      ·split at ha
       ·rename_i hend
        split at ha
        ·rename_i hsc
         cases ha
         by_cases hcapn:len+n≤cap
         ·-- in place
          obtain rfl:=had.resolve_left (by omega)
          have hxl:=hf2.length
          have hcs:cap*sz≥(len+n)*sz:=Nat.mul_le_mul_right _ hcapn
          have hadd:(len+n)*sz=len*sz+n*sz:=Nat.add_mul _ _ _
          obtain⟨w',cs',r1,r2,r3,r4⟩:=Gj (P:=P) (o:=b+p.2+len*sz) news.toList 0 w cs k2 (by omega) (hf2.one_cell hsc) (by rw [k3];exact k6)
          have hnone:ρ h.next=none:=by
           cases e:ρ h.next with
           | none=>rfl
           | some y=>exact absurd (hr.bnd _ _ e) (Nat.lt_irrefl _)
          refine⟨_,w',ρ.add h.next (β,b+p.2,c),HG ht hu hdt hdu hni hinfo hisz hlen hcapn hf1 (by rw [Gh];exact r1),Step.move hr hb rfl hρ r2.other r2.size r2.tape r2.os r2.output (b+p.2,c) ?_,?_⟩
          ·refine⟨β,b+p.2,c,cs',e',fz,Rho.add_at _ _,r2.row,by rw [r3,k3],?_,fun k v hk=>?_,k6⟩
           ·simp only [List.length_append,List.length_drop];omega
           ·rw [r4]
            by_cases hkl:k<len*sz
            ·rw [if_neg (by omega)]
             rw [List.getElem?_append_left (by simp;omega),List.getElem?_drop] at hk
             obtain⟨u,hu,hv⟩:=k5 _ _ hk
             exact⟨u,by rw [← hu];congr 1;omega,hv.mono (Rho.le_add hnone _)⟩
            ·rw [List.getElem?_append_right (by simp;omega)] at hk
             obtain⟨u,hu,hv⟩:=hf2.get _ _ hk
             have hlt:=(List.getElem?_eq_some_iff.1 hu).1
             simp only [List.length_drop] at hlt hu
             rw [if_pos (by omega)]
             exact⟨u,by rw [← hu];congr 1;omega,hv.mono (Rho.le_add hnone _)⟩
          ·simp only [VR]
           exact⟨β,b+p.2,c,cap,_,Rho.add_at _ _,rfl,hcapn,by simpa using hc,.inr rfl⟩
         ·-- a new row
          have hold:loadN h p (len*sz)=some (vs.drop p.2):=by
           unfold loadN;rw [hb]
           exact(Cc _ _ _).trans (KV vs p.2 (len*sz) hend)
          have hfo:∃ olds:Array Value,(Builtin.firstCells sz len (.slice (some ad) len cap)).run P w.drew = .ok olds w.drew∧VRL ρ (vs.drop p.2) olds.toList:=by
           by_cases h0:len=0
           ·subst h0
            have hv:vs.drop p.2 = []:=by rw [List.drop_eq_nil_iff];omega
            rw [hv]
            exact⟨#[],by simp [Builtin.firstCells,loadCells,loadCellsFrom],VRL.nil⟩
           ·obtain rfl:=had.resolve_left (by omega)
            obtain⟨olds,o1,o2⟩:=Cr (P:=P) hr.drew hold hρ
            exact⟨olds,by simpa [Builtin.firstCells] using o1,o2⟩
          obtain⟨olds,ho1,ho2⟩:=hfo
          obtain⟨cap',hc1,hc2⟩:=JS (ty:=ty) ht hu hdt hdu hni hinfo hisz hibb hzero hb0 hlen hcapn hbytes ho1 hd1
          have hk:=Step.kill (P:=P) hr p.1
          obtain⟨g1,g2⟩:=Ki (P:=P) hk.rel ho2 hd2 (size:=sz) (by rw [List.length_append,List.length_drop,hnl,Nat.add_mul];omega) hc1 hzvs (e:=e) rfl
          exact⟨_,_,_,hc2,hk.trans ((Step.drew hk.rel).trans g1),g2⟩
        ·cases ha
       ·cases ha
     ·cases ha
    ·cases ha
 ·cases ha
end
end Go.Ab
