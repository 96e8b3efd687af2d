import Derived.Test.YtdpdnkdafkcllaaGreatDoorAbSort
import Derived.Shelf.SlIterI.Nil
import Derived.Shelf.SortM.Plain
import Derived.Shelf.SortM.SortNone
namespace Go.Ab
open Go
set_option linter.all false
def keyInts:List (AV × AV)→Option (List Int)
 | []=>some []
 | (.int .i64 n,_)::l=>(keyInts l).map (n :: ·)
 | _=>none
def okKeys:List Int→Bool
 | []=>true
 | n::l=>(Lit.int .i64 n).wf && l.all (fun m=>!(decide (m=n))) && okKeys l
def ownInts (l:List Int)(h:Heap):AV × Heap:=
 match l with
 | []=>(.sl none 0 (.ex 0),h)
 | x::l=>(.sl (some (h.next,0)) (l.length+1) (.un 1),h.new (.cells true ((x::l).map fun n=>.int .i64 n)))
def keysV (g:FuncId)(v:AV)(h:Heap):Option (AV × Heap):=
 match v with
 | .mp x=>some (.fn g [] [.ptr (some (h.next,0))],h.new (.cells false [.mp x]))
 | _=>none
def sortedV (g:FuncId)(v:AV)(h:Heap):Option (AV × Heap):=
 match v with
 | .fn f [] [.ptr (some (b,0))]=>
  if f=g then
   match h.get b with
   | some (.cells false [.mp none])=>some (.sl none 0 (.ex 0),h)
   | some (.cells false [.mp (some i)])=>
    match h.get i with
    | some (.mp es)=>(keyInts es).bind fun l=>if okKeys l=true∧l.length≤1099511627776 then some (ownInts (isort l) h) else none
    | _=>none
   | _=>none
  else none
 | _=>none
section
variable {P:Program}
open Go.RowKit in
theorem Step.below0 {ρ:Rho}{h:Heap}{w w':World}(hr:R P ρ h w)(hb:Below w.heap.size w w'):Step P ρ h w ρ h w':=
 ⟨⟨fun i b hi=>(hr.blk i b hi).same fun β x hx=>by
   obtain⟨β',y,h1,h2⟩:=(hr.blk i b hi).at
   rw [hx] at h1;cases h1
   exact hb.block β h2,hr.inj,hr.bnd,hr.glob⟩,ρ.le_refl,⟨hb.size,fun β hβ _=>hb.block β hβ,hb.tape,hb.os,hb.output⟩,Nat.le_refl _,fun _ _ h=>h,fun i x h h'=>(by rw [h] at h';cases h'),fun i b _ x hb hx _=>⟨i,b,x,hb,hx,id⟩⟩
open Go.RowKit in
theorem Step.below1 {ρ:Rho}{h:Heap}{w w':World}(hr:R P ρ h w)(hbw:Below w.heap.size w w'){g:Nat}(hg:w.heap.size≤g)(b:Blk)(x:Nat × Nat)
  (hb:BR (fun j=>if j=h.next then some (g,x) else ρ j) w' h.next b):Step P ρ h w (fun j=>if j=h.next then some (g,x) else ρ j) (h.new b) w':=by
 have hρ:ρ h.next=none:=by
  cases e:ρ h.next with
  | none=>rfl
  | some y=>exact absurd (hr.bnd _ _ e) (Nat.lt_irrefl _)
 have hle:ρ.le (fun j=>if j=h.next then some (g,x) else ρ j):=fun j y hy=>by
  by_cases e:j=h.next
  ·subst e;rw [hρ] at hy;cases hy
  ·simp [e,hy]
 refine⟨⟨fun j b' hj=>?_,?_,?_,?_⟩,hle,⟨hbw.size,fun β hβ _=>hbw.block β hβ,hbw.tape,hbw.os,hbw.output⟩,Nat.le_succ _,?_,?_,?_⟩
 ·rw [Heap.get_new] at hj
  by_cases e:j=h.next
  ·subst e;simp at hj;subst hj;exact hb
  ·simp only [e,if_false] at hj
   refine((hr.blk j b' hj).mono hle).same fun β y hy=>?_
   simp only [e,if_false] at hy
   obtain⟨β',y',h1,h2⟩:=(hr.blk j b' hj).at
   rw [hy] at h1;cases h1
   exact hbw.block _ h2
 ·intro j k bj bk β y y' hne hj hk hyj hyk
  rw [Heap.get_new] at hj hk
  by_cases e:j=h.next
  ·have e' : ¬ k=h.next:=fun h=>hne (e.trans h.symm)
   simp only [e,if_true] at hyj
   simp only [e',if_false] at hyk hk
   cases hyj
   obtain⟨β',y',h1,h2⟩:=(hr.blk k bk hk).at
   rw [hyk] at h1;cases h1
   omega
  ·by_cases e':k=h.next
   ·simp only [e',if_true] at hyk
    simp only [e,if_false] at hyj hj
    cases hyk
    obtain⟨β',y',h1,h2⟩:=(hr.blk j bj hj).at
    rw [hyj] at h1;cases h1
    omega
   ·simp only [e,e',if_false] at hj hk hyj hyk
    exact hr.inj j k bj bk β y y' hne hj hk hyj hyk
 ·intro j y hy
  by_cases e:j=h.next
  ·subst e;exact Nat.lt_succ_self _
  ·simp only [e,if_false] at hy;exact Nat.lt_succ_of_lt (hr.bnd j y hy)
 ·intro g' hg'
  obtain⟨c,hc⟩:=hr.glob g' hg'
  exact⟨c,hle _ _ hc⟩
 ·intro j hj hnone
  rw [Heap.get_new,if_neg (by omega)];exact hnone
 ·intro j y hy hn'
  by_cases e:j=h.next
  ·subst e;exact Nat.le_refl _
  ·simp only [e,if_false] at hy;rw [hn'] at hy;cases hy
 ·intro j b' β y hj hy hβ
  rw [Heap.get_new] at hj
  by_cases e:j=h.next
  ·simp only [e,if_true] at hy;cases hy;omega
  ·simp only [e,if_false] at hj hy;exact⟨j,b',y,hj,hy,id⟩
theorem keyInts_er {ρ:Rho}:∀ {es:List (AV × AV)} {l:List Int} {ents:List MapEntry},keyInts es=some l→ER ρ es ents→ents.map (·.key)=l.map (Value.int .i64)
 | [],l,ents,hk,he=>by
  simp only [ER] at he;subst he
  simp [keyInts] at hk;subst hk;rfl
 | (k,v)::es,l,ents,hk,he=>by
  simp only [ER] at he
  obtain⟨x,xs,rfl,h1,h2,h3⟩:=he
  cases k with
  | int kd n=>
   cases kd<;>simp [keyInts] at hk
   obtain⟨r,hr,rfl⟩:=hk
   simp only [VR] at h1
   simp only [List.map_cons,h1,keyInts_er hr h3]
  | _=>simp [keyInts] at hk
theorem okKeys_spec:∀ {l:List Int},okKeys l=true→l.Nodup∧∀ n∈l,(Lit.int .i64 n).wf=true
 | [],_=>⟨List.nodup_nil,by simp⟩
 | n::l,h=>by
  simp only [okKeys,Bool.and_eq_true] at h
  obtain⟨⟨h1,h2⟩,h3⟩:=h
  obtain⟨g1,g2⟩:=okKeys_spec h3
  refine⟨List.nodup_cons.2 ⟨fun hm=>?_,g1⟩,by simpa using ⟨h1,g2⟩⟩
  have:=List.all_eq_true.1 h2 n hm
  simp at this
section
open Go.RowKit Go.Maps Go.Sort Go.Shelf Go.Proofs
variable {ρ6 ρ7 ρS:Ren}
theorem sorts_any (LS:SlLaysM.n5 P ρS)(e9:ρS.f 5=ρ6.f 9)(m:Nat):AnyZI.SortsIn P ρ6 Fence.wide m:=by
 refine⟨fun blk off cap ss W hH hblk hsz=>callsIn_wide.2 ?_,fun p cap W=>callsIn_wide.2 ?_⟩
 ·rw [← e9];exact AnyM.slices_Sort_int LS blk off cap ss W hH hblk hsz
 ·rw [← e9];exact AnyM.slices_Sort_int_none LS p cap W
theorem sorted_nil (L6:SlLaysZI.n6 P ρ6)(L7:SlLaysZI.n7 P ρ7)(LS:SlLaysM.n5 P ρS)(e9:ρS.f 5=ρ6.f 9){w:World}{Bm:Nat}(hBm:Bm<w.heap.size)(hm:w.cell? ⟨Bm,0,none⟩=some (.map none)) :
  Calls P (ρ6.f 6) #[.func (.func (ρ7.f 10)) #[] #[.pointer (some ⟨Bm,0,none⟩)]] w fun e w'=>e = .returned (.slice none 0 0)∧Below w.heap.size w w':=by
 refine(callsIn_wide (n:=6)).1 ?_
 have hseq:=AnyZI.keys_gives_nil (ρ:=ρ7) { L7 with } Fence.wide (6 - 1 - 1 - 1) trivial rfl Bm w hBm hm
 have cS:=AnyZI.sorted_in L6 Fence.wide 6 trivial trivial trivial trivial rfl (by omega) (sorts_any LS e9 _) (by rw [← e9];exact LS.f5.enters rfl) (ρ7.f 10) #[.pointer (some ⟨Bm,0,none⟩)] trivial (L7.f10.enters rfl) _ 0 (Nat.zero_le _) (by omega) w hseq
 refine cS.mono ?_
 rintro e w' ⟨v,ss,rfl,hS,hrow,hnil,hb⟩
 obtain rfl:v = .slice none 0 0:=hnil.2 hS
 exact⟨rfl,hb⟩
theorem rg_key {k:TypeId}(hk:P.underlying k=some (.int .i64)){x:MapEntry}{n:Int}(hx:x.key = .int .i64 n)(hw:(Lit.int .i64 n).wf=true) :
  WideElems.rd (H:=Unit) P k (fun _=>some (.nil,[])) x=some (.int .i64 n,.nil):=by
 unfold WideElems.rd
 rw [hx,keyOf_int_mk hk hw];rfl
theorem intKeys_perm {k:TypeId}(hk:P.underlying k=some (.int .i64)){ents:List MapEntry}{l:List Int}(he:ents.map (·.key)=l.map (Value.int .i64))(hw:∀ n∈l,(Lit.int .i64 n).wf=true) :
  (intKeys (H:=Unit) (.map ((ents.map (WideElems.rg P k (fun _=>some (.nil,[])))).foldr DataW.insert []))).Perm l:=by
 show(List.map (fun p:Lit × DataW Unit=>intOf p.1) _).Perm l
 refine((Go.WideShapes.sorted_perm _).map _).trans ?_
 rw [List.map_map]
 have:ents.map ((fun p:Lit × DataW Unit=>intOf p.1) ∘ WideElems.rg (H:=Unit) P k (fun _=>some (.nil,[])))=l:=by
  induction ents generalizing l with
  | nil=>cases l<;>simp at he ⊢
  | cons x xs ih=>
   cases l with
   | nil=>simp at he
   | cons n l=>
    simp only [List.map_cons,List.cons.injEq] at he ⊢
    refine⟨?_,ih he.2 fun m hm=>hw m (List.mem_cons_of_mem _ hm)⟩
    simp only [Function.comp,WideElems.rg,rg_key hk he.1 (hw n (List.mem_cons_self ..)),Option.getD_some,intOf]
 rw [this]
theorem sorted_some (L6:SlLaysZI.n6 P ρ6)(L7:SlLaysZI.n7 P ρ7)(LS:SlLaysM.n5 P ρS)(e9:ρS.f 5=ρ6.f 9){w:World}{Bm b:Nat}(hBm:Bm<w.heap.size)(hm:w.cell? ⟨Bm,0,none⟩=some (.map (some b)))
  {ents:Array MapEntry} {clock:Nat} (hb:w.heap[b]?=some (.map ents clock)) (hbo:Born ents clock) {l:List Int} (he:ents.toList.map (·.key)=l.map (Value.int .i64)) (hl:okKeys l=true) (hn:l.length≤1099511627776) :
  Calls P (ρ6.f 6) #[.func (.func (ρ7.f 10)) #[] #[.pointer (some ⟨Bm,0,none⟩)]] w fun e w'=>∃ v,e = .returned v∧w'.ownsRow w.heap.size (ρ6.t 26) 1 v (isort l).length ((isort l).map encZ)∧(v = .slice none 0 0↔isort l = [])∧Below w.heap.size w w':=by
 obtain⟨hnd,hwf⟩:=okKeys_spec hl
 have hlen:ents.size=l.length:=by have:=congrArg List.length he;simpa using this
 have hmx:(1099511627776:Nat)≤maxLen:=by decide
 have hk:P.underlying (ρ7.t 26)=some (.int .i64):=L7.t26
 have F:WideElems.Fit (H:=Unit) P (ρ7.t 26) (fun _=>some (.nil,[])) ents clock:=by
  refine⟨by omega,⟨hbo.1,hbo.2,?_⟩,fun x hx=>?_⟩
  ·rw [he]
   exact List.pairwise_map.2 (hnd.imp fun hne e=>hne (by cases e;rfl))
  ·have hm':x.key∈ents.toList.map (·.key):=List.mem_map_of_mem hx
   rw [he] at hm'
   obtain⟨n,hn',en⟩:=List.mem_map.1 hm'
   exact⟨_,rg_key hk en.symm (hwf n hn')⟩
 have hown:=World.ownsMap_of_fit (w:=w) (P:=P) (b:=b) (R:=fun _=>some (.nil,[])) hb F (fun x _ z hz=>hz)
 have hperm:=intKeys_perm hk he hwf
 have hsize:Maps.size (H:=Unit) (.map ((ents.toList.map (WideElems.rg P (ρ7.t 26) (fun _=>some (.nil,[])))).foldr DataW.insert []))=l.length:=by
  simp [Maps.size,length_sorted,hlen]
 refine(callsIn_wide (n:=6)).1 ?_
 have hseq:=AnyZI.keys_gives (ρ:=ρ7) { L7 with } Fence.wide (6 - 1 - 1 - 1) trivial rfl (by omega) Bm b _ _ w hBm hm hown
 have cS:=AnyZI.sorted_in L6 Fence.wide 6 trivial trivial trivial trivial rfl (by omega) (sorts_any LS e9 _) (by rw [← e9];exact LS.f5.enters rfl) (ρ7.f 10) #[.pointer (some ⟨Bm,0,none⟩)] trivial (L7.f10.enters rfl) _ _ (by rw [hsize];omega) (by rw [hsize];omega) w hseq
 refine cS.mono ?_
 rintro e w' ⟨v,ss,rfl,hS,hrow,hnil,hb⟩
 have hp:ss.Perm l:=hS.trans hperm
 have hm:ss.mergeSort (fun x y=>decide (x≤y))=isort l:=by rw [isort_merge];exact mergeSort_of_perm_i hp
 have hll:ss.length=(isort l).length:=by rw [(isort_perm l).length_eq,hp.length_eq]
 rw [hm,hll] at hrow
 refine⟨v,rfl,hrow,hnil.trans ⟨fun h=>?_,fun h=>?_⟩,hb⟩
 ·exact List.length_eq_zero_iff.1 (by rw [← hll,h];rfl)
 ·exact List.length_eq_zero_iff.1 (by rw [hll,h];rfl)
theorem lookT_sorted {L:Tab}(hL:CallOk P (lookT L))(L6:SlLaysZI.n6 P ρ6)(L7:SlLaysZI.n7 P ρ7)(LS:SlLaysM.n5 P ρS)(e9:ρS.f 5=ρ6.f 9){f g:FuncId}(ef:ρ6.f 6=f)(eg:ρ7.f 10=g) :
  CallOk P (lookT ((f,p1 (sortedV g))::L)):=by
 subst ef eg
 intro f' args h v h' hx
 change (bif Nat.beq (ρ6.f 6) f' then p1 (sortedV (ρ7.f 10)) args h else lookT L f' args h)=some (v,h') at hx
 by_cases hf:Nat.beq (ρ6.f 6) f'=true
 ·rw [hf,cond_true] at hx
  have hf':ρ6.f 6=f':=Nat.eq_of_beq_eq_true hf
  subst hf'
  refine⟨by obtain⟨nm,_,hfn⟩:=L6.f6;exact⟨_,hfn,rfl⟩,fun ρ w args' hr hargs=>?_⟩
  match args,hx with
  | [a],hx=>
   change sortedV (ρ7.f 10) a h=some (v,h') at hx
   simp only [VRL] at hargs
   obtain⟨u,us,hu,hvr,rfl⟩:=hargs
   obtain rfl:args' = #[u]:=by cases args';simp_all
   unfold sortedV at hx
   split at hx
   ·rename_i f b
    split at hx
    ·rename_i hfg
     subst hfg
     simp only [VR,VRL] at hvr
     obtain⟨aa,cc,rfl,ha,v1,vs1,hc1,⟨β,bb,c0,hρ,rfl⟩,rfl⟩:=hvr
     obtain rfl:aa = #[]:=by cases aa;simp_all
     obtain rfl:cc = #[.pointer (some ⟨β,bb+0,none⟩)]:=by cases cc;simp_all
     have base:∀ x,h.get b=some (.cells false [.mp x])→bb=0∧β<w.heap.size:=fun x hb=>by
      obtain⟨β',b',c',cs,e,fz,g1,g2,_,_,_,g6⟩:=hr.blk b _ hb
      rw [hρ] at g1;cases g1
      exact⟨g6 x rfl,(Array.getElem?_eq_some_iff.1 g2).1⟩
     split at hx
     ·rename_i hb
      cases hx
      obtain⟨rfl,hlt⟩:=base _ hb
      obtain⟨u0,hu0,hv0⟩:=(hr.cell hb hρ).1 0 _ rfl
      simp only [VR] at hv0
      subst hv0
      refine(sorted_nil L6 L7 LS e9 (w:=w) (Bm:=β) hlt (by simpa using hu0)).mono ?_
      rintro e w' ⟨rfl,hbw⟩
      exact⟨_,ρ,rfl,by simp only [VR];exact⟨trivial,trivial,trivial⟩,Step.below0 hr hbw⟩
     ·rename_i i hb
      split at hx
      ·rename_i es hes
       simp only [Option.bind_eq_some_iff] at hx
       obtain⟨l,hkl,hx⟩:=hx
       split at hx
       ·rename_i hok
        obtain⟨hok,hlen⟩:=hok
        obtain⟨rfl,hlt⟩:=base _ hb
        obtain⟨u0,hu0,hv0⟩:=(hr.cell hb hρ).1 0 _ rfl
        simp only [VR] at hv0
        obtain⟨β2,b2,c2,hρ2,rfl⟩:=hv0
        obtain⟨ents,clock,m1,m2,m3⟩:=hr.map' hes hρ2
        refine(sorted_some L6 L7 LS e9 (w:=w) (Bm:=β) hlt (by simpa using hu0) m1 m3 (keyInts_er hkl m2) hok hlen).mono ?_
        rintro e w' ⟨v',rfl,hrow,hnil,hbw⟩
        cases hs:isort l with
        | nil=>
         rw [hs] at hx
         cases hx
         have:=hnil.2 hs
         subst this
         exact⟨_,ρ,rfl,by simp only [VR];exact⟨trivial,trivial,trivial⟩,Step.below0 hr hbw⟩
        | cons y ys=>
         rw [hs] at hx hrow
         cases hx
         obtain⟨_,hrow⟩:=hrow
         rcases hrow with⟨rfl,hz⟩ | ⟨gb,cap,cur,rfl,hbase,hgb,r1,r2,r3,r4⟩
         ·simp at hz
         ·refine⟨_,fun j=>if j=h.next then some (gb,0,cur.size) else ρ j,rfl,?_,Step.below1 hr hbw hbase _ _ ?_⟩
          ·simp only [VR,if_true]
           exact⟨gb,0,cur.size,cap,_,rfl,rfl,by simpa using r1,by omega,.inr rfl⟩
          ·refine⟨gb,0,cur.size,cur,_,(0,0),by simp,hgb,rfl,?_,fun k a hk=>?_,fun o _=>by simp⟩
           ·simp only [List.length_map,List.length_cons] at r1 ⊢;omega
           ·simp only [List.getElem?_map,Option.map_eq_some_iff] at hk
            obtain⟨n,hn,rfl⟩:=hk
            refine⟨.int .i64 n,?_,by simp only [VR]⟩
            have e4:=congrArg (fun l=>l[k]?) r4
            have hk':k<(y::ys).length:=(List.getElem?_eq_some_iff.1 hn).1
            simp only [List.getElem?_take,List.getElem?_map,hn,Option.map_some,Nat.mul_one,if_pos hk'] at e4
            rw [Nat.zero_add]
            simpa using e4
       ·cases hx
      ·cases hx
     ·cases hx
    ·cases hx
   ·cases hx
  | [],hx=>cases hx
  | _::_::_,hx=>cases hx
 ·rw [Bool.not_eq_true] at hf
  rw [hf,cond_false] at hx
  exact hL f' args h v h' hx
theorem lookT_keys {L:Tab}(hL:CallOk P (lookT L))(L7:SlLaysZI.n7 P ρ7){f g:FuncId}(ef:ρ7.f 7=f)(eg:ρ7.f 10=g):CallOk P (lookT ((f,p1 (keysV g))::L)):=by
 subst ef eg
 intro f' args h v h' hx
 change (bif Nat.beq (ρ7.f 7) f' then p1 (keysV (ρ7.f 10)) args h else lookT L f' args h)=some (v,h') at hx
 by_cases hf:Nat.beq (ρ7.f 7) f'=true
 ·rw [hf,cond_true] at hx
  have hf':ρ7.f 7=f':=Nat.eq_of_beq_eq_true hf
  subst hf'
  refine⟨by obtain⟨nm,_,hfn⟩:=L7.f7;exact⟨_,hfn,rfl⟩,fun ρ w args' hr hargs=>?_⟩
  match args,hx with
  | [a],hx=>
   change keysV (ρ7.f 10) a h=some (v,h') at hx
   simp only [VRL] at hargs
   obtain⟨u,us,hu,hvr,rfl⟩:=hargs
   obtain rfl:args' = #[u]:=by cases args';simp_all
   unfold keysV at hx
   split at hx
   ·rename_i x
    cases hx
    obtain⟨mb,rfl⟩:∃ mb,u = .map mb:=by
     cases x with
     | none=>simp only [VR] at hvr;exact⟨_,hvr⟩
     | some i=>simp only [VR] at hvr;obtain⟨β,_,_,_,e⟩:=hvr;exact⟨_,e⟩
    have hle:ρ.le (fun j=>if j=h.next then some (w.heap.size,0,1) else ρ j):=fun j y hy=>by
     have:=hr.bnd j y hy
     show(if j=h.next then some (w.heap.size,0,1) else ρ j)=some y
     rw [if_neg (by omega)];exact hy
    refine(callsIn_wide (n:=6)).1 ((AnyZI.keys_in L7 Fence.wide 6 trivial rfl mb w).mono ?_)
    rintro e w' ⟨rfl,rfl⟩
    refine⟨_,_,rfl,?_,Step.alloc hr _ _ (0,1) ?_⟩
    ·simp only [VR,VRL]
     exact⟨_,_,rfl,rfl,_,_,rfl,⟨w.heap.size,0,1,by simp,rfl⟩,rfl⟩
    ·refine⟨w.heap.size,0,1,_,_,(0,0),by simp,heap_alloc_new w _,rfl,by simp,fun k a hk=>?_,fun _ _=>rfl⟩
     cases k with
     | zero=>simp at hk;subst hk;exact⟨.map mb,by simp,hvr.mono hle⟩
     | succ k=>simp at hk
   ·cases hx
  | [],hx=>cases hx
  | _::_::_,hx=>cases hx
 ·rw [Bool.not_eq_true] at hf
  rw [hf,cond_false] at hx
  exact hL f' args h v h' hx
end
end
end Go.Ab
