import Derived.Test.YtdmgkkcjnmmfmaaGreatAbW
import Derived.Shelf.SortM.Plain
import Derived.Shelf.SortM.SortNone
namespace Go.Ab
open Go
set_option linter.all false
def intsOf:List AV→Option (List Int)
 | []=>some []
 | .int .i64 n::l=>(intsOf l).map (n :: ·)
 | _=>none
theorem Mo:∀ {l:List AV} {zs:List Int},intsOf l=some zs→l=zs.map fun n=>.int .i64 n
 | [],zs,h=>by simp [intsOf] at h;subst h;rfl
 | a::l,zs,h=>by
  cases a with
  | int k n=>
   cases k<;>simp [intsOf] at h
   obtain⟨r,hr,rfl⟩:=h
   rw [List.map_cons,← Mo hr]
  | _=>simp [intsOf] at h
theorem K7:∀ zs:List Int,intsOf (zs.map fun n=>.int .i64 n)=some zs
 | []=>rfl
 | n::zs=>by simp only [List.map_cons,intsOf,K7 zs,Option.map_some]
def putIn (x:Int):List Int→List Int
 | []=>[x]
 | y::l=>if x≤y then x::y::l else y::putIn x l
def isort:List Int→List Int
 | []=>[]
 | x::l=>putIn x (isort l)
theorem JI (x:Int):∀ l,(putIn x l).Perm (x::l)
 | []=>List.Perm.refl _
 | y::l=>by
  rw [putIn]
  split
  ·exact List.Perm.refl _
  ·exact((JI x l).cons y).trans (List.Perm.swap x y l)
theorem FH:∀ l,(isort l).Perm l
 | []=>List.Perm.refl _
 | x::l=>(JI x (isort l)).trans ((FH l).cons x)
theorem Jc (x:Int):∀ {l:List Int},l.Pairwise (·≤·)→(putIn x l).Pairwise (·≤·)
 | [],_=>by simp [putIn]
 | y::l,h=>by
  rw [putIn]
  rw [List.pairwise_cons] at h
  split
  ·rename_i hxy
   refine List.pairwise_cons.2 ⟨fun z hz=>?_,List.pairwise_cons.2 h⟩
   rcases List.mem_cons.1 hz with rfl | hz
   ·exact hxy
   ·have:=h.1 z hz;omega
  ·rename_i hxy
   refine List.pairwise_cons.2 ⟨fun z hz=>?_,Jc x h.2⟩
   rcases List.mem_cons.1 ((JI x l).mem_iff.1 hz) with rfl | hz
   ·omega
   ·exact h.1 z hz
theorem Je:∀ l,(isort l).Pairwise (·≤·)
 | []=>List.Pairwise.nil
 | x::l=>Jc x (Je l)
theorem NW (l:List Int):isort l=l.mergeSort fun x y=>decide (x≤y):=by
 have h1:=Je l
 have h2:(l.mergeSort fun x y=>decide (x≤y)).Pairwise fun x y=>decide (x≤y)=true:=
  List.pairwise_mergeSort (fun a b c hab hbc=>by simp at hab hbc ⊢;omega) (fun a b=>by simp;omega) l
 have h2:(l.mergeSort fun x y=>decide (x≤y)).Pairwise (·≤·):=h2.imp (by simp)
 have hp:(isort l).Perm (l.mergeSort fun x y=>decide (x≤y)):=(FH l).trans (List.mergeSort_perm l _).symm
 exact hp.eq_of_pairwise (fun a b _ _ h1 h2=>by omega) h1 h2
def sortV (v:AV)(h:Heap):Option (AV × Heap):=
 match v with
 | .sl none 0 _=>some (.tup [],h)
 | .sl (some (b,o)) 0 _=>some (.tup [],h)
 | .sl (some (b,o)) (n+1) _=>
  match h.get b with
  | some (.cells true vs)=>
   if o+(n+1)≤vs.length∧n≤1099511627776 then
    (intsOf ((vs.drop o).take (n+1))).map fun zs=>(.tup [],h.put b (some (.cells true (vs.take o++(isort zs).map (fun n=>.int .i64 n)++vs.drop (o+(n+1))))))
   else none
  | _=>none
 | _=>none
section
variable {P:Program}
theorem PC {ρ:Rho}{h:Heap}{w:World}(hr:R P ρ h w){b o n:Nat}{vs:List AV}{zs ys:List Int}(hb:h.get b=some (.cells true vs))(hl:o+n≤vs.length)(hzs:(vs.drop o).take n=zs.map fun n=>.int .i64 n)(hys:ys.length=n)
  {β bb c:Nat} (hρ:ρ b=some (β,bb,c)) (q:Nat) (os:Array Obj) :
  Step P ρ h w ρ (h.put b (some (.cells true (vs.take o++ys.map (fun n=>.int .i64 n)++vs.drop (o+n))))) (Sort.grow (Sort.putRow (Value.int .i64) (Sort.ahead w q) β (bb+o) ys.toArray) os):=by
 obtain⟨β',bb',c',cs,e,fz,h1,h2,h3,h4,h5,h6⟩:=hr.blk b _ hb
 rw [hρ] at h1
 cases h1
 have hβ:β<w.heap.size:=(Array.getElem?_eq_some_iff.1 h2).1
 have hheap:∀ k,k<w.heap.size→(Sort.grow (Sort.putRow (Value.int .i64) (Sort.ahead w q) β (bb+o) ys.toArray) os).heap[k]?=if k=β then some (.cells (Sort.putCells (Value.int .i64) (bb+o) ys.toArray cs) e fz) else w.heap[k]?:=by
  intro k hk
  show((w.heap.modify β (Sort.onCells (Sort.putCells (Value.int .i64) (bb+o) ys.toArray)))++os)[k]?=_
  rw [Array.getElem?_append_left (by simpa using hk),Array.getElem?_modify]
  by_cases e':β=k
  ·subst e'
   rw [if_pos rfl,if_pos rfl,h2];rfl
  ·rw [if_neg e',if_neg (fun h=>e' h.symm)]
 have hvl:(vs.take o++ys.map (fun n=>AV.int .i64 n)++vs.drop (o+n)).length=vs.length:=by
  simp only [List.length_append,List.length_take,List.length_map,List.length_drop,hys];omega
 have hsz:w.heap.size≤(Sort.grow (Sort.putRow (Value.int .i64) (Sort.ahead w q) β (bb+o) ys.toArray) os).heap.size:=by
  show w.heap.size≤((w.heap.modify β (Sort.onCells (Sort.putCells (Value.int .i64) (bb+o) ys.toArray)))++os).size
  simp
 have wr':∀ i bl,(h.put b (some (.cells true (vs.take o++ys.map (fun n=>AV.int .i64 n)++vs.drop (o+n))))).get i=some bl→∃ bl',h.get i=some bl'∧bl'.wr=bl.wr:=fun i bl hi=>by
  rw [Heap.get_put] at hi
  split at hi
  ·rename_i ei;subst ei;cases hi;exact⟨_,hb,rfl⟩
  ·exact⟨bl,hi,rfl⟩
 refine⟨⟨fun i bl hi=>?_,fun i j b1 b2 γ x x' hne hi hj hxi hxj=>?_,hr.bnd,hr.glob⟩,ρ.le_refl,⟨hsz,fun γ hγ hno=>?_,rfl,rfl,rfl⟩,Nat.le_refl _,fun i _ hi=>?_,(fun i x h h'=>by rw [h] at h';cases h'),fun i bl γ x hi hx _=>?_⟩
 ·rw [Heap.get_put] at hi
  split at hi
  ·rename_i ei
   subst ei
   cases hi
   refine⟨β,bb,c,_,e,fz,hρ,by rw [hheap β hβ,if_pos rfl],by simpa [Sort.putCells] using h3,by rw [hvl];exact h4,fun k a ha=>?_,h6⟩
   have hk:k<vs.length:=by
    have:=(List.getElem?_eq_some_iff.1 ha).1
    rw [hvl] at this;exact this
   obtain⟨v0,hv0,hvr0⟩:=h5 k vs[k] (List.getElem?_eq_getElem hk)
   by_cases hin:o≤k∧k<o+n
   ·have hal:a = .int .i64 (ys[k-o]?.getD 0):=by
     rw [List.append_assoc,List.getElem?_append_right (by simp;omega),List.getElem?_append_left (by simp;omega)] at ha
     simp only [List.length_take,List.getElem?_map] at ha
     rw [show k-min o vs.length=k-o by omega] at ha
     obtain⟨y,hy⟩:∃ y,ys[k-o]?=some y:=⟨_,List.getElem?_eq_getElem (by omega)⟩
     rw [hy] at ha ⊢
     simp at ha;exact ha.symm
    refine⟨.int .i64 (ys[k-o]?.getD 0),?_,by rw [hal];simp only [VR]⟩
    simp only [Sort.putCells,Array.getElem?_mapIdx,hv0,Option.map_some]
    rw [if_pos ⟨by omega,by simp;omega⟩]
    have hlt:k-o<ys.length:=by omega
    rw [show bb+k-(bb+o)=k-o by omega,getElem!_pos _ _ (by simpa using hlt)]
    simp [hlt]
   ·have hal:vs[k]?=some a:=by
     rcases (by omega:k<o∨o+n≤k) with hlo | hhi
     ·rw [List.append_assoc,List.getElem?_append_left (by simp;omega),List.getElem?_take,if_pos hlo] at ha
      exact ha
     ·rw [List.getElem?_append_right (by simp;omega),List.getElem?_drop] at ha
      simp only [List.length_append,List.length_take,List.length_map,hys] at ha
      rw [show o+n+(k-(min o vs.length+n))=k by omega] at ha
      exact ha
    rw [List.getElem?_eq_getElem hk] at hal
    cases hal
    refine⟨v0,?_,hvr0⟩
    simp only [Sort.putCells,Array.getElem?_mapIdx,hv0,Option.map_some]
    rw [if_neg (by simp;omega)]
  ·rename_i ei
   refine(hr.blk i bl hi).same fun γ x hx=>?_
   obtain⟨γ',y,g1,g2⟩:=(hr.blk i bl hi).at
   rw [hx] at g1
   cases g1
   rw [hheap γ g2,if_neg]
   intro eγ
   subst eγ
   have:=(hr.inj i b bl _ γ _ _ ei hi hb hx hρ).2
   cases this
 ·obtain⟨b1',g1,e1⟩:=wr' i b1 hi
  obtain⟨b2',g2,e2⟩:=wr' j b2 hj
  have:=hr.inj i j b1' b2' γ x x' hne g1 g2 hxi hxj
  rw [e1,e2] at this;exact this
 ·rw [hheap γ hγ,if_neg]
  intro eγ
  subst eγ
  exact hno b _ _ hb rfl hρ
 ·rw [Heap.get_put]
  split
  ·rename_i ei;subst ei;rw [hb] at hi;cases hi
  ·exact hi
 ·obtain⟨bl',g1,e1⟩:=wr' i bl hi
  exact⟨i,bl',x,g1,hx,fun h=>by rw [e1];exact h⟩
theorem OD {L:Tab}(hL:CallOk P (lookT L)){ρL:Shelf.Ren}(Ly:Proofs.SlLaysM.n5 P ρL){f:FuncId}(ef:ρL.f 5=f):CallOk P (lookT ((f,p1 sortV)::L)):=by
 subst ef
 intro f' args h v h' hx
 change (bif Nat.beq (ρL.f 5) f' then p1 sortV args h else lookT L f' args h)=some (v,h') at hx
 by_cases hf:Nat.beq (ρL.f 5) f'=true
 ·rw [hf,cond_true] at hx
  have hf':ρL.f 5=f':=Nat.eq_of_beq_eq_true hf
  subst hf'
  refine⟨by obtain⟨nm,_,hfn⟩:=Ly.f5;exact⟨_,hfn,rfl⟩,fun ρ w args' hr hargs=>?_⟩
  match args,hx with
  | [a],hx=>
   change sortV a h=some (v,h') at hx
   simp only [VRL] at hargs
   obtain⟨u,us,hu,hvr,rfl⟩:=hargs
   obtain rfl:args' = #[u]:=by cases args';simp_all
   have none_case:∀ (p:Option Addr) (cap:Nat),u = .slice p 0 cap→(v,h')=(.tup [],h)→Calls P (ρL.f 5) #[u] w fun e w'=>∃ v' ρ',e = .returned v'∧VR ρ' v v'∧Step P ρ h w ρ' h' w':=by
    rintro p cap rfl he
    cases he
    refine(Proofs.AnyM.slices_Sort_int_none Ly p cap w).mono ?_
    rintro e w' ⟨rfl,rfl⟩
    exact⟨_,ρ,rfl,by simp only [VR];exact⟨#[],rfl,VRL.nil⟩,Step.refl hr⟩
   cases a with
   | sl p n c=>
    cases p with
    | none=>
     cases n with
     | zero=>
      simp only [VR] at hvr
      exact none_case none 0 hvr.2.2 (by simp only [sortV] at hx;exact(Option.some.inj hx).symm)
     | succ n=>simp [sortV] at hx
    | some bo=>
     obtain⟨b,o⟩:=bo
     cases n with
     | zero=>
      have hx':(v,h')=(.tup [],h):=by simp only [sortV] at hx;exact(Option.some.inj hx).symm
      cases c with
      | ex cap=>
       simp only [VR] at hvr
       obtain⟨_,_,_,_,hu⟩:=hvr
       exact none_case _ _ hu hx'
      | un sz=>
       simp only [VR] at hvr
       obtain⟨_,_,_,_,_,_,hu,_⟩:=hvr
       exact none_case _ _ hu hx'
     | succ n=>
      simp only [sortV] at hx
      split at hx
      ·rename_i vs hb
       split at hx
       ·rename_i hlen
        simp only [Option.map_eq_some_iff] at hx
        obtain⟨zs,hzs,he⟩:=hx
        cases he
        have hzs':=Mo hzs
        have hzl:zs.length=n+1:=by
         have:=congrArg List.length hzs'
         simp only [List.length_take,List.length_drop,List.length_map] at this;omega
        obtain⟨β,bb,cc,cap,hρ,rfl⟩:∃ β bb cc cap,ρ b=some (β,bb,cc)∧u = .slice (some ⟨β,bb+o,none⟩) (n+1) cap:=by
         cases c with
         | ex cap=>
          simp only [VR] at hvr
          obtain⟨β,bb,cc,h1,h2⟩:=hvr
          exact⟨β,bb,cc,cap,h1,h2⟩
         | un sz=>
          simp only [VR] at hvr
          obtain⟨β,bb,cc,cap,ad,h1,h2,h3,h4,h5⟩:=hvr
          rcases h5 with h5 | h5
          ·omega
          ·exact⟨β,bb,cc,cap,h1,by rw [h2,h5]⟩
        obtain⟨β',bb',c',cs,e,fz,g1,g2,g3,g4,g5,g6⟩:=hr.blk b _ hb
        rw [hρ] at g1
        cases g1
        have hH:Sort.Holds (Value.int .i64) w β (bb+o) zs.toArray:=by
         intro j hj
         have hj:j<zs.length:=by simpa using hj
         have hvj:vs[o+j]?=some (.int .i64 zs[j]):=by
          have:=congrArg (fun l=>l[j]?) hzs'
          simp only [List.getElem?_take,List.getElem?_drop,List.getElem?_map] at this
          rw [if_pos (by omega),List.getElem?_eq_getElem hj] at this
          exact this
         obtain⟨v0,hv0,hvr0⟩:=g5 _ _ hvj
         simp only [VR] at hvr0
         subst hvr0
         have hlt:bb+(o+j)<cs.size:=(Array.getElem?_eq_some_iff.1 hv0).1
         refine⟨?_,?_⟩
         ·unfold World.cell?
          rw [g2]
          simp only [Option.isSome_none,Bool.false_eq_true,if_false]
          rw [Nat.add_assoc,hv0,getElem!_pos _ _ (by simpa using hj)]
          simp
         ·unfold World.frozen?
          rw [g2]
          have:=g6 (bb+o+j) (by omega)
          simp only [Bool.and_eq_false_iff,decide_eq_false_iff_not]
          by_cases hlo:fz.1≤bb+o+j
          ·right;omega
          ·left;omega
        have hcall:=Proofs.AnyM.slices_Sort_int Ly β (bb+o) cap zs w hH (Array.getElem?_eq_some_iff.1 g2).1 (by omega)
        rw [hzl] at hcall
        refine hcall.mono ?_
        rintro e' w' ⟨rfl,q,os,rfl⟩
        have hil:(isort zs).length=n+1:=by rw [(FH zs).length_eq,hzl]
        have st:=PC hr (n:=n+1) (ys:=isort zs) hb hlen.1 hzs' hil hρ q os
        rw [NW] at st ⊢
        exact⟨_,ρ,rfl,by simp only [VR];exact⟨#[],rfl,VRL.nil⟩,st⟩
       ·cases hx
      ·cases hx
   | _=>simp [sortV] at hx
  | [],hx=>cases hx
  | _::_::_,hx=>cases hx
 ·rw [Bool.not_eq_true] at hf
  rw [hf,cond_false] at hx
  exact hL f' args h v h' hx
end
end Go.Ab
