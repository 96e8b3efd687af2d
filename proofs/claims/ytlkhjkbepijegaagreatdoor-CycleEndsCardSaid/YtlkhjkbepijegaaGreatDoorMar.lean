import Derived.Test.YtlkhjkbepijegaaGreatDoorRfa
import Derived.Test.YtlkhjkbepijegaaGreatDoorRel
import Derived.Test.YtlkhjkbepijegaaGreatDoorArn
namespace Go.Ab.F
open Go Go.Ab
set_option linter.all false
set_option linter.all false
attribute [local congr] c_bind c_cl c_mk c_lp c_clC c_gQ c_gV c_condE c_thenK
def ix (i:Nat):Bool:=Nat.ble 2 i && Nat.ble i 12 && !(Nat.beq i 10)
theorem KpX.sub {X Z:List Nat}{g g':Heap}(k:KpX X g g')(h:∀ j∈Z,j∈X):KpX Z g g':=⟨k.next,fun j hj hl=>k.get j (h j hj) hl⟩
theorem KpX.refl (X:List Nat)(g:Heap):KpX X g g:=⟨Nat.le_refl _,fun _ _ _=>rfl⟩
def outOf (X:List Nat)(g:Heap):List Nat:=(List.range g.next).filter fun j=>!X.contains j
theorem KpX.frame {X:List Nat}{g g':Heap}(k:KpX X g g'):Same (outOf X g) g g':=
 ⟨k.next,fun j hj hn=>k.get j (by
  apply Classical.byContradiction
  intro h
  exact hn (by unfold outOf;rw [List.mem_filter];exact⟨by simpa using hj,by simpa using h⟩)) hj⟩
theorem not_out {X:List Nat}{g:Heap}{j:Nat}(h:j∈X):j∉outOf X g:=fun hm=>by
 unfold outOf at hm;rw [List.mem_filter] at hm;simp [h] at hm
structure Mm (h:Heap)(C:Nat→Nat)(l:PAl)(T:List Shp)(qb:Option Nat)(gq:List Int)(X:List Nat):Prop where
 mkb:h.get (C 11)=some (.cells true [.ptr (some (C 6,0)),.ptr (some (C 2,0)),.ptr (some (C 12,0))])
 gqb:∃ v,h.get (C 12)=some (.cells true [v])∧QuV h 0 qb v gq
 tab:TbAt h (C 2) (C 3) (some (C 9)) T
 al:AlAt h (C 4) (C 5) (C 6) (C 7) (C 8) l
 wf:Wf l.ar
 lt:∀ i,ix i=true→C i<h.next
 pos:∀ i,ix i=true→C i≠0
 inj:∀ i j,ix i=true→ix j=true→C i=C j→i=j
 t0:Tab0 h
 xC:∀ i,ix i=true→C i∉X
 xq:∀ i,qb=some i→i∉X∧(∀ j,ix j=true→i≠C j)∧i≠0∧i<h.next
 x0:0∈X
 xl:∀ j∈X,j<h.next
def ownP (C:Nat→Nat)(qb:Option Nat):List Nat:=C 2::C 3::C 4::C 5::C 6::C 7::C 8::C 9::C 11::C 12::qb.toList
theorem ix_cases {i:Nat}(h:ix i=true):i=2∨i=3∨i=4∨i=5∨i=6∨i=7∨i=8∨i=9∨i=11∨i=12:=by
 unfold ix at h
 have h1:Nat.ble 2 i=true∧Nat.ble i 12=true∧Nat.beq i 10=false:=by
  revert h
  cases Nat.ble 2 i<;>cases Nat.ble i 12<;>cases Nat.beq i 10<;>simp
 have h2:=Nat.le_of_ble_eq_true h1.1
 have h3:=Nat.le_of_ble_eq_true h1.2.1
 have h4:i≠10:=fun e=>by subst e;exact absurd h1.2.2 (by decide)
 omega
theorem ownP_mem {C:Nat→Nat}{qb:Option Nat}{j:Nat}:j∈ownP C qb↔(∃ i,ix i=true∧j=C i)∨qb=some j:=by
 constructor
 ·intro h
  simp only [ownP,List.mem_cons,Option.mem_toList] at h
  rcases h with h | h | h | h | h | h | h | h | h | h | h
  ·exact .inl ⟨2,rfl,h⟩
  ·exact .inl ⟨3,rfl,h⟩
  ·exact .inl ⟨4,rfl,h⟩
  ·exact .inl ⟨5,rfl,h⟩
  ·exact .inl ⟨6,rfl,h⟩
  ·exact .inl ⟨7,rfl,h⟩
  ·exact .inl ⟨8,rfl,h⟩
  ·exact .inl ⟨9,rfl,h⟩
  ·exact .inl ⟨11,rfl,h⟩
  ·exact .inl ⟨12,rfl,h⟩
  ·exact .inr h
 ·rintro(⟨i,hi,rfl⟩ | h)
  ·rcases ix_cases hi with rfl | rfl | rfl | rfl | rfl | rfl | rfl | rfl | rfl | rfl<;>simp [ownP]
  ·simp [ownP,h]
section
variable {h:Heap}{C:Nat→Nat}{l:PAl}{T:List Shp}{qb:Option Nat}{gq:List Int}{X:List Nat}
theorem Mm.ne (H:Mm h C l T qb gq X)(i j:Nat)(hi:ix i=true:=by rfl)(hj:ix j=true:=by rfl)(hij:i≠j:=by decide):C i≠C j:=fun e=>hij (H.inj i j hi hj e)
theorem Mm.frame {h' : Heap} {S Y : List Nat} (H : Mm h C l T qb gq X) (s : Same S h h') (hS : ∀ j ∈ S, j ∉ ownP C qb ∧ j ≠ 0) (hY : ∀ j ∈ Y, j ∉ ownP C qb ∧ j < h'.next) (h0 : 0 ∈ Y) : Mm h' C l T qb gq Y := by
  obtain ⟨v, hv, hq⟩ := H.gqb
  have hn : ∀ i, ix i = true → C i ∉ S := fun i hi hm => (hS _ hm).1 (ownP_mem.2 (.inl ⟨i, hi, rfl⟩))
  exact
  { mkb := (s.get _ (H.lt 11 rfl) (hn 11 rfl)).trans H.mkb
    gqb := ⟨v, (s.get _ (H.lt 12 rfl) (hn 12 rfl)).trans hv, hq.keep s (fun i hi hm => (hS _ hm).1 (ownP_mem.2 (.inr hi)))⟩
    tab := H.tab.same s (hn 2 rfl) (hn 3 rfl) (fun i hi => by cases hi; exact hn 9 rfl)
    al := H.al.same s (hn 4 rfl) (hn 5 rfl) (hn 6 rfl) (hn 7 rfl) (hn 8 rfl)
    wf := H.wf
    lt := fun i hi => Nat.lt_of_lt_of_le (H.lt i hi) s.next
    pos := H.pos
    inj := H.inj
    t0 := H.t0.same s (fun hm => (hS _ hm).2 rfl)
    xC := fun i hi hm => (hY _ hm).1 (ownP_mem.2 (.inl ⟨i, hi, rfl⟩))
    xq := fun i hi => ⟨fun hm => (hY _ hm).1 (ownP_mem.2 (.inr hi)), (H.xq i hi).2.1, (H.xq i hi).2.2.1, Nat.lt_of_lt_of_le (H.xq i hi).2.2.2 s.next⟩
    x0 := h0
    xl := fun j hj => (hY j hj).2 }
theorem Mm.own (H:Mm h C l T qb gq X){j:Nat}(hj:j∈ownP C qb):j∉X∧j≠0∧j<h.next:=by
 rcases ownP_mem.1 hj with⟨i,hi,rfl⟩ | hq
 ·exact⟨H.xC i hi,H.pos i hi,H.lt i hi⟩
 ·exact⟨(H.xq j hq).1,(H.xq j hq).2.2⟩
theorem Mm.keep {h':Heap}(H:Mm h C l T qb gq X)(s:Same [] h h'):Mm h' C l T qb gq X:=
 H.frame s (by simp) (fun j hj=>⟨fun hm=>(H.own hm).1 hj,Nat.lt_of_lt_of_le (H.xl j hj) s.next⟩) H.x0
theorem Mm.kp {h':Heap}{Z Y:List Nat}(H:Mm h C l T qb gq X)(k:KpX Z h h')(hZ:∀ j∈ownP C qb,j∈Z)(z0:0∈Z)(hY:∀ j∈Y,j∉ownP C qb∧j<h'.next)(h0:0∈Y):Mm h' C l T qb gq Y:=
 H.frame k.frame (fun j hj=>⟨fun hm=>not_out (hZ j hm) hj,fun e=>by subst e;exact not_out z0 hj⟩) hY h0
theorem Mm.subX {Y:List Nat}(H:Mm h C l T qb gq X)(hs:∀ j∈Y,j∈X)(h0:0∈Y):Mm h C l T qb gq Y:=
 H.frame (Same.refl [] h) (by simp) (fun j hj=>⟨fun hm=>(H.own hm).1 (hs j hj),H.xl j (hs j hj)⟩) h0
theorem Mm.addX {g:Heap}(H:Mm h C l T qb gq X)(s:Same [] h g){b:Nat}(h1:h.next≤b)(h2:b<g.next):Mm g C l T qb gq (b::X):=
 H.frame s (by simp) (fun j hj=>by
  rw [List.mem_cons] at hj
  rcases hj with rfl | hj
  ·exact⟨fun hm=>by have:=(H.own hm).2.2;omega,h2⟩
  ·exact⟨fun hm=>(H.own hm).1 hj,Nat.lt_of_lt_of_le (H.xl j hj) s.next⟩) (List.mem_cons_of_mem _ H.x0)
theorem Mm.turn {h' : Heap} {l' : PAl} (H : Mm h C l T qb gq X) (s : Same [C 5, C 7, C 8] h h') (a : AlAt h' (C 4) (C 5) (C 6) (C 7) (C 8) l') (w : Wf l'.ar) : Mm h' C l' T qb gq X ∧ KpX X h h' := by
  have hS : ∀ i, ix i = true → i ≠ 5 → i ≠ 7 → i ≠ 8 → C i ∉ [C 5, C 7, C 8] := fun i hi h5 h7 h8 hm => by
    simp only [List.mem_cons, List.not_mem_nil, or_false] at hm
    rcases hm with e | e | e
    · exact h5 (H.inj i 5 hi rfl e)
    · exact h7 (H.inj i 7 hi rfl e)
    · exact h8 (H.inj i 8 hi rfl e)
  obtain ⟨v, hv, hq⟩ := H.gqb
  refine ⟨
  { H with
    mkb := (s.get _ (H.lt 11 rfl) (hS 11 rfl (by decide) (by decide) (by decide))).trans H.mkb
    gqb := ⟨v, (s.get _ (H.lt 12 rfl) (hS 12 rfl (by decide) (by decide) (by decide))).trans hv, hq.keep s (fun i hi => by
      have h1 := (H.xq i hi).2.1
      have h5 := h1 5 rfl
      have h7 := h1 7 rfl
      have h8 := h1 8 rfl
      simp; omega)⟩
    tab := H.tab.same s (hS 2 rfl (by decide) (by decide) (by decide)) (hS 3 rfl (by decide) (by decide) (by decide)) (fun i hi => by cases hi; exact hS 9 rfl (by decide) (by decide) (by decide))
    al := a
    wf := w
    lt := fun i hi => Nat.lt_of_lt_of_le (H.lt i hi) s.next
    t0 := H.t0.same s (by
      have h5 := H.pos 5 rfl
      have h7 := H.pos 7 rfl
      have h8 := H.pos 8 rfl
      simp; omega)
    xq := fun i hi => ⟨(H.xq i hi).1, (H.xq i hi).2.1, (H.xq i hi).2.2.1, Nat.lt_of_lt_of_le (H.xq i hi).2.2.2 s.next⟩
    xl := fun j hj => Nat.lt_of_lt_of_le (H.xl j hj) s.next }, KpX.of s fun j hj => ?_⟩
  simp only [List.mem_cons, List.not_mem_nil, or_false] at hj
  rcases hj with rfl | rfl | rfl
  · exact H.xC 5 rfl
  · exact H.xC 7 rfl
  · exact H.xC 8 rfl
theorem Mm.queue {h' : Heap} (H : Mm h C l T qb gq X) {S : List Nat} (hS : ∀ j ∈ S, some j = qb) (s : Same S h h') {qb' : Option Nat} {v' : AV} {gq' : List Int} (hv : QuV h' 0 qb' v' gq') (hb : ∀ i, qb' = some i → qb = some i ∨ (h.next ≤ i ∧ i < h'.next)) :
    stP 1 h' (.ptr (some (C 12, 0))) v' = some (.bot, h'.put (C 12) (some (.cells true [v']))) ∧ Mm (h'.put (C 12) (some (.cells true [v']))) C l T qb' gq' X ∧ KpX X h (h'.put (C 12) (some (.cells true [v']))) := by
  obtain ⟨v, hg, hq⟩ := H.gqb
  have nC : ∀ i, ix i = true → C i ∉ S := fun i hi hm => (H.xq _ (hS _ hm).symm).2.1 i hi rfl
  have hg' : h'.get (C 12) = some (.cells true [v]) := (s.get _ (H.lt 12 rfl) (nC 12 rfl)).trans hg
  have st : stP 1 h' (.ptr (some (C 12, 0))) v' = some (.bot, h'.put (C 12) (some (.cells true [v']))) := stP_one hg' (by simp) hv.sc
  have hb' : ∀ i, qb' = some i → i ∉ X ∧ (∀ j, ix j = true → i ≠ C j) ∧ i ≠ 0 ∧ i < h'.next := fun i hi => by
    rcases hb i hi with h1 | ⟨h1, h2⟩
    · obtain ⟨x1, x2, x3, x4⟩ := H.xq i h1
      exact ⟨x1, x2, x3, Nat.lt_of_lt_of_le x4 s.next⟩
    · refine ⟨fun hx => by have := H.xl i hx; omega, fun j hj e => by have := H.lt j hj; omega, by have := H.t0.pos; omega, h2⟩
  have s2 : Same (C 12 :: S) h (h'.put (C 12) (some (.cells true [v']))) := (s.sub (fun j hj => List.mem_cons_of_mem _ hj)).trans ((Same.put _ _ _).sub (by simp))
  have nS : ∀ i, ix i = true → i ≠ 12 → C i ∉ C 12 :: S := fun i hi h12 hm => by
    rw [List.mem_cons] at hm
    rcases hm with e | hm
    · exact h12 (H.inj i 12 hi rfl e)
    · exact nC i hi hm
  refine ⟨st,
  { H with
    mkb := (s2.get _ (H.lt 11 rfl) (nS 11 rfl (by decide))).trans H.mkb
    gqb := ⟨v', get_put_eq, hv.keep (Same.put _ _ _) (fun i hi => by simp; exact (hb' i hi).2.1 12 rfl)⟩
    tab := H.tab.same s2 (nS 2 rfl (by decide)) (nS 3 rfl (by decide)) (fun i hi => by cases hi; exact nS 9 rfl (by decide))
    al := H.al.same s2 (nS 4 rfl (by decide)) (nS 5 rfl (by decide)) (nS 6 rfl (by decide)) (nS 7 rfl (by decide)) (nS 8 rfl (by decide))
    lt := fun i hi => Nat.lt_of_lt_of_le (H.lt i hi) s2.next
    t0 := H.t0.same s2 (by
      rw [List.mem_cons]
      rintro (e | hm)
      · exact H.pos 12 rfl e.symm
      · exact (H.xq _ (hS _ hm).symm).2.2.1 rfl)
    xq := hb'
    xl := fun j hj => Nat.lt_of_lt_of_le (H.xl j hj) s2.next }, KpX.of s2 fun j hj => ?_⟩
  rw [List.mem_cons] at hj
  rcases hj with rfl | hj
  · exact H.xC 12 rfl
  · exact (H.xq j (hS j hj).symm).1
theorem Mm.m (H:Mm h C l T qb gq X)(k:Nat)(x:AV)(hx : [AV.ptr (some (C 6,0)),.ptr (some (C 2,0)),.ptr (some (C 12,0))][k]?=some x):ldS h (.ptr (some (C 11,k)))=some x:=by rw [ldS_at H.mkb];exact hx
theorem QuV.appN {g:Heap}{base c:Nat}{b:Option Nat}{v:AV}{L:List Int}{x:Int}(H:QuV g base b v L)(hc:g.get c=some (.cells true [.int .i64 x]))(hb:base≤g.next)(hl:L.length≤2 ^ 40) :
  ∃ v' g',appendA g 1 8 v (.sl (some (c,0)) 1 (.ex 1))=some (v',g')∧QuV g' base (some g.next) v' (L ++ [x])∧Same b.toList g g'∧g'.next=g.next+1:=by
 have hld:loadN g (c,0) (1 * 1)=some [.int .i64 x]:=by simp only [loadN,hc,spanF_eq];rfl
 cases b with
 | none=>
  obtain⟨rfl,rfl⟩:=H.nil rfl
  refine⟨.sl (some (g.next,0)) 1 (.un 1),g.new (.cells true [.int .i64 x]),?_,⟨(fun h=>by cases h),fun i hi=>?_⟩,Same.new _ _,rfl⟩
  ·simp only [appendA,countA,addedA,hld,Option.bind_some]
   rw [if_neg (by omega),if_pos (by omega)]
   rfl
  ·cases hi
   exact⟨hb,Nat.lt_succ_self _,[],get_new_eq,rfl⟩
 | some i=>
  obtain⟨b1,b2,pre,b3,rfl⟩:=H.blk i rfl
  have hle:(pre++wsC L).length=pre.length+L.length:=by rw [List.length_append,wsC_len]
  refine⟨.sl (some (g.next,0)) (L.length+1) (.un 1),(g.put i none).new (.cells true (wsC (L ++ [x]))),?_,⟨(fun h=>by cases h),fun j hj=>?_⟩,?_,rfl⟩
  ·simp only [appendA,countA,addedA,hld,Option.bind_some,ne_eq,not_true_eq_false,if_false,b3]
   rw [if_neg (by omega),if_pos (by omega),if_neg (by omega),if_pos (by omega)]
   have:([AV.int .i64 x].all scalar)=true:=rfl
   simp only [this,if_true,List.drop_left,wsC_app]
   rfl
  ·cases hj
   exact⟨hb,Nat.lt_succ_self _,[],by
    have:=get_new_eq (h:=g.put i none) (b:=.cells true (wsC (L ++ [x])));simpa using this,by simp⟩
  ·exact(Same.put _ _ _).sub (by simp) |>.trans ((Same.new _ _).sub (by simp))
theorem qadd_ok (H:Mm h C l T qb gq X)(ad:Int)(hl:gq.length≤2 ^ 40):Ok (Cb (.ptr (some (C 12,0))) (.int .i64 ad) h) fun r=>r.1 = .tup []∧∃ qb',Mm r.2 C l T qb' (gq ++ [ad]) X∧KpX X h r.2:=by
 obtain⟨v,hg,hq⟩:=H.gqb
 have l0:ldS h (.ptr (some (C 12,0)))=some v:=by rw [ldS_at hg];rfl
 have b1:bsP 1 [AV.int .i64 0] 1 [(0,.int .i64 ad)]=some (.cells true [.int .i64 ad],fun i=>.sl (some (i,0)) 1 (.ex 1)):=rfl
 have s1:Same [] h (h.new (.cells true [.int .i64 ad])):=Same.new _ _
 have H1:=H.keep s1
 have hq1:=hq.keep s1 (by simp)
 obtain⟨v',g2,e,hq2,s2,n2⟩:=hq1.appN (c:=h.next) (x:=ad) get_new_eq (Nat.zero_le _) hl
 obtain⟨st,H3,k3⟩:=H1.queue (S:=qb.toList) (fun j hj=>by simp at hj;exact hj.symm) s2 hq2 (fun i hi=>by cases hi;exact .inr ⟨Nat.le_refl _,by rw [n2];exact Nat.lt_succ_self _⟩)
 exact ok_val (by simp -implicitDefEqProofs only [Cb,nilV_ptr,Option.bind_some,faP_ptr,Nat.zero_add,l0,b1,mk_some,e,cl_some,st]<;>rfl) ⟨rfl,_,H3,(KpX.same s1).trans k3⟩
theorem mshade_ok (H:Mm h C l T qb gq X)(ad:Int)(hl:gq.length≤2 ^ 40):Ok (AW (.ptr (some (C 11,0))) (.int .i64 ad) h) fun r=>r.1 = .bool (l.ar.mark ad).1∧∃ qb',Mm r.2 C ⟨(l.ar.mark ad).2,l.un⟩ T qb' (if (l.ar.mark ad).1 then gq ++ [ad] else gq) X∧KpX X h r.2:=by
 refine Ok.eq ?_ (by simp -implicitDefEqProofs only [AW,nilV_ptr,Option.bind_some,faP_ptr,Nat.zero_add,H.m 0 _ rfl]<;>rfl)
 refine ok_cl (mark_ok H.al.ar ad) ?_
 rintro _ g1 ⟨rfl,A1,s1⟩
 simp only at A1 s1
 have S:=mark_same l.ar ad
 obtain⟨H1,k1⟩:=H.turn (l':=⟨(l.ar.mark ad).2,l.un⟩) (s1.sub (by simp)) (H.al.arena (s1.sub (by simp)) A1 S.len) (S.wf H.wf)
 cases hm:(l.ar.mark ad).1 with
 | false=>exact ok_val (v:=.bool false) (g:=g1) (by simp -implicitDefEqProofs only [un_not,Bool.not_false,Option.bind_some,condE_true]) ⟨rfl,qb,by simpa using H1,k1⟩
 | true=>
  refine Ok.eq ?_ (by simp -implicitDefEqProofs only [un_not,Bool.not_true,Option.bind_some,condE_false,nilV_ptr,faP_ptr,Nat.zero_add,H1.m 2 _ rfl]<;>rfl)
  refine ok_cl (qadd_ok H1 ad hl) ?_
  rintro _ g2 ⟨rfl,qb',H2,k2⟩
  simp only at H2 k2
  exact ok_val (v:=.bool true) (g:=g2) rfl ⟨rfl,qb',by simpa using H2,k1.trans k2⟩
end
set_option linter.all false
attribute [local congr] c_bind c_cl c_mk c_lp c_clC c_gQ c_gV c_condE c_thenK
def shpZ:Shp:=⟨0,0,0⟩
def fieldsUp (S:Shp)(a:PAr)(ad w:Int)(k:Nat):List Int:=(List.range k).filterMap fun i:Nat=>if holdsB S i w=true∧(a.read ad (i+1)).1≠0 then some (a.read ad (i+1)).1 else none
theorem fieldsUp_succ (S:Shp)(a:PAr)(ad w:Int)(k:Nat):fieldsUp S a ad w (k+1)=fieldsUp S a ad w k++(if holdsB S k w=true∧(a.read ad (k+1)).1≠0 then [(a.read ad (k+1)).1] else []):=by
 unfold fieldsUp
 rw [List.range_succ,List.filterMap_append]
 congr 1
 by_cases h:holdsB S k w=true∧(a.read ad (k+1)).1≠0
 ·simp [h]
 ·rw [if_neg h];simp [h]
theorem fieldsUp_len (S:Shp)(a:PAr)(ad w:Int)(k:Nat):(fieldsUp S a ad w k).length≤k:=by
 unfold fieldsUp
 exact Nat.le_trans (List.length_filterMap_le _ _) (by simp)
def fieldsL (T:List Shp)(a:PAr)(ad:Int):List Int:=
 if (a.read ad 0).2=0 then
  match unp (a.read ad 0).1 with
  | some x=>if wordsOf (a.cls (spanOf ad))<x.1 then [] else
   match T[x.2.2.toNat]? with
   | some s=>fieldsUp s a ad x.1 (x.1 - 1).toNat
   | none=>[]
  | none=>[]
 else []
theorem chk_two' {R:Type}{f:Heap→Option AV}{v:AV}{g g':Heap}{hs:List Heap}{cs:List Asked}{x:Option R}(hv:same v v=true)(h0:f g=some v)(h1:f g'=some v):chk (g::g'::hs) ((f,v,0,1)::cs) x=chk (g::g'::hs) cs x:=by
 rw [chk_cons,allFrom_succ,allFrom_succ,allFrom_zero]
 simp [h0,h1,hv]
theorem chk_same4 {R:Type}{f:Heap→Option AV}{v:AV}{g:Heap}{cs:List Asked}{x:Option R}(hv:same v v=true)(h0:f g=some v):chk [g,g,g,g] ((f,v,0,3)::cs) x=chk [g,g,g,g] cs x:=by
 rw [chk_cons,allFrom_succ,allFrom_succ,allFrom_succ,allFrom_succ,allFrom_zero]
 simp [h0,hv]
def Back (h g:Heap)(v:AV)(L:List Int):Prop:=∃ b,SlB g b 1 v (wsC L) L.length∧Same [] h g∧∀ j,b=some j→h.next≤j
theorem Back.mt {h g:Heap}(s:Same [] h g):Back h g (.sl none 0 (.ex 0)) []:=⟨none,SlB.mt,s,fun j hj=>by cases hj⟩
section
variable {h:Heap}{C:Nat→Nat}{l:PAl}{T:List Shp}{qb:Option Nat}{gq:List Int}{X:List Nat}
theorem fields_loop (H:Mm h C l T qb gq X){ad w a2 a3:Int}{S:Shp}{r1 r2:Nat}(h1:h.get r1=some (.cells true (hdC w a2 a3)))(h2:h.get r2=some (.cells true S.row))(l1:r1<h.next)(l2:r2<h.next)(hw:1≤w∧w≤64) :
  Ok (C5 (.ptr (some (C 11,0))) (.int .i64 ad) (.ptr (some (r1,0))) (.ptr (some (r2,0))) (.int .i64 (w - 1)) (.sl none 0 (.ex 0)) (.int .i64 0) h) fun r=>r.1 = .exit 0∧Back h r.2.2 (r.2.1.getD 0 .bot) (fieldsUp S l.ar ad w (w - 1).toNat):=by
 refine ok_loop (fun m vs g=>∃ (i:Nat) (v:AV),vs = [v,.int .i64 i]∧m+i=(w - 1).toNat∧Back h g v (fieldsUp S l.ar ad w i)) ?_ (n:=(w - 1).toNat) (by omega) ⟨0,_,rfl,by omega,Back.mt (Same.refl _ _)⟩
 rintro m vs g ⟨i,v,rfl,hm,b,hv,s,hb⟩
 rw [gd0,gd1]
 by_cases hi:i<(w - 1).toNat
 ·have hlt:(i:Int)<w - 1:=by omega
  have Hg:=H.keep s
  have lr:ldS g (.ptr (some (r1,0)))=some (.int .i64 w):=by rw [ldS_at ((s.get _ l1 (by simp)).trans h1)];rfl
  have la:ldA 3 g (.ptr (some (r2,0)))=some (.agg S.row):=ldA_row ((s.get _ l2 (by simp)).trans h2)
  have sc:=suc64 i (by omega)
  refine Ok.eq ?_ (by simp -implicitDefEqProofs only [Ca,bin_lss,hlt,decide_true,Option.bind_some,condE_true,nilV_ptr,faP_ptr,Nat.zero_add,Hg.m 0 _ rfl,bin_add,sc,read_eq Hg.al.ar,cl_some,extractV_tup,e0,e1,la,lr]<;>rfl)
  refine ok_cl (holds_ok S i w (by omega) hw.2 g) ?_
  rintro _ g2 ⟨rfl,s2⟩
  simp only at s2
  have ec:(((i+1:Nat):Int))=(i:Int)+1:=by omega
  have eu:=fieldsUp_succ S l.ar ad w i
  generalize hx:(l.ar.read ad ((i+1:Nat):Int)).1=x at *
  have hx':(l.ar.read ad ((i:Int)+1)).1=x:=by rw [← hx,ec]
  rw [hx'] at eu
  cases hh:holdsB S i w with
  | false=>
   refine(Ok.of (r:=(.normal,[v,.int .i64 ((i+1:Nat):Int)],g2)) (.inl ⟨rfl,m - 1,by omega,i+1,v,rfl,by omega,b,?_,s.trans s2,hb⟩)).eq (by
    simp -implicitDefEqProofs only [gdW_ft,gQ_false,pickP_bool,Bool.false_eq_true,if_false,Option.bind_some,condE_false,bin_add,sc])
   rw [eu,hh,if_neg (by simp),List.append_nil];exact hv.same s2 (by simp)
  | true=>
   by_cases h0:x=0
   ·refine(Ok.of (r:=(.normal,[v,.int .i64 ((i+1:Nat):Int)],g2)) (.inl ⟨rfl,m - 1,by omega,i+1,v,rfl,by omega,b,?_,s.trans s2,hb⟩)).eq (by
     simp -implicitDefEqProofs only [gdW_tt,gQ_true,cl_some,neq_int,h0,decide_true,Bool.not_true,pickP_bool,if_true,Option.bind_some,condE_false,bin_add,sc])
    rw [eu,if_neg (fun h=>h.2 h0),List.append_nil];exact hv.same s2 (by simp)
   ·have hl:=fieldsUp_len S l.ar ad w i
    refine Ok.eq ?_ (by simp -implicitDefEqProofs only [gdW_tt,gQ_true,cl_some,neq_int,h0,decide_false,Bool.not_false,pickP_bool,if_true,Option.bind_some,condE_true]<;>rfl)
    refine app1 (t:=.int .i64 x) (hv.same s2 (by simp)) rfl rfl rfl (by decide) (by omega) fun v' g3 hv' s3 n3=>?_
    refine(Ok.of (r:=(.normal,[v',.int .i64 ((i+1:Nat):Int)],g3)) (.inl ⟨rfl,m - 1,by omega,i+1,v',rfl,by omega,some (g2.next+1),?_,?_,fun j hj=>?_⟩)).eq (by
     simp -implicitDefEqProofs only [bin_add,sc,Option.bind_some])
    ·rw [eu,if_pos ⟨hh,h0⟩,List.length_append]
     have e:wsC (fieldsUp S l.ar ad w i ++ [x])=wsC (fieldsUp S l.ar ad w i)++(AV.int .i64 x).cells:=by rw [wsC_app];rfl
     rw [e];exact hv'
    ·refine(s.trans s2).old s3 fun j hj=>?_
     cases b with
     | none=>simp at hj
     | some y=>have:=hb y rfl;simp at hj;right;omega
    ·cases hj
     have:=s.next;have:=s2.next;omega
 ·have hlt : ¬ (i:Int)<w - 1:=by omega
  obtain rfl:i=(w - 1).toNat:=by omega
  exact(Ok.of (r:=(.exit 0,[v,.int .i64 (((w - 1).toNat:Nat):Int)],g)) (.inr ⟨by simp,rfl,b,hv,s,hb⟩)).eq (by
   simp -implicitDefEqProofs only [Ca,bin_lss,hlt,decide_false,Option.bind_some,condE_false])
theorem Back.of {h h' g:Heap}{v:AV}{L:List Int}(H:Back h' g v L)(s:Same [] h h'):Back h g v L:=by
 obtain⟨b,h1,h2,h3⟩:=H
 exact⟨b,h1,s.trans h2,fun j hj=>Nat.le_trans s.next (h3 j hj)⟩
theorem fields_ok (H:Mm h C l T qb gq X)(ad:Int):Ok (BH (.ptr (some (C 11,0))) (.int .i64 ad) h) fun r=>Back h r.2 r.1 (fieldsL T l.ar ad):=by
 have zr:([AV.int .i64 0,.int .i64 0,.int .u64 0]:List AV)=shpZ.row:=rfl
 have rd:=read_eq H.al.ar ad 0
 by_cases he:(l.ar.read ad 0).2=0
 ·have hof:fieldsL T l.ar ad=match unp (l.ar.read ad 0).1 with
   | some x=>if wordsOf (l.ar.cls (spanOf ad))<x.1 then [] else
    match T[x.2.2.toNat]? with
    | some s=>fieldsUp s l.ar ad x.1 (x.1 - 1).toNat
    | none=>[]
   | none=>[]:=by unfold fieldsL;rw [if_pos he]
  rw [hof]
  rw [he] at rd
  refine Ok.eq ?_ (by simp -implicitDefEqProofs only [BH,nilV_ptr,Option.bind_some,faP_ptr,Nat.zero_add,H.m 0 _ rfl,rd,cl_some,extractV_tup,e0,e1,neq_int,decide_true,Bool.not_true,condE_false]<;>rfl)
  refine ok_cl (unpack_ok (l.ar.read ad 0).1 h) ?_
  rintro _ g2 ⟨rfl,s2⟩
  simp only at s2
  cases hun:unp (l.ar.read ad 0).1 with
  | none=>
   have hv:unpV (l.ar.read ad 0).1 = .tup [.agg (hdC 0 0 0),.int .i64 3]:=by unfold unpV;rw [hun]
   rw [hv]
   refine Ok.eq ?_ (by simp -implicitDefEqProofs only [extractV_tup,e0,e1,Option.bind_some]<;>rfl)
   refine ok_tmp (cs:=hdC 0 0 0) (n:=3) rfl rfl rfl fun g3 s3 n3 p3=>?_
   have z3:decide ((3:Int)=0)=false:=rfl
   exact ok_val (v:=.sl none 0 (.ex 0)) (g:=g3) (by simp -implicitDefEqProofs only [neq_int,z3,Bool.not_false,Option.bind_some,gdW_tf,gV_false,clC_some,gQ_false,pickP_bool,if_true,chk_nil,condE_true]) (Back.mt (s2.trans s3))
  | some x=>
   obtain⟨a,b,c⟩:=x
   have hm:=unp_may hun
   have hv:unpV (l.ar.read ad 0).1 = .tup [.agg (hdC a b c),.int .i64 0]:=by unfold unpV;rw [hun]
   rw [hv]
   refine Ok.eq ?_ (by simp -implicitDefEqProofs only [extractV_tup,e0,e1,Option.bind_some]<;>rfl)
   refine ok_tmp (cs:=hdC a b c) (n:=3) rfl rfl rfl fun g3 s3 n3 p3=>?_
   have s13:=s2.trans s3
   have H3:=H.keep s13
   have m0:=H3.m 0 _ rfl
   have r0:ldS g3 (.ptr (some (g2.next,0)))=some (.int .i64 a):=by rw [ldS_at p3];rfl
   have k1:∀ x,chk [g3,g3,g3,g3] [((fun g=>ldS g (.ptr (some (C 11,0)))),.ptr (some (C 6,0)),0,1),((fun g=>ldS g (.ptr (some (g2.next,0)))),.int .i64 a,0,3)] x=(x:Option (AV × Heap)):=fun x=>by
    rw [chk_two' (same_ptr _) m0 m0,chk_same4 (same_int _ _) r0];rfl
   by_cases hgt:wordsOf (l.ar.cls (spanOf ad))<a
   ·simp only [hgt,if_true]
    exact ok_val (v:=.sl none 0 (.ex 0)) (g:=g3) (by simp -implicitDefEqProofs only [neq_int,decide_true,Bool.not_true,Option.bind_some,gdW_ff,gV_true,faP_ptr,Nat.zero_add,rdC,r0,clC_some,nilV_ptr,m0,gQ_true,span_eq,cl_some,class_eq H3.al.ar,words_eq,bin_gtr,hgt,pickP_bool,Bool.false_eq_true,if_false,k1,condE_true]) (Back.mt s13)
   ·simp only [hgt,if_false]
    have s3':Same [] g3 (hpN g3 1):=⟨Nat.le_succ _,fun _ _ _=>rfl⟩
    have H3':=H3.keep s3'
    have lc:ldS (hpN g3 1) (.ptr (some (g2.next,2)))=some (.int .i64 c):=by rw [ldS_at (show(hpN g3 1).get g2.next=_ from p3)];rfl
    refine Ok.eq ?_ (by simp -implicitDefEqProofs only [neq_int,decide_true,Bool.not_true,Option.bind_some,gdW_ff,gV_true,faP_ptr,Nat.zero_add,rdC,r0,clC_some,nilV_ptr,m0,gQ_true,span_eq,cl_some,class_eq H3.al.ar,words_eq,bin_gtr,hgt,decide_false,pickP_bool,Bool.false_eq_true,if_false,k1,condE_false,H3'.m 1 _ rfl,lc]<;>rfl)
    refine ok_cl (shape_ok H3'.tab c) ?_
    rintro _ g4 ⟨rfl,s4⟩
    simp only at s4
    have hc0 : ¬ c < 0:=by have:=hm.2.2.2.2.1;omega
    have n4:g3.next<g4.next:=Nat.lt_of_lt_of_le (Nat.lt_succ_self _) s4.next
    have ma:mkAt Heap.put (some (Blk.cells true shpZ.row,fun i=>AV.ptr (some (i,0)))) (g3.next+0) g4=some (.ptr (some (g3.next,0)),g4.put g3.next (some (.cells true shpZ.row))):=rfl
    have sf:∀ (z:List AV),Same [] g3 (g4.put g3.next (some (.cells true z))):=fun z=>(s3'.trans s4).old (Same.put _ _ _) (fun j hj=>by simp at hj;right;omega)
    have sput:∀ (y z:List AV),Same [g3.next] (g4.put g3.next (some (.cells true y))) ((g4.put g3.next (some (.cells true y))).put g3.next (some (.cells true z))):=fun y z=>Same.put _ _ _
    have stT:∀ (s:Shp),stP 3 (g4.put g3.next (some (.cells true shpZ.row))) (.ptr (some (g3.next,0))) (.agg s.row)=some (.bot,(g4.put g3.next (some (.cells true shpZ.row))).put g3.next (some (.cells true s.row))):=fun s=>stP_all get_put_eq rfl rfl rfl
    have s35:∀ (s:Shp),Same [] g3 ((g4.put g3.next (some (.cells true shpZ.row))).put g3.next (some (.cells true s.row))):=fun s=>(sf shpZ.row).old (sput _ _) (fun j hj=>by simp at hj;right;omega)
    cases hT:T[c.toNat]? with
    | none=>
     have hsv:shapeV T c = .tup [.agg shpZ.row,.int .i64 4]:=by unfold shapeV;rw [if_neg hc0,hT];rfl
     rw [hsv]
     have z4:decide ((4:Int)=0)=false:=rfl
     exact ok_val (v:=.sl none 0 (.ex 0)) (g:=(g4.put g3.next (some (.cells true shpZ.row))).put g3.next (some (.cells true shpZ.row))) (by simp -implicitDefEqProofs only [extractV_tup,e0,e1,Option.bind_some,zr,ma,stT,chk_nil,cl_some,neq_int,z4,Bool.not_false,condE_true]<;>rfl) (Back.mt (s13.trans (s35 shpZ)))
    | some s=>
     have hsv:shapeV T c = .tup [.agg s.row,.int .i64 0]:=by unfold shapeV;rw [if_neg hc0,hT]
     rw [hsv]
     have p5:((g4.put g3.next (some (.cells true shpZ.row))).put g3.next (some (.cells true s.row))).get g3.next=some (.cells true s.row):=get_put_eq
     have s5:=s35 s
     have n5:((g4.put g3.next (some (.cells true shpZ.row))).put g3.next (some (.cells true s.row))).next=g4.next:=rfl
     refine Ok.eq ?_ (by simp -implicitDefEqProofs only [extractV_tup,e0,e1,Option.bind_some,zr,ma,stT,chk_nil,cl_some,neq_int,decide_true,Bool.not_true,condE_false]<;>rfl)
     generalize (g4.put g3.next (some (.cells true shpZ.row))).put g3.next (some (.cells true s.row))=g5 at *
     have p35:g5.get g2.next=some (.cells true (hdC a b c)):=(s5.get _ (by omega) (by simp)).trans p3
     have r5:ldS g5 (.ptr (some (g2.next,0)))=some (.int .i64 a):=by rw [ldS_at p35];rfl
     have ha:1≤a∧a≤64:=⟨hm.1,hm.2.1⟩
     have hw:IntKind.i64.wrap (a - 1)=a - 1:=wrap_i64 (by omega) (by omega)
     refine Ok.eq ?_ (by simp -implicitDefEqProofs only [faP_ptr,Nat.zero_add,Option.bind_some,r5,bin_sub,hw]<;>rfl)
     refine ok_lp (fields_loop (H3.keep s5) (ad:=ad) p35 p5 (by omega) (by omega) ha) ?_
     rintro _ vs g6 ⟨rfl,hB⟩
     simp only at hB
     exact ok_val (v:=vs.getD 0 .bot) (g:=g6) rfl (hB.of (s13.trans s5))
 ·have hof:fieldsL T l.ar ad = []:=by unfold fieldsL;rw [if_neg he]
  rw [hof]
  exact ok_val (v:=.sl none 0 (.ex 0)) (g:=h) (by simp -implicitDefEqProofs only [BH,nilV_ptr,Option.bind_some,faP_ptr,Nat.zero_add,H.m 0 _ rfl,rd,cl_some,extractV_tup,e0,e1,neq_int,he,decide_false,Bool.not_false,condE_true]) (Back.mt (Same.refl _ _))
end
set_option linter.all false
attribute [local congr] c_bind c_cl c_mk c_lp c_clC c_gQ c_gV c_condE c_thenK
def unmk (s:PSp):Nat:=ones (s.tk &&& ~~~ s.md)
def PAr.mu (a:PAr):Nat:=(a.sp.map unmk).sum
theorem sum_set {l:List PSp}:∀ {i:Nat} {x:PSp} (y:PSp),l[i]?=some x→((l.set i y).map unmk).sum+unmk x=(l.map unmk).sum+unmk y:=by
 induction l with
 | nil=>intro i x y h;simp at h
 | cons a l ih=>
  intro i x y h
  cases i with
  | zero=>simp at h;subst h;simp only [List.set_cons_zero,List.map_cons,List.sum_cons];omega
  | succ i=>simp at h;have:=ih y h;simp only [List.set_cons_succ,List.map_cons,List.sum_cons];omega
theorem mu_le (a:PAr):a.mu≤a.sp.length * 64:=by
 unfold PAr.mu
 induction a.sp with
 | nil=>simp
 | cons x l ih=>
  have:unmk x≤64:=cnt_le _ _
  simp;omega
theorem mark_mu (a:PAr)(ad:Int):(a.mark ad).2.mu+(a.mark ad).1.toNat=a.mu:=by
 cases hf:a.find ad with
 | none=>rw [mark_no hf];simp
 | some x=>
  obtain⟨n,q⟩:=x
  cases hm:(a.at n).md.getLsbD q with
  | true=>rw [mark_was hf hm];simp
  | false=>
   rw [mark_new hf hm]
   obtain⟨f1,f2,f3,f4,f5,f6,f7⟩:=find_some hf
   obtain⟨P0,P1,P2,_⟩:=pls_eq (c:=(a.at n).cls) ⟨f6,f7⟩
   have hs:=sum_set (l:=a.sp) (i:=n.toNat) (x:=a.at n) ⟨(a.at n).cls,(a.at n).tk,(a.at n).md ||| bitOf q⟩ (PAr.at_some f1)
   have hu:unmk (a.at n)=unmk ⟨(a.at n).cls,(a.at n).tk,(a.at n).md ||| bitOf q⟩+1:=by
    have hq:q < 64:=by omega
    have:=cnt_ins q (fun j=>((a.at n).tk &&& ~~~ ((a.at n).md ||| bitOf q)).getLsbD j) (by
     rw [BitVec.getLsbD_and,BitVec.getLsbD_not,BitVec.getLsbD_or,bit_get q q hq];simp) 64
    simp only [hq,decide_true,Bool.toNat_true] at this
    show ones ((a.at n).tk &&& ~~~ (a.at n).md)=ones ((a.at n).tk &&& ~~~ ((a.at n).md ||| bitOf q))+1
    unfold ones
    rw [← this]
    apply cnt_congr
    intro j hj
    rw [BitVec.getLsbD_and,BitVec.getLsbD_and,BitVec.getLsbD_not,BitVec.getLsbD_not,BitVec.getLsbD_or,bit_get q j hq]
    by_cases e:q=j
    ·subst e;rw [f4,hm];simp [hj]
    ·have : ¬ j=q:=fun h=>e h.symm
     simp [e,this]
   show((a.sp.set n.toNat _).map unmk).sum+true.toNat=(a.sp.map unmk).sum
   simp only [Bool.toNat_true]
   omega
def shadeL:PAr→List Int→List Int→PAr × List Int
 | a,q,[]=>(a,q)
 | a,q,x::L=>shadeL (a.mark x).2 (if (a.mark x).1 then q ++ [x] else q) L
theorem shadeL_mu:∀ (L:List Int) (a:PAr) (q:List Int),(shadeL a q L).2.length+(shadeL a q L).1.mu=q.length+a.mu
 | [],a,q=>rfl
 | x::L,a,q=>by
  rw [shadeL,shadeL_mu L]
  have:=mark_mu a x
  cases h:(a.mark x).1 with
  | true=>rw [h] at this;simp at this ⊢;omega
  | false=>rw [h] at this;simp at this ⊢;omega
theorem shadeL_same:∀ (L:List Int) (a:PAr) (q:List Int),SameTk a (shadeL a q L).1
 | [],a,q=>SameTk.refl a
 | x::L,a,q=>(mark_same a x).trans (shadeL_same L _ _)
section
variable {h:Heap}{C:Nat→Nat}{l:PAl}{T:List Shp}{qb:Option Nat}{gq:List Int}{X:List Nat}
def Lrd (h:Heap)(v:AV)(L:List Int)(X:List Nat):Prop:=lnL v=some (.int .i64 L.length)∧∀ (i:Nat) x,L[i]?=some x→∃ p,iaS 1 v (.int .i64 (i:Int))=some (.ptr (some p))∧∀ g,KpX X h g→ldS g (.ptr (some p))=some (.int .i64 x)
theorem lst_at {g:Heap}{b:Option Nat}{v:AV}{L:List Int}(hv:SlB g b 1 v (wsC L) L.length){i:Nat}{x:Int}(hx:L[i]?=some x):∃ j,b=some j∧iaS 1 v (.int .i64 (i:Int))=some (.ptr (some (j,i)))∧∀ g':Heap,g'.get j=g.get j→ldS g' (.ptr (some (j,i)))=some (.int .i64 x):=by
 have hi:=(List.getElem?_eq_some_iff.1 hx).1
 obtain⟨j,hj,hix⟩:=hv.ix hi
 refine⟨j,hj,by rw [hix,Nat.mul_one],fun g' hg=>?_⟩
 rw [ldS_at (hg.trans (hv.blk j hj).2.1)]
 simp [wsC,hx]
theorem lrd_of {g:Heap}{b:Option Nat}{v:AV}{L:List Int}{X:List Nat}(hv:SlB g b 1 v (wsC L) L.length)(hbX:∀ j,b=some j→j∈X):Lrd g v L X:=
 ⟨hv.lnL,fun i x hx=>by
  obtain⟨j,hj,hix,hld⟩:=lst_at hv hx
  exact⟨(j,i),hix,fun g' k=>hld g' (k.get j (hbX j hj) (hv.blk j hj).1)⟩⟩
theorem drop_at {α:Type}{L:List α}{i:Nat}{x:α}(h:L[i]?=some x):L.drop i=x::L.drop (i+1):=by
 have hi:=(List.getElem?_eq_some_iff.1 h).1
 rw [List.drop_eq_getElem_cons hi]
 congr 1
 rw [List.getElem?_eq_getElem hi] at h;exact Option.some.inj h
theorem mstep_loop (H:Mm h C l T qb gq X){L:List Int}{v:AV}(hv:Lrd h v L X)(hq:gq.length+L.length≤2 ^ 40) :
  Ok (DY (.ptr (some (C 11,0))) v (.int .i64 L.length) (.int .i64 0) h) fun r=>r.1 = .exit 0∧∃ qb',Mm r.2.2 C ⟨(shadeL l.ar gq L).1,l.un⟩ T qb' (shadeL l.ar gq L).2 X∧KpX X h r.2.2:=by
 refine ok_loop (fun m vs g=>∃ (i:Nat) (a':PAr) (qb':Option Nat) (gq':List Int),vs = [.int .i64 i]∧m+i=L.length∧Mm g C ⟨a',l.un⟩ T qb' gq' X∧shadeL a' gq' (L.drop i)=shadeL l.ar gq L∧gq'.length≤gq.length+i∧KpX X h g) ?_ (n:=L.length) (by omega) ⟨0,l.ar,qb,gq,rfl,rfl,H,rfl,by omega,KpX.refl _ _⟩
 rintro m vs g ⟨i,a',qb',gq',rfl,hm,H',he,hl,k⟩
 rw [gd0]
 by_cases hi:i<L.length
 ·have hlt:(i:Int)<L.length:=by omega
  obtain⟨x,hx⟩:∃ x,L[i]?=some x:=⟨_,List.getElem?_eq_getElem hi⟩
  obtain⟨p,hix,hld⟩:=hv.2 i x hx
  have ld:=hld g k
  refine Ok.eq ?_ (by simp -implicitDefEqProofs only [Cj,bin_lss,hlt,decide_true,Option.bind_some,condE_true,hix,ld]<;>rfl)
  refine ok_cl (mshade_ok H' x (by omega)) ?_
  rintro _ g2 ⟨rfl,qb2,H2,k2⟩
  simp only at H2 k2
  refine(Ok.of (r:=(.normal,[.int .i64 ((i+1:Nat):Int)],g2)) (.inl ⟨rfl,m - 1,by omega,i+1,_,qb2,_,rfl,by omega,H2,?_,?_,k.trans k2⟩)).eq (by
   simp -implicitDefEqProofs only [bin_add,Option.bind_some,suc64 i (by omega)])
  ·rw [← he,drop_at hx,shadeL]
  ·split
   ·rw [List.length_append];simp;omega
   ·omega
 ·have hlt : ¬ (i:Int)<L.length:=by omega
  obtain rfl:i=L.length:=by omega
  rw [List.drop_of_length_le (Nat.le_refl _),shadeL] at he
  rw [← he]
  exact(Ok.of (r:=(.exit 0,[.int .i64 (L.length:Int)],g)) (.inr ⟨by simp,rfl,qb',H',k⟩)).eq (by
   simp -implicitDefEqProofs only [Cj,bin_lss,hlt,decide_false,Option.bind_some,condE_false])
theorem fieldsL_len (T:List Shp)(a:PAr)(ad:Int):(fieldsL T a ad).length≤64:=by
 unfold fieldsL
 split
 ·split
  ·rename_i x hx
   have hm:=unp_may hx
   split
   ·simp
   ·split
    ·have:=fieldsUp_len (by assumption) a ad x.1 (x.1 - 1).toNat
     have:=hm.2.1
     omega
    ·simp
  ·simp
 ·simp
theorem Back.use (H:Mm h C l T qb gq X){g:Heap}{v:AV}{L:List Int}(hB:Back h g v L):∃ b,SlB g b 1 v (wsC L) L.length∧∃ Y:List Nat,(∀ j,b=some j→j∈Y)∧(∀ j∈X,j∈Y)∧Mm g C l T qb gq Y∧Same [] h g:=by
 obtain⟨b,h1,h2,h3⟩:=hB
 cases b with
 | none=>exact⟨none,h1,X,(fun j hj=>by cases hj),fun j hj=>hj,H.keep h2,h2⟩
 | some b=>exact⟨some b,h1,b::X,(fun j hj=>by cases hj;exact List.mem_cons_self ..),fun j hj=>List.mem_cons_of_mem _ hj,H.addX h2 (h3 b rfl) (h1.blk b rfl).1,h2⟩
theorem mstep_no (H:Mm h C l T qb [] X):BF (.ptr (some (C 11,0))) h=some (.bool false,h):=by
 obtain⟨v,hg,hq⟩:=H.gqb
 have l0:ldS h (.ptr (some (C 12,0)))=some v:=by rw [ldS_at hg];rfl
 have ln:=hq.lnL
 simp -implicitDefEqProofs only [BF,nilV_ptr,Option.bind_some,faP_ptr,Nat.zero_add,H.m 2 _ rfl,CL,l0,ln,List.length_nil,eql_int,Int.ofNat_zero,Int.natCast_zero,decide_true,condE_true,cl_some,extractV_tup,e0,e1,un_not,Bool.not_false]
theorem mstep_ok {x:Int}(H:Mm h C l T qb (x::gq) X)(hq:gq.length≤2 ^ 30):Ok (BF (.ptr (some (C 11,0))) h) fun r=>r.1 = .bool true∧∃ qb',Mm r.2 C ⟨(shadeL l.ar gq (fieldsL T l.ar x)).1,l.un⟩ T qb' (shadeL l.ar gq (fieldsL T l.ar x)).2 X∧KpX X h r.2:=by
 obtain⟨v,hg,hqv⟩:=H.gqb
 have l0:ldS h (.ptr (some (C 12,0)))=some v:=by rw [ldS_at hg];rfl
 have ln:=hqv.lnL
 obtain⟨i,o,hb,hve,hld,v',hsl,hq'⟩:=hqv.tail
 have zl:decide ((((x::gq).length:Nat):Int)=0)=false:=by simp;omega
 have hix:iaS 1 v (.int .i64 0)=some (.ptr (some (i,o))):=by
  rw [hve,iaS_sl 1 _ _ _ _ _ ⟨by omega,by omega⟩];simp
 obtain⟨st,H1,k1⟩:=H.queue (S:=[]) (fun j hj=>by simp at hj) (Same.refl [] h) hq' (fun j hj=>.inl hj)
 refine Ok.eq ?_ (by simp -implicitDefEqProofs only [BF,nilV_ptr,Option.bind_some,faP_ptr,Nat.zero_add,H.m 2 _ rfl,CL,l0,ln,eql_int,zl,condE_false,hix,hld,hsl,st,cl_some,extractV_tup,e0,e1,un_not,Bool.not_true]<;>rfl)
 generalize h.put (C 12) (some (.cells true [v']))=g1 at *
 refine ok_cl (fields_ok H1 x) ?_
 rintro v2 g2 hB
 obtain⟨b,hv,Y,hY,hXY,H2,s2⟩:=hB.use H1
 simp only at hv H2 s2
 have hfl:=fieldsL_len T l.ar x
 refine Ok.eq ?_ (by simp -implicitDefEqProofs only [hv.lnL,Option.bind_some]<;>rfl)
 refine ok_lp (mstep_loop H2 (lrd_of hv hY) (by omega)) ?_
 rintro _ vs g3 ⟨rfl,qb',H3,k3⟩
 simp only at H3 k3
 exact ok_val (v:=.bool true) (g:=g3) rfl ⟨rfl,qb',H3.subX hXY H.x0,(k1.trans (KpX.same s2)).trans (k3.sub hXY)⟩
end
set_option linter.all false
inductive MR (T:List Shp):PAr→List Int→PAr→Prop
 | done (a:PAr):MR T a [] a
 | step {a:PAr} {x:Int} {q:List Int} {a':PAr}:MR T (shadeL a q (fieldsL T a x)).1 (shadeL a q (fieldsL T a x)).2 a'→MR T a (x::q) a'
theorem SameTk.word {a b:PAr}(S:SameTk a b)(ad k:Int):b.word ad k=a.word ad k:=by
 unfold PAr.word
 rw [S.find]
 cases hf:a.find ad with
 | none=>rfl
 | some x=>
  obtain⟨n,q⟩:=x
  simp only
  rw [S.cls n (find_some hf).1]
theorem SameTk.read {a b:PAr}(S:SameTk a b)(ad k:Int):b.read ad k=a.read ad k:=by
 unfold PAr.read
 rw [S.word,S.ws]
theorem SameTk.fields {a b:PAr}(S:SameTk a b)(T:List Shp)(ad:Int):fieldsL T b ad=fieldsL T a ad:=by
 unfold fieldsL fieldsUp
 simp only [S.read,S.clsE]
theorem shadeL_isM:∀ (L:List Int) {a:PAr} (q:List Int),Wf a→∀ x,((shadeL a q L).1.isM x=true↔a.isM x=true∨(x∈L∧a.find x≠none))
 | [],a,q,H,x=>by simp [shadeL]
 | y::L,a,q,H,x=>by
  have S:=mark_same a y
  rw [shadeL,shadeL_isM L _ (S.wf H) x,(mark_isM H y).2 x,S.find]
  constructor
  ·rintro((h | ⟨rfl,h⟩) | ⟨h1,h2⟩)
   ·exact .inl h
   ·exact .inr ⟨List.mem_cons_self ..,h⟩
   ·exact .inr ⟨List.mem_cons_of_mem _ h1,h2⟩
  ·rintro(h | ⟨h1,h2⟩)
   ·exact .inl (.inl h)
   ·rcases List.mem_cons.1 h1 with rfl | h1
    ·exact .inl (.inr ⟨rfl,h2⟩)
    ·exact .inr ⟨h1,h2⟩
theorem clear_isM {a:PAr}(ad:Int):a.clear.isM ad=false:=by
 have S:=clear_same a
 cases hf:a.find ad with
 | none=>unfold PAr.isM;rw [S.find,hf]
 | some x=>
  obtain⟨n,q⟩:=x
  rw [isM_of (by rw [S.find];exact hf),clear_at a n (find_some hf).1];simp
inductive Rch (T:List Shp) (a:PAr) (G:List Int):Int→Prop
 | root {x:Int}:x∈G→a.find x≠none→Rch T a G x
 | step {x y:Int}:Rch T a G x→y∈fieldsL T a x→a.find y≠none→Rch T a G y
theorem Rch.found {T:List Shp}{a:PAr}{G:List Int}{x:Int}(h:Rch T a G x):a.find x≠none:=by
 cases h<;>assumption
theorem shadeL_q:∀ (L:List Int) {a:PAr} (q:List Int),Wf a→∀ y,(y∈(shadeL a q L).2→y∈q∨(y∈L∧a.find y≠none))∧(y∈q→y∈(shadeL a q L).2)∧((shadeL a q L).1.isM y=true→a.isM y=true∨y∈(shadeL a q L).2)
 | [],a,q,H,y=>⟨.inl,id,.inl⟩
 | x::L,a,q,H,y=>by
  have S:=mark_same a x
  have hm:=mark_isM H x
  obtain⟨h1,h2,h3⟩:=shadeL_q L (if (a.mark x).1 then q ++ [x] else q) (S.wf H) y
  rw [shadeL]
  refine⟨fun h=>?_,fun h=>?_,fun h=>?_⟩
  ·rcases h1 h with h | ⟨h,hf⟩
   ·cases hb:(a.mark x).1 with
    | false=>rw [hb] at h;exact .inl (by simpa using h)
    | true=>
     rw [hb] at h
     rw [if_pos rfl,List.mem_append,List.mem_singleton] at h
     rcases h with h | rfl
     ·exact .inl h
     ·exact .inr ⟨List.mem_cons_self ..,(hm.1.1 hb).1⟩
   ·exact .inr ⟨List.mem_cons_of_mem _ h,by rw [← S.find];exact hf⟩
  ·apply h2
   split
   ·exact List.mem_append_left _ h
   ·exact h
  ·rcases h3 h with h | h
   ·rcases (hm.2 y).1 h with h | ⟨rfl,hf⟩
    ·exact .inl h
    ·cases hi:a.isM y with
     | true=>exact .inl rfl
     | false=>
      right
      apply h2
      rw [if_pos (hm.1.2 ⟨hf,hi⟩)]
      simp
   ·exact .inr h
theorem Rch.same {T:List Shp}{a b:PAr}(S:SameTk a b){G:List Int}{x:Int}(h:Rch T b G x):Rch T a G x:=by
 induction h with
 | root h1 h2=>exact Rch.root h1 (by rw [← S.find];exact h2)
 | step _ h1 h2 ih=>exact Rch.step ih (by rw [← S.fields];exact h1) (by rw [← S.find];exact h2)
set_option linter.all false
set_option linter.all false
structure RchL (T:List Shp)(a:PAr)(G R:List Int):Prop where
 so:R.Pairwise (· < ·)
 mem:∀ x,x∈R↔Rch T a G x
theorem RchL.nd {T:List Shp}{a:PAr}{G R:List Int}(H:RchL T a G R):R.Nodup:=H.so.imp fun h=>by omega
theorem sorted_ext:∀ {a b:List Int},a.Pairwise (· < ·)→b.Pairwise (· < ·)→(∀ n,n∈a↔n∈b)→a=b
 | [],[],_,_,_=>rfl
 | [],y::b,_,_,h=>by have:=(h y).2 (by simp);simp at this
 | x::a,[],_,_,h=>by have:=(h x).1 (by simp);simp at this
 | x::a,y::b,ha,hb,h=>by
  rw [List.pairwise_cons] at ha hb
  have hx:=(h x).1 (by simp)
  have hy:=(h y).2 (by simp)
  have e:x=y:=by
   rcases List.mem_cons.1 hx with e | hx
   ·exact e
   ·rcases List.mem_cons.1 hy with e | hy
    ·exact e.symm
    ·have:=hb.1 x hx;have:=ha.1 y hy;omega
  subst e
  rw [sorted_ext ha.2 hb.2 fun n=>⟨fun hn=>?_,fun hn=>?_⟩]
  ·rcases List.mem_cons.1 ((h n).1 (by simp [hn])) with e | h
   ·have:=ha.1 n hn;omega
   ·exact h
  ·rcases List.mem_cons.1 ((h n).2 (by simp [hn])) with e | h
   ·have:=hb.1 n hn;omega
   ·exact h
theorem RchL.uniq {T:List Shp}{a:PAr}{G G' R R':List Int}(H:RchL T a G R)(H':RchL T a G' R')(h:∀ x,Rch T a G x↔Rch T a G' x):R=R':=
 sorted_ext H.so H'.so fun n=>by rw [H.mem,H'.mem,h]
set_option linter.all false
def wf64 (n:Int):Prop:=-9223372036854775808≤n∧n≤9223372036854775807
def unpR (w:Int):Option (Int × Int × Int):=
 if w < 0∨67108864≤w then none else if mayP (w % 128) (w / 128 % 8) (w / 1024) then some (w % 128,w / 128 % 8,w / 1024) else none
theorem unp_r {w:Int}(h:wf64 w):unp w=unpR w:=by
 unfold unp unpR
 obtain⟨h1,h2⟩:=h
 by_cases hn:w < 0
 ·have e:(BitVec.ofInt 64 w).toNat=(w+18446744073709551616).toNat:=by rw [BitVec.toNat_ofInt];omega
  rw [e,if_pos (.inl (by omega)),if_pos (.inl hn)]
 ·have e:(BitVec.ofInt 64 w).toNat=w.toNat:=by rw [BitVec.toNat_ofInt];omega
  rw [e]
  by_cases hg:67108864≤w
  ·rw [if_pos (.inl (by omega)),if_pos (.inr hg)]
  ·rw [if_neg (c:=w < 0∨67108864≤w) (by omega)]
   have e1:((w.toNat % 128:Nat):Int)=w % 128:=by omega
   have e2:((w.toNat / 128 % 8:Nat):Int)=w / 128 % 8:=by omega
   have e3:((w.toNat / 1024 % 65536:Nat):Int)=w / 1024:=by omega
   rw [e1,e2,e3]
   by_cases hm:mayP (w % 128) (w / 128 % 8) (w / 1024)
   ·rw [if_pos hm,if_neg]
    rintro(h | h)
    ·omega
    ·exact h hm
   ·rw [if_neg hm,if_pos (.inr hm)]
def fieldsW (S:Shp)(W:List Int)(w:Int)(k:Nat):List Int:=(List.range k).filterMap fun i:Nat=>if holdsB S i w=true∧(W[i+1]?).getD 0≠0 then some ((W[i+1]?).getD 0) else none
theorem fieldsW_succ (S:Shp)(W:List Int)(w:Int)(k:Nat):fieldsW S W w (k+1)=fieldsW S W w k++(if holdsB S k w=true∧(W[k+1]?).getD 0≠0 then [(W[k+1]?).getD 0] else []):=by
 unfold fieldsW
 rw [List.range_succ,List.filterMap_append]
 congr 1
 by_cases h:holdsB S k w=true∧(W[k+1]?).getD 0≠0
 ·simp [h]
 ·rw [if_neg h];simp [h]
theorem fieldsW_len (S:Shp)(W:List Int)(w:Int)(k:Nat):(fieldsW S W w k).length≤k:=by
 unfold fieldsW
 exact Nat.le_trans (List.length_filterMap_le _ _) (by simp)
def fieldsT (T:List Shp)(W:List Int):List Int:=
 match unpR ((W[0]?).getD 0) with
 | some x=>if (W.length:Int)<x.1 then [] else
  match T[x.2.2.toNat]? with
  | some s=>fieldsW s W x.1 (x.1 - 1).toNat
  | none=>[]
 | none=>[]
theorem cls_lies {a:PAr}(H:Wf a){ad:Int}{ws:List Int}(L:Lies a ad ws):wordsOf (a.cls (spanOf ad))=ws.length:=by
 obtain⟨e,h1,h2,h3⟩:=L.en
 have hf:=placed_find' H h2
 rw [h1] at hf
 obtain⟨p1,_⟩:=find_some hf
 have hs:=(find_some hf).2.1
 rw [← hs,cls_at p1,h2.2.1,h3]
theorem fm_congr {α β:Type}{f g:α→Option β}:∀ {l:List α},(∀ x∈l,f x=g x)→l.filterMap f=l.filterMap g
 | [],_=>rfl
 | x::l,h=>by
  rw [List.filterMap_cons,List.filterMap_cons,h x (by simp),fm_congr fun y hy=>h y (by simp [hy])]
theorem fields_tm {a:PAr}{T:List Shp}(H:Wf a){ad:Int}{W:List Int}(hl:Lies a ad W)(hw:∀ x∈W,wf64 x):fieldsL T a ad=fieldsT T W:=by
 have hp:=(hl.pos H).2.2
 have r0:=hl.read H 0
 rw [if_pos ⟨by omega,by omega⟩] at r0
 have w0:wf64 ((W[(0:Int).toNat]?).getD 0):=by
  have:W[(0:Int).toNat]?=some W[0]:=List.getElem?_eq_getElem (by omega)
  rw [this];exact hw _ (List.getElem_mem _)
 unfold fieldsL fieldsT
 rw [r0]
 simp only [if_true]
 have e0:((0:Int).toNat)=0:=rfl
 rw [e0] at w0 ⊢
 rw [unp_r w0]
 cases hx:unpR ((W[0]?).getD 0) with
 | none=>rfl
 | some x=>
  simp only
  rw [cls_lies H hl]
  split
  ·rfl
  ·rename_i hle
   cases hT:T[x.2.2.toNat]? with
   | none=>rfl
   | some s=>
    simp only
    unfold fieldsUp fieldsW
    apply fm_congr
    intro i hi
    rw [List.mem_range] at hi
    have r:=hl.read H ((i:Int)+1)
    rw [if_pos ⟨by omega,by omega⟩] at r
    have e:((i:Int)+1).toNat=i+1:=by omega
    rw [e] at r
    rw [r]
theorem fields_no {a:PAr}{T:List Shp}{ad:Int}(h:a.find ad=none):fieldsL T a ad = []:=by
 unfold fieldsL
 rw [read_no h]
 simp
set_option linter.all false
attribute [local congr] c_bind c_cl c_mk c_lp c_clC c_gQ c_gV c_condE c_thenK
def ownA (rp rc:Nat)(b:Option Nat)(L:List Tm):List Nat:=rp::rc::(b.toList++L.map Tm.wb)
section
variable {g:Heap}{rp rc:Nat}{b:Option Nat}{cls:List Int}{L:List Tm}{X:List Nat}
theorem R4At.own (H:R4At g rp rc b cls L X){j:Nat}(hj:j∈ownA rp rc b L):j∉X∧j≠0∧j<g.next:=by
 simp only [ownA,List.mem_cons,List.mem_append,Option.mem_toList,List.mem_map] at hj
 rcases hj with rfl | rfl | h | ⟨t,ht,rfl⟩
 ·exact⟨H.xp,H.zp,H.lp⟩
 ·exact⟨H.xc,H.zc,H.lc⟩
 ·obtain⟨v,_,hs⟩:=H.rpb
  exact⟨(H.xb j h).1,(H.xb j h).2.2.2,(hs.blk j h).1⟩
 ·obtain⟨h1,_,h3,_,_,_,h7⟩:=H.wb t ht
  exact⟨h3,h7,h1⟩
theorem R4At.frame {g' : Heap} {S Y : List Nat} (H : R4At g rp rc b cls L X) (s : Same S g g') (hS : ∀ j ∈ S, j ∉ ownA rp rc b L) (hY : ∀ j ∈ Y, j ∉ ownA rp rc b L ∧ j < g'.next) : R4At g' rp rc b cls L Y := by
  obtain ⟨v, hv, hs⟩ := H.rpb
  have mp : rp ∈ ownA rp rc b L := by simp [ownA]
  have mc : rc ∈ ownA rp rc b L := by simp [ownA]
  have mb : ∀ i, b = some i → i ∈ ownA rp rc b L := fun i hi => by simp [ownA, hi]
  have mw : ∀ t ∈ L, t.wb ∈ ownA rp rc b L := fun t ht => by
    simp only [ownA, List.mem_cons, List.mem_append, List.mem_map]; exact .inr (.inr (.inr ⟨t, ht, rfl⟩))
  exact
  { rpb := ⟨v, (s.get _ H.lp (fun h => hS _ h mp)).trans hv, hs.same s (fun i hi h => hS _ h (mb i hi))⟩
    rcb := (s.get _ H.lc (fun h => hS _ h mc)).trans H.rcb
    wb := fun t ht => by
      obtain ⟨h1, h2, h3, h4, h5, h6, h7⟩ := H.wb t ht
      exact ⟨Nat.lt_of_lt_of_le h1 s.next, (s.get _ h1 (fun h => hS _ h (mw t ht))).trans h2, fun h => (hY _ h).1 (mw t ht), h4, h5, h6, h7⟩
    wd := H.wd
    lp := Nat.lt_of_lt_of_le H.lp s.next
    lc := Nat.lt_of_lt_of_le H.lc s.next
    pc := H.pc
    xp := fun h => (hY _ h).1 mp
    xc := fun h => (hY _ h).1 mc
    xb := fun i hi => ⟨fun h => (hY _ h).1 (mb i hi), (H.xb i hi).2⟩
    zp := H.zp
    zc := H.zc
    xl := fun j hj => (hY j hj).2
    len := H.len }
theorem R4At.turnX {g':Heap}{S Y:List Nat}(H:R4At g rp rc b cls L X)(s:Same S g g')(hS:∀ j∈S,j∈X)(hY:∀ j∈Y,(j∈X∨g.next≤j)∧j<g'.next):R4At g' rp rc b cls L Y:=
 H.frame s (fun j hj hm=>(H.own hm).1 (hS j hj)) (fun j hj=>⟨fun hm=>by
  have:=H.own hm
  rcases (hY j hj).1 with h | h
  ·exact this.1 h
  ·omega,(hY j hj).2⟩)
end
def xR (D:Nat→Nat)(bT bq:Option Nat)(X:List Nat):List Nat:=D 2::D 3::D 4::(bT.toList++(bq.toList++X))
theorem xR_mem {D:Nat→Nat}{bT bq:Option Nat}{X:List Nat}{j:Nat}:j∈xR D bT bq X↔j=D 2∨j=D 3∨j=D 4∨bT=some j∨bq=some j∨j∈X:=by
 simp only [xR,List.mem_cons,List.mem_append,Option.mem_toList]
def exR (D:Nat→Nat)(bT bq:Option Nat)(j:Nat):Prop:=j=D 2∨j=D 3∨j=D 4∨bT=some j∨bq=some j
theorem exR_x {D:Nat→Nat}{bT bq:Option Nat}{X:List Nat}{j:Nat}(h:exR D bT bq j):j∈xR D bT bq X:=by
 rw [xR_mem]
 rcases h with h | h | h | h | h
 ·exact .inl h
 ·exact .inr (.inl h)
 ·exact .inr (.inr (.inl h))
 ·exact .inr (.inr (.inr (.inl h)))
 ·exact .inr (.inr (.inr (.inr (.inl h))))
structure Rk (g:Heap)(D:Nat→Nat)(b bT bq:Option Nat)(cls:List Int)(L:List Tm)(l:PAl)(T:List Shp)(gq:List Int)(X:List Nat):Prop where
 ar:R4At g (D 0) (D 1) b cls L (xR D bT bq X)
 alb:g.get (D 2)=some (.cells true [.ptr (some (D 0,0)),.sl (some (D 3,0)) l.un.length (.ex l.un.length)])
 stb:g.get (D 3)=some (.cells true (unC l.un))
 mkb:∃ vT vq,g.get (D 4)=some (.cells true [.ptr (some (D 0,0)),vT,vq])∧SlB g bT 3 vT (shC T) T.length∧QuV g 0 bq vq gq
 rel:Rel l.ar cls L
 len:l.un.length=l.ar.sp.length
 n23:D 2≠D 3
 n24:D 2≠D 4
 n34:D 3≠D 4
 dT:∀ i,bT=some i→i≠D 2∧i≠D 3∧i≠D 4∧bq≠some i
 dq:∀ i,bq=some i→i≠D 2∧i≠D 3∧i≠D 4
 dX:∀ j,exR D bT bq j→j∉X∧j≠0
 x0:0∈X
 gd:∀ s∈T,goodB s=true
 tl:T.length≤60000
def ownR (D:Nat→Nat)(b bT bq:Option Nat)(L:List Tm):List Nat:=ownA (D 0) (D 1) b L++xR D bT bq []
theorem ownR_mem {D:Nat→Nat}{b bT bq:Option Nat}{L:List Tm}{j:Nat}:j∈ownR D b bT bq L↔j∈ownA (D 0) (D 1) b L∨exR D bT bq j:=by
 unfold ownR exR
 rw [List.mem_append,xR_mem]
 simp
section
variable {g:Heap}{D:Nat→Nat}{b bT bq:Option Nat}{cls:List Int}{L:List Tm}{l:PAl}{T:List Shp}{gq:List Int}{X:List Nat}
theorem Rk.exl (H:Rk g D b bT bq cls L l T gq X){j:Nat}(h:exR D bT bq j):j<g.next:=H.ar.xl j (exR_x h)
theorem Rk.xl (H:Rk g D b bT bq cls L l T gq X){j:Nat}(h:j∈X):j<g.next:=H.ar.xl j (xR_mem.2 (by simp [h]))
theorem Rk.own (H:Rk g D b bT bq cls L l T gq X){j:Nat}(hj:j∈ownR D b bT bq L):j∉X∧j≠0∧j<g.next:=by
 rcases ownR_mem.1 hj with h | h
 ·obtain⟨h1,h2,h3⟩:=H.ar.own h
  exact⟨fun hx=>h1 (xR_mem.2 (by simp [hx])),h2,h3⟩
 ·exact⟨(H.dX j h).1,(H.dX j h).2,H.exl h⟩
theorem Rk.frame {g' : Heap} {S Y : List Nat} (H : Rk g D b bT bq cls L l T gq X) (s : Same S g g') (hS : ∀ j ∈ S, j ∉ ownR D b bT bq L) (hY : ∀ j ∈ Y, j ∉ ownR D b bT bq L ∧ j < g'.next) (h0 : 0 ∈ Y) : Rk g' D b bT bq cls L l T gq Y := by
  obtain ⟨vT, vq, hm, hT, hq⟩ := H.mkb
  have hn : ∀ j, exR D bT bq j → j ∉ S := fun j hj hm => hS j hm (ownR_mem.2 (.inr hj))
  have l2 := H.exl (j := D 2) (.inl rfl)
  have l3 := H.exl (j := D 3) (.inr (.inl rfl))
  have l4 := H.exl (j := D 4) (.inr (.inr (.inl rfl)))
  exact
  { H with
    ar := H.ar.frame s (fun j hj hm => hS j hj (ownR_mem.2 (.inl hm))) (fun j hj => by
      rw [xR_mem] at hj
      by_cases hx : j ∈ Y
      · exact ⟨fun hm => (hY j hx).1 (ownR_mem.2 (.inl hm)), (hY j hx).2⟩
      · have he : exR D bT bq j := by unfold exR; simp only [hx, or_false] at hj; exact hj
        exact ⟨fun hm => (H.ar.own hm).1 (exR_x he), Nat.lt_of_lt_of_le (H.exl he) s.next⟩)
    alb := (s.get _ l2 (hn _ (.inl rfl))).trans H.alb
    stb := (s.get _ l3 (hn _ (.inr (.inl rfl)))).trans H.stb
    mkb := ⟨vT, vq, (s.get _ l4 (hn _ (.inr (.inr (.inl rfl))))).trans hm, hT.same s (fun i hi => hn i (.inr (.inr (.inr (.inl hi))))), hq.keep s (fun i hi => hn i (.inr (.inr (.inr (.inr hi)))))⟩
    dX := fun j hj => ⟨fun hm => (hY j hm).1 (ownR_mem.2 (.inr hj)), (H.dX j hj).2⟩
    x0 := h0 }
theorem Rk.keep {g':Heap}(H:Rk g D b bT bq cls L l T gq X)(s:Same [] g g'):Rk g' D b bT bq cls L l T gq X:=
 H.frame s (by simp) (fun j hj=>⟨fun hm=>(H.own hm).1 hj,Nat.lt_of_lt_of_le (H.xl hj) s.next⟩) H.x0
theorem Rk.kp {g':Heap}{Z Y:List Nat}(H:Rk g D b bT bq cls L l T gq X)(k:KpX Z g g')(hZ:∀ j∈ownR D b bT bq L,j∈Z)(hY:∀ j∈Y,j∉ownR D b bT bq L∧j<g'.next)(h0:0∈Y):Rk g' D b bT bq cls L l T gq Y:=
 H.frame k.frame (fun j hj hm=>not_out (hZ j hm) hj) hY h0
theorem Rk.subX {Y:List Nat}(H:Rk g D b bT bq cls L l T gq X)(hs:∀ j∈Y,j∈X)(h0:0∈Y):Rk g D b bT bq cls L l T gq Y:=
 H.frame (Same.refl [] g) (by simp) (fun j hj=>⟨fun hm=>(H.own hm).1 (hs j hj),H.xl (hs j hj)⟩) h0
theorem Rk.addX {g':Heap}(H:Rk g D b bT bq cls L l T gq X)(s:Same [] g g'){j:Nat}(h1:g.next≤j)(h2:j<g'.next):Rk g' D b bT bq cls L l T gq (j::X):=
 H.frame s (by simp) (fun i hi=>by
  rw [List.mem_cons] at hi
  rcases hi with rfl | hi
  ·exact⟨fun hm=>by have:=(H.own hm).2.2;omega,h2⟩
  ·exact⟨fun hm=>(H.own hm).1 hi,Nat.lt_of_lt_of_le (H.xl hi) s.next⟩) (List.mem_cons_of_mem _ H.x0)
theorem Rk.arena {g' : Heap} {b' : Option Nat} {cls' : List Int} {L' : List Tm} {a' : PAr} (H : Rk g D b bT bq cls L l T gq X) (R : R4At g' (D 0) (D 1) b' cls' L' (xR D bT bq X)) (k : KpX (xR D bT bq X) g g') (r : Rel a' cls' L') (hl : a'.sp.length = l.ar.sp.length) : Rk g' D b' bT bq cls' L' ⟨a', l.un⟩ T gq X ∧ KpX X g g' := by
  obtain ⟨vT, vq, hm, hT, hq⟩ := H.mkb
  have l2 := H.exl (j := D 2) (.inl rfl)
  have l3 := H.exl (j := D 3) (.inr (.inl rfl))
  have l4 := H.exl (j := D 4) (.inr (.inr (.inl rfl)))
  have hk : ∀ j, exR D bT bq j → g'.get j = g.get j := fun j hj => k.get j (exR_x hj) (H.exl hj)
  refine ⟨
  { H with
    ar := R
    alb := (hk _ (.inl rfl)).trans H.alb
    stb := (hk _ (.inr (.inl rfl))).trans H.stb
    mkb := ⟨vT, vq, (hk _ (.inr (.inr (.inl rfl)))).trans hm, hT.same k.frame (fun i hi => not_out (xR_mem.2 (by simp [hi]))), hq.keep k.frame (fun i hi => not_out (xR_mem.2 (by simp [hi])))⟩
    rel := r
    len := H.len.trans hl.symm }, k.sub fun j hj => xR_mem.2 (by simp [hj])⟩
end
set_option linter.all false
structure J (g:Heap)(C D:Nat→Nat)(qb b bT bq:Option Nat)(cls:List Int)(L:List Tm)(lp:PAl)(gp:List Int)(lr:PAl)(gr:List Int)(T:List Shp)(Z:List Nat):Prop where
 pm:Mm g C lp T qb gp (ownR D b bT bq L++Z)
 rk:Rk g D b bT bq cls L lr T gr (ownP C qb++Z)
 z0:0∈Z
section
variable {g g':Heap}{C D:Nat→Nat}{qb b bT bq:Option Nat}{cls:List Int}{L:List Tm}{lp lr:PAl}{gp gr:List Int}{T:List Shp}{Z:List Nat}
theorem J.zl (P:J g C D qb b bT bq cls L lp gp lr gr T Z){j:Nat}(h:j∈Z):j<g.next:=P.pm.xl j (List.mem_append_right _ h)
theorem J.zP (P:J g C D qb b bT bq cls L lp gp lr gr T Z){j:Nat}(h:j∈Z):j∉ownP C qb:=fun hm=>(P.pm.own hm).1 (List.mem_append_right _ h)
theorem J.zR (P:J g C D qb b bT bq cls L lp gp lr gr T Z){j:Nat}(h:j∈Z):j∉ownR D b bT bq L:=fun hm=>(P.rk.own hm).1 (List.mem_append_right _ h)
theorem J.prog {lp':PAl}{gp':List Int}{qb':Option Nat}(P:J g C D qb b bT bq cls L lp gp lr gr T Z)(H:Mm g' C lp' T qb' gp' (ownR D b bT bq L++Z))(k:KpX (ownR D b bT bq L++Z) g g'):J g' C D qb' b bT bq cls L lp' gp' lr gr T Z∧KpX Z g g':=
 ⟨⟨H,P.rk.kp k (fun j hj=>List.mem_append_left _ hj) (fun j hj=>by
  rw [List.mem_append] at hj
  rcases hj with hj | hj
  ·obtain⟨h1,_,h3⟩:=H.own hj
   exact⟨fun hm=>h1 (List.mem_append_left _ hm),h3⟩
  ·exact⟨P.zR hj,H.xl j (List.mem_append_right _ hj)⟩) (List.mem_append_right _ P.z0),P.z0⟩,k.sub fun j hj=>List.mem_append_right _ hj⟩
theorem J.doc {lr':PAl}{gr':List Int}{b' bT' bq':Option Nat}{cls':List Int}{L':List Tm}(P:J g C D qb b bT bq cls L lp gp lr gr T Z)(H:Rk g' D b' bT' bq' cls' L' lr' T gr' (ownP C qb++Z))(k:KpX (ownP C qb++Z) g g'):J g' C D qb b' bT' bq' cls' L' lp gp lr' gr' T Z∧KpX Z g g':=
 ⟨⟨P.pm.kp k (fun j hj=>List.mem_append_left _ hj) (List.mem_append_right _ P.z0) (fun j hj=>by
  rw [List.mem_append] at hj
  rcases hj with hj | hj
  ·obtain⟨h1,_,h3⟩:=H.own hj
   exact⟨fun hm=>h1 (List.mem_append_left _ hm),h3⟩
  ·exact⟨P.zP hj,H.xl (List.mem_append_right _ hj)⟩) (List.mem_append_right _ P.z0),H,P.z0⟩,k.sub fun j hj=>List.mem_append_right _ hj⟩
theorem J.frame {S Y:List Nat}(P:J g C D qb b bT bq cls L lp gp lr gr T Z)(s:Same S g g')(hS:∀ j∈S,(j∈Z∧j≠0)∨g.next≤j)(hY:∀ j∈Y,(j∈Z∨g.next≤j)∧j<g'.next)(h0:0∈Y):J g' C D qb b bT bq cls L lp gp lr gr T Y:=by
 have sP:∀ j∈S,j∉ownP C qb∧j≠0:=fun j hj=>by
  rcases hS j hj with h | h
  ·exact⟨P.zP h.1,h.2⟩
  ·exact⟨fun hm=>by have:=(P.pm.own hm).2.2;omega,by have:=P.zl P.z0;omega⟩
 have sR:∀ j∈S,j∉ownR D b bT bq L:=fun j hj=>by
  rcases hS j hj with h | h
  ·exact P.zR h.1
  ·exact fun hm=>by have:=(P.rk.own hm).2.2;omega
 have yP:∀ j∈Y,j∉ownP C qb:=fun j hj=>by
  rcases (hY j hj).1 with h | h
  ·exact P.zP h
  ·exact fun hm=>by have:=(P.pm.own hm).2.2;omega
 have yR:∀ j∈Y,j∉ownR D b bT bq L:=fun j hj=>by
  rcases (hY j hj).1 with h | h
  ·exact P.zR h
  ·exact fun hm=>by have:=(P.rk.own hm).2.2;omega
 refine⟨P.pm.frame s sP (fun j hj=>?_) (List.mem_append_right _ h0),P.rk.frame s sR (fun j hj=>?_) (List.mem_append_right _ h0),h0⟩
 ·rw [List.mem_append] at hj
  rcases hj with hj | hj
  ·exact⟨fun hm=>(P.pm.own hm).1 (List.mem_append_left _ hj),Nat.lt_of_lt_of_le (P.rk.own hj).2.2 s.next⟩
  ·exact⟨yP j hj,(hY j hj).2⟩
 ·rw [List.mem_append] at hj
  rcases hj with hj | hj
  ·exact⟨fun hm=>(P.rk.own hm).1 (List.mem_append_left _ hj),Nat.lt_of_lt_of_le (P.pm.own hj).2.2 s.next⟩
  ·exact⟨yR j hj,(hY j hj).2⟩
theorem J.keep (P:J g C D qb b bT bq cls L lp gp lr gr T Z)(s:Same [] g g'):J g' C D qb b bT bq cls L lp gp lr gr T Z:=
 P.frame s (fun j hj=>by simp at hj) (fun j hj=>⟨.inl hj,Nat.lt_of_lt_of_le (P.zl hj) s.next⟩) P.z0
theorem J.addZ (P:J g C D qb b bT bq cls L lp gp lr gr T Z)(s:Same [] g g'){j:Nat}(h1:g.next≤j)(h2:j<g'.next):J g' C D qb b bT bq cls L lp gp lr gr T (j::Z):=
 P.frame s (fun j hj=>by simp at hj) (fun i hi=>by
  rw [List.mem_cons] at hi
  rcases hi with rfl | hi
  ·exact⟨.inr h1,h2⟩
  ·exact⟨.inl hi,Nat.lt_of_lt_of_le (P.zl hi) s.next⟩) (List.mem_cons_of_mem _ P.z0)
theorem J.subZ {Y:List Nat}(P:J g C D qb b bT bq cls L lp gp lr gr T Z)(hs:∀ j∈Y,j∈Z)(h0:0∈Y):J g C D qb b bT bq cls L lp gp lr gr T Y:=
 P.frame (Same.refl [] g) (fun j hj=>by simp at hj) (fun j hj=>⟨.inl (hs j hj),P.zl (hs j hj)⟩) h0
end
set_option linter.all false
attribute [local congr] c_bind c_cl c_mk c_lp c_clC c_gQ c_gV c_condE c_thenK
def WfW (L:List Tm):Prop:=∀ t∈L,∀ x∈t.W,wf64 x
theorem WfW.ins {L:List Tm}(H:WfW L)(k:Nat)(ad:Int)(n wb:Nat):WfW (insT L k ⟨ad,List.replicate n 0,false,wb⟩):=fun t ht x hx=>by
 unfold insT at ht
 rw [List.mem_append,List.mem_cons] at ht
 rcases ht with ht | rfl | ht
 ·exact H t (List.mem_of_mem_take ht) x hx
 ·have:=List.eq_of_mem_replicate hx
  subst this;unfold wf64;omega
 ·exact H t (List.mem_of_mem_drop ht) x hx
theorem WfW.sub {L L':List Tm}(H:WfW L)(h:∀ t∈L',∃ u∈L,u.W=t.W):WfW L':=fun t ht x hx=>by
 obtain⟨u,hu,e⟩:=h t ht
 exact H u hu x (by rw [e];exact hx)
theorem insT_len {L:List Tm}{k:Nat}{t:Tm}(h:k≤L.length):(insT L k t).length=L.length+1:=by
 unfold insT;simp;omega
section
variable {g:Heap}{D:Nat→Nat}{b bT bq:Option Nat}{cls:List Int}{L:List Tm}{l:PAl}{T:List Shp}{gq:List Int}{X:List Nat}
theorem Rk.cls_at (H:Rk g D b bT bq cls L l T gq X){n:Nat}(hn:n<l.un.length):cls[n]?=some (l.ar.cls n):=H.rel.cl n (by rw [← H.len];exact hn)
theorem Rk.clen (H:Rk g D b bT bq cls L l T gq X):cls.length=l.un.length:=by rw [H.rel.len,H.len]
theorem Rk.take_at (H:Rk g D b bT bq cls L l T gq X)(hw:WfW L)(hL:L.length < 100000){n:Nat}(hn:1≤n)(hc:l.ar.cls n≠-1) :
  Ok (BM (.ptr (some (D 0,0))) (.int .i64 n) g) fun r=>r.1 = .int .i64 (l.ar.take n).1∧∃ b' L',Rk r.2 D b' bT bq cls L' ⟨(l.ar.take n).2.2,l.un⟩ T gq X∧KpX X g r.2∧WfW L'∧
   ((l.ar.taken n=fullB (l.ar.cls n)∧l.ar.take n=(0,5,l.ar)∧L'.length≤L.length)∨(l.ar.taken n≠fullB (l.ar.cls n)∧(l.ar.take n).1≠0∧(l.ar.take n).2.1=0∧L'.length≤L.length+1)):=by
 obtain⟨hh,he,c0,c5⟩:=cls_rng H.rel.wf hc
 have h2:=hh.2
 have hi:=H.rel.wf.hi
 have hcn:=H.rel.cl n (by omega)
 refine(rtake_ok H.ar ⟨hn,by omega⟩ hcn ⟨c0,c5⟩ hL).mono ?_
 rintro⟨v,g'⟩ (⟨hv,s,hq⟩ | ⟨q,k,wb,b',hq,hk,hv,R,kx⟩)
 ·simp only at hv s
  have ht:=rel_take_no H.rel hc hq
  rw [ht]
  refine⟨hv,b,L,H.keep s,KpX.same s,hw,.inl ⟨?_,rfl,Nat.le_refl _⟩⟩
  apply Classical.byContradiction
  intro hf
  obtain⟨_,hcl,⟨j,hj,hb⟩,_⟩:=roomAt_bit ⟨c0,c5⟩ (⟨rfl,hf⟩:roomAt l.ar (l.ar.cls n) n) H.rel.wf.fi
  exact hq j hj ((free_of H.rel hh hcl ⟨c0,c5⟩ hj).2 hb)
 ·simp only at hv R kx
  obtain⟨a',ht,h0,r'⟩:=rel_take H.rel hc hq hk wb
  have hl:a'.sp.length=l.ar.sp.length:=by have:=take_len' l.ar n;rw [ht] at this;exact this
  rw [ht]
  obtain⟨H',k'⟩:=H.arena R kx r' hl
  have hkl:k≤L.length:=hk.le
  refine⟨hv,b',_,H',k',hw.ins _ _ _ _,.inr ⟨fun hf=>?_,h0,rfl,by rw [insT_len hkl];omega⟩⟩
  have hfr:=(free_of H.rel hh he.symm ⟨c0,c5⟩ hq.lt).1 hq.no
  have hp:=pls_eq (c:=l.ar.cls n) ⟨c0,c5⟩
  have hql:=hq.lt
  have hb:=full_bits (c:=l.ar.cls n) ⟨c0,c5⟩ q (by omega)
  rw [← hf] at hb
  unfold PAr.taken at hb
  rw [if_neg hc,hfr] at hb
  simp at hb;omega
end
set_option linter.all false
attribute [local congr] c_bind c_cl c_mk c_lp c_clC c_gQ c_gV c_condE c_thenK
theorem sweep_no {a:PAr}{n:Int}(h:a.cls n = -1):a.sweep n=(0,a):=by unfold PAr.sweep;rw [if_pos h]
section
variable {g:Heap}{D:Nat→Nat}{b bT bq:Option Nat}{cls:List Int}{L:List Tm}{l:PAl}{T:List Shp}{gq:List Int}{X:List Nat}
theorem Rk.sweep_at (H:Rk g D b bT bq cls L l T gq X)(hw:WfW L){n:Nat}(hn:n<l.un.length) :
  Ok (BC (.ptr (some (D 0,0))) (.int .i64 n) g) fun r=>∃ b' cls' L',Rk r.2 D b' bT bq cls' L' ⟨(l.ar.sweep n).2,l.un⟩ T gq X∧KpX X g r.2∧L'.length≤L.length∧WfW L':=by
 have hcn:=H.cls_at hn
 refine(rsweep_ok H.ar hcn).mono ?_
 rintro⟨v,g'⟩ h
 by_cases hc:l.ar.cls n = -1
 ·rw [if_pos (by omega)] at h
  cases h
  rw [sweep_no hc]
  exact⟨b,cls,L,H,KpX.refl _ _,Nat.le_refl _,hw⟩
 ·obtain⟨_,_,c0,_⟩:=cls_rng H.rel.wf hc
  rw [if_neg (by omega)] at h
  obtain⟨_,⟨b',R⟩,kx⟩:=h
  simp only at R kx
  obtain⟨_,r⟩:=rel_sweep H.rel hc
  have e:((n:Int)).toNat=n:=by omega
  rw [e] at r
  obtain⟨H',k'⟩:=H.arena R kx r (sweepL_len l n).2
  exact⟨b',_,_,H',k',fil_len _ _,hw.sub fun t ht=>⟨t,(List.mem_filter.1 ht).1,rfl⟩⟩
theorem Rk.ldd (H:Rk g D b bT bq cls L l T gq X):ldS g (.ptr (some (D 2,0)))=some (.ptr (some (D 0,0)))∧ldS g (.ptr (some (D 2,1)))=some (.sl (some (D 3,0)) l.un.length (.ex l.un.length)):=by
 rw [ldS_at H.alb,ldS_at H.alb];exact⟨rfl,rfl⟩
theorem Rk.ldu (H:Rk g D b bT bq cls L l T gq X){n:Nat}(hn:n<l.un.length):(∀ k,iaS 1 (.sl (some (D 3,0)) l.un.length (.ex l.un.length)) (.int k (n:Int))=some (.ptr (some (D 3,n))))∧ldS g (.ptr (some (D 3,n)))=some (.bool ((l.un[n]?).getD false)):=by
 refine⟨fun k=>by rw [iaS_sl 1 (D 3,0) _ _ k _ ⟨by omega,by omega⟩];simp,?_⟩
 rw [ldS_at H.stb,List.getElem?_eq_getElem hn]
 simp [unC,hn]
theorem Rk.stu (H : Rk g D b bT bq cls L l T gq X) {n : Nat} (hn : n < l.un.length) (y : Bool) : ∃ g', stP 1 g (.ptr (some (D 3, n))) (.bool y) = some (.bot, g') ∧ Rk g' D b bT bq cls L ⟨l.ar, l.un.set n y⟩ T gq X ∧ KpX X g g' := by
  obtain ⟨vT, vq, hm, hT, hq⟩ := H.mkb
  have s : Same [D 3] g (g.put (D 3) (some (.cells true (unC (l.un.set n y))))) := Same.put _ _ _
  have l2 := H.exl (j := D 2) (.inl rfl)
  have l4 := H.exl (j := D 4) (.inr (.inr (.inl rfl)))
  have h3 : D 3 ∉ X := (H.dX _ (.inr (.inl rfl))).1
  refine ⟨_, by rw [stP_one H.stb (by simp [unC]; exact hn) rfl]; simp only [unC, List.map_set], ?_, KpX.of s (fun j hj => by rw [List.mem_singleton] at hj; subst hj; exact h3)⟩
  exact
  { H with
    ar := H.ar.keep s (fun j hj => by rw [List.mem_singleton] at hj; subst hj; exact xR_mem.2 (by simp))
    alb := by
      rw [List.length_set]
      exact (s.get _ l2 (by simp; exact H.n23)).trans H.alb
    stb := get_put_eq
    mkb := ⟨vT, vq, (s.get _ l4 (by simp; exact fun e => H.n34 e.symm)).trans hm, hT.same s (fun i hi => by simp; exact (H.dT i hi).2.1), hq.keep s (fun i hi => by simp; exact (H.dq i hi).2.1)⟩
    len := by rw [List.length_set]; exact H.len }
theorem Rk.set_at (H:Rk g D b bT bq cls L l T gq X){n:Nat}{c:Int}(hn:1≤n)(hl:n<l.un.length)(hc:0≤c∧c≤5)(h:l.ar.cls n = -1):∃ g',stP 1 g (.ptr (some (D 1,n))) (.int .i64 c)=some (.bot,g')∧Rk g' D b bT bq (cls.set n c) L ⟨(l.ar.set n c).2,l.un⟩ T gq X∧KpX X g g':=by
 have hcl:=H.clen
 obtain⟨st,R⟩:=H.ar.setc (n:=n) (by omega) c
 have kx:=KpX.put g (some (.cells true (wsC (cls.set n c)))) H.ar.xc
 have hh:l.ar.has n:=⟨by omega,by have:=H.len;omega⟩
 obtain⟨a',e,r⟩:=rel_set H.rel hh hc h
 have hla:a'.sp.length=l.ar.sp.length:=by have:=set_len' l.ar n c;rw [e] at this;exact this
 obtain⟨H',k'⟩:=H.arena R kx r hla
 rw [e]
 exact⟨_,st,H',k'⟩
end
set_option linter.all false
attribute [local congr] c_bind c_cl c_mk c_lp c_clC c_gQ c_gV c_condE c_thenK
def Good1 (p:Int × Int):Prop:=(p.1=0∧p.2=5)∨(p.1≠0∧p.2=0)
section
variable {g:Heap}{D:Nat→Nat}{b bT bq:Option Nat}{cls:List Int}{L:List Tm}{l:PAl}{T:List Shp}{gq:List Int}{X:List Nat}
theorem rsweepA_ok (H:Rk g D b bT bq cls L l T gq X)(hw:WfW L)(c:Int){n:Nat}(hn:n<l.un.length) :
  Ok (Am (.ptr (some (D 2,0))) (.int .i64 n) g) fun r=>r.1 = .bool ((l.un[n]?).getD false)∧∃ b' cls' L',Rk r.2 D b' bT bq cls' L' (l.at1 c n) T gq X∧KpX X g r.2∧L'.length≤L.length∧WfW L':=by
 obtain⟨d0,d1⟩:=H.ldd
 obtain⟨ix,ld⟩:=H.ldu hn
 unfold PAl.at1
 cases hb:(l.un[n]?).getD false with
 | false=>
  rw [hb] at ld
  exact ok_val (v:=.bool false) (g:=g) (by simp -implicitDefEqProofs only [Am,nilV_ptr,Option.bind_some,faP_ptr,Nat.zero_add,d1,ix,ld,un_not,Bool.not_false,condE_true]) ⟨rfl,b,cls,L,by simpa using H,KpX.refl _ _,Nat.le_refl _,hw⟩
 | true=>
  rw [hb] at ld
  obtain⟨g1,st,H1,k1⟩:=H.stu hn false
  refine Ok.eq ?_ (by simp -implicitDefEqProofs only [Am,nilV_ptr,Option.bind_some,faP_ptr,Nat.zero_add,d1,ix,ld,un_not,Bool.not_true,condE_false,st,cl_some,H1.ldd.1]<;>rfl)
  refine ok_cl (H1.sweep_at hw (n:=n) (by simpa using hn)) ?_
  rintro _ g2 ⟨b',cls',L',H2,k2,h3,h4⟩
  simp only at H2 k2
  exact ok_val (v:=.bool true) (g:=g2) rfl ⟨rfl,b',cls',L',by simpa [PAl.sweepU] using H2,k1.trans k2,h3,h4⟩
theorem rgive_ok (H:Rk g D b bT bq cls L l T gq X)(hw:WfW L)(hL:L.length < 100000){n:Nat}{c:Int}(hn1:1≤n)(hn:n<l.un.length)(hc:0≤c∧c≤5)(h:l.ar.cls n = -1) :
  Ok (Bu (.ptr (some (D 2,0))) (.int .i64 n) (.int .i64 c) g) fun r=>r.1 = .int .i64 (l.beginU n c).1.1∧Good1 (l.beginU n c).1∧∃ b' cls' L',Rk r.2 D b' bT bq cls' L' (l.beginU n c).2 T gq X∧KpX X g r.2∧L'.length≤L.length+1∧WfW L':=by
 obtain⟨d0,d1⟩:=H.ldd
 have hcn:=H.cls_at hn
 obtain⟨ix,ld⟩:=H.ar.cl hcn
 obtain⟨g1,st,H1,k1⟩:=H.set_at hn1 hn hc h
 obtain⟨d0',d1'⟩:=H1.ldd
 obtain⟨ix1,ld1⟩:=H1.ldu (n:=n) hn
 obtain⟨g2,st2,H2,k2⟩:=H1.stu (n:=n) hn false
 simp only at d1' ix1
 refine Ok.eq ?_ (by simp -implicitDefEqProofs only [Bu,nilV_ptr,Option.bind_some,faP_ptr,Nat.zero_add,d0,H.ar.ldc,ix,st,cl_some,d1',ix1,st2,H2.ldd.1]<;>rfl)
 have hh:l.ar.has n:=⟨by omega,by have:=H.len;omega⟩
 have hcls:(l.ar.set n c).2.cls n=c:=by
  obtain⟨a',e,r⟩:=rel_set H.rel hh hc h
  rw [e]
  have hsl:=set_len' l.ar n c
  rw [e] at hsl
  simp only at hsl
  have hcl:=r.cl n (by have:=H.len;omega)
  rw [List.getElem?_set_self (by rw [H.clen];exact hn)] at hcl
  exact(Option.some.inj hcl).symm
 refine ok_cl (H2.take_at hw hL hn1 (by simp only;rw [hcls];omega)) ?_
 rintro _ g3 ⟨rfl,b',L',H3,k3,h5,h6⟩
 simp only at H3 k3 h6
 refine ok_val rfl ⟨rfl,?_,b',_,L',H3,(k1.trans k2).trans k3,by omega,h5⟩
 rcases h6 with⟨_,h6,_⟩ | ⟨_,h6,h7,_⟩
 ·exact .inl ⟨by show((l.ar.set n c).2.take n).1=0;rw [h6],by show((l.ar.set n c).2.take n).2.1=5;rw [h6]⟩
 ·exact .inr ⟨h6,h7⟩
def REnd (D:Nat→Nat)(bT bq:Option Nat)(T:List Shp)(gq:List Int)(X:List Nat)(g:Heap)(n0:Nat)(x:Option (Int × Int) × PAl)(i:Nat)(r:Ex × List AV × Heap):Prop:=
 KpX X g r.2.2∧∃ b' cls' L',Rk r.2.2 D b' bT bq cls' L' x.2 T gq X∧WfW L'∧
 match x.1 with
 | some a=>r.1 = .ret∧r.2.1.getD 0 .bot = .int .i64 a.1∧L'.length≤n0+1∧Good1 a
 | none=>r.1 = .exit i∧r.2.1.getD 0 .bot = .int .i64 0∧L'.length≤n0
theorem rscan1_ok (H:Rk g D b bT bq cls L l T gq X)(hw:WfW L)(hL:L.length < 100000){c:Int}(hc:0≤c∧c≤5) :
  Ok (Di (.ptr (some (D 2,0))) (.int .i64 c) (.int .i64 0) (.int .i64 1) g) (REnd D bT bq T gq X g L.length (PAl.scan1 c (l.un.length - 1) 1 l) 0):=by
 have hN:l.un.length≤512:=by rw [H.len];exact H.rel.wf.hi
 refine ok_loop (fun m vs g'=>∃ (n:Nat) (l':PAl) (b':Option Nat) (cls':List Int) (L':List Tm),vs = [.int .i64 0,.int .i64 n]∧(m+n=l.un.length∨(m=0∧l.un.length≤n))∧1≤n∧Rk g' D b' bT bq cls' L' l' T gq X∧KpX X g g'∧l'.un.length=l.un.length∧L'.length≤L.length∧WfW L'∧n≤l.un.length+1∧PAl.scan1 c (l.un.length - 1) 1 l=PAl.scan1 c m n l') ?_ (n:=l.un.length - 1) (by omega)
  ⟨1,l,b,cls,L,rfl,by omega,by omega,H,KpX.refl _ _,rfl,Nat.le_refl _,hw,by omega,rfl⟩
 rintro m vs g' ⟨n,l',b',cls',L',rfl,hm,hn1,H',k,hl,hLL,hw',hnn,he⟩
 rw [gd0,gd1]
 obtain⟨d0,_⟩:=H'.ldd
 have ln:=H'.clen
 by_cases hi:n<l.un.length
 ·have hlt:(n:Int)<cls'.length:=by omega
  obtain⟨j,rfl⟩:∃ j,m=j+1:=⟨m - 1,by omega⟩
  have hcn:=H'.cls_at (n:=n) (by omega)
  obtain⟨ix,ld⟩:=H'.ar.cl hcn
  have sc:=suc64 n (by omega)
  by_cases h1:l'.ar.cls n=c
  ·refine Ok.eq ?_ (by simp -implicitDefEqProofs only [CI,nilV_ptr,Option.bind_some,faP_ptr,Nat.zero_add,d0,H'.ar.ldc,lnL_sl,bin_lss,hlt,decide_true,condE_true,ix,ld,neq_int,h1,Bool.not_true,condE_false]<;>rfl)
   refine ok_cl (rsweepA_ok H' hw' c (n:=n) (by omega)) ?_
   rintro _ g2 ⟨rfl,b2,cls2,L2,H2,k2,h4,h5⟩
   simp only at H2 k2
   have al:=at1_len c n l'
   have hcn2:=H2.cls_at (n:=n) (by omega)
   obtain⟨ix2,ld2⟩:=H2.ar.cl hcn2
   obtain⟨d02,_⟩:=H2.ldd
   by_cases h2:(l'.at1 c n).ar.cls n=c
   ·refine Ok.eq ?_ (by simp -implicitDefEqProofs only [nilV_ptr,Option.bind_some,faP_ptr,Nat.zero_add,d02,H2.ar.ldc,ix2,ld2,eql_int,h2,decide_true,condE_true]<;>rfl)
    refine ok_cl (H2.take_at h5 (by omega) hn1 (by omega)) ?_
    rintro _ g3 ⟨rfl,b3,L3,H3,k3,h7,h8⟩
    simp only at H3 k3
    rcases h8 with⟨hf,h8,h6⟩ | ⟨hf,h8,h9,h6⟩
    ·rw [h8] at H3 ⊢
     refine(Ok.of (r:=(.normal,[.int .i64 0,.int .i64 ((n+1:Nat):Int)],g3)) (.inl ⟨rfl,j,by omega,n+1,l'.at1 c n,b3,_,L3,rfl,by omega,by omega,H3,(k.trans k2).trans k3,by omega,by omega,h7,by omega,?_⟩)).eq (by
      simp -implicitDefEqProofs only [neq_int,decide_true,Bool.not_true,Option.bind_some,condE_false,bin_add,sc])
     rw [he,PAl.scan1,if_neg (fun h=>h h1),if_neg (fun h=>h.2 (by rw [hf,h2]))]
    ·refine(Ok.of (r:=(.ret,[.int .i64 ((l'.at1 c n).ar.take n).1,.int .i64 (n:Int)],g3)) (.inr ⟨by simp,?_⟩)).eq (by
      simp -implicitDefEqProofs only [neq_int,h8,decide_false,Bool.not_false,Option.bind_some,condE_true])
     rw [he,PAl.scan1,if_neg (fun h=>h h1),if_pos ⟨h2,by rw [← h2];exact hf⟩]
     exact⟨(k.trans k2).trans k3,b3,_,L3,H3,h7,rfl,rfl,by omega,.inr ⟨h8,h9⟩⟩
   ·refine(Ok.of (r:=(.normal,[.int .i64 0,.int .i64 ((n+1:Nat):Int)],g2)) (.inl ⟨rfl,j,by omega,n+1,l'.at1 c n,b2,cls2,L2,rfl,by omega,by omega,H2,k.trans k2,by omega,by omega,h5,by omega,?_⟩)).eq (by
     simp -implicitDefEqProofs only [nilV_ptr,Option.bind_some,faP_ptr,Nat.zero_add,d02,H2.ar.ldc,ix2,ld2,eql_int,h2,decide_false,condE_false,bin_add,sc])
    rw [he,PAl.scan1,if_neg (fun h=>h h1),if_neg (fun h=>h2 h.1)]
  ·refine(Ok.of (r:=(.normal,[.int .i64 0,.int .i64 ((n+1:Nat):Int)],g')) (.inl ⟨rfl,j,by omega,n+1,l',b',cls',L',rfl,by omega,by omega,H',k,hl,hLL,hw',by omega,?_⟩)).eq (by
    simp -implicitDefEqProofs only [CI,nilV_ptr,Option.bind_some,faP_ptr,Nat.zero_add,d0,H'.ar.ldc,lnL_sl,bin_lss,hlt,decide_true,condE_true,ix,ld,neq_int,h1,decide_false,Bool.not_false,bin_add,sc])
   rw [he,PAl.scan1,if_pos h1]
 ·have hlt : ¬ (n:Int)<cls'.length:=by omega
  obtain rfl:m=0:=by omega
  refine(Ok.of (r:=(.exit 0,[.int .i64 0,.int .i64 (n:Int)],g')) (.inr ⟨by simp,?_⟩)).eq (by
   simp -implicitDefEqProofs only [CI,nilV_ptr,Option.bind_some,faP_ptr,Nat.zero_add,d0,H'.ar.ldc,lnL_sl,bin_lss,hlt,decide_false,condE_false])
  rw [he]
  exact⟨k,b',cls',L',H',hw',rfl,rfl,hLL⟩
theorem rscan2_ok (H:Rk g D b bT bq cls L l T gq X)(hw:WfW L)(hL:L.length < 100000){c:Int}(hc:0≤c∧c≤5) :
  Ok (Dh (.ptr (some (D 2,0))) (.int .i64 c) (.int .i64 0) (.int .i64 1) g) (REnd D bT bq T gq X g L.length (PAl.scan2 c (l.un.length - 1) 1 l) 2):=by
 have hN:l.un.length≤512:=by rw [H.len];exact H.rel.wf.hi
 obtain⟨d0,_⟩:=H.ldd
 have ln:=H.clen
 refine ok_loop (fun m vs g'=>∃ (n:Nat),vs = [.int .i64 0,.int .i64 n]∧(m+n=l.un.length∨(m=0∧l.un.length≤n))∧1≤n∧g=g'∧n≤l.un.length+1∧PAl.scan2 c (l.un.length - 1) 1 l=PAl.scan2 c m n l) ?_ (n:=l.un.length - 1) (by omega)
  ⟨1,rfl,by omega,by omega,rfl,by omega,rfl⟩
 rintro m vs _ ⟨n,rfl,hm,hn1,rfl,hnn,he⟩
 rw [gd0,gd1]
 by_cases hi:n<l.un.length
 ·have hlt:(n:Int)<cls.length:=by omega
  obtain⟨j,rfl⟩:∃ j,m=j+1:=⟨m - 1,by omega⟩
  have hcn:=H.cls_at (n:=n) (by omega)
  obtain⟨ix,ld⟩:=H.ar.cl hcn
  have sc:=suc64 n (by omega)
  have hh:l.ar.has n:=⟨by omega,by have:=H.len;omega⟩
  have hcr:l.ar.cls n = -1∨0≤l.ar.cls n:=by
   by_cases h:l.ar.cls n = -1
   ·exact .inl h
   ·exact .inr (cls_rng H.rel.wf h).2.2.1
  by_cases h1:l.ar.cls n = -1
  ·have hneg:l.ar.cls n < 0:=by omega
   refine Ok.eq ?_ (by simp -implicitDefEqProofs only [CG,nilV_ptr,Option.bind_some,faP_ptr,Nat.zero_add,d0,H.ar.ldc,lnL_sl,bin_lss,hlt,decide_true,condE_true,ix,ld,hneg]<;>rfl)
   refine ok_cl (rgive_ok H hw hL hn1 hi hc h1) ?_
   rintro _ g2 ⟨rfl,hg1,b2,cls2,L2,H2,k2,h4,h5⟩
   simp only at H2 k2
   refine Ok.of (r:=((Ex.ret,[AV.int .i64 (l.beginU n c).1.1,AV.int .i64 (n:Int)],g2):Ex × List AV × Heap)) (Or.inr ⟨by simp,?_⟩)
   rw [he,PAl.scan2,if_pos h1]
   exact⟨k2,b2,cls2,L2,H2,h5,rfl,rfl,h4,hg1⟩
  ·have hneg : ¬ l.ar.cls n < 0:=by omega
   refine(Ok.of (r:=(.normal,[.int .i64 0,.int .i64 ((n+1:Nat):Int)],g)) (.inl ⟨rfl,j,by omega,n+1,rfl,by omega,by omega,rfl,by omega,?_⟩)).eq (by
    simp -implicitDefEqProofs only [CG,nilV_ptr,Option.bind_some,faP_ptr,Nat.zero_add,d0,H.ar.ldc,lnL_sl,bin_lss,hlt,decide_true,condE_true,ix,ld,hneg,decide_false,condE_false,bin_add,sc])
   rw [he,PAl.scan2,if_neg h1]
 ·have hlt : ¬ (n:Int)<cls.length:=by omega
  obtain rfl:m=0:=by omega
  refine(Ok.of (r:=(.exit 2,[.int .i64 0,.int .i64 (n:Int)],g)) (.inr ⟨by simp,?_⟩)).eq (by
   simp -implicitDefEqProofs only [CG,nilV_ptr,Option.bind_some,faP_ptr,Nat.zero_add,d0,H.ar.ldc,lnL_sl,bin_lss,hlt,decide_false,condE_false])
  rw [he]
  exact⟨KpX.refl _ _,b,cls,L,H,hw,rfl,rfl,Nat.le_refl _⟩
theorem rscan3_ok (H:Rk g D b bT bq cls L l T gq X)(hw:WfW L)(hL:L.length < 100000){c:Int}(hc:0≤c∧c≤5) :
  Ok (Dg (.ptr (some (D 2,0))) (.int .i64 c) (.int .i64 0) (.int .i64 1) g) (REnd D bT bq T gq X g L.length (PAl.scan3 c (l.un.length - 1) 1 l) 4):=by
 have hN:l.un.length≤512:=by rw [H.len];exact H.rel.wf.hi
 refine ok_loop (fun m vs g'=>∃ (n:Nat) (l':PAl) (b':Option Nat) (cls':List Int) (L':List Tm),vs = [.int .i64 0,.int .i64 n]∧(m+n=l.un.length∨(m=0∧l.un.length≤n))∧1≤n∧Rk g' D b' bT bq cls' L' l' T gq X∧KpX X g g'∧l'.un.length=l.un.length∧L'.length≤L.length∧WfW L'∧n≤l.un.length+1∧PAl.scan3 c (l.un.length - 1) 1 l=PAl.scan3 c m n l') ?_ (n:=l.un.length - 1) (by omega)
  ⟨1,l,b,cls,L,rfl,by omega,by omega,H,KpX.refl _ _,rfl,Nat.le_refl _,hw,by omega,rfl⟩
 rintro m vs g' ⟨n,l',b',cls',L',rfl,hm,hn1,H',k,hl,hLL,hw',hnn,he⟩
 rw [gd0,gd1]
 obtain⟨d0,_⟩:=H'.ldd
 have ln:=H'.clen
 by_cases hi:n<l.un.length
 ·have hlt:(n:Int)<cls'.length:=by omega
  obtain⟨j,rfl⟩:∃ j,m=j+1:=⟨m - 1,by omega⟩
  have sc:=suc64 n (by omega)
  refine Ok.eq ?_ (by simp -implicitDefEqProofs only [Cu,nilV_ptr,Option.bind_some,faP_ptr,Nat.zero_add,d0,H'.ar.ldc,lnL_sl,bin_lss,hlt,decide_true,condE_true]<;>rfl)
  refine ok_cl (rsweepA_ok H' hw' c (n:=n) (by omega)) ?_
  rintro _ g2 ⟨rfl,b2,cls2,L2,H2,k2,h4,h5⟩
  simp only at H2 k2
  have al:=at1_len c n l'
  unfold PAl.at1 at H2 al
  cases hb:(l'.un[n]?).getD false with
  | false=>
   rw [hb] at H2 al
   simp only [Bool.false_eq_true,if_false] at H2 al
   refine(Ok.of (r:=(.normal,[.int .i64 0,.int .i64 ((n+1:Nat):Int)],g2)) (.inl ⟨rfl,j,by omega,n+1,l',b2,cls2,L2,rfl,by omega,by omega,H2,k.trans k2,hl,by omega,h5,by omega,?_⟩)).eq (by
    simp -implicitDefEqProofs only [gdW_ft,gQ_false,pickP_bool,Bool.false_eq_true,if_false,Option.bind_some,condE_false,bin_add,sc])
   rw [he,PAl.scan3,if_neg (by rw [hb];decide)]
  | true=>
   rw [hb] at H2 al
   simp only [if_true] at H2 al
   have hcn2:=H2.cls_at (n:=n) (by omega)
   obtain⟨ix2,ld2⟩:=H2.ar.cl hcn2
   obtain⟨d02,_⟩:=H2.ldd
   have hcr:(l'.sweepU n).ar.cls n = -1∨0≤(l'.sweepU n).ar.cls n:=by
    by_cases h:(l'.sweepU n).ar.cls n = -1
    ·exact .inl h
    ·exact .inr (cls_rng H2.rel.wf h).2.2.1
   by_cases h1:(l'.sweepU n).ar.cls n = -1
   ·have hneg:(l'.sweepU n).ar.cls n < 0:=by omega
    refine Ok.eq ?_ (by simp -implicitDefEqProofs only [gdW_tt,gQ_true,cl_some,nilV_ptr,Option.bind_some,faP_ptr,Nat.zero_add,d02,H2.ar.ldc,ix2,ld2,bin_lss,hneg,decide_true,pickP_bool,if_true,condE_true]<;>rfl)
    refine ok_cl (rgive_ok H2 h5 (by omega) hn1 (by omega) hc h1) ?_
    rintro _ g3 ⟨rfl,hg1,b3,cls3,L3,H3,k3,h6,h7⟩
    simp only at H3 k3
    refine Ok.of (r:=((Ex.ret,[AV.int .i64 ((l'.sweepU n).beginU n c).1.1,AV.int .i64 (n:Int)],g3):Ex × List AV × Heap)) (Or.inr ⟨by simp,?_⟩)
    rw [he,PAl.scan3,if_pos hb,if_pos h1]
    exact⟨(k.trans k2).trans k3,b3,cls3,L3,H3,h7,rfl,rfl,by omega,hg1⟩
   ·have hneg : ¬ (l'.sweepU n).ar.cls n < 0:=by omega
    refine(Ok.of (r:=(.normal,[.int .i64 0,.int .i64 ((n+1:Nat):Int)],g2)) (.inl ⟨rfl,j,by omega,n+1,l'.sweepU n,b2,cls2,L2,rfl,by omega,by omega,H2,k.trans k2,by omega,by omega,h5,by omega,?_⟩)).eq (by
     simp -implicitDefEqProofs only [gdW_tt,gQ_true,cl_some,nilV_ptr,Option.bind_some,faP_ptr,Nat.zero_add,d02,H2.ar.ldc,ix2,ld2,bin_lss,hneg,decide_false,pickP_bool,if_true,condE_false,bin_add,sc])
    rw [he,PAl.scan3,if_pos hb,if_neg h1]
 ·have hlt : ¬ (n:Int)<cls'.length:=by omega
  obtain rfl:m=0:=by omega
  refine(Ok.of (r:=(.exit 4,[.int .i64 0,.int .i64 (n:Int)],g')) (.inr ⟨by simp,?_⟩)).eq (by
   simp -implicitDefEqProofs only [Cu,nilV_ptr,Option.bind_some,faP_ptr,Nat.zero_add,d0,H'.ar.ldc,lnL_sl,bin_lss,hlt,decide_false,condE_false])
  rw [he]
  exact⟨k,b',cls',L',H',hw',rfl,rfl,hLL⟩
end
def U0 (l:PAl):Prop:=(l.un[0]?).getD false=false
theorem u0_set {l:PAl}(H:U0 l)(a:PAr)(n:Nat):U0 ⟨a,l.un.set n false⟩:=by
 unfold U0 at *
 show((l.un.set n false)[0]?).getD false=false
 by_cases h:n=0
 ·subst h
  cases hl:l.un with
  | nil=>rfl
  | cons x u=>rfl
 ·rw [List.getElem?_set_ne h];exact H
theorem u0_at1 {l:PAl}(H:U0 l)(c:Int)(n:Nat):U0 (l.at1 c n):=by
 unfold PAl.at1
 split
 ·exact u0_set H _ n
 ·exact H
theorem scan1_u0 (c:Int):∀ (k n:Nat) (l:PAl),U0 l→U0 (PAl.scan1 c k n l).2
 | 0,n,l,h=>h
 | k+1,n,l,h=>by
  rw [PAl.scan1]
  split
  ·exact scan1_u0 c k (n+1) l h
  ·split
   ·exact u0_at1 h c n
   ·exact scan1_u0 c k (n+1) _ (u0_at1 h c n)
theorem scan2_u0 (c:Int):∀ (k n:Nat) (l:PAl),U0 l→U0 (PAl.scan2 c k n l).2
 | 0,n,l,h=>h
 | k+1,n,l,h=>by
  rw [PAl.scan2]
  split
  ·exact u0_set h _ n
  ·exact scan2_u0 c k (n+1) l h
theorem scan3_u0 (c:Int):∀ (k n:Nat) (l:PAl),U0 l→U0 (PAl.scan3 c k n l).2
 | 0,n,l,h=>h
 | k+1,n,l,h=>by
  rw [PAl.scan3]
  split
  ·split
   ·exact u0_set (u0_set h (l.ar.sweep n).2 n) _ n
   ·exact scan3_u0 c k (n+1) _ (u0_set h _ n)
  ·exact scan3_u0 c k (n+1) l h
theorem take_u0 {l:PAl}(H:U0 l)(w:Int):U0 (l.take w).2:=by
 unfold PAl.take
 split
 ·exact H
 ·have h1:=scan1_u0 (classOf w) l.un.length 0 l H
  split
  ·rename_i r l' he;rw [he] at h1;exact h1
  ·rename_i l' he
   rw [he] at h1
   unfold PAl.more
   have h2:=scan2_u0 (classOf w) (l'.un.length - 1) 1 l' h1
   split
   ·rename_i r l2 he;rw [he] at h2;exact h2
   ·rename_i l2 he
    rw [he] at h2
    unfold PAl.more2
    have h3:=scan3_u0 (classOf w) l2.un.length 0 l2 h2
    split
    ·rename_i r l3 he;rw [he] at h3;exact h3
    ·rename_i l3 he;rw [he] at h3;exact h3
theorem cls_0 (a:PAr):a.cls ((0:Nat):Int) = -1:=by
 unfold PAr.cls
 rw [if_neg (fun h=>by have:=h.1;omega)]
section
variable {g:Heap}{D:Nat→Nat}{b bT bq:Option Nat}{cls:List Int}{L:List Tm}{l:PAl}{T:List Shp}{gq:List Int}{X:List Nat}
theorem ratake_ok (H:Rk g D b bT bq cls L l T gq X)(hw:WfW L)(hu:U0 l)(hlo:1≤l.un.length)(hL:L.length < 99000){w:Int}(hcl:classOf w≠-1) :
  Ok (CM (.ptr (some (D 2,0))) (.int .i64 w) g) fun r=>r.1 = .int .i64 (l.take w).1.1∧Good1 (l.take w).1∧U0 (l.take w).2∧∃ b' cls' L',Rk r.2 D b' bT bq cls' L' (l.take w).2 T gq X∧KpX X g r.2∧L'.length≤L.length+1∧WfW L':=by
 have hut:=take_u0 hu w
 have hc:0≤classOf w∧classOf w≤5:=by
  rcases classOf_range w with h | h
  ·exact absurd h hcl
  ·exact⟨h.1,h.2.1⟩
 refine Ok.eq ?_ (by unfold CM;rfl)
 refine ok_cl (rclass_ok w g) ?_
 rintro _ g1 ⟨rfl,s1⟩
 simp only at s1
 unfold PAl.take at hut ⊢
 rw [if_neg hcl] at hut ⊢
 generalize classOf w=c at *
 have H1:=H.keep s1
 have e1:PAl.scan1 c l.un.length 0 l=PAl.scan1 c (l.un.length - 1) 1 l:=by
  obtain⟨k,hk⟩:∃ k,l.un.length=k+1:=⟨l.un.length - 1,by omega⟩
  rw [hk,PAl.scan1,if_pos (by rw [cls_0];omega)];rfl
 have hl1:=scan1_len c (l.un.length - 1) 1 l
 have hu1:=scan1_u0 c (l.un.length - 1) 1 l hu
 rw [e1] at hut ⊢
 refine ok_lp (rscan1_ok H1 hw (by omega) hc) ?_
 rintro e vs g2 ⟨k2,b2,cls2,L2,H2,hw2,hx⟩
 generalize PAl.scan1 c (l.un.length - 1) 1 l=x1 at *
 obtain⟨r1,l1⟩:=x1
 simp only at H2 k2 hl1 hu1 hx hut ⊢
 have k12:=(KpX.same s1).trans k2
 cases r1 with
 | some a=>
  obtain⟨rfl,hv,h3,h4⟩:=hx
  exact ok_val (v:=.int .i64 a.1) (g:=g2) (by rw [← hv];rfl) ⟨rfl,h4,hut,b2,cls2,L2,H2,k12,h3,hw2⟩
 | none=>
  obtain⟨rfl,hv,h3⟩:=hx
  refine Ok.eq ?_ (by simp -implicitDefEqProofs only [if_true,thenK_normal,hv]<;>rfl)
  refine ok_lp (rscan2_ok H2 hw2 (by omega) hc) ?_
  rintro e vs g3 ⟨k3,b3,cls3,L3,H3,hw3,hx⟩
  have hl2:=scan2_len c (l1.un.length - 1) 1 l1
  have hu2:=scan2_u0 c (l1.un.length - 1) 1 l1 hu1
  unfold PAl.more at hut ⊢
  simp only at hut ⊢
  generalize PAl.scan2 c (l1.un.length - 1) 1 l1=x2 at *
  obtain⟨r2,l2⟩:=x2
  simp only at H3 k3 hl2 hu2 hx hut ⊢
  cases r2 with
  | some a=>
   obtain⟨rfl,hv,h5,h4⟩:=hx
   exact ok_val (v:=.int .i64 a.1) (g:=g3) (by rw [← hv];rfl) ⟨rfl,h4,hut,b3,cls3,L3,H3,k12.trans k3,by omega,hw3⟩
  | none=>
   obtain⟨rfl,hv,h5⟩:=hx
   refine Ok.eq ?_ (by simp -implicitDefEqProofs only [if_true,thenK_normal,hv]<;>rfl)
   refine ok_lp (rscan3_ok H3 hw3 (by omega) hc) ?_
   rintro e vs g4 ⟨k4,b4,cls4,L4,H4,hw4,hx⟩
   unfold PAl.more2 at hut ⊢
   simp only at hut ⊢
   have e3:PAl.scan3 c l2.un.length 0 l2=PAl.scan3 c (l2.un.length - 1) 1 l2:=by
    obtain⟨k,hk⟩:∃ k,l2.un.length=k+1:=⟨l2.un.length - 1,by omega⟩
    rw [hk,PAl.scan3,if_neg (by rw [show(l2.un[0]?).getD false=false from hu2];decide)];rfl
   rw [e3] at hut ⊢
   generalize PAl.scan3 c (l2.un.length - 1) 1 l2=x3 at *
   obtain⟨r3,l3⟩:=x3
   simp only at H4 k4 hx hut ⊢
   cases r3 with
   | some a=>
    obtain⟨rfl,hv,h6,h4⟩:=hx
    exact ok_val (v:=.int .i64 a.1) (g:=g4) (by rw [← hv];rfl) ⟨rfl,h4,hut,b4,cls4,L4,H4,(k12.trans k3).trans k4,by omega,hw4⟩
   | none=>
    obtain⟨rfl,hv,h6⟩:=hx
    exact ok_val (v:=.int .i64 0) (g:=g4) (by simp -implicitDefEqProofs only [if_true,thenK_normal]) ⟨rfl,.inl ⟨rfl,rfl⟩,hut,b4,cls4,L4,H4,(k12.trans k3).trans k4,by omega,hw4⟩
end
end Go.Ab.F
