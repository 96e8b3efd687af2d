import Derived.Test.YtlkhjkbepijegaaGreatDoorMar
import Derived.Test.YtlkhjkbepijegaaGreatDoorRch
import Derived.Test.YtlkhjkbepijegaaGreatDoorWdn
namespace Go.Ab.F
open Go Go.Ab
set_option linter.all false
set_option linter.all false
attribute [local congr] c_bind c_cl c_mk c_lp c_clC c_gQ c_gV c_condE c_thenK
def bitB (b:BitVec 64)(i:Int):Bool:=decide (0≤i) && b.getLsbD i.toNat
theorem refBit (b:BitVec 64)(i:Int)(h:Heap):Cr (.int .u64 b.toNat) (.int .i64 i) h=some (.bool (bitB b i),h):=by
 by_cases h1:0≤i
 ·by_cases h2:i < 64
  ·have c:cvI .u64 (.int .i64 i)=some (.int .u64 ((i.toNat:Nat):Int)):=by rw [cvI_int,wrap_u64 (by omega) (by omega)];congr 2;omega
   have e:bitB b i=b.getLsbD i.toNat:=by unfold bitB;simp [h1]
   rw [e]
   simp -implicitDefEqProofs only [Cr,bin_geq,h1,decide_true,Option.bind_some,gdW_tt,gQ_true,cl_some,bin_lss,h2,pickP_bool,if_true,c,shr_n,and_u64,ofInt_toNat,eql_int,bit_is1]
  ·have e:bitB b i=false:=by
    unfold bitB
    rw [BitVec.getLsbD_of_ge b i.toNat (by omega)];simp
   rw [e]
   simp -implicitDefEqProofs only [Cr,bin_geq,h1,decide_true,decide_false,Option.bind_some,gdW_tt,gdW_ft,gQ_true,gQ_false,cl_some,bin_lss,h2,pickP_bool,if_true,Bool.false_eq_true,if_false]
 ·have e:bitB b i=false:=by unfold bitB;simp [h1]
  rw [e]
  simp -implicitDefEqProofs only [Cr,bin_geq,h1,decide_false,Option.bind_some,gdW_ft,gQ_false,pickP_bool,Bool.false_eq_true,if_false]
theorem holdsR {s:Shp}(hg:goodB s=true)(f n:Int):holdsB s f n=if f < 0∨n < 2∨n - 2<f then false else if s.kind=1 then bitB s.map 0 else if s.kind=3 then decide (4≤f) && bitB s.map 0 else bitB s.map f:=by
 unfold holdsB
 have hk:s.kind=0∨s.kind=1∨s.kind=2∨s.kind=3:=by
  unfold goodB at hg
  split at hg
  ·rename_i h;omega
  ·split at hg
   ·rename_i h;omega
   ·cases hg
 by_cases h:f < 0∨n < 2∨n - 2<f
 ·rw [if_pos h,if_pos h]
 ·rw [if_neg h,if_neg h]
  have hf:decide (0≤f)=true:=by simp;omega
  have b0:bitB s.map 0=s.map.getLsbD 0:=by unfold bitB;simp
  have bf:bitB s.map f=s.map.getLsbD f.toNat:=by unfold bitB;rw [hf];simp
  rcases hk with hk | hk | hk | hk
  ·simp [hk,bf]
  ·simp [hk,b0]
  ·simp [hk,bf]
  ·simp [hk,b0,Bool.and_comm]
theorem rholds_ok {s:Shp}(hg:goodB s=true)(f n:Int)(hn:0≤n∧n≤64)(h:Heap):Ok (Bb (.agg s.row) (.int .i64 f) (.int .i64 n) h) fun r=>r.1 = .bool (holdsB s f n)∧Same [] h r.2:=by
 have bx:bxP (.agg s.row)=some (.cells true s.row,fun i=>.ptr (some (i,0))):=rfl
 have s0:Same [] h (h.new (.cells true s.row)):=Same.new _ _
 have p0:(h.new (.cells true s.row)).get h.next=some (.cells true s.row):=get_new_eq
 have l0:ldS (h.new (.cells true s.row)) (.ptr (some (h.next,0)))=some (.int .i64 s.kind):=by rw [ldS_at p0];rfl
 have l2:ldS (h.new (.cells true s.row)) (.ptr (some (h.next,0+2)))=some (.int .u64 s.map.toNat):=by rw [ldS_at p0];rfl
 rw [holdsR hg]
 have hw:IntKind.i64.wrap (n - 2)=n - 2:=wrap_i64 (by omega) (by omega)
 generalize hq:h.new (.cells true s.row)=g at *
 by_cases c1:f < 0
 ·rw [if_pos (.inl c1)]
  exact ok_val (v:=.bool false) (g:=g) (by simp -implicitDefEqProofs only [Bb,bx,mk_some,hq,bin_lss,c1,decide_true,Option.bind_some,gdW_tf,gQ_false,pickP_bool,if_true,condE_true]) ⟨rfl,s0⟩
 by_cases c2:n < 2
 ·rw [if_pos (.inr (.inl c2))]
  exact ok_val (v:=.bool false) (g:=g) (by simp -implicitDefEqProofs only [Bb,bx,mk_some,hq,bin_lss,c1,c2,decide_true,decide_false,Option.bind_some,gdW_ff,gdW_tf,gQ_true,gQ_false,cl_some,pickP_bool,Bool.false_eq_true,if_false,if_true,condE_true]) ⟨rfl,s0⟩
 by_cases c3:n - 2<f
 ·rw [if_pos (.inr (.inr c3))]
  exact ok_val (v:=.bool false) (g:=g) (by simp -implicitDefEqProofs only [Bb,bx,mk_some,hq,bin_lss,c1,c2,bin_sub,hw,bin_gtr,c3,decide_true,decide_false,Option.bind_some,gdW_ff,gQ_true,cl_some,pickP_bool,Bool.false_eq_true,if_false,condE_true]) ⟨rfl,s0⟩
 rw [if_neg (by omega)]
 by_cases k1:s.kind=1
 ·rw [if_pos k1]
  exact ok_val (g:=g) (by simp -implicitDefEqProofs only [Bb,bx,mk_some,hq,bin_lss,c1,c2,bin_sub,hw,bin_gtr,c3,decide_true,decide_false,Option.bind_some,gdW_ff,gQ_true,cl_some,pickP_bool,Bool.false_eq_true,if_false,condE_true,condE_false,faP_ptr,Nat.add_zero,l0,l2,eql_int,k1,refBit]<;>rfl) ⟨rfl,s0⟩
 rw [if_neg k1]
 by_cases k3:s.kind=3
 ·rw [if_pos k3]
  have z31:decide ((3:Int)=1)=false:=rfl
  by_cases c4:4≤f
  ·exact ok_val (v:=.bool (decide (4≤f) && bitB s.map 0)) (g:=g) (by simp -implicitDefEqProofs only [Bb,bx,mk_some,hq,bin_lss,c1,c2,bin_sub,hw,bin_gtr,c3,decide_true,decide_false,Option.bind_some,gdW_ff,gdW_tt,gQ_true,cl_some,pickP_bool,Bool.false_eq_true,if_false,if_true,condE_true,condE_false,faP_ptr,Nat.add_zero,l0,l2,eql_int,k1,k3,z31,bin_geq,c4,refBit,Bool.true_and,show((3:Int)=1)=False by simp]) ⟨rfl,s0⟩
  ·exact ok_val (v:=.bool (decide (4≤f) && bitB s.map 0)) (g:=g) (by simp -implicitDefEqProofs only [Bb,bx,mk_some,hq,bin_lss,c1,c2,bin_sub,hw,bin_gtr,c3,decide_true,decide_false,Option.bind_some,gdW_ff,gdW_ft,gQ_true,gQ_false,cl_some,pickP_bool,Bool.false_eq_true,if_false,condE_true,condE_false,faP_ptr,Nat.add_zero,l0,l2,eql_int,k1,k3,z31,bin_geq,c4,Bool.false_and,show((3:Int)=1)=False by simp]) ⟨rfl,s0⟩
 ·rw [if_neg k3]
  exact ok_val (g:=g) (by simp -implicitDefEqProofs only [Bb,bx,mk_some,hq,bin_lss,c1,c2,bin_sub,hw,bin_gtr,c3,decide_false,Option.bind_some,gdW_ff,gQ_true,cl_some,pickP_bool,Bool.false_eq_true,if_false,condE_false,faP_ptr,Nat.add_zero,l0,l2,eql_int,k1,k3,refBit]<;>rfl) ⟨rfl,s0⟩
def unpRV (w:Int):AV:=match unpR w with
 | some (a,b,c)=>.tup [.int .i64 a,.int .i64 b,.int .i64 c,.bool true]
 | none=>.tup [.int .i64 0,.int .i64 0,.int .i64 0,.bool false]
theorem runpack_ok {w:Int}(hw:wf64 w)(h:Heap):Ok (BS (.int .i64 w) h) fun r=>r.1=unpRV w∧r.2=h:=by
 obtain⟨w1,w2⟩:=hw
 unfold unpRV unpR
 by_cases c1:w < 0
 ·rw [if_pos (.inl c1)]
  exact ok_val (v:=.tup [.int .i64 0,.int .i64 0,.int .i64 0,.bool false]) (g:=h) (by simp -implicitDefEqProofs only [BS,bin_lss,c1,decide_true,Option.bind_some,condE_true]) ⟨rfl,rfl⟩
 have z128 : ¬ ((128:Int)=0):=by omega
 have z8 : ¬ ((8:Int)=0):=by omega
 have z1024 : ¬ ((1024:Int)=0):=by omega
 have r1:binP .rem (.int .i64 w) (.int .i64 128)=some (.int .i64 (w % 128)):=by rw [bin_rem,if_neg z128,rem_nonneg (by omega)]
 have d1:binP .quo (.int .i64 w) (.int .i64 128)=some (.int .i64 (w / 128)):=by rw [bin_quo,if_neg z128,div_nonneg' (by omega),wrap_i64 (by omega) (by omega)]
 have r2:binP .rem (.int .i64 (w / 128)) (.int .i64 8)=some (.int .i64 (w / 128 % 8)):=by rw [bin_rem,if_neg z8,rem_nonneg (by omega)]
 have d2:binP .quo (.int .i64 w) (.int .i64 1024)=some (.int .i64 (w / 1024)):=by rw [bin_quo,if_neg z1024,div_nonneg' (by omega),wrap_i64 (by omega) (by omega)]
 by_cases c2:67108864≤w
 ·rw [if_pos (.inr c2)]
  exact ok_val (v:=.tup [.int .i64 0,.int .i64 0,.int .i64 0,.bool false]) (g:=h) (by simp -implicitDefEqProofs only [BS,bin_lss,c1,decide_false,Option.bind_some,condE_false,r1,d1,r2,d2,bin_geq,c2,decide_true,condE_true]) ⟨rfl,rfl⟩
 rw [if_neg (by omega)]
 have a0:0≤w % 128∧w % 128 < 128:=by omega
 have b0:0≤w / 128 % 8∧w / 128 % 8 < 8:=by omega
 have c0:0≤w / 1024∧w / 1024 < 65536:=by omega
 generalize w % 128=a at *
 generalize w / 128 % 8=b at *
 generalize w / 1024=c at *
 have nb : ¬ b < 0:=by omega
 have nc : ¬ c < 0:=by omega
 have nc2 : ¬ (65535:Int)<c:=by omega
 have m1:IntKind.i64.wrap (128*b)=128*b:=wrap_i64 (by omega) (by omega)
 have m2:IntKind.i64.wrap (a+128*b)=a+128*b:=wrap_i64 (by omega) (by omega)
 have m3:IntKind.i64.wrap (1024*c)=1024*c:=wrap_i64 (by omega) (by omega)
 by_cases c3:a < 1
 ·rw [if_neg (fun h=>by have:=h.1;omega)]
  exact ok_val (v:=.tup [.int .i64 0,.int .i64 0,.int .i64 0,.bool false]) (g:=h) (by simp -implicitDefEqProofs only [BS,bin_lss,c1,decide_false,Option.bind_some,condE_false,r1,d1,r2,d2,bin_geq,c2,C1,c3,decide_true,gdW_tf,gQ_false,pickP_bool,if_true,condE_true,cl_some,extractV_tup,e0,e1,un_not,Bool.not_false]) ⟨rfl,rfl⟩
 by_cases c4:(64:Int)<a
 ·rw [if_neg (fun h=>by have:=h.2.1;omega)]
  exact ok_val (v:=.tup [.int .i64 0,.int .i64 0,.int .i64 0,.bool false]) (g:=h) (by simp -implicitDefEqProofs only [BS,bin_lss,c1,decide_false,Option.bind_some,condE_false,r1,d1,r2,d2,bin_geq,c2,C1,c3,bin_gtr,c4,decide_true,gdW_ff,gdW_tf,gQ_true,gQ_false,pickP_bool,Bool.false_eq_true,if_false,if_true,condE_true,cl_some,extractV_tup,e0,e1,un_not,Bool.not_false]) ⟨rfl,rfl⟩
 by_cases c5:(3:Int)<b
 ·rw [if_neg (fun h=>by have:=h.2.2.2.1;omega)]
  exact ok_val (v:=.tup [.int .i64 0,.int .i64 0,.int .i64 0,.bool false]) (g:=h) (by simp -implicitDefEqProofs only [BS,bin_lss,c1,decide_false,Option.bind_some,condE_false,r1,d1,r2,d2,bin_geq,c2,C1,c3,bin_gtr,c4,nb,c5,decide_true,gdW_ff,gdW_tf,gQ_true,gQ_false,pickP_bool,Bool.false_eq_true,if_false,if_true,condE_true,cl_some,extractV_tup,e0,e1,un_not,Bool.not_false]) ⟨rfl,rfl⟩
 ·rw [if_pos ⟨by omega,by omega,b0.1,by omega,c0.1,c0.2⟩]
  exact ok_val (v:=.tup [.int .i64 a,.int .i64 b,.int .i64 c,.bool true]) (g:=h) (by simp -implicitDefEqProofs only [BS,bin_lss,c1,decide_false,Option.bind_some,condE_false,r1,d1,r2,d2,bin_geq,c2,C1,c3,bin_gtr,c4,nb,c5,nc,nc2,gdW_ff,gQ_true,pickP_bool,Bool.false_eq_true,if_false,cl_some,bin_mul,m1,bin_add,m2,m3,extractV_tup,e0,e1,un_not,Bool.not_true]) ⟨rfl,rfl⟩
set_option linter.all false
attribute [local congr] c_bind c_cl c_mk c_lp c_clC c_gQ c_gV c_condE c_thenK
theorem e3' {a b c d:AV}{l:List AV}:(a::b::c::d::l)[3]?=some d:=rfl
section
variable {g:Heap}{D:Nat→Nat}{b bT bq:Option Nat}{cls:List Int}{L:List Tm}{l:PAl}{T:List Shp}{gq:List Int}{X:List Nat}
theorem Rk.queue {g' : Heap} {S : List Nat} {bq' : Option Nat} {v' : AV} {gq' : List Int} (H : Rk g D b bT bq cls L l T gq X) (hS : ∀ j ∈ S, bq = some j) (s : Same S g g') (hv : QuV g' 0 bq' v' gq') (hb : ∀ i, bq' = some i → bq = some i ∨ (g.next ≤ i ∧ i < g'.next)) :
    ∃ g2, stP 1 g' (.ptr (some (D 4, 2))) v' = some (.bot, g2) ∧ Rk g2 D b bT bq' cls L l T gq' X ∧ KpX X g g2 := by
  obtain ⟨vT, vq, hm, hT, hq⟩ := H.mkb
  have eS : ∀ j ∈ S, exR D bT bq j := fun j hj => .inr (.inr (.inr (.inr (hS j hj))))
  have l2 := H.exl (j := D 2) (.inl rfl)
  have l3 := H.exl (j := D 3) (.inr (.inl rfl))
  have l4 := H.exl (j := D 4) (.inr (.inr (.inl rfl)))
  have n4 : D 4 ∉ S := fun h => (H.dq _ (hS _ h)).2.2 rfl
  have hm' : g'.get (D 4) = some (.cells true [.ptr (some (D 0, 0)), vT, vq]) := (s.get _ l4 n4).trans hm
  have st : stP 1 g' (.ptr (some (D 4, 2))) v' = some (.bot, g'.put (D 4) (some (.cells true [.ptr (some (D 0, 0)), vT, v']))) := stP_one hm' (by simp) hv.sc
  have s4 : Same [D 4] g' (g'.put (D 4) (some (.cells true [.ptr (some (D 0, 0)), vT, v']))) := Same.put _ _ _
  have p4 : (g'.put (D 4) (some (.cells true [.ptr (some (D 0, 0)), vT, v']))).get (D 4) = some (.cells true [.ptr (some (D 0, 0)), vT, v']) := get_put_eq
  refine ⟨_, st, ?_⟩
  generalize g'.put (D 4) (some (.cells true [.ptr (some (D 0, 0)), vT, v'])) = g2 at *
  have s24 : Same (D 4 :: S) g g2 := (s.sub (fun j hj => List.mem_cons_of_mem _ hj)).trans (s4.sub (fun j hj => by rw [List.mem_singleton] at hj; subst hj; exact List.mem_cons_self ..))
  have hS4 : ∀ j ∈ D 4 :: S, exR D bT bq j := fun j hj => by
    rw [List.mem_cons] at hj
    rcases hj with rfl | h
    · exact .inr (.inr (.inl rfl))
    · exact eS j h
  have mT : ∀ j, (bq = some j → False) → j ≠ D 4 → j ∉ D 4 :: S := fun j h1 h2 hm => by
    rw [List.mem_cons] at hm
    exact hm.elim h2 (fun h => h1 (hS j h))
  have hnx := s24.next
  have hn4 := s4.next
  have hb' : ∀ i, bq' = some i → (exR D bT bq i ∨ g.next ≤ i) ∧ i < g2.next := fun i hi => by
    rcases hb i hi with h | ⟨h1, h2⟩
    · exact ⟨.inl (.inr (.inr (.inr (.inr h)))), Nat.lt_of_lt_of_le (H.exl (.inr (.inr (.inr (.inr h))))) hnx⟩
    · exact ⟨.inr h1, by omega⟩
  refine ⟨?_, KpX.of s24 fun j hj => (H.dX j (hS4 j hj)).1⟩
  exact
  { ar := H.ar.turnX s24 (fun j hj => exR_x (hS4 j hj)) (fun j hj => by
      rw [xR_mem] at hj
      rcases hj with rfl | rfl | rfl | h | h | h
      · exact ⟨.inl (exR_x (.inl rfl)), by omega⟩
      · exact ⟨.inl (exR_x (.inr (.inl rfl))), by omega⟩
      · exact ⟨.inl (exR_x (.inr (.inr (.inl rfl)))), by omega⟩
      · exact ⟨.inl (exR_x (.inr (.inr (.inr (.inl h))))), Nat.lt_of_lt_of_le (H.exl (.inr (.inr (.inr (.inl h))))) hnx⟩
      · obtain ⟨h1, h2⟩ := hb' j h
        exact ⟨h1.imp exR_x id, h2⟩
      · exact ⟨.inl (xR_mem.2 (by simp [h])), Nat.lt_of_lt_of_le (H.xl h) hnx⟩)
    alb := (s24.get _ l2 (mT _ (fun h => (H.dq _ h).1 rfl) H.n24)).trans H.alb
    stb := (s24.get _ l3 (mT _ (fun h => (H.dq _ h).2.1 rfl) H.n34)).trans H.stb
    mkb := ⟨vT, v', p4, hT.same s24 (fun i hi => mT i (fun h => (H.dT i hi).2.2.2 h) (H.dT i hi).2.2.1), hv.keep s4 (fun i hi => by
      simp
      rcases hb i hi with h | ⟨h1, _⟩
      · exact (H.dq i h).2.2
      · omega)⟩
    rel := H.rel
    len := H.len
    n23 := H.n23
    n24 := H.n24
    n34 := H.n34
    dT := fun i hi => ⟨(H.dT i hi).1, (H.dT i hi).2.1, (H.dT i hi).2.2.1, fun h => by
      rcases hb i h with h' | ⟨h1, _⟩
      · exact (H.dT i hi).2.2.2 h'
      · have := H.exl (j := i) (.inr (.inr (.inr (.inl hi)))); omega⟩
    dq := fun i hi => by
      rcases hb i hi with h' | ⟨h1, _⟩
      · exact H.dq i h'
      · omega
    dX := fun j hj => by
      rcases hj with h | h | h | h | h
      · exact H.dX j (.inl h)
      · exact H.dX j (.inr (.inl h))
      · exact H.dX j (.inr (.inr (.inl h)))
      · exact H.dX j (.inr (.inr (.inr (.inl h))))
      · rcases hb j h with h' | ⟨h1, _⟩
        · exact H.dX j (.inr (.inr (.inr (.inr h'))))
        · exact ⟨fun hx => by have := H.xl hx; omega, by have := H.xl H.x0; omega⟩
    x0 := H.x0
    gd := H.gd
    tl := H.tl }
theorem rmark_len (ad:Int)(L:List Tm):(rmark ad L).2.length=L.length:=by
 unfold rmark
 split
 ·rfl
 ·split
  ·rfl
  ·split
   ·rfl
   ·rw [List.length_set]
theorem rmark_ww {L:List Tm}(H:WfW L)(ad:Int):WfW (rmark ad L).2:=by
 unfold rmark
 split
 ·exact H
 ·split
  ·exact H
  ·rename_i t ht
   split
   ·exact H
   ·refine H.sub fun u hu=>?_
    rcases List.mem_or_eq_of_mem_set hu with h | h
    ·exact⟨u,h,rfl⟩
    ·subst h;exact⟨t,List.mem_of_getElem? ht,rfl⟩
theorem rshadeM_ok (H:Rk g D b bT bq cls L l T gq X)(hw:WfW L)(ad:Int)(hl:gq.length≤2 ^ 40) :
  Ok (AF (.ptr (some (D 4,0))) (.int .i64 ad) g) fun r=>r.1 = .bool (l.ar.mark ad).1∧∃ bq' L',Rk r.2 D b bT bq' cls L' ⟨(l.ar.mark ad).2,l.un⟩ T (if (l.ar.mark ad).1 then gq ++ [ad] else gq) X∧KpX X g r.2∧WfW L'∧L'.length=L.length:=by
 obtain⟨vT,vq,hm,_,_⟩:=H.mkb
 have l0:ldS g (.ptr (some (D 4,0)))=some (.ptr (some (D 0,0))):=by rw [ldS_at hm];rfl
 refine Ok.eq ?_ (by simp -implicitDefEqProofs only [AF,nilV_ptr,Option.bind_some,faP_ptr,Nat.zero_add,l0]<;>rfl)
 refine ok_cl (rmark_ok H.ar ad) ?_
 rintro _ g1 ⟨rfl,R1,k1⟩
 simp only at R1 k1
 obtain⟨e1,r1⟩:=rel_mark H.rel ad
 obtain⟨H1,kx1⟩:=H.arena R1 k1 r1 (mark_same l.ar ad).len
 rw [e1]
 cases hb:(l.ar.mark ad).1 with
 | false=>exact ok_val (v:=.bool false) (g:=g1) (by simp -implicitDefEqProofs only [un_not,Bool.not_false,Option.bind_some,condE_true]) ⟨rfl,bq,_,by simpa using H1,kx1,rmark_ww hw ad,rmark_len ad L⟩
 | true=>
  obtain⟨vT1,vq1,hm1,_,hq1⟩:=H1.mkb
  have l2:ldS g1 (.ptr (some (D 4,2)))=some vq1:=by rw [ldS_at hm1];rfl
  have b1:bsP 1 [AV.int .i64 0] 1 [(0,.int .i64 ad)]=some (.cells true [.int .i64 ad],fun i=>.sl (some (i,0)) 1 (.ex 1)):=rfl
  have s2:Same [] g1 (g1.new (.cells true [.int .i64 ad])):=Same.new _ _
  obtain⟨v',g3,e,hq3,s3,n3⟩:=(hq1.keep s2 (by simp)).appN (c:=g1.next) (x:=ad) get_new_eq (Nat.zero_le _) hl
  obtain⟨g4,st,H4,k4⟩:=(H1.keep s2).queue (S:=bq.toList) (fun j hj=>by simpa using hj) s3 hq3 (fun i hi=>by cases hi;exact .inr ⟨Nat.le_refl _,by rw [n3];exact Nat.lt_succ_self _⟩)
  exact ok_val (by simp -implicitDefEqProofs only [un_not,Bool.not_true,Option.bind_some,condE_false,nilV_ptr,faP_ptr,Nat.zero_add,l2,b1,mk_some,e,cl_some,st]<;>rfl) ⟨rfl,_,_,by simpa using H4,(kx1.trans (KpX.same s2)).trans k4,rmark_ww hw ad,rmark_len ad L⟩
theorem rfields_loop (H:Rk g D b bT bq cls L l T gq X){i:Nat}{t:Tm}(ht:L[i]?=some t){w:Int}(hwr:1≤w∧w≤64)(hwl:w≤t.W.length){sx:Nat}{s:Shp}(hs:T[sx]?=some s) :
  Ok (C9 (.ptr (some (D 4,0))) (.sl (some (t.wb,0)) t.W.length (.ex t.W.length)) (.int .i64 w) (.int .i64 (sx:Int)) (.sl none 0 (.ex 0)) (.int .i64 0) g) fun r=>r.1 = .exit 0∧Back g r.2.2 (r.2.1.getD 0 .bot) (fieldsW s t.W w (w - 1).toNat):=by
 have hgs:=H.gd s (List.mem_of_getElem? hs)
 have hw1:IntKind.i64.wrap (w - 1)=w - 1:=wrap_i64 (by omega) (by omega)
 refine ok_loop (fun m vs g'=>∃ (k:Nat) (v:AV),vs = [v,.int .i64 k]∧m+k=(w - 1).toNat∧Back g g' v (fieldsW s t.W w k)) ?_ (n:=(w - 1).toNat) (by omega) ⟨0,_,rfl,by omega,Back.mt (Same.refl _ _)⟩
 rintro m vs g' ⟨k,v,rfl,hm,bb,hv,sg,hb⟩
 rw [gd0,gd1]
 by_cases hk:k<(w - 1).toNat
 ·have hlt:(k:Int)<w - 1:=by omega
  have Hg:=H.keep sg
  obtain⟨vT,vq,hm4,hT,_⟩:=Hg.mkb
  have l1:ldS g' (.ptr (some (D 4,1)))=some vT:=by rw [ldS_at hm4];rfl
  obtain⟨jT,hjT⟩:∃ j,bT=some j:=by
   cases bT with
   | none=>have:=hT.nil rfl;have:=(List.getElem?_eq_some_iff.1 hs).1;omega
   | some j=>exact⟨j,rfl⟩
  rw [hjT] at hT
  obtain⟨ixT,ldT⟩:=rowIx3 hT hs
  refine Ok.eq ?_ (by simp -implicitDefEqProofs only [CW,bin_sub,hw1,bin_lss,hlt,decide_true,Option.bind_some,condE_true,nilV_ptr,faP_ptr,Nat.zero_add,l1,ixT,ldT]<;>rfl)
  refine ok_cl (rholds_ok hgs k w (by omega) g') ?_
  rintro _ g2 ⟨rfl,s2⟩
  simp only at s2
  have H2:=Hg.keep s2
  obtain⟨x,hx⟩:∃ x,t.W[k+1]?=some x:=⟨_,List.getElem?_eq_getElem (by omega)⟩
  obtain⟨wix,wld⟩:=H2.ar.wds ht
  have ix:=wix .i64 (k+1) (by omega)
  have ld:=wld (k+1) x hx
  have hw2:IntKind.i64.wrap (1+(k:Int))=((k+1:Nat):Int):=by rw [wrap_i64 (by omega) (by omega)];omega
  have sck:=suc64 k (by omega)
  have eu:=fieldsW_succ s t.W w k
  rw [hx,Option.getD_some] at eu
  have fl:=fieldsW_len s t.W w k
  cases hh:holdsB s k w with
  | false=>
   refine(Ok.of (r:=(.normal,[v,.int .i64 ((k+1:Nat):Int)],g2)) (.inl ⟨rfl,m - 1,by omega,k+1,v,rfl,by omega,bb,?_,sg.trans s2,hb⟩)).eq (by
    simp -implicitDefEqProofs only [gdW_ft,gQ_false,pickP_bool,Bool.false_eq_true,if_false,Option.bind_some,condE_false,A8,bin_add,sck])
   rw [eu,hh,if_neg (by simp),List.append_nil];exact hv.same s2 (by simp)
  | true=>
   by_cases h0:x=0
   ·refine(Ok.of (r:=(.normal,[v,.int .i64 ((k+1:Nat):Int)],g2)) (.inl ⟨rfl,m - 1,by omega,k+1,v,rfl,by omega,bb,?_,sg.trans s2,hb⟩)).eq (by
     simp -implicitDefEqProofs only [gdW_tt,gQ_true,cl_some,bin_add,hw2,Option.bind_some,ix,ld,neq_int,h0,decide_true,Bool.not_true,pickP_bool,if_true,condE_false,A8,sck])
    rw [eu,if_neg (fun h=>h.2 h0),List.append_nil];exact hv.same s2 (by simp)
   ·refine Ok.eq ?_ (by simp -implicitDefEqProofs only [gdW_tt,gQ_true,cl_some,bin_add,hw2,Option.bind_some,ix,ld,neq_int,h0,decide_false,Bool.not_false,pickP_bool,if_true,condE_true]<;>rfl)
    refine app1 (t:=.int .i64 x) (hv.same s2 (by simp)) rfl rfl rfl (by decide) (by omega) fun v' g3 hv' s3 n3=>?_
    refine(Ok.of (r:=(.normal,[v',.int .i64 ((k+1:Nat):Int)],g3)) (.inl ⟨rfl,m - 1,by omega,k+1,v',rfl,by omega,some (g2.next+1),?_,?_,fun j hj=>?_⟩)).eq (by
     simp -implicitDefEqProofs only [A8,bin_add,sck,Option.bind_some])
    ·rw [eu,if_pos ⟨hh,h0⟩,List.length_append]
     have e:wsC (fieldsW s t.W w k ++ [x])=wsC (fieldsW s t.W w k)++(AV.int .i64 x).cells:=by rw [wsC_app];rfl
     rw [e];exact hv'
    ·refine(sg.trans s2).old s3 fun j hj=>?_
     have:=hb j (by simpa using hj)
     right;exact this
    ·cases hj
     have:=sg.next;have:=s2.next;omega
 ·have hlt : ¬ (k:Int)<w - 1:=by omega
  obtain rfl:k=(w - 1).toNat:=by omega
  exact(Ok.of (r:=(.exit 0,[v,.int .i64 (((w - 1).toNat:Nat):Int)],g')) (.inr ⟨by simp,rfl,bb,hv,sg,hb⟩)).eq (by
   simp -implicitDefEqProofs only [CW,bin_sub,hw1,bin_lss,hlt,decide_false,Option.bind_some,condE_false])
theorem rfields_ok (H:Rk g D b bT bq cls L l T gq X)(hw:WfW L)(ad:Int):Ok (Bp (.ptr (some (D 4,0))) (.int .i64 ad) g) fun r=>Back g r.2 r.1 (fieldsL T l.ar ad):=by
 obtain⟨vT,vq,hm,hT,_⟩:=H.mkb
 have l0:ldS g (.ptr (some (D 4,0)))=some (.ptr (some (D 0,0))):=by rw [ldS_at hm];rfl
 have l1:ldS g (.ptr (some (D 4,1)))=some vT:=by rw [ldS_at hm];rfl
 refine Ok.eq ?_ (by simp -implicitDefEqProofs only [Bp,nilV_ptr,Option.bind_some,faP_ptr,Nat.zero_add,l0]<;>rfl)
 refine ok_cl (rfind_ok H.ar ad) ?_
 rintro _ _ he
 cases he
 have R:=H.rel
 cases hf:findIx ad L 0 with
 | none=>
  rw [fields_no ((R.ix ad).1 hf)]
  have z:decide ((-1:Int) < 0)=true:=rfl
  exact ok_val (v:=.sl none 0 (.ex 0)) (g:=g) (by simp -implicitDefEqProofs only [ixV,bin_lss,z,Option.bind_some,condE_true]) (Back.mt (Same.refl _ _))
 | some i=>
  obtain⟨t,ht,hta,hl,_⟩:=R.ixs hf
  have htm:=List.mem_of_getElem? ht
  have hww:=hw t htm
  have hp:=(hl.pos R.wf).2.2
  rw [fields_tm R.wf hl hww]
  obtain⟨vv,lv,hln,_,_,hrow⟩:=H.ar.ls
  have lv0:=lv (Same.refl [] g)
  obtain⟨bb,hb,hix,hld⟩:=hrow i t ht
  have ld:=(hld (Same.refl [] g)).2 1 _ rfl
  obtain⟨wix,wld⟩:=H.ar.wds ht
  obtain⟨w0,hw0⟩:∃ w0,t.W[0]?=some w0:=⟨_,List.getElem?_eq_getElem (by omega)⟩
  have ix0:=wix .i64 0 (by omega)
  have ld0:=wld 0 w0 hw0
  have z : ¬ ((i:Nat):Int) < 0:=by omega
  have c0:(((0:Nat)):Int)=0:=rfl
  rw [c0] at ix0
  refine Ok.eq ?_ (by simp -implicitDefEqProofs only [ixV,bin_lss,z,decide_false,Option.bind_some,condE_false,nilV_ptr,faP_ptr,Nat.zero_add,l0,lv0,hix,ld,ix0,ld0]<;>rfl)
  refine ok_cl (runpack_ok (hww w0 (List.mem_of_getElem? hw0)) g) ?_
  rintro _ g1 ⟨rfl,hgg⟩
  simp only at hgg
  subst hgg
  unfold fieldsT unpRV
  rw [hw0,Option.getD_some]
  cases hu:unpR w0 with
  | none=>
   exact ok_val (v:=.sl none 0 (.ex 0)) (g:=g1) (by simp -implicitDefEqProofs only [extractV_tup,e0,e1,e2,e3',Option.bind_some,un_not,Bool.not_false,gdW_tf,gQ_false,pickP_bool,if_true,condE_true]) (Back.mt (Same.refl _ _))
  | some x=>
   obtain⟨w,kd,c⟩:=x
   have hmay:mayP w kd c:=by
    unfold unpR at hu
    split at hu
    ·cases hu
    ·split at hu
     ·rename_i h;cases hu;exact h
     ·cases hu
   obtain⟨m1,m2,_,_,m5,m6⟩:=hmay
   simp only
   by_cases hc:(T.length:Int)≤c
   ·have hTn:T[c.toNat]?=none:=List.getElem?_eq_none (by omega)
    rw [hTn]
    refine(Ok.of (r:=(.sl none 0 (.ex 0),g1)) ?_).eq (by simp -implicitDefEqProofs only [extractV_tup,e0,e1,e2,e3',Option.bind_some,un_not,Bool.not_true,gdW_ff,gdW_tf,gQ_true,gQ_false,cl_some,nilV_ptr,faP_ptr,Nat.zero_add,l1,hT.lnL,bin_geq,hc,decide_true,pickP_bool,Bool.false_eq_true,if_false,if_true,condE_true])
    split
    ·exact Back.mt (Same.refl _ _)
    ·exact Back.mt (Same.refl _ _)
   ·by_cases hgt:(t.W.length:Int)<w
    ·rw [if_pos hgt]
     exact ok_val (v:=.sl none 0 (.ex 0)) (g:=g1) (by simp -implicitDefEqProofs only [extractV_tup,e0,e1,e2,e3',Option.bind_some,un_not,Bool.not_true,gdW_ff,gQ_true,cl_some,nilV_ptr,faP_ptr,Nat.zero_add,l1,hT.lnL,bin_geq,hc,decide_false,lnL_sl,bin_gtr,hgt,decide_true,pickP_bool,Bool.false_eq_true,if_false,condE_true]) (Back.mt (Same.refl _ _))
    ·rw [if_neg hgt]
     obtain⟨s,hs⟩:∃ s,T[c.toNat]?=some s:=⟨_,List.getElem?_eq_getElem (by omega)⟩
     rw [hs]
     have ec:((c.toNat:Nat):Int)=c:=by omega
     have lp:=rfields_loop H ht (w:=w) ⟨m1,m2⟩ (by omega) hs
     rw [ec] at lp
     refine Ok.eq ?_ (by simp -implicitDefEqProofs only [extractV_tup,e0,e1,e2,e3',Option.bind_some,un_not,Bool.not_true,gdW_ff,gQ_true,cl_some,nilV_ptr,faP_ptr,Nat.zero_add,l1,hT.lnL,bin_geq,hc,decide_false,lnL_sl,bin_gtr,hgt,pickP_bool,Bool.false_eq_true,if_false,condE_false]<;>rfl)
     refine ok_lp lp ?_
     rintro _ vs g2 ⟨rfl,hB⟩
     simp only at hB
     exact ok_val (v:=vs.getD 0 .bot) (g:=g2) rfl hB
end
set_option linter.all false
attribute [local congr] c_bind c_cl c_mk c_lp c_clC c_gQ c_gV c_condE c_thenK
section
variable {g:Heap}{D:Nat→Nat}{b bT bq:Option Nat}{cls:List Int}{L:List Tm}{l:PAl}{T:List Shp}{gq:List Int}{X:List Nat}
theorem rstep_loop (H:Rk g D b bT bq cls L l T gq X)(hw:WfW L){F:List Int}{v:AV}(hv:Lrd g v F X)(hq:gq.length+F.length≤2 ^ 40) :
  Ok (DR (.ptr (some (D 4,0))) v (.int .i64 0) g) fun r=>r.1 = .exit 0∧∃ bq' L',Rk r.2.2 D b bT bq' cls L' ⟨(shadeL l.ar gq F).1,l.un⟩ T (shadeL l.ar gq F).2 X∧KpX X g r.2.2∧WfW L'∧L'.length=L.length:=by
 refine ok_loop (fun m vs g'=>∃ (i:Nat) (a':PAr) (bq':Option Nat) (gq':List Int) (L':List Tm),vs = [.int .i64 i]∧m+i=F.length∧Rk g' D b bT bq' cls L' ⟨a',l.un⟩ T gq' X∧shadeL a' gq' (F.drop i)=shadeL l.ar gq F∧gq'.length≤gq.length+i∧KpX X g g'∧WfW L'∧L'.length=L.length) ?_ (n:=F.length) (by omega) ⟨0,l.ar,bq,gq,L,rfl,rfl,H,rfl,by omega,KpX.refl _ _,hw,rfl⟩
 rintro m vs g' ⟨i,a',bq',gq',L',rfl,hm,H',he,hl,k,hw',hL'⟩
 rw [gd0]
 by_cases hi:i<F.length
 ·have hlt:(i:Int)<F.length:=by omega
  obtain⟨x,hx⟩:∃ x,F[i]?=some x:=⟨_,List.getElem?_eq_getElem hi⟩
  obtain⟨p,hix,hld⟩:=hv.2 i x hx
  have ld:=hld g' k
  refine Ok.eq ?_ (by simp -implicitDefEqProofs only [Ck,hv.1,bin_lss,hlt,decide_true,Option.bind_some,condE_true,hix,ld]<;>rfl)
  refine ok_cl (rshadeM_ok H' hw' x (by omega)) ?_
  rintro _ g2 ⟨rfl,bq2,L2,H2,k2,hw2,hL2⟩
  simp only at H2 k2
  refine(Ok.of (r:=(.normal,[.int .i64 ((i+1:Nat):Int)],g2)) (.inl ⟨rfl,m - 1,by omega,i+1,_,bq2,_,L2,rfl,by omega,H2,?_,?_,k.trans k2,hw2,by omega⟩)).eq (by
   simp -implicitDefEqProofs only [bin_add,Option.bind_some,suc64 i (by omega)])
  ·rw [← he,drop_at hx,shadeL]
  ·split
   ·rw [List.length_append];simp;omega
   ·omega
 ·have hlt : ¬ (i:Int)<F.length:=by omega
  obtain rfl:i=F.length:=by omega
  rw [List.drop_of_length_le (Nat.le_refl _),shadeL] at he
  rw [← he]
  exact(Ok.of (r:=(.exit 0,[.int .i64 (F.length:Int)],g')) (.inr ⟨by simp,rfl,bq',L',H',k,hw',hL'⟩)).eq (by
   simp -implicitDefEqProofs only [Ck,hv.1,bin_lss,hlt,decide_false,Option.bind_some,condE_false])
theorem rstepM_no (H:Rk g D b bT bq cls L l T [] X):BB (.ptr (some (D 4,0))) g=some (.bool false,g):=by
 obtain⟨vT,vq,hm,_,hq⟩:=H.mkb
 have l2:ldS g (.ptr (some (D 4,2)))=some vq:=by rw [ldS_at hm];rfl
 have ln:=hq.lnL
 simp -implicitDefEqProofs only [BB,nilV_ptr,Option.bind_some,faP_ptr,Nat.zero_add,l2,ln,List.length_nil,eql_int,Int.natCast_zero,decide_true,condE_true]
theorem rstepM_ok {x:Int}(H:Rk g D b bT bq cls L l T (x::gq) X)(hw:WfW L)(hq:gq.length≤2 ^ 30) :
  Ok (BB (.ptr (some (D 4,0))) g) fun r=>r.1 = .bool true∧∃ bq' L',Rk r.2 D b bT bq' cls L' ⟨(shadeL l.ar gq (fieldsL T l.ar x)).1,l.un⟩ T (shadeL l.ar gq (fieldsL T l.ar x)).2 X∧KpX X g r.2∧WfW L'∧L'.length=L.length:=by
 obtain⟨vT,vq,hm,hT,hqv⟩:=H.mkb
 have l2:ldS g (.ptr (some (D 4,2)))=some vq:=by rw [ldS_at hm];rfl
 have ln:=hqv.lnL
 obtain⟨i,o,hb,hve,hld,v',hsl,hq'⟩:=hqv.tail
 have zl:decide ((((x::gq).length:Nat):Int)=0)=false:=decide_eq_false (by simp only [List.length_cons];omega)
 have hix:iaS 1 vq (.int .i64 0)=some (.ptr (some (i,o))):=by
  rw [hve,iaS_sl 1 _ _ _ _ _ ⟨by omega,by omega⟩];simp
 refine Ok.eq ?_ (by simp -implicitDefEqProofs only [BB,nilV_ptr,Option.bind_some,faP_ptr,Nat.zero_add,l2,ln,eql_int,zl,condE_false,hix,hld]<;>rfl)
 refine ok_cl (rfields_ok H hw x) ?_
 rintro v2 g2 ⟨bF,hv,s2,hbF⟩
 simp only at hv s2
 have l22:ldS g2 (.ptr (some (D 4,2)))=some vq:=by rw [ldS_at ((s2.get _ (H.exl (.inr (.inr (.inl rfl)))) (by simp)).trans hm)];rfl
 -- the list that was handed back is kept
 obtain⟨Y,hY,hXY,H2⟩:∃ Y:List Nat,(∀ j,bF=some j→j∈Y)∧(∀ j∈X,j∈Y)∧Rk g2 D b bT bq cls L l T (x::gq) Y:=by
  cases bF with
  | none=>exact⟨X,(fun j hj=>by cases hj),fun j hj=>hj,H.keep s2⟩
  | some j=>exact⟨j::X,(fun i hi=>by cases hi;exact List.mem_cons_self ..),fun i hi=>List.mem_cons_of_mem _ hi,H.addX s2 (hbF j rfl) (hv.blk j rfl).1⟩
 obtain⟨g3,st,H3,k3⟩:=H2.queue (S:=[]) (fun j hj=>by simp at hj) (Same.refl [] g2) (hq'.keep s2 (by simp)) (fun j hj=>.inl hj)
 have hfl:=fieldsL_len T l.ar x
 have lrd:Lrd g3 v2 (fieldsL T l.ar x) Y:=by
  obtain⟨h1,h2⟩:=lrd_of hv hY
  exact⟨h1,fun i y hy=>by
   obtain⟨p,h3,h4⟩:=h2 i y hy
   exact⟨p,h3,fun g' k=>h4 g' (k3.trans k)⟩⟩
 refine Ok.eq ?_ (by simp -implicitDefEqProofs only [nilV_ptr,Option.bind_some,faP_ptr,Nat.zero_add,l22,hsl,st,cl_some]<;>rfl)
 refine ok_lp (rstep_loop H3 hw lrd (by omega)) ?_
 rintro _ vs g4 ⟨rfl,bq',L',H4,k4,hw4,hL4⟩
 simp only at H4 k4
 exact ok_val (v:=.bool true) (g:=g4) rfl ⟨rfl,bq',L',H4.subX hXY H.x0,(KpX.same s2).trans ((k3.trans k4).sub hXY),hw4,hL4⟩
end
theorem lst_ld {g:Heap}{ba:Option Nat}{v:AV}{at_:List Int}(H:SlB g ba 1 v (wsC at_) at_.length){i:Nat}{x:Int}(hx:at_[i]?=some x):∃ j,ba=some j∧(∀ k,iaS 1 v (.int k (i:Int))=some (.ptr (some (j,i))))∧ldS g (.ptr (some (j,i)))=some (.int .i64 x):=by
 have hi:=(List.getElem?_eq_some_iff.1 hx).1
 obtain⟨j,hj,hix⟩:=H.ix hi
 refine⟨j,hj,fun k=>by rw [hix k,Nat.mul_one],?_⟩
 rw [ldS_at (H.blk j hj).2.1]
 simp [wsC,hx]
def Ird (h:Heap)(X:List Nat)(v:AV)(L:List Int):Prop:=lnL v=some (.int .i64 L.length)∧∀ (i:Nat) x,L[i]?=some x→∃ p,(∀ k,iaS 1 v (.int k (i:Int))=some (.ptr (some p)))∧∀ g,KpX X h g→ldS g (.ptr (some p))=some (.int .i64 x)
theorem Ird.kp {h g:Heap}{X Y:List Nat}{v:AV}{L:List Int}(H:Ird h X v L)(k:KpX X h g)(hs:∀ j∈X,j∈Y):Ird g Y v L:=
 ⟨H.1,fun i x hx=>by
  obtain⟨p,h1,h2⟩:=H.2 i x hx
  exact⟨p,h1,fun g' k'=>h2 g' (k.trans (k'.sub hs))⟩⟩
theorem ird_slb {g:Heap}{b:Option Nat}{v:AV}{L:List Int}{X:List Nat}(hv:SlB g b 1 v (wsC L) L.length)(hb:∀ j,b=some j→j∈X):Ird g X v L:=
 ⟨hv.lnL,fun i x hx=>by
  obtain⟨j,hj,hix,hld⟩:=lst_ld hv hx
  refine⟨(j,i),hix,fun g' k=>?_⟩
  rw [ldS_at ((k.get j (hb j hj) (hv.blk j hj).1).trans (hv.blk j hj).2.1)]
  simp [wsC,hx]⟩
end Go.Ab.F
