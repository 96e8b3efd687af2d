import Derived.Test.YtlkhjkbepijegaaGreatDoorMar
import Derived.Test.YtlkhjkbepijegaaGreatDoorRfa
namespace Go.Ab.F
open Go Go.Ab
set_option linter.all false
set_option linter.all false
attribute [local congr] c_bind c_cl c_mk c_lp c_clC c_gQ c_gV c_condE c_thenK
theorem write_sp (a:PAr)(ad k v:Int):(a.write ad k v).2.sp=a.sp:=by
 unfold PAr.write;split<;>rfl
theorem write_wf {a:PAr}(H:Wf a)(ad k v:Int):Wf (a.write ad k v).2:=by
 unfold PAr.write
 split
 ·exact H
 ·exact⟨by simp only [List.length_set];exact H.len,H.hi,H.fi⟩
theorem and63 (n:Int):binP .and (.int .i64 n) (.int .i64 63)=some (.int .i64 (n % 64)):=by
 rw [bin_int _ (by decide) (by decide)]
 have e:intBin .and .i64 n 63=some (.int .i64 (IntKind.i64.wrap (BitVec.ofInt 64 n &&& BitVec.ofInt 64 63).toNat)):=rfl
 have e7:(BitVec.ofInt 64 63).toNat=2 ^ 6 - 1:=by decide
 have h:(BitVec.ofInt 64 n &&& BitVec.ofInt 64 63).toNat=(n % 64).toNat:=by
  rw [BitVec.toNat_and,e7,Nat.and_two_pow_sub_one_eq_mod,BitVec.toNat_ofInt]
  omega
 rw [e,h,wrap_i64 (by omega) (by omega)]
 congr 2;omega
def shT (sh:Int):Int:=sh % 8 % 6
theorem shT_rng (sh:Int):0≤shT sh∧shT sh < 6:=by unfold shT;omega
def sizeT (sh wd:Int):Int:=if shT sh < 4 then shT sh+1 else if wd % 64 < 1 then 1 else wd % 64
theorem sizeT_rng (sh wd:Int):1≤sizeT sh wd∧sizeT sh wd≤64:=by
 have:=shT_rng sh
 unfold sizeT
 split
 ·omega
 ·split<;>omega
theorem rem6 (sh:Int):binP .rem (.int .i64 (sh % 8)) (.int .i64 6)=some (.int .i64 (shT sh)):=by
 rw [bin_rem,if_neg (by omega),rem_nonneg (by omega)];rfl
theorem size_ok (sh wd:Int){v:AV}(hv:scalar v=true)(h:Heap):Ok (C2 (.agg [.int .i64 sh,.int .i64 wd,v]) h) fun r=>r.1 = .int .i64 (sizeT sh wd)∧Same [] h r.2:=by
 have bx:bxP (.agg [.int .i64 sh,.int .i64 wd,v])=some (.cells true [.int .i64 sh,.int .i64 wd,v],fun i=>.ptr (some (i,0))):=bx_agg (by show(true && (true && (scalar v && true)))=true;rw [hv];rfl)
 have g0:(h.new (.cells true [.int .i64 sh,.int .i64 wd,v])).get h.next=some (.cells true [.int .i64 sh,.int .i64 wd,v]):=get_new_eq
 have l0:ldS (h.new (.cells true [.int .i64 sh,.int .i64 wd,v])) (.ptr (some (h.next,0)))=some (.int .i64 sh):=by rw [ldS_at g0];rfl
 have l1:ldS (h.new (.cells true [.int .i64 sh,.int .i64 wd,v])) (.ptr (some (h.next,0+1)))=some (.int .i64 wd):=by rw [ldS_at g0];rfl
 have r:=shT_rng sh
 unfold sizeT
 by_cases c1:shT sh < 4
 ·have w:IntKind.i64.wrap (shT sh+1)=shT sh+1:=wrap_i64 (by omega) (by omega)
  rw [if_pos c1]
  exact ok_val (by simp -implicitDefEqProofs only [C2,bx,mk_some,faP_ptr,Option.bind_some,Nat.add_zero,l0,and7,rem6,bin_lss,c1,decide_true,condE_true,bin_add,w]<;>rfl) ⟨rfl,Same.new _ _⟩
 ·rw [if_neg c1]
  by_cases c2:wd % 64 < 1
  ·rw [if_pos c2]
   exact ok_val (by simp -implicitDefEqProofs only [C2,bx,mk_some,faP_ptr,Option.bind_some,Nat.add_zero,l0,l1,and7,and63,rem6,bin_lss,c1,c2,decide_true,decide_false,condE_true,condE_false]<;>rfl) ⟨rfl,Same.new _ _⟩
  ·rw [if_neg c2]
   exact ok_val (by simp -implicitDefEqProofs only [C2,bx,mk_some,faP_ptr,Option.bind_some,Nat.add_zero,l0,l1,and7,and63,rem6,bin_lss,c1,c2,decide_false,condE_false]<;>rfl) ⟨rfl,Same.new _ _⟩
section
variable {g:Heap}{C D:Nat→Nat}{qb b bT bq:Option Nat}{cls:List Int}{L:List Tm}{l:PAl}{gp gr:List Int}{T:List Shp}{Z:List Nat}
theorem J.wrote (P:J g C D qb b bT bq cls L l gp l gr T Z)(ad k v:Int) :
  Ok (Ag (.ptr (some (C 6,0))) (.int .i64 ad) (.int .i64 k) (.int .i64 v) g) fun r=>r.1 = .int .i64 (l.ar.write ad k v).1∧J r.2 C D qb b bT bq cls L ⟨(l.ar.write ad k v).2,l.un⟩ gp l gr T Z∧KpX Z g r.2:=by
 refine(write_ok P.pm.al.ar ad k v).mono ?_
 rintro⟨_,g'⟩ ⟨rfl,A,s⟩
 simp only at A s
 have hsp:=write_sp l.ar ad k v
 obtain⟨H,kx⟩:=P.pm.turn (l':=⟨(l.ar.write ad k v).2,l.un⟩) (s.sub (by simp)) (P.pm.al.arena (s.sub (by simp)) A (by rw [hsp])) (write_wf P.pm.wf ad k v)
 obtain⟨P',kz⟩:=P.prog H kx
 exact⟨rfl,P',kz⟩
theorem WfW.setw {L:List Tm}(H:WfW L){i:Nat}{t:Tm}(ht:L[i]?=some t)(k:Nat){v:Int}(hv:wf64 v):WfW (L.set i { t with W:=t.W.set k v }):=fun u hu x hx=>by
 rcases List.mem_or_eq_of_mem_set hu with h | h
 ·exact H u h x hx
 ·subst h
  rcases List.mem_or_eq_of_mem_set hx with h | h
  ·exact H t (List.mem_of_getElem? ht) x h
  ·subst h;exact hv
end
set_option linter.all false
attribute [local congr] c_bind c_cl c_mk c_lp c_clC c_gQ c_gV c_condE c_thenK
theorem eqD_row (s t:Shp):eqD (some (.struct #[])) (some keyL) (.agg s.row) (.agg t.row)=some (decide (s=t)):=by
 obtain⟨a,b,c⟩:=s
 obtain⟨d,e,f⟩:=t
 by_cases h1:a=d
 ·by_cases h2:b=e
  ·by_cases h3:c=f
   ·subst h1;subst h2;subst h3
    simp [eqD,eqFs,eqT,Shp.row,keyL]
   ·have : ¬ (c.toNat:Int)=f.toNat:=fun h=>h3 (BitVec.eq_of_toNat_eq (by omega))
    subst h1;subst h2
    simp [eqD,eqFs,eqT,Shp.row,keyL,h3,this]
  ·subst h1
   simp [eqD,eqFs,eqT,Shp.row,keyL,h2]
 ·simp [eqD,eqFs,eqT,Shp.row,keyL,h1]
theorem eql_row (s t:Shp):eqP (some (.struct #[])) (some keyL) false .eql (.agg s.row) (.agg t.row)=some (.bool (decide (s=t))):=by
 simp only [eqP,guardE,Bool.false_eq_true,if_false,binE,eqD_row,Option.map_some]
theorem keyL_eq:([(0,(.int .i64)),(1,(.int .i64)),(2,(.int .u64))]:List (Nat × TypeDesc))=keyL:=rfl
theorem rowIx3 {g:Heap}{b:Nat}{v:AV}{T:List Shp}(hs:SlB g (some b) 3 v (shC T) T.length){sx:Nat}{s:Shp}(hx:T[sx]?=some s):iaS 3 v (.int .i64 (sx:Int))=some (.ptr (some (b,sx * 3)))∧ldA 3 g (.ptr (some (b,sx * 3)))=some (.agg s.row):=by
 obtain⟨j,hj,hix⟩:=hs.ix (List.getElem?_eq_some_iff.1 hx).1
 cases hj
 refine⟨hix .i64,?_⟩
 rw [ldA_at (hs.blk b rfl).2.1,shC_at hx];rfl
section
variable {g:Heap}{D:Nat→Nat}{b bT bq:Option Nat}{cls:List Int}{L:List Tm}{l:PAl}{T:List Shp}{gq:List Int}{X:List Nat}
theorem rnumber_ok (H : Rk g D b bT bq cls L l T gq X) {s : Shp} (hs : s ∉ T) (hg : goodB s = true) (hl : T.length < 50000) :
    Ok (Bq (.ptr (some (D 4, 0))) (.agg s.row) g) fun r => ∃ bT', Rk r.2 D b (some bT') bq cls L l (T ++ [s]) gq X ∧ KpX X g r.2 ∧ g.next ≤ bT' := by
  have bx : bxP (.agg s.row) = some (.cells true s.row, fun i => .ptr (some (i, 0))) := rfl
  have s0 : Same [] g (g.new (.cells true s.row)) := Same.new _ _
  have p0 : (g.new (.cells true s.row)).get g.next = some (.cells true s.row) := get_new_eq
  have n0 : (g.new (.cells true s.row)).next = g.next + 1 := rfl
  refine Ok.eq ?_ (by simp -implicitDefEqProofs only [Bq, bx, mk_some] <;> rfl)
  generalize g.new (.cells true s.row) = g1 at *
  have H1 := H.keep s0
  obtain ⟨vT, vq, hm, hT, hq⟩ := H1.mkb
  have l1 : ldS g1 (.ptr (some (D 4, 1))) = some vT := by rw [ldS_at hm]; rfl
  have lp0 : Ok (C7 (.ptr (some (D 4, 0))) (.ptr (some (g.next, 0))) (.int .i64 0) (.int .i64 0) g1) fun r => r = (.exit 0, [.int .i64 0, .int .i64 T.length], g1) := by
    refine ok_loop (fun m vs g' => ∃ n : Nat, vs = [.int .i64 0, .int .i64 n] ∧ m + n = T.length ∧ g' = g1) ?_ (n := T.length) (by omega) ⟨0, rfl, by omega, rfl⟩
    rintro m vs g' ⟨n, rfl, hmn, hgg⟩
    subst hgg
    rw [gd0, gd1]
    by_cases hn : n < T.length
    · have hlt : (n : Int) < T.length := by omega
      obtain ⟨t, ht⟩ : ∃ t, T[n]? = some t := ⟨_, List.getElem?_eq_getElem hn⟩
      obtain ⟨j, hj⟩ : ∃ j, bT = some j := by
        cases bT with
        | none => have := hT.nil rfl; omega
        | some j => exact ⟨j, rfl⟩
      subst hj
      obtain ⟨ix, ld⟩ := rowIx3 hT ht
      have hne : decide (t = s) = false := decide_eq_false (fun e => hs (by rw [← e]; exact List.mem_of_getElem? ht))
      exact (Ok.of (r := (.normal, [.int .i64 0, .int .i64 ((n + 1 : Nat) : Int)], g')) (.inl ⟨rfl, m - 1, by omega, n + 1, rfl, by omega, rfl⟩)).eq (by
        simp -implicitDefEqProofs only [CV, nilV_ptr, Option.bind_some, faP_ptr, Nat.zero_add, l1, hT.lnL, bin_lss, hlt, decide_true, condE_true, ix, ld, ldA_row p0, keyL_eq, eql_row, hne, chk_nil, condE_false, bin_add, suc64 n (by omega)])
    · have hlt : ¬ (n : Int) < T.length := by omega
      obtain rfl : n = T.length := by omega
      exact (Ok.of (r := (.exit 0, [.int .i64 0, .int .i64 (T.length : Int)], g')) (.inr ⟨by simp, rfl⟩)).eq (by
        simp -implicitDefEqProofs only [CV, nilV_ptr, Option.bind_some, faP_ptr, Nat.zero_add, l1, hT.lnL, bin_lss, hlt, decide_false, condE_false])
  refine ok_lp lp0 ?_
  rintro _ _ _ he
  cases he
  have s1 : Same [] g1 (hpN g1 1) := ⟨Nat.le_succ _, fun _ _ _ => rfl⟩
  have l1' : ldS (hpN g1 1) (.ptr (some (D 4, 1))) = some vT := l1
  have la' : ldA 3 (hpN g1 1) (.ptr (some (g.next, 0))) = some (.agg s.row) := ldA_row (show (hpN g1 1).get g.next = _ from p0)
  have bs1 : bsP 3 [(AV.int .i64 0), (AV.int .i64 0), (AV.int .u64 0)] 1 [(0, .agg s.row)] = some (.cells true s.row, fun i => .sl (some (i, 0)) 1 (.ex 1)) := bsP_one (t := .agg s.row) rfl rfl rfl
  have ma : mkAt Heap.put (bsP 3 [(AV.int .i64 0), (AV.int .i64 0), (AV.int .u64 0)] 1 [(0, .agg s.row)]) (g1.next + 0) (hpN g1 1) = some (.sl (some (g1.next, 0)) 1 (.ex 1), (hpN g1 1).put g1.next (some (.cells true s.row))) := by
    rw [bs1]; rfl
  refine Ok.eq ?_ (by simp -implicitDefEqProofs only [if_true, thenK_normal, nilV_ptr, Option.bind_some, faP_ptr, Nat.zero_add, l1', la', ma, cl_some] <;> rfl)
  have s2 : Same [] g1 ((hpN g1 1).put g1.next (some (.cells true s.row))) := s1.old (Same.put _ _ _) (fun j hj => by rw [List.mem_singleton] at hj; right; omega)
  have p2 : ((hpN g1 1).put g1.next (some (.cells true s.row))).get g1.next = some (.cells true s.row) := get_put_eq
  have n2 : ((hpN g1 1).put g1.next (some (.cells true s.row))).next = g1.next + 1 := rfl
  generalize (hpN g1 1).put g1.next (some (.cells true s.row)) = g2 at *
  have H2 := H1.keep s2
  have hT2 := hT.same s2 (by simp)
  have hm2 : g2.get (D 4) = some (.cells true [.ptr (some (D 0, 0)), vT, vq]) := (s2.get _ (H1.exl (.inr (.inr (.inl rfl)))) (by simp)).trans hm
  obtain ⟨v', g3, ha, hT3, s3, n3⟩ := appAt (bytes := 24) hT2 p2 rfl rfl (by decide) (by omega)
  have eT : ∀ i, bT = some i → exR D bT bq i := fun i hi => .inr (.inr (.inr (.inl hi)))
  have m3 : D 4 ∉ bT.toList := fun hm => (H.dT _ (by simpa using hm)).2.2.1 rfl
  have hm3 : g3.get (D 4) = some (.cells true [.ptr (some (D 0, 0)), vT, vq]) := (s3.get _ (H2.exl (.inr (.inr (.inl rfl)))) m3).trans hm2
  have st : stP 1 g3 (.ptr (some (D 4, 1))) v' = some (.bot, g3.put (D 4) (some (.cells true [.ptr (some (D 0, 0)), v', vq]))) := stP_one hm3 (by simp) hT3.scv
  have s4 : Same [D 4] g3 (g3.put (D 4) (some (.cells true [.ptr (some (D 0, 0)), v', vq]))) := Same.put _ _ _
  have p4 : (g3.put (D 4) (some (.cells true [.ptr (some (D 0, 0)), v', vq]))).get (D 4) = some (.cells true [.ptr (some (D 0, 0)), v', vq]) := get_put_eq
  have n4 : (g3.put (D 4) (some (.cells true [.ptr (some (D 0, 0)), v', vq]))).next = g3.next := rfl
  have l4 : ldS (g3.put (D 4) (some (.cells true [.ptr (some (D 0, 0)), v', vq]))) (.ptr (some (D 4, 1))) = some v' := by rw [ldS_at p4]; rfl
  have hw : IntKind.i64.wrap (((T.length + 1 : Nat) : Int) - 1) = (T.length : Int) := by rw [wrap_i64 (by omega) (by omega)]; omega
  refine ok_val (by simp -implicitDefEqProofs only [ha, cl_some, nilV_ptr, Option.bind_some, faP_ptr, Nat.zero_add, st, chk_nil, l4, hT3.lnL, bin_sub, hw] <;> rfl) ?_
  generalize g3.put (D 4) (some (.cells true [.ptr (some (D 0, 0)), v', vq])) = g4 at *
  have s24 : Same (D 4 :: bT.toList) g2 g4 := (s3.sub (fun j hj => List.mem_cons_of_mem _ hj)).trans (s4.sub (fun j hj => by rw [List.mem_singleton] at hj; subst hj; exact List.mem_cons_self ..))
  have hS : ∀ j ∈ D 4 :: bT.toList, exR D bT bq j := fun j hj => by
    rw [List.mem_cons, Option.mem_toList] at hj
    rcases hj with rfl | h
    · exact .inr (.inr (.inl rfl))
    · exact eT j h
  have hb : g.next ≤ g2.next := by have := s0.next; have := s2.next; omega
  have hn : ∀ j, exR D bT bq j → j < g2.next := fun j hj => H2.exl hj
  have e2 := H2.exl (j := D 2) (.inl rfl)
  have e3 := H2.exl (j := D 3) (.inr (.inl rfl))
  have e4 := H2.exl (j := D 4) (.inr (.inr (.inl rfl)))
  have mT : ∀ j, (bT = some j → False) → j ≠ D 4 → j ∉ D 4 :: bT.toList := fun j h1 h2 hm => by
    rw [List.mem_cons, Option.mem_toList] at hm
    exact hm.elim h2 h1
  show ∃ bT', Rk g4 D b (some bT') bq cls L l (T ++ [s]) gq X ∧ KpX X g g4 ∧ g.next ≤ bT'
  refine ⟨g2.next, ?_, (KpX.same (s0.trans s2)).trans (KpX.of s24 fun j hj => (H.dX j (hS j hj)).1), hb⟩
  exact
  { ar := H2.ar.turnX s24 (fun j hj => exR_x (hS j hj)) (fun j hj => by
      rw [xR_mem] at hj
      have hnx := s24.next
      rcases hj with rfl | rfl | rfl | h | h | h
      · exact ⟨.inl (exR_x (.inl rfl)), by omega⟩
      · exact ⟨.inl (exR_x (.inr (.inl rfl))), by omega⟩
      · exact ⟨.inl (exR_x (.inr (.inr (.inl rfl)))), by omega⟩
      · cases h; exact ⟨.inr (Nat.le_refl _), by omega⟩
      · exact ⟨.inl (exR_x (.inr (.inr (.inr (.inr h))))), Nat.lt_of_lt_of_le (hn j (.inr (.inr (.inr (.inr h))))) hnx⟩
      · exact ⟨.inl (xR_mem.2 (by simp [h])), Nat.lt_of_lt_of_le (H2.xl h) hnx⟩)
    alb := (s24.get _ e2 (mT _ (fun h => (H.dT _ h).1 rfl) H.n24)).trans H2.alb
    stb := (s24.get _ e3 (mT _ (fun h => (H.dT _ h).2.1 rfl) H.n34)).trans H2.stb
    mkb := ⟨v', vq, p4, by rw [shC_app, show shC [s] = s.row by simp [shC], List.length_append]; exact hT3.same s4 (fun i hi => by cases hi; simp; omega), (hq.keep s2 (by simp)).keep s24 (fun i hi => mT i (fun h => (H.dT i h).2.2.2 hi) (H.dq i hi).2.2)⟩
    rel := H.rel
    len := H.len
    n23 := H.n23
    n24 := H.n24
    n34 := H.n34
    dT := fun i hi => by
      cases hi
      exact ⟨by omega, by omega, by omega, fun h => by have := hn _ (.inr (.inr (.inr (.inr h)))); omega⟩
    dq := H.dq
    dX := fun j hj => by
      rcases hj with h | h | h | h | h
      · exact H.dX j (.inl h)
      · exact H.dX j (.inr (.inl h))
      · exact H.dX j (.inr (.inr (.inl h)))
      · cases h
        exact ⟨fun hx => by have := H2.xl hx; omega, by have := H2.xl H2.x0; omega⟩
      · exact H.dX j (.inr (.inr (.inr (.inr h))))
    x0 := H.x0
    gd := fun u hu => by
      rw [List.mem_append, List.mem_singleton] at hu
      rcases hu with h | rfl
      · exact H.gd u h
      · exact hg
    tl := by simp; omega }
end
set_option linter.all false
attribute [local congr] c_bind c_cl c_mk c_lp c_clC c_gQ c_gV c_condE c_thenK
def sh7:List Shp:=[⟨0,0,0⟩,⟨0,1,1⟩,⟨0,2,2⟩,⟨0,3,5⟩,⟨1,0,1⟩,⟨1,0,0⟩]
theorem sh7_nd:sh7.Nodup:=by decide
theorem sh7_good:∀ s∈sh7,goodB s=true:=by decide
theorem shapes7 (h:Heap):C6 h=some (.sl (some (h.next,0)) 6 (.ex 6),h.new (.cells true (shC sh7))):=rfl
theorem take_suc {α:Type}{T:List α}{i:Nat}{s:α}(h:T[i]?=some s):T.take (i+1)=T.take i ++ [s]:=by
 rw [List.take_add_one,h];rfl
theorem not_take {α:Type}{T:List α}(hn:T.Nodup){i:Nat}{s:α}(h:T[i]?=some s):s∉T.take i:=fun hm=>by
 obtain⟨j,hj,e⟩:=List.getElem_of_mem hm
 have hji:j<i:=by have:=hj;rw [List.length_take] at this;omega
 have hil:=(List.getElem?_eq_some_iff.1 h).1
 rw [List.getElem_take] at e
 have e2:T[j]?=T[i]?:=by rw [h,List.getElem?_eq_getElem (by omega),e]
 have:=(List.getElem?_inj (by omega) hn).1 e2
 omega
section
variable {g0:Heap}{D:Nat→Nat}{cls:List Int}{l:PAl}{W:List Nat}{tb nm sx:Nat}
end
end Go.Ab.F
