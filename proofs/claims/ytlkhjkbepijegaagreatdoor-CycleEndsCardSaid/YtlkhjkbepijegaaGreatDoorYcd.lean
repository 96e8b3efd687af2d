import Derived.Test.YtlkhjkbepijegaaGreatDoorYcc
namespace Go.Ab.F
open Go Go.Ab
set_option linter.all false
set_option linter.all false
attribute [local congr] c_bind c_cl c_mk c_lp c_clC c_gQ c_gV c_condE c_thenK
section
variable {g0:Heap}{D:Nat→Nat}{cls:List Int}{l:PAl}{W:List Nat}{tb nm sx:Nat}
theorem num_loop {k0 k2 k3:Nat}(hrd:∀ g,KpX W g0 g→ldS g (.ptr (some (k0,1)))=some (.ptr (some (tb,0)))∧ldS g (.ptr (some (k3,1)))=some (.ptr (some (k2,0)))∧ldS g (.ptr (some (k2,2)))=some (.ptr (some (D 4,0))))(hW:tb∉W∧nm∉W)(hsx:sx∈W)(hg:g0.get sx=some (.cells true (shC sh7)))(hl:sx<g0.next)(h0:0∈W)
  (tA:TbAt g0 tb nm none []) (rk:Rk g0 D none none none cls [] l [] [] (tb::nm::W)) :
  Ok (E7 (.ptr (some (k0,0))) (.ptr (some (k3,0))) (.sl (some (sx,0)) 6 (.ex 6)) (.int .i64 0) g0) fun r=>r.1 = .exit 0∧∃ bt bT,TbAt r.2.2 tb nm (some bt) sh7∧Rk r.2.2 D none bT none cls [] l sh7 [] (bt::tb::nm::W)∧KpX W g0 r.2.2∧g0.next≤bt∧bt<r.2.2.next:=by
 have hWl:∀ j∈W,j<g0.next:=fun j hj=>rk.xl (by simp [hj])
 refine ok_loop (fun m vs g=>∃ (i:Nat) (bt bT:Option Nat),vs = [.int .i64 i]∧m+i=6∧TbAt g tb nm bt (sh7.take i)∧Rk g D none bT none cls [] l (sh7.take i) [] (bt.toList++tb::nm::W)∧KpX W g0 g∧(∀ j,bt=some j→g0.next≤j∧j<g.next)∧(1≤i→∃ j,bt=some j)) ?_ (n:=6) (by omega) ⟨0,none,none,rfl,rfl,tA,rk,KpX.refl _ _,(fun j hj=>by cases hj),fun h=>by omega⟩
 rintro m vs g ⟨i,bt,bT,rfl,hm,tA,rk,k,hbt,hbs⟩
 rw [gd0]
 have ln:lnL (.sl (some (sx,0)) 6 (.ex 6))=some (.int .i64 6):=rfl
 by_cases hi:i < 6
 ·have hlt:(i:Int) < 6:=by omega
  obtain⟨s,hs⟩:∃ s,sh7[i]?=some s:=⟨_,List.getElem?_eq_getElem (by exact hi)⟩
  have hsm:=List.mem_of_getElem? hs
  have hg1:g.get sx=some (.cells true (shC sh7)):=(k.get sx hsx hl).trans hg
  have ix:iaS 3 (.sl (some (sx,0)) 6 (.ex 6)) (.int .i64 (i:Int))=some (.ptr (some (sx,i * 3))):=by
   rw [iaS_sl 3 (sx,0) _ _ .i64 _ ⟨by omega,by omega⟩];simp
  have la:ldA 3 g (.ptr (some (sx,i * 3)))=some (.agg s.row):=by rw [ldA_at hg1,shC_at hs];rfl
  have hni:=not_take sh7_nd hs
  have hgd:=sh7_good s hsm
  have hlen:(sh7.take i).length < 100:=by rw [List.length_take];omega
  obtain⟨rd1,_,_⟩:=hrd g k
  have tbl:AU (.ptr (some (k0,0))) g=some (.ptr (some (tb,0)),g):=by simp -implicitDefEqProofs only [AU,nilV_ptr,Option.bind_some,faP_ptr,Nat.zero_add,rd1]
  refine Ok.eq ?_ (by simp -implicitDefEqProofs only [Dp,ln,Option.bind_some,bin_lss,hlt,decide_true,condE_true,tbl,cl_some,ix,rdC_some (f:=fun g=>ldA 3 g (.ptr (some (sx,i * 3)))) (h:=g) la,clC_some]<;>rfl)
  refine ok_cl (number_new tA hni hgd (by omega)) ?_
  rintro _ g1 ⟨-,s1,b',hb',tA1⟩
  simp only at s1 tA1
  have hb1:b'<g1.next:=by
   obtain⟨v,_,hv⟩:=tA1.tbl
   exact(hv.blk b' rfl).1
  have hSX:∀ j∈tb::nm::bt.toList,j∈bt.toList++tb::nm::W:=fun j hj=>by
   simp only [List.mem_cons,List.mem_append,Option.mem_toList] at hj ⊢
   rcases hj with h | h | h
   ·exact .inr (.inl h)
   ·exact .inr (.inr (.inl h))
   ·exact .inl h
  have hSW:∀ j∈tb::nm::bt.toList,j∉W:=fun j hj hw=>by
   simp only [List.mem_cons,Option.mem_toList] at hj
   rcases hj with h | h | h
   ·subst h;exact hW.1 hw
   ·subst h;exact hW.2 hw
   ·have:=(hbt j h).1
    have:=hWl j hw
    omega
  have hg2:g1.get sx=some (.cells true (shC sh7)):=(s1.get sx (Nat.lt_of_lt_of_le hl k.next) (fun h=>hSW sx h hsx)).trans hg1
  have hcell:∀ (j:Nat) x,s.row[j]?=some x→ldS g1 (.ptr (some (sx,i * 3+j)))=some x:=fun j x hx=>by
   rw [ldS_at hg2]
   exact flt_cell (row:=Shp.row) (k:=3) (fun _=>rfl) hs hx
  have c0:=hcell 0 _ rfl
  have c1:=hcell 1 _ rfl
  have c2:=hcell 2 _ rfl
  have rk1:Rk g1 D none bT none cls [] l (sh7.take i) [] (b'::tb::nm::W):=rk.frame s1 (fun j hj hm=>(rk.own hm).1 (hSX j hj)) (fun j hj=>by
   rw [List.mem_cons] at hj
   rcases hj with rfl | hj
   ·exact⟨fun hm=>by have:=(rk.own hm).2.2;omega,hb1⟩
   ·exact⟨fun hm=>(rk.own hm).1 (List.mem_append_right _ hj),Nat.lt_of_lt_of_le (rk.xl (List.mem_append_right _ hj)) s1.next⟩) (by simp [h0])
  have bl:bldS [(0,1),(1,1),(2,1)] [(AV.int .i64 0),(AV.int .i64 0),(AV.int .u64 0)] [(0,.int .i64 s.kind),(1,.int .i64 s.fields),(2,.int .u64 s.map.toNat)]=some (.agg s.row):=rfl
  have k1:KpX W g0 g1:=k.trans (KpX.of s1 hSW)
  obtain⟨_,rd2,rd3⟩:=hrd g1 k1
  have la1:ldA 3 g1 (.ptr (some (sx,i * 3)))=some (.agg s.row):=by rw [ldA_at hg2,shC_at hs];rfl
  rw [chk_two (same_row s) la la]
  refine Ok.eq ?_ (by simp -implicitDefEqProofs only [nilV_ptr,faP_ptr,Nat.zero_add,rd2,rd3,ix,Option.bind_some,c0,c1,c2,bl]<;>rfl)
  refine ok_cl (rnumber_ok rk1 hni hgd (by omega)) ?_
  rintro _ g2 ⟨bT',rk2,k2,hbT⟩
  simp only at rk2 k2
  have tA2:TbAt g2 tb nm (some b') (sh7.take i ++ [s]):=tA1.same k2.frame (not_out (by simp)) (not_out (by simp)) (fun j hj=>by cases hj;exact not_out (by simp))
  rw [← take_suc hs] at tA2 rk2
  refine(Ok.of (r:=(.normal,[.int .i64 ((i+1:Nat):Int)],g2)) (.inl ⟨rfl,m - 1,by omega,i+1,some b',some bT',rfl,by omega,tA2,rk2,(k.trans (KpX.of s1 hSW)).trans (k2.sub fun j hj=>by simp [hj]),fun j hj=>?_,fun _=>⟨_,rfl⟩⟩)).eq (by
   simp -implicitDefEqProofs only [chk_nil,bin_add,Option.bind_some,suc64 i (by omega)])
  cases hj
  exact⟨Nat.le_trans k.next hb',Nat.lt_of_lt_of_le hb1 k2.next⟩
 ·have hlt : ¬ (i:Int) < 6:=by omega
  obtain rfl:i=6:=by omega
  obtain⟨j,rfl⟩:=hbs (by omega)
  obtain⟨h1,h2⟩:=hbt j rfl
  exact(Ok.of (r:=(.exit 0,[.int .i64 ((6:Nat):Int)],g)) (.inr ⟨by simp,rfl,j,bT,tA,rk,k,h1,h2⟩)).eq (by
   simp -implicitDefEqProofs only [Dp,ln,Option.bind_some,bin_lss,hlt,decide_false,condE_false])
end
set_option linter.all false
attribute [local congr] c_bind c_cl c_mk c_lp c_clC c_gQ c_gV c_condE c_thenK
def Zr (h:Heap):List Nat:=List.range h.next
def sc0 (N:Nat):SC:=⟨⟨newA N,List.replicate N false⟩,[],0,[],0⟩
def hol0:SH:=⟨fun _=>[],fun _=>false,[]⟩
def mkC (tb nm q u p w s bt mk qd:Nat)(i:Nat):Nat:=if i=2 then tb else if i=3 then nm else if i=4 then q else if i=5 then u else if i=6 then p else if i=7 then w else if i=8 then s else if i=9 then bt else if i=11 then mk else qd
def mkD (rp rc ra rs rm:Nat)(i:Nat):Nat:=if i=0 then rp else if i=1 then rc else if i=2 then ra else if i=3 then rs else rm
set_option maxHeartbeats 2000000 in
theorem mkC_all {n a bt:Nat}(ha:n+12≤a)(hb:a+7≤bt){C:Nat→Nat}(hC:C=mkC (n+4) (n+3) (n+6) (n+5) (n+2) n (n+1) bt (n+8) (n+7)) :
  (∀ i j,ix i=true→ix j=true→C i=C j→i=j)∧∀ i,ix i=true→n≤C i∧C i≤bt∧(C i=bt∨C i=n+4∨C i=n+3∨C i=n∨C i=n+1∨C i=n+2∨C i=n+5∨C i=n+6∨C i=n+7∨C i=n+8):=by
 have c2:C 2=n+4:=by rw [hC];rfl
 have c3:C 3=n+3:=by rw [hC];rfl
 have c4:C 4=n+6:=by rw [hC];rfl
 have c5:C 5=n+5:=by rw [hC];rfl
 have c6:C 6=n+2:=by rw [hC];rfl
 have c7:C 7=n:=by rw [hC];rfl
 have c8:C 8=n+1:=by rw [hC];rfl
 have c9:C 9=bt:=by rw [hC];rfl
 have c11:C 11=n+8:=by rw [hC];rfl
 have c12:C 12=n+7:=by rw [hC];rfl
 clear hC
 refine⟨fun i j hi hj e=>?_,fun i hi=>?_⟩
 ·rcases ix_cases hi with rfl | rfl | rfl | rfl | rfl | rfl | rfl | rfl | rfl | rfl<;>rcases ix_cases hj with rfl | rfl | rfl | rfl | rfl | rfl | rfl | rfl | rfl | rfl<;>omega
 ·rcases ix_cases hi with rfl | rfl | rfl | rfl | rfl | rfl | rfl | rfl | rfl | rfl<;>omega
def Wl (h:Heap)(n a:Nat):List Nat:=(a+6)::(a+5)::(a+4)::(a+3)::n::(n+1)::(n+2)::(n+5)::(n+6)::(n+7)::(n+8)::(n+9)::(n+10)::Zr h
def inW (n a j:Nat):Prop:=j=a+6∨j=a+5∨j=a+4∨j=a+3∨j=n∨j=n+1∨j=n+2∨j=n+5∨j=n+6∨j=n+7∨j=n+8∨j=n+9∨j=n+10∨j<n
theorem memWl {h:Heap}{n a:Nat}(hn:h.next=n)(j:Nat):j∈Wl h n a↔inW n a j:=by
 unfold Wl inW;simp only [List.mem_cons,Zr,List.mem_range,hn]
theorem rk_made {h g9 : Heap} {N n a rc : Nat} {D : Nat → Nat} (hn1 : 1 ≤ n) (hn : h.next = n) (h2 : N ≤ 512) (h8 : n + 12 ≤ a) (hrc : n + 11 < rc) (hrca : rc < a) (n9 : g9.next = a + 7) (d0 : D 0 = n + 11) (d1 : D 1 = rc) (d2 : D 2 = a + 1) (d3 : D 3 = a) (d4 : D 4 = a + 2)
    (r7 : g9.get (n + 11) = some (.cells true [.sl (some (rc, 0)) N (.un 1), .sl none 0 (.ex 0)])) (rrc : g9.get rc = some (.cells true (wsC (List.replicate N (-1))))) (ra4 : g9.get (a + 1) = some (.cells true [.ptr (some (n + 11, 0)), .sl (some (a, 0)) N (.ex N)])) (ra3 : g9.get a = some (.cells true (unC (List.replicate N false))))
    (ra0 : g9.get (a + 2) = some (.cells true [.ptr (some (n + 11, 0)), .sl none 0 (.ex 0), .sl none 0 (.ex 0)])) :
    Rk g9 D none none none (List.replicate N (-1)) [] ⟨newA N, List.replicate N false⟩ [] [] ((n + 4) :: (n + 3) :: Wl h n a) := by
  have mem : ∀ j, j ∈ Wl h n a ↔ inW n a j := memWl hn
  exact
    { ar :=
      { rpb := ⟨.sl none 0 (.ex 0), by
          rw [List.length_replicate, d0, d1]
          exact r7, SlB.mt⟩
        rcb := by rw [d1]; exact rrc
        wb := fun t ht => by simp at ht
        wd := List.nodup_nil
        lp := by omega
        lc := by omega
        pc := by omega
        xp := by rw [xR_mem]; simp only [List.mem_cons, mem, inW, reduceCtorEq, false_or]; omega
        xc := by rw [xR_mem]; simp only [List.mem_cons, mem, inW, reduceCtorEq, false_or]; omega
        xb := fun i hi => by cases hi
        zp := by omega
        zc := by omega
        xl := fun j hj => by rw [xR_mem] at hj; simp only [List.mem_cons, mem, inW, reduceCtorEq, false_or] at hj; omega
        len := by simp }
      alb := by rw [d2, d0, d3, List.length_replicate]; exact ra4
      stb := by rw [d3]; exact ra3
      mkb := ⟨.sl none 0 (.ex 0), .sl none 0 (.ex 0), by rw [d4, d0]; exact ra0, SlB.mt, QuV.mt⟩
      rel := rel_new N h2
      len := by simp [newA]
      n23 := by omega
      n24 := by omega
      n34 := by omega
      dT := fun i hi => by cases hi
      dq := fun i hi => by cases hi
      dX := fun j hj => by
        unfold exR at hj
        simp only [reduceCtorEq, or_false] at hj
        simp only [List.mem_cons, mem, inW]
        omega
      x0 := by simp only [List.mem_cons, mem, inW]; omega
      gd := by simp
      tl := by simp }
def mkK (k0 k1 k2 k3 k4:Nat)(i:Nat):Nat:=if i=0 then k0 else if i=1 then k1 else if i=2 then k2 else if i=3 then k3 else k4
theorem cs_made {n a bt:Nat}(ha:n+12≤a)(hb:a+7≤bt):∃ C:Nat→Nat,(C 2=n+4∧C 3=n+3∧C 4=n+6∧C 5=n+5∧C 6=n+2∧C 7=n∧C 8=n+1∧C 9=bt∧C 11=n+8∧C 12=n+7)∧(∀ i j,ix i=true→ix j=true→C i=C j→i=j)∧∀ i,ix i=true→n≤C i∧C i≤bt∧(C i=bt∨C i=n+4∨C i=n+3∨C i=n∨C i=n+1∨C i=n+2∨C i=n+5∨C i=n+6∨C i=n+7∨C i=n+8):=
 ⟨mkC (n+4) (n+3) (n+6) (n+5) (n+2) n (n+1) bt (n+8) (n+7),⟨rfl,rfl,rfl,rfl,rfl,rfl,rfl,rfl,rfl,rfl⟩,mkC_all ha hb rfl⟩
theorem ks_mem {K:Nat→Nat}{n a:Nat}(k0:K 0=n+10)(k1:K 1=n+9)(k2:K 2=a+3)(k3:K 3=a+5)(k4:K 4=a+4):∀ j,j∈ownY K (fun _=>none)↔j=n+10∨j=n+9∨j=a+3∨j=a+5∨j=a+4:=fun j=>by
 rw [ownY_mem]
 constructor
 ·rintro(⟨i,hi,rfl⟩ | ⟨i,_,h⟩)
  ·rcases (by omega:i=0∨i=1∨i=2∨i=3∨i=4) with rfl | rfl | rfl | rfl | rfl
   ·exact .inl k0
   ·exact .inr (.inl k1)
   ·exact .inr (.inr (.inl k2))
   ·exact .inr (.inr (.inr (.inl k3)))
   ·exact .inr (.inr (.inr (.inr k4)))
  ·cases h
 ·rintro(h | h | h | h | h)
  ·exact .inl ⟨0,by omega,h.trans k0.symm⟩
  ·exact .inl ⟨1,by omega,h.trans k1.symm⟩
  ·exact .inl ⟨2,by omega,h.trans k2.symm⟩
  ·exact .inl ⟨3,by omega,h.trans k3.symm⟩
  ·exact .inl ⟨4,by omega,h.trans k4.symm⟩
theorem ks_rng {K:Nat→Nat}{n a:Nat}(k0:K 0=n+10)(k1:K 1=n+9)(k2:K 2=a+3)(k3:K 3=a+5)(k4:K 4=a+4)(h8:n+12≤a):(∀ i,i < 5→n<K i∧K i≤a+5)∧∀ i j,i < 5→j < 5→K i=K j→i=j:=by
 refine⟨fun i hi=>?_,fun i j hi hj e=>?_⟩
 ·rcases (by omega:i=0∨i=1∨i=2∨i=3∨i=4) with rfl | rfl | rfl | rfl | rfl<;>omega
 ·rcases (by omega:i=0∨i=1∨i=2∨i=3∨i=4) with rfl | rfl | rfl | rfl | rfl<;>rcases (by omega:j=0∨j=1∨j=2∨j=3∨j=4) with rfl | rfl | rfl | rfl | rfl<;>first | rfl | omega
theorem ks_made (n a:Nat)(h8:n+12≤a):∃ K:Nat→Nat,(K 0=n+10∧K 1=n+9∧K 2=a+3∧K 3=a+5∧K 4=a+4):=
 ⟨mkK (n+10) (n+9) (a+3) (a+5) (a+4),rfl,rfl,rfl,rfl,rfl⟩
theorem aux1 {n a bt c:Nat}(h:c=bt∨c=n+4∨c=n+3∨c=n∨c=n+1∨c=n+2∨c=n+5∨c=n+6∨c=n+7∨c=n+8):c=bt∨c=n+4∨c=n+3∨inW n a c:=by unfold inW;omega
theorem aux2 {n a bt c:Nat}(h:c=n+10∨c=n+9∨c=a+3∨c=a+5∨c=a+4):c=bt∨c=n+4∨c=n+3∨inW n a c:=by unfold inW;omega
theorem aux3 {n a bt c:Nat}(h:c<n):c=bt∨c=n+4∨c=n+3∨inW n a c:=by unfold inW;omega
theorem aux4 {n a bt c:Nat}(h8:n+12≤a)(hb:a+7≤bt)(h:c=bt∨c=n+4∨c=n+3∨c=n∨c=n+1∨c=n+2∨c=n+5∨c=n+6∨c=n+7∨c=n+8)(h':(c=n+10∨c=n+9∨c=a+3∨c=a+5∨c=a+4)∨c<n):False:=by omega
theorem aux5 {n a c:Nat}(h8:n+12≤a)(h:c=n+10∨c=n+9∨c=a+3∨c=a+5∨c=a+4)(h':c<n):False:=by omega
theorem wi_made {h g10 : Heap} {N n a bt rc : Nat} {D : Nat → Nat} {bT : Option Nat} (hn1 : 1 ≤ n) (hn : h.next = n) (h2 : N ≤ 512) (h8 : n + 12 ≤ a) (hbt1 : a + 7 ≤ bt) (hbt2 : bt < g10.next) (d0 : D 0 = n + 11) (d2 : D 2 = a + 1) (d4 : D 4 = a + 2)
    (r6 : g10.get (n + 8) = some (.cells true [.ptr (some (n + 2, 0)), .ptr (some (n + 4, 0)), .ptr (some (n + 7, 0))])) (r5 : g10.get (n + 7) = some (.cells true [.sl none 0 (.ex 0)])) (rA : AlAt g10 (n + 6) (n + 5) (n + 2) n (n + 1) ⟨newA N, List.replicate N false⟩) (rt : Tab0 g10)
    (tA : TbAt g10 (n + 4) (n + 3) (some bt) sh7) (rk : Rk g10 D none bT none (List.replicate N (-1)) [] ⟨newA N, List.replicate N false⟩ sh7 [] (bt :: (n + 4) :: (n + 3) :: Wl h n a))
    (q0 : g10.get (n + 10) = some (.cells true [.ptr (some (n + 2, 0)), .ptr (some (n + 4, 0)), .ptr (some (n + 6, 0)), .ptr (some (n + 8, 0)), .int .i64 0, .mp (some (n + 9)), .int .i64 0, .int .i64 64]))
    (q1 : g10.get (n + 9) = some (.mp []))
    (q2 : g10.get (a + 3) = some (.cells true [.ptr (some (n + 11, 0)), .ptr (some (a + 1, 0)), .ptr (some (a + 2, 0)), .int .i64 0, .sl none 0 (.ex 0), .int .i64 0, .int .i64 64]))
    (q3 : g10.get (a + 5) = some (.cells true [.ptr (some (n + 10, 0)), .ptr (some (a + 3, 0)), .ptr (some (a + 4, 0)), .sl none 0 (.ex 0)]))
    (q4 : g10.get (a + 4) = some (.cells true [.sl none 0 (.ex 0), .sl none 0 (.ex 0), .sl none 0 (.ex 0), .sl none 0 (.ex 0), .sl none 0 (.ex 0), .bool false, .bool false, .bool false, .bool false])) :
    ∃ C K v, K 3 = a + 5 ∧ Wi g10 C D K v (sc0 N) (sc0 N) hol0 sh7 (Zr h) := by
  obtain ⟨C, ⟨c2, c3, c4, c5, c6, c7, c8, c9, c11, c12⟩, hinj, hrg⟩ := cs_made h8 hbt1
  obtain ⟨K, k0, k1, k2, k3, k4⟩ := ks_made n a h8
  have memY := ks_mem k0 k1 k2 k3 k4
  obtain ⟨hkr, hki⟩ := ks_rng k0 k1 k2 k3 k4 h8
  have hbn : a + 5 < g10.next := Nat.lt_of_le_of_lt (Nat.le_trans (Nat.add_le_add_left (by decide) a) hbt1) hbt2
  have mem : ∀ j, j ∈ bt :: (n + 4) :: (n + 3) :: Wl h n a ↔ j = bt ∨ j = n + 4 ∨ j = n + 3 ∨ inW n a j := fun j => by
    simp only [List.mem_cons, memWl hn]
  have memZ : ∀ j, j ∈ Zr h ↔ j < n := fun j => by simp only [Zr, List.mem_range, hn]
  have hall : ∀ j, j ∈ ownP C none ++ (ownY K (fun _ => none) ++ Zr h) → j ∈ bt :: (n + 4) :: (n + 3) :: Wl h n a := fun j hj => by
    rw [mem]
    rw [List.mem_append, List.mem_append, memY, memZ] at hj
    rcases hj with hj | hj | hj
    · rcases ownP_mem.1 hj with ⟨i, hi, rfl⟩ | hq
      · exact aux1 (hrg i hi).2.2
      · cases hq
    · exact aux2 hj
    · exact aux3 hj
  have h0z : 0 ∈ ownY K (fun _ => none) ++ Zr h := List.mem_append_right _ ((memZ 0).2 hn1)
  refine ⟨C, K, ⟨none, none, bT, none, List.replicate N (-1), [], fun _ => none⟩, k3, ?_⟩
  exact
    { j :=
      { pm :=
        { mkb := by rw [c11, c6, c2, c12]; exact r6
          gqb := ⟨.sl none 0 (.ex 0), by rw [c12]; exact r5, QuV.mt⟩
          tab := by rw [c2, c3, c9]; exact tA
          al := by
            rw [c4, c5, c6, c7, c8]
            exact rA
          wf := (rel_new N h2).wf
          lt := fun i hi => Nat.lt_of_le_of_lt (hrg i hi).2.1 hbt2
          pos := fun i hi e => by have := (hrg i hi).1; rw [e] at this; exact Nat.not_succ_le_zero _ (Nat.le_trans hn1 this)
          inj := hinj
          t0 := rt
          xC := fun i hi hm => by
            rw [List.mem_append] at hm
            rcases hm with hm | hm
            · exact (rk.own hm).1 (hall _ (List.mem_append_left _ (ownP_mem.2 (.inl ⟨i, hi, rfl⟩))))
            · rw [List.mem_append, memY, memZ] at hm
              exact aux4 h8 hbt1 (hrg i hi).2.2 hm
          xq := fun i hi => by cases hi
          x0 := List.mem_append_right _ h0z
          xl := fun j hj => by
            rw [List.mem_append] at hj
            rcases hj with hj | hj
            · exact (rk.own hj).2.2
            · exact rk.xl (hall j (List.mem_append_right _ hj)) }
        rk := rk.subX hall (List.mem_append_right _ h0z)
        z0 := h0z }
      y :=
      { cy := ⟨64, by unfold cyC; rw [k0, k1, c6, c2, c4, c11]; exact q0⟩
        mp := by rw [k1]; exact q1
        dc := ⟨.sl none 0 (.ex 0), 64, by unfold dcC; rw [k2, d0, d2, d4]; exact q2, .inl SlB.mt⟩
        pl := ⟨.sl none 0 (.ex 0), by unfold plC; rw [k3, k0, k2, k4]; exact q3, .inl SlB.mt⟩
        ho := ⟨fun _ => .sl none 0 (.ex 0), by rw [k4]; exact q4, fun i hi => .inl SlB.mt⟩
        lt := fun i hi => ⟨Nat.lt_of_le_of_lt (hkr i hi).2 hbn, fun e => by have := (hkr i hi).1; rw [e] at this; exact Nat.not_lt_zero _ this⟩
        inj := hki
        lbl := fun i hi b hb => by cases hb
        lbi := fun i j hi hj b hb => by cases hb }
      yz := fun j hj hz => by
        have hj : j ∈ ownY K (fun _ => none) := hj
        exact aux5 h8 ((memY j).1 hj) ((memZ j).1 hz)
      z0 := (memZ 0).2 hn1
      ww := fun t ht => by cases ht }
set_option linter.all false
attribute [local congr] c_bind c_cl c_mk c_lp c_clC c_gQ c_gV c_condE c_thenK
theorem cnew_ok {h:Heap}{N n:Nat}(h1:8≤N)(h2:N≤512)(hn:h.next=n) :
  Ok (DH (.int .i64 N) h) fun r=>r.1 = .tup [.ptr (some (n+10,0)),.int .i64 0]∧r.2.next=n+11∧Same [] h r.2∧
   AlAt r.2 (n+6) (n+5) (n+2) n (n+1) ⟨newA N,List.replicate N false⟩∧r.2.get (n+3)=some (.mp [])∧r.2.get (n+4)=some (.cells true [.sl none 0 (.ex 0),.mp (some (n+3))])∧
   r.2.get (n+7)=some (.cells true [.sl none 0 (.ex 0)])∧r.2.get (n+8)=some (.cells true [.ptr (some (n+2,0)),.ptr (some (n+4,0)),.ptr (some (n+7,0))])∧r.2.get (n+9)=some (.mp [])∧
   r.2.get (n+10)=some (.cells true [.ptr (some (n+2,0)),.ptr (some (n+4,0)),.ptr (some (n+6,0)),.ptr (some (n+8,0)),.int .i64 0,.mp (some (n+9)),.int .i64 0,.int .i64 64]):=by
 have nw:=new_ok (h:=h) N h1 h2
 rw [hn] at nw
 refine Ok.eq ?_ (by unfold DH;rfl)
 refine ok_cl nw ?_
 rintro _ g1 ⟨rfl,H1,s1,n1⟩
 simp only at H1 s1 n1
 have hl:(newA N).sp.length=N:=by show(List.replicate N _).length=N;rw [List.length_replicate]
 have b1:bldS [(0,1),(1,1)] [AV.sl none 0 (.ex 0),AV.mp none] [(1,.mp (some (n+3)))]=some (.agg [.sl none 0 (.ex 0),.mp (some (n+3))]):=rfl
 have y1:bxP (.agg [.sl none 0 (.ex 0),.mp (some (n+3))])=some (.cells true [.sl none 0 (.ex 0),.mp (some (n+3))],fun i=>.ptr (some (i,0))):=rfl
 have nn:(g1.new (.mp [])).next=n+4:=by rw [Heap.next_new,n1]
 have hd:D5 g1=some (.ptr (some (n+4,0)),(g1.new (.mp [])).new (.cells true [.sl none 0 (.ex 0),.mp (some (n+3))])):=by
  simp -implicitDefEqProofs only [D5,mk_some,n1,b1,y1,Option.bind_some,nn]
 refine Ok.eq ?_ (by simp -implicitDefEqProofs only [extractV_tup,e0,e1,Option.bind_some,neq_int,decide_true,Bool.not_true,condE_false,hd,cl_some]<;>rfl)
 have s2:Same [] g1 ((g1.new (.mp [])).new (.cells true [.sl none 0 (.ex 0),.mp (some (n+3))])):=(Same.new _ _).trans (Same.new _ _)
 have n2:((g1.new (.mp [])).new (.cells true [.sl none 0 (.ex 0),.mp (some (n+3))])).next=n+5:=by rw [Heap.next_new,nn]
 have p3:((g1.new (.mp [])).new (.cells true [.sl none 0 (.ex 0),.mp (some (n+3))])).get (n+3)=some (.mp []):=by
  rw [get_new_ne (by omega),← n1];exact get_new_eq
 have p4:((g1.new (.mp [])).new (.cells true [.sl none 0 (.ex 0),.mp (some (n+3))])).get (n+4)=some (.cells true [.sl none 0 (.ex 0),.mp (some (n+3))]):=by
  rw [← nn];exact get_new_eq
 generalize (g1.new (.mp [])).new (.cells true [.sl none 0 (.ex 0),.mp (some (n+3))])=g2 at *
 have an:=anew_ok (H1.same s2 (by simp) (by simp) (by simp))
 rw [n2,hl] at an
 refine ok_cl an ?_
 rintro _ g3 ⟨rfl,A3,s3,n3⟩
 simp only at A3 s3 n3
 have n3':g3.next=n+7:=by omega
 have bq:bldS [(0,1)] [AV.sl none 0 (.ex 0)] []=some (.agg [.sl none 0 (.ex 0)]):=rfl
 have yq:bxP (.agg [.sl none 0 (.ex 0)])=some (.cells true [.sl none 0 (.ex 0)],fun i=>.ptr (some (i,0))):=rfl
 have bm:bldS [(0,1),(1,1),(2,1)] [AV.ptr none,AV.ptr none,AV.ptr none] [(0,.ptr (some (n+2,0))),(1,.ptr (some (n+4,0))),(2,.ptr (some (n+7,0)))]=some (.agg [.ptr (some (n+2,0)),.ptr (some (n+4,0)),.ptr (some (n+7,0))]):=rfl
 have ym:bxP (.agg [.ptr (some (n+2,0)),.ptr (some (n+4,0)),.ptr (some (n+7,0))])=some (.cells true [.ptr (some (n+2,0)),.ptr (some (n+4,0)),.ptr (some (n+7,0))],fun i=>.ptr (some (i,0))):=rfl
 have n4:(g3.new (.cells true [.sl none 0 (.ex 0)])).next=n+8:=by rw [Heap.next_new,n3']
 have hm:D4 (.ptr (some (n+2,0))) (.ptr (some (n+4,0))) g3=some (.ptr (some (n+8,0)),(g3.new (.cells true [.sl none 0 (.ex 0)])).new (.cells true [.ptr (some (n+2,0)),.ptr (some (n+4,0)),.ptr (some (n+7,0))])):=by
  simp -implicitDefEqProofs only [D4,FV,bq,yq,mk_some,n3',Option.bind_some,cl_some,bm,ym,n4]
 refine Ok.eq ?_ (by simp -implicitDefEqProofs only [hm,cl_some]<;>rfl)
 have s4:Same [] g3 ((g3.new (.cells true [.sl none 0 (.ex 0)])).new (.cells true [.ptr (some (n+2,0)),.ptr (some (n+4,0)),.ptr (some (n+7,0))])):=(Same.new _ _).trans (Same.new _ _)
 have p7:((g3.new (.cells true [.sl none 0 (.ex 0)])).new (.cells true [.ptr (some (n+2,0)),.ptr (some (n+4,0)),.ptr (some (n+7,0))])).get (n+7)=some (.cells true [.sl none 0 (.ex 0)]):=by
  rw [get_new_ne (by omega),← n3'];exact get_new_eq
 have p8:((g3.new (.cells true [.sl none 0 (.ex 0)])).new (.cells true [.ptr (some (n+2,0)),.ptr (some (n+4,0)),.ptr (some (n+7,0))])).get (n+8)=some (.cells true [.ptr (some (n+2,0)),.ptr (some (n+4,0)),.ptr (some (n+7,0))]):=by
  rw [← n4];exact get_new_eq
 have n5:((g3.new (.cells true [.sl none 0 (.ex 0)])).new (.cells true [.ptr (some (n+2,0)),.ptr (some (n+4,0)),.ptr (some (n+7,0))])).next=n+9:=by rw [Heap.next_new,n4]
 generalize (g3.new (.cells true [.sl none 0 (.ex 0)])).new (.cells true [.ptr (some (n+2,0)),.ptr (some (n+4,0)),.ptr (some (n+7,0))])=g5 at *
 have n6:(g5.new (.mp [])).next=n+10:=by rw [Heap.next_new,n5]
 have bc:bldS [(0,1),(1,1),(2,1),(3,1),(4,1),(5,1),(6,1),(7,1)] [(AV.ptr none),(AV.ptr none),(AV.ptr none),(AV.ptr none),(AV.int .i64 0),(AV.mp none),(AV.int .i64 0),(AV.int .i64 0)] [(0,.ptr (some (n+2,0))),(1,.ptr (some (n+4,0))),(2,.ptr (some (n+5+1,0))),(3,.ptr (some (n+8,0))),(5,.mp (some (n+9))),(7,(AV.int .i64 64))]=some (.agg [.ptr (some (n+2,0)),.ptr (some (n+4,0)),.ptr (some (n+6,0)),.ptr (some (n+8,0)),.int .i64 0,.mp (some (n+9)),.int .i64 0,.int .i64 64]):=rfl
 have yc:bxP (.agg [.ptr (some (n+2,0)),.ptr (some (n+4,0)),.ptr (some (n+6,0)),.ptr (some (n+8,0)),.int .i64 0,.mp (some (n+9)),.int .i64 0,.int .i64 64])=some (.cells true [.ptr (some (n+2,0)),.ptr (some (n+4,0)),.ptr (some (n+6,0)),.ptr (some (n+8,0)),.int .i64 0,.mp (some (n+9)),.int .i64 0,.int .i64 64],fun i=>.ptr (some (i,0))):=rfl
 have s6:Same [] g5 ((g5.new (.mp [])).new (.cells true [.ptr (some (n+2,0)),.ptr (some (n+4,0)),.ptr (some (n+6,0)),.ptr (some (n+8,0)),.int .i64 0,.mp (some (n+9)),.int .i64 0,.int .i64 64])):=(Same.new _ _).trans (Same.new _ _)
 have s26:=(s3.trans s4).trans s6
 have s46:=s4.trans s6
 refine ok_val (v:=.tup [.ptr (some (n+10,0)),.int .i64 0]) (g:=(g5.new (.mp [])).new (.cells true [.ptr (some (n+2,0)),.ptr (some (n+4,0)),.ptr (some (n+6,0)),.ptr (some (n+8,0)),.int .i64 0,.mp (some (n+9)),.int .i64 0,.int .i64 64])) (by simp -implicitDefEqProofs only [mk_some,n5,bc,Option.bind_some,yc,n6]) ⟨rfl,by show Heap.next _=_;rw [Heap.next_new,n6],(s1.trans s2).trans s26,A3.same s46 (by simp) (by simp) (by simp) (by simp) (by simp),(s26.get _ (by omega) (by simp)).trans p3,(s26.get _ (by omega) (by simp)).trans p4,(s6.get _ (by omega) (by simp)).trans p7,(s6.get _ (by omega) (by simp)).trans p8,?_,?_⟩
 ·show((g5.new (.mp [])).new _).get (n+9)=_
  rw [get_new_ne (by omega),← n5];exact get_new_eq
 ·show((g5.new (.mp [])).new _).get (n+10)=_
  rw [← n6];exact get_new_eq
theorem rnewc_ok {h:Heap}{N n:Nat}(h2:N≤512)(h1:8≤N)(hn:h.next=n) :
  Ok (Cq (.int .i64 N) h) fun r=>∃ rc a,r.1 = .ptr (some (a+3,0))∧r.2.next=a+4∧n<rc∧rc<a∧Same [] h r.2∧
   r.2.get n=some (.cells true [.sl (some (rc,0)) N (.un 1),.sl none 0 (.ex 0)])∧r.2.get rc=some (.cells true (wsC (List.replicate N (-1))))∧r.2.get (a+1)=some (.cells true [.ptr (some (n,0)),.sl (some (a,0)) N (.ex N)])∧r.2.get a=some (.cells true (unC (List.replicate N false)))∧
   r.2.get (a+2)=some (.cells true [.ptr (some (n,0)),.sl none 0 (.ex 0),.sl none 0 (.ex 0)])∧
   r.2.get (a+3)=some (.cells true [.ptr (some (n,0)),.ptr (some (a+1,0)),.ptr (some (a+2,0)),.int .i64 0,.sl none 0 (.ex 0),.int .i64 0,.int .i64 64]):=by
 refine Ok.eq ?_ (by unfold Cq;rfl)
 have rn:=rnew_ok (h:=h) N (by omega)
 rw [hn] at rn
 refine ok_cl rn ?_
 rintro _ g4 ⟨rfl,s4,n4',bb,vv,hg7,hv,hbb⟩
 simp only at s4 n4' hg7 hv
 obtain⟨rc,rfl⟩:∃ rc,bb=some rc:=by
  cases bb with
  | none=>have:=hv.nil rfl;omega
  | some rc=>exact⟨rc,rfl⟩
 have ev:vv = .sl (some (rc,0)) N (.un 1):=hv.eq
 subst ev
 obtain⟨q1,q2,_⟩:=hv.blk rc rfl
 have q3:=hbb rc rfl
 generalize ha:g4.next=a at *
 have l7:ldS g4 (.ptr (some (n,0)))=some (.sl (some (rc,0)) N (.un 1)):=by rw [ldS_at hg7];rfl
 have lnN:lnL (.sl (some (rc,0)) N (.un 1))=some (.int .i64 N):=by simp
 have m:=msP_ok 1 1 [AV.bool false] N (by omega) (by decide) rfl
 rw [rep_false] at m
 have hb8:bldS [(0,1),(1,1)] [AV.ptr none,AV.sl none 0 (.ex 0)] [(0,.ptr (some (n,0))),(1,.sl (some (a,0)) N (.ex N))]=some (.agg [.ptr (some (n,0)),.sl (some (a,0)) N (.ex N)]):=rfl
 have hx8:bxP (.agg [.ptr (some (n,0)),.sl (some (a,0)) N (.ex N)])=some (.cells true [.ptr (some (n,0)),.sl (some (a,0)) N (.ex N)],fun i=>.ptr (some (i,0))):=rfl
 have n7:(g4.new (.cells true (unC (List.replicate N false)))).next=a+1:=by rw [Heap.next_new,ha]
 have hna:Cp (.ptr (some (n,0))) g4=some (.ptr (some (a+1,0)),(g4.new (.cells true (unC (List.replicate N false)))).new (.cells true [.ptr (some (n,0)),.sl (some (a,0)) N (.ex N)])):=by
  simp -implicitDefEqProofs only [Cp,nilV_ptr,Option.bind_some,faP_ptr,Nat.zero_add,l7,lnN,m,mk_some,ha,hb8,hx8,n7]
 refine Ok.eq ?_ (by simp -implicitDefEqProofs only [hna,cl_some]<;>rfl)
 have s7:Same [] g4 ((g4.new (.cells true (unC (List.replicate N false)))).new (.cells true [.ptr (some (n,0)),.sl (some (a,0)) N (.ex N)])):=(Same.new _ _).trans (Same.new _ _)
 have n8:((g4.new (.cells true (unC (List.replicate N false)))).new (.cells true [.ptr (some (n,0)),.sl (some (a,0)) N (.ex N)])).next=a+2:=by rw [Heap.next_new,n7]
 have p8:((g4.new (.cells true (unC (List.replicate N false)))).new (.cells true [.ptr (some (n,0)),.sl (some (a,0)) N (.ex N)])).get a=some (.cells true (unC (List.replicate N false))):=by
  rw [get_new_ne (by omega),← ha];exact get_new_eq
 have p9:((g4.new (.cells true (unC (List.replicate N false)))).new (.cells true [.ptr (some (n,0)),.sl (some (a,0)) N (.ex N)])).get (a+1)=some (.cells true [.ptr (some (n,0)),.sl (some (a,0)) N (.ex N)]):=by
  rw [← n7];exact get_new_eq
 generalize (g4.new (.cells true (unC (List.replicate N false)))).new (.cells true [.ptr (some (n,0)),.sl (some (a,0)) N (.ex N)])=g8 at *
 have b4:bldS [(0,1),(1,1),(2,1)] [(AV.ptr none),(AV.sl none 0 (.ex 0)),(AV.sl none 0 (.ex 0))] [(0,.ptr (some (n,0)))]=some (.agg [.ptr (some (n,0)),.sl none 0 (.ex 0),.sl none 0 (.ex 0)]):=rfl
 have y4:bxP (.agg [.ptr (some (n,0)),.sl none 0 (.ex 0),.sl none 0 (.ex 0)])=some (.cells true [.ptr (some (n,0)),.sl none 0 (.ex 0),.sl none 0 (.ex 0)],fun i=>.ptr (some (i,0))):=rfl
 have b5:bldS [(0,1),(1,1),(2,1),(3,1),(4,1),(5,1),(6,1)] [(AV.ptr none),(AV.ptr none),(AV.ptr none),(AV.int .i64 0),(AV.sl none 0 (.ex 0)),(AV.int .i64 0),(AV.int .i64 0)] [(0,.ptr (some (n,0))),(1,.ptr (some (a+1,0))),(2,.ptr (some (a+2,0))),(6,(AV.int .i64 64))]=some (.agg [.ptr (some (n,0)),.ptr (some (a+1,0)),.ptr (some (a+2,0)),.int .i64 0,.sl none 0 (.ex 0),.int .i64 0,.int .i64 64]):=rfl
 have y5:bxP (.agg [.ptr (some (n,0)),.ptr (some (a+1,0)),.ptr (some (a+2,0)),.int .i64 0,.sl none 0 (.ex 0),.int .i64 0,.int .i64 64])=some (.cells true [.ptr (some (n,0)),.ptr (some (a+1,0)),.ptr (some (a+2,0)),.int .i64 0,.sl none 0 (.ex 0),.int .i64 0,.int .i64 64],fun i=>.ptr (some (i,0))):=rfl
 have n9:(g8.new (.cells true [.ptr (some (n,0)),.sl none 0 (.ex 0),.sl none 0 (.ex 0)])).next=a+3:=by rw [Heap.next_new,n8]
 have s9:Same [] g8 ((g8.new (.cells true [.ptr (some (n,0)),.sl none 0 (.ex 0),.sl none 0 (.ex 0)])).new (.cells true [.ptr (some (n,0)),.ptr (some (a+1,0)),.ptr (some (a+2,0)),.int .i64 0,.sl none 0 (.ex 0),.int .i64 0,.int .i64 64])):=(Same.new _ _).trans (Same.new _ _)
 have s49:=s7.trans s9
 refine ok_val (v:=.ptr (some (a+3,0))) (g:=(g8.new (.cells true [.ptr (some (n,0)),.sl none 0 (.ex 0),.sl none 0 (.ex 0)])).new (.cells true [.ptr (some (n,0)),.ptr (some (a+1,0)),.ptr (some (a+2,0)),.int .i64 0,.sl none 0 (.ex 0),.int .i64 0,.int .i64 64])) (by simp -implicitDefEqProofs only [b4,Option.bind_some,y4,mk_some,n8,b5,y5,n9]) ⟨rc,a,rfl,by show Heap.next _=_;rw [Heap.next_new,n9],q3,q1,s4.trans s49,(s49.get _ (by omega) (by simp)).trans hg7,(s49.get _ (by omega) (by simp)).trans q2,(s9.get _ (by omega) (by simp)).trans p9,(s9.get _ (by omega) (by simp)).trans p8,?_,?_⟩
 ·show((g8.new _).new _).get (a+2)=_
  rw [get_new_ne (by omega),← n8];exact get_new_eq
 ·show((g8.new _).new _).get (a+3)=_
  rw [← n9];exact get_new_eq
set_option linter.all false
attribute [local congr] c_bind c_cl c_mk c_lp c_clC c_gQ c_gV c_condE c_thenK
theorem rds_ok {g g0:Heap}{W:List Nat}{n a:Nat}(k:KpX W g0 g)(m10:n+10∈W)(m5:a+5∈W)(m3:a+3∈W)(l10:n+10<g0.next)(l5:a+5<g0.next)(l3:a+3<g0.next)
  {c1 c2 c3:List AV} (h1:g0.get (n+10)=some (.cells true c1)) (h2:g0.get (a+5)=some (.cells true c2)) (h3:g0.get (a+3)=some (.cells true c3)) {x y z:AV} (e1:c1[1]?=some x) (e2:c2[1]?=some y) (e3:c3[2]?=some z) :
  ldS g (.ptr (some (n+10,1)))=some x∧ldS g (.ptr (some (a+5,1)))=some y∧ldS g (.ptr (some (a+3,2)))=some z:=by
 rw [ldS_at ((k.get _ m10 l10).trans h1),ldS_at ((k.get _ m5 l5).trans h2),ldS_at ((k.get _ m3 l3).trans h3)]
 exact⟨e1,e2,e3⟩
theorem inW_of {n a:Nat}:inW n a (n+10)∧inW n a (n+9)∧inW n a (n+8)∧inW n a (n+7)∧inW n a (n+6)∧inW n a (n+5)∧inW n a (n+2)∧inW n a (n+1)∧inW n a n∧inW n a (a+3)∧inW n a (a+4)∧inW n a (a+5)∧inW n a (a+6):=by
 unfold inW;simp
theorem inW_no {n a:Nat}(h:n+12≤a) : ¬ inW n a (n+4)∧¬ inW n a (n+3):=by unfold inW;omega
theorem begun_ok {h:Heap}(ht:Tab0 h){N:Nat}(h1:8≤N)(h2:N≤512) :
  Ok (DW (.int .i64 N) h) fun r=>∃ C D K v,r.1 = .ptr (some (K 3,0))∧Wi r.2 C D K v (sc0 N) (sc0 N) hol0 sh7 (Zr h)∧KpX (Zr h) h r.2:=by
 have hn1:=ht.pos
 generalize hn:h.next=n at hn1
 refine Ok.eq ?_ (by unfold DW;rfl)
 refine ok_cl (cnew_ok h1 h2 hn) ?_
 rintro _ g1 ⟨rfl,n1,s1,A1,p3,p4,p7,p8,p9,p10⟩
 simp only at n1 s1 A1 p3 p4 p7 p8 p9 p10
 refine Ok.eq ?_ (by simp -implicitDefEqProofs only [extractV_tup,e0,e1,Option.bind_some,neq_int,decide_true,Bool.not_true,gdW_ff,gQ_true,cl_some,eql_ptr_nil,pickP_bool,Bool.false_eq_true,if_false,condE_false]<;>rfl)
 refine ok_cl (rnewc_ok h2 h1 n1) ?_
 rintro _ g2 ⟨rc,a,rfl,n2,hrc,hrca,s2,r7,rrc,ra4,ra3,ra0,q2⟩
 simp only at n2 s2 r7 rrc ra4 ra3 ra0 q2
 have bh:bldS [(0,1),(1,4),(5,4)] [(AV.sl none 0 (.ex 0)),(AV.sl none 0 (.ex 0)),(AV.sl none 0 (.ex 0)),(AV.sl none 0 (.ex 0)),(AV.sl none 0 (.ex 0)),(AV.bool false),(AV.bool false),(AV.bool false),(AV.bool false)] []=some (.agg [.sl none 0 (.ex 0),.sl none 0 (.ex 0),.sl none 0 (.ex 0),.sl none 0 (.ex 0),.sl none 0 (.ex 0),.bool false,.bool false,.bool false,.bool false]):=rfl
 have yh:bxP (.agg [.sl none 0 (.ex 0),.sl none 0 (.ex 0),.sl none 0 (.ex 0),.sl none 0 (.ex 0),.sl none 0 (.ex 0),.bool false,.bool false,.bool false,.bool false])=some (.cells true [.sl none 0 (.ex 0),.sl none 0 (.ex 0),.sl none 0 (.ex 0),.sl none 0 (.ex 0),.sl none 0 (.ex 0),.bool false,.bool false,.bool false,.bool false],fun i=>.ptr (some (i,0))):=rfl
 have s3:Same [] g2 (g2.new (.cells true [.sl none 0 (.ex 0),.sl none 0 (.ex 0),.sl none 0 (.ex 0),.sl none 0 (.ex 0),.sl none 0 (.ex 0),.bool false,.bool false,.bool false,.bool false])):=Same.new _ _
 have q4:(g2.new (.cells true [.sl none 0 (.ex 0),.sl none 0 (.ex 0),.sl none 0 (.ex 0),.sl none 0 (.ex 0),.sl none 0 (.ex 0),.bool false,.bool false,.bool false,.bool false])).get (a+4)=some (.cells true [.sl none 0 (.ex 0),.sl none 0 (.ex 0),.sl none 0 (.ex 0),.sl none 0 (.ex 0),.sl none 0 (.ex 0),.bool false,.bool false,.bool false,.bool false]):=by rw [← n2];exact get_new_eq
 have n3:(g2.new (.cells true [.sl none 0 (.ex 0),.sl none 0 (.ex 0),.sl none 0 (.ex 0),.sl none 0 (.ex 0),.sl none 0 (.ex 0),.bool false,.bool false,.bool false,.bool false])).next=a+5:=by rw [Heap.next_new,n2]
 refine Ok.eq ?_ (by simp -implicitDefEqProofs only [bh,yh,mk_some,Option.bind_some,n2]<;>rfl)
 try rw [n2]
 generalize g2.new (.cells true [.sl none 0 (.ex 0),.sl none 0 (.ex 0),.sl none 0 (.ex 0),.sl none 0 (.ex 0),.sl none 0 (.ex 0),.bool false,.bool false,.bool false,.bool false])=g3 at *
 have bp:bldS [(0,1),(1,1),(2,1),(3,1)] [(AV.ptr none),(AV.ptr none),(AV.ptr none),(AV.sl none 0 (.ex 0))] [(0,.ptr (some (n+10,0))),(1,.ptr (some (a+3,0))),(2,.ptr (some (a+4,0)))]=some (.agg [.ptr (some (n+10,0)),.ptr (some (a+3,0)),.ptr (some (a+4,0)),.sl none 0 (.ex 0)]):=rfl
 have yp:bxP (.agg [.ptr (some (n+10,0)),.ptr (some (a+3,0)),.ptr (some (a+4,0)),.sl none 0 (.ex 0)])=some (.cells true [.ptr (some (n+10,0)),.ptr (some (a+3,0)),.ptr (some (a+4,0)),.sl none 0 (.ex 0)],fun i=>.ptr (some (i,0))):=rfl
 have s4:Same [] g3 (g3.new (.cells true [.ptr (some (n+10,0)),.ptr (some (a+3,0)),.ptr (some (a+4,0)),.sl none 0 (.ex 0)])):=Same.new _ _
 have q5:(g3.new (.cells true [.ptr (some (n+10,0)),.ptr (some (a+3,0)),.ptr (some (a+4,0)),.sl none 0 (.ex 0)])).get (a+5)=some (.cells true [.ptr (some (n+10,0)),.ptr (some (a+3,0)),.ptr (some (a+4,0)),.sl none 0 (.ex 0)]):=by rw [← n3];exact get_new_eq
 have n4:(g3.new (.cells true [.ptr (some (n+10,0)),.ptr (some (a+3,0)),.ptr (some (a+4,0)),.sl none 0 (.ex 0)])).next=a+6:=by rw [Heap.next_new,n3]
 refine Ok.eq ?_ (by simp -implicitDefEqProofs only [bp,yp,mk_some,Option.bind_some]<;>rfl)
 try rw [n3]
 generalize g3.new (.cells true [.ptr (some (n+10,0)),.ptr (some (a+3,0)),.ptr (some (a+4,0)),.sl none 0 (.ex 0)])=g4 at *
 refine Ok.eq ?_ (by simp -implicitDefEqProofs only [shapes7,cl_some]<;>rfl)
 try rw [n4]
 have s5:Same [] g4 (g4.new (.cells true (shC sh7))):=Same.new _ _
 have q6:(g4.new (.cells true (shC sh7))).get (a+6)=some (.cells true (shC sh7)):=by rw [← n4];exact get_new_eq
 have n5:(g4.new (.cells true (shC sh7))).next=a+7:=by rw [Heap.next_new,n4]
 generalize g4.new (.cells true (shC sh7))=g9 at *
 have s35:=s4.trans s5
 have s25:=s3.trans s35
 have s15:=s2.trans s25
 have s05:=s1.trans s15
 obtain⟨D,d0,d1,d2,d3,d4⟩:∃ D:Nat→Nat,D 0=n+11∧D 1=rc∧D 2=a+1∧D 3=a∧D 4=a+2:=⟨mkD (n+11) rc (a+1) a (a+2),rfl,rfl,rfl,rfl,rfl⟩
 have h8:n+12≤a:=by omega
 have m3:=(s15.get (n+3) (by omega) (by simp)).trans p3
 have m4:=(s15.get (n+4) (by omega) (by simp)).trans p4
 have m7:=(s15.get (n+7) (by omega) (by simp)).trans p7
 have m8:=(s15.get (n+8) (by omega) (by simp)).trans p8
 have m9:=(s15.get (n+9) (by omega) (by simp)).trans p9
 have m10:=(s15.get (n+10) (by omega) (by simp)).trans p10
 have t7:=(s25.get (n+11) (by omega) (by simp)).trans r7
 have trc:=(s25.get rc (by omega) (by simp)).trans rrc
 have t4:=(s25.get (a+1) (by omega) (by simp)).trans ra4
 have t3:=(s25.get a (by omega) (by simp)).trans ra3
 have t0:=(s25.get (a+2) (by omega) (by simp)).trans ra0
 have tq2:=(s25.get (a+3) (by omega) (by simp)).trans q2
 have tq4:=(s35.get (a+4) (by omega) (by simp)).trans q4
 have tq5:=(s5.get (a+5) (by omega) (by simp)).trans q5
 have A9:=A1.same s15 (by simp) (by simp) (by simp) (by simp) (by simp)
 have tA:TbAt g9 (n+4) (n+3) none []:=⟨⟨_,m4,SlB.mt⟩,m3,by omega,by omega,by omega,by simp,by simp,by simp,by simp,by simp⟩
 have rk:=rk_made (h:=h) (g9:=g9) (N:=N) (n:=n) (a:=a) (rc:=rc) (D:=D) hn1 hn h2 h8 hrc hrca n5 d0 d1 d2 d3 d4 t7 trc t4 t3 t0
 have mem:=fun j=>memWl (h:=h) (n:=n) (a:=a) hn j
 obtain⟨i10,i9,i8,i7,i6,i5,i2,i1,i0,j3,j4,j5,j6⟩:=inW_of (n:=n) (a:=a)
 obtain⟨no4,no3⟩:=inW_no (n:=n) (a:=a) h8
 have z0:0∈Wl h n a:=(mem 0).2 (by unfold inW;omega)
 have lp:=num_loop (W:=Wl h n a) (tb:=n+4) (nm:=n+3) (sx:=a+6) (k0:=n+10) (k2:=a+3) (k3:=a+5) (fun g k=>by
  rw [d4]
  exact rds_ok k ((mem _).2 i10) ((mem _).2 j5) ((mem _).2 j3) (by omega) (by omega) (by omega) m10 tq5 tq2 rfl rfl rfl)
  ⟨fun hm=>no4 ((mem _).1 hm),fun hm=>no3 ((mem _).1 hm)⟩ ((mem _).2 j6) q6 (by omega) z0 tA rk
 refine ok_lp lp ?_
 rintro _ vs g10 ⟨rfl,bt,bT,tA,rk,k10,hbt1,hbt2⟩
 simp only at tA rk k10 hbt2
 have kp:∀ j,inW n a j→j<a+7→g10.get j=g9.get j:=fun j hj hl=>k10.get j ((mem j).2 hj) (by omega)
 have A10:=A9.same k10.frame (not_out ((mem _).2 i6)) (not_out ((mem _).2 i5)) (not_out ((mem _).2 i2)) (not_out ((mem _).2 i0)) (not_out ((mem _).2 i1))
 have T10:=(ht.same s05 (by simp)).same k10.frame (not_out z0)
 obtain⟨C,K,v,k3,W⟩:=wi_made (rc:=rc) (g10:=g10) (bt:=bt) (bT:=bT) hn1 hn h2 h8 (by omega) hbt2 d0 d2 d4 ((kp _ i8 (by omega)).trans m8) ((kp _ i7 (by omega)).trans m7) A10 T10 tA rk ((kp _ i10 (by omega)).trans m10) ((kp _ i9 (by omega)).trans m9) ((kp _ j3 (by omega)).trans tq2) ((kp _ j5 (by omega)).trans tq5) ((kp _ j4 (by omega)).trans tq4)
 exact ok_val (v:=.ptr (some (a+5,0))) (g:=g10) rfl ⟨C,D,K,v,by rw [k3],W,(KpX.same s05).trans (k10.sub fun j hj=>(mem j).2 (by simp only [Zr,List.mem_range,hn] at hj;unfold inW;omega))⟩
end Go.Ab.F
