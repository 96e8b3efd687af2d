import Derived.Test.YtlkhjkbepijegaaGreatDoorYct
import Derived.Test.YtlkhjkbepijegaaGreatDoorYcd
namespace Go.Ab.F
open Go Go.Ab
set_option linter.all false
set_option linter.all false
structure Bd (m n:Nat)(p:SC)(h:SH):Prop where
 L:∀ i,(h.L i).length≤m
 ms:h.ms.length≤m
 gq:p.gq.length≤n
theorem Bd.mono {m n m' n':Nat}{p:SC}{h:SH}(B:Bd m n p h)(h1:m≤m')(h2:n≤n'):Bd m' n' p h:=⟨fun i=>Nat.le_trans (B.L i) h1,Nat.le_trans B.ms h1,Nat.le_trans B.gq h2⟩
theorem stk_lenB {h:SH}{m:Nat}(H:∀ i,(h.L i).length≤m)(id:Int):(stk h id).length≤m:=by
 unfold stk;split
 ·exact H _
 ·simp
theorem scan_gq {p:SC}{h:SH}{m:Nat}(H:∀ i,(h.L i).length≤m)(id:Int):(p.scan h id).2.gq.length≤p.gq.length+m:=by
 unfold SC.scan
 split
 ·have h1:=shade_len p (stk h id)
  have h2:=stk_lenB H id
  show(p.shade (stk h id)).gq.length≤_
  omega
 ·exact Nat.le_add_right _ _
theorem start_gq {p:SC}{h:SH}{m:Nat}(H:∀ i,(h.L i).length≤m):(p.start h).2.gq.length≤p.gq.length+m:=by
 unfold SC.start
 split
 ·have h1:=shade_len ⟨⟨p.l.ar.clear,p.l.un⟩,p.gq,1,[],p.dn⟩ (h.L 0)
  have h2:=H 0
  exact Nat.le_trans h1 (by simp only;omega)
 ·exact Nat.le_add_right _ _
theorem step_gq {p:SC}{h:SH}{m:Nat}(H:∀ i,(h.L i).length≤m):(p.step sh7 h).2.gq.length≤p.gq.length+m+64:=by
 unfold SC.step
 by_cases h1:p.ph=1
 ·rw [if_pos h1]
  cases p.wh h with
  | nil=>show p.gq.length≤_;omega
  | cons id l=>exact Nat.le_trans (scan_gq H id) (by omega)
 ·rw [if_neg h1]
  by_cases h2:p.ph=2
  ·rw [if_pos h2]
   cases hq:p.gq with
   | cons x q=>
    have h3:=shade_len ⟨p.l,q,p.ph,p.bl,p.dn⟩ (fieldsL sh7 p.l.ar x)
    have h4:=fieldsL_len sh7 p.l.ar x
    refine Nat.le_trans h3 ?_
    simp only [List.length_cons]
    omega
   | nil=>
    cases p.wh h with
    | nil=>simp
    | cons id l=>show p.gq.length≤_;rw [hq];simp
  ·rw [if_neg h2]
   by_cases h3:p.ph=3
   ·rw [if_pos h3]
    unfold SC.swept
    split<;>(show p.gq.length≤_;omega)
   ·rw [if_neg h3];show p.gq.length≤_;omega
theorem barrier_gq (p:SC)(o b id:Int):(p.barrier o b id).gq.length≤p.gq.length+2:=by
 unfold SC.barrier
 split
 ·split
  ·exact Nat.le_trans (shade_len p [o]) (by simp)
  ·exact shade_len p [o,b]
 ·exact Nat.le_add_right _ _
theorem upd_len {L:Nat→List Int}{m k:Nat}{X:List Int}(H:∀ i,(L i).length≤m)(hX:X.length≤m+1)(i:Nat):(upd L k X i).length≤m+1:=by
 by_cases e:i=k
 ·subst e;rw [upd_eq];exact hX
 ·rw [upd_ne _ _ e];exact Nat.le_succ_of_le (H i)
theorem Bd.set {m n:Nat}{p q:SC}{h:SH}(B:Bd m n p h){k:Nat}{X:List Int}(hX:X.length≤m+1){n':Nat}(hq:q.gq.length≤n'):Bd (m+1) n' q (h.set k X):=⟨upd_len B.L hX,Nat.le_succ_of_le B.ms,hq⟩
theorem act_bd {m n:Nat}{p:SC}{h:SH}(I:TI p h)(B:Bd m n p h)(x:Ac):Bd (m+1) (n+m+64) (act sh7 p p h x).2.1 (act sh7 p p h x).2.2.2:=by
 have hq:=B.gq
 have same:Bd (m+1) (n+m+64) p h:=B.mono (Nat.le_succ _) (by omega)
 have keep:∀ q:SC,q.gq.length≤n+m+64→Bd (m+1) (n+m+64) q h:=fun q hq=>⟨fun i=>Nat.le_succ_of_le (B.L i),Nat.le_succ_of_le B.ms,hq⟩
 unfold act
 split
 ·unfold takA
  have tq:∀ n',(p.take n').2.gq=p.gq:=fun n'=>by unfold SC.take;simp only;split<;>rfl
  split
  ·exact same
  split
  ·exact keep _ (by rw [tq];omega)
  split
  ·exact keep _ (by rw [tq];omega)
  ·refine⟨upd_len B.L (by rw [List.length_append];have:=B.L ((x.id % 4).toNat+1);simp;omega),by show(h.ms ++ [_]).length≤_;rw [List.length_append];have:=B.ms;simp;omega,?_⟩
   show(p.take (sizeT x.sh x.wd)).2.gq.length≤_
   rw [tq];omega
 split
 ·exact keep _ (Nat.le_trans (start_gq B.L) (by omega))
 split
 ·exact keep _ (Nat.le_trans (step_gq B.L) (by omega))
 split
 ·exact keep _ (Nat.le_trans (scan_gq B.L x.id) (by omega))
 split
 ·have hk:(x.id % 4).toNat < 4:=by omega
  generalize (x.id % 4).toNat=k at *
  unfold wrF
  split
  ·exact same
  split
  ·exact same
  split
  ·exact same
  split
  ·exact same
  split
  ·exact same
  split
  ·split
   ·exact same
   ·exact B.set (by rw [List.length_append];have:=B.L (k+1);simp;omega) (by show p.gq.length≤_;omega)
  ·exact keep _ (Nat.le_trans (barrier_gq p _ _ _) (by omega))
 split
 ·unfold dropA
  simp only
  split
  ·exact B.set (by rw [List.length_drop];have:=B.L ((x.id % 4).toNat+1);omega) (by omega)
  ·exact same
 split
 ·unfold globA
  split
  ·exact same
  split
  ·exact B.set (by rw [List.length_append,List.length_drop];have:=B.L 0;simp;omega) (Nat.le_trans (barrier_gq p _ _ _) (by omega))
  ·exact B.set (by rw [List.length_append];have:=B.L 0;simp;omega) (Nat.le_trans (barrier_gq p _ _ _) (by omega))
 split
 ·unfold bornA
  split
  ·refine⟨upd_len B.L (by simp),Nat.le_succ_of_le B.ms,?_⟩
   show p.gq.length≤_;omega
  ·refine⟨fun i=>Nat.le_succ_of_le (B.L i),Nat.le_succ_of_le B.ms,?_⟩
   show(p.born _).gq.length≤_
   have:∀ id,(p.born id).gq=p.gq:=fun id=>by unfold SC.born;split<;>rfl
   rw [this];omega
 split
 ·exact⟨fun i=>Nat.le_succ_of_le (B.L i),Nat.le_succ_of_le B.ms,by show p.gq.length≤_;omega⟩
 split
 ·refine keep _ ?_
  have:=(I.whole).gq (by rw [whole_ph I.ph];rfl)
  show(p.whole sh7 h).gq.length≤_
  rw [this];simp
 ·exact same
theorem nodup_le:∀ {a b:List Int},a.Nodup→(∀ x∈a,x∈b)→a.length≤b.length
 | [],b,_,_=>Nat.zero_le _
 | x::a,b,hn,hs=>by
  rw [List.nodup_cons] at hn
  have hx:=hs x (by simp)
  have:=nodup_le (a:=a) (b:=b.erase x) hn.2 fun y hy=>(List.mem_erase_of_ne (fun(e:y=x)=>hn.1 (by rw [← e];exact hy))).2 (hs y (by simp [hy]))
  rw [List.length_erase_of_mem hx] at this
  have:0<b.length:=List.length_pos_of_mem hx
  simp only [List.length_cons]
  omega
theorem bl_len {p:SC}{h:SH}(I:TI p h):p.bl.length≤4:=Nat.le_trans (nodup_le I.nd I.bi) (ids_len h)
theorem TI.sz {m n : Nat} {p : SC} {h : SH} (I : TI p h) (B : Bd m n p h) (hm : m ≤ 2 ^ 20) (hn : n ≤ 2 ^ 27) : Sz3 p p h := by
  have hb := bl_len I
  have hq := B.gq
  exact
    { sm := fun i hi => Nat.le_trans (B.L i) hm
      qp := by omega
      qr := by omega
      bp := by omega
      br := by omega
      up := I.u0
      ur := I.u0
      le := I.n1
      php := I.ph
      phr := I.ph
      nd := I.nd
      ms := Nat.le_trans B.ms hm
      wf := fun i hi y hy => held_wf64 I ⟨i, hi, hy⟩ }
theorem ti_start {N : Nat} (h1 : 8 ≤ N) (h2 : N ≤ 512) : TI (sc0 N) hol0 := by
  have hf := find_new N
  have hu : ∀ m, (sc0 N).l.u m = false := fun m => by
    show ((List.replicate N false)[m.toNat]?).getD false = false
    cases h : (List.replicate N false)[m.toNat]? with
    | none => rfl
    | some b => exact List.eq_of_mem_replicate (List.mem_of_getElem? h)
  have hG : ∀ x, ¬ Gs hol0 x := fun x ⟨i, _, hx⟩ => by cases hx
  have hR : ∀ x, ¬ Rd_ (newA N) hol0 x := fun x hx => by
    induction hx with
    | root h _ => exact hG _ h
    | step _ _ _ ih => exact ih
  exact
    { lv := ⟨(rel_new N h2).wf, fun x hx => absurd (hf x) hx⟩
      ul := by simp [sc0, newA]
      u0 := hu 0
      n1 := by show 1 ≤ (List.replicate N false).length; simp; omega
      on := fun i _ _ => rfl
      bi := fun id hid => by cases hid
      nd := List.nodup_nil
      ph := by unfold PhOk sc0; simp
      gq := fun _ => rfl
      un := fun _ => hu
      gf := fun x hx => absurd hx (hG x)
      cl := fun x hx => absurd hx (hR x)
      tc := fun hh => by simp [sc0, sh0] at hh
      sw := fun hh => by simp [sc0] at hh }
theorem bd_start (N:Nat):Bd 0 0 (sc0 N) hol0:=⟨fun i=>Nat.le_refl _,Nat.le_refl _,Nat.le_refl _⟩
set_option linter.all false
attribute [local congr] c_bind c_cl c_mk c_lp c_clC c_gQ c_gV c_condE c_thenK
def AcsRd (h:Heap)(v:AV)(xs:List Ac):Prop:=∃ rows,RwC h 9 v rows∧rows.length=xs.length∧∀ (i:Nat) r x,rows[i]?=some r→xs[i]?=some x→∃ sv,r=x.row sv∧scalar sv=true
theorem AcsRd.mono {h h':Heap}{v:AV}{xs:List Ac}(H:AcsRd h v xs)(hn:h.next≤h'.next)(hg:∀ j,j<h.next→h'.get j=h.get j):AcsRd h' v xs:=by
 obtain⟨rows,h1,h2,h3⟩:=H
 exact⟨rows,h1.mono hn hg,h2,h3⟩
theorem kp_mono {h g:Heap}{Z:List Nat}(k:KpX Z h g)(hZ:∀ j,j<h.next→j∈Z):h.next≤g.next∧∀ j,j<h.next→g.get j=h.get j:=⟨k.next,fun j hj=>k.get j (hZ j hj) hj⟩
theorem AcsRd.kp {h g:Heap}{v:AV}{xs:List Ac}(H:AcsRd h v xs)(k:KpX (Zr h) h g):AcsRd g v xs:=by
 obtain⟨m1,m2⟩:=kp_mono k (fun j hj=>by simp only [Zr,List.mem_range];exact hj)
 exact H.mono m1 m2
theorem AcsRd.lnL {h:Heap}{v:AV}{xs:List Ac}(H:AcsRd h v xs):Go.Ab.lnL v=some (.int .i64 xs.length):=by
 obtain⟨rows,h1,h2,_⟩:=H
 rw [← h2];exact h1.lnL
theorem AcsRd.at {h:Heap}{v:AV}{xs:List Ac}(H:AcsRd h v xs){i:Nat}{x:Ac}(hx:xs[i]?=some x):∃ sv b o,(∀ k,iaS 9 v (.int k (i:Int))=some (.ptr (some (b,o))))∧ldA 9 h (.ptr (some (b,o)))=some (.agg (x.row sv))∧scalar sv=true∧ldS h (.ptr (some (b,o)))=some (.int .i64 x.op):=by
 obtain⟨rows,h1,h2,h3⟩:=H
 obtain⟨r,hr⟩:∃ r,rows[i]?=some r:=⟨_,List.getElem?_eq_getElem (by rw [h2];exact(List.getElem?_eq_some_iff.1 hx).1)⟩
 obtain⟨sv,rfl,hs⟩:=h3 i r x hr hx
 obtain⟨b,o,_,ix,la,ls⟩:=h1.at hr
 exact⟨sv,b,o,ix,la,hs,ls 0 _ rfl⟩
abbrev tyAc:Ty:=.st [.int .i64,.int .i64,.int .i64,.int .i64,.int .i64,.int .i64,.st [.int .i64,.int .i64,.sl (.int .i64)]]
theorem rep_ac {h:Heap}{x:D}{r:List AV}(hlr:r.length=9)(H:Rep h tyAc x r):∃ a sv,r=Ac.row a sv∧scalar sv=true:=by
 cases x<;>simp only [Rep] at H
 rename_i ys
 rcases r with _ | ⟨r0,_ | ⟨r1,_ | ⟨r2,_ | ⟨r3,_ | ⟨r4,_ | ⟨r5,_ | ⟨r6,_ | ⟨r7,_ | ⟨r8,_ | ⟨r9,r⟩⟩⟩⟩⟩⟩⟩⟩⟩⟩<;>simp at hlr
 rcases ys with _ | ⟨y0,_ | ⟨y1,_ | ⟨y2,_ | ⟨y3,_ | ⟨y4,_ | ⟨y5,_ | ⟨y6,_ | ⟨y7,ys⟩⟩⟩⟩⟩⟩⟩⟩<;>simp only [Reps,and_false] at H
 simp only [Ty.size,List.take_succ_cons,List.take_zero,List.drop_succ_cons,List.drop_zero] at H
 obtain⟨t0,t1,t2,t3,t4,t5,t6,_⟩:=H
 cases y0<;>simp only [Rep] at t0
 cases y1<;>simp only [Rep] at t1
 cases y2<;>simp only [Rep] at t2
 cases y3<;>simp only [Rep] at t3
 cases y4<;>simp only [Rep] at t4
 cases y5<;>simp only [Rep] at t5
 cases y6<;>simp only [Rep] at t6
 simp only [List.cons.injEq,and_true] at t0 t1 t2 t3 t4 t5
 rename_i zs
 rcases zs with _ | ⟨z0,_ | ⟨z1,_ | ⟨z2,_ | ⟨z3,zs⟩⟩⟩⟩<;>simp [Reps,Ty.sizes,Ty.size] at t6
 obtain⟨u0,u1,u2⟩:=t6
 cases z0<;>simp only [Rep] at u0
 cases z1<;>simp only [Rep] at u1
 simp only [List.cons.injEq,and_true] at u0 u1
 have u2':Rep h (.sl (.int .i64)) z2 [r8]:=by simpa using u2
 obtain⟨to,k1,_,_⟩:=rd_ints u2'
 obtain⟨t0,_⟩:=t0
 obtain⟨t1,_⟩:=t1
 obtain⟨t2,_⟩:=t2
 obtain⟨t3,_⟩:=t3
 obtain⟨t4,_⟩:=t4
 obtain⟨t5,_⟩:=t5
 obtain⟨u0,_⟩:=u0
 obtain⟨u1,_⟩:=u1
 subst t0 t1 t2 t3 t4 t5 u0 u1
 first
 | exact⟨⟨_,_,_,_,_,_,_,_⟩,r8,rfl,k1.w.sc⟩
theorem rd_acs {h:Heap}{x:D}{vs:List AV}(H:Rep h (.sl tyAc) x vs):∃ xs,AcsRd h (argAV (.sl tyAc) vs) xs:=by
 obtain⟨rows,h1,h2⟩:=rd_rows H
 have hs:Ty.size tyAc=9:=rfl
 rw [hs] at h1
 have:∀ l:List (List AV),(∀ r∈l,r.length=9∧∃ y,Rep h tyAc y r)→∃ fs:List Ac,l.length=fs.length∧∀ (i:Nat) r f,l[i]?=some r→fs[i]?=some f→∃ sv,r=Ac.row f sv∧scalar sv=true:=by
  intro l
  induction l with
  | nil=>intro _;exact⟨[],rfl,by simp⟩
  | cons r l ih=>
   intro H
   obtain⟨fs,e1,e2⟩:=ih fun r' hr=>H r' (List.mem_cons_of_mem _ hr)
   obtain⟨hl,y,hy⟩:=H r (List.mem_cons_self ..)
   obtain⟨f,sv,hf⟩:=rep_ac hl hy
   refine⟨f::fs,by simp [e1],fun i r' f' hr hf'=>?_⟩
   cases i with
   | zero=>simp at hr hf';subst hr;subst hf';exact⟨sv,hf⟩
   | succ i=>exact e2 i r' f' (by simpa using hr) (by simpa using hf')
 obtain⟨fs,e1,e2⟩:=this rows fun r hr=>⟨h1.rows hr,h2 r hr⟩
 exact⟨fs,⟨rows,h1,e1,e2⟩⟩
set_option linter.all false
attribute [local congr] c_bind c_cl c_mk c_lp c_clC c_gQ c_gV c_condE c_thenK
structure Pw (h0 g:Heap)(C D K:Nat→Nat)(i n:Nat)(p:SC)(h:SH):Prop where
 W:∃ v,Wi g C D K v p p h sh7 (Zr h0)
 k:KpX (Zr h0) h0 g
 I:TI p h
 B:Bd i n p h
section
variable {h0 g:Heap}{C D K:Nat→Nat}{i n:Nat}{p:SC}{h:SH}
theorem Pw.act (P:Pw h0 g C D K i n p h)(hi:i≤2 ^ 20)(hn:n≤2 ^ 27)(a:Ac){sv:AV}(hsv:scalar sv=true) :
  Ok (AA (.ptr (some (K 3,0))) (.agg (a.row sv)) g) fun s=>s.1 = .bool true∧Pw h0 s.2 C D K (i+1) (n+i+64) (act sh7 p p h a).2.1 (act sh7 p p h a).2.2.2:=by
 obtain⟨v,W⟩:=P.W
 have S:=P.I.sz P.B hi hn
 have hq:=P.B.gq
 obtain⟨e1,e2,e3⟩:=act_ti P.I a
 refine Ok.mono (act_ok W S (by omega) (by omega) a hsv) ?_
 rintro s ⟨h1,v',W',k'⟩
 rw [e1] at h1
 rw [← e2] at W'
 exact⟨h1,⟨v',W'⟩,P.k.trans k',e3,act_bd P.I P.B a⟩
end
set_option linter.all false
attribute [local congr] c_bind c_cl c_mk c_lp c_clC c_gQ c_gV c_condE c_thenK
section
variable {g:Heap}{C D K:Nat→Nat}{v:Vb}{p r:SC}{h:SH}{T:List Shp}{Z:List Nat}
end
end Go.Ab.F
