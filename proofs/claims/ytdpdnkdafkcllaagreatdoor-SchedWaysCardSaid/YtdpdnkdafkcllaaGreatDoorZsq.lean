import Derived.Test.YtdpdnkdafkcllaaGreatDoorZsa
namespace Go.Ab.F
open Go Go.Ab
set_option linter.all false
set_option linter.all false
attribute [local congr] c_bind c_cl c_mk c_lp c_clC c_gQ c_gV c_condE c_thenK
structure Go3 where
 fn:Int
 a:Int
 b:Int
def Go3.row (x:Go3):List AV:=[.int .i64 x.fn,.int .i64 x.a,.int .i64 x.b]
def GosRd (h:Heap)(v:AV)(xs:List Go3):Prop:=RwC h 3 v (xs.map Go3.row)
theorem rep_go {h:Heap}{x:D}{r:List AV}(H:Rep h (.st (List.replicate 3 (.int .i64))) x r):∃ i:Go3,True∧r=i.row:=by
 cases x<;>simp only [Rep] at H
 obtain⟨l,hl,rfl,hw⟩:=reps_ints 3 H
 rcases l with _ | ⟨a,_ | ⟨b,_ | ⟨c,_ | ⟨d,l⟩⟩⟩⟩<;>simp at hl
 exact⟨⟨a,b,c⟩,trivial,rfl⟩
theorem rd_gos {h:Heap}{x:D}{vs:List AV}(H:Rep h (.sl (.st (List.replicate 3 (.int .i64)))) x vs):∃ xs,GosRd h (argAV (.sl (.st (List.replicate 3 (.int .i64)))) vs) xs:=by
 obtain⟨rows,c1,c2⟩:=rd_rows H
 obtain⟨xs,_,rfl⟩:=all_rows Go3.row (fun _=>True) (fun H=>rep_go H) c2
 exact⟨xs,c1⟩
theorem GosRd.keep {h g:Heap}{v:AV}{xs:List Go3}(H:GosRd h v xs)(hn:h.next≤g.next)(hg:∀ j,j<h.next→g.get j=h.get j):GosRd g v xs:=RwC.mono H hn hg
theorem GosRd.lnL {h:Heap}{v:AV}{xs:List Go3}(H:GosRd h v xs):Go.Ab.lnL v=some (.int .i64 xs.length):=by have:=RwC.lnL H;rwa [List.length_map] at this
theorem GosRd.at_ {h:Heap}{v:AV}{xs:List Go3}(H:GosRd h v xs){i:Nat}{x:Go3}(hx:xs[i]?=some x):∃ b o,b<h.next∧(∀ k,iaS 3 v (.int k (i:Int))=some (.ptr (some (b,o))))∧ldA 3 h (.ptr (some (b,o)))=some (.agg x.row)∧∀ (f:Nat) y,x.row[f]?=some y→ldS h (.ptr (some (b,o+f)))=some y:=
 RwC.at H (by rw [List.getElem?_map,hx];rfl)
section
variable {g0 g:Heap}{A:Nat→Nat}{ph tb mp:Nat}{sv cv fv:AV}{cs:CnL}{q:AV}{b bh:Option Nat}{gs:List Gk}{ss:List Nat}{l:PAl}
end
set_option linter.all false
attribute [local congr] c_bind c_cl c_mk c_lp c_clC c_gQ c_gV c_condE c_thenK
theorem adL_at {h:Heap}{b:Option Nat}{q:AV}{cs:CnL}(V:Vw h b 1 q (adL cs)){i:Nat}{c:Int}(hc:(cs[i]?).map Prod.fst=some c){n:Int}(hn:n=(i:Int)):∃ p,iaS 1 q (.int .i64 n)=some (.ptr (some p))∧ldS h (.ptr (some p))=some (.int .i64 c):=by
 obtain⟨x,hx,rfl⟩:=Option.map_eq_some_iff.1 hc
 obtain⟨p,o,_,_,ixp,_,lp⟩:=V.at (i:=i) (r:=[AV.int .i64 x.1]) (by simp only [adL,List.getElem?_map,hx];rfl)
 subst hn
 exact⟨(p,o),ixp .i64,lp 0 _ h rfl rfl⟩
section
variable {g:Heap}{tb mp:Nat}{sv cv fv:AV}{cs:CnL}{q:AV}{b:Option Nat}
end
set_option linter.all false
attribute [local congr] c_bind c_cl c_mk c_lp c_clC c_gQ c_gV c_condE c_thenK
set_option linter.all false
attribute [local congr] c_bind c_cl c_mk c_lp c_clC c_gQ c_gV c_condE c_thenK
section
variable {g:Heap}{tb mp:Nat}{sv cv fv:AV}{gs:List Gk}{ss:List Nat}{A:Nat→Nat}{l:PAl}{F:Int}{st:Int→Option Chan}
end
set_option linter.all false
attribute [local congr] c_bind c_cl c_mk c_lp c_clC c_gQ c_gV c_condE c_thenK
theorem sh16_nd:sh16.Nodup:=by decide
theorem sh16_good:∀ s∈sh16,goodB s=true:=by decide
theorem start16 {R:Type}{h:Heap}(ht:Tab0 h){N:Nat}(h1:8≤N)(h2:N≤512){D:Heap→Option R}{K:AV→AV→Heap→Option R}{Q:R→Prop}
  (hk:∀ (A:Nat→Nat) ph g,Cw g g A ph N [] (.sl none 0 (.ex 0)) none none→Same [] h g→(∀ i,i < 11→h.next≤A i∧A i<g.next∧A i≠ph)→h.next≤ph→ph<g.next→Ok (K (.ptr (some (A 0,0))) (.ptr (some (ph,0))) g) Q) :
  Ok (cl (Ap h) fun t26 h1=>(fvS 0 t26).bind fun t27=>cl (Cd (AV.int .i64 (N:Int)) t27 h1) fun t28 h2=>(extractV 0 t28).bind fun t29=>(extractV 1 t28).bind fun t30=>(eqP (some (.int .i64)) none false .neq t30 (AV.int .i64 0)).bind fun t32=>condE t32 (D h2) ((bldS [(0,1)] [(AV.sl none 0 (.ex 0))] []).bind fun t33=>mk Heap.new (bxP t33) h2 fun t34 h3=>K t29 t34 h3)) Q:=by
 refine ok_cl (module_ok h) ?_
 rintro _ g1 ⟨sv,cv,fv,rfl,M,s1⟩
 simp only at M s1
 obtain⟨b,rfl,hb,hbl⟩:=M.sh
 refine Ok.eq ?_ (by rw [show fvS 0 (.agg (mdC (.sl (some (b,0)) 1 (.ex 1)) cv fv))=some (.sl (some (b,0)) 1 (.ex 1)) from rfl,Option.bind_some])
 refine ok_cl (hnew_ok (h:=g1) (N:=N) (T:=sh16) h1 h2 (ht.same s1 (by simp)) hb hbl (by decide) (by decide) sh16_nd sh16_good) ?_
 rintro _ g2 ⟨A,rfl,H2,s2,hA⟩
 simp only at H2 s2
 have bn:bldS [(0,1)] [(AV.sl none 0 (.ex 0))] []=some (.agg [.sl none 0 (.ex 0)]):=rfl
 have xn:bxP (.agg [.sl none 0 (.ex 0)])=some (.cells true [.sl none 0 (.ex 0)],fun i=>.ptr (some (i,0))):=rfl
 obtain⟨g3,e3⟩:∃ g3,g3=g2.new (.cells true [.sl none 0 (.ex 0)]):=⟨_,rfl⟩
 have s3:Same [] g2 g3:=by rw [e3];exact Same.new _ _
 have b3:g3.get g2.next=some (.cells true [.sl none 0 (.ex 0)]):=by rw [e3];exact get_new_eq
 have n3:g3.next=g2.next+1:=by rw [e3];rfl
 have H3:=H2.keep s3
 refine Ok.eq ?_ (by simp -implicitDefEqProofs only [extractV_tup,e0,e1,Option.bind_some,neq_int,decide_true,Bool.not_true,condE_false,bn,xn,mk_some,← e3]<;>rfl)
 have hlen:(newA N).sp.length=N:=by show(List.replicate N _).length=N;rw [List.length_replicate]
 have n1:=s1.next
 have n2:=s2.next
 refine hk A g2.next g3 ⟨⟨_,H3,chl_mt _,by show(newA N).used≤0;rw [used_new];exact Nat.le_refl _,hlen⟩,SlB.mt,⟨_,b3,SlB.mt⟩,by simp,by simp,by simp,Same.refl _ _⟩ ((s1.trans s2).trans s3) (fun i hi=>?_) (by omega) (by omega)
 have:=hA i hi
 have:=H2.lt i hi
 omega
section
end
end Go.Ab.F
