import Derived.Test.YtdmgkkcjnmmfmaaGreatVlb
namespace Go.Ab.F
open Go Go.Ab
set_option linter.all false
set_option linter.all false
attribute [local congr] BD Dx D5 D8 Bs D2 Dw Au Av
theorem Rj {h:Heap}{x:D}{r:List AV}(H:Rep h shTy x r):∃ s:Shp,s.wf∧r=s.row:=by
 cases x<;>simp only [shTy,Rep] at H
 rename_i ys
 rcases ys with _ | ⟨y0,_ | ⟨y1,_ | ⟨y2,_ | ⟨y3,ys⟩⟩⟩⟩<;>simp only [Reps,and_false] at H
 obtain⟨t0,t1,t2,t3⟩:=H
 cases y0<;>simp only [Rep] at t0
 cases y1<;>simp only [Rep] at t1
 cases y2<;>simp only [Rep] at t2
 rename_i a b c
 have hc:=Ni t2.2
 refine⟨⟨a,b,BitVec.ofNat 64 c.toNat⟩,⟨t0.2,t1.2⟩,?_⟩
 have e:(((BitVec.ofNat 64 c.toNat).toNat:Nat):Int)=c:=by rw [BitVec.toNat_ofNat];omega
 show r = [.int .i64 a,.int .i64 b,.int .u64 (((BitVec.ofNat 64 c.toNat).toNat:Nat):Int)]
 rw [e,← List.take_append_drop (Ty.size (.int .i64)) r,t0.1,← List.take_append_drop (Ty.size (.int .i64)) (List.drop _ r),t1.1,← List.take_append_drop (Ty.size (.int .u64)) (List.drop _ (List.drop _ r)),t2.1,t3];rfl
theorem Q1 {h:Heap}{x:D}{vs:List AV}(hl:vs.length=6)(H:Rep h mdTy x vs):∃ m,MdRd h (argAV mdTy vs) m∧∃ shs:List Shp,m.shapes=shs.map Shp.row∧∀ s∈shs,s.wf:=by
 cases x<;>simp only [mdTy,Rep] at H
 rename_i ys
 rcases vs with _ | ⟨r0,_ | ⟨r1,_ | ⟨r2,_ | ⟨r3,_ | ⟨r4,_ | ⟨r5,_ | ⟨r6,r⟩⟩⟩⟩⟩⟩⟩<;>simp at hl
 rcases ys with _ | ⟨y0,_ | ⟨y1,_ | ⟨y2,_ | ⟨y3,_ | ⟨y4,_ | ⟨y5,_ | ⟨y6,ys⟩⟩⟩⟩⟩⟩⟩<;>simp only [Reps,and_false] at H
 simp only [Ty.size,List.take_succ_cons,List.take_zero,List.drop_succ_cons,List.drop_zero] at H
 obtain⟨t0,t1,t2,t3,t4,t5,_⟩:=H
 cases y5<;>simp only [Rep] at t5
 simp only [List.cons.injEq,and_true] at t5
 obtain⟨rows0,s1,s2⟩:=Lw t0
 obtain⟨shs,s3,rfl⟩:=Jz Shp.row Shp.wf (fun H=>Rj H) s2
 obtain⟨globals,g1,g2⟩:=My t1
 obtain⟨consts,k1,k2,k3⟩:=Ps t2
 obtain⟨rows,c1,c2⟩:=Lw t3
 obtain⟨cases,c3,rfl⟩:=Jz Cas.row Cas.wf (fun H=>Q8 H) c2
 obtain⟨fs,f1,f2⟩:=SP t4
 have hc:cases.length≤maxLen:=by
  obtain⟨cs,_,h2,_⟩:=c1
  simpa using h2
 refine⟨⟨shs.map Shp.row,globals,consts,cases,fs,_⟩,⟨r0,r1,r2,r3,r4,by rw [t5.1];rfl,s1,g1.w,k1.w,c1,f1,t5.2,g2,k3,hc,f2,Kl t3,Kl t4,c3,fun r hr=>?_,k2⟩,shs,rfl,s3⟩
 obtain⟨s,_,rfl⟩:=List.mem_map.1 hr
 exact⟨_,_,_,rfl⟩
theorem FnRd.wf {h:Heap}{r:List AV}{f:Fn}(H:FnRd h r f)(h1:f.kinds.length≤1048576)(h2:f.code.length≤1048576)(h3:f.maps.length≤1048576):f.wf:=by
 obtain⟨_,_,_,_,_,_,_,w1,w2,w3,w4,_,_,_,_,_,_,hc,hm⟩:=H
 exact⟨w1,w2,w3,w4,hc,fun n hn=>by have:=Ni (hm n hn);omega,h1,h2,h3⟩
theorem FnsRd.mem {h:Heap}{v:AV}{fs:List Fn}(H:FnsRd h v fs){f:Fn}(hf:f∈fs):∃ r,FnRd h r f:=by
 obtain⟨i,hi⟩:=List.getElem?_of_mem hf
 obtain⟨b,o,_,_,_,_,_,FR,_⟩:=H.at' hi
 exact⟨_,FR⟩
theorem SE {h:Heap}{v:AV}{m:Md}{shs:List Shp}(H:MdRd h v m)(hs:m.shapes=shs.map Shp.row)(hw:∀ s∈shs,s.wf)(sm:SmV m):m.wf shs:=by
 obtain⟨_,_,_,_,_,_,_,_,_,_,hF,wM,_,_,_,_,_,_,hCw,_,hKw⟩:=H
 have h4:=sm.2.2.2.1
 rw [hs,List.length_map] at h4
 refine⟨hw,hKw,hCw,fun f hf=>?_,wM,by omega,by have:=sm.2.2.2.2.1;omega,by have:=sm.2.2.2.2.2;omega,by have:=sm.2.1;omega,by have:=sm.1;omega⟩
 obtain⟨r,FR⟩:=hF.mem hf
 obtain⟨i,hi⟩:=List.getElem?_of_mem hf
 have:=sm.2.2.1 i f hi
 exact FR.wf (by omega) (by omega) (by omega)
theorem MH {α:Type}{f:α→List Nat}{k:Nat}:∀ {l:List α},(∀ x∈l,(f x).length≤k)→(l.flatMap f).length≤k*l.length
 | [],_=>by simp
 | x::l,h=>by
  have h1:=h x (List.mem_cons_self ..)
  have h2:=MH (l:=l) fun y hy=>h y (List.mem_cons_of_mem _ hy)
  rw [List.flatMap_cons,List.length_append,List.length_cons,Nat.mul_succ];omega
theorem Il {l:List Int}(h:∀ n∈l,wfI n):(intsB l).length≤10*l.length:=MH fun n hn=>C0 (LJ (by have:=ET (h n hn);omega) (by have:=ET (h n hn);omega))
theorem MQ {l:List Bool}(h:l.length≤1048576):(flagsB l).length≤10+10*l.length:=by
 have h1:=C0 (u:=l.length) (by omega)
 have h2:=MH (f:=fun b=>numB (flgN b)) (k:=10) (l:=l) fun x _=>C0 (by cases x<;>simp [flgN])
 rw [flagsB,List.length_append];omega
theorem Sq {f:Fn}(w:f.wf):(fnE f).length≤70+10*f.kinds.length+50*f.code.length+10*f.maps.length:=by
 have h1:=Il (l:=[f.pa,f.ca,f.sl,f.re]) (by simp only [List.mem_cons,List.not_mem_nil,or_false,forall_eq_or_imp,forall_eq];exact⟨w.w1,w.w2,w.w3,w.w4⟩)
 have h2:=MQ w.k
 have h3:=C0 (u:=f.code.length) (by have:=w.c;omega)
 have h4:=C0 (u:=f.maps.length) (by have:=w.m;omega)
 have h5:=MH (f:=insE) (k:=50) (l:=f.code) fun i hi=>by
  have:=Il (l:=[i.op,i.a,i.b,i.c,i.d]) (by simp only [List.mem_cons,List.not_mem_nil,or_false,forall_eq_or_imp,forall_eq];exact w.code i hi)
  simpa [insE] using this
 have h6:=MH (f:=fun v:Int=>numB v.toNat) (k:=10) (l:=f.maps) fun n hn=>C0 (by have:=w.maps n hn;omega)
 simp only [List.length_cons,List.length_nil] at h1
 simp only [fnE,List.length_append];omega
theorem RE {m:Md}{shs:List Shp}(W:m.wf shs)(sm:SmV m)(hs:m.shapes=shs.map Shp.row):(encB m shs).length≤2 ^ 30:=by
 have l1:=sm.1;have l2:=sm.2.1;have l4:=sm.2.2.2.1;have l5:=sm.2.2.2.2.1;have l6:=sm.2.2.2.2.2
 rw [hs,List.length_map] at l4
 have h1:=C0 (u:=shs.length) (by omega)
 have h2:=MH (f:=shpE) (k:=30) (l:=shs) fun s hs=>by
  have w:=W.ws s hs
  have:=Il (l:=[s.kind,s.fields]) (by simp only [List.mem_cons,List.not_mem_nil,or_false,forall_eq_or_imp,forall_eq];exact w)
  have h2:=C0 s.map.isLt
  simp only [List.length_cons,List.length_nil] at this
  rw [shpE,List.length_append];omega
 have h3:=MQ (l:=m.globals) (by omega)
 have h4:=C0 (u:=m.consts.length) (by omega)
 have h5:=MH (f:=fun v:Int=>numB (zigN v)) (k:=10) (l:=m.consts) fun n hn=>C0 (LJ (by have:=ET (W.wk n hn);omega) (by have:=ET (W.wk n hn);omega))
 have h6:=C0 (u:=m.cases.length) (by omega)
 have h7:=MH (f:=casE) (k:=40) (l:=m.cases) fun c hc=>by
  have:=Il (l:=[c.kind,c.chan,c.val,c.to]) (by simp only [List.mem_cons,List.not_mem_nil,or_false,forall_eq_or_imp,forall_eq];exact W.wc c hc)
  simpa [casE] using this
 have h8:=C0 (u:=m.funcs.length) (by omega)
 have h9:=MH (f:=fnE) (k:=300000) (l:=m.funcs) fun f hf=>by
  obtain⟨i,hi⟩:=List.getElem?_of_mem hf
  have:=sm.2.2.1 i f hi
  have:=Sq (W.wf f hf)
  omega
 have h10:=Il (l:=[m.main]) (by simpa using W.wm)
 simp only [List.length_cons,List.length_nil] at h10
 simp only [encB,modE,List.length_append,List.length_cons,List.length_nil];omega
theorem HN {u x:Nat}(h:x∈numB u):x < 256:=Mq u u (Nat.le_refl _) x h
theorem PF {m:Md}{shs:List Shp}:∀ x∈encB m shs,x < 256:=by
 have hi:∀ (l:List Int) x,x∈intsB l→x < 256:=fun l x h=>by obtain⟨n,_,h⟩:=List.mem_flatMap.1 h;exact HN h
 have hf:∀ (l:List Bool) x,x∈flagsB l→x < 256:=fun l x h=>by
  rcases List.mem_append.1 h with h | h
  ·exact HN h
  ·obtain⟨n,_,h⟩:=List.mem_flatMap.1 h;exact HN h
 have hfn:∀ (f:Fn) x,x∈fnE f→x < 256:=fun f x h=>by
  simp only [fnE,List.mem_append,List.mem_flatMap] at h
  rcases h with((((h | h) | h) | ⟨_,_,h⟩) | h) | ⟨_,_,h⟩
  ·exact hi _ x h
  ·exact hf _ x h
  ·exact HN h
  ·exact hi _ x h
  ·exact HN h
  ·exact HN h
 intro x h
 simp only [encB,modE,List.mem_append,List.mem_flatMap] at h
 rcases h with h | ((((((((h | ⟨s,_,h⟩) | h) | h) | ⟨_,_,h⟩) | h) | ⟨c,_,h⟩) | h) | ⟨f,_,h⟩) | h
 ·simp at h;omega
 ·exact HN h
 ·rcases List.mem_append.1 h with h | h
  ·exact hi _ x h
  ·exact HN h
 ·exact hf _ x h
 ·exact HN h
 ·exact HN h
 ·exact HN h
 ·exact hi _ x h
 ·exact HN h
 ·exact hfn _ x h
 ·exact hi _ x h
theorem _root_.Go.Ab.SlB.rd {g:Heap}{b:Option Nat}{sz n:Nat}{v:AV}{cs:List AV}(H:SlB g b sz v cs n):RdW g sz v cs n:=by
 refine⟨H.len,?_⟩
 cases b with
 | none=>exact .inl ⟨H.eq,H.nil rfl⟩
 | some b=>
  obtain⟨h1,h2,h3⟩:=H.blk b rfl
  exact .inr ⟨b,0,.un sz,H.eq,h1,fun _=>⟨true,[],[],rfl,by rw [h2];simp⟩⟩
theorem _root_.Go.Ab.SlB.cap {g:Heap}{b:Option Nat}{sz n:Nat}{v:AV}{cs:List AV}(H:SlB g b sz v cs n):CapV sz v:=by
 cases b with
 | none=>exact .inl H.eq
 | some b=>exact .inr ⟨_,_,_,H.eq,rfl⟩
theorem J1 {sz:Nat}:∀ (l:List (List AV)) (i:Nat) r,(∀ r∈l,r.length=sz)→l[i]?=some r→span l.flatten (i*sz) sz=some r
 | [],i,r,_,h=>by simp at h
 | x::l,0,r,hl,h=>by
  simp at h;subst h
  have hx:=hl x (List.mem_cons_self ..)
  rw [Nat.zero_mul,Bf _ _ _ (by simp;omega),List.drop_zero,List.flatten_cons,List.take_append_of_le_length (by omega),List.take_of_length_le (by omega)]
 | x::l,i+1,r,hl,h=>by
  have hx:=hl x (List.mem_cons_self ..)
  have ih:=J1 l i r (fun y hy=>hl y (List.mem_cons_of_mem _ hy)) (by simpa using h)
  have hle:=Gd ih
  rw [Bf _ _ _ hle] at ih
  rw [List.flatten_cons,Bf _ _ _ (by rw [List.length_append,Nat.succ_mul];omega),List.drop_append,List.drop_eq_nil_of_le (by rw [Nat.succ_mul];omega),List.nil_append,show(i+1)*sz-x.length=i*sz by rw [Nat.succ_mul];omega]
  exact ih
theorem _root_.Go.Ab.SlB.rows {g:Heap}{b:Option Nat}{sz:Nat}{v:AV}{l:List (List AV)}{n:Nat}(H:SlB g b sz v l.flatten n)(hn:n=l.length)(hl:∀ r∈l,r.length=sz)(hm:l.length≤1048576):RwC g sz v l:=
 ⟨l.flatten,by rw [← hn];exact H.rd,by rw [mxl];omega,fun i r hi=>J1 l i r hl hi⟩
theorem FnO.rd {g:Heap}{v:AV}{f:Fn}{lo hi:Nat}(H:FnO g v f lo hi)(w:f.wf):∃ kv cv mv,v = .agg [.int .i64 f.pa,.int .i64 f.ca,.int .i64 f.sl,.int .i64 f.re,kv,cv,mv]∧FnRd g [.int .i64 f.pa,.int .i64 f.ca,.int .i64 f.sl,.int .i64 f.re,kv,cv,mv] f:=by
 obtain⟨kv,cv,mv,bk,bc,bm,rfl,h1,h2,h3,_⟩:=H
 have k1:=w.k;have k2:=w.c;have k3:=w.m
 refine⟨kv,cv,mv,rfl,kv,cv,mv,rfl,h1.rd,h2.rows (by simp) (fun r hr=>?_) (by simpa using w.c),h3.rd,w.w1,w.w2,w.w3,w.w4,by rw [mxl];omega,by rw [mxl];omega,by rw [mxl];omega,h1.cap,h2.cap,h3.cap,w.code,fun n hn=>?_⟩
 ·obtain⟨i,_,rfl⟩:=List.mem_map.1 hr;rfl
 ·have:=w.maps n hn
  simp only [Lit.wf,Bool.and_eq_true,decide_eq_true_eq]
  have e1:IntKind.u64.min=0:=rfl
  have e2:IntKind.u64.max=18446744073709551615:=rfl
  omega
theorem JM:∀ vs:List AV,vs.flatMap AV.cells=(vs.map AV.cells).flatten
 | []=>rfl
 | v::vs=>by rw [List.flatMap_cons,List.map_cons,List.flatten_cons,JM vs]
theorem LsO.fns {g0 g:Heap}{v:AV}{fs:List Fn}{b:Option Nat}{vs:List AV}(L:LsO g0 g 7 v fs FnO b vs)(hw:∀ f∈fs,f.wf)(hl:fs.length≤1048576):FnsRd g v fs:=by
 obtain⟨rg,hrg,_⟩:=L.val
 have key:∀ (k:Nat) w f,vs[k]?=some w→fs[k]?=some f→∃ kv cv mv,w = .agg [.int .i64 f.pa,.int .i64 f.ca,.int .i64 f.sl,.int .i64 f.re,kv,cv,mv]∧FnRd g [.int .i64 f.pa,.int .i64 f.ca,.int .i64 f.sl,.int .i64 f.re,kv,cv,mv] f:=fun k w f h1 h2=>(hrg k w f h1 h2).1.rd (hw f (List.mem_of_getElem? h2))
 have hS:=L.sl
 rw [JM] at hS
 refine⟨vs.map AV.cells,hS.rows (by rw [List.length_map,L.len]) (fun r hr=>?_) (by rw [List.length_map,L.len];exact hl),by rw [List.length_map,L.len],fun i r f hr hf=>?_⟩
 ·obtain⟨w,hw,rfl⟩:=List.mem_map.1 hr
  obtain⟨i,hi⟩:=List.getElem?_of_mem hw
  obtain⟨f,hf⟩:∃ f,fs[i]?=some f:=⟨_,List.getElem?_eq_getElem (by have:=(List.getElem?_eq_some_iff.1 hi).1;rw [← L.len];exact this)⟩
  obtain⟨kv,cv,mv,rfl,_⟩:=key i w f hi hf
  rfl
 ·rw [List.getElem?_map] at hr
  obtain⟨w,hw,rfl⟩:=Option.map_eq_some_iff.1 hr
  obtain⟨kv,cv,mv,rfl,FR⟩:=key i w f hw hf
  exact FR
theorem MdO.rd {g0 g:Heap}{v:AV}{m:Md}{shs:List Shp}{sv gv kv cv fv:AV}{bs bg bk bc bf:Option Nat}{vs:List AV}{e1 e2 e3 e4:Nat}(O:MdO g0 g v m shs sv gv kv cv fv bs bg bk bc bf vs e1 e2 e3 e4)(W:m.wf shs)(hs:m.shapes=shs.map Shp.row):MdRd g v m:=by
 have l1:=W.ls;have l2:=W.lg;have l3:=W.lk;have l4:=W.lc;have l5:=W.lf
 refine⟨sv,gv,kv,cv,fv,O.eq,?_,O.og.rd,O.ok.rd,O.oc.rows (by simp) (fun r hr=>?_) (by simpa using W.lc),O.of.fns W.wf W.lf,W.wm,by rw [mxl];omega,by rw [mxl];omega,by rw [mxl];omega,by rw [mxl];omega,O.oc.cap,O.of.sl.cap,W.wc,fun r hr=>?_,W.wk⟩
 ·rw [hs]
  exact O.os.rows (by simp) (fun r hr=>by obtain⟨i,_,rfl⟩:=List.mem_map.1 hr;rfl) (by simpa using W.ls)
 ·obtain⟨i,_,rfl⟩:=List.mem_map.1 hr;rfl
 ·rw [hs] at hr
  obtain⟨s,_,rfl⟩:=List.mem_map.1 hr
  exact⟨_,_,_,rfl⟩
set_option linter.all false
attribute [local congr] BD Dx D5 D8 Bs D2 Dw Au Av
abbrev zMd:List AV:=[(AV.sl none 0 (.ex 0)),(AV.sl none 0 (.ex 0)),(AV.sl none 0 (.ex 0)),(AV.sl none 0 (.ex 0)),(AV.sl none 0 (.ex 0)),(AV.int .i64 0)]
theorem LsO.sc5 {g0 g:Heap}{v:AV}{m:Md}{shs:List Shp}{sv gv kv cv fv:AV}{bs bg bk bc bf:Option Nat}{vs:List AV}{e1 e2 e3 e4:Nat}(O:MdO g0 g v m shs sv gv kv cv fv bs bg bk bc bf vs e1 e2 e3 e4):([sv,gv,kv,cv,fv,.int .i64 m.main]:List AV).all scalar=true:=by
 simp only [List.all_cons,List.all_nil,O.os.scv,O.og.scv,O.ok.scv,O.oc.scv,O.of.sl.scv,Bool.and_true,Bool.true_and];rfl
theorem RQ {R:Type}{h:Heap}{v:AV}{m:Md}{shs:List Shp}(H:MdRd h v m)(hs:m.shapes=shs.map Shp.row)(hsw:∀ s∈shs,s.wf)(sm:SmV m){K:AV→AV→Heap→Option R}{Q:R→Prop}
  (hk:∀ g N sv gv kv cv fv bs bg bk bc bf vs e1 e2 e3 e4 g0,Same [] h g→h.next≤g0.next→g0.next≤N→g.next=N+1→g.get N=some (.cells true [sv,gv,kv,cv,fv,.int .i64 m.main])→
   (∃ gd,gd.next=N∧Same [] gd g∧MdO g0 gd (.agg [sv,gv,kv,cv,fv,.int .i64 m.main]) m shs sv gv kv cv fv bs bg bk bc bf vs e1 e2 e3 e4)→(∀ j,bs=some j→h.next≤j)→h.next≤e1→Ok (K (.ptr (some (N,0))) (.int .i64 0) g) Q) :
  Ok (cl (EF v h) fun t h'=>cl (EI t h') fun t' h''=>(extractV 0 t').bind fun a=>(extractV 1 t').bind fun b=>mk Heap.new (some (Blk.cells true zMd,fun i=>AV.ptr (some (i,0)))) h'' fun p h3=>cl (stP 6 h3 p a) fun _ h4=>K p b h4) Q:=by
 have W:=SE H hs hsw sm
 have hle:=RE W sm hs
 refine An (Po H hs hsw sm hle) ?_
 rintro x g1 ⟨s1,b,c,hb1,hb2,e,hc,hb⟩
 simp only at s1 e hb2 hb
 subst e
 refine An (O8 hb hb2 (by rcases hc with h | h;exact .inl h;exact .inr ⟨_,h,Nat.le_refl _⟩) PF hle W) ?_
 rintro x g2 ⟨s2,v2,sv,gv,kv,cv,fv,bs,bg,bk,bc,bf,vs,e1,e2,e3,e4,g0,e,O,l1,l2,l3,l4⟩
 simp only at s2 e O l2
 subst e
 have ev:=O.eq
 subst ev
 refine Ok.eq ?_ (by simp -implicitDefEqProofs only [show extractV 0 (AV.tup [.agg [sv,gv,kv,cv,fv,.int .i64 m.main],.int .i64 0])=some (.agg [sv,gv,kv,cv,fv,.int .i64 m.main]) from rfl,show extractV 1 (AV.tup [.agg [sv,gv,kv,cv,fv,.int .i64 m.main],.int .i64 0])=some (.int .i64 0) from rfl,Option.bind_some]<;>rfl)
 refine EK (by rfl) (by rfl) (LsO.sc5 O) fun g3 s3 n3 b3=>?_
 have:=s1.next;have:=s2.next
 exact hk g3 g2.next sv gv kv cv fv bs bg bk bc bf vs e1 e2 e3 e4 g0 ((s1.trans s2).trans s3) (by omega) (by omega) n3 b3 ⟨g2,rfl,s3,O⟩ (fun j hj=>by have:=l3 j hj;omega) (by omega)
theorem FnO.row {g:Heap}{v:AV}{f:Fn}{lo hi:Nat}(H:FnO g v f lo hi):v.cells.length=7∧v.cells.all scalar=true:=by
 obtain⟨kv,cv,mv,bk,bc,bm,rfl,h1,h2,h3,_⟩:=H
 refine⟨rfl,?_⟩
 show([.int .i64 f.pa,.int .i64 f.ca,.int .i64 f.sl,.int .i64 f.re,kv,cv,mv]:List AV).all scalar=true
 simp only [List.all_cons,List.all_nil,h1.scv,h2.scv,h3.scv,Bool.and_true];rfl
theorem Rm {g0 g g':Heap}{v w':AV}{fs:List Fn}{f':Fn}{bf i lo hi':Nat}{vs:List AV}{T:List Nat}{rg:Nat→Nat × Nat}(L:LsO g0 g 7 v fs FnO (some bf) vs)
  (hrg:∀ (k:Nat) v x,vs[k]?=some v→fs[k]?=some x→FnO g v x (rg k).1 (rg k).2∧g0.next≤(rg k).1∧(rg k).1≤(rg k).2∧(rg k).2≤g.next∧∀ j,some bf=some j→j<(rg k).1∨(rg k).2≤j) (hdis:∀ j k,j<k→k<fs.length→(rg j).2≤(rg k).1)
  (hi:i<fs.length) (s:Same T g g') (hT:∀ j∈T,j<g.next→j=bf∨((rg i).1≤j∧j<(rg i).2)) (hb:g'.get bf=some (.cells true ((vs.set i w').flatMap AV.cells))) (hw:FnO g' w' f' lo hi') (hf:∀ f∈fs,f.wf) (hf':f'.wf) (hl:fs.length≤1048576) :
  FnsRd g' v (fs.set i f'):=by
 obtain⟨b1,b2,b3⟩:=L.sl.blk bf rfl
 have ev:=L.sl.eq
 have len:=L.len
 have key:∀ (k:Nat) w f,(vs.set i w')[k]?=some w→(fs.set i f')[k]?=some f→w.cells.length=7∧FnRd g' w.cells f:=by
  intro k w f h1 h2
  by_cases hk:i=k
  ·subst hk
   rw [List.getElem?_set_self (by omega)] at h1 h2
   cases h1;cases h2
   obtain⟨kv,cv,mv,rfl,FR⟩:=hw.rd hf'
   exact⟨rfl,FR⟩
  ·rw [List.getElem?_set_ne hk] at h1 h2
   obtain⟨F,r1,r2,r3,r4⟩:=hrg k w f h1 h2
   have hkl:=(List.getElem?_eq_some_iff.1 h2).1
   have F':=F.stab _ _ _ _ _ _ T r2 r3 s fun j hj=>by
    by_cases hjg:j<g.next
    ·rcases hT j hj hjg with rfl | ⟨c1,c2⟩
     ·exact r4 _ rfl
     ·rcases Nat.lt_or_gt_of_ne hk with h | h
      ·have:=hdis i k h hkl;omega
      ·have:=hdis k i h hi;omega
    ·omega
   obtain⟨kv,cv,mv,rfl,FR⟩:=F'.rd (hf f (List.mem_of_getElem? h2))
   exact⟨rfl,FR⟩
 have rows7:∀ r∈(vs.set i w').map AV.cells,r.length=7:=fun r hr=>by
  obtain⟨w,hw,rfl⟩:=List.mem_map.1 hr
  obtain⟨k,hk⟩:=List.getElem?_of_mem hw
  have hkl:=(List.getElem?_eq_some_iff.1 hk).1
  rw [List.length_set] at hkl
  exact(key k w _ hk (List.getElem?_eq_getElem (by rw [List.length_set];omega))).1
 have hfl:∀ l:List (List AV),(∀ r∈l,r.length=7)→l.flatten.length=l.length * 7:=by
  intro l
  induction l with
  | nil=>intro _;rfl
  | cons x l ih=>intro h;rw [List.flatten_cons,List.length_append,ih fun y hy=>h y (List.mem_cons_of_mem _ hy),h x (List.mem_cons_self ..),List.length_cons];omega
 refine⟨(vs.set i w').map AV.cells,⟨((vs.set i w').map AV.cells).flatten,⟨hfl _ rows7,.inr ⟨bf,0,.un 7,?_,Nat.lt_of_lt_of_le b1 s.next,fun _=>⟨true,[],[],rfl,?_⟩⟩⟩,?_,fun k r hk=>J1 _ k r rows7 hk⟩,by simp [len],fun k r f hr hf=>?_⟩
 ·rw [ev,List.length_map,List.length_set,len]
 ·rw [hb,JM];simp
 ·rw [mxl,List.length_map,List.length_set];omega
 ·rw [List.getElem?_map] at hr
  obtain⟨w,hw,rfl⟩:=Option.map_eq_some_iff.1 hr
  exact(key k w f hw hf).2
theorem Nh:∀ {vs:List AV} {i:Nat} {w:AV} {k:Nat},(∀ v∈vs,v.cells.length=7)→vs[i]?=some w→k < 7→(vs.flatMap AV.cells)[i * 7+k]?=w.cells[k]?
 | [],i,w,k,_,h,_=>by simp at h
 | v::vs,0,w,k,hl,h,hk=>by
  simp at h;subst h
  have:=hl v (List.mem_cons_self ..)
  rw [List.flatMap_cons,List.getElem?_append_left (by omega),Nat.zero_mul,Nat.zero_add]
 | v::vs,i+1,w,k,hl,h,hk=>by
  have:=hl v (List.mem_cons_self ..)
  rw [List.flatMap_cons,List.getElem?_append_right (by omega),show(i+1) * 7+k-v.cells.length=i * 7+k by omega,Nh (fun y hy=>hl y (List.mem_cons_of_mem _ hy)) (by simpa using h) hk]
theorem MdO.upd {g0 g g':Heap}{v w':AV}{m:Md}{shs:List Shp}{sv gv kv cv fv:AV}{bs bg bk bc:Option Nat}{bf i lo hi':Nat}{f':Fn}{vs:List AV}{e1 e2 e3 e4:Nat}{T:List Nat}{rg:Nat→Nat × Nat}(O:MdO g0 g v m shs sv gv kv cv fv bs bg bk bc (some bf) vs e1 e2 e3 e4)(W:m.wf shs)(hs:m.shapes=shs.map Shp.row)
  (hrg:∀ (k:Nat) v x,vs[k]?=some v→m.funcs[k]?=some x→FnO g v x (rg k).1 (rg k).2∧g0.next≤(rg k).1∧(rg k).1≤(rg k).2∧(rg k).2≤g.next∧∀ j,some bf=some j→j<(rg k).1∨(rg k).2≤j) (hdis:∀ j k,j<k→k<m.funcs.length→(rg j).2≤(rg k).1)
  (hi:i<m.funcs.length) (s:Same T g g') (hT:∀ j∈T,g0.next≤j∧(j<g.next→j=bf∨((rg i).1≤j∧j<(rg i).2))) (hb:g'.get bf=some (.cells true ((vs.set i w').flatMap AV.cells))) (hw:FnO g' w' f' lo hi') (hf':f'.wf) :
  MdRd g' (.agg [sv,gv,kv,cv,fv,.int .i64 m.main]) { m with funcs:=m.funcs.set i f' }:=by
 have l1:=W.ls;have l2:=W.lg;have l3:=W.lk;have l4:=W.lc;have l5:=W.lf
 obtain⟨q1,q2,q3,q4⟩:=O.le
 have os:=O.os.same s (fun j hj hm=>by have:=O.rs j hj;have:=(hT j hm).1;omega)
 have og:=O.og.same s (fun j hj hm=>by have:=O.rg j hj;have:=(hT j hm).1;omega)
 have ok:=O.ok.same s (fun j hj hm=>by have:=O.rk j hj;have:=(hT j hm).1;omega)
 have oc:=O.oc.same s (fun j hj hm=>by have:=O.rc j hj;have:=(hT j hm).1;omega)
 refine⟨sv,gv,kv,cv,fv,rfl,?_,og.rd,ok.rd,oc.rows (by simp) (fun r hr=>?_) (by simpa using W.lc),Rm O.of hrg hdis hi s (fun j hj=>(hT j hj).2) hb hw W.wf hf' W.lf,W.wm,by show m.globals.length≤maxLen;rw [mxl];omega,by show m.consts.length≤maxLen;rw [mxl];omega,by show m.cases.length≤maxLen;rw [mxl];omega,?_,oc.cap,O.of.sl.cap,W.wc,fun r hr=>?_,W.wk⟩
 ·show RwC g' 3 sv m.shapes
  rw [hs]
  exact os.rows (by simp) (fun r hr=>by obtain⟨i,_,rfl⟩:=List.mem_map.1 hr;rfl) (by simpa using W.ls)
 ·obtain⟨i,_,rfl⟩:=List.mem_map.1 hr;rfl
 ·show(m.funcs.set i f').length≤maxLen
  rw [mxl,List.length_set];omega
 ·have hr:r∈m.shapes:=hr
  rw [hs] at hr
  obtain⟨s,_,rfl⟩:=List.mem_map.1 hr
  exact⟨_,_,_,rfl⟩
set_option linter.all false
attribute [local congr] BD Dx D5 D8 Bs D2 Dw Au Av
theorem OH {sk:List Int}{m:Md}{shs:List Shp}(h:withR sk m shs=none):Mod1 m shs∧Mod2 m∧(∀ f∈m.funcs,Whole f)∧(mdR sk m m.funcs 0 (List.replicate m.cases.length false)).1=none:=by
 unfold withR at h
 split at h
 ·cases h
 ·rename_i h1
  split at h
  ·cases h
  ·rename_i h2
   cases hw:fbW m.funcs 0 with
   | some n=>rw [hw] at h;cases h
   | none=>
    rw [hw] at h
    have key:∀ (l:List Fn) n,fbW l n=none→∀ f∈l,Whole f:=by
     intro l
     induction l with
     | nil=>intro n _ f hf;cases hf
     | cons g l ih=>
      intro n hn f hf
      rw [fbW] at hn
      split at hn
      ·rcases List.mem_cons.1 hf with rfl | hf
       ·assumption
       ·exact ih _ hn f hf
      ·cases hn
    refine⟨Classical.not_not.1 h1,Classical.not_not.1 h2,key _ _ hw,?_⟩
    simp only at h
    cases hm:(mdR sk m m.funcs 0 (List.replicate m.cases.length false)).1 with
    | none=>rfl
    | some r=>obtain⟨a,b,c⟩:=r;rw [hm] at h;cases h
theorem Mod1.fs {m:Md}{shs:List Shp}(M:Mod1 m shs){fs:List Fn}(hl:fs.length=m.funcs.length):Mod1 { m with funcs:=fs } shs:=
 ⟨M.s1,M.s2,M.s3,M.s4,M.s5,M.s6,by show ¬ (128:Int)<fs.length;rw [hl];exact M.s7,by show ¬ (fs.length:Int) < 1;rw [hl];exact M.s8⟩
theorem Mod2.upd {m:Md}(M:Mod2 m){i:Nat}{f f':Fn}(hf:m.funcs[i]?=some f)(h1:f'.pa=f.pa)(h2:f'.ca=f.ca)(h3:f'.re=f.re):Mod2 { m with funcs:=m.funcs.set i f' }:=by
 have hi:=(List.getElem?_eq_some_iff.1 hf).1
 refine⟨M.m0,by show ¬ ((m.funcs.set i f').length:Int)≤m.main;rw [List.length_set];exact M.m1,fun g hg=>?_⟩
 have hg:(m.funcs.set i f')[m.main.toNat]?=some g:=hg
 by_cases hk:i=m.main.toNat
 ·rw [← hk,List.getElem?_set_self hi] at hg
  cases hg
  rw [h1,h2,h3]
  exact M.fn f (by rw [← hk];exact hf)
 ·rw [List.getElem?_set_ne hk] at hg
  exact M.fn g hg
theorem SmV.upd {m:Md}(S:SmV m){i:Nat}{f f':Fn}(hf:m.funcs[i]?=some f)(h1:f'.code.length≤4096)(h2:f'.maps.length≤4097)(h3:f'.kinds.length≤100):SmV { m with funcs:=m.funcs.set i f' }:=by
 have hi:=(List.getElem?_eq_some_iff.1 hf).1
 refine⟨by show(m.funcs.set i f').length≤20;rw [List.length_set];exact S.1,S.2.1,fun k g hg=>?_,S.2.2.2⟩
 have hg:(m.funcs.set i f')[k]?=some g:=hg
 by_cases hk:i=k
 ·rw [← hk,List.getElem?_set_self hi] at hg
  cases hg
  exact⟨h1,h2,h3⟩
 ·rw [List.getElem?_set_ne hk] at hg
  exact S.2.2.1 k g hg
set_option linter.all false
def nom (f:Fn):Fn:={ f with maps:=[] }
structure Ext (m m':Md):Prop where
 sh:m'.shapes=m.shapes
 ca:m'.cases=m.cases
 fn:∀ n,(fnAt m' n).map nom=(fnAt m n).map nom
 ks:m.consts.length≤m'.consts.length
 gl:∃ t,m'.globals=m.globals++t
section
variable {m m':Md}(E:Ext m m')
include E
theorem Ext.cas (a b:Int):casesOf m' a b=casesOf m a b:=by unfold casesOf;rw [E.ca]
theorem Ext.isS (n:Int):(fnAt m' n).isSome=(fnAt m n).isSome:=by
 have:=E.fn n
 cases h:fnAt m' n<;>cases h':fnAt m n<;>simp_all
theorem Ext.fnDq (n:Int):nom (fnD m' n)=nom (fnD m n):=by
 have:=E.fn n
 unfold fnD
 cases h:fnAt m' n<;>cases h':fnAt m n<;>simp_all
theorem Ext.pa (n:Int):(fnD m' n).pa=(fnD m n).pa:=by show(nom (fnD m' n)).pa=(nom (fnD m n)).pa;rw [E.fnDq n]
theorem Ext.cap (n:Int):(fnD m' n).ca=(fnD m n).ca:=by show(nom (fnD m' n)).ca=(nom (fnD m n)).ca;rw [E.fnDq n]
theorem Ext.re (n:Int):(fnD m' n).re=(fnD m n).re:=by show(nom (fnD m' n)).re=(nom (fnD m n)).re;rw [E.fnDq n]
theorem Ext.kinds (n:Int):(fnD m' n).kinds=(fnD m n).kinds:=by show(nom (fnD m' n)).kinds=(nom (fnD m n)).kinds;rw [E.fnDq n]
theorem Ext.fnPq (n:Int):fnP m' n=fnP m n:=by
 have:=E.fn n
 unfold fnP
 cases h:fnAt m' n<;>cases h':fnAt m n<;>simp_all
 rename_i a b
 show(nom a).pa=(nom b).pa
 rw [this]
theorem Ext.fnCq (n:Int):fnC m' n=fnC m n:=by
 have:=E.fn n
 unfold fnC
 cases h:fnAt m' n<;>cases h':fnAt m n<;>simp_all
 rename_i a b
 show(nom a).ca=(nom b).ca
 rw [this]
theorem Ext.reads (i:Ins):readsL m' i=readsL m i:=by simp only [readsL,E.fnPq,E.fnCq,E.cas]
theorem Ext.slots (f:Fn)(l:List Int)(i:Ins):slotsB m' { f with maps:=l } i=slotsB m f i:=by
 simp only [slotsB,E.pa,E.cap,E.cas,E.reads];rfl
theorem Ext.shape (n k:Int):shapeB m' n k=shapeB m n k:=by unfold shapeB;rw [E.sh]
theorem Ext.fresh (i:Ins)(nm:List Bool):freshR m' i nm=freshR m i nm:=by
 have e:casB m' i=casB m i:=by unfold casB;rw [E.ca]
 unfold freshR
 rw [e,E.cas]
theorem Ext.glt {n:Int}(h:n<m.globals.length):n<m'.globals.length:=by
 obtain⟨t,e⟩:=E.gl
 rw [e,List.length_append];omega
theorem Ext.thereBq {i:Ins}(h:thereB m i=true):thereB m' i=true:=by
 have hk:=E.ks
 by_cases c0:i.op=0
 ·simp only [thereB,if_pos c0,Bool.and_eq_true,decide_eq_true_eq] at h ⊢
  exact⟨h.1,by omega⟩
 by_cases c1:i.op=34
 ·simp [thereB,c1] at h ⊢
  exact⟨h.1,E.glt h.2⟩
 by_cases c2:i.op=35
 ·simp [thereB,c2] at h ⊢
  exact⟨h.1,E.glt h.2⟩
 simp only [thereB,if_neg c0,if_neg c1,if_neg c2,E.shape,E.isS,E.cap,E.re] at h ⊢
 exact h
theorem Ext.there {i:Ins}{nm:List Bool}(h:(thereR m i nm).1=true):thereR m' i nm=thereR m i nm:=by
 unfold thereR at h ⊢
 split
 ·exact E.fresh i nm
 ·rename_i c
  rw [if_neg c] at h
  simp only at h
  rw [h,E.thereBq h]
theorem Ext.glBq {n:Int}(h1:0≤n)(h2:n<m.globals.length):glB m' n=glB m n:=by
 obtain⟨t,e⟩:=E.gl
 unfold glB
 rw [e,List.getD_eq_getElem?_getD,List.getD_eq_getElem?_getD,List.getElem?_append_left (by omega)]
theorem Ext.args (f:Fn)(l:List Int)(n a b c:Int):argsB { f with maps:=l } (fnD m' n) a b c=argsB f (fnD m n) a b c:=by
 have e:∀ g h:Fn,nom g=nom h→argsB { f with maps:=l } g a b c=argsB f h a b c:=fun g h e=>by
  have:argsB f (nom g) a b c=argsB f (nom h) a b c:=by rw [e]
  exact this
 exact e _ _ (E.fnDq n)
theorem Ext.kind6 (f:Fn)(l:List Int){i:Ins}{nm:List Bool}(h:(thereR m i nm).1=true):kind6B m' { f with maps:=l } i=kind6B m f i:=by
 have g34:i.op=34→0≤i.b∧i.b<m.globals.length:=fun c=>by
  unfold thereR thereB at h
  simp [c] at h
  exact h
 have g35:i.op=35→0≤i.a∧i.a<m.globals.length:=fun c=>by
  unfold thereR thereB at h
  simp [c] at h
  exact h
 have hcalls:callsB m' { f with maps:=l } i=callsB m f i:=by
  unfold callsB
  simp only [E.args,E.pa,E.cap,E.re];rfl
 unfold kind6B
 by_cases c1:i.op=34
 ·rw [E.glBq (g34 c1).1 (g34 c1).2];simp only [c1];rfl
 ·by_cases c2:i.op=35
  ·rw [E.glBq (g35 c2).1 (g35 c2).2];simp only [c2];rfl
  ·simp only [if_neg c1,if_neg c2,hcalls,E.cas];rfl
theorem Ext.tgt (i:Ins):tgtL m' i=tgtL m i:=by simp only [tgtL,E.cas]
theorem Ext.on (f:Fn)(l:List Int)(pc:Int)(i:Ins):onB m' { f with maps:=l } pc i=onB m f pc i:=by simp only [onB,E.tgt];rfl
theorem Ext.back (f:Fn)(l:List Int)(pc:Int)(i:Ins):backB m' { f with maps:=l } pc i=backB m f pc i:=by simp only [backB,E.tgt];rfl
theorem Ext.follows (f:Fn)(l:List Int)(pc:Int):followsL m' { f with maps:=l } pc=followsL m f pc:=by
 have e:∀ i,rawL m' pc i=rawL m pc i:=fun i=>by simp only [rawL,E.cas]
 simp only [followsL,e];rfl
theorem Ext.gen (f:Fn)(l:List Int)(s:List (BitVec 64))(pc:Nat)(i:Ins):genL m' { f with maps:=l } s pc i=genL m f s pc i:=by
 simp only [genL,outL,E.reads,E.cas,E.follows];rfl
theorem Ext.maps (f:Fn)(l:List Int):mapsT m' { f with maps:=l }=mapsT m f:=by
 have e:∀ s:List (BitVec 64),(s.length=({ f with maps:=l }:Fn).code.length∧Fix m' { f with maps:=l } s∧Low m' { f with maps:=l } s)↔(s.length=f.code.length∧Fix m f s∧Low m f s):=fun s=>by
  simp only [Fix,Low,E.gen]
 by_cases h:∃ s:List (BitVec 64),s.length=f.code.length∧Fix m f s∧Low m f s
 ·obtain⟨s,h⟩:=h
  obtain⟨b1,b2,b3⟩:=(e s).2 h
  rw [L8 h.1 h.2.1 h.2.2,L8 b1 b2 b3]
 ·rw [mapsT,mapsT,dif_neg h,dif_neg fun⟨s,hs⟩=>h ⟨s,(e s).1 hs⟩]
theorem Ext.flow (i:Ins)(l:List St):flowS m' i l=flowS m i l:=by
 have e1:sentV m' i=sentV m i:=by simp only [sentV,E.cas]
 have e2:recvV m' i=recvV m i:=by simp only [recvV,E.cas]
 simp only [flowS,behS,bhS,bhJ2,bhJ1,e1,e2,E.reads]
theorem Ext.closed (f:Fn)(l:List Int)(n0:Nat)(K:List (Option (List St))):ClosedT m' { f with maps:=l } n0 K↔ClosedT m f n0 K:=by
 constructor
 ·rintro⟨a,b,c,d⟩
  exact⟨a,b,c,fun pc l' i h1 h2 t ht=>by have:=d pc l' i h1 h2 t (by rw [E.follows];exact ht);rw [E.flow] at this;exact this⟩
 ·rintro⟨a,b,c,d⟩
  exact⟨a,b,c,fun pc l' i h1 h2 t ht=>by rw [E.flow];exact d pc l' i h1 h2 t (by rw [E.follows] at ht;exact ht)⟩
theorem Ext.isFS (f:Fn)(l:List Int)(T:List (List St)):IsFS m' { f with maps:=l } T↔IsFS m f T:=by
 have en:n0F { f with maps:=l }=n0F f:=rfl
 unfold IsFS LowT
 rw [en]
 simp only [E.closed]
theorem Ext.fsets (f:Fn)(l:List Int):fsetsT m' { f with maps:=l }=fsetsT m f:=by
 by_cases h:∃ T,IsFS m f T
 ·obtain⟨T,h⟩:=h
  rw [Lq h,Lq ((E.isFS f l T).2 h)]
 ·rw [fsetsT,fsetsT,dif_neg h,dif_neg fun⟨s,hs⟩=>h ⟨s,(E.isFS f l s).1 hs⟩]
theorem Ext.bare (f:Fn)(l:List Int)(pc:Nat)(i:Ins):bareB m' { f with maps:=l } pc i=bareB m f pc i:=by
 simp only [bareB,E.fsets];rfl
end
theorem Ph (m:Md)(f:Fn)(xs:List (BitVec 64))(pc:Nat)(i:Ins)(nm:List Bool) :
  insR [] m f xs pc i nm=if slotsB m f i=true then(if (thereR m i nm).1=true then(if kind6B m f i=true then(if onB m f pc i=true then(if backB m f pc i=true then(if mapB f xs pc=true then(if bareB m f pc i=true then(none,(thereR m i nm).2) else(some 10,(thereR m i nm).2)) else(some 9,(thereR m i nm).2)) else(some 8,(thereR m i nm).2)) else(some 7,(thereR m i nm).2)) else(some 6,(thereR m i nm).2)) else(some 5,(thereR m i nm).2)) else(some 4,nm):=by
 simp [insR,runR,ruleR]
theorem Iu {m:Md}{f:Fn}{xs:List (BitVec 64)}{pc:Nat}{i:Ins}{nm nm':List Bool}(h:insR [] m f xs pc i nm=(none,nm')) :
  slotsB m f i=true∧(thereR m i nm).1=true∧kind6B m f i=true∧onB m f pc i=true∧backB m f pc i=true∧mapB f xs pc=true∧bareB m f pc i=true∧nm'=(thereR m i nm).2:=by
 rw [Ph] at h
 repeat' (split at h;rotate_left;(simp at h))
 simp at h
 exact⟨by assumption,by assumption,by assumption,by assumption,by assumption,by assumption,by assumption,h.symm⟩
theorem Ext.ins {m m':Md}(E:Ext m m'){f:Fn}{l:List Int}{xs:List (BitVec 64)}{pc:Nat}{i:Ins}{nm nm':List Bool}(h:insR [] m f xs pc i nm=(none,nm')) :
  insR [] m' { f with maps:=l } xs pc i nm=if mapB { f with maps:=l } xs pc=true then(none,nm') else(some 9,nm'):=by
 obtain⟨a1,a2,a3,a4,a5,a6,a7,rfl⟩:=Iu h
 rw [Ph,E.slots,a1,E.there a2,a2,E.kind6 f l a2,a3,E.on,a4,E.back,a5,E.bare,a7]
 simp
theorem Ext.fnR_same {m m':Md}(E:Ext m m'){f:Fn}{xs:List (BitVec 64)}{nm':List Bool}:∀ (c:List Ins) (pc:Nat) (nm:List Bool),fnR [] m f xs c pc nm=(none,nm')→fnR [] m' f xs c pc nm=(none,nm')
 | [],pc,nm,h=>by rw [fnR] at h ⊢;exact h
 | i::c,pc,nm,h=>by
  rw [fnR] at h ⊢
  cases hi:insR [] m f xs pc i nm with
  | mk o n2=>
   cases o with
   | some r=>rw [hi] at h;simp at h
   | none=>
    rw [hi] at h
    have:=E.ins (l:=f.maps) hi
    have ef:({ f with maps:=f.maps }:Fn)=f:=rfl
    rw [ef,if_pos (Iu hi).2.2.2.2.2.1] at this
    rw [this]
    exact E.fnR_same c (pc+1) n2 h
theorem Ext.fnR_map {m m':Md}(E:Ext m m'){f:Fn}{xs:List (BitVec 64)}{nm':List Bool}{at_:Nat}{x:Int}(hx:mapB { f with maps:=f.maps.set at_ x } xs at_=false):∀ (c:List Ins) (pc:Nat) (nm:List Bool),fnR [] m f xs c pc nm=(none,nm')→pc≤at_→at_<pc+c.length→
  (fnR [] m' { f with maps:=f.maps.set at_ x } xs c pc nm).1=some (at_,9)
 | [],pc,nm,h,h1,h2=>by simp at h2;omega
 | i::c,pc,nm,h,h1,h2=>by
  rw [fnR] at h ⊢
  cases hi:insR [] m f xs pc i nm with
  | mk o n2=>
   cases o with
   | some r=>rw [hi] at h;simp at h
   | none=>
    rw [hi] at h
    have:=E.ins (l:=f.maps.set at_ x) hi
    by_cases hp:pc=at_
    ·subst hp
     rw [hx] at this
     rw [this];simp
    ·have hm:=(Iu hi).2.2.2.2.2.1
     have hm':mapB { f with maps:=f.maps.set at_ x } xs pc=mapB f xs pc:=by
      simp only [mapB,List.getD_eq_getElem?_getD,List.getElem?_set_ne (Ne.symm hp)]
     rw [hm',if_pos hm] at this
     rw [this]
     simp only [List.length_cons] at h2
     exact E.fnR_map hx c (pc+1) n2 h (by omega) (by omega)
theorem Ext.mdR_map {m m':Md}(E:Ext m m'){nm':List Bool}{at_:Nat}{x:Int}{f0:Fn}(hat:at_<f0.code.length)(hx:mapB { f0 with maps:=f0.maps.set at_ x } (mapsT m f0) at_=false):∀ (l:List Fn) (k n:Nat) (nm:List Bool),mdR [] m l n nm=(none,nm')→l[k]?=some f0→
  (mdR [] m' (l.set k { f0 with maps:=f0.maps.set at_ x }) n nm).1=some (n+k,at_,9)
 | [],k,n,nm,h,hk=>by simp at hk
 | f::l,k,n,nm,h,hk=>by
  rw [mdR] at h
  cases hi:fnR [] m f (mapsT m f) f.code 0 nm with
  | mk o n2=>
   cases o with
   | some r=>obtain⟨a,b⟩:=r;rw [hi] at h;simp at h
   | none=>
    rw [hi] at h
    cases k with
    | zero=>
     simp at hk;subst hk
     rw [List.set_cons_zero,mdR,E.maps]
     have:=E.fnR_map hx _ _ _ hi (Nat.zero_le _) (by omega)
     cases hj:fnR [] m' { f with maps:=f.maps.set at_ x } (mapsT m f) ({ f with maps:=f.maps.set at_ x }:Fn).code 0 nm with
     | mk o n3=>
      rw [hj] at this
      simp only at this
      rw [this];simp
    | succ k=>
     rw [List.set_cons_succ,mdR,show mapsT m' f=mapsT m f from E.maps f f.maps,E.fnR_same _ _ _ hi]
     simp only
     rw [E.mdR_map hat hx l k (n+1) n2 h (by simpa using hk)]
     congr 2;omega
theorem Ql {sk:List Int}{m:Md}{shs:List Shp}(M1:Mod1 m shs)(M2:Mod2 m)(hw:∀ f∈m.funcs,Whole f):withR sk m shs=match (mdR sk m m.funcs 0 (List.replicate m.cases.length false)).1 with | some (n,pc,r)=>some ((n:Int),(pc:Int),r) | none=>none:=by
 unfold withR
 rw [if_neg (Classical.not_not.2 M1),if_neg (Classical.not_not.2 M2),LX hw]
 rfl
set_option linter.all false
attribute [local congr] BD Dx D5 D8 Bs D2 Dw Au Av
theorem Ny {m:Md}{f:Fn}{xs:List (BitVec 64)}{nm':List Bool}:∀ (c:List Ins) (pc:Nat) (nm:List Bool),fnR [] m f xs c pc nm=(none,nm')→∀ j,j<c.length→mapB f xs (pc+j)=true
 | [],pc,nm,h,j,hj=>by simp at hj
 | i::c,pc,nm,h,j,hj=>by
  rw [fnR] at h
  cases hi:insR [] m f xs pc i nm with
  | mk o n2=>
   cases o with
   | some r=>rw [hi] at h;simp at h
   | none=>
    rw [hi] at h
    cases j with
    | zero=>exact(Iu hi).2.2.2.2.2.1
    | succ j=>
     have:=Ny c (pc+1) n2 h j (by simpa using hj)
     rw [show pc+(j+1)=pc+1+j by omega];exact this
theorem N6 {m:Md}{nm':List Bool}:∀ (l:List Fn) (n:Nat) (nm:List Bool),mdR [] m l n nm=(none,nm')→∀ f∈l,∀ j,j<f.code.length→mapB f (mapsT m f) j=true
 | [],n,nm,h,f,hf,j,hj=>by cases hf
 | f::l,n,nm,h,g,hg,j,hj=>by
  rw [mdR] at h
  cases hi:fnR [] m f (mapsT m f) f.code 0 nm with
  | mk o n2=>
   cases o with
   | some r=>obtain⟨a,b⟩:=r;rw [hi] at h;simp at h
   | none=>
    rw [hi] at h
    rcases List.mem_cons.1 hg with rfl | hg
    ·have:=Ny _ _ _ hi j hj
     rwa [Nat.zero_add] at this
    ·exact N6 l (n+1) n2 h g hg j hj
theorem Sr {a b:Int}(ha:0≤a)(ha2:a < 18446744073709551616)(hb:0≤b)(hb2:b < 18446744073709551616)(h0:b≠0):(((BitVec.ofInt 64 a ^^^ BitVec.ofInt 64 b).toNat:Nat):Int)≠a:=by
 intro h
 have e:BitVec.ofInt 64 a ^^^ BitVec.ofInt 64 b=BitVec.ofInt 64 a:=by
  apply BitVec.eq_of_toNat_eq
  have:=BitVec.toNat_ofInt (n:=64) a
  rw [this];omega
 have e2:BitVec.ofInt 64 b=0#64:=by
  have:BitVec.ofInt 64 a ^^^ (BitVec.ofInt 64 a ^^^ BitVec.ofInt 64 b)=BitVec.ofInt 64 a ^^^ BitVec.ofInt 64 a:=by rw [e]
  rw [← BitVec.xor_assoc,BitVec.xor_self,BitVec.zero_xor] at this
  exact this
 have:=congrArg BitVec.toNat e2
 rw [BitVec.toNat_ofInt] at this
 simp at this
 omega
theorem QV {m:Md}{i:Nat}{f f':Fn}(hf:m.funcs[i]?=some f)(e:nom f'=nom f)(n:Int):(fnAt { m with funcs:=m.funcs.set i f' } n).map nom=(fnAt m n).map nom:=by
 have hi:=(List.getElem?_eq_some_iff.1 hf).1
 unfold fnAt
 split
 ·rfl
 ·show((m.funcs.set i f')[n.toNat]?).map nom=(m.funcs[n.toNat]?).map nom
  by_cases hk:i=n.toNat
  ·rw [← hk,List.getElem?_set_self hi,hf,Option.map_some,Option.map_some,e]
  ·rw [List.getElem?_set_ne hk]
theorem Lr {h:Heap}{v:AV}{m:Md}{shs:List Shp}{n k b:Int}(H:MdRd h v m)(hs:m.shapes=shs.map Shp.row)(hsw:∀ s∈shs,s.wf)(hb0:0≤b)(hb1:b < 18446744073709551616)(hq:∀ g,Same [] h g→HG g=some (.bool true,g)) :
  Ok (Cg v (.int .i64 n) (.int .i64 k) (.int .u64 b) h) fun r=>r.1 = .bool true:=by
 obtain⟨sv0,gv0,kv0,cv0,fv0,rfl,hbx,B⟩:=H.box
 obtain⟨g,hg⟩:∃ g,g=h.new (.cells true [sv0,gv0,kv0,cv0,fv0,.int .i64 m.main]):=⟨_,rfl⟩
 have s:Same [] h g:=by rw [hg];exact Same.new _ _
 rw [← hg] at B
 have la:=B.la
 refine Ok.eq ?_ (by simp -implicitDefEqProofs only [Cg,hbx,Ae (.cells true [sv0,gv0,kv0,cv0,fv0,.int .i64 m.main]),← hg,hq g s,la,AO,AF,Option.bind_some,AZ,AY,Ac,AX,AL,AH,AD,Aa,AQ,AE,AM,AC,if_true,if_false,Bool.false_eq_true,AJ,AP,AG,AR,AK,AU,Int.reduceEq,Int.reduceLT,Int.reduceLE,decide_true,decide_false,AB,AA,Ad,Bool.not_true,Bool.not_false,AW]<;>rfl)
 refine An (SB B.rd) ?_
 rintro _ g2 ⟨s2,bb,rfl,hsm⟩
 simp only at s2
 cases bb with
 | true=>exact Ag (v:=.bool true) (g:=g2) (by simp -implicitDefEqProofs only [show ∀ b:Bool,b=b from fun _=>rfl,AO,AF,Option.bind_some,AZ,AY,Ac,AX,AL,AH,AD,Aa,AQ,AE,AM,AC,if_true,if_false,Bool.false_eq_true,AJ,AP,AG,AR,AK,AU,Int.reduceEq,Int.reduceLT,Int.reduceLE,decide_true,decide_false,AB,AA,Ad,Bool.not_true,Bool.not_false,AW]) rfl
 | false=>
 have sm:=(hsm rfl).v
 have small:=hsm rfl
 have B2:=B.mono s2
 have la2:=B2.la
 refine Ok.eq ?_ (by simp -implicitDefEqProofs only [la2,AO,AF,Option.bind_some,AZ,AY,Ac,AX,AL,AH,AD,Aa,AQ,AE,AM,AC,if_true,if_false,Bool.false_eq_true,AJ,AP,AG,AR,AK,AU,Int.reduceEq,Int.reduceLT,Int.reduceLE,decide_true,decide_false,AB,AA,Ad,Bool.not_true,Bool.not_false,AW]<;>rfl)
 refine An (P:=fun r=>Same [] g2 r.2∧r.1 = .bool (withR [] m shs).isNone) (An (Pj B2.rd hs sm) fun v g hv=>Ok.of hv) ?_
 rintro _ g3 ⟨s3,rfl⟩
 simp only at s3
 cases hw:withR [] m shs with
 | some q=>exact Ag (v:=.bool true) (g:=g3) (by simp -implicitDefEqProofs only [Option.isNone_some,AO,AF,Option.bind_some,AZ,AY,Ac,AX,AL,AH,AD,Aa,AQ,AE,AM,AC,if_true,if_false,Bool.false_eq_true,AJ,AP,AG,AR,AK,AU,Int.reduceEq,Int.reduceLT,Int.reduceLE,decide_true,decide_false,AB,AA,Ad,Bool.not_true,Bool.not_false,AW]) rfl
 | none=>
 by_cases c0:b=0
 ·exact Ag (v:=.bool true) (g:=g3) (by simp -implicitDefEqProofs only [Option.isNone_none,eq_true c0,AO,AF,Option.bind_some,AZ,AY,Ac,AX,AL,AH,AD,Aa,AQ,AE,AM,AC,if_true,if_false,Bool.false_eq_true,AJ,AP,AG,AR,AK,AU,Int.reduceEq,Int.reduceLT,Int.reduceLE,decide_true,decide_false,AB,AA,Ad,Bool.not_true,Bool.not_false,AW]) rfl
 by_cases c1:n < 0
 ·exact Ag (v:=.bool true) (g:=g3) (by simp -implicitDefEqProofs only [Option.isNone_none,c0,c1,AO,AF,Option.bind_some,AZ,AY,Ac,AX,AL,AH,AD,Aa,AQ,AE,AM,AC,if_true,if_false,Bool.false_eq_true,AJ,AP,AG,AR,AK,AU,Int.reduceEq,Int.reduceLT,Int.reduceLE,decide_true,decide_false,AB,AA,Ad,Bool.not_true,Bool.not_false,AW]) rfl
 have B3:=B2.mono s3
 have l4:=B3.l4;have ln4:=B3.ln4;have la3:=B3.la
 by_cases c2:(m.funcs.length:Int)≤n
 ·exact Ag (v:=.bool true) (g:=g3) (by simp -implicitDefEqProofs only [Option.isNone_none,c0,c1,c2,l4,ln4,AO,AF,Option.bind_some,AZ,AY,Ac,AX,AL,AH,AD,Aa,AQ,AE,AM,AC,if_true,if_false,Bool.false_eq_true,AJ,AP,AG,AR,AK,AU,Int.reduceEq,Int.reduceLT,Int.reduceLE,decide_true,decide_false,AB,AA,Ad,Bool.not_true,Bool.not_false,AW]) rfl
 by_cases c3:k < 0
 ·exact Ag (v:=.bool true) (g:=g3) (by simp -implicitDefEqProofs only [Option.isNone_none,c0,c1,c2,c3,l4,ln4,AO,AF,Option.bind_some,AZ,AY,Ac,AX,AL,AH,AD,Aa,AQ,AE,AM,AC,if_true,if_false,Bool.false_eq_true,AJ,AP,AG,AR,AK,AU,Int.reduceEq,Int.reduceLT,Int.reduceLE,decide_true,decide_false,AB,AA,Ad,Bool.not_true,Bool.not_false,AW]) rfl
 obtain⟨i,rfl⟩:∃ i:Nat,n=(i:Int):=⟨n.toNat,by omega⟩
 obtain⟨pc,rfl⟩:∃ i:Nat,k=(i:Int):=⟨k.toNat,by omega⟩
 have hi:i<m.funcs.length:=by omega
 obtain⟨f,hf⟩:∃ f,m.funcs[i]?=some f:=⟨_,List.getElem?_eq_getElem hi⟩
 obtain⟨b0,o0,k0,c0',m0,_,ix0,_,_,_,_,ls0,_,_,lm0⟩:=B3.fn hf
 by_cases c4:(f.maps.length:Int)≤(pc:Int)
 ·exact Ag (v:=.bool true) (g:=g3) (by simp -implicitDefEqProofs only [Option.isNone_none,c0,c1,c2,c3,c4,l4,ln4,ix0,ls0,lm0,AO,AF,Option.bind_some,AZ,AY,Ac,AX,AL,AH,AD,Aa,AQ,AE,AM,AC,if_true,if_false,Bool.false_eq_true,AJ,AP,AG,AR,AK,AU,Int.reduceEq,Int.reduceLT,Int.reduceLE,decide_true,decide_false,AB,AA,Ad,Bool.not_true,Bool.not_false,AW]) rfl
 refine Ok.eq ?_ (by simp -implicitDefEqProofs only [Option.isNone_none,c0,c1,c2,c3,c4,l4,ln4,ix0,ls0,lm0,la3,AO,AF,Option.bind_some,AZ,AY,Ac,AX,AL,AH,AD,Aa,AQ,AE,AM,AC,if_true,if_false,Bool.false_eq_true,AJ,AP,AG,AR,AK,AU,Int.reduceEq,Int.reduceLT,Int.reduceLE,decide_true,decide_false,AB,AA,Ad,Bool.not_true,Bool.not_false,AW]<;>rfl)
 refine RQ B3.rd hs hsw sm ?_
 rintro g4 N sv gv kv cv fv bs bg bk bc bf vs e1 e2 e3 e4 g0 s4 l1 l2 n4 bN ⟨gd,hgd,sd,O⟩ hbs he1
 obtain⟨M1,M2,hall,hmd⟩:=OH hw
 have W:=SE B3.rd hs hsw sm
 obtain⟨d1,d2,d3⟩:=small.2.2.1 i f hf
 have lA4:ldA 6 g4 (.ptr (some (N,0)))=some (.agg [sv,gv,kv,cv,fv,.int .i64 m.main]):=by rw [EX bN];rfl
 refine Ok.eq ?_ (by simp -implicitDefEqProofs only [lA4,AO,AF,Option.bind_some,AZ,AY,Ac,AX,AL,AH,AD,Aa,AQ,AE,AM,AC,if_true,if_false,Bool.false_eq_true,AJ,AP,AG,AR,AK,AU,Int.reduceEq,Int.reduceLT,Int.reduceLE,decide_true,decide_false,AB,AA,Ad,Bool.not_true,Bool.not_false,AW]<;>rfl)
 refine An (P:=fun r=>Same [] g4 r.2∧r.1 = .bool (withR [] m shs).isNone) (An (Pj ((O.rd W hs).mono sd.next fun j hj=>sd.get j hj (by simp)) hs sm) fun v g hv=>Ok.of hv) ?_
 rintro _ g5 ⟨s5,rfl⟩
 simp only at s5
 cases bf with
 | none=>have:=O.of.sl.nil rfl;omega
 | some bf=>
 obtain⟨rg,hrg,hdis⟩:=O.of.val
 have vlen:=O.of.len
 obtain⟨w,hwi⟩:∃ w,vs[i]?=some w:=⟨_,List.getElem?_eq_getElem (by omega)⟩
 obtain⟨F,r1,r2,r3,r4⟩:=hrg i w f hwi hf
 obtain⟨fk,fc,fm,yk,yc,ym,rfl,f1,f2,f3,t1,t2,t3⟩:=F
 obtain⟨p1,p2,p3⟩:=O.of.sl.blk bf rfl
 have pv:fv = .sl (some (bf,0)) m.funcs.length (.un 7):=O.of.sl.eq
 cases ym with
 | none=>have:=f3.nil rfl;omega
 | some ym=>
 obtain⟨q1,q2,q3⟩:=f3.blk ym rfl
 have qv:fm = .sl (some (ym,0)) f.maps.length (.un 1):=f3.eq
 have rows7:∀ v∈vs,v.cells.length=7:=fun v hv=>by
  obtain⟨k,hk⟩:=List.getElem?_of_mem hv
  have hkl:=(List.getElem?_eq_some_iff.1 hk).1
  exact(hrg k v _ hk (List.getElem?_eq_getElem (by omega))).1.row.1
 have hix:iaS 7 fv (.int .i64 (i:Int))=some (.ptr (some (bf,i * 7))):=by
  rw [pv,Em _ _ _ _ _ _ ⟨by omega,by omega⟩]
  simp
 have hixm:iaS 1 fm (.int .i64 (pc:Int))=some (.ptr (some (ym,pc))):=by
  rw [qv,Em _ _ _ _ _ _ ⟨by omega,by omega⟩]
  simp
 have sd5:=sd.trans s5
 have hbd:g5.get bf=some (.cells true (vs.flatMap AV.cells)):=(sd5.get _ p1 (by simp)).trans p2
 have hbm:g5.get ym=some (.cells true (f.maps.map (AV.int .u64))):=(sd5.get _ q1 (by simp)).trans q2
 have lm:ldS g5 (.ptr (some (bf,i * 7+6)))=some fm:=by rw [Ah hbd,Nh rows7 hwi (by omega)];rfl
 obtain⟨a,ha⟩:∃ a,f.maps[pc]?=some a:=⟨_,List.getElem?_eq_getElem (by omega)⟩
 have lx:ldS g5 (.ptr (some (ym,pc)))=some (.int .u64 a):=by rw [Ah hbm,List.getElem?_map,ha];rfl
 have k5:g5.get N=g4.get N:=s5.get N (by omega) (by simp)
 have lN:ldS g5 (.ptr (some (N,0+4)))=some fv:=by rw [Ah (k5.trans bN)];rfl
 obtain⟨X,hX⟩:∃ X:Int,X=(((BitVec.ofInt 64 a ^^^ BitVec.ofInt 64 b).toNat:Nat):Int):=⟨_,rfl⟩
 have hxor:binP .xor (.int .u64 a) (.int .u64 b)=some (.int .u64 X):=by rw [hX];exact PG a b
 obtain⟨g6,hg6⟩:∃ g6,g6=g5.put ym (some (.cells true ((f.maps.map (AV.int .u64)).set pc (.int .u64 X)))):=⟨_,rfl⟩
 have st:stP 1 g5 (.ptr (some (ym,pc))) (.int .u64 X)=some (.bot,g6):=by rw [hg6];exact Cj hbm (by rw [List.length_map];omega) rfl
 have s6:Same [ym] g5 g6:=by rw [hg6];exact Same.put _ _ _
 have hym:=t3 ym rfl
 have hymb:ym≠bf:=fun h=>by subst h;have:=r4 _ rfl;omega
 have k6:g6.get N=g4.get N:=by rw [hg6,BP (by omega)];exact k5
 have lA:ldA 6 g6 (.ptr (some (N,0)))=some (.agg [sv,gv,kv,cv,fv,.int .i64 m.main]):=by rw [EX (k6.trans bN)];rfl
 -- the module,changed
 obtain⟨f',hf'⟩:∃ f':Fn,f' = { f with maps:=f.maps.set pc X }:=⟨_,rfl⟩
 have fw:=W.wf f (List.mem_of_getElem? hf)
 have wa:=fw.maps a (List.mem_of_getElem? ha)
 have hXr:0≤X∧X < 18446744073709551616:=by
  rw [hX];have:=(BitVec.ofInt 64 a ^^^ BitVec.ofInt 64 b).isLt;omega
 have fw':f'.wf:=by
  rw [hf']
  refine⟨fw.w1,fw.w2,fw.w3,fw.w4,fw.code,fun x hx=>?_,fw.k,fw.c,by show(f.maps.set pc X).length≤1048576;rw [List.length_set];exact fw.m⟩
  rcases List.mem_or_eq_of_mem_set hx with hx | rfl
  ·exact fw.maps x hx
  ·omega
 have sT:Same [ym] gd g6:=(sd5.sub (by simp)).trans s6
 have nd:=sd.next;have n5:=s5.next
 have hT:∀ j∈[ym],g0.next≤j∧(j<gd.next→j=bf∨((rg i).1≤j∧j<(rg i).2)):=fun j hj=>by
  simp at hj;subst hj
  exact⟨by omega,fun _=>.inr ⟨by omega,by omega⟩⟩
 have hb6:g6.get bf=some (.cells true ((vs.set i (.agg [.int .i64 f.pa,.int .i64 f.ca,.int .i64 f.sl,.int .i64 f.re,fk,fc,fm])).flatMap AV.cells)):=by
  rw [hg6,BP (Ne.symm hymb),hbd]
  congr 3
  apply List.ext_getElem? 
  intro j
  by_cases hj:i=j
  ·subst hj;rw [List.getElem?_set_self (by omega),hwi]
  ·rw [List.getElem?_set_ne hj]
 have FN:FnO g6 (.agg [.int .i64 f.pa,.int .i64 f.ca,.int .i64 f.sl,.int .i64 f.re,fk,fc,fm]) f' 0 g6.next:=by
  rw [hf']
  have k1:=f1.same sT (fun j hj hm=>by simp at hm;subst hm;exact hym.2.2.1 hj)
  have k2:=f2.same sT (fun j hj hm=>by simp at hm;subst hm;exact hym.2.2.2 hj)
  have hn6:g6.next=g5.next:=by rw [hg6];rfl
  refine⟨fk,fc,fm,yk,yc,some ym,rfl,k1,k2,⟨?_,?_,?_,?_,?_⟩,fun j hj=>⟨by omega,by have:=(t1 j hj).2;omega⟩,fun j hj=>⟨by omega,by have:=(t2 j hj).2;omega⟩,fun j hj=>⟨by omega,by cases hj;omega,fun e=>hym.2.2.1 (by cases hj;exact e),fun e=>hym.2.2.2 (by cases hj;exact e)⟩⟩
  ·show((f.maps.set pc X).map (AV.int .u64)).length=(f.maps.set pc X).length * 1
   simp
  ·show((f.maps.set pc X).map (AV.int .u64)).all scalar=true
   rw [List.all_eq_true]
   intro x hx
   obtain⟨_,_,rfl⟩:=List.mem_map.1 hx
   rfl
  ·show fm = .sl (some (ym,0)) (f.maps.set pc X).length (.un 1)
   rw [List.length_set];exact qv
  ·intro h;cases h
  ·intro j hj
   cases hj
   refine⟨by omega,?_,by show 0<(f.maps.set pc X).length;rw [List.length_set];exact q3⟩
   show g6.get ym=some (.cells true ((f.maps.set pc X).map (AV.int .u64)))
   rw [hg6,Am,List.map_set]
 have MD:=O.upd W hs hrg hdis hi sT hT hb6 FN fw'
 have sm':SmV { m with funcs:=m.funcs.set i f' }:=sm.upd hf (by rw [hf'];show f.code.length≤4096;omega) (by rw [hf'];show(f.maps.set pc X).length≤4097;rw [List.length_set];omega) (by rw [hf'];show f.kinds.length≤100;omega)
 have hfw:=hall f (List.mem_of_getElem? hf)
 have E:Ext m { m with funcs:=m.funcs.set i f' }:=⟨rfl,rfl,QV hf (by rw [hf'];rfl),Nat.le_refl _,[],by simp⟩
 have hpc:pc<f.code.length:=by have:=hfw.a13;omega
 cases hr:mdR [] m m.funcs 0 (List.replicate m.cases.length false) with
 | mk o nm'=>
 rw [hr] at hmd
 simp only at hmd
 subst hmd
 have hma:a=((((mapsT m f).getD pc 0#64).toNat:Nat):Int):=by
  have:=N6 _ _ _ hr f (List.mem_of_getElem? hf) pc hpc
  simpa [mapB,List.getD_eq_getElem?_getD,ha] using this
 have hx:mapB { f with maps:=f.maps.set pc X } (mapsT m f) pc=false:=by
  simp only [mapB,List.getD_eq_getElem?_getD,List.getElem?_set_self (show pc<f.maps.length by omega),Option.getD_some]
  rw [List.getD_eq_getElem?_getD] at hma
  rw [← hma,decide_eq_false_iff_not,hX]
  exact Sr wa.1 wa.2 hb0 hb1 c0
 have hres:=E.mdR_map hpc hx m.funcs i 0 _ hr hf
 have hwh:∀ f''∈m.funcs.set i f',Whole f'':=fun f'' hf''=>by
  rcases List.mem_or_eq_of_mem_set hf'' with h | rfl
  ·exact hall f'' h
  ·rw [hf']
   exact⟨hfw.a1,hfw.a2,hfw.a3,hfw.a4,hfw.a5,hfw.a6,hfw.a7,hfw.a8,hfw.a9,hfw.a10,hfw.a11,hfw.a12,by show((f.maps.set pc X).length:Int)=f.code.length;rw [List.length_set];exact hfw.a13⟩
 have hwR:withR [] { m with funcs:=m.funcs.set i f' } shs=some ((i:Int),(pc:Int),9):=by
  rw [Ql (M1.fs (by simp)) (M2.upd hf (by rw [hf']) (by rw [hf']) (by rw [hf'])) hwh]
  rw [← hf'] at hres
  show(match (mdR [] { m with funcs:=m.funcs.set i f' } (m.funcs.set i f') 0 (List.replicate m.cases.length false)).1 with | some (n,pc,r)=>some ((n:Int),(pc:Int),r) | none=>none)=_
  rw [hres,Nat.zero_add]
 refine Ok.eq ?_ (by simp -implicitDefEqProofs only [hw,Option.isNone_none,lN,hix,lm,hixm,lx,hxor,st,lA,AO,AF,Option.bind_some,AZ,AY,Ac,AX,AL,AH,AD,Aa,AQ,AE,AM,AC,if_true,if_false,Bool.false_eq_true,AJ,AP,AG,AR,AK,AU,Int.reduceEq,Int.reduceLT,Int.reduceLE,decide_true,decide_false,AB,AA,Ad,Bool.not_true,Bool.not_false,AW]<;>rfl)
 refine An (Nj MD hs sm') ?_
 rw [hwR]
 rintro _ g8 ⟨s8,rfl⟩
 refine Ok.eq ?_ (by simp -implicitDefEqProofs only [show ∀ (a b:AV),extractV 0 (.tup [a,b])=some a from fun _ _=>rfl,show ∀ (a b:AV),extractV 1 (.tup [a,b])=some b from fun _ _=>rfl,Option.isNone_some,AO,AF,Option.bind_some,AZ,AY,Ac,AX,AL,AH,AD,Aa,AQ,AE,AM,AC,if_true,if_false,Bool.false_eq_true,AJ,AP,AG,AR,AK,AU,Int.reduceEq,Int.reduceLT,Int.reduceLE,decide_true,decide_false,AB,AA,Ad,Bool.not_true,Bool.not_false,AW]<;>rfl)
 refine EK (cs:=faultO (some ((i:Int),(pc:Int),9))) (by rfl) (by rfl) (by rfl) fun g9 s9 n9 b9=>?_
 have y0:ldS g9 (.ptr (some (g8.next,0+0)))=some (.int .i64 (i:Int)):=by rw [Ah b9];rfl
 have y1:ldS g9 (.ptr (some (g8.next,0+1)))=some (.int .i64 (pc:Int)):=by rw [Ah b9];rfl
 have y2:ldS g9 (.ptr (some (g8.next,0+2)))=some (.int .i64 9):=by rw [Ah b9];rfl
 exact Ag (v:=.bool true) (g:=g9) (by simp -implicitDefEqProofs only [y0,y1,y2,AO,AF,Option.bind_some,AZ,AY,Ac,AX,AL,AH,AD,Aa,AQ,AE,AM,AC,if_true,if_false,Bool.false_eq_true,AJ,AP,AG,AR,AK,AU,Int.reduceEq,Int.reduceLT,Int.reduceLE,decide_true,decide_false,AB,AA,Ad,Bool.not_true,Bool.not_false,AW]) rfl
end Go.Ab.F
