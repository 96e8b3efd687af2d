import Derived.Test.YtdmgkkcjnmmfmaaGreatVlb
namespace Go.Ab.F
open Go Go.Ab
set_option linter.all false
set_option linter.all false
attribute [local congr] BI D1 Dy D2 Bu D3 Dz Aw Av
theorem RZ {h:Heap}{x:D}{r:List AV}(H:Rep h shTy x r):∃ s:Shp,s.wf∧r=s.row:=by
 cases x<;>simp only [shTy,Rep] at H
 rename_i ys
 rcases ys with _ | ⟨y0,_ | ⟨y1,_ | ⟨y2,_ | ⟨y3,ys⟩⟩⟩⟩<;>simp only [Reps,and_false] at H
 obtain⟨t0,t1,t2,t3⟩:=H
 cases y0<;>simp only [Rep] at t0
 cases y1<;>simp only [Rep] at t1
 cases y2<;>simp only [Rep] at t2
 rename_i a b c
 have hc:=Pi t2.2
 refine⟨⟨a,b,BitVec.ofNat 64 c.toNat⟩,⟨t0.2,t1.2⟩,?_⟩
 have e:(((BitVec.ofNat 64 c.toNat).toNat:Nat):Int)=c:=by rw [BitVec.toNat_ofNat];omega
 show r = [.int .i64 a,.int .i64 b,.int .u64 (((BitVec.ofNat 64 c.toNat).toNat:Nat):Int)]
 rw [e,← List.take_append_drop (Ty.size (.int .i64)) r,t0.1,← List.take_append_drop (Ty.size (.int .i64)) (List.drop _ r),t1.1,← List.take_append_drop (Ty.size (.int .u64)) (List.drop _ (List.drop _ r)),t2.1,t3];rfl
theorem Q0 {h:Heap}{x:D}{vs:List AV}(hl:vs.length=6)(H:Rep h mdTy x vs):∃ m,MdRd h (argAV mdTy vs) m∧∃ shs:List Shp,m.shapes=shs.map Shp.row∧∀ s∈shs,s.wf:=by
 cases x<;>simp only [mdTy,Rep] at H
 rename_i ys
 rcases vs with _ | ⟨r0,_ | ⟨r1,_ | ⟨r2,_ | ⟨r3,_ | ⟨r4,_ | ⟨r5,_ | ⟨r6,r⟩⟩⟩⟩⟩⟩⟩<;>simp at hl
 rcases ys with _ | ⟨y0,_ | ⟨y1,_ | ⟨y2,_ | ⟨y3,_ | ⟨y4,_ | ⟨y5,_ | ⟨y6,ys⟩⟩⟩⟩⟩⟩⟩<;>simp only [Reps,and_false] at H
 simp only [Ty.size,List.take_succ_cons,List.take_zero,List.drop_succ_cons,List.drop_zero] at H
 obtain⟨t0,t1,t2,t3,t4,t5,_⟩:=H
 cases y5<;>simp only [Rep] at t5
 simp only [List.cons.injEq,and_true] at t5
 obtain⟨rows0,s1,s2⟩:=MH t0
 obtain⟨shs,s3,rfl⟩:=Jv Shp.row Shp.wf (fun H=>RZ H) s2
 obtain⟨globals,g1,g2⟩:=Mk t1
 obtain⟨consts,k1,k2,k3⟩:=PF t2
 obtain⟨rows,c1,c2⟩:=MH t3
 obtain⟨cases,c3,rfl⟩:=Jv Cas.row Cas.wf (fun H=>RN H) c2
 obtain⟨fs,f1,f2⟩:=SP t4
 have hc:cases.length≤maxLen:=by
  obtain⟨cs,_,h2,_⟩:=c1
  simpa using h2
 refine⟨⟨shs.map Shp.row,globals,consts,cases,fs,_⟩,⟨r0,r1,r2,r3,r4,by rw [t5.1];rfl,s1,g1.w,k1.w,c1,f1,t5.2,g2,k3,hc,f2,KQ t3,KQ t4,c3,fun r hr=>?_,k2⟩,shs,rfl,s3⟩
 obtain⟨s,_,rfl⟩:=List.mem_map.1 hr
 exact⟨_,_,_,rfl⟩
theorem FnRd.wf {h:Heap}{r:List AV}{f:Fn}(H:FnRd h r f)(h1:f.kinds.length≤1048576)(h2:f.code.length≤1048576)(h3:f.maps.length≤1048576):f.wf:=by
 obtain⟨_,_,_,_,_,_,_,w1,w2,w3,w4,_,_,_,_,_,_,hc,hm⟩:=H
 exact⟨w1,w2,w3,w4,hc,fun n hn=>by have:=Pi (hm n hn);omega,h1,h2,h3⟩
theorem FnsRd.mem {h:Heap}{v:AV}{fs:List Fn}(H:FnsRd h v fs){f:Fn}(hf:f∈fs):∃ r,FnRd h r f:=by
 obtain⟨i,hi⟩:=List.getElem?_of_mem hf
 obtain⟨b,o,_,_,_,_,_,FR,_⟩:=H.at' hi
 exact⟨_,FR⟩
theorem SX {h:Heap}{v:AV}{m:Md}{shs:List Shp}(H:MdRd h v m)(hs:m.shapes=shs.map Shp.row)(hw:∀ s∈shs,s.wf)(sm:SmV m):m.wf shs:=by
 obtain⟨_,_,_,_,_,_,_,_,_,_,hF,wM,_,_,_,_,_,_,hCw,_,hKw⟩:=H
 have h4:=sm.2.2.2.1
 rw [hs,List.length_map] at h4
 refine⟨hw,hKw,hCw,fun f hf=>?_,wM,by omega,by have:=sm.2.2.2.2.1;omega,by have:=sm.2.2.2.2.2;omega,by have:=sm.2.1;omega,by have:=sm.1;omega⟩
 obtain⟨r,FR⟩:=hF.mem hf
 obtain⟨i,hi⟩:=List.getElem?_of_mem hf
 have:=sm.2.2.1 i f hi
 exact FR.wf (by omega) (by omega) (by omega)
theorem L9 {α:Type}{f:α→List Nat}{k:Nat}:∀ {l:List α},(∀ x∈l,(f x).length≤k)→(l.flatMap f).length≤k*l.length
 | [],_=>by simp
 | x::l,h=>by
  have h1:=h x (List.mem_cons_self ..)
  have h2:=L9 (l:=l) fun y hy=>h y (List.mem_cons_of_mem _ hy)
  rw [List.flatMap_cons,List.length_append,List.length_cons,Nat.mul_succ];omega
theorem Ix {l:List Int}(h:∀ n∈l,wfI n):(intsB l).length≤10*l.length:=L9 fun n hn=>C1 (LG (by have:=EW (h n hn);omega) (by have:=EW (h n hn);omega))
theorem MX {l:List Bool}(h:l.length≤1048576):(flagsB l).length≤10+10*l.length:=by
 have h1:=C1 (u:=l.length) (by omega)
 have h2:=L9 (f:=fun b=>numB (flgN b)) (k:=10) (l:=l) fun x _=>C1 (by cases x<;>simp [flgN])
 rw [flagsB,List.length_append];omega
theorem SN {f:Fn}(w:f.wf):(fnE f).length≤70+10*f.kinds.length+50*f.code.length+10*f.maps.length:=by
 have h1:=Ix (l:=[f.pa,f.ca,f.sl,f.re]) (by simp only [List.mem_cons,List.not_mem_nil,or_false,forall_eq_or_imp,forall_eq];exact⟨w.w1,w.w2,w.w3,w.w4⟩)
 have h2:=MX w.k
 have h3:=C1 (u:=f.code.length) (by have:=w.c;omega)
 have h4:=C1 (u:=f.maps.length) (by have:=w.m;omega)
 have h5:=L9 (f:=insE) (k:=50) (l:=f.code) fun i hi=>by
  have:=Ix (l:=[i.op,i.a,i.b,i.c,i.d]) (by simp only [List.mem_cons,List.not_mem_nil,or_false,forall_eq_or_imp,forall_eq];exact w.code i hi)
  simpa [insE] using this
 have h6:=L9 (f:=fun v:Int=>numB v.toNat) (k:=10) (l:=f.maps) fun n hn=>C1 (by have:=w.maps n hn;omega)
 simp only [List.length_cons,List.length_nil] at h1
 simp only [fnE,List.length_append];omega
theorem Rv {m:Md}{shs:List Shp}(W:m.wf shs)(sm:SmV m)(hs:m.shapes=shs.map Shp.row):(encB m shs).length≤2 ^ 30:=by
 have l1:=sm.1;have l2:=sm.2.1;have l4:=sm.2.2.2.1;have l5:=sm.2.2.2.2.1;have l6:=sm.2.2.2.2.2
 rw [hs,List.length_map] at l4
 have h1:=C1 (u:=shs.length) (by omega)
 have h2:=L9 (f:=shpE) (k:=30) (l:=shs) fun s hs=>by
  have w:=W.ws s hs
  have:=Ix (l:=[s.kind,s.fields]) (by simp only [List.mem_cons,List.not_mem_nil,or_false,forall_eq_or_imp,forall_eq];exact w)
  have h2:=C1 s.map.isLt
  simp only [List.length_cons,List.length_nil] at this
  rw [shpE,List.length_append];omega
 have h3:=MX (l:=m.globals) (by omega)
 have h4:=C1 (u:=m.consts.length) (by omega)
 have h5:=L9 (f:=fun v:Int=>numB (zigN v)) (k:=10) (l:=m.consts) fun n hn=>C1 (LG (by have:=EW (W.wk n hn);omega) (by have:=EW (W.wk n hn);omega))
 have h6:=C1 (u:=m.cases.length) (by omega)
 have h7:=L9 (f:=casE) (k:=40) (l:=m.cases) fun c hc=>by
  have:=Ix (l:=[c.kind,c.chan,c.val,c.to]) (by simp only [List.mem_cons,List.not_mem_nil,or_false,forall_eq_or_imp,forall_eq];exact W.wc c hc)
  simpa [casE] using this
 have h8:=C1 (u:=m.funcs.length) (by omega)
 have h9:=L9 (f:=fnE) (k:=300000) (l:=m.funcs) fun f hf=>by
  obtain⟨i,hi⟩:=List.getElem?_of_mem hf
  have:=sm.2.2.1 i f hi
  have:=SN (W.wf f hf)
  omega
 have h10:=Ix (l:=[m.main]) (by simpa using W.wm)
 simp only [List.length_cons,List.length_nil] at h10
 simp only [encB,modE,List.length_append,List.length_cons,List.length_nil];omega
theorem HQ {u x:Nat}(h:x∈numB u):x < 256:=MY u u (Nat.le_refl _) x h
theorem Po {m:Md}{shs:List Shp}:∀ x∈encB m shs,x < 256:=by
 have hi:∀ (l:List Int) x,x∈intsB l→x < 256:=fun l x h=>by obtain⟨n,_,h⟩:=List.mem_flatMap.1 h;exact HQ h
 have hf:∀ (l:List Bool) x,x∈flagsB l→x < 256:=fun l x h=>by
  rcases List.mem_append.1 h with h | h
  ·exact HQ h
  ·obtain⟨n,_,h⟩:=List.mem_flatMap.1 h;exact HQ h
 have hfn:∀ (f:Fn) x,x∈fnE f→x < 256:=fun f x h=>by
  simp only [fnE,List.mem_append,List.mem_flatMap] at h
  rcases h with((((h | h) | h) | ⟨_,_,h⟩) | h) | ⟨_,_,h⟩
  ·exact hi _ x h
  ·exact hf _ x h
  ·exact HQ h
  ·exact hi _ x h
  ·exact HQ h
  ·exact HQ h
 intro x h
 simp only [encB,modE,List.mem_append,List.mem_flatMap] at h
 rcases h with h | ((((((((h | ⟨s,_,h⟩) | h) | h) | ⟨_,_,h⟩) | h) | ⟨c,_,h⟩) | h) | ⟨f,_,h⟩) | h
 ·simp at h;omega
 ·exact HQ h
 ·rcases List.mem_append.1 h with h | h
  ·exact hi _ x h
  ·exact HQ h
 ·exact hf _ x h
 ·exact HQ h
 ·exact HQ h
 ·exact HQ h
 ·exact hi _ x h
 ·exact HQ h
 ·exact hfn _ x h
 ·exact hi _ x h
theorem _root_.Go.Ab.SlB.rd {g:Heap}{b:Option Nat}{sz n:Nat}{v:AV}{cs:List AV}(H:SlB g b sz v cs n):RdW g sz v cs n:=by
 refine⟨H.len,?_⟩
 cases b with
 | none=>exact .inl ⟨H.eq,H.nil rfl⟩
 | some b=>
  obtain⟨h1,h2,h3⟩:=H.blk b rfl
  exact .inr ⟨b,0,.un sz,H.eq,h1,fun _=>⟨true,[],[],rfl,by rw [h2];simp⟩⟩
theorem _root_.Go.Ab.SlB.cap {g:Heap}{b:Option Nat}{sz n:Nat}{v:AV}{cs:List AV}(H:SlB g b sz v cs n):CapV sz v:=by
 cases b with
 | none=>exact .inl H.eq
 | some b=>exact .inr ⟨_,_,_,H.eq,rfl⟩
theorem Mu {sz:Nat}:∀ (l:List (List AV)) (i:Nat) r,(∀ r∈l,r.length=sz)→l[i]?=some r→span l.flatten (i*sz) sz=some r
 | [],i,r,_,h=>by simp at h
 | x::l,0,r,hl,h=>by
  simp at h;subst h
  have hx:=hl x (List.mem_cons_self ..)
  rw [Nat.zero_mul,Bi _ _ _ (by simp;omega),List.drop_zero,List.flatten_cons,List.take_append_of_le_length (by omega),List.take_of_length_le (by omega)]
 | x::l,i+1,r,hl,h=>by
  have hx:=hl x (List.mem_cons_self ..)
  have ih:=Mu l i r (fun y hy=>hl y (List.mem_cons_of_mem _ hy)) (by simpa using h)
  have hle:=Gf ih
  rw [Bi _ _ _ hle] at ih
  rw [List.flatten_cons,Bi _ _ _ (by rw [List.length_append,Nat.succ_mul];omega),List.drop_append,List.drop_eq_nil_of_le (by rw [Nat.succ_mul];omega),List.nil_append,show(i+1)*sz-x.length=i*sz by rw [Nat.succ_mul];omega]
  exact ih
theorem _root_.Go.Ab.SlB.rows {g:Heap}{b:Option Nat}{sz:Nat}{v:AV}{l:List (List AV)}{n:Nat}(H:SlB g b sz v l.flatten n)(hn:n=l.length)(hl:∀ r∈l,r.length=sz)(hm:l.length≤1048576):RwC g sz v l:=
 ⟨l.flatten,by rw [← hn];exact H.rd,by rw [mxl];omega,fun i r hi=>Mu l i r hl hi⟩
theorem FnO.rd {g:Heap}{v:AV}{f:Fn}{lo hi:Nat}(H:FnO g v f lo hi)(w:f.wf):∃ kv cv mv,v = .agg [.int .i64 f.pa,.int .i64 f.ca,.int .i64 f.sl,.int .i64 f.re,kv,cv,mv]∧FnRd g [.int .i64 f.pa,.int .i64 f.ca,.int .i64 f.sl,.int .i64 f.re,kv,cv,mv] f:=by
 obtain⟨kv,cv,mv,bk,bc,bm,rfl,h1,h2,h3,_⟩:=H
 have k1:=w.k;have k2:=w.c;have k3:=w.m
 refine⟨kv,cv,mv,rfl,kv,cv,mv,rfl,h1.rd,h2.rows (by simp) (fun r hr=>?_) (by simpa using w.c),h3.rd,w.w1,w.w2,w.w3,w.w4,by rw [mxl];omega,by rw [mxl];omega,by rw [mxl];omega,h1.cap,h2.cap,h3.cap,w.code,fun n hn=>?_⟩
 ·obtain⟨i,_,rfl⟩:=List.mem_map.1 hr;rfl
 ·have:=w.maps n hn
  simp only [Lit.wf,Bool.and_eq_true,decide_eq_true_eq]
  have e1:IntKind.u64.min=0:=rfl
  have e2:IntKind.u64.max=18446744073709551615:=rfl
  omega
theorem K8:∀ vs:List AV,vs.flatMap AV.cells=(vs.map AV.cells).flatten
 | []=>rfl
 | v::vs=>by rw [List.flatMap_cons,List.map_cons,List.flatten_cons,K8 vs]
theorem LsO.fns {g0 g:Heap}{v:AV}{fs:List Fn}{b:Option Nat}{vs:List AV}(L:LsO g0 g 7 v fs FnO b vs)(hw:∀ f∈fs,f.wf)(hl:fs.length≤1048576):FnsRd g v fs:=by
 obtain⟨rg,hrg,_⟩:=L.val
 have key:∀ (k:Nat) w f,vs[k]?=some w→fs[k]?=some f→∃ kv cv mv,w = .agg [.int .i64 f.pa,.int .i64 f.ca,.int .i64 f.sl,.int .i64 f.re,kv,cv,mv]∧FnRd g [.int .i64 f.pa,.int .i64 f.ca,.int .i64 f.sl,.int .i64 f.re,kv,cv,mv] f:=fun k w f h1 h2=>(hrg k w f h1 h2).1.rd (hw f (List.mem_of_getElem? h2))
 have hS:=L.sl
 rw [K8] at hS
 refine⟨vs.map AV.cells,hS.rows (by rw [List.length_map,L.len]) (fun r hr=>?_) (by rw [List.length_map,L.len];exact hl),by rw [List.length_map,L.len],fun i r f hr hf=>?_⟩
 ·obtain⟨w,hw,rfl⟩:=List.mem_map.1 hr
  obtain⟨i,hi⟩:=List.getElem?_of_mem hw
  obtain⟨f,hf⟩:∃ f,fs[i]?=some f:=⟨_,List.getElem?_eq_getElem (by have:=(List.getElem?_eq_some_iff.1 hi).1;rw [← L.len];exact this)⟩
  obtain⟨kv,cv,mv,rfl,_⟩:=key i w f hi hf
  rfl
 ·rw [List.getElem?_map] at hr
  obtain⟨w,hw,rfl⟩:=Option.map_eq_some_iff.1 hr
  obtain⟨kv,cv,mv,rfl,FR⟩:=key i w f hw hf
  exact FR
theorem MdO.rd {g0 g:Heap}{v:AV}{m:Md}{shs:List Shp}{sv gv kv cv fv:AV}{bs bg bk bc bf:Option Nat}{vs:List AV}{e1 e2 e3 e4:Nat}(O:MdO g0 g v m shs sv gv kv cv fv bs bg bk bc bf vs e1 e2 e3 e4)(W:m.wf shs)(hs:m.shapes=shs.map Shp.row):MdRd g v m:=by
 have l1:=W.ls;have l2:=W.lg;have l3:=W.lk;have l4:=W.lc;have l5:=W.lf
 refine⟨sv,gv,kv,cv,fv,O.eq,?_,O.og.rd,O.ok.rd,O.oc.rows (by simp) (fun r hr=>?_) (by simpa using W.lc),O.of.fns W.wf W.lf,W.wm,by rw [mxl];omega,by rw [mxl];omega,by rw [mxl];omega,by rw [mxl];omega,O.oc.cap,O.of.sl.cap,W.wc,fun r hr=>?_,W.wk⟩
 ·rw [hs]
  exact O.os.rows (by simp) (fun r hr=>by obtain⟨i,_,rfl⟩:=List.mem_map.1 hr;rfl) (by simpa using W.ls)
 ·obtain⟨i,_,rfl⟩:=List.mem_map.1 hr;rfl
 ·rw [hs] at hr
  obtain⟨s,_,rfl⟩:=List.mem_map.1 hr
  exact⟨_,_,_,rfl⟩
set_option linter.all false
attribute [local congr] BI D1 Dy D2 Bu D3 Dz Aw Av
abbrev zMd:List AV:=[(AV.sl none 0 (.ex 0)),(AV.sl none 0 (.ex 0)),(AV.sl none 0 (.ex 0)),(AV.sl none 0 (.ex 0)),(AV.sl none 0 (.ex 0)),(AV.int .i64 0)]
theorem LsO.sc5 {g0 g:Heap}{v:AV}{m:Md}{shs:List Shp}{sv gv kv cv fv:AV}{bs bg bk bc bf:Option Nat}{vs:List AV}{e1 e2 e3 e4:Nat}(O:MdO g0 g v m shs sv gv kv cv fv bs bg bk bc bf vs e1 e2 e3 e4):([sv,gv,kv,cv,fv,.int .i64 m.main]:List AV).all scalar=true:=by
 simp only [List.all_cons,List.all_nil,O.os.scv,O.og.scv,O.ok.scv,O.oc.scv,O.of.sl.scv,Bool.and_true,Bool.true_and];rfl
theorem Rf {R:Type}{h:Heap}{v:AV}{m:Md}{shs:List Shp}(H:MdRd h v m)(hs:m.shapes=shs.map Shp.row)(hsw:∀ s∈shs,s.wf)(sm:SmV m){K:AV→AV→Heap→Option R}{Q:R→Prop}
  (hk:∀ g N sv gv kv cv fv bs bg bk bc bf vs e1 e2 e3 e4 g0,Same [] h g→h.next≤g0.next→g0.next≤N→g.next=N+1→g.get N=some (.cells true [sv,gv,kv,cv,fv,.int .i64 m.main])→
   (∃ gd,gd.next=N∧Same [] gd g∧MdO g0 gd (.agg [sv,gv,kv,cv,fv,.int .i64 m.main]) m shs sv gv kv cv fv bs bg bk bc bf vs e1 e2 e3 e4)→(∀ j,bs=some j→h.next≤j)→h.next≤e1→Ok (K (.ptr (some (N,0))) (.int .i64 0) g) Q) :
  Ok (cl (EL v h) fun t h'=>cl (EJ t h') fun t' h''=>(extractV 0 t').bind fun a=>(extractV 1 t').bind fun b=>mk Heap.new (some (Blk.cells true zMd,fun i=>AV.ptr (some (i,0)))) h'' fun p h3=>cl (stP 6 h3 p a) fun _ h4=>K p b h4) Q:=by
 have W:=SX H hs hsw sm
 have hle:=Rv W sm hs
 refine Ao (Pg H hs hsw sm hle) ?_
 rintro x g1 ⟨s1,b,c,hb1,hb2,e,hc,hb⟩
 simp only at s1 e hb2 hb
 subst e
 refine Ao (PO hb hb2 (by rcases hc with h | h;exact .inl h;exact .inr ⟨_,h,Nat.le_refl _⟩) Po hle W) ?_
 rintro x g2 ⟨s2,v2,sv,gv,kv,cv,fv,bs,bg,bk,bc,bf,vs,e1,e2,e3,e4,g0,e,O,l1,l2,l3,l4⟩
 simp only at s2 e O l2
 subst e
 have ev:=O.eq
 subst ev
 refine Ok.eq ?_ (by simp -implicitDefEqProofs only [show extractV 0 (AV.tup [.agg [sv,gv,kv,cv,fv,.int .i64 m.main],.int .i64 0])=some (.agg [sv,gv,kv,cv,fv,.int .i64 m.main]) from rfl,show extractV 1 (AV.tup [.agg [sv,gv,kv,cv,fv,.int .i64 m.main],.int .i64 0])=some (.int .i64 0) from rfl,Option.bind_some]<;>rfl)
 refine EV (by rfl) (by rfl) (LsO.sc5 O) fun g3 s3 n3 b3=>?_
 have:=s1.next;have:=s2.next
 exact hk g3 g2.next sv gv kv cv fv bs bg bk bc bf vs e1 e2 e3 e4 g0 ((s1.trans s2).trans s3) (by omega) (by omega) n3 b3 ⟨g2,rfl,s3,O⟩ (fun j hj=>by have:=l3 j hj;omega) (by omega)
theorem FnO.row {g:Heap}{v:AV}{f:Fn}{lo hi:Nat}(H:FnO g v f lo hi):v.cells.length=7∧v.cells.all scalar=true:=by
 obtain⟨kv,cv,mv,bk,bc,bm,rfl,h1,h2,h3,_⟩:=H
 refine⟨rfl,?_⟩
 show([.int .i64 f.pa,.int .i64 f.ca,.int .i64 f.sl,.int .i64 f.re,kv,cv,mv]:List AV).all scalar=true
 simp only [List.all_cons,List.all_nil,h1.scv,h2.scv,h3.scv,Bool.and_true];rfl
set_option linter.all false
attribute [local congr] BI D1 Dy D2 Bu D3 Dz Aw Av
theorem OA {sk:List Int}{m:Md}{shs:List Shp}(h:withR sk m shs=none):Mod1 m shs∧Mod2 m∧(∀ f∈m.funcs,Whole f)∧(mdR sk m m.funcs 0 (List.replicate m.cases.length false)).1=none:=by
 unfold withR at h
 split at h
 ·cases h
 ·rename_i h1
  split at h
  ·cases h
  ·rename_i h2
   cases hw:fbW m.funcs 0 with
   | some n=>rw [hw] at h;cases h
   | none=>
    rw [hw] at h
    have key:∀ (l:List Fn) n,fbW l n=none→∀ f∈l,Whole f:=by
     intro l
     induction l with
     | nil=>intro n _ f hf;cases hf
     | cons g l ih=>
      intro n hn f hf
      rw [fbW] at hn
      split at hn
      ·rcases List.mem_cons.1 hf with rfl | hf
       ·assumption
       ·exact ih _ hn f hf
      ·cases hn
    refine⟨Classical.not_not.1 h1,Classical.not_not.1 h2,key _ _ hw,?_⟩
    simp only at h
    cases hm:(mdR sk m m.funcs 0 (List.replicate m.cases.length false)).1 with
    | none=>rfl
    | some r=>obtain⟨a,b,c⟩:=r;rw [hm] at h;cases h
theorem Mod1.fs {m:Md}{shs:List Shp}(M:Mod1 m shs){fs:List Fn}(hl:fs.length=m.funcs.length):Mod1 { m with funcs:=fs } shs:=
 ⟨M.s1,M.s2,M.s3,M.s4,M.s5,M.s6,by show ¬ (128:Int)<fs.length;rw [hl];exact M.s7,by show ¬ (fs.length:Int) < 1;rw [hl];exact M.s8⟩
set_option linter.all false
def nom (f:Fn):Fn:={ f with maps:=[] }
structure Ext (m m':Md):Prop where
 sh:m'.shapes=m.shapes
 ca:m'.cases=m.cases
 fn:∀ n,(fnAt m' n).map nom=(fnAt m n).map nom
 ks:m.consts.length≤m'.consts.length
 gl:∃ t,m'.globals=m.globals++t
section
variable {m m':Md}(E:Ext m m')
include E
theorem Ext.cas (a b:Int):casesOf m' a b=casesOf m a b:=by unfold casesOf;rw [E.ca]
theorem Ext.isS (n:Int):(fnAt m' n).isSome=(fnAt m n).isSome:=by
 have:=E.fn n
 cases h:fnAt m' n<;>cases h':fnAt m n<;>simp_all
theorem Ext.fnDq (n:Int):nom (fnD m' n)=nom (fnD m n):=by
 have:=E.fn n
 unfold fnD
 cases h:fnAt m' n<;>cases h':fnAt m n<;>simp_all
theorem Ext.pa (n:Int):(fnD m' n).pa=(fnD m n).pa:=by show(nom (fnD m' n)).pa=(nom (fnD m n)).pa;rw [E.fnDq n]
theorem Ext.cap (n:Int):(fnD m' n).ca=(fnD m n).ca:=by show(nom (fnD m' n)).ca=(nom (fnD m n)).ca;rw [E.fnDq n]
theorem Ext.re (n:Int):(fnD m' n).re=(fnD m n).re:=by show(nom (fnD m' n)).re=(nom (fnD m n)).re;rw [E.fnDq n]
theorem Ext.kinds (n:Int):(fnD m' n).kinds=(fnD m n).kinds:=by show(nom (fnD m' n)).kinds=(nom (fnD m n)).kinds;rw [E.fnDq n]
theorem Ext.fnPq (n:Int):fnP m' n=fnP m n:=by
 have:=E.fn n
 unfold fnP
 cases h:fnAt m' n<;>cases h':fnAt m n<;>simp_all
 rename_i a b
 show(nom a).pa=(nom b).pa
 rw [this]
theorem Ext.fnCq (n:Int):fnC m' n=fnC m n:=by
 have:=E.fn n
 unfold fnC
 cases h:fnAt m' n<;>cases h':fnAt m n<;>simp_all
 rename_i a b
 show(nom a).ca=(nom b).ca
 rw [this]
theorem Ext.reads (i:Ins):readsL m' i=readsL m i:=by simp only [readsL,E.fnPq,E.fnCq,E.cas]
theorem Ext.slots (f:Fn)(l:List Int)(i:Ins):slotsB m' { f with maps:=l } i=slotsB m f i:=by
 simp only [slotsB,E.pa,E.cap,E.cas,E.reads];rfl
theorem Ext.shape (n k:Int):shapeB m' n k=shapeB m n k:=by unfold shapeB;rw [E.sh]
theorem Ext.fresh (i:Ins)(nm:List Bool):freshR m' i nm=freshR m i nm:=by
 have e:casB m' i=casB m i:=by unfold casB;rw [E.ca]
 unfold freshR
 rw [e,E.cas]
theorem Ext.glt {n:Int}(h:n<m.globals.length):n<m'.globals.length:=by
 obtain⟨t,e⟩:=E.gl
 rw [e,List.length_append];omega
theorem Ext.thereBq {i:Ins}(h:thereB m i=true):thereB m' i=true:=by
 have hk:=E.ks
 by_cases c0:i.op=0
 ·simp only [thereB,if_pos c0,Bool.and_eq_true,decide_eq_true_eq] at h ⊢
  exact⟨h.1,by omega⟩
 by_cases c1:i.op=34
 ·simp [thereB,c1] at h ⊢
  exact⟨h.1,E.glt h.2⟩
 by_cases c2:i.op=35
 ·simp [thereB,c2] at h ⊢
  exact⟨h.1,E.glt h.2⟩
 simp only [thereB,if_neg c0,if_neg c1,if_neg c2,E.shape,E.isS,E.cap,E.re] at h ⊢
 exact h
theorem Ext.there {i:Ins}{nm:List Bool}(h:(thereR m i nm).1=true):thereR m' i nm=thereR m i nm:=by
 unfold thereR at h ⊢
 split
 ·exact E.fresh i nm
 ·rename_i c
  rw [if_neg c] at h
  simp only at h
  rw [h,E.thereBq h]
theorem Ext.glBq {n:Int}(h1:0≤n)(h2:n<m.globals.length):glB m' n=glB m n:=by
 obtain⟨t,e⟩:=E.gl
 unfold glB
 rw [e,List.getD_eq_getElem?_getD,List.getD_eq_getElem?_getD,List.getElem?_append_left (by omega)]
theorem Ext.args (f:Fn)(l:List Int)(n a b c:Int):argsB { f with maps:=l } (fnD m' n) a b c=argsB f (fnD m n) a b c:=by
 have e:∀ g h:Fn,nom g=nom h→argsB { f with maps:=l } g a b c=argsB f h a b c:=fun g h e=>by
  have:argsB f (nom g) a b c=argsB f (nom h) a b c:=by rw [e]
  exact this
 exact e _ _ (E.fnDq n)
theorem Ext.kind6 (f:Fn)(l:List Int){i:Ins}{nm:List Bool}(h:(thereR m i nm).1=true):kind6B m' { f with maps:=l } i=kind6B m f i:=by
 have g34:i.op=34→0≤i.b∧i.b<m.globals.length:=fun c=>by
  unfold thereR thereB at h
  simp [c] at h
  exact h
 have g35:i.op=35→0≤i.a∧i.a<m.globals.length:=fun c=>by
  unfold thereR thereB at h
  simp [c] at h
  exact h
 have hcalls:callsB m' { f with maps:=l } i=callsB m f i:=by
  unfold callsB
  simp only [E.args,E.pa,E.cap,E.re];rfl
 unfold kind6B
 by_cases c1:i.op=34
 ·rw [E.glBq (g34 c1).1 (g34 c1).2];simp only [c1];rfl
 ·by_cases c2:i.op=35
  ·rw [E.glBq (g35 c2).1 (g35 c2).2];simp only [c2];rfl
  ·simp only [if_neg c1,if_neg c2,hcalls,E.cas];rfl
theorem Ext.tgt (i:Ins):tgtL m' i=tgtL m i:=by simp only [tgtL,E.cas]
theorem Ext.on (f:Fn)(l:List Int)(pc:Int)(i:Ins):onB m' { f with maps:=l } pc i=onB m f pc i:=by simp only [onB,E.tgt];rfl
theorem Ext.back (f:Fn)(l:List Int)(pc:Int)(i:Ins):backB m' { f with maps:=l } pc i=backB m f pc i:=by simp only [backB,E.tgt];rfl
theorem Ext.follows (f:Fn)(l:List Int)(pc:Int):followsL m' { f with maps:=l } pc=followsL m f pc:=by
 have e:∀ i,rawL m' pc i=rawL m pc i:=fun i=>by simp only [rawL,E.cas]
 simp only [followsL,e];rfl
theorem Ext.gen (f:Fn)(l:List Int)(s:List (BitVec 64))(pc:Nat)(i:Ins):genL m' { f with maps:=l } s pc i=genL m f s pc i:=by
 simp only [genL,outL,E.reads,E.cas,E.follows];rfl
theorem Ext.maps (f:Fn)(l:List Int):mapsT m' { f with maps:=l }=mapsT m f:=by
 have e:∀ s:List (BitVec 64),(s.length=({ f with maps:=l }:Fn).code.length∧Fix m' { f with maps:=l } s∧Low m' { f with maps:=l } s)↔(s.length=f.code.length∧Fix m f s∧Low m f s):=fun s=>by
  simp only [Fix,Low,E.gen]
 by_cases h:∃ s:List (BitVec 64),s.length=f.code.length∧Fix m f s∧Low m f s
 ·obtain⟨s,h⟩:=h
  obtain⟨b1,b2,b3⟩:=(e s).2 h
  rw [Ll h.1 h.2.1 h.2.2,Ll b1 b2 b3]
 ·rw [mapsT,mapsT,dif_neg h,dif_neg fun⟨s,hs⟩=>h ⟨s,(e s).1 hs⟩]
theorem Ext.flow (i:Ins)(l:List St):flowS m' i l=flowS m i l:=by
 have e1:sentV m' i=sentV m i:=by simp only [sentV,E.cas]
 have e2:recvV m' i=recvV m i:=by simp only [recvV,E.cas]
 simp only [flowS,behS,bhS,bhJ2,bhJ1,e1,e2,E.reads]
theorem Ext.closed (f:Fn)(l:List Int)(n0:Nat)(K:List (Option (List St))):ClosedT m' { f with maps:=l } n0 K↔ClosedT m f n0 K:=by
 constructor
 ·rintro⟨a,b,c,d⟩
  exact⟨a,b,c,fun pc l' i h1 h2 t ht=>by have:=d pc l' i h1 h2 t (by rw [E.follows];exact ht);rw [E.flow] at this;exact this⟩
 ·rintro⟨a,b,c,d⟩
  exact⟨a,b,c,fun pc l' i h1 h2 t ht=>by rw [E.flow];exact d pc l' i h1 h2 t (by rw [E.follows] at ht;exact ht)⟩
theorem Ext.isFS (f:Fn)(l:List Int)(T:List (List St)):IsFS m' { f with maps:=l } T↔IsFS m f T:=by
 have en:n0F { f with maps:=l }=n0F f:=rfl
 unfold IsFS LowT
 rw [en]
 simp only [E.closed]
theorem Ext.fsets (f:Fn)(l:List Int):fsetsT m' { f with maps:=l }=fsetsT m f:=by
 by_cases h:∃ T,IsFS m f T
 ·obtain⟨T,h⟩:=h
  rw [ME h,ME ((E.isFS f l T).2 h)]
 ·rw [fsetsT,fsetsT,dif_neg h,dif_neg fun⟨s,hs⟩=>h ⟨s,(E.isFS f l s).1 hs⟩]
theorem Ext.bare (f:Fn)(l:List Int)(pc:Nat)(i:Ins):bareB m' { f with maps:=l } pc i=bareB m f pc i:=by
 simp only [bareB,E.fsets];rfl
end
theorem PE (m:Md)(f:Fn)(xs:List (BitVec 64))(pc:Nat)(i:Ins)(nm:List Bool) :
  insR [] m f xs pc i nm=if slotsB m f i=true then(if (thereR m i nm).1=true then(if kind6B m f i=true then(if onB m f pc i=true then(if backB m f pc i=true then(if mapB f xs pc=true then(if bareB m f pc i=true then(none,(thereR m i nm).2) else(some 10,(thereR m i nm).2)) else(some 9,(thereR m i nm).2)) else(some 8,(thereR m i nm).2)) else(some 7,(thereR m i nm).2)) else(some 6,(thereR m i nm).2)) else(some 5,(thereR m i nm).2)) else(some 4,nm):=by
 simp [insR,runR,ruleR]
theorem MN {m:Md}{f:Fn}{xs:List (BitVec 64)}{pc:Nat}{i:Ins}{nm nm':List Bool}(h:insR [] m f xs pc i nm=(none,nm')) :
  slotsB m f i=true∧(thereR m i nm).1=true∧kind6B m f i=true∧onB m f pc i=true∧backB m f pc i=true∧mapB f xs pc=true∧bareB m f pc i=true∧nm'=(thereR m i nm).2:=by
 rw [PE] at h
 repeat' (split at h;rotate_left;(simp at h))
 simp at h
 exact⟨by assumption,by assumption,by assumption,by assumption,by assumption,by assumption,by assumption,h.symm⟩
theorem Ext.ins {m m':Md}(E:Ext m m'){f:Fn}{l:List Int}{xs:List (BitVec 64)}{pc:Nat}{i:Ins}{nm nm':List Bool}(h:insR [] m f xs pc i nm=(none,nm')) :
  insR [] m' { f with maps:=l } xs pc i nm=if mapB { f with maps:=l } xs pc=true then(none,nm') else(some 9,nm'):=by
 obtain⟨a1,a2,a3,a4,a5,a6,a7,rfl⟩:=MN h
 rw [PE,E.slots,a1,E.there a2,a2,E.kind6 f l a2,a3,E.on,a4,E.back,a5,E.bare,a7]
 simp
theorem Ext.fnR_same {m m':Md}(E:Ext m m'){f:Fn}{xs:List (BitVec 64)}{nm':List Bool}:∀ (c:List Ins) (pc:Nat) (nm:List Bool),fnR [] m f xs c pc nm=(none,nm')→fnR [] m' f xs c pc nm=(none,nm')
 | [],pc,nm,h=>by rw [fnR] at h ⊢;exact h
 | i::c,pc,nm,h=>by
  rw [fnR] at h ⊢
  cases hi:insR [] m f xs pc i nm with
  | mk o n2=>
   cases o with
   | some r=>rw [hi] at h;simp at h
   | none=>
    rw [hi] at h
    have:=E.ins (l:=f.maps) hi
    have ef:({ f with maps:=f.maps }:Fn)=f:=rfl
    rw [ef,if_pos (MN hi).2.2.2.2.2.1] at this
    rw [this]
    exact E.fnR_same c (pc+1) n2 h
theorem Ext.mdR_same {m m':Md}(E:Ext m m'){nm':List Bool}:∀ (l:List Fn) (n:Nat) (nm:List Bool),mdR [] m l n nm=(none,nm')→mdR [] m' l n nm=(none,nm')
 | [],n,nm,h=>by rw [mdR] at h ⊢;exact h
 | f::l,n,nm,h=>by
  rw [mdR] at h ⊢
  have e:mapsT m' f=mapsT m f:=E.maps f f.maps
  cases hi:fnR [] m f (mapsT m f) f.code 0 nm with
  | mk o n2=>
   cases o with
   | some r=>obtain⟨a,b⟩:=r;rw [hi] at h;simp at h
   | none=>
    rw [hi] at h
    rw [e,E.fnR_same _ _ _ hi]
    exact E.mdR_same l (n+1) n2 h
theorem P8 {sk:List Int}{m:Md}{shs:List Shp}(M1:Mod1 m shs)(M2:Mod2 m)(hw:∀ f∈m.funcs,Whole f):withR sk m shs=match (mdR sk m m.funcs 0 (List.replicate m.cases.length false)).1 with | some (n,pc,r)=>some ((n:Int),(pc:Int),r) | none=>none:=by
 unfold withR
 rw [if_neg (Classical.not_not.2 M1),if_neg (Classical.not_not.2 M2),LX hw]
 rfl
set_option linter.all false
attribute [local congr] BI D1 Dy D2 Bu D3 Dz Aw Av
set_option linter.all false
attribute [local congr] BI D1 Dy D2 Bu D3 Dz Aw Av
theorem LsO.keep {g0 g g':Heap}{v:AV}{fs:List Fn}{b:Option Nat}{vs:List AV}{T:List Nat}(L:LsO g0 g 7 v fs FnO b vs)(s:Same T g g')(hT:∀ j∈T,j<g0.next∨g.next≤j):LsO g0 g' 7 v fs FnO b vs:=by
 obtain⟨rg,h1,h2⟩:=L.val
 refine⟨L.sl.same s fun j hj hm=>?_,L.new,L.len,rg,fun k v x hv hx=>?_,h2⟩
 ·have:=L.new j hj;have:=(L.sl.blk j hj).1;have:=hT j hm;omega
 ·obtain⟨F,r1,r2,r3,r4⟩:=h1 k v x hv hx
  have:=s.next
  exact⟨F.stab _ _ _ _ _ _ T r2 r3 s (fun j hj=>by have:=hT j hj;omega),r1,r2,by omega,r4⟩
theorem Mod1.parts {m:Md}{shs:List Shp}(M:Mod1 m shs){c:Int}{b:Bool}(h1 : ¬ (256:Int)<((m.globals ++ [b]).length:Nat))(h2 : ¬ (4096:Int)<((m.consts ++ [c]).length:Nat))(hc:wideB c=false):Mod1 { m with consts:=m.consts ++ [c],globals:=m.globals ++ [b] } shs:=
 ⟨M.s1,M.s2,h1,h2,by show((m.consts ++ [c]).any wideB)=false;rw [List.any_append,M.s5];simp [hc],M.s6,M.s7,M.s8⟩
theorem notwide {c:Int}(h1 : -4611686018427387904≤c)(h2:c < 4611686018427387904):wideB c=false:=by
 unfold wideB
 rw [B9 (by omega) (by omega),Int.fdiv_eq_ediv_of_nonneg _ (by omega)]
 simp
theorem Kx {h:Heap}{v:AV}{m:Md}{shs:List Shp}{c:Int}{b:Bool}(H:MdRd h v m)(hs:m.shapes=shs.map Shp.row)(hsw:∀ s∈shs,s.wf)(hcw:wfI c)(hq:∀ g,Same [] h g→HO g=some (.bool true,g)) :
  Ok (CY v (.int .i64 c) (.bool b) h) fun r=>r.1 = .bool true:=by
 obtain⟨sv0,gv0,kv0,cv0,fv0,rfl,hbx,B⟩:=H.box
 obtain⟨g,hg⟩:∃ g,g=h.new (.cells true [sv0,gv0,kv0,cv0,fv0,.int .i64 m.main]):=⟨_,rfl⟩
 have s:Same [] h g:=by rw [hg];exact Same.new _ _
 rw [← hg] at B
 have la:=B.la
 refine Ok.eq ?_ (by simp -implicitDefEqProofs only [CY,hbx,Af (.cells true [sv0,gv0,kv0,cv0,fv0,.int .i64 m.main]),← hg,hq g s,la,AO,AF,Option.bind_some,AZ,AY,Ac,AX,AL,AH,AD,Ad,AQ,AE,AM,AC,if_true,if_false,Bool.false_eq_true,AJ,AP,AG,AR,AK,AU,Int.reduceEq,Int.reduceLT,Int.reduceLE,decide_true,decide_false,AB,AA,Ae,Bool.not_true,Bool.not_false,AW]<;>rfl)
 refine Ao (SF B.rd) ?_
 rintro _ g2 ⟨s2,bb,rfl,hsm⟩
 simp only at s2
 cases bb with
 | true=>exact Ah (v:=.bool true) (g:=g2) (by simp -implicitDefEqProofs only [show ∀ b:Bool,b=b from fun _=>rfl,AO,AF,Option.bind_some,AZ,AY,Ac,AX,AL,AH,AD,Ad,AQ,AE,AM,AC,if_true,if_false,Bool.false_eq_true,AJ,AP,AG,AR,AK,AU,Int.reduceEq,Int.reduceLT,Int.reduceLE,decide_true,decide_false,AB,AA,Ae,Bool.not_true,Bool.not_false,AW]) rfl
 | false=>
 have sm:=(hsm rfl).v
 have small:=hsm rfl
 have B2:=B.mono s2
 have la2:=B2.la
 by_cases c1:c < -4611686018427387904
 ·exact Ah (v:=.bool true) (g:=g2) (by simp -implicitDefEqProofs only [c1,AO,AF,Option.bind_some,AZ,AY,Ac,AX,AL,AH,AD,Ad,AQ,AE,AM,AC,if_true,if_false,Bool.false_eq_true,AJ,AP,AG,AR,AK,AU,Int.reduceEq,Int.reduceLT,Int.reduceLE,decide_true,decide_false,AB,AA,Ae,Bool.not_true,Bool.not_false,AW]) rfl
 by_cases c2:4611686018427387904≤c
 ·exact Ah (v:=.bool true) (g:=g2) (by simp -implicitDefEqProofs only [c1,c2,AO,AF,Option.bind_some,AZ,AY,Ac,AX,AL,AH,AD,Ad,AQ,AE,AM,AC,if_true,if_false,Bool.false_eq_true,AJ,AP,AG,AR,AK,AU,Int.reduceEq,Int.reduceLT,Int.reduceLE,decide_true,decide_false,AB,AA,Ae,Bool.not_true,Bool.not_false,AW]) rfl
 refine Ok.eq ?_ (by simp -implicitDefEqProofs only [la2,c1,c2,AO,AF,Option.bind_some,AZ,AY,Ac,AX,AL,AH,AD,Ad,AQ,AE,AM,AC,if_true,if_false,Bool.false_eq_true,AJ,AP,AG,AR,AK,AU,Int.reduceEq,Int.reduceLT,Int.reduceLE,decide_true,decide_false,AB,AA,Ae,Bool.not_true,Bool.not_false,AW]<;>rfl)
 refine Ao (P:=fun r=>Same [] g2 r.2∧r.1 = .bool (withR [] m shs).isNone) (Ao (Oj B2.rd hs sm) fun v g hv=>Ok.of hv) ?_
 rintro _ g3 ⟨s3,rfl⟩
 simp only at s3
 cases hw:withR [] m shs with
 | some q=>exact Ah (v:=.bool true) (g:=g3) (by simp -implicitDefEqProofs only [Option.isNone_some,AO,AF,Option.bind_some,AZ,AY,Ac,AX,AL,AH,AD,Ad,AQ,AE,AM,AC,if_true,if_false,Bool.false_eq_true,AJ,AP,AG,AR,AK,AU,Int.reduceEq,Int.reduceLT,Int.reduceLE,decide_true,decide_false,AB,AA,Ae,Bool.not_true,Bool.not_false,AW]) rfl
 | none=>
 have B3:=B2.mono s3
 have la3:=B3.la
 refine Ok.eq ?_ (by simp -implicitDefEqProofs only [Option.isNone_none,la3,AO,AF,Option.bind_some,AZ,AY,Ac,AX,AL,AH,AD,Ad,AQ,AE,AM,AC,if_true,if_false,Bool.false_eq_true,AJ,AP,AG,AR,AK,AU,Int.reduceEq,Int.reduceLT,Int.reduceLE,decide_true,decide_false,AB,AA,Ae,Bool.not_true,Bool.not_false,AW]<;>rfl)
 refine Rf B3.rd hs hsw sm ?_
 rintro g4 N sv gv kv cv fv bs bg bk bc bf vs e1 e2 e3 e4 g0 s4 l1 l2 n4 bN ⟨gd,hgd,sd,O⟩ hbs he1
 obtain⟨M1,M2,hall,hmd⟩:=OA hw
 have W:=SX B3.rd hs hsw sm
 obtain⟨q1,q2,q3,q4⟩:=O.le
 have hgl:=small.2.2.2.2.1;have hkl:=small.2.2.2.2.2
 have bnd:∀ {b:Option Nat} {sz n:Nat} {v:AV} {cs:List AV},SlB gd b sz v cs n→∀ j,b=some j→j<gd.next:=fun S j hj=>(S.blk j hj).1
 -- a constant more
 have lk:ldS g4 (.ptr (some (N,0+2)))=some kv:=by rw [Ai bN];rfl
 have hlit:bsP 1 [(AV.int .i64 0)] 1 [(0,(AV.int .i64 c))]=some (.cells true [.int .i64 c],fun i=>.sl (some (i,0)) 1 (.ex 1)):=rfl
 obtain⟨g5,hg5⟩:∃ g5,g5=g4.new (.cells true [.int .i64 c]):=⟨_,rfl⟩
 have s5:Same [] g4 g5:=by rw [hg5];exact Same.new _ _
 have n5:g5.next=g4.next+1:=by rw [hg5];rfl
 have b5:g5.get g4.next=some (.cells true [.int .i64 c]):=by rw [hg5];exact Am
 obtain⟨kv',g6,ea,A6,s6,n6⟩:=appAt (bytes:=8) (c:=g4.next) (O.ok.same (sd.trans s5) (by simp)) b5 rfl rfl (by omega) (by omega)
 have hkN:N∉bk.toList:=fun hm=>by
  have e:bk=some N:=by cases bk<;>simp_all
  have:=bnd O.ok N e;omega
 have k6:g6.get N=some (.cells true [sv,gv,kv,cv,fv,.int .i64 m.main]):=(s6.get N (by omega) hkN).trans ((s5.get N (by omega) (by simp)).trans bN)
 obtain⟨g7,hg7⟩:∃ g7,g7=g6.put N (some (.cells true [sv,gv,kv',cv,fv,.int .i64 m.main])):=⟨_,rfl⟩
 have st:stP 1 g6 (.ptr (some (N,0+2))) kv'=some (.bot,g7):=by rw [hg7];exact Cl k6 (by show 2 < 6;omega) A6.scv
 have s7:Same [N] g6 g7:=by rw [hg7];exact Same.put _ _ _
 have n7:g7.next=g6.next:=by rw [hg7];rfl
 have k7:g7.get N=some (.cells true [sv,gv,kv',cv,fv,.int .i64 m.main]):=by rw [hg7,An]
 have A7:=A6.same s7 (fun j hj hm=>by simp at hm;subst hm;cases hj;omega)
 -- a global more
 have lg:ldS g7 (.ptr (some (N,0+1)))=some gv:=by rw [Ai k7];rfl
 have hlit2:bsP 1 [(AV.bool false)] 1 [(0,(AV.bool b))]=some (.cells true [.bool b],fun i=>.sl (some (i,0)) 1 (.ex 1)):=rfl
 obtain⟨g8,hg8⟩:∃ g8,g8=g7.new (.cells true [.bool b]):=⟨_,rfl⟩
 have s8:Same [] g7 g8:=by rw [hg8];exact Same.new _ _
 have n8:g8.next=g7.next+1:=by rw [hg8];rfl
 have b8:g8.get g7.next=some (.cells true [.bool b]):=by rw [hg8];exact Am
 have s48:Same (bk.toList ++ [N]) g4 g8:=(s5.sub (by simp)).trans ((s6.sub (fun j hj=>List.mem_append_left _ hj)).trans ((s7.sub (by simp)).trans (s8.sub (by simp))))
 have og8:=(O.og.same sd (by simp)).same s48 (fun j hj hm=>by
  have r:=O.rg j hj
  rcases List.mem_append.1 hm with hm | hm
  ·have e:bk=some j:=by cases bk<;>simp_all
   have:=O.rk j e;omega
  ·simp at hm;subst hm;have:=bnd O.og _ hj;omega)
 obtain⟨gv',g9,ea2,A9,s9,n9⟩:=appAt (bytes:=1) (c:=g7.next) og8 b8 rfl rfl (by omega) (by omega)
 have hgN:N∉bg.toList:=fun hm=>by
  have e:bg=some N:=by cases bg<;>simp_all
  have:=bnd O.og N e;omega
 have k9:g9.get N=some (.cells true [sv,gv,kv',cv,fv,.int .i64 m.main]):=(s9.get N (by omega) hgN).trans ((s8.get N (by omega) (by simp)).trans k7)
 obtain⟨ga,hga⟩:∃ ga,ga=g9.put N (some (.cells true [sv,gv',kv',cv,fv,.int .i64 m.main])):=⟨_,rfl⟩
 have st2:stP 1 g9 (.ptr (some (N,0+1))) gv'=some (.bot,ga):=by rw [hga];exact Cl k9 (by show 1 < 6;omega) A9.scv
 have sa:Same [N] g9 ga:=by rw [hga];exact Same.put _ _ _
 have na:ga.next=g9.next:=by rw [hga];rfl
 have ka:ga.get N=some (.cells true [sv,gv',kv',cv,fv,.int .i64 m.main]):=by rw [hga,An]
 have Aa:=A9.same sa (fun j hj hm=>by simp at hm;subst hm;cases hj;omega)
 have kk:SlB ga (some g5.next) 1 kv' (m.consts.map (AV.int .i64) ++ [.int .i64 c]) (m.consts.length+1):=((A7.same s8 (by simp)).same s9 (fun j hj hm=>by
  cases hj
  have e:bg=some g5.next:=by cases bg<;>simp_all
  have:=bnd O.og _ e;omega)).same sa (fun j hj hm=>by simp at hm;subst hm;cases hj;omega)
 have lg2:ldS ga (.ptr (some (N,0+1)))=some gv':=by rw [Ai ka];rfl
 have lk2:ldS ga (.ptr (some (N,0+2)))=some kv':=by rw [Ai ka];rfl
 have lA:ldA 6 ga (.ptr (some (N,0)))=some (.agg [sv,gv',kv',cv,fv,.int .i64 m.main]):=by rw [Eo ka];rfl
 have ng:lnL gv'=some (.int .i64 ((m.globals.length+1:Nat):Int)):=Aa.rd.lnL
 have nk:lnL kv'=some (.int .i64 ((m.consts.length+1:Nat):Int)):=kk.rd.lnL
 by_cases d1:(256:Int)<((m.globals.length+1:Nat):Int)
 ·exact Ah (v:=.bool true) (g:=ga) (by simp -implicitDefEqProofs only [lk,hlit,Af,← hg5,ea,st,lg,hlit2,← hg8,ea2,st2,lg2,lk2,ng,nk,d1,AO,AF,Option.bind_some,AZ,AY,Ac,AX,AL,AH,AD,Ad,AQ,AE,AM,AC,if_true,if_false,Bool.false_eq_true,AJ,AP,AG,AR,AK,AU,Int.reduceEq,Int.reduceLT,Int.reduceLE,decide_true,decide_false,AB,AA,Ae,Bool.not_true,Bool.not_false,AW]) rfl
 have d2 : ¬ (4096:Int)<((m.consts.length+1:Nat):Int):=by omega
 -- the module,changed
 have sT:Same (bk.toList ++ [N]++bg.toList) gd ga:=(sd.sub (by simp)).trans ((s48.sub (fun j hj=>List.mem_append_left _ hj)).trans ((s9.sub (fun j hj=>List.mem_append_right _ hj)).trans (sa.sub (by simp))))
 have hT:∀ j∈bk.toList ++ [N]++bg.toList,(bk=some j∨bg=some j)∨j=N:=fun j hj=>by
  rcases List.mem_append.1 hj with hj | hj
  ·rcases List.mem_append.1 hj with hj | hj
   ·exact .inl (.inl (by cases bk<;>simp_all))
   ·simp at hj;exact .inr hj
  ·exact .inl (.inr (by cases bg<;>simp_all))
 have os:=O.os.same sT (fun j hj hm=>by
  have r:=O.rs j hj;have r2:=bnd O.os j hj
  rcases hT j hm with(e | e) | e
  ·have:=O.rk j e;omega
  ·have:=O.rg j e;omega
  ·omega)
 have oc:=O.oc.same sT (fun j hj hm=>by
  have r:=O.rc j hj;have r2:=bnd O.oc j hj
  rcases hT j hm with(e | e) | e
  ·have:=O.rk j e;omega
  ·have:=O.rg j e;omega
  ·omega)
 have of:=O.of.keep sT (fun j hm=>by
  rcases hT j hm with(e | e) | e
  ·have:=O.rk j e;omega
  ·have:=O.rg j e;omega
  ·omega)
 have MD:MdRd ga (.agg [sv,gv',kv',cv,fv,.int .i64 m.main]) { m with consts:=m.consts ++ [c],globals:=m.globals ++ [b] }:=by
  have w1:=W.ls;have w4:=W.lc;have w5:=W.lf
  refine⟨sv,gv',kv',cv,fv,rfl,?_,?_,?_,oc.rows (by simp) (fun r hr=>?_) (by simpa using W.lc),of.fns W.wf W.lf,W.wm,?_,?_,by show m.cases.length≤maxLen;rw [mxl];omega,by show m.funcs.length≤maxLen;rw [mxl];omega,oc.cap,of.sl.cap,W.wc,fun r hr=>?_,fun x hx=>?_⟩
  ·show RwC ga 3 sv m.shapes
   rw [hs]
   exact os.rows (by simp) (fun r hr=>by obtain⟨i,_,rfl⟩:=List.mem_map.1 hr;rfl) (by simpa using W.ls)
  ·show RdW ga 1 gv' ((m.globals ++ [b]).map AV.bool) (m.globals ++ [b]).length
   rw [List.map_append,List.length_append];exact Aa.rd
  ·show RdW ga 1 kv' ((m.consts ++ [c]).map (AV.int .i64)) (m.consts ++ [c]).length
   rw [List.map_append,List.length_append];exact kk.rd
  ·obtain⟨i,_,rfl⟩:=List.mem_map.1 hr;rfl
  ·show(m.globals ++ [b]).length≤maxLen
   rw [mxl,List.length_append];simp;omega
  ·show(m.consts ++ [c]).length≤maxLen
   rw [mxl,List.length_append];simp;omega
  ·have hr:r∈m.shapes:=hr
   rw [hs] at hr
   obtain⟨s,_,rfl⟩:=List.mem_map.1 hr
   exact⟨_,_,_,rfl⟩
  ·rcases List.mem_append.1 hx with hx | hx
   ·exact W.wk x hx
   ·simp at hx;subst hx;exact hcw
 have sm':SmV { m with consts:=m.consts ++ [c],globals:=m.globals ++ [b] }:=⟨sm.1,sm.2.1,sm.2.2.1,sm.2.2.2.1,by show(m.globals ++ [b]).length≤4096;rw [List.length_append];simp;omega,by show(m.consts ++ [c]).length≤4096;rw [List.length_append];simp;omega⟩
 have E:Ext m { m with consts:=m.consts ++ [c],globals:=m.globals ++ [b] }:=⟨rfl,rfl,fun n=>rfl,by show m.consts.length≤(m.consts ++ [c]).length;rw [List.length_append];omega,[b],rfl⟩
 cases hr:mdR [] m m.funcs 0 (List.replicate m.cases.length false) with
 | mk o nm'=>
 rw [hr] at hmd
 simp only at hmd
 subst hmd
 have hres:=E.mdR_same m.funcs 0 _ hr
 have hwR:withR [] { m with consts:=m.consts ++ [c],globals:=m.globals ++ [b] } shs=none:=by
  rw [P8 (M1.parts (by rw [List.length_append];simpa using d1) (by rw [List.length_append];simpa using d2) (notwide (by omega) (by omega))) ⟨M2.m0,M2.m1,M2.fn⟩ hall]
  show(match (mdR [] { m with consts:=m.consts ++ [c],globals:=m.globals ++ [b] } m.funcs 0 (List.replicate m.cases.length false)).1 with | some (n,pc,r)=>some ((n:Int),(pc:Int),r) | none=>none)=_
  rw [hres]
 refine Ok.eq ?_ (by simp -implicitDefEqProofs only [lk,hlit,Af,← hg5,ea,st,lg,hlit2,← hg8,ea2,st2,lg2,lk2,ng,nk,d1,d2,lA,AO,AF,Option.bind_some,AZ,AY,Ac,AX,AL,AH,AD,Ad,AQ,AE,AM,AC,if_true,if_false,Bool.false_eq_true,AJ,AP,AG,AR,AK,AU,Int.reduceEq,Int.reduceLT,Int.reduceLE,decide_true,decide_false,AB,AA,Ae,Bool.not_true,Bool.not_false,AW]<;>rfl)
 refine Ao (Oj MD hs sm') ?_
 rw [hwR]
 rintro _ gz ⟨sz,rfl⟩
 exact Ok.of rfl
end Go.Ab.F
