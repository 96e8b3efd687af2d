import Derived.Test.YtdmgkkcjnmmfmaaGreatVlb
namespace Go.Ab.F
open Go Go.Ab
set_option linter.all false
set_option linter.all false
attribute [local congr] BJ Dv Dz Dw Br Dx Dy Aw Av
theorem Qt {h:Heap}{x:D}{r:List AV}(H:Rep h shTy x r):∃ s:Shp,s.wf∧r=s.row:=by
 cases x<;>simp only [shTy,Rep] at H
 rename_i ys
 rcases ys with _ | ⟨y0,_ | ⟨y1,_ | ⟨y2,_ | ⟨y3,ys⟩⟩⟩⟩<;>simp only [Reps,and_false] at H
 obtain⟨t0,t1,t2,t3⟩:=H
 cases y0<;>simp only [Rep] at t0
 cases y1<;>simp only [Rep] at t1
 cases y2<;>simp only [Rep] at t2
 rename_i a b c
 have hc:=O0 t2.2
 refine⟨⟨a,b,BitVec.ofNat 64 c.toNat⟩,⟨t0.2,t1.2⟩,?_⟩
 have e:(((BitVec.ofNat 64 c.toNat).toNat:Nat):Int)=c:=by rw [BitVec.toNat_ofNat];omega
 show r = [.int .i64 a,.int .i64 b,.int .u64 (((BitVec.ofNat 64 c.toNat).toNat:Nat):Int)]
 rw [e,← List.take_append_drop (Ty.size (.int .i64)) r,t0.1,← List.take_append_drop (Ty.size (.int .i64)) (List.drop _ r),t1.1,← List.take_append_drop (Ty.size (.int .u64)) (List.drop _ (List.drop _ r)),t2.1,t3];rfl
theorem QQ {h:Heap}{x:D}{vs:List AV}(hl:vs.length=6)(H:Rep h mdTy x vs):∃ m,MdRd h (argAV mdTy vs) m∧∃ shs:List Shp,m.shapes=shs.map Shp.row∧∀ s∈shs,s.wf:=by
 cases x<;>simp only [mdTy,Rep] at H
 rename_i ys
 rcases vs with _ | ⟨r0,_ | ⟨r1,_ | ⟨r2,_ | ⟨r3,_ | ⟨r4,_ | ⟨r5,_ | ⟨r6,r⟩⟩⟩⟩⟩⟩⟩<;>simp at hl
 rcases ys with _ | ⟨y0,_ | ⟨y1,_ | ⟨y2,_ | ⟨y3,_ | ⟨y4,_ | ⟨y5,_ | ⟨y6,ys⟩⟩⟩⟩⟩⟩⟩<;>simp only [Reps,and_false] at H
 simp only [Ty.size,List.take_succ_cons,List.take_zero,List.drop_succ_cons,List.drop_zero] at H
 obtain⟨t0,t1,t2,t3,t4,t5,_⟩:=H
 cases y5<;>simp only [Rep] at t5
 simp only [List.cons.injEq,and_true] at t5
 obtain⟨rows0,s1,s2⟩:=LH t0
 obtain⟨shs,s3,rfl⟩:=Ja Shp.row Shp.wf (fun H=>Qt H) s2
 obtain⟨globals,g1,g2⟩:=MV t1
 obtain⟨consts,k1,k2,k3⟩:=OD t2
 obtain⟨rows,c1,c2⟩:=LH t3
 obtain⟨cases,c3,rfl⟩:=Ja Cas.row Cas.wf (fun H=>Q6 H) c2
 obtain⟨fs,f1,f2⟩:=Rg t4
 have hc:cases.length≤maxLen:=by
  obtain⟨cs,_,h2,_⟩:=c1
  simpa using h2
 refine⟨⟨shs.map Shp.row,globals,consts,cases,fs,_⟩,⟨r0,r1,r2,r3,r4,by rw [t5.1];rfl,s1,g1.w,k1.w,c1,f1,t5.2,g2,k3,hc,f2,KJ t3,KJ t4,c3,fun r hr=>?_,k2⟩,shs,rfl,s3⟩
 obtain⟨s,_,rfl⟩:=List.mem_map.1 hr
 exact⟨_,_,_,rfl⟩
theorem FnRd.wf {h:Heap}{r:List AV}{f:Fn}(H:FnRd h r f)(h1:f.kinds.length≤1048576)(h2:f.code.length≤1048576)(h3:f.maps.length≤1048576):f.wf:=by
 obtain⟨_,_,_,_,_,_,_,w1,w2,w3,w4,_,_,_,_,_,_,hc,hm⟩:=H
 exact⟨w1,w2,w3,w4,hc,fun n hn=>by have:=O0 (hm n hn);omega,h1,h2,h3⟩
theorem FnsRd.mem {h:Heap}{v:AV}{fs:List Fn}(H:FnsRd h v fs){f:Fn}(hf:f∈fs):∃ r,FnRd h r f:=by
 obtain⟨i,hi⟩:=List.getElem?_of_mem hf
 obtain⟨b,o,_,_,_,_,_,FR,_⟩:=H.at' hi
 exact⟨_,FR⟩
theorem RY {h:Heap}{v:AV}{m:Md}{shs:List Shp}(H:MdRd h v m)(hs:m.shapes=shs.map Shp.row)(hw:∀ s∈shs,s.wf)(sm:SmV m):m.wf shs:=by
 obtain⟨_,_,_,_,_,_,_,_,_,_,hF,wM,_,_,_,_,_,_,hCw,_,hKw⟩:=H
 have h4:=sm.2.2.2.1
 rw [hs,List.length_map] at h4
 refine⟨hw,hKw,hCw,fun f hf=>?_,wM,by omega,by have:=sm.2.2.2.2.1;omega,by have:=sm.2.2.2.2.2;omega,by have:=sm.2.1;omega,by have:=sm.1;omega⟩
 obtain⟨r,FR⟩:=hF.mem hf
 obtain⟨i,hi⟩:=List.getElem?_of_mem hf
 have:=sm.2.2.1 i f hi
 exact FR.wf (by omega) (by omega) (by omega)
theorem LD {α:Type}{f:α→List Nat}{k:Nat}:∀ {l:List α},(∀ x∈l,(f x).length≤k)→(l.flatMap f).length≤k*l.length
 | [],_=>by simp
 | x::l,h=>by
  have h1:=h x (List.mem_cons_self ..)
  have h2:=LD (l:=l) fun y hy=>h y (List.mem_cons_of_mem _ hy)
  rw [List.flatMap_cons,List.length_append,List.length_cons,Nat.mul_succ];omega
theorem IV {l:List Int}(h:∀ n∈l,wfI n):(intsB l).length≤10*l.length:=LD fun n hn=>Ct (Kh (by have:=EH (h n hn);omega) (by have:=EH (h n hn);omega))
theorem Lr {l:List Bool}(h:l.length≤1048576):(flagsB l).length≤10+10*l.length:=by
 have h1:=Ct (u:=l.length) (by omega)
 have h2:=LD (f:=fun b=>numB (flgN b)) (k:=10) (l:=l) fun x _=>Ct (by cases x<;>simp [flgN])
 rw [flagsB,List.length_append];omega
theorem RN {f:Fn}(w:f.wf):(fnE f).length≤70+10*f.kinds.length+50*f.code.length+10*f.maps.length:=by
 have h1:=IV (l:=[f.pa,f.ca,f.sl,f.re]) (by simp only [List.mem_cons,List.not_mem_nil,or_false,forall_eq_or_imp,forall_eq];exact⟨w.w1,w.w2,w.w3,w.w4⟩)
 have h2:=Lr w.k
 have h3:=Ct (u:=f.code.length) (by have:=w.c;omega)
 have h4:=Ct (u:=f.maps.length) (by have:=w.m;omega)
 have h5:=LD (f:=insE) (k:=50) (l:=f.code) fun i hi=>by
  have:=IV (l:=[i.op,i.a,i.b,i.c,i.d]) (by simp only [List.mem_cons,List.not_mem_nil,or_false,forall_eq_or_imp,forall_eq];exact w.code i hi)
  simpa [insE] using this
 have h6:=LD (f:=fun v:Int=>numB v.toNat) (k:=10) (l:=f.maps) fun n hn=>Ct (by have:=w.maps n hn;omega)
 simp only [List.length_cons,List.length_nil] at h1
 simp only [fnE,List.length_append];omega
theorem Qh {m:Md}{shs:List Shp}(W:m.wf shs)(sm:SmV m)(hs:m.shapes=shs.map Shp.row):(encB m shs).length≤2 ^ 30:=by
 have l1:=sm.1;have l2:=sm.2.1;have l4:=sm.2.2.2.1;have l5:=sm.2.2.2.2.1;have l6:=sm.2.2.2.2.2
 rw [hs,List.length_map] at l4
 have h1:=Ct (u:=shs.length) (by omega)
 have h2:=LD (f:=shpE) (k:=30) (l:=shs) fun s hs=>by
  have w:=W.ws s hs
  have:=IV (l:=[s.kind,s.fields]) (by simp only [List.mem_cons,List.not_mem_nil,or_false,forall_eq_or_imp,forall_eq];exact w)
  have h2:=Ct s.map.isLt
  simp only [List.length_cons,List.length_nil] at this
  rw [shpE,List.length_append];omega
 have h3:=Lr (l:=m.globals) (by omega)
 have h4:=Ct (u:=m.consts.length) (by omega)
 have h5:=LD (f:=fun v:Int=>numB (zigN v)) (k:=10) (l:=m.consts) fun n hn=>Ct (Kh (by have:=EH (W.wk n hn);omega) (by have:=EH (W.wk n hn);omega))
 have h6:=Ct (u:=m.cases.length) (by omega)
 have h7:=LD (f:=casE) (k:=40) (l:=m.cases) fun c hc=>by
  have:=IV (l:=[c.kind,c.chan,c.val,c.to]) (by simp only [List.mem_cons,List.not_mem_nil,or_false,forall_eq_or_imp,forall_eq];exact W.wc c hc)
  simpa [casE] using this
 have h8:=Ct (u:=m.funcs.length) (by omega)
 have h9:=LD (f:=fnE) (k:=300000) (l:=m.funcs) fun f hf=>by
  obtain⟨i,hi⟩:=List.getElem?_of_mem hf
  have:=sm.2.2.1 i f hi
  have:=RN (W.wf f hf)
  omega
 have h10:=IV (l:=[m.main]) (by simpa using W.wm)
 simp only [List.length_cons,List.length_nil] at h10
 simp only [encB,modE,List.length_append,List.length_cons,List.length_nil];omega
theorem G5 {u x:Nat}(h:x∈numB u):x < 256:=Lj u u (Nat.le_refl _) x h
theorem Oq {m:Md}{shs:List Shp}:∀ x∈encB m shs,x < 256:=by
 have hi:∀ (l:List Int) x,x∈intsB l→x < 256:=fun l x h=>by obtain⟨n,_,h⟩:=List.mem_flatMap.1 h;exact G5 h
 have hf:∀ (l:List Bool) x,x∈flagsB l→x < 256:=fun l x h=>by
  rcases List.mem_append.1 h with h | h
  ·exact G5 h
  ·obtain⟨n,_,h⟩:=List.mem_flatMap.1 h;exact G5 h
 have hfn:∀ (f:Fn) x,x∈fnE f→x < 256:=fun f x h=>by
  simp only [fnE,List.mem_append,List.mem_flatMap] at h
  rcases h with((((h | h) | h) | ⟨_,_,h⟩) | h) | ⟨_,_,h⟩
  ·exact hi _ x h
  ·exact hf _ x h
  ·exact G5 h
  ·exact hi _ x h
  ·exact G5 h
  ·exact G5 h
 intro x h
 simp only [encB,modE,List.mem_append,List.mem_flatMap] at h
 rcases h with h | ((((((((h | ⟨s,_,h⟩) | h) | h) | ⟨_,_,h⟩) | h) | ⟨c,_,h⟩) | h) | ⟨f,_,h⟩) | h
 ·simp at h;omega
 ·exact G5 h
 ·rcases List.mem_append.1 h with h | h
  ·exact hi _ x h
  ·exact G5 h
 ·exact hf _ x h
 ·exact G5 h
 ·exact G5 h
 ·exact G5 h
 ·exact hi _ x h
 ·exact G5 h
 ·exact hfn _ x h
 ·exact hi _ x h
theorem _root_.Go.Ab.SlB.rd {g:Heap}{b:Option Nat}{sz n:Nat}{v:AV}{cs:List AV}(H:SlB g b sz v cs n):RdW g sz v cs n:=by
 refine⟨H.len,?_⟩
 cases b with
 | none=>exact .inl ⟨H.eq,H.nil rfl⟩
 | some b=>
  obtain⟨h1,h2,h3⟩:=H.blk b rfl
  exact .inr ⟨b,0,.un sz,H.eq,h1,fun _=>⟨true,[],[],rfl,by rw [h2];simp⟩⟩
theorem _root_.Go.Ab.SlB.cap {g:Heap}{b:Option Nat}{sz n:Nat}{v:AV}{cs:List AV}(H:SlB g b sz v cs n):CapV sz v:=by
 cases b with
 | none=>exact .inl H.eq
 | some b=>exact .inr ⟨_,_,_,H.eq,rfl⟩
theorem Jv {sz:Nat}:∀ (l:List (List AV)) (i:Nat) r,(∀ r∈l,r.length=sz)→l[i]?=some r→span l.flatten (i*sz) sz=some r
 | [],i,r,_,h=>by simp at h
 | x::l,0,r,hl,h=>by
  simp at h;subst h
  have hx:=hl x (List.mem_cons_self ..)
  rw [Nat.zero_mul,Be _ _ _ (by simp;omega),List.drop_zero,List.flatten_cons,List.take_append_of_le_length (by omega),List.take_of_length_le (by omega)]
 | x::l,i+1,r,hl,h=>by
  have hx:=hl x (List.mem_cons_self ..)
  have ih:=Jv l i r (fun y hy=>hl y (List.mem_cons_of_mem _ hy)) (by simpa using h)
  have hle:=GH ih
  rw [Be _ _ _ hle] at ih
  rw [List.flatten_cons,Be _ _ _ (by rw [List.length_append,Nat.succ_mul];omega),List.drop_append,List.drop_eq_nil_of_le (by rw [Nat.succ_mul];omega),List.nil_append,show(i+1)*sz-x.length=i*sz by rw [Nat.succ_mul];omega]
  exact ih
theorem _root_.Go.Ab.SlB.rows {g:Heap}{b:Option Nat}{sz:Nat}{v:AV}{l:List (List AV)}{n:Nat}(H:SlB g b sz v l.flatten n)(hn:n=l.length)(hl:∀ r∈l,r.length=sz)(hm:l.length≤1048576):RwC g sz v l:=
 ⟨l.flatten,by rw [← hn];exact H.rd,by rw [mxl];omega,fun i r hi=>Jv l i r hl hi⟩
theorem FnO.rd {g:Heap}{v:AV}{f:Fn}{lo hi:Nat}(H:FnO g v f lo hi)(w:f.wf):∃ kv cv mv,v = .agg [.int .i64 f.pa,.int .i64 f.ca,.int .i64 f.sl,.int .i64 f.re,kv,cv,mv]∧FnRd g [.int .i64 f.pa,.int .i64 f.ca,.int .i64 f.sl,.int .i64 f.re,kv,cv,mv] f:=by
 obtain⟨kv,cv,mv,bk,bc,bm,rfl,h1,h2,h3,_⟩:=H
 have k1:=w.k;have k2:=w.c;have k3:=w.m
 refine⟨kv,cv,mv,rfl,kv,cv,mv,rfl,h1.rd,h2.rows (by simp) (fun r hr=>?_) (by simpa using w.c),h3.rd,w.w1,w.w2,w.w3,w.w4,by rw [mxl];omega,by rw [mxl];omega,by rw [mxl];omega,h1.cap,h2.cap,h3.cap,w.code,fun n hn=>?_⟩
 ·obtain⟨i,_,rfl⟩:=List.mem_map.1 hr;rfl
 ·have:=w.maps n hn
  simp only [Lit.wf,Bool.and_eq_true,decide_eq_true_eq]
  have e1:IntKind.u64.min=0:=rfl
  have e2:IntKind.u64.max=18446744073709551615:=rfl
  omega
theorem Ii:∀ vs:List AV,vs.flatMap AV.cells=(vs.map AV.cells).flatten
 | []=>rfl
 | v::vs=>by rw [List.flatMap_cons,List.map_cons,List.flatten_cons,Ii vs]
theorem LsO.fns {g0 g:Heap}{v:AV}{fs:List Fn}{b:Option Nat}{vs:List AV}(L:LsO g0 g 7 v fs FnO b vs)(hw:∀ f∈fs,f.wf)(hl:fs.length≤1048576):FnsRd g v fs:=by
 obtain⟨rg,hrg,_⟩:=L.val
 have key:∀ (k:Nat) w f,vs[k]?=some w→fs[k]?=some f→∃ kv cv mv,w = .agg [.int .i64 f.pa,.int .i64 f.ca,.int .i64 f.sl,.int .i64 f.re,kv,cv,mv]∧FnRd g [.int .i64 f.pa,.int .i64 f.ca,.int .i64 f.sl,.int .i64 f.re,kv,cv,mv] f:=fun k w f h1 h2=>(hrg k w f h1 h2).1.rd (hw f (List.mem_of_getElem? h2))
 have hS:=L.sl
 rw [Ii] at hS
 refine⟨vs.map AV.cells,hS.rows (by rw [List.length_map,L.len]) (fun r hr=>?_) (by rw [List.length_map,L.len];exact hl),by rw [List.length_map,L.len],fun i r f hr hf=>?_⟩
 ·obtain⟨w,hw,rfl⟩:=List.mem_map.1 hr
  obtain⟨i,hi⟩:=List.getElem?_of_mem hw
  obtain⟨f,hf⟩:∃ f,fs[i]?=some f:=⟨_,List.getElem?_eq_getElem (by have:=(List.getElem?_eq_some_iff.1 hi).1;rw [← L.len];exact this)⟩
  obtain⟨kv,cv,mv,rfl,_⟩:=key i w f hi hf
  rfl
 ·rw [List.getElem?_map] at hr
  obtain⟨w,hw,rfl⟩:=Option.map_eq_some_iff.1 hr
  obtain⟨kv,cv,mv,rfl,FR⟩:=key i w f hw hf
  exact FR
theorem MdO.rd {g0 g:Heap}{v:AV}{m:Md}{shs:List Shp}{sv gv kv cv fv:AV}{bs bg bk bc bf:Option Nat}{vs:List AV}{e1 e2 e3 e4:Nat}(O:MdO g0 g v m shs sv gv kv cv fv bs bg bk bc bf vs e1 e2 e3 e4)(W:m.wf shs)(hs:m.shapes=shs.map Shp.row):MdRd g v m:=by
 have l1:=W.ls;have l2:=W.lg;have l3:=W.lk;have l4:=W.lc;have l5:=W.lf
 refine⟨sv,gv,kv,cv,fv,O.eq,?_,O.og.rd,O.ok.rd,O.oc.rows (by simp) (fun r hr=>?_) (by simpa using W.lc),O.of.fns W.wf W.lf,W.wm,by rw [mxl];omega,by rw [mxl];omega,by rw [mxl];omega,by rw [mxl];omega,O.oc.cap,O.of.sl.cap,W.wc,fun r hr=>?_,W.wk⟩
 ·rw [hs]
  exact O.os.rows (by simp) (fun r hr=>by obtain⟨i,_,rfl⟩:=List.mem_map.1 hr;rfl) (by simpa using W.ls)
 ·obtain⟨i,_,rfl⟩:=List.mem_map.1 hr;rfl
 ·rw [hs] at hr
  obtain⟨s,_,rfl⟩:=List.mem_map.1 hr
  exact⟨_,_,_,rfl⟩
set_option linter.all false
attribute [local congr] BJ Dv Dz Dw Br Dx Dy Aw Av
abbrev zMd:List AV:=[(AV.sl none 0 (.ex 0)),(AV.sl none 0 (.ex 0)),(AV.sl none 0 (.ex 0)),(AV.sl none 0 (.ex 0)),(AV.sl none 0 (.ex 0)),(AV.int .i64 0)]
theorem LsO.sc5 {g0 g:Heap}{v:AV}{m:Md}{shs:List Shp}{sv gv kv cv fv:AV}{bs bg bk bc bf:Option Nat}{vs:List AV}{e1 e2 e3 e4:Nat}(O:MdO g0 g v m shs sv gv kv cv fv bs bg bk bc bf vs e1 e2 e3 e4):([sv,gv,kv,cv,fv,.int .i64 m.main]:List AV).all scalar=true:=by
 simp only [List.all_cons,List.all_nil,O.os.scv,O.og.scv,O.ok.scv,O.oc.scv,O.of.sl.scv,Bool.and_true,Bool.true_and];rfl
theorem QV {R:Type}{h:Heap}{v:AV}{m:Md}{shs:List Shp}(H:MdRd h v m)(hs:m.shapes=shs.map Shp.row)(hsw:∀ s∈shs,s.wf)(sm:SmV m){K:AV→AV→Heap→Option R}{Q:R→Prop}
  (hk:∀ g N sv gv kv cv fv bs bg bk bc bf vs e1 e2 e3 e4 g0,Same [] h g→h.next≤g0.next→g0.next≤N→g.next=N+1→g.get N=some (.cells true [sv,gv,kv,cv,fv,.int .i64 m.main])→
   (∃ gd,gd.next=N∧Same [] gd g∧MdO g0 gd (.agg [sv,gv,kv,cv,fv,.int .i64 m.main]) m shs sv gv kv cv fv bs bg bk bc bf vs e1 e2 e3 e4)→(∀ j,bs=some j→h.next≤j)→h.next≤e1→Ok (K (.ptr (some (N,0))) (.int .i64 0) g) Q) :
  Ok (cl (D2 v h) fun t h'=>cl (D0 t h') fun t' h''=>(extractV 0 t').bind fun a=>(extractV 1 t').bind fun b=>mk Heap.new (some (Blk.cells true zMd,fun i=>AV.ptr (some (i,0)))) h'' fun p h3=>cl (stP 6 h3 p a) fun _ h4=>K p b h4) Q:=by
 have W:=RY H hs hsw sm
 have hle:=Qh W sm hs
 refine An (Ox H hs hsw sm hle) ?_
 rintro x g1 ⟨s1,b,c,hb1,hb2,e,hc,hb⟩
 simp only at s1 e hb2 hb
 subst e
 refine An (Oz hb hb2 (by rcases hc with h | h;exact .inl h;exact .inr ⟨_,h,Nat.le_refl _⟩) Oq hle W) ?_
 rintro x g2 ⟨s2,v2,sv,gv,kv,cv,fv,bs,bg,bk,bc,bf,vs,e1,e2,e3,e4,g0,e,O,l1,l2,l3,l4⟩
 simp only at s2 e O l2
 subst e
 have ev:=O.eq
 subst ev
 refine Ok.eq ?_ (by simp -implicitDefEqProofs only [show extractV 0 (AV.tup [.agg [sv,gv,kv,cv,fv,.int .i64 m.main],.int .i64 0])=some (.agg [sv,gv,kv,cv,fv,.int .i64 m.main]) from rfl,show extractV 1 (AV.tup [.agg [sv,gv,kv,cv,fv,.int .i64 m.main],.int .i64 0])=some (.int .i64 0) from rfl,Option.bind_some]<;>rfl)
 refine D5 (by rfl) (by rfl) (LsO.sc5 O) fun g3 s3 n3 b3=>?_
 have:=s1.next;have:=s2.next
 exact hk g3 g2.next sv gv kv cv fv bs bg bk bc bf vs e1 e2 e3 e4 g0 ((s1.trans s2).trans s3) (by omega) (by omega) n3 b3 ⟨g2,rfl,s3,O⟩ (fun j hj=>by have:=l3 j hj;omega) (by omega)
theorem FnO.row {g:Heap}{v:AV}{f:Fn}{lo hi:Nat}(H:FnO g v f lo hi):v.cells.length=7∧v.cells.all scalar=true:=by
 obtain⟨kv,cv,mv,bk,bc,bm,rfl,h1,h2,h3,_⟩:=H
 refine⟨rfl,?_⟩
 show([.int .i64 f.pa,.int .i64 f.ca,.int .i64 f.sl,.int .i64 f.re,kv,cv,mv]:List AV).all scalar=true
 simp only [List.all_cons,List.all_nil,h1.scv,h2.scv,h3.scv,Bool.and_true];rfl
theorem Q9 {g0 g g':Heap}{v w':AV}{fs:List Fn}{f':Fn}{bf i lo hi':Nat}{vs:List AV}{T:List Nat}{rg:Nat→Nat × Nat}(L:LsO g0 g 7 v fs FnO (some bf) vs)
  (hrg:∀ (k:Nat) v x,vs[k]?=some v→fs[k]?=some x→FnO g v x (rg k).1 (rg k).2∧g0.next≤(rg k).1∧(rg k).1≤(rg k).2∧(rg k).2≤g.next∧∀ j,some bf=some j→j<(rg k).1∨(rg k).2≤j) (hdis:∀ j k,j<k→k<fs.length→(rg j).2≤(rg k).1)
  (hi:i<fs.length) (s:Same T g g') (hT:∀ j∈T,j<g.next→j=bf∨((rg i).1≤j∧j<(rg i).2)) (hb:g'.get bf=some (.cells true ((vs.set i w').flatMap AV.cells))) (hw:FnO g' w' f' lo hi') (hf:∀ f∈fs,f.wf) (hf':f'.wf) (hl:fs.length≤1048576) :
  FnsRd g' v (fs.set i f'):=by
 obtain⟨b1,b2,b3⟩:=L.sl.blk bf rfl
 have ev:=L.sl.eq
 have len:=L.len
 have key:∀ (k:Nat) w f,(vs.set i w')[k]?=some w→(fs.set i f')[k]?=some f→w.cells.length=7∧FnRd g' w.cells f:=by
  intro k w f h1 h2
  by_cases hk:i=k
  ·subst hk
   rw [List.getElem?_set_self (by omega)] at h1 h2
   cases h1;cases h2
   obtain⟨kv,cv,mv,rfl,FR⟩:=hw.rd hf'
   exact⟨rfl,FR⟩
  ·rw [List.getElem?_set_ne hk] at h1 h2
   obtain⟨F,r1,r2,r3,r4⟩:=hrg k w f h1 h2
   have hkl:=(List.getElem?_eq_some_iff.1 h2).1
   have F':=F.stab _ _ _ _ _ _ T r2 r3 s fun j hj=>by
    by_cases hjg:j<g.next
    ·rcases hT j hj hjg with rfl | ⟨c1,c2⟩
     ·exact r4 _ rfl
     ·rcases Nat.lt_or_gt_of_ne hk with h | h
      ·have:=hdis i k h hkl;omega
      ·have:=hdis k i h hi;omega
    ·omega
   obtain⟨kv,cv,mv,rfl,FR⟩:=F'.rd (hf f (List.mem_of_getElem? h2))
   exact⟨rfl,FR⟩
 have rows7:∀ r∈(vs.set i w').map AV.cells,r.length=7:=fun r hr=>by
  obtain⟨w,hw,rfl⟩:=List.mem_map.1 hr
  obtain⟨k,hk⟩:=List.getElem?_of_mem hw
  have hkl:=(List.getElem?_eq_some_iff.1 hk).1
  rw [List.length_set] at hkl
  exact(key k w _ hk (List.getElem?_eq_getElem (by rw [List.length_set];omega))).1
 have hfl:∀ l:List (List AV),(∀ r∈l,r.length=7)→l.flatten.length=l.length * 7:=by
  intro l
  induction l with
  | nil=>intro _;rfl
  | cons x l ih=>intro h;rw [List.flatten_cons,List.length_append,ih fun y hy=>h y (List.mem_cons_of_mem _ hy),h x (List.mem_cons_self ..),List.length_cons];omega
 refine⟨(vs.set i w').map AV.cells,⟨((vs.set i w').map AV.cells).flatten,⟨hfl _ rows7,.inr ⟨bf,0,.un 7,?_,Nat.lt_of_lt_of_le b1 s.next,fun _=>⟨true,[],[],rfl,?_⟩⟩⟩,?_,fun k r hk=>Jv _ k r rows7 hk⟩,by simp [len],fun k r f hr hf=>?_⟩
 ·rw [ev,List.length_map,List.length_set,len]
 ·rw [hb,Ii];simp
 ·rw [mxl,List.length_map,List.length_set];omega
 ·rw [List.getElem?_map] at hr
  obtain⟨w,hw,rfl⟩:=Option.map_eq_some_iff.1 hr
  exact(key k w f hw hf).2
theorem NT:∀ {vs:List AV} {i:Nat} {w:AV} {k:Nat} {x:AV},(∀ v∈vs,v.cells.length=7)→vs[i]?=some w→k < 7→(vs.flatMap AV.cells).set (i * 7+k) x=(vs.set i (.agg (w.cells.set k x))).flatMap AV.cells
 | [],i,w,k,x,_,h,_=>by simp at h
 | v::vs,0,w,k,x,hl,h,hk=>by
  simp at h;subst h
  have:=hl v (List.mem_cons_self ..)
  rw [List.flatMap_cons,List.set_cons_zero,List.flatMap_cons,List.set_append_left _ _ (by omega)]
  simp [AV.cells]
 | v::vs,i+1,w,k,x,hl,h,hk=>by
  have:=hl v (List.mem_cons_self ..)
  rw [List.flatMap_cons,List.set_cons_succ,List.flatMap_cons,List.set_append_right _ _ (by omega),show(i+1) * 7+k-v.cells.length=i * 7+k by omega,NT (fun y hy=>hl y (List.mem_cons_of_mem _ hy)) (by simpa using h) hk]
theorem NI:∀ {vs:List AV} {i:Nat} {w:AV} {k:Nat},(∀ v∈vs,v.cells.length=7)→vs[i]?=some w→k < 7→(vs.flatMap AV.cells)[i * 7+k]?=w.cells[k]?
 | [],i,w,k,_,h,_=>by simp at h
 | v::vs,0,w,k,hl,h,hk=>by
  simp at h;subst h
  have:=hl v (List.mem_cons_self ..)
  rw [List.flatMap_cons,List.getElem?_append_left (by omega),Nat.zero_mul,Nat.zero_add]
 | v::vs,i+1,w,k,hl,h,hk=>by
  have:=hl v (List.mem_cons_self ..)
  rw [List.flatMap_cons,List.getElem?_append_right (by omega),show(i+1) * 7+k-v.cells.length=i * 7+k by omega,NI (fun y hy=>hl y (List.mem_cons_of_mem _ hy)) (by simpa using h) hk]
theorem MdO.upd {g0 g g':Heap}{v w':AV}{m:Md}{shs:List Shp}{sv gv kv cv fv:AV}{bs bg bk bc:Option Nat}{bf i lo hi':Nat}{f':Fn}{vs:List AV}{e1 e2 e3 e4:Nat}{T:List Nat}{rg:Nat→Nat × Nat}(O:MdO g0 g v m shs sv gv kv cv fv bs bg bk bc (some bf) vs e1 e2 e3 e4)(W:m.wf shs)(hs:m.shapes=shs.map Shp.row)
  (hrg:∀ (k:Nat) v x,vs[k]?=some v→m.funcs[k]?=some x→FnO g v x (rg k).1 (rg k).2∧g0.next≤(rg k).1∧(rg k).1≤(rg k).2∧(rg k).2≤g.next∧∀ j,some bf=some j→j<(rg k).1∨(rg k).2≤j) (hdis:∀ j k,j<k→k<m.funcs.length→(rg j).2≤(rg k).1)
  (hi:i<m.funcs.length) (s:Same T g g') (hT:∀ j∈T,g0.next≤j∧(j<g.next→j=bf∨((rg i).1≤j∧j<(rg i).2))) (hb:g'.get bf=some (.cells true ((vs.set i w').flatMap AV.cells))) (hw:FnO g' w' f' lo hi') (hf':f'.wf) :
  MdRd g' (.agg [sv,gv,kv,cv,fv,.int .i64 m.main]) { m with funcs:=m.funcs.set i f' }:=by
 have l1:=W.ls;have l2:=W.lg;have l3:=W.lk;have l4:=W.lc;have l5:=W.lf
 obtain⟨q1,q2,q3,q4⟩:=O.le
 have os:=O.os.same s (fun j hj hm=>by have:=O.rs j hj;have:=(hT j hm).1;omega)
 have og:=O.og.same s (fun j hj hm=>by have:=O.rg j hj;have:=(hT j hm).1;omega)
 have ok:=O.ok.same s (fun j hj hm=>by have:=O.rk j hj;have:=(hT j hm).1;omega)
 have oc:=O.oc.same s (fun j hj hm=>by have:=O.rc j hj;have:=(hT j hm).1;omega)
 refine⟨sv,gv,kv,cv,fv,rfl,?_,og.rd,ok.rd,oc.rows (by simp) (fun r hr=>?_) (by simpa using W.lc),Q9 O.of hrg hdis hi s (fun j hj=>(hT j hj).2) hb hw W.wf hf' W.lf,W.wm,by show m.globals.length≤maxLen;rw [mxl];omega,by show m.consts.length≤maxLen;rw [mxl];omega,by show m.cases.length≤maxLen;rw [mxl];omega,?_,oc.cap,O.of.sl.cap,W.wc,fun r hr=>?_,W.wk⟩
 ·show RwC g' 3 sv m.shapes
  rw [hs]
  exact os.rows (by simp) (fun r hr=>by obtain⟨i,_,rfl⟩:=List.mem_map.1 hr;rfl) (by simpa using W.ls)
 ·obtain⟨i,_,rfl⟩:=List.mem_map.1 hr;rfl
 ·show(m.funcs.set i f').length≤maxLen
  rw [mxl,List.length_set];omega
 ·have hr:r∈m.shapes:=hr
  rw [hs] at hr
  obtain⟨s,_,rfl⟩:=List.mem_map.1 hr
  exact⟨_,_,_,rfl⟩
set_option linter.all false
attribute [local congr] BJ Dv Dz Dw Br Dx Dy Aw Av
theorem Nc {sk:List Int}{m:Md}{shs:List Shp}(h:withR sk m shs=none):Mod1 m shs∧Mod2 m∧(∀ f∈m.funcs,Whole f)∧(mdR sk m m.funcs 0 (List.replicate m.cases.length false)).1=none:=by
 unfold withR at h
 split at h
 ·cases h
 ·rename_i h1
  split at h
  ·cases h
  ·rename_i h2
   cases hw:fbW m.funcs 0 with
   | some n=>rw [hw] at h;cases h
   | none=>
    rw [hw] at h
    have key:∀ (l:List Fn) n,fbW l n=none→∀ f∈l,Whole f:=by
     intro l
     induction l with
     | nil=>intro n _ f hf;cases hf
     | cons g l ih=>
      intro n hn f hf
      rw [fbW] at hn
      split at hn
      ·rcases List.mem_cons.1 hf with rfl | hf
       ·assumption
       ·exact ih _ hn f hf
      ·cases hn
    refine⟨Classical.not_not.1 h1,Classical.not_not.1 h2,key _ _ hw,?_⟩
    simp only at h
    cases hm:(mdR sk m m.funcs 0 (List.replicate m.cases.length false)).1 with
    | none=>rfl
    | some r=>obtain⟨a,b,c⟩:=r;rw [hm] at h;cases h
theorem Mi {sk:List Int}{m:Md}{shs:List Shp}{i:Nat}{f:Fn}(M1:Mod1 m shs)(M2:Mod2 m)(hf:m.funcs[i]?=some f)(hw : ¬ Whole f)(ha:∀ (j:Nat) f',j<i→m.funcs[j]?=some f'→Whole f'):withR sk m shs=some ((i:Int),-1,3):=by
 unfold withR
 rw [if_neg (Classical.not_not.2 M1),if_neg (Classical.not_not.2 M2),Lh hf hw ha]
 simp
theorem Mod1.fs {m:Md}{shs:List Shp}(M:Mod1 m shs){fs:List Fn}(hl:fs.length=m.funcs.length):Mod1 { m with funcs:=fs } shs:=
 ⟨M.s1,M.s2,M.s3,M.s4,M.s5,M.s6,by show ¬ (128:Int)<fs.length;rw [hl];exact M.s7,by show ¬ (fs.length:Int) < 1;rw [hl];exact M.s8⟩
theorem Mod2.upd {m:Md}(M:Mod2 m){i:Nat}{f f':Fn}(hf:m.funcs[i]?=some f)(h1:f'.pa=f.pa)(h2:f'.ca=f.ca)(h3:f'.re=f.re):Mod2 { m with funcs:=m.funcs.set i f' }:=by
 have hi:=(List.getElem?_eq_some_iff.1 hf).1
 refine⟨M.m0,by show ¬ ((m.funcs.set i f').length:Int)≤m.main;rw [List.length_set];exact M.m1,fun g hg=>?_⟩
 have hg:(m.funcs.set i f')[m.main.toNat]?=some g:=hg
 by_cases hk:i=m.main.toNat
 ·rw [← hk,List.getElem?_set_self hi] at hg
  cases hg
  rw [h1,h2,h3]
  exact M.fn f (by rw [← hk];exact hf)
 ·rw [List.getElem?_set_ne hk] at hg
  exact M.fn g hg
theorem SmV.upd {m:Md}(S:SmV m){i:Nat}{f f':Fn}(hf:m.funcs[i]?=some f)(h1:f'.code.length≤4096)(h2:f'.maps.length≤4097)(h3:f'.kinds.length≤100):SmV { m with funcs:=m.funcs.set i f' }:=by
 have hi:=(List.getElem?_eq_some_iff.1 hf).1
 refine⟨by show(m.funcs.set i f').length≤20;rw [List.length_set];exact S.1,S.2.1,fun k g hg=>?_,S.2.2.2⟩
 have hg:(m.funcs.set i f')[k]?=some g:=hg
 by_cases hk:i=k
 ·rw [← hk,List.getElem?_set_self hi] at hg
  cases hg
  exact⟨h1,h2,h3⟩
 ·rw [List.getElem?_set_ne hk] at hg
  exact S.2.2.1 k g hg
theorem P7 (a b c a' b' c':Int):eqP (some (.struct #[])) (some [(0,(.int .i64)),(1,(.int .i64)),(2,(.int .i64))]) false .eql (.agg [.int .i64 a,.int .i64 b,.int .i64 c]) (.agg [.int .i64 a',.int .i64 b',.int .i64 c'])=some (.bool (decide (a=a') && decide (b=b') && decide (c=c'))):=by
 simp only [eqP,guardE,binE,eqD,eqFs,eqT]
 by_cases h1:a=a'<;>by_cases h2:b=b'<;>by_cases h3:c=c'<;>simp [h1,h2,h3,binE]
theorem LR {h:Heap}{v:AV}{m:Md}{shs:List Shp}{n:Int}(H:MdRd h v m)(hs:m.shapes=shs.map Shp.row)(hsw:∀ s∈shs,s.wf)(hq:∀ g,Same [] h g→Gt g=some (.bool true,g)) :
  Ok (Ca v (.int .i64 n) h) fun r=>r.1 = .bool true:=by
 obtain⟨sv0,gv0,kv0,cv0,fv0,rfl,hbx,B⟩:=H.box
 obtain⟨g,hg⟩:∃ g,g=h.new (.cells true [sv0,gv0,kv0,cv0,fv0,.int .i64 m.main]):=⟨_,rfl⟩
 have s:Same [] h g:=by rw [hg];exact Same.new _ _
 rw [← hg] at B
 have la:=B.la
 refine Ok.eq ?_ (by simp -implicitDefEqProofs only [Ca,hbx,Ae (.cells true [sv0,gv0,kv0,cv0,fv0,.int .i64 m.main]),← hg,hq g s,la,AO,AF,Option.bind_some,AZ,AY,Ac,AX,AL,AH,AD,Aa,AQ,AE,AM,AC,if_true,if_false,Bool.false_eq_true,AJ,AP,AG,AR,AK,AU,Int.reduceEq,Int.reduceLT,Int.reduceLE,decide_true,decide_false,AB,AA,Ad,Bool.not_true,Bool.not_false,AW]<;>rfl)
 refine An (Ro B.rd) ?_
 rintro _ g2 ⟨s2,b,rfl,hsm⟩
 simp only at s2
 cases b with
 | true=>exact Ag (v:=.bool true) (g:=g2) (by simp -implicitDefEqProofs only [show ∀ b:Bool,b=b from fun _=>rfl,AO,AF,Option.bind_some,AZ,AY,Ac,AX,AL,AH,AD,Aa,AQ,AE,AM,AC,if_true,if_false,Bool.false_eq_true,AJ,AP,AG,AR,AK,AU,Int.reduceEq,Int.reduceLT,Int.reduceLE,decide_true,decide_false,AB,AA,Ad,Bool.not_true,Bool.not_false,AW]) rfl
 | false=>
 have sm:=(hsm rfl).v
 have small:=hsm rfl
 have B2:=B.mono s2
 have la2:=B2.la
 refine Ok.eq ?_ (by simp -implicitDefEqProofs only [la2,AO,AF,Option.bind_some,AZ,AY,Ac,AX,AL,AH,AD,Aa,AQ,AE,AM,AC,if_true,if_false,Bool.false_eq_true,AJ,AP,AG,AR,AK,AU,Int.reduceEq,Int.reduceLT,Int.reduceLE,decide_true,decide_false,AB,AA,Ad,Bool.not_true,Bool.not_false,AW]<;>rfl)
 refine An (P:=fun r=>Same [] g2 r.2∧r.1 = .bool (withR [] m shs).isNone) (An (Qb B2.rd hs sm) fun v g hv=>Ok.of hv) ?_
 rintro _ g3 ⟨s3,rfl⟩
 simp only at s3
 cases hw:withR [] m shs with
 | some q=>exact Ag (v:=.bool true) (g:=g3) (by simp -implicitDefEqProofs only [Option.isNone_some,AO,AF,Option.bind_some,AZ,AY,Ac,AX,AL,AH,AD,Aa,AQ,AE,AM,AC,if_true,if_false,Bool.false_eq_true,AJ,AP,AG,AR,AK,AU,Int.reduceEq,Int.reduceLT,Int.reduceLE,decide_true,decide_false,AB,AA,Ad,Bool.not_true,Bool.not_false,AW]) rfl
 | none=>
 by_cases c1:n < 0
 ·exact Ag (v:=.bool true) (g:=g3) (by simp -implicitDefEqProofs only [Option.isNone_none,c1,AO,AF,Option.bind_some,AZ,AY,Ac,AX,AL,AH,AD,Aa,AQ,AE,AM,AC,if_true,if_false,Bool.false_eq_true,AJ,AP,AG,AR,AK,AU,Int.reduceEq,Int.reduceLT,Int.reduceLE,decide_true,decide_false,AB,AA,Ad,Bool.not_true,Bool.not_false,AW]) rfl
 have B3:=B2.mono s3
 have l4:=B3.l4;have ln4:=B3.ln4;have la3:=B3.la
 by_cases c2:(m.funcs.length:Int)≤n
 ·exact Ag (v:=.bool true) (g:=g3) (by simp -implicitDefEqProofs only [Option.isNone_none,c1,c2,l4,ln4,AO,AF,Option.bind_some,AZ,AY,Ac,AX,AL,AH,AD,Aa,AQ,AE,AM,AC,if_true,if_false,Bool.false_eq_true,AJ,AP,AG,AR,AK,AU,Int.reduceEq,Int.reduceLT,Int.reduceLE,decide_true,decide_false,AB,AA,Ad,Bool.not_true,Bool.not_false,AW]) rfl
 refine Ok.eq ?_ (by simp -implicitDefEqProofs only [Option.isNone_none,c1,c2,l4,ln4,la3,AO,AF,Option.bind_some,AZ,AY,Ac,AX,AL,AH,AD,Aa,AQ,AE,AM,AC,if_true,if_false,Bool.false_eq_true,AJ,AP,AG,AR,AK,AU,Int.reduceEq,Int.reduceLT,Int.reduceLE,decide_true,decide_false,AB,AA,Ad,Bool.not_true,Bool.not_false,AW]<;>rfl)
 refine QV B3.rd hs hsw sm ?_
 rintro g4 N sv gv kv cv fv bs bg bk bc bf vs e1 e2 e3 e4 g0 s4 l1 l2 n4 bN ⟨gd,hgd,sd,O⟩ hbs he1
 obtain⟨M1,M2,hall,-⟩:=Nc hw
 have W:=RY B3.rd hs hsw sm
 obtain⟨i,rfl⟩:∃ i:Nat,n=(i:Int):=⟨n.toNat,by omega⟩
 have hi:i<m.funcs.length:=by omega
 obtain⟨f,hf⟩:∃ f,m.funcs[i]?=some f:=⟨_,List.getElem?_eq_getElem hi⟩
 obtain⟨d1,d2,d3⟩:=small.2.2.1 i f hf
 cases bf with
 | none=>have:=O.of.sl.nil rfl;omega
 | some bf=>
 obtain⟨rg,hrg,hdis⟩:=O.of.val
 have vlen:=O.of.len
 obtain⟨w,hwi⟩:∃ w,vs[i]?=some w:=⟨_,List.getElem?_eq_getElem (by omega)⟩
 obtain⟨F,r1,r2,r3,r4⟩:=hrg i w f hwi hf
 obtain⟨fk,fc,fm,yk,yc,ym,rfl,f1,f2,f3,t1,t2,t3⟩:=F
 obtain⟨p1,p2,p3⟩:=O.of.sl.blk bf rfl
 have pv:fv = .sl (some (bf,0)) m.funcs.length (.un 7):=O.of.sl.eq
 have hN:∀ g':Heap,g'.get N=g4.get N→ldS g' (.ptr (some (N,0+4)))=some fv:=fun g' hg'=>by rw [Ah (hg'.trans bN)];rfl
 have rows7:∀ v∈vs,v.cells.length=7:=fun v hv=>by
  obtain⟨k,hk⟩:=List.getElem?_of_mem hv
  have hkl:=(List.getElem?_eq_some_iff.1 hk).1
  exact(hrg k v _ hk (List.getElem?_eq_getElem (by omega))).1.row.1
 have hix:iaS 7 fv (.int .i64 (i:Int))=some (.ptr (some (bf,i * 7))):=by
  rw [pv,Ej _ _ _ _ _ _ ⟨by omega,by omega⟩]
  simp
 have hbd:g4.get bf=some (.cells true (vs.flatMap AV.cells)):=(sd.get _ p1 (by simp)).trans p2
 have lm:ldS (hpN g4 1) (.ptr (some (bf,i * 7+6)))=some fm:=by
  rw [Ah (show(hpN g4 1).get bf=_ from hbd),NI rows7 hwi (by omega)];rfl
 have hlit:bsP 1 [(AV.int .u64 0)] 1 [(0,(AV.int .u64 0))]=some (.cells true [.int .u64 0],fun i=>.sl (some (i,0)) 1 (.ex 1)):=rfl
 have lN:=hN (hpN g4 1) rfl
 -- the appended map
 obtain⟨g5,hg5⟩:∃ g5,g5=(hpN g4 1).put g4.next (some (.cells true [.int .u64 0])):=⟨_,rfl⟩
 have s5:Same [] g4 g5:=⟨by rw [hg5];show g4.next≤g4.next+1;omega,fun j hj _=>by rw [hg5,BQ (by omega)];rfl⟩
 have n5:g5.next=g4.next+1:=by rw [hg5];rfl
 have b5:g5.get g4.next=some (.cells true [.int .u64 0]):=by rw [hg5];exact Am
 have f3':=f3.same (sd.trans s5) (by simp)
 obtain⟨v',g6,ea,A6,s6,n6⟩:=appAt (bytes:=8) (c:=g4.next) f3' b5 rfl rfl (by omega) (by omega)
 have hymN:∀ j,ym=some j→j<gd.next:=fun j hj=>by have:=(t3 j hj).2.1;omega
 have hymb:ym≠some bf:=fun h=>by have:=t3 bf h;have:=r4 bf rfl;omega
 have hb6:g6.get bf=some (.cells true (vs.flatMap AV.cells)):=by
  rw [s6.get bf (by omega) (fun hm=>hymb (by cases ym<;>simp_all)),s5.get bf (by omega) (by simp)];exact hbd
 have hflen:(vs.flatMap AV.cells).length=m.funcs.length * 7:=by rw [O.of.sl.len]
 obtain⟨g7,hg7⟩:∃ g7,g7=g6.put bf (some (.cells true ((vs.flatMap AV.cells).set (i * 7+6) v'))):=⟨_,rfl⟩
 have st:stP 1 g6 (.ptr (some (bf,i * 7+6))) v'=some (.bot,g7):=by rw [hg7];exact Cd hb6 (by omega) A6.scv
 have s7:Same [bf] g6 g7:=by rw [hg7];exact Same.put _ _ _
 have hNy:N∉ym.toList:=fun hm=>by
  have:ym=some N:=by cases ym<;>simp_all
  have:=hymN N this;omega
 have k6:g6.get N=g4.get N:=(s6.get N (by omega) hNy).trans (s5.get N (by omega) (by simp))
 have k7:g7.get N=g4.get N:=by rw [hg7,BQ (by omega)];exact k6
 have lA:ldA 6 g7 (.ptr (some (N,0)))=some (.agg [sv,gv,kv,cv,fv,.int .i64 m.main]):=by rw [EX (k7.trans bN)];rfl
 have hsame:same fv fv=true:=O.of.sl.samev
 have hrd:=Bi (f:=fun k=>ldS k (.ptr (some (N,0+4)))) (h:=hpN g4 1) lN
 have hchk:∀ x:Option (AV × Heap),chk [hpN g4 1,g6,g7] [(fun k=>ldS k (.ptr (some (N,0+4))),fv,0,1)] x=x:=fun x=>by
  rw [Ce hsame (fun g' hg'=>?_) (by simp),AW]
  simp only [List.mem_cons,List.not_mem_nil,or_false] at hg'
  rcases hg' with rfl | rfl | rfl
  ·exact lN
  ·exact hN _ k6
  ·exact hN _ k7
 -- the module,changed
 obtain⟨f',hf'⟩:∃ f':Fn,f' = { f with maps:=f.maps ++ [0] }:=⟨_,rfl⟩
 have fw:=W.wf f (List.mem_of_getElem? hf)
 have fw':f'.wf:=by
  rw [hf']
  refine⟨fw.w1,fw.w2,fw.w3,fw.w4,fw.code,fun x hx=>?_,fw.k,fw.c,by show(f.maps ++ [0]).length≤1048576;simp;omega⟩
  rcases List.mem_append.1 hx with hx | hx
  ·exact fw.maps x hx
  ·simp at hx;subst hx;decide
 have sT:Same (ym.toList ++ [bf]) gd g7:=((sd.trans s5).sub (by simp)).trans ((s6.sub (fun j hj=>List.mem_append_left _ hj)).trans (s7.sub (by simp)))
 have nd:=sd.next
 have hT:∀ j∈ym.toList ++ [bf],g0.next≤j∧(j<gd.next→j=bf∨((rg i).1≤j∧j<(rg i).2)):=fun j hj=>by
  rcases List.mem_append.1 hj with hj | hj
  ·have e:ym=some j:=by cases ym<;>simp_all
   have:=t3 j e
   exact⟨by omega,fun _=>.inr ⟨by omega,by omega⟩⟩
  ·simp at hj;subst hj
   exact⟨O.of.new _ rfl,fun _=>.inl rfl⟩
 have hb7:g7.get bf=some (.cells true ((vs.set i (.agg [.int .i64 f.pa,.int .i64 f.ca,.int .i64 f.sl,.int .i64 f.re,fk,fc,v'])).flatMap AV.cells)):=by
  rw [hg7,Am,NT rows7 hwi (by omega)];rfl
 have hbfk:∀ j,yk=some j→j∉ym.toList ++ [bf]:=fun j hj hm=>by
  rcases List.mem_append.1 hm with hm | hm
  ·have e:ym=some j:=by cases ym<;>simp_all
   have:=(t3 j e).2.2.1;exact this hj
  ·simp at hm;subst hm;have:=t1 _ hj;have:=r4 _ rfl;omega
 have hbfc:∀ j,yc=some j→j∉ym.toList ++ [bf]:=fun j hj hm=>by
  rcases List.mem_append.1 hm with hm | hm
  ·have e:ym=some j:=by cases ym<;>simp_all
   have:=(t3 j e).2.2.2;exact this hj
  ·simp at hm;subst hm;have:=t2 _ hj;have:=r4 _ rfl;omega
 have FN:FnO g7 (.agg [.int .i64 f.pa,.int .i64 f.ca,.int .i64 f.sl,.int .i64 f.re,fk,fc,v']) f' 0 g7.next:=by
  rw [hf']
  have k1:=f1.same sT hbfk
  have k2:=f2.same sT hbfc
  have k3:=A6.same s7 (fun j hj hm=>by simp at hm;subst hm;cases hj;omega)
  have hn7:g7.next=g6.next:=by rw [hg7];rfl
  refine⟨fk,fc,v',yk,yc,some g5.next,rfl,k1,k2,?_,fun j hj=>⟨by omega,by have:=(t1 j hj).2;omega⟩,fun j hj=>⟨by omega,by have:=(t2 j hj).2;omega⟩,fun j hj=>⟨by omega,by cases hj;omega,fun e=>?_,fun e=>?_⟩⟩
  ·show SlB g7 _ 1 v' ((f.maps ++ [0]).map (AV.int .u64)) (f.maps ++ [0]).length
   rw [List.map_append,List.length_append];exact k3
  ·have:=(t1 j e).2;cases hj;omega
  ·have:=(t2 j e).2;cases hj;omega
 have MD:=O.upd W hs hrg hdis hi sT hT hb7 FN fw'
 have sm':SmV { m with funcs:=m.funcs.set i f' }:=sm.upd hf (by rw [hf'];show f.code.length≤4096;omega) (by rw [hf'];show(f.maps ++ [0]).length≤4097;simp;omega) (by rw [hf'];show f.kinds.length≤100;omega)
 have hfw:=hall f (List.mem_of_getElem? hf)
 have hnw : ¬ Whole f':=fun h=>by
  have a:=hfw.a13;have b:=h.a13
  rw [hf'] at b
  have b:((f.maps ++ [0]).length:Int)=f.code.length:=b
  rw [List.length_append] at b
  simp at b;omega
 have hwR:withR [] { m with funcs:=m.funcs.set i f' } shs=some ((i:Int),-1,3):=Mi (M1.fs (by simp)) (M2.upd hf (by rw [hf']) (by rw [hf']) (by rw [hf'])) (List.getElem?_set_self hi) hnw fun j f'' hj hf''=>by
  have hf'':(m.funcs.set i f')[j]?=some f'':=hf''
  rw [List.getElem?_set_ne (by omega)] at hf''
  exact hall f'' (List.mem_of_getElem? hf'')
 refine Ok.eq ?_ (by simp -implicitDefEqProofs only [hrd,lN,hix,lm,hlit,EI,Nat.add_zero,← hg5,ea,st,hchk,lA,AO,AF,Option.bind_some,AZ,AY,Ac,AX,AL,AH,AD,Aa,AQ,AE,AM,AC,if_true,if_false,Bool.false_eq_true,AJ,AP,AG,AR,AK,AU,Int.reduceEq,Int.reduceLT,Int.reduceLE,decide_true,decide_false,AB,AA,Ad,Bool.not_true,Bool.not_false,AW]<;>rfl)
 refine An (NX MD hs sm') ?_
 rw [hwR]
 rintro _ g8 ⟨s8,rfl⟩
 refine Ok.eq ?_ (by simp -implicitDefEqProofs only [show ∀ (a b:AV),extractV 0 (.tup [a,b])=some a from fun _ _=>rfl,show ∀ (a b:AV),extractV 1 (.tup [a,b])=some b from fun _ _=>rfl,Option.isNone_some,AO,AF,Option.bind_some,AZ,AY,Ac,AX,AL,AH,AD,Aa,AQ,AE,AM,AC,if_true,if_false,Bool.false_eq_true,AJ,AP,AG,AR,AK,AU,Int.reduceEq,Int.reduceLT,Int.reduceLE,decide_true,decide_false,AB,AA,Ad,Bool.not_true,Bool.not_false,AW]<;>rfl)
 refine D5 (cs:=faultO (some ((i:Int),-1,3))) (by rfl) (by rfl) (by rfl) fun g9 s9 n9 b9=>?_
 have l9:ldA 3 g9 (.ptr (some (g8.next,0)))=some (.agg (faultO (some ((i:Int),-1,3)))):=CY b9 rfl
 have ebl:bldS [(0,1),(1,1),(2,1)] [(AV.int .i64 0),(AV.int .i64 0),(AV.int .i64 0)] [(0,.int .i64 (i:Int)),(1,(AV.int .i64 (-1))),(2,(AV.int .i64 3))]=some (.agg [.int .i64 (i:Int),.int .i64 (-1),.int .i64 3]):=rfl
 exact Ag (v:=.bool true) (g:=g9) (by simp -implicitDefEqProofs only [l9,ebl,faultO,faultC,P7,Bool.and_self,AO,AF,Option.bind_some,AZ,AY,Ac,AX,AL,AH,AD,Aa,AQ,AE,AM,AC,if_true,if_false,Bool.false_eq_true,AJ,AP,AG,AR,AK,AU,Int.reduceEq,Int.reduceLT,Int.reduceLE,decide_true,decide_false,AB,AA,Ad,Bool.not_true,Bool.not_false,AW]) rfl
end Go.Ab.F
