import Derived.Test.YtdmgkkcjnmmfmaaGreatAb12
namespace Go.Ab
open Go
set_option linter.all false
noncomputable section
theorem Mz {F:List AV→Heap→OutV}:∀ {k:Nat} {vs:List AV} {h:Heap} {r:Ex × List AV × Heap},iter k F vs h=some r→iter (k+1) F vs h=some r
 | 0,_,_,_,he=>by simp [iter] at he
 | k+1,vs,h,r,he=>by
  rw [iter] at he ⊢
  simp only [Option.bind_eq_some_iff] at he ⊢
  obtain⟨⟨e,vs',h'⟩,h1,h2⟩:=he
  refine⟨(e,vs',h'),h1,?_⟩
  cases e
  ·exact Mz h2
  ·exact h2
  ·exact h2
theorem NB {F:List AV→Heap→OutV}{k:Nat}{vs:List AV}{h:Heap}{r:Ex × List AV × Heap}(he:iter k F vs h=some r):∀ {m:Nat},k≤m→iter m F vs h=some r
 | 0,hk=>by have:k=0:=Nat.le_zero.1 hk;subst this;exact he
 | m+1,hk=>by
  by_cases h':k=m+1
  ·subst h';exact he
  ·exact Mz (NB he (by omega))
open Classical in
def loopN (F:List AV→Heap→OutV)(vs:List AV)(h:Heap):OutV:=iter 1267650600228229401496703205376 F vs h
def cl {R:Type}(x:Option (AV × Heap))(K:AV→Heap→Option R):Option R:=x.bind fun r=>K r.1 r.2
def mk {R:Type}(new:Heap→Blk→Heap)(x:Option (Blk × (Nat→AV)))(h:Heap)(K:AV→Heap→Option R):Option R:=x.bind fun bf=>K (bf.2 h.next) (new h bf.1)
def mkAt (put:Heap→Nat→Option Blk→Heap)(x:Option (Blk × (Nat→AV)))(i:Nat)(h:Heap):Option (AV × Heap):=x.bind fun bf=>some (bf.2 i,put h i (some bf.1))
abbrev Asked:=(Heap→Option AV) × AV × Nat × Nat
def rdC (f:Heap→Option AV)(h:Heap)(lo hi:Nat)(cs:List Asked):Option (AV × List Asked):=(f h).bind fun v=>some (v,(f,v,lo,hi)::cs)
def clC {R:Type}(x:Option (AV × List Asked))(K:AV→List Asked→Option R):Option R:=x.bind fun r=>K r.1 r.2
def lp {R:Type}(x:OutV)(K:Ex→List AV→Heap→Option R):Option R:=x.bind fun r=>K r.1 r.2.1 r.2.2
def gQ {R:Type}(w:Option Bool)(h:Heap)(x:Option (AV × Heap))(K:AV→Heap→Option R):Option R:=w.bind fun w=>(bif w then x else some (.tup [],h)).bind fun r=>K r.1 r.2
def gV {α:Type}(w:Option Bool)(x:Option α)(d:α):Option α:=w.bind fun w=>bif w then x else some d
theorem Kg {α β:Type}(w:Option Bool)(x:Option α)(d:α)(K:α→Option β):(gV w x d).bind K=w.bind fun b=>(if b then x else some d).bind K:=by
 unfold gV
 rw [Option.bind_assoc]
 congr 1;funext b
 cases b<;>rfl
def condE {R:Type}(c:AV)(a b:Option R):Option R:=(asBool c).bind fun t=>bif t then a else b
def endE (e:Ex)(x:Option (AV × Heap)):Option (AV × Heap):=
 match e with
 | .exit _=>none
 | _=>x
def thenK {R:Type}(e:Ex)(A:Option R)(B:Ex→Option R):Option R:=
 match e with
 | .normal=>A
 | e=>B e
def faP (off:Nat)(a:AV):Option AV:=
 match a with
 | .ptr (some p)=>some (.ptr (some (addA p off)))
 | _=>none
def ldS (h:Heap)(a:AV):Option AV:=
 match a with
 | .ptr (some p)=>
  match h.get p.1 with
  | some (.cells _ vs)=>atO vs p.2
  | _=>none
 | _=>none
def ldA (n:Nat)(h:Heap)(a:AV):Option AV:=
 match a with
 | .ptr (some p)=>
  match h.get p.1 with
  | some (.cells _ vs)=>(spanF vs p.2 n).map .agg
  | _=>none
 | _=>none
section
variable (P:Program)(call:CallF)
def atK {R:Type}(l:List AV):Nat→(AV→R)→R:=
 List.rec (motive:=fun _=>Nat→(AV→R)→R) (fun _ K=>K .bot) (fun v _ ih n K=>Nat.rec (K v) (fun m _=>ih m K) n) l
theorem Oh {R:Type}:∀ (l:List AV) (n:Nat) (K:AV→R),atK l n K=K (atF l n)
 | [],_,_=>rfl
 | v::l,0,_=>rfl
 | v::l,n+1,K=>Oh l n K
def evK {R:Type}(fr:Fr)(x:Operand)(K:AV→Option R):Option R:=
 Operand.rec (motive:=fun _=>Option R) (fun t=>atK fr t K) (fun v=>Option.rec (motive:=fun _=>Option R) none K (absV v)) (fun g=>Bool.rec (motive:=fun _=>Option R) none (K (.ptr (some (g,0)))) (Nat.blt g P.globals.size)) (fun f=>K (.fn f [] [])) x
theorem J6 {R:Type}(fr:Fr)(x:Operand)(K:AV→Option R):evK P fr x K=(ev P fr x).bind K:=by
 cases x with
 | tmp t=>exact Oh fr t K
 | const v=>show Option.rec (motive:=fun _=>Option R) none K (absV v)=(absV v).bind K;cases absV v<;>rfl
 | global g=>
  show Bool.rec (motive:=fun _=>Option R) none (K (.ptr (some (g,0)))) (Nat.blt g P.globals.size)=(if g<P.globals.size then some (AV.ptr (some (g,0))) else none).bind K
  by_cases hg:g<P.globals.size
  ·have e:Nat.blt g P.globals.size=true:=by simpa using hg
   rw [e,if_pos hg];rfl
  ·have e:Nat.blt g P.globals.size=false:=by
    cases h:Nat.blt g P.globals.size with
    | false=>rfl
    | true=>exact absurd (by simpa using h) hg
   rw [e,if_neg hg];rfl
 | func f=>rfl
inductive Mv where
 | mv (x:Operand)
 | fa (off:Nat) (x:Operand)
 | ls (x:Operand)
 | la (n:Nat) (x:Operand)
 | no
def faOf (s:TypeId)(f:Nat):Option Nat:=
 match P.underlying s with
 | some (.struct fs)=>
  match fs[f]? with
  | some fd=>
   match sizeA P fd.type with
   | some (_+1)=>some fd.offset
   | _=>none
  | none=>none
 | _=>none
def ldOf (t:TypeId):Option (Option Nat):=
 match P.underlying t with
 | none=>none
 | some _=>if isAggA P t then(sizeA P t).map some else some none
def mvOf (o:Oper):Mv:=
 match o.op with
 | .move x=>.mv x
 | .assign x=>.mv x
 | .fieldAddr s x f=>match faOf P s f with | some off=>.fa off x | none=>.no
 | .load t x=>match ldOf P t with | some none=>.ls x | some (some n)=>.la n x | none=>.no
 | _=>.no
theorem O1 {s:TypeId}{f off:Nat}(h:faOf P s f=some off)(a:AV):(match P.underlying s,a with
  | some (.struct fs),.ptr (some p)=>(fs[f]?).bind fun fd=>(sizeA P fd.type).bind fun n=>if n=0 then none else some (.ptr (some (addA p fd.offset)))
  | _,_=>none)=faP off a:=by
 unfold faOf at h
 split at h
 ·rename_i fs hu
  split at h
  ·rename_i fd hfd
   split at h
   ·rename_i n hn
    cases h
    rw [hu]
    cases a<;>try rfl
    rename_i q
    cases q
    ·rfl
    ·simp [hfd,hn,faP]
   ·cases h
  ·cases h
 ·cases h
def ldR (r:Option Nat)(hp:Heap)(a:AV):Option AV:=
 match r with
 | none=>ldS hp a
 | some n=>ldA n hp a
theorem PV {t:TypeId}{r:Option Nat}(h:ldOf P t=some r)(hp:Heap)(a:AV):(match a with | .ptr (some p)=>loadAt P hp t p | _=>none)=ldR r hp a:=by
 unfold ldOf at h
 split at h
 ·cases h
 ·rename_i d hd
  cases a<;>try (cases r<;>rfl)
  rename_i q
  cases q with
  | none=>cases r<;>rfl
  | some q=>
   split at h
   ·rename_i ha
    simp only [Option.map_eq_some_iff] at h
    obtain⟨n,hn,rfl⟩:=h
    simp only [ldR,loadAt,ldA]
    cases hp.get q.1 with
    | none=>rfl
    | some b=>cases b<;>simp [partA,hd,ha,hn]
   ·rename_i ha
    cases h
    simp only [ldR,loadAt,ldS]
    cases hp.get q.1 with
    | none=>rfl
    | some b=>cases b<;>simp [partA,hd,ha]
def plainK {R:Type}(o:Oper)(fr:Fr)(h:Heap)(K:AV→Heap→Option R):Option R:=
 Kind.rec (motive:=fun _=>Option R) ((pureA P o fr).bind fun v=>K v h) ((readA P o fr h).bind fun v=>K v h) (mk Heap.new (makeA P o fr) h K) (cl (effA P o fr h) K)
  (Option.rec (motive:=fun _=>Option R) none (fun fa=>cl (call fa.1 fa.2 h) K) (callA P o fr)) none (kindA P o)
theorem Of {R:Type}(o:Oper)(fr:Fr)(h:Heap)(K:AV→Heap→Option R):plainK P call o fr h K=(opA P call o fr h).bind fun r=>K r.1 r.2:=by
 unfold plainK opA
 cases kindA P o<;>simp only [mk,cl,Option.bind_map,Option.bind_assoc,Function.comp_def,Option.bind_none]
 cases callA P o fr<;>rfl
def opK {R:Type}(o:Oper)(fr:Fr)(h:Heap)(K:AV→Heap→Option R):Option R:=
 Mv.rec (motive:=fun _=>Option R) (fun x=>evK P fr x fun v=>K v h) (fun off x=>evK P fr x fun a=>(faP off a).bind fun v=>K v h) (fun x=>evK P fr x fun a=>(ldS h a).bind fun v=>K v h)
  (fun n x=>evK P fr x fun a=>(ldA n h a).bind fun v=>K v h) (plainK P call o fr h K) (mvOf P o)
theorem SZ {R:Type}(o:Oper)(fr:Fr)(h:Heap)(K:AV→Heap→Option R):opK P call o fr h K=match mvOf P o with
  | .mv x=>evK P fr x fun v=>K v h
  | .fa off x=>evK P fr x fun a=>(faP off a).bind fun v=>K v h
  | .ls x=>evK P fr x fun a=>(ldS h a).bind fun v=>K v h
  | .la n x=>evK P fr x fun a=>(ldA n h a).bind fun v=>K v h
  | .no=>plainK P call o fr h K:=by
 unfold opK
 cases mvOf P o<;>rfl
theorem Oz {o:Oper}{x:Operand}(h:mvOf P o = .mv x)(fr:Fr):pureA P o fr=ev P fr x∧(∀ hp:Heap,opA P call o fr hp=(ev P fr x).map (·,hp)):=by
 obtain⟨dst,op,type,pos,after,guard⟩:=o
 unfold mvOf at h
 simp only at h
 split at h
 ·cases h;exact⟨rfl,fun _=>rfl⟩
 ·cases h;exact⟨rfl,fun _=>rfl⟩
 ·split at h<;>cases h
 ·split at h<;>cases h
 ·cases h
theorem PQ {o:Oper}{off:Nat}{x:Operand}(h:mvOf P o = .fa off x)(fr:Fr):pureA P o fr=(ev P fr x).bind (faP off)∧(∀ hp:Heap,opA P call o fr hp=((ev P fr x).bind (faP off)).map (·,hp)):=by
 obtain⟨dst,op,type,pos,after,guard⟩:=o
 unfold mvOf at h
 simp only at h
 split at h
 ·cases h
 ·cases h
 ·rename_i s y f
  split at h
  ·rename_i o' ho
   cases h
   have e:pureA P ⟨dst,.fieldAddr s x f,type,pos,after,guard⟩ fr=(ev P fr x).bind (faP off):=by
    show(ev P fr x).bind (fun a=>_)=_
    congr 1
    funext a
    exact O1 P ho a
   exact⟨e,fun hp=>congrArg (fun r:Option AV=>r.map (·,hp)) e⟩
  ·cases h
 ·split at h<;>cases h
 ·cases h
theorem O7 {o:Oper}{r:Option Nat}{x:Operand}(h:mvOf P o=(match r with | none=>.ls x | some n=>.la n x))(fr:Fr)(hp:Heap) :
  opA P call o fr hp=((ev P fr x).bind fun a=>ldR r hp a).map (·,hp):=by
 obtain⟨dst,op,type,pos,after,guard⟩:=o
 unfold mvOf at h
 simp only at h
 split at h
 ·cases r<;>cases h
 ·cases r<;>cases h
 ·split at h<;>cases r<;>cases h
 ·rename_i t y
  have key:∀ r',ldOf P t=some r'→opA P call ⟨dst,.load t y,type,pos,after,guard⟩ fr hp=((ev P fr y).bind fun a=>ldR r' hp a).map (·,hp):=by
   intro r' hr'
   show((ev P fr y).bind fun a=>match a with | .ptr (some p)=>loadAt P hp t p | _=>none).map (·,hp)=_
   congr 2
   funext a
   exact PV P hr' hp a
  split at h
  ·rename_i ho;cases r with
   | none=>cases h;exact key none ho
   | some n=>cases h
  ·rename_i n ho;cases r with
   | none=>cases h
   | some m=>cases h;exact key (some n) ho
  ·cases r<;>cases h
 ·cases r<;>cases h
theorem Qn {R:Type}(o:Oper)(fr:Fr)(h:Heap)(K:AV→Heap→Option R):opK P call o fr h K=(opA P call o fr h).bind fun r=>K r.1 r.2:=by
 rw [SZ]
 split
 ·rename_i x hx
  rw [(Oz P call hx fr).2,J6]
  simp only [Option.bind_map,Function.comp_def]
 ·rename_i off x hx
  rw [(PQ P call hx fr).2,J6]
  simp only [Option.bind_map,Option.bind_assoc,Function.comp_def]
 ·rename_i x hx
  rw [O7 (r:=none) P call hx fr h,J6]
  simp only [Option.bind_map,Option.bind_assoc,Function.comp_def,ldR]
 ·rename_i n x hx
  rw [O7 (r:=some n) P call hx fr h,J6]
  simp only [Option.bind_map,Option.bind_assoc,Function.comp_def,ldR]
 ·exact Of P call o fr h K
def askK {R:Type}(ops:Array Oper)(o:Oper)(fr:Fr)(h:Heap)(K:AV→Heap→Option R):Option R:=
 Option.rec (motive:=fun _=>Option R) (opK P call o fr h K) (fun _=>gQ (wantedA ops fr o) h (opK P call o fr h fun v h'=>some (v,h')) K) o.guard
theorem Rk {R:Type}(ops:Array Oper)(o:Oper)(fr:Fr)(h:Heap)(K:AV→Heap→Option R):askK P call ops o fr h K=match o.guard with
  | none=>opK P call o fr h K
  | some _=>gQ (wantedA ops fr o) h (opK P call o fr h fun v h'=>some (v,h')) K:=by
 unfold askK
 cases o.guard<;>rfl
theorem Oe {R:Type}(ops:Array Oper)(o:Oper)(fr:Fr)(h:Heap)(K:AV→Heap→Option R) :
  askK P call ops o fr h K=(wantedA ops fr o).bind fun want=>(if want then opA P call o fr h else some (.tup [],h)).bind fun r=>K r.1 r.2:=by
 rw [Rk]
 split
 ·rename_i hg
  have:wantedA ops fr o=some true:=by unfold wantedA;rw [hg]
  rw [this,Qn];rfl
 ·unfold gQ
  congr 1
  funext w
  cases w
  ·rfl
  ·simp only [cond_true,if_true,Qn]
   congr 1
   cases opA P call o fr h<;>rfl
def setK {R:Type}(x:AV)(l:List AV):Nat→(List AV→R)→R:=
 List.rec (motive:=fun _=>Nat→(List AV→R)→R) (fun _ K=>K []) (fun v l ih n K=>Nat.rec (K (x::l)) (fun m _=>ih m fun r=>K (v::r)) n) l
theorem PH {R:Type}(x:AV):∀ (l:List AV) (n:Nat) (K:List AV→R),setK x l n K=K (setF x l n)
 | [],_,_=>rfl
 | v::l,0,_=>rfl
 | v::l,n+1,K=>PH x l n fun r=>K (v::r)
def putFK {R:Type}(fr:Fr)(dst:Option Tmp)(v:AV)(K:Fr→R):R:=Option.rec (motive:=fun _=>R) (K fr) (fun d=>setK v fr d K) dst
theorem It {R:Type}(fr:Fr)(dst:Option Tmp)(v:AV)(K:Fr→R):putFK fr dst v K=K (putA fr dst v):=by
 cases dst with
 | none=>rfl
 | some d=>exact PH v fr d K
def opsK {R:Type}(ops:Array Oper)(l:List Oper):Fr→Heap→(Fr→Heap→Option R)→Option R:=
 List.rec (motive:=fun _=>Fr→Heap→(Fr→Heap→Option R)→Option R) (fun fr h K=>K fr h)
  (fun o _ ih fr h K=>askK P call ops o fr h fun v h'=>putFK fr o.dst v fun fr=>ih fr h' K) l
theorem Ox {R:Type}(ops:Array Oper):∀ (l:List Oper) (fr:Fr) (h:Heap) (K:Fr→Heap→Option R),opsK P call ops l fr h K=(opsA P call ops l fr h).bind fun r=>K r.1 r.2
 | [],fr,h,K=>rfl
 | o::l,fr,h,K=>by
  show askK P call ops o fr h (fun v h'=>putFK fr o.dst v fun fr=>opsK P call ops l fr h' K)=_
  rw [Oe,opsA]
  simp only [Option.bind_assoc,It]
  congr 1
  funext w
  congr 1
  funext r
  exact Ox ops l _ _ K
def allFrom (hs:List Heap)(f:Heap→Option AV)(v:AV):Nat→Nat→Bool
 | _,0=>true
 | lo,n+1=>(match hs[lo]? with | some h=>(match f h with | some u=>same u v | none=>false) | none=>false) && allFrom hs f v (lo+1) n
def checkK (hs:List Heap):List Asked→Bool
 | []=>true
 | (f,v,lo,hi)::rest=>allFrom hs f v lo (hi+1-lo) && checkK hs rest
def chk {R:Type}(hs:List Heap)(cs:List Asked)(x:Option R):Option R:=bif checkK hs cs then x else none
def purK {R:Type}(o:Oper)(fr:Fr)(K:AV→Option R):Option R:=
 match mvOf P o with
 | .mv x=>evK P fr x K
 | .fa off x=>evK P fr x fun a=>(faP off a).bind K
 | _=>(pureA P o fr).bind K
theorem Q2 {R:Type}(o:Oper)(fr:Fr)(K:AV→Option R):purK P o fr K=(pureA P o fr).bind K:=by
 unfold purK
 split
 ·rename_i x hx
  rw [(Oz P (fun _ _ _=>none) hx fr).1,J6]
 ·rename_i off x hx
  rw [(PQ P (fun _ _ _=>none) hx fr).1,J6,Option.bind_assoc]
 ·rfl
def askP {R:Type}(ops:Array Oper)(o:Oper)(fr:Fr)(K:AV→Option R):Option R:=
 match o.guard with
 | none=>purK P o fr K
 | some _=>(gV (wantedA ops fr o) (pureA P o fr) (.tup [])).bind K
theorem RL {R:Type}(ops:Array Oper)(o:Oper)(fr:Fr)(K:AV→Option R):askP P ops o fr K=((wantedA ops fr o).bind fun w=>if w then pureA P o fr else some (.tup [])).bind K:=by
 unfold askP
 split
 ·rename_i hg
  have:wantedA ops fr o=some true:=by unfold wantedA;rw [hg]
  rw [this,Q2];rfl
 ·rw [Kg,Option.bind_assoc]
def askM (ops:Array Oper)(o:Oper)(fr:Fr)(i:Nat)(h:Heap):Option (AV × Heap):=
 match o.guard with
 | none=>mkAt Heap.put (makeA P o fr) i h
 | some _=>gV (wantedA ops fr o) (mkAt Heap.put (makeA P o fr) i h) (.tup [],h)
def askR (ops:Array Oper)(o:Oper)(fr:Fr)(h:Heap):Option AV:=
 match o.guard with
 | none=>readA P o fr h
 | some _=>gV (wantedA ops fr o) (readA P o fr h) (.tup [])
def askC (ops:Array Oper)(o:Oper)(fr:Fr)(hs:List Heap)(lo hi:Nat)(cs:List Asked):Option (AV × List Asked):=
 match hs.getLast? with
 | none=>match o.guard with
  | none=>none
  | some _=>gV (wantedA ops fr o) none (.tup [],cs)
 | some h₀=>
  match o.guard with
  | none=>rdC (readA P o fr) h₀ lo hi cs
  | some _=>gV (wantedA ops fr o) (rdC (readA P o fr) h₀ lo hi cs) (.tup [],cs)
def stepK {R:Type}(ops:Array Oper)(n0:Nat)(s:DStep)(ih:Fr→Heap→List Heap→List Asked→(Fr→Heap→Option R)→Option R)(fr:Fr)(h:Heap)(hs:List Heap)(cs:List Asked)(K:Fr→Heap→Option R):Option R:=
 match s with
 | .pur _ o=>askP P ops o fr fun v=>putFK fr o.dst v fun fr=>ih fr h hs cs K
 | .mak _ o k=>cl (askM P ops o fr (n0+k) h) fun v h'=>putFK fr o.dst v fun fr=>ih fr h' hs cs K
 | .red _ o cur lo hi=>
  bif cur && lo.beq hi then(askR P ops o fr h).bind fun v=>putFK fr o.dst v fun fr=>ih fr h hs cs K
  else clC (askC P ops o fr hs lo hi cs) fun v cs=>putFK fr o.dst v fun fr=>ih fr h hs cs K
 | .eff _ o=>askK P call ops o fr h fun v h'=>putFK fr o.dst v fun fr=>ih fr h' (hs ++ [h']) cs K
def runK {R:Type}(ops:Array Oper)(n0:Nat)(l:List DStep):Fr→Heap→List Heap→List Asked→(Fr→Heap→Option R)→Option R:=
 List.rec (motive:=fun _=>Fr→Heap→List Heap→List Asked→(Fr→Heap→Option R)→Option R) (fun fr h hs cs K=>chk hs cs (K fr h))
  (fun s _ ih=>stepK P call ops n0 s ih) l
def conv (c:Oper × Fr × AV × Nat × Nat):Asked:=(readA P c.1 c.2.1,c.2.2.1,c.2.2.2.1,c.2.2.2.2)
theorem K5 (hs:List Heap)(f:Heap→Option AV)(v:AV)(lo:Nat):∀ n,allFrom hs f v lo n=(List.range n).all fun d=>match hs[lo+d]? with | some h=>(match f h with | some u=>same u v | none=>false) | none=>false
 | 0=>rfl
 | n+1=>by
  have ih:=fun lo=>K5 hs f v lo n
  rw [allFrom,ih,List.range_succ_eq_map,List.all_cons,List.all_map]
  simp only [Nat.add_zero,Function.comp_def,Nat.succ_eq_add_one,Nat.add_assoc,Nat.add_comm 1]
theorem Mm (hs:List Heap):∀ cs:List (Oper × Fr × AV × Nat × Nat),checkK hs (cs.map (conv P))=checkD P hs cs
 | []=>rfl
 | (o,fr,v,lo,hi)::rest=>by
  rw [List.map_cons,checkD]
  show(allFrom hs (readA P o fr) v lo (hi+1-lo) && checkK hs (rest.map (conv P)))=_
  rw [Mm hs rest,K5]
  rfl
theorem Hl {R:Type}(ops:Array Oper)(n0:Nat):∀ (l:List DStep) (fr:Fr) (h:Heap) (hs:List Heap) (cs:List (Oper × Fr × AV × Nat × Nat)) (K:Fr→Heap→Option R),
  runK P call ops n0 l fr h hs (cs.map (conv P)) K=(runD P call ops n0 l fr h hs cs).bind fun r=>K r.1 r.2
 | [],fr,h,hs,cs,K=>by
  show chk hs (cs.map (conv P)) (K fr h)=_
  rw [chk,runD,Mm]
  cases checkD P hs cs<;>rfl
 | .pur i o::rest,fr,h,hs,cs,K=>by
  show askP P ops o fr (fun v=>putFK fr o.dst v fun fr=>runK P call ops n0 rest fr h hs (cs.map (conv P)) K)=_
  simp only [It,Hl ops n0 rest]
  rw [runD,RL]
  simp only [Option.bind_assoc]
 | .mak i o k::rest,fr,h,hs,cs,K=>by
  show cl (askM P ops o fr (n0+k) h) (fun v h'=>putFK fr o.dst v fun fr=>runK P call ops n0 rest fr h' hs (cs.map (conv P)) K)=_
  simp only [It,Hl ops n0 rest,cl]
  rw [runD]
  simp only [Option.bind_assoc]
  unfold askM
  split
  ·rename_i hg
   have:wantedA ops fr o=some true:=by unfold wantedA;rw [hg]
   simp only [this,Option.bind_some,if_true,mkAt,Option.bind_assoc,Option.bind_map,Function.comp_def]
  ·rw [Kg]
   congr 1;funext w
   cases w
   ·rfl
   ·simp only [if_true,mkAt,Option.bind_assoc,Option.bind_map,Function.comp_def,Option.bind_some]
 | .red i o cur lo hi::rest,fr,h,hs,cs,K=>by
  show(bif cur && lo.beq hi then(askR P ops o fr h).bind fun v=>putFK fr o.dst v fun fr=>runK P call ops n0 rest fr h hs (cs.map (conv P)) K
   else clC (askC P ops o fr hs lo hi (cs.map (conv P))) fun v cs'=>putFK fr o.dst v fun fr=>runK P call ops n0 rest fr h hs cs' K)=_
  simp only [It,clC]
  rw [runD]
  cases hc:(cur && lo.beq hi)
  ·simp only [cond_false,Bool.false_eq_true,if_false,Option.bind_assoc]
   have key:∀ v,runK P call ops n0 rest (putA fr o.dst v) h hs ((readA P o fr,v,lo,hi)::cs.map (conv P)) K=(runD P call ops n0 rest (putA fr o.dst v) h hs ((o,fr,v,lo,hi)::cs)).bind fun r=>K r.1 r.2:=
    fun v=>Hl ops n0 rest _ _ _ ((o,fr,v,lo,hi)::cs) K
   unfold askC
   cases hl:hs.getLast? with
   | none=>
    simp only
    split
    ·rename_i hg
     have:wantedA ops fr o=some true:=by unfold wantedA;rw [hg]
     simp only [this,Option.bind_some,if_true,Option.bind_none]
    ·rw [Kg]
     congr 1;funext w
     cases w
     ·simp only [Bool.false_eq_true,if_false,Option.bind_some,Hl ops n0 rest]
     ·rfl
   | some h₀=>
    simp only
    split
    ·rename_i hg
     have:wantedA ops fr o=some true:=by unfold wantedA;rw [hg]
     simp only [this,rdC,Option.bind_some,if_true,Option.bind_assoc,Option.bind_map,Function.comp_def,key]
    ·rw [Kg]
     congr 1;funext w
     cases w
     ·simp only [Bool.false_eq_true,if_false,Option.bind_some,Hl ops n0 rest]
     ·simp only [rdC,if_true,Option.bind_assoc,Option.bind_map,Function.comp_def,Option.bind_some,key]
  ·simp only [cond_true,if_true,Hl ops n0 rest,Option.bind_assoc]
   unfold askR
   split
   ·rename_i hg
    have:wantedA ops fr o=some true:=by unfold wantedA;rw [hg]
    simp only [this,Option.bind_some,if_true]
   ·rw [Kg]
 | .eff i o::rest,fr,h,hs,cs,K=>by
  show askK P call ops o fr h (fun v h'=>putFK fr o.dst v fun fr=>runK P call ops n0 rest fr h' (hs ++ [h']) (cs.map (conv P)) K)=_
  simp only [It,Hl ops n0 rest]
  rw [Oe,runD]
  simp only [Option.bind_assoc]
def okD (ops:Array Oper):Bool:=
 drawOk P ops && lateOk P (Region.before ops) (lateOrder P (Region.before ops) ops.toList.zipIdx []) [] &&
   pairsOk (fun i j _ _=>!((Region.before ops).getD i 0).testBit j) (lateOrder P (Region.before ops) ops.toList.zipIdx [])
def regionK {R:Type}(ops:Array Oper)(fr:Fr)(h:Heap)(K:Fr→Heap→Option R):Option R:=
 bif okD P ops then runK P call ops h.next (planD P ops) fr ⟨h.next+maks P ops,h.mem⟩ [⟨h.next+maks P ops,h.mem⟩] [] K else none
theorem OI {R:Type}(ops:Array Oper)(fr:Fr)(h:Heap)(K:Fr→Heap→Option R):regionK P call ops fr h K=(regionD P call ops fr h).bind fun r=>K r.1 r.2:=by
 unfold regionK regionD
 show(bif okD P ops then _ else _)=(if okD P ops=true then _ else _:Option (Fr × Heap)).bind _
 cases okD P ops
 ·rfl
 ·simp only [cond_true,if_true]
  exact Hl P call ops _ _ _ _ _ [] K
def maskL:List Nat→Nat:=List.rec 0 fun s _ ih=>Nat.lor (Nat.shiftLeft 1 s) ih
def hasM (m s:Nat):Bool:=Nat.beq (Nat.land 1 (Nat.shiftRight m s)) 1
theorem Pl (m s:Nat):hasM m s=m.testBit s:=by
 unfold hasM
 show Nat.beq (1 &&& (m >>> s)) 1=_
 rw [Nat.testBit,Nat.one_and_eq_mod_two]
 have:(m >>> s) % 2 < 2:=Nat.mod_lt _ (by decide)
 rcases (by omega:(m >>> s) % 2=0∨(m >>> s) % 2=1) with h | h<;>rw [h]<;>rfl
theorem Kd:∀ (ws:List Nat) (s:Nat),hasM (maskL ws) s=ws.contains s
 | [],s=>by rw [Pl];simp [maskL]
 | w::ws,s=>by
  have ih:=Kd ws s
  rw [Pl] at ih ⊢
  show((1 <<< w) ||| maskL ws).testBit s=_
  rw [Nat.testBit_or,ih,List.contains_cons,Nat.one_shiftLeft,Nat.testBit_two_pow]
  congr 1
  by_cases h:w=s
  ·subst h;simp
  ·have : ¬ s=w:=fun e=>h e.symm
   simp [h,this]
def rebK {R:Type}(outs:List Nat)(m:Nat)(fr':Fr)(fr:Fr):Nat→(Fr→Option R)→Option R:=
 List.rec (motive:=fun _=>Nat→(Fr→Option R)→Option R) (fun _ K=>K [])
  (fun v _ ih s K=>bif hasM m s then(match outs.idxOf? s with | some _=>atK fr' s fun u=>ih (s+1) fun r=>K (u::r) | none=>ih (s+1) fun r=>K (.bot::r)) else ih (s+1) fun r=>K (v::r)) fr
theorem LZ {R:Type}(outs ws:List Nat)(fr':Fr):∀ (fr:Fr) (s:Nat) (K:Fr→Option R),rebK outs (maskL ws) fr' fr s K=K (rebuild outs ws (outs.map (atF fr')) s fr)
 | [],s,K=>rfl
 | v::rest,s,K=>by
  show(bif hasM (maskL ws) s then(match outs.idxOf? s with | some _=>atK fr' s fun u=>rebK outs (maskL ws) fr' rest (s+1) fun r=>K (u::r) | none=>rebK outs (maskL ws) fr' rest (s+1) fun r=>K (.bot::r)) else rebK outs (maskL ws) fr' rest (s+1) fun r=>K (v::r))=_
  rw [rebuild,Kd]
  cases hc:ws.contains s
  ·simp only [cond_false,Bool.false_eq_true,if_false];exact LZ outs ws fr' rest _ _
  ·simp only [cond_true,if_true]
   cases hk:outs.idxOf? s with
   | some k=>
    have hk':=KD hk
    show atK fr' s (fun u=>rebK outs (maskL ws) fr' rest (s+1) fun r=>K (u::r))=_
    rw [Oh,LZ outs ws fr' rest]
    simp [List.getD_eq_getElem?_getD,hk']
   | none=>exact LZ outs ws fr' rest _ _
def rebL {R:Type}(outs:List Nat)(m:Nat)(vals:List AV)(fr:Fr):Nat→(Fr→Option R)→Option R:=
 List.rec (motive:=fun _=>Nat→(Fr→Option R)→Option R) (fun _ K=>K [])
  (fun v _ ih s K=>bif hasM m s then(match outs.idxOf? s with | some k=>ih (s+1) fun r=>K (vals.getD k .bot::r) | none=>ih (s+1) fun r=>K (.bot::r)) else ih (s+1) fun r=>K (v::r)) fr
theorem LQ {R:Type}(outs ws:List Nat)(vals:List AV):∀ (fr:Fr) (s:Nat) (K:Fr→Option R),rebL outs (maskL ws) vals fr s K=K (rebuild outs ws vals s fr)
 | [],s,K=>rfl
 | v::rest,s,K=>by
  show(bif hasM (maskL ws) s then(match outs.idxOf? s with | some k=>rebL outs (maskL ws) vals rest (s+1) fun r=>K (vals.getD k .bot::r) | none=>rebL outs (maskL ws) vals rest (s+1) fun r=>K (.bot::r)) else rebL outs (maskL ws) vals rest (s+1) fun r=>K (v::r))=_
  rw [rebuild,Kd]
  cases hc:ws.contains s
  ·simp only [cond_false,Bool.false_eq_true,if_false];exact LQ outs ws vals rest _ _
  ·simp only [cond_true,if_true]
   cases hk:outs.idxOf? s with
   | some k=>exact LQ outs ws vals rest _ _
   | none=>exact LQ outs ws vals rest _ _
def execK (ann:Nat→List Nat)(c:Code) : {R:Type}→Nat→Fr→Heap→(Ex→Fr→Heap→Option R)→Option R:=
 @Code.rec (fun _=>{R:Type}→Nat→Fr→Heap→(Ex→Fr→Heap→Option R)→Option R)
  (fun {_} _ fr h K=>K .normal fr h)
  (fun _ ops draw {_} _ fr h K=>bif draw then regionK P call ops fr h (fun fr h=>K .normal fr h) else opsK P call ops ops.toList fr h (fun fr h=>K .normal fr h))
  (fun _ _ ia ib {_} p fr h K=>ia (2*p) fr h fun e fr h=>thenK e (ib (2*p+1) fr h K) fun e=>K e fr h)
  (fun c a b ia ib {_} p fr h K=>evK P fr c fun cv=>condE cv
   (ia (2*p) fr h (fun e fr' h'=>rebK (ann p) (maskL (writes a++writes b)) fr' fr 0 fun fr'=>K e fr' h'))
   (ib (2*p+1) fr h (fun e fr' h'=>rebK (ann p) (maskL (writes a++writes b)) fr' fr 0 fun fr'=>K e fr' h')))
  (fun id _ ic {_} p fr h K=>ic (2*p) fr h fun e fr h=>K (if e = .exit id then .normal else e) fr h)
  (fun c ic {_} p fr h K=>lp (loopN (fun vals h=>rebL (ann p) (maskL (writes c)) vals fr 0 fun fr=>ic (2*p) fr h fun e fr h=>some (e,(ann p).map (atF fr),h)) ((ann p).map (atF fr)) h) fun e vals h=>
   rebL (ann p) (maskL (writes c)) vals fr 0 fun fr=>K e fr h)
  (fun _ _ _ _ _ _ {_} _ _ _ _=>none) (fun id {_} _ fr h K=>K (.exit id) fr h) (fun _ _ {_} _ _ _ _=>none) (fun _ {_} _ fr h K=>K .normal fr h) (fun _ {_} _ _ _ _=>none)
  (fun {_} _ fr h K=>K .ret fr h) (fun _ {_} _ _ _ _=>none) c
def execW (ann:Nat→List Nat):Nat→Code→Fr→Heap→Out
 | _,.skip,fr,h=>some (.normal,fr,h)
 | _,.region _ ops draw,fr,h=>
  (if draw then regionD P call ops fr h else opsA P call ops ops.toList fr h).map fun(fr',h')=>(.normal,fr',h')
 | p,.seq a b,fr,h=>(execW ann (2*p) a fr h).bind fun(e,fr',h')=>match e with
  | .normal=>execW ann (2*p+1) b fr' h'
  | e=>some (e,fr',h')
 | p,.cond c a b,fr,h=>
  (ev P fr c).bind fun cv=>(asBool cv).bind fun t=>
  (outOf (ann p) (if t then execW ann (2*p) a fr h else execW ann (2*p+1) b fr h)).bind fun(e,vals,h')=>
  some (e,rebuild (ann p) (writes a++writes b) vals 0 fr,h')
 | p,.block id c,fr,h=>(execW ann (2*p) c fr h).bind fun(e,fr',h')=>some (if e = .exit id then .normal else e,fr',h')
 | p,.loop c,fr,h=>
  (loopN (fun vals h=>outOf (ann p) (execW ann (2*p) c (rebuild (ann p) (writes c) vals 0 fr) h)) ((ann p).map (atF fr)) h).bind fun(e,vals,h')=>
  some (e,rebuild (ann p) (writes c) vals 0 fr,h')
 | _,.exit id,fr,h=>some (.exit id,fr,h)
 | _,.ret,fr,h=>some (.ret,fr,h)
 | _,.label _,fr,h=>some (.normal,fr,h)
 | _,_,_,_=>none
theorem HI (ann:Nat→List Nat):∀ (c:Code) {R:Type} (p:Nat) (fr:Fr) (h:Heap) (K:Ex→Fr→Heap→Option R),execK P call ann c p fr h K=(execW P call ann p c fr h).bind fun r=>K r.1 r.2.1 r.2.2
 | .skip,_,p,fr,h,K=>by rw [execW];rfl
 | .region id ops draw,R,p,fr,h,K=>by
  rw [execW]
  show(bif draw then regionK P call ops fr h (fun fr h=>K .normal fr h) else opsK P call ops ops.toList fr h (fun fr h=>K .normal fr h))=_
  cases draw
  ·simp only [cond_false,Bool.false_eq_true,if_false,Ox,Option.bind_map,Function.comp_def]
  ·simp only [cond_true,if_true,OI,Option.bind_map,Function.comp_def]
 | .seq a b,R,p,fr,h,K=>by
  rw [execW]
  show execK P call ann a (2*p) fr h (fun e fr h=>thenK e (execK P call ann b (2*p+1) fr h K) fun e=>K e fr h)=_
  rw [HI ann a,Option.bind_assoc]
  congr 1
  funext r
  obtain⟨e,fr',h'⟩:=r
  cases e
  ·exact HI ann b _ _ _ _
  ·rfl
  ·rfl
 | .cond c a b,R,p,fr,h,K=>by
  rw [execW]
  show(evK P fr c fun cv=>condE cv
   (execK P call ann a (2*p) fr h (fun e fr' h'=>rebK (ann p) (maskL (writes a++writes b)) fr' fr 0 fun fr'=>K e fr' h'))
   (execK P call ann b (2*p+1) fr h (fun e fr' h'=>rebK (ann p) (maskL (writes a++writes b)) fr' fr 0 fun fr'=>K e fr' h')))=_
  rw [J6]
  simp only [condE,Option.bind_assoc,LZ]
  congr 1;funext cv
  congr 1;funext t
  cases t
  ·simp only [cond_false,Bool.false_eq_true,if_false,HI ann b,outOf,Option.bind_map,Function.comp_def,Option.bind_some]
  ·simp only [cond_true,if_true,HI ann a,outOf,Option.bind_map,Function.comp_def,Option.bind_some]
 | .block id c,R,p,fr,h,K=>by
  rw [execW]
  show execK P call ann c (2*p) fr h (fun e fr h=>K (if e = .exit id then .normal else e) fr h)=_
  rw [HI ann c,Option.bind_assoc]
  rfl
 | .loop c,R,p,fr,h,K=>by
  rw [execW]
  show lp (loopN (fun vals h=>rebL (ann p) (maskL (writes c)) vals fr 0 fun fr=>execK P call ann c (2*p) fr h fun e fr h=>some (e,(ann p).map (atF fr),h)) ((ann p).map (atF fr)) h) (fun e vals h=>
   rebL (ann p) (maskL (writes c)) vals fr 0 fun fr=>K e fr h)=_
  simp only [LQ,lp]
  have e1:(fun(vals:List AV) (h:Heap)=>execK P call ann c (2*p) (rebuild (ann p) (writes c) vals 0 fr) h fun e fr h=>some (e,(ann p).map (atF fr),h)) =
    fun vals h=>outOf (ann p) (execW P call ann (2*p) c (rebuild (ann p) (writes c) vals 0 fr) h):=by
   funext vals h
   rw [HI ann c]
   unfold outOf
   cases execW P call ann (2*p) c (rebuild (ann p) (writes c) vals 0 fr) h<;>rfl
  rw [e1,Option.bind_assoc]
  rfl
 | .rangeFunc ..,_,p,fr,h,K=>by rw [execW];rfl;all_goals (intros;simp_all)
 | .exit id,_,p,fr,h,K=>by rw [execW];rfl
 | .scope c,_,p,fr,h,K=>by rw [execW];rfl;all_goals (intros;simp_all)
 | .label l,_,p,fr,h,K=>by rw [execW];rfl
 | .goto l,_,p,fr,h,K=>by rw [execW];rfl;all_goals (intros;simp_all)
 | .ret,_,p,fr,h,K=>by rw [execW];rfl
 | .refuse w,_,p,fr,h,K=>by rw [execW];rfl;all_goals (intros;simp_all)
end
end
end Go.Ab
