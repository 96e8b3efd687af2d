import Derived.Deep.Quiet
namespace Go.Ab
open Go
set_option linter.all false
noncomputable section
inductive Cap where
 | ex (n:Nat)
 | un (sz:Nat)
 deriving DecidableEq
inductive AV where
 | bool (b:Bool)
 | int (k:IntKind) (n:Int)
 | str (s:List UInt8)
 | ptr (a:Option (Nat × Nat))
 | sl (a:Option (Nat × Nat)) (len:Nat) (c:Cap)
 | mp (r:Option Nat)
 | fn (f:FuncId) (first caps:List AV)
 | nilFn
 | ifc (t:TypeId) (v:AV)
 | nilIfc
 | agg (l:List AV)
 | tup (l:List AV)
 | bot
 deriving Inhabited
inductive Blk where
 | cells (wr:Bool) (vs:List AV)
 | mp (es:List (AV × AV))
 deriving Inhabited
def atF (l:List AV):Nat→AV:=List.rec (motive:=fun _=>Nat→AV) (fun _=>.bot) (fun v _ ih n=>Nat.rec v (fun m _=>ih m) n) l
def setF (x:AV)(l:List AV):Nat→List AV:=List.rec (motive:=fun _=>Nat→List AV) (fun _=>[]) (fun v l ih n=>Nat.rec (x::l) (fun m _=>v::ih m) n) l
theorem Jg:∀ (l:List AV) (n:Nat),atF l n=l.getD n .bot
 | [],n=>rfl
 | v::l,0=>rfl
 | v::l,n+1=>(Jg l n).trans (by simp)
theorem GT (x:AV):∀ (l:List AV) (n:Nat),setF x l n=l.set n x
 | [],n=>rfl
 | v::l,0=>rfl
 | v::l,n+1=>congrArg (v :: ·) (GT x l n)
theorem NG (l:List AV):atF l=(l.getD · .bot):=funext fun n=>Jg l n
inductive T (α:Type) where
 | nil
 | node (v:Option α) (l r:T α)
namespace T
def get {α:Type}:T α→Nat→Option α
 | .nil,_=>none
 | .node v l r,n=>bif n.beq 0 then v else bif (n % 2).beq 1 then l.get (n / 2) else r.get (n / 2 - 1)
def setF {α:Type}:Nat→T α→Nat→Option α→T α
 | 0,t,_,_=>t
 | k+1,.nil,n,a=>
  bif n.beq 0 then .node a .nil .nil else bif (n % 2).beq 1 then .node none (setF k .nil (n / 2) a) .nil else .node none .nil (setF k .nil (n / 2 - 1) a)
 | k+1,.node v l r,n,a=>
  bif n.beq 0 then .node a l r else bif (n % 2).beq 1 then .node v (setF k l (n / 2) a) r else .node v l (setF k r (n / 2 - 1) a)
def set {α:Type}(t:T α)(n:Nat)(a:Option α):T α:=setF (n+1) t n a
end T
structure Heap where
 next:Nat
 mem:T Blk
def Heap.get (h:Heap)(i:Nat):Option Blk:=h.mem.get i
def Heap.put (h:Heap)(i:Nat)(b:Option Blk):Heap:=⟨h.next,h.mem.set i b⟩
def Heap.new (h:Heap)(b:Blk):Heap:=⟨h.next+1,h.mem.set h.next (some b)⟩
def span {α:Type}:List α→Nat→Nat→Option (List α)
 | _,0,0=>some []
 | v::vs,0,n+1=>(span vs 0 n).map (v :: ·)
 | _::vs,o+1,n=>span vs o n
 | [],_,_=>none
def splice {α:Type}:List α→Nat→List α→Option (List α)
 | vs,0,[]=>some vs
 | _::vs,0,x::xs=>(splice vs 0 xs).map (x :: ·)
 | v::vs,o+1,xs=>(splice vs o xs).map (v :: ·)
 | [],_,_=>none
def spanF {α:Type}(l:List α):Nat→Nat→Option (List α):=
 List.rec (motive:=fun _=>Nat→Nat→Option (List α)) (fun o n=>Nat.rec (Nat.rec (some []) (fun _ _=>none) n) (fun _ _=>none) o)
  (fun v _ ih o n=>Nat.rec (Nat.rec (some []) (fun m _=>(ih 0 m).map (v :: ·)) n) (fun m _=>ih m n) o) l
def spliceF {α:Type}(l:List α):Nat→List α→Option (List α):=
 List.rec (motive:=fun _=>Nat→List α→Option (List α)) (fun o xs=>Nat.rec (List.casesOn xs (some []) (fun _ _=>none)) (fun _ _=>none) o)
  (fun v vs ih o xs=>Nat.rec (List.casesOn xs (some (v::vs)) (fun x ys=>(ih 0 ys).map (x :: ·))) (fun m _=>(ih m xs).map (v :: ·)) o) l
def atO {α:Type}(l:List α):Nat→Option α:=List.rec (motive:=fun _=>Nat→Option α) (fun _=>none) (fun v _ ih n=>Nat.rec (some v) (fun m _=>ih m) n) l
theorem Cc {α:Type}:∀ (l:List α) (o n:Nat),spanF l o n=span l o n
 | [],0,0=>rfl
 | [],0,n+1=>rfl
 | [],o+1,n=>rfl
 | v::l,0,0=>rfl
 | v::l,0,n+1=>congrArg (Option.map (v :: ·)) (Cc l 0 n)
 | v::l,o+1,n=>Cc l o n
theorem DW {α:Type}:∀ (l:List α) (o:Nat) (xs:List α),spliceF l o xs=splice l o xs
 | [],0,[]=>rfl
 | [],0,x::xs=>rfl
 | [],o+1,xs=>rfl
 | v::l,0,[]=>rfl
 | v::l,0,x::xs=>congrArg (Option.map (x :: ·)) (DW l 0 xs)
 | v::l,o+1,xs=>congrArg (Option.map (v :: ·)) (DW l o xs)
theorem Nz {α:Type}:∀ (l:List α) (n:Nat),atO l n=l[n]?
 | [],n=>rfl
 | v::l,0=>rfl
 | v::l,n+1=>(Nz l n).trans (by simp)
def absS:Value→Option AV
 | .bool b=>some (.bool b)
 | .int k n=>some (.int k n)
 | .string s=>some (.str s.data.toList)
 | .pointer none=>some (.ptr none)
 | .slice none 0 0=>some (.sl none 0 (.ex 0))
 | .map none=>some (.mp none)
 | .nilFunc=>some .nilFn
 | .nilIface=>some .nilIfc
 | _=>none
def absL:List Value→Option (List AV)
 | []=>some []
 | v::vs=>(absS v).bind fun a=>(absL vs).map (a :: ·)
def absV:Value→Option AV
 | .agg cs=>(absL cs.toList).map .agg
 | .tuple cs=>(absL cs.toList).map .tup
 | v=>absS v
def scalar:AV→Bool
 | .agg _=>false
 | .tup _=>false
 | .bot=>false
 | _=>true
def AV.cells:AV→List AV
 | .agg l=>l
 | v=>[v]
section
variable (P:Program)
def isAggA (t:TypeId):Bool:=
 match P.underlying t with
 | some (.struct _)=>true
 | some (.array _ _)=>true
 | _=>false
def sizeA (t:TypeId):Option Nat:=(P.info? t).map (·.size)
def bytesA (t:TypeId):Option Nat:=(P.info? t).map (·.bytes)
def zeroA (t:TypeId):Option AV:=(P.info? t).bind fun i=>i.zero.bind fun v=>(absV v).bind fun a=>if a.cells.all scalar then some a else none
def elemA (t:TypeId):Option TypeId:=
 match P.underlying t with
 | some (.slice e)=>some e
 | _=>none
abbrev Fr:=List AV
def ev (fr:Fr):Operand→Option AV
 | .tmp t=>some (atF fr t)
 | .const v=>absV v
 | .global g=>if g<P.globals.size then some (.ptr (some (g,0))) else none
 | .func f=>some (.fn f [] [])
def evs (fr:Fr):List Operand→Option (List AV)
 | []=>some []
 | x::xs=>(ev P fr x).bind fun a=>(evs fr xs).map (a :: ·)
def asBool:AV→Option Bool
 | .bool b=>some b
 | _=>none
def intBin (op:BinOp)(k:IntKind)(x y:Int):Option AV:=
 match op with
 | .add=>some (.int k (k.wrap (x+y)))
 | .sub=>some (.int k (k.wrap (x-y)))
 | .mul=>some (.int k (k.wrap (x*y)))
 | .quo=>if y=0 then none else some (.int k (k.wrap (x.tdiv y)))
 | .rem=>if y=0 then none else some (.int k (x.tmod y))
 | .and=>some (.int k (k.wrap (BitVec.ofInt k.bits x &&& BitVec.ofInt k.bits y).toNat))
 | .or=>some (.int k (k.wrap (BitVec.ofInt k.bits x ||| BitVec.ofInt k.bits y).toNat))
 | .xor=>some (.int k (k.wrap (BitVec.ofInt k.bits x ^^^ BitVec.ofInt k.bits y).toNat))
 | .andNot=>some (.int k (k.wrap (BitVec.ofInt k.bits x &&& ~~~(BitVec.ofInt k.bits y)).toNat))
 | .eql=>some (.bool (x == y))
 | .neq=>some (.bool (x != y))
 | .lss=>some (.bool (x<y))
 | .leq=>some (.bool (x≤y))
 | .gtr=>some (.bool (x > y))
 | .geq=>some (.bool (x≥y))
 | _=>none
def shiftA (op:BinOp)(k:IntKind)(x y:Int):Option AV:=
 if y < 0 then none else
 match op with
 | .shl=>some (.int k (k.wrap (x * 2 ^ (min y.toNat k.bits))))
 | .shr=>some (.int k (x.fdiv (2 ^ (min y.toNat k.bits))))
 | _=>none
def strBin (op:BinOp)(x y:List UInt8):Option AV:=
 match op with
 | .add=>if ((x.length+y.length:Nat):Int) > IntKind.i64.max then none else some (.str (x++y))
 | .eql=>some (.bool (x == y))
 | .neq=>some (.bool !(x == y))
 | .lss=>some (.bool (Op.bytesLess x y))
 | .leq=>some (.bool (Op.bytesLess x y||x == y))
 | .gtr=>some (.bool !(Op.bytesLess x y||x == y))
 | .geq=>some (.bool !(Op.bytesLess x y))
 | _=>none
def eqT:TypeDesc→AV→AV→Option Bool
 | .bool,.bool a,.bool b=>some (a == b)
 | .int _,.int k a,.int k' b=>if k=k' then some (a == b) else none
 | .string,.str a,.str b=>some (a == b)
 | _,_,_=>none
def eqFields:List Field→List AV→List AV→Option Bool
 | [],_,_=>some true
 | f::fs,xs,ys=>
  if f.name ≠ "_" then
   match P.underlying f.type,xs[f.offset]?,ys[f.offset]? with
   | some d,some x,some y=>(eqT d x y).bind fun b=>if b then eqFields fs xs ys else some false
   | _,_,_=>none
  else eqFields fs xs ys
def eqA (t:TypeId)(x y:AV):Option Bool:=
 match P.underlying t,x,y with
 | some .bool,.bool a,.bool b=>some (a == b)
 | some (.pointer _),.ptr none,.ptr b=>some b.isNone
 | some (.pointer _),.ptr (some _),.ptr none=>some false
 | some (.slice _),.sl none _ _,.sl b _ _=>some b.isNone
 | some (.slice _),.sl (some _) _ _,.sl none _ _=>some false
 | some (.map _ _),.mp none,.mp b=>some b.isNone
 | some (.map _ _),.mp (some _),.mp none=>some false
 | some (.func _ _ _),.nilFn,.nilFn=>some true
 | some (.func _ _ _),.fn _ _ _,.nilFn=>some false
 | some (.interface _),.nilIfc,.ifc _ _=>some false
 | some (.interface _),.ifc _ _,.nilIfc=>some false
 | some (.struct fs),.agg xs,.agg ys=>if P.stoodInHeld t then none else eqFields P fs.toList xs ys
 | _,_,_=>none
def binA (op:BinOp)(t:TypeId)(x y:AV):Option AV:=
 match op,x,y with
 | .shl,.int k a,.int _ b=>shiftA .shl k a b
 | .shr,.int k a,.int _ b=>shiftA .shr k a b
 | op,.int k a,.int k' b=>if k=k' then intBin op k a b else none
 | op,.str a,.str b=>strBin op a b
 | .eql,x,y=>(eqA P t x y).map .bool
 | .neq,x,y=>(eqA P t x y).map fun b=>.bool !b
 | _,_,_=>none
def unA (op:UnOp)(x:AV):Option AV:=
 match op,x with
 | .neg,.int k n=>intBin .sub k 0 n
 | .xor,.int k n=>intBin .xor k (if k.signed then -1 else k.max) n
 | .not,.bool b=>some (.bool !b)
 | _,_=>none
def fillA (place:Nat→Option (Nat × Nat))(cells:List AV):List (Nat × AV)→Option (List AV)
 | []=>some cells
 | (i,v)::rest=>
  (place i).bind fun(off,size)=>
   if v.cells.length≠size∨v.cells.all scalar=false then none else
   (splice cells off v.cells).bind fun cs=>fillA place cs rest
def partA (t:TypeId)(cs:List AV)(off:Nat):Option AV:=
 (P.underlying t).bind fun _=>if isAggA P t then(sizeA P t).bind fun n=>(spanF cs off n).map .agg else atO cs off
def placesA:List Field→Option (List (Nat × Nat))
 | []=>some []
 | f::fs=>(sizeA P f.type).bind fun n=>(placesA fs).map ((f.offset,n) :: ·)
def evParts (fr:Fr):List (Nat × Operand)→Option (List (Nat × AV))
 | []=>some []
 | (i,x)::xs=>(ev P fr x).bind fun a=>(evParts fr xs).map ((i,a) :: ·)
def buildA (t:TypeId)(parts:List (Nat × AV)):Option AV:=
 (zeroA P t).bind fun z=>
 match P.underlying t with
 | some (.struct fs)=>(placesA P fs.toList).bind fun ps=>(fillA (ps[·]?) z.cells parts).map .agg
 | some (.array _ e)=>(sizeA P e).bind fun n=>(fillA (fun i=>some (i*n,n)) z.cells parts).map .agg
 | _=>none
def rep {α:Type}(l:List α):Nat→List α
 | 0=>[]
 | n+1=>l++rep l n
def addA (a:Nat × Nat)(n:Nat):Nat × Nat:=(a.1,a.2+n)
def boundA (x:AV)(y:Nat):Option Nat:=
 match x with
 | .int _ i=>if 0≤i∧i≤y then some i.toNat else none
 | _=>none
def mostA (mx:Option AV)(cap:Nat):Option Nat:=
 match mx with
 | some v=>boundA v cap
 | none=>some cap
def highA (hi mx:Option AV)(m len:Nat):Option Nat:=
 match hi,mx with
 | some v,_=>boundA v m
 | none,none=>some len
 | none,some _=>none
def lowA (lo:Option AV)(h:Nat):Option Nat:=
 match lo with
 | some v=>boundA v h
 | none=>some 0
def sliceEx (size:Nat)(a:Option (Nat × Nat))(len cap:Nat)(lo hi mx:Option AV):Option AV:=
 (mostA mx cap).bind fun m=>(highA hi mx m len).bind fun h=>(lowA lo h).bind fun l=>
 some (.sl (if m=l then a else a.map (addA · (l*size))) (h-l) (.ex (m-l)))
def sliceUn (size sz:Nat)(a:Option (Nat × Nat))(len:Nat)(lo hi mx:Option AV):Option AV:=
 if size≠sz then none else
 match mx with
 | some _=>none
 | none=>
  (highA hi none len len).bind fun h=>(lowA lo h).bind fun l=>
  some (.sl (a.map (addA · (l*size))) (h-l) (.un sz))
def loadAt (h:Heap)(t:TypeId)(a:Nat × Nat):Option AV:=
 match h.get a.1 with
 | some (.cells _ vs)=>partA P t vs a.2
 | _=>none
def loadN (h:Heap)(a:Nat × Nat)(n:Nat):Option (List AV):=
 match h.get a.1 with
 | some (.cells _ vs)=>spanF vs a.2 n
 | _=>none
def storeN (h:Heap)(a:Nat × Nat)(xs:List AV):Option Heap:=
 if xs.all scalar then
  match h.get a.1 with
  | some (.cells true vs)=>(spliceF vs a.2 xs).map fun vs'=>h.put a.1 (some (.cells true vs'))
  | _=>none
 else none
def guardA (op:BinOp)(t:TypeId)(a:AV):Bool:=
 match op,a with
 | .eql,.nilIfc=>true
 | .neq,.nilIfc=>true
 | .eql,.agg _=>P.eqGuardType P.depth t
 | .neq,.agg _=>P.eqGuardType P.depth t
 | _,_=>false
def concreteA (t:TypeId):Bool:=
 match P.underlying t with
 | none=>false
 | some (.interface _)=>false
 | _=>true
def pureA (o:Oper)(fr:Fr):Option AV:=
 match o.op with
 | .move x=>ev P fr x
 | .assign x=>ev P fr x
 | .pick c a b=>(ev P fr c).bind fun cv=>(asBool cv).bind fun t=>if t then ev P fr a else ev P fr b
 | .build t parts=>(evParts P fr parts.toList).bind (buildA P t)
 | .nilCheck x=>(ev P fr x).bind fun v=>
  match v with
  | .ptr (some a)=>some (.ptr (some a))
  | .fn f a b=>some (.fn f a b)
  | .ifc t v=>some (.ifc t v)
  | _=>none
 | .binOp op t x y _=>(ev P fr x).bind fun a=>(ev P fr y).bind fun b=>
  if guardA P op t a then none else binA P op t a b
 | .unOp op _ x=>(ev P fr x).bind (unA op)
 | .convert src dst x=>(ev P fr x).bind fun a=>
  match P.underlying src,P.underlying dst,a with
  | some _,some (.int k),.int _ n=>some (.int k (k.wrap n))
  | some _,some .string,.str s=>some (.str s)
  | _,_,_=>none
 | .makeInterface t x=>(ev P fr x).bind fun a=>if concreteA P t then some (.ifc t a) else none
 | .makeFunc (.func f) first caps=>(evs P fr first.toList).bind fun l=>(evs P fr caps.toList).map fun c=>.fn f l c
 | .slice t x lo hi mx=>(ev P fr x).bind fun a=>
  (match lo with | some v=>(ev P fr v).map some | none=>some none).bind fun l=>
  (match hi with | some v=>(ev P fr v).map some | none=>some none).bind fun h=>
  (match mx with | some v=>(ev P fr v).map some | none=>some none).bind fun m=>
  match P.underlying t,a with
  | some (.slice e),.sl p len (.ex cap)=>(sizeA P e).bind fun n=>sliceEx n p len cap l h m
  | some (.slice e),.sl p len (.un sz)=>(sizeA P e).bind fun n=>sliceUn n sz p len l h m
  | some .string,.str s=>
   match m with
   | some _=>none
   | none=>
    (highA h none s.length s.length).bind fun hh=>(lowA l hh).bind fun ll=>
    some (.str ((s.take hh).drop ll))
  | _,_=>none
 | .fieldAddr s x f=>(ev P fr x).bind fun a=>
  match P.underlying s,a with
  | some (.struct fs),.ptr (some p)=>
   (fs[f]?).bind fun fd=>(sizeA P fd.type).bind fun n=>if n=0 then none else some (.ptr (some (addA p fd.offset)))
  | _,_=>none
 | .field t x f=>(ev P fr x).bind fun a=>
  match P.underlying t,a with
  | some (.struct fs),.agg cs=>(fs[f]?).bind fun fd=>partA P fd.type cs fd.offset
  | _,_=>none
 | .indexAddr t x ix=>(ev P fr x).bind fun a=>(ev P fr ix).bind fun i=>
  match P.underlying t,a,i with
  | some (.slice e),.sl (some p) len _,.int _ n=>
   if 0≤n∧n<len then(sizeA P e).bind fun s=>some (.ptr (some (addA p (n.toNat*s)))) else none
  | some (.array len e),.ptr (some p),.int _ n=>
   if 0≤n∧n<len then(sizeA P e).bind fun s=>some (.ptr (some (addA p (n.toNat*s)))) else none
  | _,_,_=>none
 | .index t x ix=>(ev P fr x).bind fun a=>(ev P fr ix).bind fun i=>
  match P.underlying t,a,i with
  | some (.array len e),.agg cs,.int _ n=>
   if 0≤n∧n<len then(sizeA P e).bind fun s=>partA P e cs (n.toNat*s) else none
  | some .string,.str s,.int _ n=>
   if 0≤n then(s[n.toNat]?).map fun b=>.int .u8 b.toNat else none
  | _,_,_=>none
 | .extract t ix=>(ev P fr t).bind fun a=>
  match a with
  | .tup l=>l[ix]?
  | _=>none
 | .call { callee:=.builtin .len,args,argTypes }=>
  (argTypes[0]?).bind fun t=>(args[0]?).bind fun x=>(ev P fr x).bind fun a=>
  match P.underlying t,a with
  | some .string,.str s=>some (.int .i64 s.length)
  | some (.array n _),_=>some (.int .i64 n)
  | some (.slice _),.sl _ n _=>some (.int .i64 n)
  | _,_=>none
 | .call { callee:=.builtin .min,args,.. }=>(evs P fr args.toList).bind fun l=>
  match l with
  | [.int k x,.int _ y]=>some (.int k (if y<x then y else x))
  | _=>none
 | .call { callee:=.builtin .max,args,.. }=>(evs P fr args.toList).bind fun l=>
  match l with
  | [.int k x,.int _ y]=>some (.int k (if y > x then y else x))
  | _=>none
 | _=>none
def findA (d:TypeDesc)(k:AV):List (AV × AV)→Option (Option AV)
 | []=>some none
 | (k',v)::es=>(eqT d k k').bind fun b=>if b then some (some v) else findA d k es
def keyTy (t:TypeId):Option TypeDesc:=
 match P.underlying t with
 | some .bool=>some .bool
 | some (.int k)=>some (.int k)
 | some .string=>some .string
 | _=>none
def kindOk:TypeDesc→AV→Option Unit
 | .bool,.bool _=>some ()
 | .int k,.int k' _=>if k'=k then some () else none
 | .string,.str _=>some ()
 | _,_=>none
def sameS:AV→AV→Bool
 | .bool a,.bool b=>a == b
 | .int k a,.int k' b=>decide (k=k') && a == b
 | .str a,.str b=>a == b
 | .ptr a,.ptr b=>a == b
 | .sl a n c,.sl b m d=>a == b && n == m && decide (c=d)
 | .mp a,.mp b=>a == b
 | .nilFn,.nilFn=>true
 | .nilIfc,.nilIfc=>true
 | _,_=>false
def sameL:List AV→List AV→Bool
 | [],[]=>true
 | a::as,b::bs=>sameS a b && sameL as bs
 | _,_=>false
def same:AV→AV→Bool
 | .agg a,.agg b=>sameL a b
 | a,b=>sameS a b
def flatV:AV→Bool
 | .bool _=>true
 | .int _ _=>true
 | .str _=>true
 | _=>false
def keyField (d:Option TypeDesc)(v:Option AV):Bool:=
 match d,v with
 | some .bool,some (.bool _)=>true
 | some (.int k),some (.int k' _)=>decide (k'=k)
 | some .string,some (.str _)=>true
 | _,_=>false
def keyFields:List Field→List AV→Bool
 | [],_=>true
 | f::fs,cs=>(if f.name ≠ "_" then keyField (P.underlying f.type) cs[f.offset]? else true) && keyFields fs cs
def keyS (t:TypeId)(k:AV):Bool:=
 match P.underlying t,k with
 | some (.struct fs),.agg cs=>cs.all flatV && keyFields P fs.toList cs
 | _,_=>false
def eqS (t:TypeId)(k x:AV):Option Bool:=(eqA P t k x).bind fun b=>if b then(if same k x then some true else none) else some false
def findG (eq:AV→AV→Option Bool)(k:AV):List (AV × AV)→Option (Option AV)
 | []=>some none
 | (k',v)::es=>(eq k k').bind fun b=>if b then some (some v) else findG eq k es
def putG (eq:AV→AV→Option Bool)(k v:AV):List (AV × AV)→Option (List (AV × AV))
 | []=>some [(k,v)]
 | (k',v')::es=>(eq k k').bind fun b=>if b then some ((k,v)::es) else(putG eq k v es).map ((k',v') :: ·)
def delG (eq:AV→AV→Option Bool)(k:AV):List (AV × AV)→Option (List (AV × AV))
 | []=>some []
 | (k',v')::es=>(eq k k').bind fun b=>if b then some es else(delG eq k es).map ((k',v') :: ·)
def putMap (d:TypeDesc)(k v:AV):List (AV × AV)→Option (List (AV × AV))
 | []=>some [(k,v)]
 | (k',v')::es=>(eqT d k k').bind fun b=>if b then some ((k,v)::es) else(putMap d k v es).map ((k',v') :: ·)
def delMap (d:TypeDesc)(k:AV):List (AV × AV)→Option (List (AV × AV))
 | []=>some []
 | (k',v')::es=>(eqT d k k').bind fun b=>if b then some es else(delMap d k es).map ((k',v') :: ·)
def findK (t:TypeId)(k:AV)(es:List (AV × AV)):Option (Option AV):=
 match keyTy P t with
 | some d=>(kindOk d k).bind fun _=>findA d k es
 | none=>if keyS P t k then findG (eqS P t) k es else none
def putK (t:TypeId)(k v:AV)(es:List (AV × AV)):Option (List (AV × AV)):=
 match keyTy P t with
 | some d=>(kindOk d k).bind fun _=>putMap d k v es
 | none=>if keyS P t k then putG (eqS P t) k v es else none
def delK (t:TypeId)(k:AV)(es:List (AV × AV)):Option (List (AV × AV)):=
 match keyTy P t with
 | some d=>(kindOk d k).bind fun _=>delMap d k es
 | none=>if keyS P t k then delG (eqS P t) k es else none
def readA (o:Oper)(fr:Fr)(h:Heap):Option AV:=
 match o.op with
 | .load t x=>(ev P fr x).bind fun a=>
  match a with
  | .ptr (some p)=>loadAt P h t p
  | _=>none
 | .lookup t x ix ok=>(ev P fr x).bind fun a=>(ev P fr ix).bind fun k=>
  match P.underlying t,a with
  | some (.map kt e),.mp r=>
   (match r with
     | none=>findK P kt k []
     | some i=>match h.get i with | some (.mp es)=>findK P kt k es | _=>none).bind fun f=>
    (match f with | some v=>some (v,true) | none=>(zeroA P e).map (·,false)).bind fun(v,b)=>
    some (if ok then .tup [v,.bool b] else v)
  | _,_=>none
 | .call { callee:=.builtin .len,args,argTypes }=>
  (argTypes[0]?).bind fun t=>(args[0]?).bind fun x=>(ev P fr x).bind fun a=>
  match P.underlying t,a with
  | some (.map _ _),.mp none=>some (.int .i64 0)
  | some (.map _ _),.mp (some i)=>match h.get i with | some (.mp es)=>some (.int .i64 es.length) | _=>none
  | _,_=>none
 | _=>none
def makeA (o:Oper)(fr:Fr):Option (Blk × (Nat→AV)):=
 match o.op with
 | .alloc t=>(zeroA P t).map fun z=>(.cells true z.cells,fun i=>.ptr (some (i,0)))
 | .box _ x=>(ev P fr x).bind fun a=>if a.cells.all scalar then some (.cells true a.cells,fun i=>.ptr (some (i,0))) else none
 | .buildSlice t len parts=>
  (elemA P t).bind fun e=>(sizeA P e).bind fun n=>(zeroA P e).bind fun z=>(evParts P fr parts.toList).bind fun ps=>
  if len*n > 2 ^ 24∨z.cells.length≠n then none else
  (fillA (fun i=>some (i*n,n)) (rep z.cells len) ps).bind fun cs=>
  if cs.all scalar then some (.cells true cs,fun i=>.sl (some (i,0)) len (.ex len)) else none
 | .makeSlice t l c=>(ev P fr l).bind fun a=>(ev P fr c).bind fun b=>
  match a,b with
  | .int _ x,.int _ y=>
   (elemA P t).bind fun e=>(sizeA P e).bind fun n=>(bytesA P e).bind fun by_=>(zeroA P e).bind fun z=>
   if 0≤x∧x≤y∧y≤2 ^ 48∧by_*y≤2 ^ 47∧z.cells.length=n then
    some (.cells true (rep z.cells y.toNat),fun i=>.sl (some (i,0)) x.toNat (.ex y.toNat))
   else none
  | _,_=>none
 | .makeMap _ none=>some (.mp [],fun i=>.mp (some i))
 | _=>none
def addedA (h:Heap)(size:Nat)(x:AV):Option (List AV):=
 match x with
 | .sl (some p) n _=>
  match loadN h p (n*size) with
  | some l=>some l
  | none=>if n=0 then some [] else none
 | .sl none 0 _=>some []
 | .str s=>if size=1 then some (s.map fun b=>.int .u8 b.toNat) else none
 | _=>none
def countA:AV→Option Nat
 | .sl _ n _=>some n
 | .str s=>some s.length
 | _=>none
def appendA (h:Heap)(size bytes:Nat)(s:AV)(x:AV):Option (AV × Heap):=
 (countA x).bind fun n=>(addedA h size x).bind fun new=>
 match s with
 | .sl base len (.ex cap)=>
  if len+n≤cap then
   match base with
   | some p=>(storeN h (addA p (len*size)) new).map fun h'=>(.sl base (len+n) (.ex cap),h')
   | none=>if n=0 then some (s,h) else none
  else
   if (len+n)*bytes≤2 ^ 47 then
    (match base with | some p=>loadN h p (len*size) | none=>if len=0 then some [] else none).bind fun old=>
    if (old++new).all scalar then some (.sl (some (h.next,0)) (len+n) (.un size),h.new (.cells true (old++new))) else none
   else none
 | .sl (some p) len (.un sz)=>
  if sz≠size then none else
  if n=0 then some (s,h) else
  if (len+n)*bytes≤2 ^ 47 then
   match h.get p.1 with
   | some (.cells true vs)=>
    if p.2+(len+n)*size≤vs.length then
     (storeN h (addA p (len*size)) new).map fun h'=>(.sl (some p) (len+n) (.un sz),h')
    else if p.2+len*size=vs.length then
     let cs:=vs.drop p.2++new
     if new.all scalar then
      some (.sl (some (h.next,0)) (len+n) (.un sz),(h.put p.1 none).new (.cells true cs))
     else none
    else none
   | _=>none
  else none
 | _=>none
def effA (o:Oper)(fr:Fr)(h:Heap):Option (AV × Heap):=
 match o.op with
 | .store t x v=>(ev P fr x).bind fun a=>(ev P fr v).bind fun b=>(sizeA P t).bind fun n=>
  if b.cells.length≠n then none else
  match a with
  | .ptr (some p)=>(storeN h p b.cells).map fun h'=>(.bot,h')
  | _=>none
 | .call { callee:=.builtin .append,args,argTypes }=>
  (argTypes[0]?).bind fun t=>(argTypes[1]?).bind fun u=>(evs P fr args.toList).bind fun l=>
  (elemA P t).bind fun e=>(sizeA P e).bind fun n=>(bytesA P e).bind fun by_=>(zeroA P e).bind fun z=>
  if z.cells.length≠n∨n=0∨by_=0 then none else
  match P.underlying u,l with
  | some (.int _),_=>none
  | some _,[s,x]=>appendA h n by_ s x
  | _,_=>none
 | .call { callee:=.builtin .clear,args,argTypes }=>
  (argTypes[0]?).bind fun t=>(evs P fr args.toList).bind fun l=>
  match P.underlying t,l with
  | some (.map _ _),[.mp none]=>some (.tup [],h)
  | some (.map _ _),[.mp (some i)]=>
   match h.get i with
   | some (.mp _)=>some (.tup [],h.put i (some (.mp [])))
   | _=>none
  | some (.slice _),[.sl none _ _]=>some (.tup [],h)
  | some (.slice e),[.sl (some p) n _]=>
   if n=0 then some (.tup [],h) else
   (zeroA P e).bind fun z=>(sizeA P e).bind fun s=>if z.cells.length≠s then none else(storeN h p (rep z.cells n)).map fun h'=>(.tup [],h')
  | _,_=>none
 | .call { callee:=.builtin .copy,args,argTypes }=>
  (argTypes[0]?).bind fun t=>(evs P fr args.toList).bind fun l=>
  (elemA P t).bind fun e=>(sizeA P e).bind fun s=>
  match l with
  | [.sl base dl _,x]=>
   (countA x).bind fun n=>
   if Nat.min n dl=0 then some (.int .i64 0,h) else
   (match x with
    | .sl (some p) _ _=>loadN h p (Nat.min n dl*s)
    | .str b=>if s=1 then some ((b.take (Nat.min n dl)).map fun c:UInt8=>AV.int .u8 c.toNat) else none
    | _=>none).bind fun cs=>
   match base with
   | some p=>(storeN h p cs).map fun h'=>(.int .i64 (Nat.min n dl),h')
   | none=>none
  | _=>none
 | .mapUpdate t m k v=>(ev P fr m).bind fun mv=>(ev P fr k).bind fun kv=>(ev P fr v).bind fun vv=>
  match P.underlying t,mv with
  | some (.map kt _),.mp (some i)=>
   match h.get i with
    | some (.mp es)=>(putK P kt kv vv es).map fun es'=>(.bot,h.put i (some (.mp es')))
    | _=>none
  | _,_=>none
 | .call { callee:=.builtin .delete,args,argTypes }=>
  (argTypes[0]?).bind fun t=>(evs P fr args.toList).bind fun l=>
  match P.underlying t,l with
  | some (.map kt _),[.mp (some i),k]=>
   match h.get i with
    | some (.mp es)=>(delK P kt k es).map fun es'=>(.tup [],h.put i (some (.mp es')))
    | _=>none
  | _,_=>none
 | _=>none
def methOf (name:String)(t:TypeId):Option FuncId:=
 (P.info? t).bind fun i=>(i.methods.find? (·.name == name)).bind fun m=>
 match m.path.toList,m.func,P.underlying t with
 | [],some (f,true),some (.pointer _)=>some f
 | _,_,_=>none
def methList (name:String):List (TypeId × FuncId):=(List.range P.types.size).filterMap fun t=>(methOf P name t).map (t,·)
def methL:List (TypeId × FuncId)→TypeId→Option FuncId
 | [],_=>none
 | (u,f)::l,t=>bif Nat.beq u t then some f else methL l t
def ivP (l:List (TypeId × FuncId))(g:AV)(args:List AV):Option (FuncId × List AV):=
 match g with
 | .ifc t v=>(methL l t).bind fun f=>some (f,v::args)
 | _=>none
def callA (o:Oper)(fr:Fr):Option (FuncId × List AV):=
 match o.op with
 | .call { callee:=.value f,args,.. }=>(ev P fr f).bind fun g=>(evs P fr args.toList).bind fun l=>
  match g with
  | .fn f first caps=>some (f,first++l++caps)
  | _=>none
 | .call { callee:=.invoke r name,args,.. }=>(ev P fr r).bind fun g=>(evs P fr args.toList).bind fun l=>ivP (methList P name) g l
 | _=>none
inductive Kind where
 | pur | red | mak | eff | cal | bad
def kindA (o:Oper):Kind:=
 match o.op with
 | .load ..=>.red
 | .lookup ..=>.red
 | .call { callee:=.builtin .len,argTypes,.. }=>
  match (argTypes[0]?).bind P.underlying with
  | some (.map _ _)=>.red
  | _=>.pur
 | .call { callee:=.builtin .min,.. }=>.pur
 | .call { callee:=.builtin .max,.. }=>.pur
 | .call { callee:=.builtin _,.. }=>.eff
 | .call _=>.cal
 | .alloc _=>.mak
 | .box ..=>.mak
 | .buildSlice ..=>.mak
 | .makeSlice ..=>.mak
 | .makeMap ..=>.mak
 | .store ..=>.eff
 | .mapUpdate ..=>.eff
 | .go _=>.bad
 | .defer _=>.bad
 | .panic _=>.bad
 | .send ..=>.bad
 | .recv ..=>.bad
 | .select ..=>.bad
 | .range ..=>.bad
 | .next ..=>.bad
 | .entry _=>.bad
 | .insert ..=>.bad
 | _=>.pur
abbrev CallF:=FuncId→List AV→Heap→Option (AV × Heap)
def opA (call:CallF)(o:Oper)(fr:Fr)(h:Heap):Option (AV × Heap):=
 match kindA P o with
 | .pur=>(pureA P o fr).map (·,h)
 | .red=>(readA P o fr h).map (·,h)
 | .mak=>(makeA P o fr).map fun(b,f)=>(f h.next,h.new b)
 | .eff=>effA P o fr h
 | .cal=>(callA P o fr).bind fun(f,args)=>call f args h
 | .bad=>none
def putA (fr:Fr)(dst:Option Tmp)(v:AV):Fr:=
 match dst with
 | some d=>setF v fr d
 | none=>fr
def wantedA (ops:Array Oper)(fr:Fr)(o:Oper):Option Bool:=
 match o.guard with
 | none=>some true
 | some (j,want)=>
  match (ops[j]?).bind (·.dst) with
  | none=>none
  | some d=>
   match atF fr d with
   | .bool b=>some (b == want)
   | .tup []=>some false
   | _=>none
def opsA (call:CallF)(ops:Array Oper):List Oper→Fr→Heap→Option (Fr × Heap)
 | [],fr,h=>some (fr,h)
 | o::rest,fr,h=>
  (wantedA ops fr o).bind fun want=>
  (if want then opA P call o fr h else some (.tup [],h)).bind fun(v,h')=>
  opsA call ops rest (putA fr o.dst v) h'
inductive DStep where
 | pur (i:Nat) (o:Oper)
 | mak (i:Nat) (o:Oper) (k:Nat)
 | red (i:Nat) (o:Oper) (cur:Bool) (lo hi:Nat)
 | eff (i:Nat) (o:Oper)
def isEff (o:Oper):Bool:=match kindA P o with | .eff=>true | .cal=>true | _=>false
def isMak (o:Oper):Bool:=match kindA P o with | .mak=>true | _=>false
def isRed (o:Oper):Bool:=match kindA P o with | .red=>true | _=>false
def isBad (o:Oper):Bool:=match kindA P o with | .bad=>true | _=>false
def pairsOk (ok:Nat→Nat→Oper→Oper→Bool)(l:List (Oper × Nat)):Bool:=
 match l with
 | []=>true
 | (o,i)::rest=>rest.all (fun(p,j)=>ok i j o p) && pairsOk ok rest
def drawOk (ops:Array Oper):Bool:=
 let b:=Region.before ops
 let l:=ops.toList.zipIdx
 l.all (fun(o,i)=>!isBad P o && o.after.all (fun e=>!Region.binds .any e||e.on<i) && (match o.guard with | none=>true | some (j,_)=>(b.getD i 0).testBit j && ((ops[j]?).bind (·.dst)).isSome)) &&
 pairsOk (fun i j o p=>((b.getD j 0).testBit i||o.apart ops p) && (!(isEff P o && isEff P p)||(b.getD j 0).testBit i)) l
def makNo (ops:Array Oper)(i:Nat):Nat:=((ops.toList.take i).filter (isMak P)).length
def maks (ops:Array Oper):Nat:=(ops.toList.filter (isMak P)).length
def loA (b:Array Nat)(l:List (Oper × Nat))(i:Nat):Nat:=(l.filter fun(o,j)=>isEff P o && (b.getD i 0).testBit j).length
def hiA (b:Array Nat)(l:List (Oper × Nat))(i:Nat):Nat:=(l.filter fun(o,j)=>isEff P o && !(b.getD j 0).testBit i).length
def lateOrder (b:Array Nat):List (Oper × Nat)→List (Oper × Nat)→List (Oper × Nat)
 | [],pend=>pend
 | (o,j)::rest,pend=>
  if isMak P o then lateOrder b rest (pend ++ [(o,j)])
  else
   (pend.filter fun(_,i)=>(b.getD j 0).testBit i)++(o,j)::lateOrder b rest (pend.filter fun(_,i)=>!(b.getD j 0).testBit i)
def planFrom (ops:Array Oper)(b:Array Nat)(l:List (Oper × Nat)):List (Oper × Nat)→List Nat→List DStep
 | [],_=>[]
 | (o,i)::rest,made=>
  if isMak P o then .mak i o (makNo P ops i)::planFrom ops b l rest (i::made)
  else(if isRed P o then .red i o (made.all fun j=>(b.getD i 0).testBit j) (loA P b l i) (hiA P b l i)
   else if isEff P o then .eff i o
   else .pur i o)::planFrom ops b l rest made
def planD (ops:Array Oper):List DStep:=
 planFrom P ops (Region.before ops) ops.toList.zipIdx (lateOrder P (Region.before ops) ops.toList.zipIdx []) []
def lateOk (b:Array Nat):List (Oper × Nat)→List Nat→Bool
 | [],_=>true
 | (o,j)::rest,made=>
  if isMak P o then lateOk b rest (j::made)
  else(!isEff P o||made.all fun i=>(b.getD j 0).testBit i) && lateOk b rest made
def checkD (hs:List Heap):List (Oper × Fr × AV × Nat × Nat)→Bool
 | []=>true
 | (o,fr,v,lo,hi)::rest=>
  ((List.range (hi+1-lo)).all fun d=>
   match hs[lo+d]? with
   | some h=>(match readA P o fr h with | some u=>same u v | none=>false)
   | none=>false) && checkD hs rest
def runD (call:CallF)(ops:Array Oper)(n0:Nat):List DStep→Fr→Heap→List Heap→List (Oper × Fr × AV × Nat × Nat)→Option (Fr × Heap)
 | [],fr,h,hs,cs=>if checkD P hs cs then some (fr,h) else none
 | .pur _ o::rest,fr,h,hs,cs=>
  (wantedA ops fr o).bind fun want=>(if want then pureA P o fr else some (.tup [])).bind fun v=>runD call ops n0 rest (putA fr o.dst v) h hs cs
 | .mak _ o k::rest,fr,h,hs,cs=>
  (wantedA ops fr o).bind fun want=>
  (if want then(makeA P o fr).map (fun(b,f)=>(f (n0+k),h.put (n0+k) (some b))) else some (.tup [],h)).bind fun(v,h')=>runD call ops n0 rest (putA fr o.dst v) h' hs cs
 | .red _ o cur lo hi::rest,fr,h,hs,cs=>
  (wantedA ops fr o).bind fun want=>
  if cur && lo.beq hi then
   (if want then readA P o fr h else some (.tup [])).bind fun v=>runD call ops n0 rest (putA fr o.dst v) h hs cs
  else
   (if want then(hs.getLast?).bind fun h₀=>(readA P o fr h₀).map fun v=>(v,(o,fr,v,lo,hi)::cs) else some (.tup [],cs)).bind fun(v,cs')=>
   runD call ops n0 rest (putA fr o.dst v) h hs cs'
 | .eff _ o::rest,fr,h,hs,cs=>
  (wantedA ops fr o).bind fun want=>
  (if want then opA P call o fr h else some (.tup [],h)).bind fun(v,h')=>runD call ops n0 rest (putA fr o.dst v) h' (hs ++ [h']) cs
def regionD (call:CallF)(ops:Array Oper)(fr:Fr)(h:Heap):Option (Fr × Heap):=
 if drawOk P ops && lateOk P (Region.before ops) (lateOrder P (Region.before ops) ops.toList.zipIdx []) [] &&
   pairsOk (fun i j _ _=>!((Region.before ops).getD i 0).testBit j) (lateOrder P (Region.before ops) ops.toList.zipIdx []) then
  runD P call ops h.next (planD P ops) fr ⟨h.next+maks P ops,h.mem⟩ [⟨h.next+maks P ops,h.mem⟩] []
 else none
inductive Ex where
 | normal
 | exit (id:Nat)
 | ret
 deriving DecidableEq
def writes:Code→List Nat
 | .region _ ops _=>ops.toList.filterMap (·.dst)
 | .seq a b=>writes a++writes b
 | .cond _ a b=>writes a++writes b
 | .block _ c=>writes c
 | .loop c=>writes c
 | .scope c=>writes c
 | _=>[]
def rebuild (outs ws:List Nat)(vals:List AV):Nat→Fr→Fr
 | _,[]=>[]
 | s,v::rest=>(if ws.contains s then(match outs.idxOf? s with | some k=>vals.getD k .bot | none=>.bot) else v)::rebuild outs ws vals (s+1) rest
abbrev Out:=Option (Ex × Fr × Heap)
abbrev OutV:=Option (Ex × List AV × Heap)
def outOf (outs:List Nat)(r:Out):OutV:=r.map fun(e,fr,h)=>(e,outs.map (atF fr),h)
def iter:Nat→(List AV→Heap→OutV)→List AV→Heap→OutV
 | 0,_,_,_=>none
 | k+1,F,vs,h=>(F vs h).bind fun(e,vs',h')=>match e with
  | .normal=>iter k F vs' h'
  | e=>some (e,vs',h')
def exec (call:CallF)(k:Nat)(ann:Nat→List Nat):Nat→Code→Fr→Heap→Out
 | _,.skip,fr,h=>some (.normal,fr,h)
 | _,.region _ ops draw,fr,h=>
  (if draw then regionD P call ops fr h else opsA P call ops ops.toList fr h).map fun(fr',h')=>(.normal,fr',h')
 | p,.seq a b,fr,h=>(exec call k ann (2*p) a fr h).bind fun(e,fr',h')=>match e with
  | .normal=>exec call k ann (2*p+1) b fr' h'
  | e=>some (e,fr',h')
 | p,.cond c a b,fr,h=>
  (ev P fr c).bind fun cv=>(asBool cv).bind fun t=>
  (outOf (ann p) (if t then exec call k ann (2*p) a fr h else exec call k ann (2*p+1) b fr h)).bind fun(e,vals,h')=>
  some (e,rebuild (ann p) (writes a++writes b) vals 0 fr,h')
 | p,.block id c,fr,h=>(exec call k ann (2*p) c fr h).bind fun(e,fr',h')=>some (if e = .exit id then .normal else e,fr',h')
 | p,.loop c,fr,h=>
  (iter k (fun vals h=>outOf (ann p) (exec call k ann (2*p) c (rebuild (ann p) (writes c) vals 0 fr) h)) ((ann p).map (atF fr)) h).bind fun(e,vals,h')=>
  some (e,rebuild (ann p) (writes c) vals 0 fr,h')
 | _,.exit id,fr,h=>some (.exit id,fr,h)
 | _,.ret,fr,h=>some (.ret,fr,h)
 | _,.label _,fr,h=>some (.normal,fr,h)
 | _,_,_,_=>none
def resultA (fr:Fr)(h:Heap):ResultVar→Option AV
 | .tmp t=>some (atF fr t)
 | .cell a t=>
  match atF fr a with
  | .ptr (some p)=>loadAt P h t p
  | _=>none
def resultsA (fr:Fr)(h:Heap):List ResultVar→Option (List AV)
 | []=>some []
 | r::rs=>(resultA P fr h r).bind fun v=>(resultsA fr h rs).map (v :: ·)
def oneA:List AV→AV
 | [v]=>v
 | l=>.tup l
def bodyA (call:CallF)(k:Nat)(ann:FuncId→Nat→List Nat)(f:FuncId)(args:List AV)(h:Heap):Option (AV × Heap):=
 (P.funcs[f]?).bind fun fn=>fn.body.bind fun c=>
 (exec P call k (ann f) 1 c (args++List.replicate (fn.ntmps-args.length) .bot) h).bind fun(e,fr,h')=>
 match e with
 | .exit _=>none
 | _=>(resultsA P fr h' fn.results.toList).map fun l=>(oneA l,h')
end
end
end Go.Ab
