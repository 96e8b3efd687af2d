import Derived.Test.YtdmgkkcjnmmfmaaGreatAbW
namespace Go.Ab
open Go
set_option linter.all false
noncomputable section
def nilV:AV→Option AV
 | .ptr (some a)=>some (.ptr (some a))
 | .fn f a b=>some (.fn f a b)
 | .ifc t v=>some (.ifc t v)
 | _=>none
def extractV (ix:Nat):AV→Option AV
 | .tup l=>l[ix]?
 | _=>none
def pickP (c a b:AV):Option AV:=(asBool c).bind fun t=>if t then some a else some b
def bldS (ps:List (Nat × Nat))(z:List AV)(parts:List (Nat × AV)):Option AV:=(fillA (ps[·]?) z parts).map .agg
def binE (eq:AV→AV→Option Bool)(op:BinOp)(x y:AV):Option AV:=
 match op,x,y with
 | .shl,.int k a,.int _ b=>shiftA .shl k a b
 | .shr,.int k a,.int _ b=>shiftA .shr k a b
 | op,.int k a,.int k' b=>if k=k' then intBin op k a b else none
 | op,.str a,.str b=>strBin op a b
 | .eql,x,y=>(eq x y).map .bool
 | .neq,x,y=>(eq x y).map fun b=>.bool !b
 | _,_,_=>none
def eqNo (_ _:AV):Option Bool:=none
def binP (op:BinOp)(x y:AV):Option AV:=binE eqNo op x y
def guardE (g:Bool)(op:BinOp)(a:AV):Bool:=
 match op,a with
 | .eql,.nilIfc=>true
 | .neq,.nilIfc=>true
 | .eql,.agg _=>g
 | .neq,.agg _=>g
 | _,_=>false
def eqFs:List (Nat × TypeDesc)→List AV→List AV→Option Bool
 | [],_,_=>some true
 | (o,d)::l,xs,ys=>
  match xs[o]?,ys[o]? with
  | some x,some y=>(eqT d x y).bind fun b=>if b then eqFs l xs ys else some false
  | _,_=>none
def eqD (d:Option TypeDesc)(fs:Option (List (Nat × TypeDesc)))(x y:AV):Option Bool:=
 match d,x,y with
 | some .bool,.bool a,.bool b=>some (a == b)
 | some (.pointer _),.ptr none,.ptr b=>some b.isNone
 | some (.pointer _),.ptr (some _),.ptr none=>some false
 | some (.slice _),.sl none _ _,.sl b _ _=>some b.isNone
 | some (.slice _),.sl (some _) _ _,.sl none _ _=>some false
 | some (.map _ _),.mp none,.mp b=>some b.isNone
 | some (.map _ _),.mp (some _),.mp none=>some false
 | some (.func _ _ _),.nilFn,.nilFn=>some true
 | some (.func _ _ _),.fn _ _ _,.nilFn=>some false
 | some (.interface _),.nilIfc,.ifc _ _=>some false
 | some (.interface _),.ifc _ _,.nilIfc=>some false
 | some (.struct _),.agg xs,.agg ys=>match fs with | some l=>eqFs l xs ys | none=>none
 | _,_,_=>none
def eqP (d:Option TypeDesc)(fs:Option (List (Nat × TypeDesc)))(g:Bool)(op:BinOp)(x y:AV):Option AV:=if guardE g op x then none else binE (eqD d fs) op x y
def cvI (k:IntKind)(a:AV):Option AV:=
 match a with
 | .int _ n=>some (.int k (k.wrap n))
 | _=>none
def slcP (n:Nat)(a:AV)(l h m:Option AV):Option AV:=
 match a with
 | .sl p len (.ex cap)=>sliceEx n p len cap l h m
 | .sl p len (.un sz)=>sliceUn n sz p len l h m
 | _=>none
def fvS (off:Nat)(a:AV):Option AV:=
 match a with
 | .agg cs=>atO cs off
 | _=>none
def iaS (size:Nat)(a i:AV):Option AV:=
 match a,i with
 | .sl (some p) len _,.int _ n=>if 0≤n∧n<len then some (.ptr (some (addA p (n.toNat*size)))) else none
 | _,_=>none
def iaA (len size:Nat)(a i:AV):Option AV:=
 match a,i with
 | .ptr (some p),.int _ n=>if 0≤n∧n<len then some (.ptr (some (addA p (n.toNat*size)))) else none
 | _,_=>none
def lnL (a:AV):Option AV:=
 match a with
 | .sl _ n _=>some (.int .i64 n)
 | _=>none
def lnS (a:AV):Option AV:=
 match a with
 | .str s=>some (.int .i64 s.length)
 | _=>none
def minP (a b:AV):Option AV:=
 match a,b with
 | .int k x,.int _ y=>some (.int k (if y<x then y else x))
 | _,_=>none
def maxP (a b:AV):Option AV:=
 match a,b with
 | .int k x,.int _ y=>some (.int k (if y > x then y else x))
 | _,_=>none
def lnM (h:Heap)(a:AV):Option AV:=
 match a with
 | .mp none=>some (.int .i64 0)
 | .mp (some i)=>match h.get i with | some (.mp es)=>some (.int .i64 es.length) | _=>none
 | _=>none
def bxP (a:AV):Option (Blk × (Nat→AV)):=if a.cells.all scalar then some (.cells true a.cells,fun i=>.ptr (some (i,0))) else none
def bsP (n:Nat)(z:List AV)(len:Nat)(parts:List (Nat × AV)):Option (Blk × (Nat→AV)):=
 (fillA (fun i=>some (i*n,n)) (rep z len) parts).bind fun cs=>if cs.all scalar then some (.cells true cs,fun i=>.sl (some (i,0)) len (.ex len)) else none
def msP (n b:Nat)(z:List AV)(l c:AV):Option (Blk × (Nat→AV)):=
 match l,c with
 | .int _ x,.int _ y=>
  if 0≤x∧x≤y∧y≤2 ^ 48∧b*y≤2 ^ 47∧z.length=n then some (.cells true (rep z y.toNat),fun i=>.sl (some (i,0)) x.toNat (.ex y.toNat)) else none
 | _,_=>none
def hpN (h:Heap)(n:Nat):Heap:=⟨h.next+n,h.mem⟩
def stP (n:Nat)(h:Heap)(a v:AV):Option (AV × Heap):=
 if v.cells.length≠n then none else
 match a with
 | .ptr (some p)=>(storeN h p v.cells).map fun h'=>(.bot,h')
 | _=>none
def clL (s:Nat)(z:List AV)(h:Heap)(a:AV):Option (AV × Heap):=
 match a with
 | .sl none _ _=>some (.tup [],h)
 | .sl (some p) n _=>if n=0 then some (.tup [],h) else if z.length≠s then none else(storeN h p (rep z n)).map fun h'=>(.tup [],h')
 | _=>none
def cvP (a:AV)(l:List AV):Option (FuncId × List AV):=
 match a with
 | .fn f first caps=>some (f,first++l++caps)
 | _=>none
def gdW (g:AV)(want:Bool):Option Bool:=
 match g with
 | .bool b=>some (b == want)
 | .tup []=>some false
 | _=>none
def clF {R:Type}(call:CallF)(x:Option (FuncId × List AV))(h:Heap)(K:AV→Heap→Option R):Option R:=
 match x with
 | some fa=>cl (call fa.1 fa.2 h) K
 | none=>none
end
end Go.Ab
