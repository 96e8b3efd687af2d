/- The same machine, typed for the kernel: each step unfolds little. It computes what the first one computes. -/
import Derived.Test.YtofbefghllefhaaGreatAb12
namespace Go.Ab
open Go
set_option linter.all false
noncomputable section

section
variable (P : Program) (call : CallF)

/-! ### What hangs on the frame alone -/
def pickF (fr : Fr) (c a b : Operand) : Option AV := (ev P fr c).bind fun cv => (asBool cv).bind fun t => if t then ev P fr a else ev P fr b
def buildF (fr : Fr) (t : TypeId) (parts : Array (Nat × Operand)) : Option AV := (evParts P fr parts.toList).bind (buildA P t)
def nilV : AV → Option AV
  | .ptr (some a) => some (.ptr (some a))
  | .fn f a b => some (.fn f a b)
  | .ifc t v => some (.ifc t v)
  | _ => none
def nilF (fr : Fr) (x : Operand) : Option AV := (ev P fr x).bind nilV
def binV (op : BinOp) (t : TypeId) (a b : AV) : Option AV := if guardA P op t a then none else binA P op t a b
def binF (fr : Fr) (op : BinOp) (t : TypeId) (x y : Operand) : Option AV := (ev P fr x).bind fun a => (ev P fr y).bind fun b => binV P op t a b
def unF (fr : Fr) (op : UnOp) (x : Operand) : Option AV := (ev P fr x).bind (unA op)
def convV (src dst : TypeId) (a : AV) : Option AV :=
  match P.underlying src, P.underlying dst, a with
  | some _, some (.int k), .int _ n => some (.int k (k.wrap n))
  | some _, some .string, .str s => some (.str s)
  | _, _, _ => none
def convF (fr : Fr) (src dst : TypeId) (x : Operand) : Option AV := (ev P fr x).bind (convV P src dst)
def ifcF (fr : Fr) (t : TypeId) (x : Operand) : Option AV := (ev P fr x).bind fun a => if concreteA P t then some (.ifc t a) else none
def funcF (fr : Fr) (f : FuncId) (first caps : Array Operand) : Option AV := (evs P fr first.toList).bind fun l => (evs P fr caps.toList).map fun c => .fn f l c
def sliceV (t : TypeId) (a : AV) (l h m : Option AV) : Option AV :=
  match P.underlying t, a with
  | some (.slice e), .sl p len (.ex cap) => (sizeA P e).bind fun n => sliceEx n p len cap l h m
  | some (.slice e), .sl p len (.un sz) => (sizeA P e).bind fun n => sliceUn n sz p len l h m
  | some .string, .str s =>
    match m with
    | some _ => none
    | none =>
      (highA h none s.length s.length).bind fun hh => (lowA l hh).bind fun ll =>
      some (.str ((s.take hh).drop ll))
  | _, _ => none
def sliceF (fr : Fr) (t : TypeId) (x : Operand) (lo hi mx : Option Operand) : Option AV :=
  (ev P fr x).bind fun a =>
    (match lo with | some v => (ev P fr v).map some | none => some none).bind fun l =>
    (match hi with | some v => (ev P fr v).map some | none => some none).bind fun h =>
    (match mx with | some v => (ev P fr v).map some | none => some none).bind fun m => sliceV P t a l h m
def fieldAddrV (s : TypeId) (f : Nat) (a : AV) : Option AV :=
  match P.underlying s, a with
  | some (.struct fs), .ptr (some p) =>
    (fs[f]?).bind fun fd => (sizeA P fd.type).bind fun n => if n = 0 then none else some (.ptr (some (addA p fd.offset)))
  | _, _ => none
def fieldAddrF (fr : Fr) (s : TypeId) (x : Operand) (f : Nat) : Option AV := (ev P fr x).bind fun a => fieldAddrV P s f a
def fieldV (t : TypeId) (f : Nat) (a : AV) : Option AV :=
  match P.underlying t, a with
  | some (.struct fs), .agg cs => (fs[f]?).bind fun fd => partA P fd.type cs fd.offset
  | _, _ => none
def fieldF (fr : Fr) (t : TypeId) (x : Operand) (f : Nat) : Option AV := (ev P fr x).bind fun a => fieldV P t f a
def indexAddrV (t : TypeId) (a i : AV) : Option AV :=
  match P.underlying t, a, i with
  | some (.slice e), .sl (some p) len _, .int _ n =>
    if 0 ≤ n ∧ n < len then (sizeA P e).bind fun s => some (.ptr (some (addA p (n.toNat * s)))) else none
  | some (.array len e), .ptr (some p), .int _ n =>
    if 0 ≤ n ∧ n < len then (sizeA P e).bind fun s => some (.ptr (some (addA p (n.toNat * s)))) else none
  | _, _, _ => none
def indexAddrF (fr : Fr) (t : TypeId) (x ix : Operand) : Option AV := (ev P fr x).bind fun a => (ev P fr ix).bind fun i => indexAddrV P t a i
def indexV (t : TypeId) (a i : AV) : Option AV :=
  match P.underlying t, a, i with
  | some (.array len e), .agg cs, .int _ n =>
    if 0 ≤ n ∧ n < len then (sizeA P e).bind fun s => partA P e cs (n.toNat * s) else none
  | some .string, .str s, .int _ n =>
    if 0 ≤ n then (s[n.toNat]?).map fun b => .int .u8 b.toNat else none
  | _, _, _ => none
def indexF (fr : Fr) (t : TypeId) (x ix : Operand) : Option AV := (ev P fr x).bind fun a => (ev P fr ix).bind fun i => indexV P t a i
def extractV (ix : Nat) : AV → Option AV
  | .tup l => l[ix]?
  | _ => none
def extractF (fr : Fr) (t : Operand) (ix : Nat) : Option AV := (ev P fr t).bind fun a => extractV ix a

/-! ### What reads, makes, changes -/
def loadV (h : Heap) (t : TypeId) : AV → Option AV
  | .ptr (some p) => loadAt P h t p
  | _ => none
def loadF (fr : Fr) (h : Heap) (t : TypeId) (x : Operand) : Option (AV × Heap) := ((ev P fr x).bind fun a => loadV P h t a).map (·, h)
def allocF (h : Heap) (t : TypeId) : Option (AV × Heap) := ((zeroA P t).map fun z => ((Blk.cells true z.cells, fun i => .ptr (some (i, 0))) : Blk × (Nat → AV))).map fun (b, f) => (f h.next, h.new b)
def storeV (h : Heap) (b : AV) : AV → Option (AV × Heap)
  | .ptr (some p) => (storeN h p b.cells).map fun h' => (.bot, h')
  | _ => none
def storeF (fr : Fr) (h : Heap) (t : TypeId) (x v : Operand) : Option (AV × Heap) :=
  (ev P fr x).bind fun a => (ev P fr v).bind fun b => (sizeA P t).bind fun n => if b.cells.length ≠ n then none else storeV h b a
def callV (l : List AV) : AV → Option (FuncId × List AV)
  | .fn f first caps => some (f, first ++ l ++ caps)
  | _ => none
def callValF (fr : Fr) (h : Heap) (f : Operand) (args : Array Operand) : Option (AV × Heap) :=
  ((ev P fr f).bind fun g => (evs P fr args.toList).bind fun l => callV l g).bind fun r => call r.1 r.2 h

/-- All else goes the first machine's road. -/
def otherF (o : Oper) (fr : Fr) (h : Heap) : Option (AV × Heap) := opA P call o fr h

def opF (o : Oper) (fr : Fr) (h : Heap) : Option (AV × Heap) :=
  match o.op with
  | .move x => (ev P fr x).map (·, h)
  | .assign x => (ev P fr x).map (·, h)
  | .pick c a b => (pickF P fr c a b).map (·, h)
  | .build t parts => (buildF P fr t parts).map (·, h)
  | .nilCheck x => (nilF P fr x).map (·, h)
  | .binOp op t x y _ => (binF P fr op t x y).map (·, h)
  | .unOp op _ x => (unF P fr op x).map (·, h)
  | .convert src dst x => (convF P fr src dst x).map (·, h)
  | .makeInterface t x => (ifcF P fr t x).map (·, h)
  | .makeFunc (.func f) first caps => (funcF P fr f first caps).map (·, h)
  | .slice t x lo hi mx => (sliceF P fr t x lo hi mx).map (·, h)
  | .fieldAddr s x f => (fieldAddrF P fr s x f).map (·, h)
  | .field t x f => (fieldF P fr t x f).map (·, h)
  | .indexAddr t x ix => (indexAddrF P fr t x ix).map (·, h)
  | .index t x ix => (indexF P fr t x ix).map (·, h)
  | .extract t ix => (extractF P fr t ix).map (·, h)
  | .load t x => loadF P fr h t x
  | .alloc t => allocF P h t
  | .store t x v => storeF P fr h t x v
  | .call { callee := .value f, args, .. } => callValF P call fr h f args
  | _ => otherF P call o fr h

theorem opF_eq (o : Oper) (fr : Fr) (h : Heap) : opF P call o fr h = opA P call o fr h := by
  obtain ⟨dst, op, type, pos, after, guard⟩ := o
  cases op with
  | call c =>
    obtain ⟨callee, args, ts⟩ := c
    cases callee <;> rfl
  | makeFunc fn first caps => cases fn <;> rfl
  | _ => rfl

/-! ### Regions, code -/
def opsStepF (ops : Array Oper) (o : Oper) (ih : Fr → Heap → Option (Fr × Heap)) (fr : Fr) (h : Heap) : Option (Fr × Heap) :=
  (wantedA ops fr o).bind fun want => (bif want then opF P call o fr h else some (.tup [], h)).bind fun r => ih (putA fr o.dst r.1) r.2
def opsF (ops : Array Oper) (l : List Oper) : Fr → Heap → Option (Fr × Heap) :=
  List.rec (motive := fun _ => Fr → Heap → Option (Fr × Heap)) (fun fr h => some (fr, h)) (fun o _ ih => opsStepF P call ops o ih) l
theorem opsF_eq (ops : Array Oper) : ∀ (l : List Oper) (fr : Fr) (h : Heap), opsF P call ops l fr h = opsA P call ops l fr h
  | [], fr, h => rfl
  | o :: l, fr, h => by
    show opsStepF P call ops o (opsF P call ops l) fr h = _
    unfold opsStepF
    rw [opsA]
    congr 1
    funext want
    cases want
    · simp only [cond_false, Bool.false_eq_true, if_false, Option.bind_some]
      exact opsF_eq ops l _ _
    · simp only [cond_true, if_true, opF_eq]
      congr 1
      funext r
      exact opsF_eq ops l _ _

def nextF (k : Fr → Heap → Out) (r : Ex × Fr × Heap) : Out :=
  match r.1 with
  | .normal => k r.2.1 r.2.2
  | e => some (e, r.2.1, r.2.2)
def regionF (ops : Array Oper) (draw : Bool) (fr : Fr) (h : Heap) : Out :=
  (bif draw then regionD P call ops fr h else opsF P call ops ops.toList fr h).map fun r => (.normal, r.1, r.2)
def seqF (ia ib : Nat → Fr → Heap → Out) (p : Nat) (fr : Fr) (h : Heap) : Out := (ia (2 * p) fr h).bind (nextF (ib (2 * p + 1)))
def condF (ann : Nat → List Nat) (c : Operand) (a b : Code) (ia ib : Nat → Fr → Heap → Out) (p : Nat) (fr : Fr) (h : Heap) : Out :=
  (ev P fr c).bind fun cv => (asBool cv).bind fun t =>
  (outOf (ann p) (bif t then ia (2 * p) fr h else ib (2 * p + 1) fr h)).bind fun r =>
  some (r.1, rebuild (ann p) (writes a ++ writes b) r.2.1 0 fr, r.2.2)
def blockF (id : Nat) (ic : Nat → Fr → Heap → Out) (p : Nat) (fr : Fr) (h : Heap) : Out :=
  (ic (2 * p) fr h).bind fun r => some (if r.1 = .exit id then .normal else r.1, r.2.1, r.2.2)
def loopF (k : Nat) (ann : Nat → List Nat) (c : Code) (ic : Nat → Fr → Heap → Out) (p : Nat) (fr : Fr) (h : Heap) : Out :=
  (iter k (fun vals h => outOf (ann p) (ic (2 * p) (rebuild (ann p) (writes c) vals 0 fr) h)) ((ann p).map (atF fr)) h).bind fun r =>
  some (r.1, rebuild (ann p) (writes c) r.2.1 0 fr, r.2.2)
def execF (k : Nat) (ann : Nat → List Nat) (c : Code) : Nat → Fr → Heap → Out :=
  Code.rec (motive := fun _ => Nat → Fr → Heap → Out) (fun _ fr h => some (.normal, fr, h)) (fun _ ops draw _ fr h => regionF P call ops draw fr h)
    (fun _ _ ia ib => seqF ia ib) (fun c a b ia ib => condF P ann c a b ia ib) (fun id _ ic => blockF id ic) (fun c ic => loopF k ann c ic)
    (fun _ _ _ _ _ _ _ _ _ => none) (fun id _ fr h => some (.exit id, fr, h)) (fun _ _ _ _ _ => none) (fun _ _ fr h => some (.normal, fr, h)) (fun _ _ _ _ => none)
    (fun _ fr h => some (.ret, fr, h)) (fun _ _ _ _ => none) c
theorem execF_eq (k : Nat) (ann : Nat → List Nat) : ∀ (c : Code) (p : Nat) (fr : Fr) (h : Heap), execF P call k ann c p fr h = exec P call k ann p c fr h
  | .skip, p, fr, h => by rw [exec]; rfl
  | .region id ops draw, p, fr, h => by
    rw [exec]
    show regionF P call ops draw fr h = _
    unfold regionF
    cases draw
    · simp only [cond_false, Bool.false_eq_true, if_false, opsF_eq]
    · simp only [cond_true, if_true]
  | .seq a b, p, fr, h => by
    rw [exec, ← execF_eq k ann a]
    show (execF P call k ann a (2 * p) fr h).bind (nextF (execF P call k ann b (2 * p + 1))) = _
    congr 1
    funext r
    obtain ⟨e, fr', h'⟩ := r
    cases e
    · exact execF_eq k ann b _ _ _
    · rfl
    · rfl
  | .cond c a b, p, fr, h => by
    rw [exec]
    show condF P ann c a b (execF P call k ann a) (execF P call k ann b) p fr h = _
    unfold condF
    congr 1
    funext cv
    congr 1
    funext t
    cases t
    · simp only [cond_false, Bool.false_eq_true, if_false, execF_eq k ann b]
    · simp only [cond_true, if_true, execF_eq k ann a]
  | .block id c, p, fr, h => by
    rw [exec, ← execF_eq k ann c]
    rfl
  | .loop c, p, fr, h => by
    rw [exec]
    show loopF k ann c (execF P call k ann c) p fr h = _
    unfold loopF
    have : execF P call k ann c (2 * p) = exec P call k ann (2 * p) c := by
      funext fr h
      exact execF_eq k ann c _ _ _
    rw [this]
  | .rangeFunc .., p, fr, h => by rw [exec]; rfl; all_goals (intros; simp_all)
  | .exit id, p, fr, h => by rw [exec]; rfl
  | .scope c, p, fr, h => by rw [exec]; rfl; all_goals (intros; simp_all)
  | .label l, p, fr, h => by rw [exec]; rfl
  | .goto l, p, fr, h => by rw [exec]; rfl; all_goals (intros; simp_all)
  | .ret, p, fr, h => by rw [exec]; rfl
  | .refuse w, p, fr, h => by rw [exec]; rfl; all_goals (intros; simp_all)

def endF (fn : Func) (r : Ex × Fr × Heap) : Option (AV × Heap) :=
  match r.1 with
  | .exit _ => none
  | _ => (resultsA P r.2.1 r.2.2 fn.results.toList).map fun l => (oneA l, r.2.2)
def bodyF (k : Nat) (ann : FuncId → Nat → List Nat) (f : FuncId) (args : List AV) (h : Heap) : Option (AV × Heap) :=
  (P.funcs[f]?).bind fun fn => fn.body.bind fun c =>
  (execF P call k (ann f) c 1 (args ++ List.replicate (fn.ntmps - args.length) .bot) h).bind (endF P fn)
theorem bodyF_eq (k : Nat) (ann : FuncId → Nat → List Nat) (f : FuncId) (args : List AV) (h : Heap) : bodyF P call k ann f args h = bodyA P call k ann f args h := by
  unfold bodyF bodyA
  congr 1
  funext fn
  congr 1
  funext c
  rw [execF_eq]
  congr 1
def primF (g : Option (List AV → Heap → Option (AV × Heap))) (b : List AV → Heap → Option (AV × Heap)) : List AV → Heap → Option (AV × Heap) :=
  match g with
  | some g => g
  | none => b
def callF (prim : FuncId → Option (List AV → Heap → Option (AV × Heap))) (ann : FuncId → Nat → List Nat) (n : Nat) : CallF :=
  Nat.rec (motive := fun _ => CallF) (fun _ _ _ => none) (fun k ih f => primF (prim f) (bodyF P ih k ann f)) n
theorem callF_eq (prim : FuncId → Option (List AV → Heap → Option (AV × Heap))) (ann : FuncId → Nat → List Nat) : ∀ n, callF P prim ann n = callN P prim ann n
  | 0 => by funext f args h; rw [callN]; rfl
  | k + 1 => by
    funext f args h
    rw [callN, ← callF_eq prim ann k]
    show primF (prim f) (bodyF P (callF P prim ann k) k ann f) args h = _
    unfold primF
    cases prim f with
    | some g => rfl
    | none => exact bodyF_eq P _ k ann f args h
end
end
end Go.Ab
