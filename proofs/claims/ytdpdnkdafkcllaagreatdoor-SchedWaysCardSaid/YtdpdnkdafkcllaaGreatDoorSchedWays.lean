/- SchedWays returns true, at every input. The condition is the card's own: the table of the standard library holds its numbers. -/
import Derived.Test.YtdpdnkdafkcllaaGreatDoorQuTab
import Derived.Test.YtdpdnkdafkcllaaGreatDoorFa
import Derived.Test.YtdpdnkdafkcllaaGreatDoorZtb
import Derived.Test.YtdpdnkdafkcllaaGreatDoorKit
namespace Go.Proofs.YtdpdnkdafkcllaaGreatDoor.schedWays
open Go.Ab Go.Ab.F Go.ChangeShapes Go.WideShapes Go.ChangeAt Go.RowKit
set_option linter.all false
open Go.Proofs.YtdpdnkdafkcllaaGreatDoor.qu
def tys:List Ty:=[(.sl (.int .i64)),(.sl (.int .i64)),(.sl .bool),(.sl (.st [(.int .i64),(.int .i64),(.int .i64)]))]
theorem look_law (avs:List AV)(h:Heap):lookT tab 4 avs h=p4 AR avs h:=by kernel_rfl
theorem isTrue_ok {x:Option (AV × Heap)}(h:Ok x fun r=>r.1 = .bool true):isTrue x=true:=by
 obtain⟨⟨v,g⟩,rfl,e⟩:=h
 simp only at e
 subst e;rfl
theorem run (h:Heap)(xs:List D)(avs:List AV)(ha:Args h tys xs avs)(hs:Sub hQ1 h)(hn:1≤h.next):isTrue (p4 AR avs h)=true:=by
 obtain⟨_,v0,_,_,rfl,r0,ha⟩:=ha.open
 obtain⟨_,v1,_,_,rfl,r1,ha⟩:=ha.open
 obtain⟨_,v2,_,_,rfl,r2,ha⟩:=ha.open
 obtain⟨_,v3,_,_,rfl,r3,ha⟩:=ha.open
 obtain rfl:=ha.shut
 obtain⟨rs,h0,_,_⟩:=rd_ints r0
 obtain⟨fl,h1,_,_⟩:=rd_ints r1
 obtain⟨sl,h2,_⟩:=rd_bools' r2
 obtain⟨xs,h3⟩:=rd_gos r3
 exact isTrue_ok (ways_true hs hn h0 h1 h2 h3)
theorem table {W:World}(h:laidMetH Tryz.prog Rows.schedWaysRow.laid W):Lib.TabIs Tryz.prog W "math/bits.deBruijn64tab" .u8 deb:=
 Lib.tabIs_of_head (rest:=[]) gTab gTabType Tryz.underlying236 Tryz.underlying5 cellsByte cellsTab h
set_option maxRecDepth 100000 in
theorem contract (H:Type)(enc:TypeId × Value→H)(W:World)(base:Nat)(args:Array Value)(ds gs:List (DataW H))(before:List MemPlace)
  (hval:∀ (j:Nat) t v,Tryz.f4.params[j]?=some t→args[j]?=some v→Value.okWide Tryz.prog W .any base t v)
  (hW:DataW.Whole enc Tryz.prog Tryz.f4.params.toList Rows.schedWaysSpec.vars false W args.toList ds gs before) (hL:laidMetH Tryz.prog Rows.schedWaysRow.laid W) :
  Calls Tryz.prog 4 args W fun e W'=>∃ v,e = .returned v∧Rows.schedWaysSpec.post enc Tryz.prog Tryz.f4 false true false false W args v W':=by
 have hW':=hW
 obtain⟨p,q,hA,hV,rfl,hfz,hnd⟩:=hW
 obtain⟨rfl,rfl⟩:=trodVars_none hV
 obtain⟨ρ',h',xs,avs,e,ha,hv⟩:=args_of (base:=base) tys Tryz.f4.params.toList args.toList ds p (by kernel_rfl) hA (fun j t v hj hv=>hval j t v (by simpa using hj) (by simpa using hv)) rho0 h0 (rel0 (table hL)) h0_ro
 have hsub:Sub hQ1 h':=fun i b hi=>by
  have hlt:i<h0.next:=(base1 oneGlobal).bnd i b hi
  rw [e.get i hlt];exact hi
 obtain⟨g,hg⟩:=isTrue_some (run h' xs avs ha hsub e.next)
 obtain⟨l1,l2⟩:=trodAll_len hA
 have l1:ds.length=4:=l1.trans (by kernel_rfl)
 have hlt:∀ x∈p,x.block<W.heap.size:=fun x hx=>hA.lt x hx
 refine((okTab 4 avs h' _ g (by rw [look_law];exact hg)).2 ρ' W args e.rel hv).mono ?_
 rintro e' W' ⟨v',ρ'',rfl,hv',hst⟩
 simp only [VR] at hv'
 subst hv'
 have hb:=trodAll_below fa1 (below_of hst.keeps e.ro) _ _ _ _ (by kernel_rfl) hA hlt
 rcases ds with _ | ⟨d0,_ | ⟨d1,_ | ⟨d2,_ | ⟨d3,_ | ⟨x,r⟩⟩⟩⟩⟩<;>simp at l1
 exact⟨_,rfl,_,[],_,_,_,[],hW',trodAll_cons_mk (shut_bool Tryz.underlying4 _) trodAll_mk0,hb,rfl,kept hst.keeps e.ro _,fun h=>by cases h⟩
theorem laid_met (os:Os):laidMet Tryz.prog Rows.schedWaysRow.laid (((laidWorld os)).forCall (fun _ _=>0) ⟨#[],(#[.slice none 0 0,.slice none 0 0,.slice none 0 0,.slice none 0 0]:Array Value),[]⟩).memory:=
 laidMet_of_run' 8 (by kernel_rfl) (by kernel_rfl)
theorem reads (os:Os){H:Type}(enc:TypeId × Value→H):∃ places,DataW.whole enc Tryz.prog (((laidWorld os)).forCall (fun _ _=>0) ⟨#[],(#[.slice none 0 0,.slice none 0 0,.slice none 0 0,.slice none 0 0]:Array Value),[]⟩).memory Tryz.f4.params.toList Rows.schedWaysSpec.vars false (#[.slice none 0 0,.slice none 0 0,.slice none 0 0,.slice none 0 0]:Array Value).toList 8=some ([.nil,.nil,.nil,.nil],[],places):=
 ⟨[],by kernel_rfl⟩
set_option maxRecDepth 100000 in
theorem lifted (os:Os)(started:os.Started)(H:Type)(enc:TypeId × Value→H)(F:Stop.Interp) :
  ReturnsInHanded {} Tryz.checked os 4 .any ((OpenSpec.ofChange Rows.schedWaysSpec).preRow enc Tryz.prog Tryz.f4 Rows.schedWaysRow.domain false Rows.schedWaysRow.laid) (((OpenSpec.ofChange Rows.schedWaysSpec).at F).post enc Tryz.prog Tryz.f4 false true false false):=by
 obtain⟨places,hx⟩:=reads os enc
 refine returnsInHanded_of_row (C:=Tryz.checked) (s:=OpenSpec.ofChange Rows.schedWaysSpec) own started (by kernel_rfl) Tryz.func4
  (witness_row_at (enc:=enc) (C:=Tryz.checked) false (laidWorld os) (#[.slice none 0 0,.slice none 0 0,.slice none 0 0,.slice none 0 0]:Array Value) rfl (by kernel_rfl) (by kernel_rfl) (by kernel_rfl)
   (OpenSpec.preRow_of_cond 8 hx (by kernel_rfl) (fun k hk=>by cases hk) (by kernel_rfl) (laid_met os))) ?_
 intro W base args ds gs before hval hW _ _ hz hL _ _
 exact contract H enc W base args ds gs before hval hW hL
theorem and_t {a b:Bool}(h:a=true)(h':b=true):(a && b)=true:=by rw [h,h'];rfl
theorem j0:(Rows.schedWaysRow.wf (OpenSpec.ofChange (OpenSpec.ofChange Rows.schedWaysSpec).bare))=true:=by kernel_rfl
theorem j1:(laidOutB Tryz.pinned.checked.prog)=true:=fa1
theorem j2:(mapsRowed Tryz.pinned.checked.prog)=true:=by kernel_rfl
theorem j3:(Tryz.f4.params.all (Tryz.pinned.checked.prog.readableRec ·))=true:=by kernel_rfl
theorem j4:(namedTie Tryz.pinned.checked.prog Rows.schedWaysRow.named (OpenSpec.ofChange Rows.schedWaysSpec).bare.vars)=true:=by kernel_rfl
theorem j5:((Rows.schedWaysRow.stops == []))=true:=by kernel_rfl
theorem j6:((Tryz.pinned.checked.prog.stops == []))=true:=by kernel_rfl
theorem j7:((Rows.schedWaysRow.knobs == []))=true:=by kernel_rfl
theorem j8:((Tryz.pinned.checked.prog.stopKnobs == []))=true:=by kernel_rfl
theorem j9:((Rows.schedWaysRow.inPlace == Tryz.pinned.checked.prog.inPlace 4))=true:=by kernel_rfl
theorem j10:((Rows.schedWaysRow.unfollowed == Tryz.pinned.checked.prog.unfollowed 4))=true:=by kernel_rfl
theorem j11:((Rows.schedWaysRow.recurses == Tryz.pinned.checked.prog.recurses 4))=true:=by kernel_rfl
theorem j12:((Rows.schedWaysRow.named == Tryz.pinned.checked.prog.varsNamed 4))=true:=by kernel_rfl
theorem j13:((Rows.schedWaysRow.maps == (Tryz.f4.params.toList++(OpenSpec.ofChange Rows.schedWaysSpec).bare.plain.varTypes Tryz.pinned.checked.prog).any (Tryz.pinned.checked.prog.mapsRec ·)))=true:=by kernel_rfl
theorem j14:((Rows.schedWaysRow.ifaces == (Tryz.f4.params.toList++(OpenSpec.ofChange Rows.schedWaysSpec).bare.plain.varTypes Tryz.pinned.checked.prog).any (Tryz.pinned.checked.prog.ifacesRec ·)))=true:=by kernel_rfl
theorem j15:((Rows.schedWaysRow.mapsOut == Tryz.pinned.checked.prog.mapsAmong Tryz.f4.resultTypes.toList))=true:=by kernel_rfl
theorem j16:((Rows.schedWaysRow.loops == (Tryz.f4.params.toList++(OpenSpec.ofChange Rows.schedWaysSpec).bare.plain.varTypes Tryz.pinned.checked.prog).any (Tryz.pinned.checked.prog.loopsFrom ·)))=true:=by kernel_rfl
theorem j17:((Rows.schedWaysRow.wideKeys == (Tryz.f4.params.toList++(OpenSpec.ofChange Rows.schedWaysSpec).bare.plain.varTypes Tryz.pinned.checked.prog++Tryz.f4.resultTypes.toList).any (Tryz.pinned.checked.prog.wideKeysFrom ·)))=true:=by kernel_rfl
theorem j18:((OpenSpec.ofChange Rows.schedWaysSpec).bare.vars.all (Tryz.pinned.checked.prog.varReadable ·))=true:=by kernel_rfl
theorem j19:(Tryz.f4.resultTypes.all (fun t=>Tryz.pinned.checked.prog.readableRec t && decide (t<Tryz.pinned.checked.prog.types.size)))=true:=by kernel_rfl
theorem j20:((Rows.schedWaysRow.ifacesOut == Tryz.f4.resultTypes.toList.any (Tryz.pinned.checked.prog.ifacesRec ·)))=true:=by kernel_rfl
theorem j21:((Rows.schedWaysRow.loopsOut == Tryz.f4.resultTypes.toList.any (Tryz.pinned.checked.prog.loopsFrom ·)))=true:=by kernel_rfl
theorem j22:((Rows.schedWaysRow.plainKeys == Tryz.pinned.checked.prog.plainKeys))=true:=by kernel_rfl
theorem j23:(Rows.schedWaysRow.shortTexts.isNone)=true:=by kernel_rfl
theorem j24:(Tryz.pinned.checked.prog.stopsHeard)=true:=by kernel_rfl
theorem j25:(Tryz.pinned.checked.prog.mayEnter)=true:=fa25
theorem j26:((Rows.schedWaysRow.lifted == Tryz.pinned.checked.prog.liftsFinal))=true:=by rw [fa26];kernel_rfl
theorem j27:((Tryz.pinned.checked.prog.make == some Rows.schedWaysRow.make))=true:=by rw [fa27];kernel_rfl
theorem j28:((Rows.schedWaysRow.kinds == (if Rows.schedWaysRow.domain.isEmpty then [] else Tryz.f4.params.toList.map fun t=>match Tryz.pinned.checked.prog.underlying t with | some (.int k)=>some k | _=>none)))=true:=by kernel_rfl
theorem j29:((Rows.schedWaysRow.pinned == Rows.schedWaysRow.pinnedBy))=true:=by kernel_rfl
theorem j30:((Rows.schedWaysRow.veiled == (Tryz.f4.params.toList++(OpenSpec.ofChange Rows.schedWaysSpec).bare.plain.varTypes Tryz.pinned.checked.prog++Tryz.f4.resultTypes.toList).any (Tryz.pinned.checked.prog.veiledRec ·)))=true:=by kernel_rfl
theorem j31:(Rows.schedWaysRow.veiledFits Tryz.pinned.checked.prog Tryz.f4.params.toList (Tryz.f4.params.toList++(OpenSpec.ofChange Rows.schedWaysSpec).bare.plain.varTypes Tryz.pinned.checked.prog++Tryz.f4.resultTypes.toList))=true:=by kernel_rfl
set_option maxRecDepth 100000 in
theorem joined:joinedFacts Tryz.pinned.checked.prog 4 Tryz.f4 (OpenSpec.ofChange Rows.schedWaysSpec).bare Rows.schedWaysRow=true:=(and_t (and_t (and_t (and_t (and_t (and_t (and_t (and_t (and_t (and_t (and_t (and_t (and_t (and_t (and_t (and_t (and_t (and_t (and_t (and_t (and_t (and_t (and_t (and_t (and_t (and_t (and_t (and_t (and_t (and_t (and_t j0 j1) j2) j3) j4) j5) j6) j7) j8) j9) j10) j11) j12) j13) j14) j15) j16) j17) j18) j19) j20) j21) j22) j23) j24) j25) j26) j27) j28) j29) j30) j31)
theorem said:Rows.SchedWaysSaid:=
 OpenClaim.holds_of_cond 4 Tryz.f4 rfl rfl rfl rfl rfl rfl rfl ⟨rfl,rfl,rfl,rfl,rfl⟩ rfl rfl rfl rfl rfl (by kernel_rfl) Tryz.func4 joined
  (of_decide_eq_true (by kernel_rfl)) (by unfold Func.isWrapper;first | (rw [if_pos (by decide +kernel)];kernel_rfl) | (rw [if_neg (by decide +kernel)];exact⟨rfl,rfl⟩))
  (fun os started H enc _ F=>by rw [OpenClaim.pre_eq_preRow];exact lifted os started H enc F)
theorem plain (f:FuncId)(fn:Func)(hf:Tryz.pinned.checked.prog.funcNamed "gantline/gantlinelaw16.SchedWays" = some f) (hfn:Tryz.pinned.checked.prog.funcs[f]?=some fn) :
  false=Tryz.pinned.checked.prog.looks []∧∀ (j:Nat) t,fn.params[j]?=some t→Tryz.pinned.checked.prog.wantsStandIn t=false:=by
 obtain rfl:f=4:=Option.some.inj ((show Tryz.prog.funcNamed "gantline/gantlinelaw16.SchedWays" = some 4 by kernel_rfl).symm.trans hf) |>.symm
 obtain rfl:fn=Tryz.f4:=(Option.some.inj (Tryz.func4.symm.trans hfn)).symm
 refine⟨by kernel_rfl,fun j t ht=>?_⟩
 have hall:(Tryz.f4.params.toList.all fun t=>!Tryz.pinned.checked.prog.wantsStandIn t)=true:=by kernel_rfl
 have hm:=List.all_eq_true.1 hall t (by have:=Array.mem_of_getElem? ht;simpa using this)
 simpa using hm
end Go.Proofs.YtdpdnkdafkcllaaGreatDoor.schedWays
namespace Go.Proofs.YtdpdnkdafkcllaaGreatDoor
theorem schedWays_card:Rows.SchedWaysCardSaid:=
 Claim7.holds_tied_plain_at .later [] _ _ _ _ schedWays.said (fun _ h=>by cases h) (by kernel_rfl) (fun _ h=>by cases h) schedWays_row_tie rfl ⟨rfl,rfl⟩ (by kernel_rfl) rfl schedWays.plain (by kernel_rfl)
end Go.Proofs.YtdpdnkdafkcllaaGreatDoor
