/- VerifyParts returns true, at every input; no condition. -/
import Derived.Test.YtdmgkkcjnmmfmaaGreatQuTab
import Derived.Test.YtdmgkkcjnmmfmaaGreatFa
import Derived.Test.YtdmgkkcjnmmfmaaGreatVma
import Derived.Test.YtdmgkkcjnmmfmaaGreatKit
namespace Go.Proofs.YtdmgkkcjnmmfmaaGreat.verifyParts
open Go.Ab Go.Ab.F Go.ChangeShapes Go.WideShapes Go.ChangeAt Go.RowKit
set_option linter.all false
open Go.Proofs.YtdmgkkcjnmmfmaaGreat.qu
def tys:List Ty:=[(.st [(.sl (.st [(.int .i64),(.int .i64),(.int .u64)])),(.sl .bool),(.sl (.int .i64)),(.sl (.st [(.int .i64),(.int .i64),(.int .i64),(.int .i64)])),(.sl (.st [(.int .i64),(.int .i64),(.int .i64),(.int .i64),(.sl .bool),(.sl (.st [(.int .i64),(.int .i64),(.int .i64),(.int .i64),(.int .i64)])),(.sl (.int .u64))])),(.int .i64)]),(.int .i64),.bool]
theorem look_law (avs:List AV)(h:Heap):lookT tab 5 avs h=p3 CY avs h:=by kernel_rfl
theorem isTrue_ok {x:Option (AV × Heap)}(h:Ok x fun r=>r.1 = .bool true):isTrue x=true:=by
 obtain⟨⟨v,g⟩,rfl,e⟩:=h
 simp only at e
 subst e;rfl
theorem args_step {h:Heap}{τ:Ty}{τs:List Ty}{xs:List D}{avs:List AV}(ha:Args h (τ::τs) xs avs):∃ x vs xs' avs',avs=argAV τ vs::avs'∧Rep h τ x vs∧vs.length=τ.size∧Args h τs xs' avs':=by
 cases xs with
 | nil=>cases avs<;>simp [Args] at ha
 | cons x xs=>
  cases avs with
  | nil=>simp [Args] at ha
  | cons a avs=>
   simp only [Args] at ha
   obtain⟨⟨vs,h1,h2,rfl⟩,h3⟩:=ha
   exact⟨x,vs,xs,avs,rfl,h1,h2,h3⟩
theorem run (h:Heap)(xs:List D)(avs:List AV)(ha:Args h tys xs avs)(hs:Sub hQ0 h)(hn:0≤h.next):isTrue (p3 CY avs h)=true:=by
 obtain⟨x0,v0,xs,avs,rfl,r0,l0,ha⟩:=args_step ha
 obtain⟨x1,v1,xs,avs,rfl,r1,l1,ha⟩:=args_step ha
 obtain⟨x2,v2,xs,avs,rfl,r2,l2,ha⟩:=args_step ha
 obtain rfl:=ha.shut
 obtain⟨m,H,shs,hs,hsw⟩:=Q0 l0 r0
 obtain⟨n,hn1,hc⟩:=R8 r1
 obtain⟨b,hn2⟩:=Rj r2
 rw [hn1,hn2]
 exact isTrue_ok (Kx H hs hsw hc fun g s=>PG fun i b hb=>by cases hb)
set_option maxRecDepth 100000 in
theorem contract (H:Type)(enc:TypeId × Value→H)(W:World)(base:Nat)(args:Array Value)(ds gs:List (DataW H))(before:List MemPlace)
  (hval:∀ (j:Nat) t v,Tryz.f5.params[j]?=some t→args[j]?=some v→Value.okWide Tryz.prog W .any base t v)
  (hW:DataW.Whole enc Tryz.prog Tryz.f5.params.toList Rows.verifyPartsSpec.vars false W args.toList ds gs before) :
  Calls Tryz.prog 5 args W fun e W'=>∃ v,e = .returned v∧Rows.verifyPartsSpec.post enc Tryz.prog Tryz.f5 false true false false W args v W':=by
 have hW':=hW
 obtain⟨p,q,hA,hV,rfl,hfz,hnd⟩:=hW
 obtain⟨rfl,rfl⟩:=trodVars_none hV
 obtain⟨ρ',h',xs,avs,e,ha,hv⟩:=Pq (base:=base) tys Tryz.f5.params.toList args.toList ds p (by kernel_rfl) hA (fun j t v hj hv=>hval j t v (by simpa using hj) (by simpa using hv)) rho0 h0 (rel0 W) TD
 have hsub:Sub hQ0 h':=fun i b hi=>by
  have hlt:i<h0.next:=by cases hi
  rw [e.get i hlt];exact hi
 obtain⟨g,hg⟩:=J8 (run h' xs avs ha hsub e.next)
 obtain⟨l1,l2⟩:=J3 hA
 have l1:ds.length=3:=l1.trans (by kernel_rfl)
 have hlt:∀ x∈p,x.block<W.heap.size:=fun x hx=>hA.lt x hx
 refine((okTab 5 avs h' _ g (by rw [look_law];exact hg)).2 ρ' W args e.rel hv).mono ?_
 rintro e' W' ⟨v',ρ'',rfl,hv',hst⟩
 simp only [VR] at hv'
 subst hv'
 have hb:=Iz fa1 (QM hst.keeps e.ro) _ _ _ _ (by kernel_rfl) hA hlt
 rcases ds with _ | ⟨d0,_ | ⟨d1,_ | ⟨d2,_ | ⟨x,r⟩⟩⟩⟩<;>simp at l1
 exact⟨_,rfl,_,[],_,_,_,[],hW',trodAll_cons_mk (shut_bool Tryz.underlying4 _) trodAll_mk0,hb,rfl,kept hst.keeps e.ro _,fun h=>by cases h⟩
theorem laid_met (os:Os):laidMet Tryz.prog Rows.verifyPartsRow.laid (((World.holding Tryz.prog os ⟨#[],#[],[]⟩)).forCall (fun _ _=>0) ⟨#[],(#[.agg #[.slice none 0 0,.slice none 0 0,.slice none 0 0,.slice none 0 0,.slice none 0 0,.int .i64 0],.int .i64 0,.bool false]:Array Value),[]⟩).memory:=
 laidMet_of_run' 8 (by kernel_rfl) (by kernel_rfl)
theorem reads (os:Os){H:Type}(enc:TypeId × Value→H):∃ places,DataW.whole enc Tryz.prog (((World.holding Tryz.prog os ⟨#[],#[],[]⟩)).forCall (fun _ _=>0) ⟨#[],(#[.agg #[.slice none 0 0,.slice none 0 0,.slice none 0 0,.slice none 0 0,.slice none 0 0,.int .i64 0],.int .i64 0,.bool false]:Array Value),[]⟩).memory Tryz.f5.params.toList Rows.verifyPartsSpec.vars false (#[.agg #[.slice none 0 0,.slice none 0 0,.slice none 0 0,.slice none 0 0,.slice none 0 0,.int .i64 0],.int .i64 0,.bool false]:Array Value).toList 8=some ([.agg [.nil,.nil,.nil,.nil,.nil,.lit (.int .i64 0)],.lit (.int .i64 0),.lit (.bool false)],[],places):=
 ⟨[],by kernel_rfl⟩
set_option maxRecDepth 100000 in
theorem lifted (os:Os)(started:os.Started)(H:Type)(enc:TypeId × Value→H)(F:Stop.Interp) :
  ReturnsInHanded {} Tryz.checked os 5 .any ((OpenSpec.ofChange Rows.verifyPartsSpec).preRow enc Tryz.prog Tryz.f5 Rows.verifyPartsRow.domain false Rows.verifyPartsRow.laid) (((OpenSpec.ofChange Rows.verifyPartsSpec).at F).post enc Tryz.prog Tryz.f5 false true false false):=by
 obtain⟨places,hx⟩:=reads os enc
 refine returnsInHanded_of_row (C:=Tryz.checked) (s:=OpenSpec.ofChange Rows.verifyPartsSpec) own started (by kernel_rfl) Tryz.func5
  (witness_row_at (enc:=enc) (C:=Tryz.checked) false (World.holding Tryz.prog os ⟨#[],#[],[]⟩) (#[.agg #[.slice none 0 0,.slice none 0 0,.slice none 0 0,.slice none 0 0,.slice none 0 0,.int .i64 0],.int .i64 0,.bool false]:Array Value) rfl (by kernel_rfl) (by kernel_rfl) (by kernel_rfl)
   (OpenSpec.preRow_of_cond 8 hx (by kernel_rfl) (fun k hk=>by cases hk) (by kernel_rfl) (laid_met os))) ?_
 intro W base args ds gs before hval hW _ _ hz hL _ _
 exact contract H enc W base args ds gs before hval hW
theorem and_t {a b:Bool}(h:a=true)(h':b=true):(a && b)=true:=by rw [h,h'];rfl
theorem j0:(Rows.verifyPartsRow.wf (OpenSpec.ofChange (OpenSpec.ofChange Rows.verifyPartsSpec).bare))=true:=by kernel_rfl
theorem j1:(laidOutB Tryz.pinned.checked.prog)=true:=fa1
theorem j2:(mapsRowed Tryz.pinned.checked.prog)=true:=by kernel_rfl
theorem j3:(Tryz.f5.params.all (Tryz.pinned.checked.prog.readableRec ·))=true:=by kernel_rfl
theorem j4:(namedTie Tryz.pinned.checked.prog Rows.verifyPartsRow.named (OpenSpec.ofChange Rows.verifyPartsSpec).bare.vars)=true:=by kernel_rfl
theorem j5:((Rows.verifyPartsRow.stops == []))=true:=by kernel_rfl
theorem j6:((Tryz.pinned.checked.prog.stops == []))=true:=by kernel_rfl
theorem j7:((Rows.verifyPartsRow.knobs == []))=true:=by kernel_rfl
theorem j8:((Tryz.pinned.checked.prog.stopKnobs == []))=true:=by kernel_rfl
theorem j9:((Rows.verifyPartsRow.inPlace == Tryz.pinned.checked.prog.inPlace 5))=true:=by kernel_rfl
theorem j10:((Rows.verifyPartsRow.unfollowed == Tryz.pinned.checked.prog.unfollowed 5))=true:=by kernel_rfl
theorem j11:((Rows.verifyPartsRow.recurses == Tryz.pinned.checked.prog.recurses 5))=true:=by kernel_rfl
theorem j12:((Rows.verifyPartsRow.named == Tryz.pinned.checked.prog.varsNamed 5))=true:=by kernel_rfl
theorem j13:((Rows.verifyPartsRow.maps == (Tryz.f5.params.toList++(OpenSpec.ofChange Rows.verifyPartsSpec).bare.plain.varTypes Tryz.pinned.checked.prog).any (Tryz.pinned.checked.prog.mapsRec ·)))=true:=by kernel_rfl
theorem j14:((Rows.verifyPartsRow.ifaces == (Tryz.f5.params.toList++(OpenSpec.ofChange Rows.verifyPartsSpec).bare.plain.varTypes Tryz.pinned.checked.prog).any (Tryz.pinned.checked.prog.ifacesRec ·)))=true:=by kernel_rfl
theorem j15:((Rows.verifyPartsRow.mapsOut == Tryz.pinned.checked.prog.mapsAmong Tryz.f5.resultTypes.toList))=true:=by kernel_rfl
theorem j16:((Rows.verifyPartsRow.loops == (Tryz.f5.params.toList++(OpenSpec.ofChange Rows.verifyPartsSpec).bare.plain.varTypes Tryz.pinned.checked.prog).any (Tryz.pinned.checked.prog.loopsFrom ·)))=true:=by kernel_rfl
theorem j17:((Rows.verifyPartsRow.wideKeys == (Tryz.f5.params.toList++(OpenSpec.ofChange Rows.verifyPartsSpec).bare.plain.varTypes Tryz.pinned.checked.prog++Tryz.f5.resultTypes.toList).any (Tryz.pinned.checked.prog.wideKeysFrom ·)))=true:=by kernel_rfl
theorem j18:((OpenSpec.ofChange Rows.verifyPartsSpec).bare.vars.all (Tryz.pinned.checked.prog.varReadable ·))=true:=by kernel_rfl
theorem j19:(Tryz.f5.resultTypes.all (fun t=>Tryz.pinned.checked.prog.readableRec t && decide (t<Tryz.pinned.checked.prog.types.size)))=true:=by kernel_rfl
theorem j20:((Rows.verifyPartsRow.ifacesOut == Tryz.f5.resultTypes.toList.any (Tryz.pinned.checked.prog.ifacesRec ·)))=true:=by kernel_rfl
theorem j21:((Rows.verifyPartsRow.loopsOut == Tryz.f5.resultTypes.toList.any (Tryz.pinned.checked.prog.loopsFrom ·)))=true:=by kernel_rfl
theorem j22:((Rows.verifyPartsRow.plainKeys == Tryz.pinned.checked.prog.plainKeys))=true:=by kernel_rfl
theorem j23:(Rows.verifyPartsRow.shortTexts.isNone)=true:=by kernel_rfl
theorem j24:(Tryz.pinned.checked.prog.stopsHeard)=true:=by kernel_rfl
theorem j25:(Tryz.pinned.checked.prog.mayEnter)=true:=fa25
theorem j26:((Rows.verifyPartsRow.lifted == Tryz.pinned.checked.prog.liftsFinal))=true:=by rw [fa26];kernel_rfl
theorem j27:((Tryz.pinned.checked.prog.make == some Rows.verifyPartsRow.make))=true:=by rw [fa27];kernel_rfl
theorem j28:((Rows.verifyPartsRow.kinds == (if Rows.verifyPartsRow.domain.isEmpty then [] else Tryz.f5.params.toList.map fun t=>match Tryz.pinned.checked.prog.underlying t with | some (.int k)=>some k | _=>none)))=true:=by kernel_rfl
theorem j29:((Rows.verifyPartsRow.pinned == Rows.verifyPartsRow.pinnedBy))=true:=by kernel_rfl
theorem j30:((Rows.verifyPartsRow.veiled == (Tryz.f5.params.toList++(OpenSpec.ofChange Rows.verifyPartsSpec).bare.plain.varTypes Tryz.pinned.checked.prog++Tryz.f5.resultTypes.toList).any (Tryz.pinned.checked.prog.veiledRec ·)))=true:=by kernel_rfl
theorem j31:(Rows.verifyPartsRow.veiledFits Tryz.pinned.checked.prog Tryz.f5.params.toList (Tryz.f5.params.toList++(OpenSpec.ofChange Rows.verifyPartsSpec).bare.plain.varTypes Tryz.pinned.checked.prog++Tryz.f5.resultTypes.toList))=true:=by kernel_rfl
set_option maxRecDepth 100000 in
theorem joined:joinedFacts Tryz.pinned.checked.prog 5 Tryz.f5 (OpenSpec.ofChange Rows.verifyPartsSpec).bare Rows.verifyPartsRow=true:=(and_t (and_t (and_t (and_t (and_t (and_t (and_t (and_t (and_t (and_t (and_t (and_t (and_t (and_t (and_t (and_t (and_t (and_t (and_t (and_t (and_t (and_t (and_t (and_t (and_t (and_t (and_t (and_t (and_t (and_t (and_t j0 j1) j2) j3) j4) j5) j6) j7) j8) j9) j10) j11) j12) j13) j14) j15) j16) j17) j18) j19) j20) j21) j22) j23) j24) j25) j26) j27) j28) j29) j30) j31)
theorem said:Rows.VerifyPartsSaid:=
 OpenClaim.holds_of_cond 5 Tryz.f5 rfl rfl rfl rfl rfl rfl rfl ⟨rfl,rfl,rfl,rfl,rfl⟩ rfl rfl rfl rfl rfl (by kernel_rfl) Tryz.func5 joined
  (of_decide_eq_true (by kernel_rfl)) (by unfold Func.isWrapper;first | (rw [if_pos (by decide +kernel)];kernel_rfl) | (rw [if_neg (by decide +kernel)];exact⟨rfl,rfl⟩))
  (fun os started H enc _ F=>by rw [OpenClaim.pre_eq_preRow];exact lifted os started H enc F)
end Go.Proofs.YtdmgkkcjnmmfmaaGreat.verifyParts
namespace Go.Proofs.YtdmgkkcjnmmfmaaGreat
theorem verifyParts_holds:Rows.VerifyPartsSaid:=verifyParts.said
end Go.Proofs.YtdmgkkcjnmmfmaaGreat
