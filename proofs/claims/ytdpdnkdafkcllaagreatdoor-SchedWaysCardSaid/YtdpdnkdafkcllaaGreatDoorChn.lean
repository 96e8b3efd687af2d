import Derived.Test.YtdpdnkdafkcllaaGreatDoorHea
import Derived.Test.YtdpdnkdafkcllaaGreatDoorKit
import Derived.Test.YtdpdnkdafkcllaaGreatDoorObj
import Derived.Test.YtdpdnkdafkcllaaGreatDoorArn
namespace Go.Ab.F
open Go Go.Ab
set_option linter.all false
set_option linter.all false
attribute [local congr] c_bind c_cl c_mk c_lp c_clC c_gQ c_gV c_condE c_thenK
theorem ofP_lies {a:PAr}{T:List Shp}{ad:Int}{ws:List Int}{n k:Int}{sx:Nat}{s:Shp}(W:Wf a)(L:Lies a ad ws)(h0:ws[0]?=some (n+128*k+1024*sx))(hm:mayP n k sx)(hs:T[sx]?=some s) :
  ofP a T ad=some ((n,k,(sx:Int)),s):=by
 have hp:=L.pos W
 have hr:a.read ad 0=(n+128*k+1024*sx,0):=by
  rw [L.read W,if_pos ⟨by omega,by omega⟩]
  simp [h0]
 unfold ofP
 rw [hr]
 simp only [if_true,unp_pack hm,Int.toNat_natCast,hs]
theorem ofP_none {a:PAr}{T:List Shp}{ad:Int}(h:a.find ad=none):ofP a T ad=none:=by
 unfold ofP
 rw [read_no h]
 rfl
theorem ok_pos {R:Type}{x:Option R}{c:Prop} [Decidable c] {P Q:R→Prop}(hc:c)(h:Ok x P):Ok x fun r=>if c then P r else Q r:=h.mono fun r hr=>by rw [if_pos hc];exact hr
theorem ok_neg {R:Type}{x:Option R}{c:Prop} [Decidable c] {P Q:R→Prop}(hc : ¬ c)(h:Ok x Q):Ok x fun r=>if c then P r else Q r:=h.mono fun r hr=>by rw [if_neg hc];exact hr
structure Wrote (l l':PAl)(ad:Int)(ws':List Int):Prop where
 sp:l'.ar.sp=l.ar.sp
 un:l'.un=l.un
 lies:Lies l'.ar ad ws'
 old:∀ ad' ws,ad'≠ad→Lies l.ar ad' ws→Lies l'.ar ad' ws
theorem Wrote.refl {l:PAl}{ad:Int}{ws:List Int}(L:Lies l.ar ad ws):Wrote l l ad ws:=⟨rfl,rfl,L,fun _ _ _ h=>h⟩
theorem Wrote.trans {l l' l'':PAl}{ad:Int}{ws ws':List Int}(a:Wrote l l' ad ws)(b:Wrote l' l'' ad ws'):Wrote l l'' ad ws':=
 ⟨b.sp.trans a.sp,b.un.trans a.un,b.lies,fun x ws hx L=>b.old x ws hx (a.old x ws hx L)⟩
structure Chan where
 room:Int
 count:Int
 first:Int
 closed:Int
 slots:List Int
structure ChOk (c:Chan):Prop where
 r0:0≤c.room
 r1:c.room≤59
 c0:0≤c.count
 c1:c.count≤c.room
 f0:0≤c.first
 f1:c.first≤59
 f2:0<c.room→c.first<c.room
 cl:c.closed=0∨c.closed=1
 len:(c.slots.length:Int)=c.room
def cws (c:Chan)(hd:Int)(rest:List Int):List Int:=hd::c.room::c.count::c.first::c.closed::(c.slots++rest)
structure ChAt (a:PAr)(T:List Shp)(ad:Int)(c:Chan)(adr:Bool)(sx:Nat)(rest:List Int):Prop where
 lies:Lies a ad (cws c (c.room+5+128 * 3+1024*sx) rest)
 ok:ChOk c
 sh:∃ s,T[sx]?=some s∧s.map.getLsbD 0=adr
 sx:sx < 60000
theorem ChAt.may {a:PAr}{T:List Shp}{ad:Int}{c:Chan}{adr:Bool}{sx:Nat}{rest:List Int}(C:ChAt a T ad c adr sx rest):mayP (c.room+5) 3 sx:=by
 have:=C.ok.r0
 have:=C.ok.r1
 have:=C.sx
 exact⟨by omega,by omega,by omega,by omega,by omega,by omega⟩
def isP (o:Option ((Int × Int × Int) × Shp)):Bool × Bool:=match o with
 | none=>(false,false)
 | some (x,s)=>(decide (x.2.1=3),s.map.getLsbD 0)
theorem ChAt.isP {a:PAr}{T:List Shp}{ad:Int}{c:Chan}{adr:Bool}{sx:Nat}{rest:List Int}(C:ChAt a T ad c adr sx rest)(W:Wf a):isP (ofP a T ad)=(true,adr):=by
 obtain⟨s,hs,hb⟩:=C.sh
 rw [ofP_lies W C.lies rfl C.may hs]
 show(decide ((3:Int)=3),s.map.getLsbD 0)=_
 rw [hb];rfl
section
variable {h:Heap}{A:Nat→Nat}{l:PAl}{T:List Shp}{F:Int}
theorem is_ok (H:HpAt h A l T F)(ad:Int):Ok (Bb (.ptr (some (A 0,0))) (.int .i64 ad) h) fun r=>r.1 = .tup [.bool (isP (ofP l.ar T ad)).1,.bool (isP (ofP l.ar T ad)).2]∧Same [] h r.2:=by
 refine Ok.eq ?_ (by unfold Bb;rfl)
 refine ok_cl (of_ok H ad) ?_
 rintro _ g1 ⟨rfl,s1⟩
 simp only at s1
 generalize ofP l.ar T ad=o at *
 rw [ofV_eq]
 refine Ok.eq ?_ (by simp -implicitDefEqProofs only [extractV_tup,e0,e1,e2,Option.bind_some]<;>rfl)
 refine ok_two (n:=3) rfl rfl (hdOf_len o) rfl (hdOf_sc o) rfl fun g2 s2 n2 p1 p2=>?_
 have ss:=s1.trans s2
 cases o with
 | none=>
  have p2':g2.get (g1.next+1)=some (.cells true shpZ.row):=p2
  have lm:ldS g2 (.ptr (some (g1.next+1,0+2)))=some (.int .u64 (shpZ.map.toNat:Nat)):=by rw [ldS_at p2'];rfl
  have z:shpZ.map.getLsbD 0=false:=rfl
  exact ok_val (by simp -implicitDefEqProofs only [Option.isSome_none,gdW_ft,gV_false,Option.bind_some,pickP_bool,Bool.false_eq_true,if_false,faP_ptr,lm,and_u64,ofInt_toNat,eql_int,and_one,z,chk_nil]<;>rfl) ⟨rfl,ss⟩
 | some y=>
  obtain⟨⟨n,k,c⟩,s⟩:=y
  have p1':g2.get g1.next=some (.cells true (hdC n k c)):=p1
  have p2':g2.get (g1.next+1)=some (.cells true s.row):=p2
  have lk:ldS g2 (.ptr (some (g1.next,0+1)))=some (.int .i64 k):=by rw [ldS_at p1'];rfl
  have lm:ldS g2 (.ptr (some (g1.next+1,0+2)))=some (.int .u64 s.map.toNat):=by rw [ldS_at p2'];rfl
  exact ok_val (by simp -implicitDefEqProofs only [Option.isSome_some,gdW_tt,gV_true,Option.bind_some,pickP_bool,if_true,faP_ptr,lk,lm,and_u64,ofInt_toNat,eql_int,and_one,chk_nil]<;>rfl) ⟨rfl,ss⟩
theorem cget_eq (H:HpAt h A l T F){ad:Int}{ws:List Int}(L:Lies l.ar ad ws){f:Nat}{x:Int}(hx:ws[f+1]?=some x):Bf (.ptr (some (A 0,0))) (.int .i64 ad) (.int .i64 (f:Int)) h=some (.int .i64 x,h):=by
 have hp:=L.pos H.wf
 have hl:=(List.getElem?_eq_some_iff.1 hx).1
 have hw:IntKind.i64.wrap ((f:Int)+1)=(f:Int)+1:=wrap_i64 (by omega) (by omega)
 have hr:=L.read H.wf ((f:Int)+1)
 rw [if_pos ⟨by omega,by omega⟩,show((f:Int)+1).toNat=f+1 by omega,hx] at hr
 simp -implicitDefEqProofs only [Bf,hcycle_eq H,carena_eq H,cl_some,bin_add,hw,Option.bind_some,read_eq H.al.ar,hr,extractV_tup,e0,e1,Option.getD_some]
theorem cset_ok (H:HpAt h A l T F){ad:Int}{ws:List Int}(L:Lies l.ar ad ws){f:Nat}(hf:f+1<ws.length)(v:Int):Ok (Bw (.ptr (some (A 0,0))) (.int .i64 ad) (.int .i64 (f:Int)) (.int .i64 v) h) fun r=>
  r.1 = .tup []∧∃ l',HpAt r.2 A l' T F∧Same [A 7] h r.2∧Wrote l l' ad (ws.set (f+1) v):=by
 have hp:=L.pos H.wf
 have hw:IntKind.i64.wrap ((f:Int)+1)=(f:Int)+1:=wrap_i64 (by omega) (by omega)
 obtain⟨b,eb,wb,bs,lb,lo⟩:=L.write H.wf (k:=(f:Int)+1) ⟨by omega,by omega⟩ v
 refine Ok.eq ?_ (by simp -implicitDefEqProofs only [Bw,hcycle_eq H,carena_eq H,cl_some,bin_add,hw,Option.bind_some]<;>rfl)
 refine ok_cl (write_ok H.al.ar ad ((f:Int)+1) v) ?_
 rintro _ g ⟨-,a,s⟩
 simp only at a s
 have H1:=H.wrote s a
 rw [eb] at H1
 rw [show((f:Int)+1).toNat=f+1 by omega] at lb
 exact ok_val rfl ⟨rfl,_,H1,s,bs,rfl,lb,lo⟩
section
variable {ad:Int}{c:Chan}{adr:Bool}{sx:Nat}{rest:List Int}
theorem room_ok (H:HpAt h A l T F)(C:ChAt l.ar T ad c adr sx rest):Ok (BM (.ptr (some (A 0,0))) (.int .i64 ad) h) fun r=>r.1 = .int .i64 c.room∧Same [] h r.2:=by
 refine Ok.eq ?_ (by unfold BM;rfl)
 refine ok_cl (is_ok H ad) ?_
 rintro _ g ⟨rfl,s⟩
 simp only at s
 rw [C.isP H.wf]
 have G:=H.keep s
 have cg:=cget_eq G C.lies (f:=0) (x:=c.room) rfl
 rw [show((0:Nat):Int)=0 from rfl] at cg
 exact ok_val (by simp -implicitDefEqProofs only [extractV_tup,e0,e1,Option.bind_some,un_not,Bool.not_true,condE_false,cg,cl_some]<;>rfl) ⟨rfl,s⟩
theorem count_ok (H:HpAt h A l T F)(C:ChAt l.ar T ad c adr sx rest):Ok (A7 (.ptr (some (A 0,0))) (.int .i64 ad) h) fun r=>r.1 = .int .i64 c.count∧Same [] h r.2:=by
 refine Ok.eq ?_ (by unfold A7;rfl)
 refine ok_cl (is_ok H ad) ?_
 rintro _ g ⟨rfl,s⟩
 simp only at s
 rw [C.isP H.wf]
 have G:=H.keep s
 have cg:=cget_eq G C.lies (f:=1) (x:=c.count) rfl
 rw [show((1:Nat):Int)=1 from rfl] at cg
 exact ok_val (by simp -implicitDefEqProofs only [extractV_tup,e0,e1,Option.bind_some,un_not,Bool.not_true,condE_false,cg,cl_some]<;>rfl) ⟨rfl,s⟩
theorem closed_ok (H:HpAt h A l T F)(C:ChAt l.ar T ad c adr sx rest):Ok (BW (.ptr (some (A 0,0))) (.int .i64 ad) h) fun r=>r.1 = .bool (!decide (c.closed=0))∧Same [] h r.2:=by
 refine Ok.eq ?_ (by unfold BW;rfl)
 refine ok_cl (is_ok H ad) ?_
 rintro _ g ⟨rfl,s⟩
 simp only at s
 rw [C.isP H.wf]
 have G:=H.keep s
 have cg:=cget_eq G C.lies (f:=3) (x:=c.closed) rfl
 rw [show((3:Nat):Int)=3 from rfl] at cg
 exact ok_val (by simp -implicitDefEqProofs only [extractV_tup,e0,e1,Option.bind_some,un_not,Bool.not_true,gdW_ff,gQ_true,cl_some,cg,neq_int,pickP_bool,Bool.false_eq_true,if_false]<;>rfl) ⟨rfl,s⟩
theorem cIs_ok (H:HpAt h A l T F)(a:Bool):Ok (B9 (.ptr (some (A 0,0))) (.int .i64 ad) (.bool a) h) fun r=>r.1 = .bool ((isP (ofP l.ar T ad)).1 && ((isP (ofP l.ar T ad)).2 == a))∧Same [] h r.2:=by
 refine Ok.eq ?_ (by unfold B9;rfl)
 refine ok_cl (is_ok H ad) ?_
 rintro _ g ⟨rfl,s⟩
 simp only at s
 generalize isP (ofP l.ar T ad)=o at *
 obtain⟨p,q⟩:=o
 cases p with
 | true=>exact ok_val (by simp -implicitDefEqProofs only [extractV_tup,e0,e1,Option.bind_some,gdW_tt,gQ_true,cl_some,eql_bool,pickP_bool,if_true]<;>rfl) ⟨by simp,s⟩
 | false=>exact ok_val (by simp -implicitDefEqProofs only [extractV_tup,e0,e1,Option.bind_some,gdW_ft,gQ_false,pickP_bool,Bool.false_eq_true,if_false]<;>rfl) ⟨by simp,s⟩
end
def Chan.pushed (c:Chan)(v:Int):Chan:=⟨c.room,c.count+1,c.first,c.closed,c.slots.set ((c.first+c.count) % c.room).toNat v⟩
def Chan.shut (c:Chan):Chan:=⟨c.room,c.count,c.first,1,c.slots⟩
theorem cws_slot (c:Chan)(hd:Int)(rest:List Int){k:Nat}(v:Int)(hk:k<c.slots.length):(cws c hd rest).set (k+5) v=cws ⟨c.room,c.count,c.first,c.closed,c.slots.set k v⟩ hd rest:=by
 simp only [cws,List.set_cons_succ]
 rw [List.set_append_left _ _ hk]
section
variable {ad:Int}{c:Chan}{adr:Bool}{sx:Nat}{rest:List Int}
theorem ChAt.len (C:ChAt l.ar T ad c adr sx rest):(cws c (c.room+5+128 * 3+1024*sx) rest).length=5+c.slots.length+rest.length:=by simp [cws];omega
theorem push_ok (H:HpAt h A l T F)(C:ChAt l.ar T ad c adr sx rest)(v:Int)(id:AV):Ok (Co (.ptr (some (A 0,0))) (.int .i64 ad) (.int .i64 v) id h) fun r=>
  if c.closed=0∧c.count<c.room then r.1 = .bool true∧∃ l',HpAt r.2 A l' T F∧Same [A 7] h r.2∧Wrote l l' ad (cws (c.pushed v) (c.room+5+128 * 3+1024*sx) rest)
  else r.1 = .bool false∧Same [] h r.2:=by
 have O:=C.ok
 have k0:=O.r0;have k1:=O.r1;have k2:=O.c0;have k3:=O.c1;have k4:=O.f0;have k5:=O.f1;have k6:=O.f2;have k7:=O.len
 refine Ok.eq ?_ (by unfold Co;rfl)
 refine ok_cl (closed_ok H C) ?_
 rintro _ g1 ⟨rfl,s1⟩
 simp only at s1
 have H1:=H.keep s1
 by_cases hc:c.closed=0
 ·have hd:(!decide (c.closed=0))=false:=by simp [hc]
  rw [hd]
  refine Ok.eq ?_ (by simp -implicitDefEqProofs only [gdW_ff,gQ_true,cl_some]<;>rfl)
  refine ok_cl (P:=fun r=>r.1 = .int .i64 c.count∧Same [] g1 r.2) (ok_cl (count_ok H1 C) fun _ _ hv=>ok_val rfl hv) ?_
  rintro _ g2 ⟨rfl,s2⟩
  simp only at s2
  have H2:=H1.keep s2
  refine ok_cl (P:=fun r=>r.1 = .int .i64 c.room∧Same [] g2 r.2) (ok_cl (room_ok H2 C) fun _ _ hv=>ok_val rfl hv) ?_
  rintro _ g3 ⟨rfl,s3⟩
  simp only at s3
  have H3:=H2.keep s3
  have s13:=(s1.trans s2).trans s3
  by_cases hr:c.room≤c.count
  ·refine ok_neg (by omega) ?_
   exact ok_val (by simp -implicitDefEqProofs only [gdW_ff,gQ_true,cl_some,bin_geq,hr,decide_true,Option.bind_some,pickP_bool,Bool.false_eq_true,if_false,condE_true]<;>rfl) ⟨rfl,s13⟩
  ·refine ok_pos ⟨hc,by omega⟩ ?_
   have cg:=cget_eq H3 C.lies (f:=2) (x:=c.first) rfl
   rw [show((2:Nat):Int)=2 from rfl] at cg
   refine Ok.eq ?_ (by simp -implicitDefEqProofs only [gdW_ff,gQ_true,cl_some,bin_geq,hr,decide_false,Option.bind_some,pickP_bool,Bool.false_eq_true,if_false,condE_false,cg]<;>rfl)
   refine ok_cl (count_ok H3 C) ?_
   rintro _ g4 ⟨rfl,s4⟩
   simp only at s4
   have H4:=H3.keep s4
   have w1:IntKind.i64.wrap (c.first+c.count)=c.first+c.count:=wrap_i64 (by omega) (by omega)
   refine Ok.eq ?_ (by simp -implicitDefEqProofs only [bin_add,w1,Option.bind_some]<;>rfl)
   refine ok_cl (room_ok H4 C) ?_
   rintro _ g5 ⟨rfl,s5⟩
   simp only at s5
   have H5:=H4.keep s5
   have hrem:(c.first+c.count).tmod c.room=(c.first+c.count) % c.room:=Int.tmod_eq_emod_of_nonneg (by omega)
   have hm0:=Int.emod_nonneg (c.first+c.count) (show c.room≠0 by omega)
   have hm1:=Int.emod_lt_of_pos (c.first+c.count) (show 0<c.room by omega)
   generalize hk:(c.first+c.count) % c.room=k at *
   have w2:IntKind.i64.wrap (4+k)=((k.toNat+4:Nat):Int):=by rw [wrap_i64 (by omega) (by omega)];omega
   have hr0 : ¬ c.room=0:=by omega
   refine Ok.eq ?_ (by simp -implicitDefEqProofs only [bin_rem,hr0,if_false,hrem,Option.bind_some,bin_add,w2]<;>rfl)
   refine ok_cl (is_ok H5 ad) ?_
   rintro _ g6 ⟨rfl,s6⟩
   simp only at s6
   have H6:=H5.keep s6
   rw [C.isP H5.wf]
   have s16:=((s13.trans s4).trans s5).trans s6
   have hlen:=C.len
   have j0:Ok (CX (.ptr (some (A 0,0))) (.int .i64 ad) (.int .i64 v) (.int .i64 ((k.toNat+4:Nat):Int)) g6) fun r=>r.1 = .bool true∧∃ l',HpAt r.2 A l' T F∧Same [A 7] h r.2∧Wrote l l' ad (cws (c.pushed v) (c.room+5+128 * 3+1024*sx) rest):=by
    refine Ok.eq ?_ (by unfold CX;rfl)
    refine ok_cl (cset_ok H6 C.lies (f:=k.toNat+4) (by rw [hlen];omega) v) ?_
    rintro _ g7 ⟨-,l7,H7,s7,W7⟩
    simp only at H7 s7
    rw [show k.toNat+4+1=k.toNat+5 by omega,cws_slot _ _ _ _ (by omega)] at W7
    have C7:ChAt l7.ar T ad ⟨c.room,c.count,c.first,c.closed,c.slots.set k.toNat v⟩ adr sx rest:=⟨W7.lies,⟨k0,k1,k2,k3,k4,k5,k6,O.cl,by rw [List.length_set];exact k7⟩,C.sh,C.sx⟩
    refine ok_cl (count_ok H7 C7) ?_
    rintro _ g8 ⟨rfl,s8⟩
    simp only at s8
    have H8:=H7.keep s8
    have w3:IntKind.i64.wrap (c.count+1)=c.count+1:=wrap_i64 (by omega) (by omega)
    have cs:=cset_ok H8 C7.lies (f:=1) (by rw [C7.len];omega) (c.count+1)
    rw [show((1:Nat):Int)=1 from rfl] at cs
    refine Ok.eq ?_ (by simp -implicitDefEqProofs only [bin_add,w3,Option.bind_some]<;>rfl)
    refine ok_cl cs ?_
    rintro _ g9 ⟨-,l9,H9,s9,W9⟩
    simp only at H9 s9
    refine ok_val rfl ⟨rfl,l9,H9,(((s16.sub (by simp)).trans s7).trans (s8.sub (by simp))).trans s9,?_⟩
    have:=W7.trans W9
    unfold Chan.pushed
    rw [hk]
    exact this
   cases adr with
   | false=>exact j0.eq (by simp -implicitDefEqProofs only [extractV_tup,e0,e1,Option.bind_some,condE_false])
   | true=>
    obtain⟨x,hx⟩:∃ x,(cws c (c.room+5+128 * 3+1024*sx) rest)[k.toNat+4+1]?=some x:=⟨_,List.getElem?_eq_getElem (by rw [hlen];omega)⟩
    have cg:=cget_eq H6 C.lies hx
    exact j0.eq (by simp -implicitDefEqProofs only [extractV_tup,e0,e1,Option.bind_some,condE_true,hcycle_eq H6,cl_some,cg,barrier_eq H6])
 ·have hd:(!decide (c.closed=0))=true:=by simp [hc]
  rw [hd]
  refine ok_neg (fun h=>hc h.1) ?_
  exact ok_val (by simp -implicitDefEqProofs only [gdW_tf,gQ_false,Option.bind_some,pickP_bool,if_true,condE_true]<;>rfl) ⟨rfl,s1⟩
theorem close_ok (H:HpAt h A l T F)(C:ChAt l.ar T ad c adr sx rest):Ok (Cb (.ptr (some (A 0,0))) (.int .i64 ad) h) fun r=>
  if c.closed=0 then r.1 = .bool true∧∃ l',HpAt r.2 A l' T F∧Same [A 7] h r.2∧Wrote l l' ad (cws c.shut (c.room+5+128 * 3+1024*sx) rest)
  else r.1 = .bool false∧Same [] h r.2:=by
 refine Ok.eq ?_ (by unfold Cb;rfl)
 refine ok_cl (closed_ok H C) ?_
 rintro _ g1 ⟨rfl,s1⟩
 simp only at s1
 have H1:=H.keep s1
 by_cases hc:c.closed=0
 ·have hd:(!decide (c.closed=0))=false:=by simp [hc]
  rw [hd]
  refine ok_pos hc ?_
  have cs:=cset_ok H1 C.lies (f:=3) (by rw [C.len];omega) 1
  rw [show((3:Nat):Int)=3 from rfl] at cs
  refine Ok.eq ?_ (by simp -implicitDefEqProofs only [condE_false]<;>rfl)
  refine ok_cl cs ?_
  rintro _ g2 ⟨-,l2,H2,s2,W2⟩
  exact ok_val rfl ⟨rfl,l2,H2,(s1.sub (by simp)).trans s2,W2⟩
 ·have hd:(!decide (c.closed=0))=true:=by simp [hc]
  rw [hd]
  refine ok_neg hc ?_
  exact ok_val (by simp -implicitDefEqProofs only [condE_true]<;>rfl) ⟨rfl,s1⟩
end
def newC (room:Int):Chan:=⟨room,0,0,0,List.replicate room.toNat 0⟩
theorem cmake_ok (H:HpAt h A l T F){sx:Nat}{s:Shp}(hx:T[sx]?=some s)(hk:s.kind=3){room:Int}(h0:0≤room)(h1:room≤59)(hu:l.ar.used+1<l.ar.sp.length)(r:AV) :
  Ok (CR (.ptr (some (A 0,0))) (.int .i64 sx) (.int .i64 room) r h) fun r=>∃ ad l' rest,r.1 = .tup [.int .i64 ad,.int .i64 0,.int .i64 0]∧HpAt r.2 A l' T F∧Same [A 5,A 7,A 8] h r.2∧ChAt l'.ar T ad (newC room) (s.map.getLsbD 0) sx rest∧∃ ws,Made l l' ad ws:=by
 have b1 : ¬ room < 0:=by omega
 have b2 : ¬ 59<room:=by omega
 have w5:IntKind.i64.wrap (room+5)=room+5:=wrap_i64 (by omega) (by omega)
 refine Ok.eq ?_ (by simp -implicitDefEqProofs only [CR,bin_lss,b1,decide_false,Option.bind_some,gdW_ff,gQ_true,cl_some,bin_gtr,b2,pickP_bool,Bool.false_eq_true,if_false,condE_false,bin_add,w5]<;>rfl)
 refine ok_cl (make_ok H hx (n:=room+5) (by omega) (by omega) hu r) ?_
 rintro _ g1 ⟨ad,l1,rfl,H1,s1,M⟩
 simp only at H1 s1
 have hcl:=class_some (n:=room+5) (by omega) (by omega)
 obtain⟨m,hm⟩:∃ m,(wordsOf (classOf (room+5))).toNat - 1=(4+room.toNat)+m:=⟨(wordsOf (classOf (room+5))).toNat - 1-(4+room.toNat),by omega⟩
 have hws:((room+5+128*s.kind+1024*(sx:Int))::List.replicate ((wordsOf (classOf (room+5))).toNat - 1) (0:Int))=cws ⟨0,0,0,0,List.replicate room.toNat 0⟩ (room+5+128 * 3+1024*(sx:Int)) (List.replicate m 0):=by
  rw [hm,hk]
  simp only [cws]
  rw [show 4+room.toNat+m=(room.toNat+m)+1+1+1+1 by omega]
  simp only [List.replicate_succ,List.replicate_append_replicate]
 have L:=M.lies
 rw [hws] at L
 have cs:=cset_ok H1 L (f:=0) (by simp [cws]) room
 rw [show((0:Nat):Int)=0 from rfl] at cs
 refine Ok.eq ?_ (by simp -implicitDefEqProofs only [extractV_tup,e0,e1,Option.bind_some,neq_int,decide_true,Bool.not_true,condE_false]<;>rfl)
 refine ok_cl cs ?_
 rintro _ g2 ⟨-,l2,H2,s2,W2⟩
 simp only at H2 s2
 have hTl:=H.tab.len
 have hlt:=(List.getElem?_eq_some_iff.1 hx).1
 refine ok_val rfl ⟨ad,l2,List.replicate m 0,rfl,H2,s1.trans (s2.sub (by simp)),⟨W2.lies,⟨h0,h1,by simp [newC],h0,by simp [newC],by simp [newC],fun h=>h,.inl rfl,by simp [newC];omega⟩,⟨s,hx,rfl⟩,?_⟩,_,⟨M.new,M.lo,M.hi,W2.lies,fun x hx=>?_,fun x ws hx L=>W2.old x ws hx (M.old x ws hx L),?_,?_⟩⟩
 ·have hsx:sx < 60000∨T.length=60000:=by omega
  have:=H.tab.len
  rcases hsx with h | h
  ·exact h
  ·omega
 ·rw [find_sp W2.sp];exact M.find x hx
 ·rw [used_same (fun m=>cls_sp W2.sp m) (by rw [W2.sp])];exact M.used
 ·rw [W2.sp];exact M.len
end
set_option linter.unusedSimpArgs false
attribute [local congr] c_bind c_cl c_mk c_lp c_clC c_gQ c_gV c_condE c_thenK
structure RowsIn (g0 g:Heap)(p k sz:Nat)(vs:List AV)(rows:List (List AV))(v:AV)(b:Option Nat):Prop where
 same:Same [p] g0 g
 plt:p<g0.next
 klt:k<vs.length
 at_:g.get p=some (.cells true (vs.set k v))
 sl:SlB g b sz v rows.flatten rows.length
 new:∀ j,b=some j→g0.next≤j
 len:∀ r∈rows,r.length=sz
theorem RowsIn.ld {g0 g:Heap}{p k sz:Nat}{vs:List AV}{rows:List (List AV)}{v:AV}{b:Option Nat}(H:RowsIn g0 g p k sz vs rows v b){g':Heap}(s:Same [] g g'):ldS g' (.ptr (some (p,0+k)))=some v:=by
 have hp:p<g.next:=Nat.lt_of_lt_of_le H.plt H.same.next
 rw [Nat.zero_add,ldS_at (by rw [s.get p hp (by simp)];exact H.at_)]
 simp [H.klt]
theorem RowsIn.step {g0 g g2:Heap}{p k sz bytes c:Nat}{vs row:List AV}{rows:List (List AV)}{v:AV}{b:Option Nat}(H:RowsIn g0 g p k sz vs rows v b)(s:Same [] g g2)(hc:g2.get c=some (.cells true row))(h1:g.next≤c)
  (hr:row.length=sz) (hs:row.all scalar=true) (h0:0<sz) (hn:(rows.length+1)*bytes≤2 ^ 47) :
  ∃ v' g3 g4,appendA g2 sz bytes v (.sl (some (c,0)) 1 (.ex 1))=some (v',g3)∧stP 1 g3 (.ptr (some (p,0+k))) v'=some (.bot,g4)∧RowsIn g0 g4 p k sz vs (rows ++ [row]) v' (some g2.next)∧g4.next=g2.next+1∧(∀ j,j<g2.next→j≠p→b≠some j→g4.get j=g2.get j):=by
 obtain⟨v',g3,e3,S3,s3,n3⟩:=appAt (H.sl.same s (by simp)) hc hr hs h0 hn
 have hp:p<g.next:=Nat.lt_of_lt_of_le H.plt H.same.next
 have hp2:p<g2.next:=Nat.lt_of_lt_of_le hp s.next
 have hbp:b≠some p:=fun h=>by have:=H.new p h;have:=H.plt;omega
 have hp3:g3.get p=some (.cells true (vs.set k v)):=by
  rw [s3.get p hp2 (by cases b<;>simp at hbp ⊢;omega),s.get p hp (by simp)];exact H.at_
 refine⟨v',g3,g3.put p (some (.cells true (vs.set k v'))),e3,?_,⟨?_,H.plt,H.klt,get_put_eq,?_,fun j hj=>?_,?_⟩,n3,fun j hj hjp hjb=>?_⟩
 ·rw [stP_one hp3 (by simpa using H.klt) S3.scv];simp
 ·refine⟨by simp only [Heap.next_put];have:=H.same.next;have:=s.next;omega,fun j hj hn=>?_⟩
  simp at hn
  have hjg:j<g.next:=Nat.lt_of_lt_of_le hj H.same.next
  rw [get_put_ne hn,s3.get j (Nat.lt_of_lt_of_le hjg s.next) (by cases hb:b with
   | none=>simp
   | some i=>simp;have:=H.new i hb;omega),s.get j hjg (by simp),H.same.get j hj (by simpa using hn)]
 ·have:=S3.same (S:=[p]) (Same.put g3 p (some (.cells true (vs.set k v')))) (fun i hi=>by cases hi;simp;omega)
  simpa using this
 ·cases hj;have:=H.same.next;have:=s.next;omega
 ·intro r hr';simp only [List.mem_append,List.mem_singleton] at hr'
  rcases hr' with h | rfl
  ·exact H.len r h
  ·exact hr
 ·rw [get_put_ne hjp,s3.get j hj (by cases hb:b with
   | none=>simp
   | some i=>simp;rintro rfl;exact hjb hb)]
theorem RowsIn.mt {g:Heap}{p k sz:Nat}{vs:List AV}(hp:p<g.next)(hg:g.get p=some (.cells true vs))(hk:vs[k]?=some (.sl none 0 (.ex 0))):RowsIn g g p k sz vs [] (.sl none 0 (.ex 0)) none:=by
 obtain⟨h1,h2⟩:=List.getElem?_eq_some_iff.1 hk
 refine⟨Same.refl _ _,hp,h1,?_,SlB.mt,(fun j h=>by cases h),by simp⟩
 rw [← h2,List.set_getElem_self];exact hg
set_option linter.all false
theorem ChAt.wrote {l l':PAl}{T:List Shp}{ad:Int}{c c':Chan}{adr:Bool}{sx:Nat}{rest:List Int}(C:ChAt l.ar T ad c adr sx rest)(hr:c'.room=c.room)(O:ChOk c')(W:Wrote l l' ad (cws c' (c.room+5+128 * 3+1024*sx) rest)):ChAt l'.ar T ad c' adr sx rest:=
 ⟨by rw [hr];exact W.lies,O,C.sh,C.sx⟩
set_option linter.all false
attribute [local congr] c_bind c_cl c_mk c_lp c_clC c_gQ c_gV c_condE c_thenK
structure QuV (g:Heap)(base:Nat)(b:Option Nat)(v:AV)(L:List Int):Prop where
 nil:b=none→v = .sl none 0 (.ex 0)∧L = []
 blk:∀ i,b=some i→base≤i∧i<g.next∧∃ pre:List AV,g.get i=some (.cells true (pre++wsC L))∧v = .sl (some (i,pre.length)) L.length (.un 1)
theorem QuV.lnL {g:Heap}{base:Nat}{b:Option Nat}{v:AV}{L:List Int}(H:QuV g base b v L):Go.Ab.lnL v=some (.int .i64 L.length):=by
 cases b with
 | none=>obtain⟨rfl,rfl⟩:=H.nil rfl;rfl
 | some i=>obtain⟨_,_,pre,_,rfl⟩:=H.blk i rfl;simp
theorem QuV.sc {g:Heap}{base:Nat}{b:Option Nat}{v:AV}{L:List Int}(H:QuV g base b v L):scalar v=true:=by
 cases b with
 | none=>obtain⟨rfl,rfl⟩:=H.nil rfl;rfl
 | some i=>obtain⟨_,_,pre,_,rfl⟩:=H.blk i rfl;rfl
theorem QuV.mt {g:Heap}{base:Nat}:QuV g base none (.sl none 0 (.ex 0)) []:=⟨fun _=>⟨rfl,rfl⟩,fun i h=>by cases h⟩
theorem QuV.keep {g g':Heap}{base:Nat}{b:Option Nat}{v:AV}{L:List Int}{S:List Nat}(H:QuV g base b v L)(s:Same S g g')(hb:∀ i,b=some i→i∉S):QuV g' base b v L:=
 ⟨H.nil,fun i hi=>by
  obtain⟨h1,h2,pre,h3,h4⟩:=H.blk i hi
  exact⟨h1,Nat.lt_of_lt_of_le h2 s.next,pre,(s.get i h2 (hb i hi)).trans h3,h4⟩⟩
theorem QuV.tail {g:Heap}{base:Nat}{b:Option Nat}{v:AV}{x:Int}{L:List Int}(H:QuV g base b v (x::L)) :
  ∃ i o,b=some i∧v = .sl (some (i,o)) (L.length+1) (.un 1)∧ldS g (.ptr (some (i,o)))=some (.int .i64 x)∧∃ v',slcP 1 v (some (.int .i64 1)) none none=some v'∧QuV g base b v' L:=by
 cases b with
 | none=>obtain⟨_,h⟩:=H.nil rfl;cases h
 | some i=>
  obtain⟨b1,b2,pre,b3,rfl⟩:=H.blk i rfl
  refine⟨i,pre.length,rfl,rfl,?_,.sl (some (i,pre.length+1)) L.length (.un 1),?_,⟨(fun h=>by cases h),fun j hj=>?_⟩⟩
  ·rw [ldS_at b3,List.getElem?_append_right (Nat.le_refl _),Nat.sub_self];rfl
  ·have e:(x::L).length=L.length+1:=rfl
   rw [e]
   simp only [slcP,sliceUn,highA,lowA,boundA,ne_eq,not_true_eq_false,if_false,Option.bind_some]
   rw [if_pos ⟨by omega,by omega⟩]
   simp [addA]
  ·cases hj
   exact⟨b1,b2,pre ++ [.int .i64 x],by rw [b3,List.append_assoc];rfl,by simp⟩
theorem and_mask (n:Int)(k:Nat)(hk:k≤32):binP .and (.int .i64 n) (.int .i64 (((2 ^ k - 1:Nat)):Int))=some (.int .i64 (n % ((2 ^ k:Nat):Int))):=by
 rw [bin_int _ (by decide) (by decide)]
 have h2:2 ^ k≤2 ^ 32:=Nat.pow_le_pow_right (by decide) hk
 have h1:=Nat.two_pow_pos k
 have e:intBin .and .i64 n ((2 ^ k - 1:Nat):Int)=some (.int .i64 (IntKind.i64.wrap (BitVec.ofInt 64 n &&& BitVec.ofInt 64 ((2 ^ k - 1:Nat):Int)).toNat)):=rfl
 have e7:(BitVec.ofInt 64 ((2 ^ k - 1:Nat):Int)).toNat=2 ^ k - 1:=by
  rw [BitVec.ofInt_natCast,BitVec.toNat_ofNat];exact Nat.mod_eq_of_lt (by omega)
 have h:(BitVec.ofInt 64 n &&& BitVec.ofInt 64 ((2 ^ k - 1:Nat):Int)).toNat=(n % ((2 ^ k:Nat):Int)).toNat:=by
  rw [BitVec.toNat_and,e7,Nat.and_two_pow_sub_one_eq_mod,BitVec.toNat_ofInt]
  have hd:((2 ^ k:Nat):Int) ∣ ((2 ^ 64:Nat):Int):=by
   rw [Int.natCast_dvd_natCast];exact Nat.pow_dvd_pow 2 (by omega)
  have hm:=Int.emod_emod_of_dvd n hd
  have h0:=Int.emod_nonneg n (show((2 ^ 64:Nat):Int)≠0 by decide)
  rw [← hm,Int.toNat_emod h0 (by omega),Int.toNat_natCast]
 have h0:=Int.emod_nonneg n (show((2 ^ k:Nat):Int)≠0 by omega)
 have h3:=Int.emod_lt_of_pos n (show 0<((2 ^ k:Nat):Int) by omega)
 rw [e,h,wrap_i64 (by omega) (by omega)]
 congr 2;omega
end Go.Ab.F
