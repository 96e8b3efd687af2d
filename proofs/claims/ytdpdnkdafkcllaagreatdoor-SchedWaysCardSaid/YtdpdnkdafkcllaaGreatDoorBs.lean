import Derived.Test.YtdpdnkdafkcllaaGreatDoorAbS
import Derived.Test.YtdpdnkdafkcllaaGreatDoorCards
import Derived.Test.YtdpdnkdafkcllaaGreatDoorTie
import Derived.OpenShut
import Derived.ProofKit
import Derived.Deep.DeepHandedRow
import Derived.Lib.LaidTab
namespace Go.Proofs.YtdpdnkdafkcllaaGreatDoor
open Go.Ab
def annL:List (Nat × List (Nat × List Nat)):=[
 (3,[(13,[2]),(29,[2]),(125,[2]),(2042,[6,7]),(16337,[]),(8186,[12]),(65489,[]),(16378,[2,13]),(131025,[]),(2096422,[2,15]),(16771377,[]),(268342053,[2]),(4293472890,[17,19]),(34347783121,[]),(2146736447,[2])])
 ,(4,[(13,[8]),(29,[8]),(125,[8]),(4090,[8,12,13,14]),(32721,[]),(1047117,[8]),(4188474,[19]),(33507793,[]),(134031177,[]),(4188477,[]),(16378,[8,21]),(131025,[]),(2096421,[22]),(4192845,[23]),(8385695,[8]),(65530,[8,26,27]),(524241,[]),(16775757,[8]),(67103034,[8,30]),(536824273,[]),(2147297097,[8]),(33551519,[26])])
 ,(5,[(61,[0])])
 ,(6,[(29,[4,5]),(250,[4,5,26]),(2002,[]),(64103,[4,5])])
 ,(7,[(122,[3]),(977,[])])
 ,(8,[(13,[8,9,10]),(61,[8,9,10])])
 ,(10,[(13,[6,7]),(61,[6,7])])
 ,(11,[(29,[6]),(125,[6]),(253,[6]),(4090,[12,59]),(32722,[]),(4093,[12])])
 ,(12,[(13,[8]),(123,[])])
 ,(13,[(13,[4])])
 ,(14,[(29,[6]),(506,[8,10]),(4049,[]),(64805,[8]),(518441,[8]),(259229,[8]),(518462,[8,13]),(4147697,[]),(66363174,[8,15]),(530905393,[]),(2123621577,[8]),(509,[8])])
 ,(15,[(13,[4]),(58,[4,5]),(465,[]),(1865,[4])])
 ,(20,[(29,[2,3])])
 ,(22,[(13,[4,5]),(59,[4,5]),(61,[4,5])])
 ,(23,[(13,[2])])
 ,(24,[(13,[8,9]),(125,[11,12]),(253,[8,9]),(2045,[8,9])])
 ,(26,[(29,[6,7])])
 ,(27,[(29,[5])])
 ,(28,[(53,[8,9]),(215,[8,9]),(863,[8,9]),(29,[8,9]),(506,[10,11,87]),(4050,[]),(518553,[95]),(259277,[10,11])])
 ,(29,[(57,[8]),(231,[8]),(927,[8]),(3711,[8]),(14847,[8])])
 ,(31,[(27,[4])])
 ,(32,[(27,[4])])
 ,(36,[(5,[]),(15,[])])
 ,(37,[(29,[5]),(61,[6]),(501,[4]),(2007,[4]),(8031,[4]),(64253,[46]),(32127,[4])])
 ,(38,[(29,[4]),(122,[5,6]),(977,[]),(7827,[5])])
 ,(42,[(13,[2,3]),(122,[24]),(978,[])])
 ,(46,[(105,[5]),(53,[2]),(429,[25]),(215,[2])])
 ,(47,[(29,[])])
 ,(48,[(4,[]),(33,[]),(14,[]),(113,[])])
 ,(49,[(13,[2,3])])
 ,(51,[(29,[8])])
 ,(52,[(13,[7]),(61,[7])])
 ,(53,[(13,[2])])
 ,(54,[(29,[])])
 ,(55,[(58,[9,22]),(466,[]),(59805,[]),(239230,[9,58]),(1913842,[]),(30621491,[9])])
 ,(56,[(29,[6,7])])
 ,(57,[(29,[6]),(125,[6]),(509,[6])])
 ,(59,[(13,[4])])
 ,(60,[(26,[4,8]),(210,[]),(3379,[4])])
 ,(63,[(6,[]),(50,[]),(411,[])])
 ,(66,[(29,[4,5]),(122,[4,5,20]),(978,[]),(31333,[]),(62669,[]),(62671,[4,5]),(250,[4,5,8]),(2001,[]),(8009,[4,5]),(506,[4,5,96]),(4050,[]),(64819,[4,5]),(518555,[4,5])])
 ,(67,[(29,[4])])
 ,(68,[(53,[4]),(215,[4]),(863,[4]),(3453,[]),(1721,[4]),(3447,[]),(427,[])])
 ,(69,[(13,[4])])
 ,(71,[(13,[8])])
 ,(72,[(29,[6])])
 ,(73,[(29,[4])])
 ,(75,[(29,[3])])
 ,(76,[(61,[3])])
 ,(77,[(13,[5])])
 ,(80,[(14,[1,2,3,8,9]),(453,[]),(909,[]),(1821,[3]),(7293,[11,12]),(14589,[]),(58357,[]),(29181,[1]),(466943,[1,2,8])])
 ,(81,[(6,[2])])
 ,(82,[(26,[2,4]),(210,[]),(3379,[2])])
 ,(83,[(13,[4])])
 ,(85,[(13,[4])])
 ,(87,[(29,[4,5]),(253,[4,5])])
 ,(89,[(125,[4,5])])
 ,(90,[(29,[4,5])])
 ,(91,[(13,[6])])
 ,(92,[(29,[2]),(122,[21]),(978,[])])
 ,(93,[(6,[8]),(50,[])])
 ,(94,[(26,[2,10]),(210,[]),(3379,[2])])
 ,(95,[(58,[3,10]),(466,[])])
 ,(96,[(6,[8]),(50,[])])
 ,(97,[(6,[8]),(50,[])])
 ,(100,[(13,[2])])
 ,(102,[(13,[6])])
 ,(103,[(6,[6]),(49,[]),(402,[7]),(3217,[])])
 ,(104,[(122,[9]),(977,[]),(126,[10]),(1009,[])])
 ,(105,[(7,[]),(238,[9]),(1905,[]),(30501,[10])])
 ,(106,[(509,[11]),(4073,[10,11,12]),(2045,[6,7]),(8183,[6,7])])
 ,(107,[(14,[6,7]),(113,[])])
 ,(108,[(58,[6,7,8]),(465,[]),(3728,[7]),(29825,[]),(7461,[6]),(14925,[6]),(59709,[]),(477674,[9]),(3821393,[]),(30571153,[]),(59711,[]),(477690,[10]),(3821521,[]),(30572177,[])])
 ,(110,[(60,[9,10]),(960,[9]),(7681,[]),(1924,[10]),(15393,[]),(3853,[])])
 ,(111,[(60,[10]),(481,[]),(124,[11]),(993,[]),(253,[8,9]),(4092,[10,11]),(65472,[10]),(523777,[]),(130948,[11]),(1047585,[]),(261901,[])])
 ,(112,[(13,[0,2]),(29,[0,2])])
 ,(113,[(13,[0,2]),(29,[0,2]),(61,[0,2])])
 ,(115,[(13,[4]),(251,[])])
 ,(116,[(13,[2])])
 ,(118,[(13,[6])])
 ,(119,[(25,[6]),(103,[6])])
 ,(120,[(13,[2])])
 ,(121,[(13,[4]),(61,[4])])
 ,(122,[(13,[2])])
 ,(124,[(13,[]),(122,[3,4]),(977,[])])
 ,(126,[(13,[2,3])])
 ,(127,[(29,[4]),(125,[4]),(509,[4]),(4090,[9,59]),(32722,[]),(1047143,[9])])
 ,(129,[(13,[2])])
 ,(130,[(6,[8]),(197,[]),(397,[9]),(797,[])])
 ,(136,[(13,[2])])
 ,(137,[(26,[4,8]),(210,[]),(3379,[4])])
 ,(138,[(13,[6]),(233,[21]),(117,[6]),(471,[6]),(1887,[6])])
 ,(140,[(13,[8,9])])
 ]
def ann (f p:Nat):List Nat:=(((annL.lookup f).getD []).lookup p).getD []
def deb:List Int:=[0,1,56,2,57,49,28,3,61,58,42,50,38,29,17,4,62,47,59,36,45,43,51,22,53,39,33,30,24,18,12,5,63,55,48,27,60,41,37,16,46,35,44,21,52,32,23,11,54,26,40,15,34,20,31,10,25,14,19,9,13,8,7,6]
def debA:List AV:=deb.map fun n=>.int .u8 n
def h0:Heap:=(⟨1,.nil⟩:Heap).put 0 (some (.cells false debA))
def rho0:Rho:=fun i=>if i=0 then some (0,0,64) else none
def isTrue:Option (AV × Heap)→Bool
 | some (.bool true,_)=>true
 | _=>false
theorem isTrue_some {x:Option (AV × Heap)}(h:isTrue x=true):∃ g,x=some (.bool true,g):=by
 unfold isTrue at h
 split at h
 ·exact⟨_,rfl⟩
 ·cases h
theorem good:Go.Ab.Good Tryz.prog:=by
 have hall:(Tryz.prog.funcs.all fun fn=>fn.name != "runtime.NumGoroutine")=true:=by kernel_rfl
 intro f fn h e
 have:=Array.all_eq_true_iff_forall_mem.1 hall fn (Array.mem_of_getElem? h)
 rw [e] at this
 exact absurd this (by decide)
theorem mixed:Tryz.prog.follows .mixedOrders=true:=by kernel_rfl
theorem own:ownKnob Tryz.prog.godebug=none:=by kernel_rfl
theorem gTab:Tryz.prog.globalNamed "math/bits.deBruijn64tab" = some 0:=by kernel_rfl
theorem gTabType:(Tryz.prog.globals[0]?).map (·.type)=some 236:=by kernel_rfl
theorem cellsTab:Tryz.prog.cellsOf 236=64:=by kernel_rfl
theorem cellsByte:Tryz.prog.cellsOf 5=1:=by kernel_rfl
theorem oneGlobal:Tryz.prog.globals.size=1:=by kernel_rfl
theorem h0_get (i:Nat):h0.get i=if i=0 then some (.cells false debA) else none:=by
 unfold h0
 rw [Heap.get_put]
 rfl
theorem h0_ro (i:Nat)(b:Blk)(h:h0.get i=some b):b.wr=false:=by
 rw [h0_get] at h
 split at h
 ·cases h;rfl
 ·cases h
theorem rel0 {W:World}(h:Lib.TabIs Tryz.prog W "math/bits.deBruijn64tab" .u8 deb):Go.Ab.R Tryz.prog rho0 h0 W:=by
 unfold Lib.TabIs World.var? at h
 rw [gTab] at h
 simp only [Option.bind_some] at h
 split at h
 ·rename_i cs e fz hc
  cases h
  refine⟨fun i b hb=>?_,fun i j b b' β x x' hne hi hj=>?_,fun i x hx=>?_,fun g hg=>?_⟩
  ·rw [h0_get] at hb
   split at hb
   ·rename_i hi
    subst hi
    cases hb
    refine⟨0,0,64,_,e,fz,rfl,hc,rfl,Nat.le_of_eq rfl,fun k a ha=>?_,fun _ _=>rfl⟩
    rw [Nat.zero_add]
    simp only [debA,List.getElem?_map,Option.map_eq_some_iff] at ha
    obtain⟨n,hn,rfl⟩:=ha
    exact⟨.int .u8 n,by simp [hn],by simp only [VR]⟩
   ·cases hb
  ·rw [h0_get] at hi hj
   split at hi
   ·split at hj
    ·rename_i a b;exact absurd (a.trans b.symm) hne
    ·cases hj
   ·cases hi
  ·unfold rho0 at hx
   split at hx
   ·rename_i hi;subst hi;exact Nat.zero_lt_one
   ·cases hx
  ·rw [oneGlobal] at hg
   have:g=0:=by omega
   subst this
   exact⟨64,rfl⟩
 ·cases h
theorem kept {ρ:Rho}{h:Heap}{W W':World}(hk:Ab.Keeps ρ h W W')(hro:∀ i b,h.get i=some b→b.wr=false)(may:MemPlace→Prop):W.keptBut W' may:=by
 refine⟨hk.os,hk.output,fun i hi=>?_⟩
 have e:=hk.old i hi fun j b x hb hw _=>by rw [hro j b hb] at hw;cases hw
 rw [e]
 exact(World.keptBut_refl W may).2.2 i hi
noncomputable def laidWorld (os : Os) : World :=
  { World.holding Tryz.prog os ⟨#[], #[], []⟩ with heap := (World.holding Tryz.prog os ⟨#[], #[], []⟩).heap.modify 0 fun
      | .cells _ t frozen => .cells (deb.map fun n => Value.int .u8 n).toArray t frozen
      | o => o }
end Go.Proofs.YtdpdnkdafkcllaaGreatDoor
