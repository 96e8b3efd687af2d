/- What a seat's program is to the abstract machine: its table's block, its first heap, the slots that its code hands on; the table is the only condition. -/
import Derived.Test.YtmpinijdejafkaaDoorAbS
import Derived.Test.YtmpinijdejafkaaDoorCards
import Derived.Test.YtmpinijdejafkaaDoorTie
import Derived.OpenShut
import Derived.ProofKit
import Derived.Deep.DeepHandedRow
import Derived.Lib.LaidTab
namespace Go.Proofs.YtmpinijdejafkaaDoor
open Go.Ab

def annL : List (Nat × List (Nat × List Nat)) := [
  (3, [(13, [2]), (29, [2]), (253, [2]), (4090, [2, 3, 7, 8]), (32721, []), (523557, []), (2094237, [2, 3, 7]), (8376951, [2, 3]), (33507807, [2]), (134031221, [2]), (1072249769, [2]), (536124892, [14]), (4288999137, []), (1072249789, [3]), (1072249791, [2]), (33507797, [2]), (268062377, [2]), (67015597, [2]), (8186, [2, 15]), (65489, []), (523923, [2])])
  ,(4, [(13, [6]), (29, [6]), (125, [6]), (1021, [6]), (4093, [6]), (16378, [6, 14]), (131025, []), (4192845, [17]), (4192847, [6])])
  ,(5, [(13, [6]), (29, [6]), (125, [6]), (2042, [6, 10, 11]), (16337, []), (261413, [6]), (522831, []), (4090, [6, 15]), (32721, []), (261779, [6])])
  ,(6, [(13, [4]), (29, [4]), (125, [4]), (8186, [4, 8, 9, 11]), (65489, []), (1047845, [4]), (4191383, [4]), (4191381, [4]), (16378, [4, 15]), (131025, []), (33542773, [4]), (134171095, [4]), (1073368765, [4]), (2146737525, [4]), (2146737527, []), (536684373, [4]), (536684375, []), (8385695, [4])])
  ,(7, [(13, [6]), (29, [6]), (125, [6]), (509, [6]), (4090, [6, 11, 12]), (32721, []), (261777, [6]), (261779, [6, 11]), (4188469, [6])])
  ,(8, [(13, [4]), (29, [4]), (125, [4]), (1021, [4]), (16378, [4, 10, 11]), (131025, []), (4192837, [4, 10]), (16771351, [4, 10]), (1073366522, [16, 17]), (8586932177, []), (68695457426, [16, 18]), (549563659409, []), (536683263, [4]), (268341621, [4]), (268341623, [10]), (67085397, [4]), (67085399, [10]), (2096422, [4, 19]), (16771377, []), (67085513, [4])])
  ,(9, [(29, [0])])
  ,(11, [(29, [4, 5]), (250, [4, 5, 26]), (2002, []), (64103, [4, 5])])
  ,(12, [(13, [8, 9]), (125, [11, 12]), (253, [8, 9]), (2045, [8, 9])])
  ,(13, [(13, [4, 5]), (59, [4, 5]), (123, [4, 5])])
  ,(14, [(105, [6]), (53, [2]), (429, [27]), (215, [2]), (425, [2]), (1706, [2, 3]), (13649, []), (54601, [2])])
  ,(15, [(61, [7, 8]), (250, [8, 9]), (2001, []), (8009, [8]), (2041, [6, 10, 11]), (8167, [6, 10, 11]), (32671, [6, 10, 11]), (130687, [6, 10, 11]), (522751, [10, 11]), (2091007, [10, 11]), (130677, [10]), (16373, [6, 15, 16]), (65495, [6, 15, 16]), (261983, [15, 16]), (1047935, [16]), (523961, [6]), (130987, [6]), (8189, [6]), (16381, [6]), (32765, [6])])
  ,(16, [(29, [6]), (125, [6]), (509, [6])])
  ,(18, [(29, [4, 5])])
  ,(19, [(27, [14])])
  ,(20, [(27, [8, 9])])
  ,(21, [(13, [2])])
  ,(22, [(26, [2, 3]), (209, []), (841, [2])])
  ,(25, [(29, [0])])
  ,(27, [(13, [8, 9, 10]), (61, [8, 9, 10])])
  ,(28, [(27, [4])])
  ,(29, [(13, [8]), (123, [])])
  ,(30, [(13, [4, 5]), (507, [])])
  ,(31, [(13, [4])])
  ,(32, [(27, [4])])
  ,(34, [(4, []), (33, []), (14, []), (113, [])])
  ,(36, [(13, [4])])
  ,(38, [(13, [8, 9])])
  ,(39, [(13, [14])])
  ,(40, [(29, [2, 3])])
  ,(42, [(13, [4, 5]), (59, [4, 5]), (61, [4, 5])])
  ,(43, [(13, [2])])
  ,(44, [(29, [])])
  ,(45, [(13, [2, 3])])
  ,(46, [(29, [8])])
  ,(47, [(105, [5]), (53, [2]), (429, [25]), (215, [2])])
  ,(48, [(26, [4, 8]), (210, []), (3379, [4])])
  ,(50, [(29, [6, 7])])
  ,(51, [(61, [3])])
  ,(52, [(13, [5])])
  ,(53, [(57, [8]), (231, [8])])
  ,(54, [(5, [])])
  ,(55, [(13, [2])])
  ,(60, [(5, []), (15, [])])
  ,(61, [(53, [4]), (215, [4]), (863, [4]), (3453, []), (1721, [4]), (3447, []), (427, [])])
  ,(62, [(13, [4])])
  ,(63, [(13, [4])])
  ,(64, [(125, [4, 5])])
  ,(66, [(13, [2, 3]), (122, [24]), (978, [])])
  ,(70, [(29, [4, 5]), (122, [4, 5, 20]), (978, []), (31333, []), (62669, []), (62671, [4, 5]), (250, [4, 5, 8]), (2001, []), (8009, [4, 5]), (506, [4, 5, 96]), (4050, []), (64819, [4, 5]), (518555, [4, 5])])
  ,(72, [(29, [4])])
  ,(74, [(13, [8])])
  ,(75, [(29, [6])])
  ,(76, [(13, [6])])
  ,(77, [(13, [4])])
  ,(78, [(29, [4, 5])])
  ,(79, [(13, [6])])
  ,(80, [(29, [2]), (122, [21]), (978, [])])
  ,(81, [(6, [8]), (50, [])])
  ,(82, [(26, [2, 10]), (210, []), (3379, [2])])
  ,(83, [(58, [3, 10]), (466, [])])
  ,(84, [(6, [8]), (50, [])])
  ,(85, [(6, [8]), (50, [])])
  ,(87, [(13, [2])])
  ,(88, [(13, [4]), (61, [4])])
  ,(89, [(13, [6]), (233, [21]), (117, [6]), (471, [6]), (1887, [6])])
  ,(92, [(26, [2, 4]), (210, []), (3379, [2])])
  ,(95, [(29, [4, 5]), (253, [4, 5])])
  ,(99, [(13, [2])])
  ,(101, [(29, [4]), (122, [5, 6]), (977, []), (7827, [5])])
  ,(102, [(13, [2])])
  ,(104, [(13, []), (122, [3, 4]), (977, [])])
  ,(106, [(13, [2, 3])])
  ,(107, [(29, [4]), (125, [4]), (509, [4]), (4090, [9, 59]), (32722, []), (1047143, [9])])
  ,(109, [(13, [4]), (251, [])])
  ,(110, [(13, [2])])
  ,(112, [(13, [6])])
  ,(113, [(25, [6]), (103, [6])])
  ,(114, [(26, [4, 8]), (210, []), (3379, [4])])
  ,(115, [(26, [4, 8]), (210, []), (3379, [4])])
  ,(117, [(13, [2])])
  ]
def ann (f p : Nat) : List Nat := (((annL.lookup f).getD []).lookup p).getD []
def deb : List Int := [0, 1, 56, 2, 57, 49, 28, 3, 61, 58, 42, 50, 38, 29, 17, 4, 62, 47, 59, 36, 45, 43, 51, 22, 53, 39, 33, 30, 24, 18, 12, 5, 63, 55, 48, 27, 60, 41, 37, 16, 46, 35, 44, 21, 52, 32, 23, 11, 54, 26, 40, 15, 34, 20, 31, 10, 25, 14, 19, 9, 13, 8, 7, 6]
def debA : List AV := deb.map fun n => .int .u8 n
def h0 : Heap := (⟨1, .nil⟩ : Heap).put 0 (some (.cells false debA))
def rho0 : Rho := fun i => if i = 0 then some (0, 0, 64) else none
def isTrue : Option (AV × Heap) → Bool
  | some (.bool true, _) => true
  | _ => false
theorem isTrue_some {x : Option (AV × Heap)} (h : isTrue x = true) : ∃ g, x = some (.bool true, g) := by
  unfold isTrue at h
  split at h
  · exact ⟨_, rfl⟩
  · cases h

theorem good : Go.Ab.Good Tryd.prog := by
  have hall : (Tryd.prog.funcs.all fun fn => fn.name != "runtime.NumGoroutine") = true := by kernel_rfl
  intro f fn h e
  have := Array.all_eq_true_iff_forall_mem.1 hall fn (Array.mem_of_getElem? h)
  rw [e] at this
  exact absurd this (by decide)
theorem mixed : Tryd.prog.follows .mixedOrders = true := by kernel_rfl
theorem own : ownKnob Tryd.prog.godebug = none := by kernel_rfl
theorem gTab : Tryd.prog.globalNamed "math/bits.deBruijn64tab" = some 0 := by kernel_rfl
theorem gTabType : (Tryd.prog.globals[0]?).map (·.type) = some 180 := by kernel_rfl
theorem cellsTab : Tryd.prog.cellsOf 180 = 64 := by kernel_rfl
theorem cellsByte : Tryd.prog.cellsOf 5 = 1 := by kernel_rfl
theorem oneGlobal : Tryd.prog.globals.size = 1 := by kernel_rfl

theorem h0_get (i : Nat) : h0.get i = if i = 0 then some (.cells false debA) else none := by
  unfold h0
  rw [Heap.get_put]
  rfl
theorem h0_ro (i : Nat) (b : Blk) (h : h0.get i = some b) : b.wr = false := by
  rw [h0_get] at h
  split at h
  · cases h; rfl
  · cases h
/-- The call's world is the first heap's. -/
theorem rel0 {W : World} (h : Lib.TabIs Tryd.prog W "math/bits.deBruijn64tab" .u8 deb) : Go.Ab.R Tryd.prog rho0 h0 W := by
  unfold Lib.TabIs World.var? at h
  rw [gTab] at h
  simp only [Option.bind_some] at h
  split at h
  · rename_i cs e fz hc
    cases h
    refine ⟨fun i b hb => ?_, fun i j b b' β x x' hne hi hj => ?_, fun i x hx => ?_, fun g hg => ?_⟩
    · rw [h0_get] at hb
      split at hb
      · rename_i hi
        subst hi
        cases hb
        refine ⟨0, 0, 64, _, e, fz, rfl, hc, rfl, Nat.le_of_eq rfl, fun k a ha => ?_, fun _ _ => rfl⟩
        rw [Nat.zero_add]
        simp only [debA, List.getElem?_map, Option.map_eq_some_iff] at ha
        obtain ⟨n, hn, rfl⟩ := ha
        exact ⟨.int .u8 n, by simp [hn], by simp only [VR]⟩
      · cases hb
    · rw [h0_get] at hi hj
      split at hi
      · split at hj
        · rename_i a b; exact absurd (a.trans b.symm) hne
        · cases hj
      · cases hi
    · unfold rho0 at hx
      split at hx
      · rename_i hi; subst hi; exact Nat.zero_lt_one
      · cases hx
    · rw [oneGlobal] at hg
      have : g = 0 := by omega
      subst this
      exact ⟨64, rfl⟩
  · cases h

theorem kept {ρ : Rho} {h : Heap} {W W' : World} (hk : Ab.Keeps ρ h W W') (hro : ∀ i b, h.get i = some b → b.wr = false) (may : MemPlace → Prop) : W.keptBut W' may := by
  refine ⟨hk.os, hk.output, fun i hi => ?_⟩
  have e := hk.old i hi fun j b x hb hw _ => by rw [hro j b hb] at hw; cases hw
  rw [e]
  exact (World.keptBut_refl W may).2.2 i hi

/-- A world for the witness: the settled one, the table holding what its initialiser lays. -/
noncomputable def laidWorld (os : Os) : World :=
  { World.holding Tryd.prog os ⟨#[], #[], []⟩ with heap := (World.holding Tryd.prog os ⟨#[], #[], []⟩).heap.modify 0 fun
      | .cells _ t frozen => .cells (deb.map fun n => Value.int .u8 n).toArray t frozen
      | o => o }
end Go.Proofs.YtmpinijdejafkaaDoor
