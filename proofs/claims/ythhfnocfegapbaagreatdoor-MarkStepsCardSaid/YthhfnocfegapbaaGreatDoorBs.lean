/- What a seat's program is to the abstract machine: its table's block, its first heap, the slots that its code hands on; the table is the only condition. -/
import Derived.Test.YthhfnocfegapbaaGreatDoorAbS
import Derived.Test.YthhfnocfegapbaaGreatDoorCards
import Derived.Test.YthhfnocfegapbaaGreatDoorTie
import Derived.OpenShut
import Derived.ProofKit
import Derived.Deep.DeepHandedRow
import Derived.Lib.LaidTab
namespace Go.Proofs.YthhfnocfegapbaaGreatDoor
open Go.Ab

def annL : List (Nat × List (Nat × List Nat)) := [
  (3, [(13, [8]), (29, [8]), (125, [8]), (506, [13]), (4049, []), (16201, []), (1018, [8, 14]), (8145, []), (130341, [15]), (130343, [8]), (2042, [8, 16]), (16337, []), (65353, [8]), (4090, [8, 17]), (32721, []), (261779, [8])])
  ,(4, [(13, [4]), (29, [4]), (125, [4]), (1018, [9, 10]), (8145, []), (32585, [9]), (4092, [12]), (32737, []), (16378, [4, 13]), (131025, []), (524105, [4]), (65530, [14, 15]), (524241, [])])
  ,(5, [(13, [6]), (29, [6]), (125, [6]), (1018, [11, 12]), (8145, []), (32585, [11]), (8186, [11, 15]), (65489, []), (261961, [11]), (16381, [6]), (131066, [6, 17, 18]), (1048529, []), (8388240, [17]), (67105921, []), (8388243, [6]), (262138, [6, 19]), (2097105, []), (67107402, [20, 21]), (536859217, []), (33553703, [6])])
  ,(6, [(29, [0])])
  ,(7, [(29, [4, 5, 6, 7]), (8186, [16]), (65489, []), (32762, [4, 5, 6, 7, 17, 18]), (262097, []), (8387149, [4, 5, 6, 7]), (16774301, [19]), (65530, [22]), (524241, []), (4193937, []), (67103038, [26]), (536824305, []), (8589188901, [27])])
  ,(8, [(15, [])])
  ,(9, [(13, [4])])
  ,(10, [(13, [4])])
  ,(11, [(13, [4]), (58, [4, 5]), (465, []), (1865, [4])])
  ,(12, [(29, [4]), (125, [4]), (509, [4]), (4090, [9, 59]), (32722, []), (1047143, [9])])
  ,(13, [(29, [4]), (253, [4]), (2042, [11, 12]), (16337, []), (65353, [11])])
  ,(14, [(60, [6]), (481, []), (3863, [6])])
  ,(15, [(58, [6]), (465, []), (3731, []), (122, [8]), (977, []), (7830, [8, 9]), (62641, []), (501137, []), (2004558, [8, 11]), (16036465, []), (128291731, [8]), (506, [13, 14]), (4049, []), (16201, [13])])
  ,(16, [(29, [2]), (122, [21]), (978, [])])
  ,(17, [(13, [2]), (250, [4]), (2001, [])])
  ,(19, [(58, [6, 7, 8]), (465, []), (1865, [6, 7]), (29847, [7])])
  ,(20, [(13, [4])])
  ,(21, [(29, [4])])
  ,(23, [(58, [3, 4]), (465, []), (1865, [3])])
  ,(24, [(13, [2, 3]), (122, [24]), (978, [])])
  ,(27, [(58, [4]), (465, [])])
  ,(31, [(13, [4, 5]), (59, [4, 5]), (61, [4, 5])])
  ,(32, [(26, [4, 5]), (209, []), (841, [4])])
  ,(33, [(29, [4, 5]), (122, [4, 5, 20]), (978, []), (31333, []), (62669, []), (62671, [4, 5]), (250, [4, 5, 8]), (2001, []), (8009, [4, 5]), (506, [4, 5, 96]), (4050, []), (64819, [4, 5]), (518555, [4, 5])])
  ,(34, [(29, [2]), (125, [4])])
  ,(35, [(58, [4, 6]), (465, []), (3729, []), (7463, [4]), (59707, [4]), (122, [4, 8]), (977, []), (3913, [4]), (250, [4, 9]), (2001, []), (8009, [4])])
  ,(36, [(13, [2, 3])])
  ,(37, [(29, [8])])
  ,(38, [(26, [4, 5]), (209, []), (841, [4])])
  ,(40, [(29, [4])])
  ,(41, [(29, [6, 7])])
  ,(42, [(61, [3])])
  ,(43, [(13, [2])])
  ,(44, [(13, [4])])
  ,(45, [(13, [2])])
  ,(46, [(13, [5])])
  ,(47, [(13, [6]), (233, [21]), (117, [6]), (471, [6]), (1887, [6])])
  ,(48, [(13, [2, 3, 4, 5]), (253, [2, 3, 4, 5]), (1021, [2, 3, 4, 5])])
  ,(49, [(13, [6]), (117, [6]), (471, [6])])
  ,(50, [(13, [2])])
  ,(53, [(13, [2, 3])])
  ,(55, [(13, [2])])
  ,(56, [(13, [4])])
  ,(57, [(125, [4, 5])])
  ,(61, [(105, [5]), (53, [2]), (429, [25]), (215, [2])])
  ,(62, [(26, [2, 4]), (210, []), (3379, [2])])
  ,(64, [(13, [4])])
  ,(66, [(29, [4, 5]), (253, [4, 5])])
  ,(68, [(26, [2, 3]), (209, []), (841, [2])])
  ,(69, [(13, [4])])
  ,(70, [(58, [4, 6]), (465, []), (3731, [4]), (59700, [8]), (477601, [])])
  ,(73, [(13, [8])])
  ,(74, [(29, [6])])
  ,(75, [(13, [6])])
  ,(77, [(13, [6, 7])])
  ,(80, [(6, []), (50, []), (411, [])])
  ,(81, [(13, [2])])
  ,(82, [(13, [4]), (61, [4])])
  ,(83, [(13, [4]), (251, [])])
  ,(84, [(13, [2])])
  ,(86, [(13, [6])])
  ,(87, [(25, [6]), (103, [6])])
  ,(88, [(13, [4]), (250, [5, 6, 7, 8]), (2001, []), (32037, [6]), (64077, [7]), (509, [])])
  ,(89, [(13, [2])])
  ,(90, [(13, [6])])
  ,(94, [(14, [1, 2, 3, 8, 9]), (453, []), (909, []), (1821, [3]), (7293, [11, 12]), (14589, []), (58357, []), (29181, [1]), (466943, [1, 2, 8])])
  ,(95, [(6, [2])])
  ,(97, [(13, [2])])
  ,(98, [(6, [6]), (49, []), (402, [7]), (3217, [])])
  ,(99, [(122, [9]), (977, []), (126, [10]), (1009, [])])
  ,(100, [(7, []), (238, [9]), (1905, []), (30501, [10])])
  ,(101, [(509, [11]), (4073, [10, 11, 12]), (2045, [6, 7]), (8183, [6, 7])])
  ,(102, [(14, [6, 7]), (113, [])])
  ,(103, [(58, [6, 7, 8]), (465, []), (3728, [7]), (29825, []), (7461, [6]), (14925, [6]), (59709, []), (477674, [9]), (3821393, []), (30571153, []), (59711, []), (477690, [10]), (3821521, []), (30572177, [])])
  ,(105, [(60, [9, 10]), (960, [9]), (7681, []), (1924, [10]), (15393, []), (3853, [])])
  ,(106, [(60, [10]), (481, []), (124, [11]), (993, []), (253, [8, 9]), (4092, [10, 11]), (65472, [10]), (523777, []), (130948, [11]), (1047585, []), (261901, [])])
  ,(107, [(13, [0, 2]), (29, [0, 2])])
  ,(108, [(13, [0, 2]), (29, [0, 2]), (61, [0, 2])])
  ,(110, [(6, [8]), (197, []), (397, [9]), (797, [])])
  ,(116, [(13, [8, 9])])
  ]
def ann (f p : Nat) : List Nat := (((annL.lookup f).getD []).lookup p).getD []
def deb : List Int := [0, 1, 56, 2, 57, 49, 28, 3, 61, 58, 42, 50, 38, 29, 17, 4, 62, 47, 59, 36, 45, 43, 51, 22, 53, 39, 33, 30, 24, 18, 12, 5, 63, 55, 48, 27, 60, 41, 37, 16, 46, 35, 44, 21, 52, 32, 23, 11, 54, 26, 40, 15, 34, 20, 31, 10, 25, 14, 19, 9, 13, 8, 7, 6]
def debA : List AV := deb.map fun n => .int .u8 n
def h0 : Heap := (⟨1, .nil⟩ : Heap).put 0 (some (.cells false debA))
def rho0 : Rho := fun i => if i = 0 then some (0, 0, 64) else none
def isTrue : Option (AV × Heap) → Bool
  | some (.bool true, _) => true
  | _ => false
theorem isTrue_some {x : Option (AV × Heap)} (h : isTrue x = true) : ∃ g, x = some (.bool true, g) := by
  unfold isTrue at h
  split at h
  · exact ⟨_, rfl⟩
  · cases h

theorem good : Go.Ab.Good Tryz.prog := by
  have hall : (Tryz.prog.funcs.all fun fn => fn.name != "runtime.NumGoroutine") = true := by kernel_rfl
  intro f fn h e
  have := Array.all_eq_true_iff_forall_mem.1 hall fn (Array.mem_of_getElem? h)
  rw [e] at this
  exact absurd this (by decide)
theorem mixed : Tryz.prog.follows .mixedOrders = true := by kernel_rfl
theorem own : ownKnob Tryz.prog.godebug = none := by kernel_rfl
theorem gTab : Tryz.prog.globalNamed "math/bits.deBruijn64tab" = some 0 := by kernel_rfl
theorem gTabType : (Tryz.prog.globals[0]?).map (·.type) = some 156 := by kernel_rfl
theorem cellsTab : Tryz.prog.cellsOf 156 = 64 := by kernel_rfl
theorem cellsByte : Tryz.prog.cellsOf 5 = 1 := by kernel_rfl
theorem oneGlobal : Tryz.prog.globals.size = 1 := by kernel_rfl

theorem h0_get (i : Nat) : h0.get i = if i = 0 then some (.cells false debA) else none := by
  unfold h0
  rw [Heap.get_put]
  rfl
theorem h0_ro (i : Nat) (b : Blk) (h : h0.get i = some b) : b.wr = false := by
  rw [h0_get] at h
  split at h
  · cases h; rfl
  · cases h
/-- The call's world is the first heap's. -/
theorem rel0 {W : World} (h : Lib.TabIs Tryz.prog W "math/bits.deBruijn64tab" .u8 deb) : Go.Ab.R Tryz.prog rho0 h0 W := by
  unfold Lib.TabIs World.var? at h
  rw [gTab] at h
  simp only [Option.bind_some] at h
  split at h
  · rename_i cs e fz hc
    cases h
    refine ⟨fun i b hb => ?_, fun i j b b' β x x' hne hi hj => ?_, fun i x hx => ?_, fun g hg => ?_⟩
    · rw [h0_get] at hb
      split at hb
      · rename_i hi
        subst hi
        cases hb
        refine ⟨0, 0, 64, _, e, fz, rfl, hc, rfl, Nat.le_of_eq rfl, fun k a ha => ?_, fun _ _ => rfl⟩
        rw [Nat.zero_add]
        simp only [debA, List.getElem?_map, Option.map_eq_some_iff] at ha
        obtain ⟨n, hn, rfl⟩ := ha
        exact ⟨.int .u8 n, by simp [hn], by simp only [VR]⟩
      · cases hb
    · rw [h0_get] at hi hj
      split at hi
      · split at hj
        · rename_i a b; exact absurd (a.trans b.symm) hne
        · cases hj
      · cases hi
    · unfold rho0 at hx
      split at hx
      · rename_i hi; subst hi; exact Nat.zero_lt_one
      · cases hx
    · rw [oneGlobal] at hg
      have : g = 0 := by omega
      subst this
      exact ⟨64, rfl⟩
  · cases h

theorem kept {ρ : Rho} {h : Heap} {W W' : World} (hk : Ab.Keeps ρ h W W') (hro : ∀ i b, h.get i = some b → b.wr = false) (may : MemPlace → Prop) : W.keptBut W' may := by
  refine ⟨hk.os, hk.output, fun i hi => ?_⟩
  have e := hk.old i hi fun j b x hb hw _ => by rw [hro j b hb] at hw; cases hw
  rw [e]
  exact (World.keptBut_refl W may).2.2 i hi

/-- A world for the witness: the settled one, the table holding what its initialiser lays. -/
noncomputable def laidWorld (os : Os) : World :=
  { World.holding Tryz.prog os ⟨#[], #[], []⟩ with heap := (World.holding Tryz.prog os ⟨#[], #[], []⟩).heap.modify 0 fun
      | .cells _ t frozen => .cells (deb.map fun n => Value.int .u8 n).toArray t frozen
      | o => o }
end Go.Proofs.YthhfnocfegapbaaGreatDoor
