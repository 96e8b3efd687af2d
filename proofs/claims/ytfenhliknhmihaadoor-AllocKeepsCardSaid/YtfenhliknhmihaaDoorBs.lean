/- What a seat's program is to the abstract machine: its table's block, its first heap, the slots that its code hands on; the table is the only condition. -/
import Derived.Test.YtfenhliknhmihaaDoorAbS
import Derived.Test.YtfenhliknhmihaaDoorCards
import Derived.Test.YtfenhliknhmihaaDoorTie
import Derived.OpenShut
import Derived.ProofKit
import Derived.Deep.DeepHandedRow
import Derived.Lib.LaidTab
namespace Go.Proofs.YtfenhliknhmihaaDoor
open Go.Ab

def annL : List (Nat × List (Nat × List Nat)) := [
  (3, [(13, [0])])
  ,(4, [(13, [4]), (61, [4]), (125, [4]), (1018, [4, 8]), (8145, []), (521373, [4]), (2085495, [4]), (8341983, [4]), (33367935, [4]), (133471743, [4]), (4271095805, [4]), (34168766441, [4]), (68337532885, []), (8542191615, [4]), (2135547893, [16]), (2135547895, [4]), (33367933, [4]), (33367925, [4]), (266943401, [4]), (66735855, [4]), (16683949, [12]), (66735799, [12]), (16683951, [4])])
  ,(5, [(13, [4]), (29, [4]), (125, [4]), (2042, [4, 7, 8, 9]), (16337, []), (522829, []), (4182653, []), (33461242, [4, 15]), (267689937, []), (2141519507, [4]), (4090, [4, 18]), (32721, []), (261778, [4, 19]), (2094225, []), (16753811, [4])])
  ,(6, [(13, [8]), (29, [8]), (125, [8]), (1018, [11, 12]), (8145, []), (65171, [11]), (4090, [15, 16]), (32721, []), (130889, [15]), (4093, [8]), (16378, [8, 17]), (131025, []), (1048211, [8]), (16381, [8])])
  ,(7, [(13, [4]), (29, [4]), (125, [4]), (8186, [4, 9]), (65489, []), (523921, [4]), (1047846, [4, 10]), (8382769, []), (134124327, [4])])
  ,(8, [(13, [0]), (506, [8]), (4049, [])])
  ,(9, [(13, [6]), (29, [6]), (125, [6]), (506, [10]), (4049, []), (4090, [12, 13]), (32721, [])])
  ,(10, [(13, [4]), (29, [4]), (125, [4]), (508, [4, 8]), (16261, []), (32527, [4]), (4092, [4, 11]), (130949, []), (261903, [4])])
  ,(11, [(13, [8]), (29, [8]), (125, [8]), (1018, [12, 13]), (8145, []), (65171, [12]), (4090, [8, 16]), (32721, []), (523558, [8, 19]), (4188465, []), (16753865, [8]), (4092, []), (32737, []), (16378, [8, 20]), (131025, []), (1048211, [8])])
  ,(12, [(29, [0])])
  ,(13, [(13, [2, 3]), (122, [24]), (978, [])])
  ,(14, [(29, [4, 5]), (253, [4, 5])])
  ,(15, [(25, [6]), (103, [6])])
  ,(16, [(29, [6, 7])])
  ,(17, [(29, [8])])
  ,(18, [(13, [4])])
  ,(19, [(29, [4])])
  ,(20, [(13, [4]), (251, [])])
  ,(21, [(58, [4]), (465, [])])
  ,(22, [(58, [4, 6]), (465, []), (3731, [4]), (59700, [8]), (477601, [])])
  ,(23, [(29, [4])])
  ,(24, [(6, [8]), (50, [])])
  ,(25, [(6, [2]), (49, [])])
  ,(26, [(13, [4]), (250, [5, 6, 7, 8]), (2001, []), (32037, [6]), (64077, [7]), (509, [])])
  ,(27, [(26, [4, 5]), (209, []), (841, [4])])
  ,(28, [(13, [4]), (58, [4, 5]), (465, []), (3731, [4]), (122, [4, 8]), (977, []), (7826, [4, 9]), (62609, []), (500883, [4])])
  ,(29, [(13, [2])])
  ,(31, [(6, [4]), (49, []), (1613, []), (6455, []), (25823, []), (103295, []), (413183, [])])
  ,(33, [(13, [4])])
  ,(34, [(13, [4])])
  ,(35, [(29, [0])])
  ,(36, [(29, [2, 3, 4])])
  ,(37, [(29, [4, 5]), (122, [4, 5, 20]), (978, []), (31333, []), (62669, []), (62671, [4, 5]), (250, [4, 5, 8]), (2001, []), (8009, [4, 5]), (506, [4, 5, 96]), (4050, []), (64819, [4, 5]), (518555, [4, 5])])
  ,(38, [(26, [2, 10]), (210, []), (3379, [2])])
  ,(39, [(58, [3, 10]), (466, [])])
  ,(40, [(26, [2, 3]), (209, []), (841, [2])])
  ,(41, [(58, [3, 4]), (465, []), (1865, [3])])
  ,(42, [(13, [2])])
  ,(43, [(6, [8]), (50, [])])
  ,(44, [(58, [3, 11]), (466, []), (7475, [3])])
  ,(47, [(13, [2])])
  ,(48, [(13, [6])])
  ,(49, [(13, [2])])
  ,(51, [(29, [6])])
  ,(52, [(125, [4, 5])])
  ,(54, [(13, [6])])
  ,(55, [(13, [2])])
  ,(56, [(58, [6, 7, 8]), (465, []), (1865, [6, 7]), (29847, [7])])
  ,(57, [(13, [2])])
  ,(58, [(13, [2])])
  ,(62, [(26, [2, 4]), (210, []), (3379, [2])])
  ,(67, [(13, [2])])
  ,(68, [(13, [2])])
  ,(69, [(13, [4]), (61, [4])])
  ,(71, [(13, [4])])
  ,(72, [(13, [8])])
  ]
def ann (f p : Nat) : List Nat := (((annL.lookup f).getD []).lookup p).getD []
def deb : List Int := [0, 1, 56, 2, 57, 49, 28, 3, 61, 58, 42, 50, 38, 29, 17, 4, 62, 47, 59, 36, 45, 43, 51, 22, 53, 39, 33, 30, 24, 18, 12, 5, 63, 55, 48, 27, 60, 41, 37, 16, 46, 35, 44, 21, 52, 32, 23, 11, 54, 26, 40, 15, 34, 20, 31, 10, 25, 14, 19, 9, 13, 8, 7, 6]
def debA : List AV := deb.map fun n => .int .u8 n
def h0 : Heap := (⟨1, .nil⟩ : Heap).put 0 (some (.cells false debA))
def rho0 : Rho := fun i => if i = 0 then some (0, 0, 64) else none
def isTrue : Option (AV × Heap) → Bool
  | some (.bool true, _) => true
  | _ => false
theorem isTrue_some {x : Option (AV × Heap)} (h : isTrue x = true) : ∃ g, x = some (.bool true, g) := by
  unfold isTrue at h
  split at h
  · exact ⟨_, rfl⟩
  · cases h

theorem good : Go.Ab.Good Tryd.prog := by
  have hall : (Tryd.prog.funcs.all fun fn => fn.name != "runtime.NumGoroutine") = true := by kernel_rfl
  intro f fn h e
  have := Array.all_eq_true_iff_forall_mem.1 hall fn (Array.mem_of_getElem? h)
  rw [e] at this
  exact absurd this (by decide)
theorem mixed : Tryd.prog.follows .mixedOrders = true := by kernel_rfl
theorem own : ownKnob Tryd.prog.godebug = none := by kernel_rfl
theorem gTab : Tryd.prog.globalNamed "math/bits.deBruijn64tab" = some 0 := by kernel_rfl
theorem gTabType : (Tryd.prog.globals[0]?).map (·.type) = some 95 := by kernel_rfl
theorem cellsTab : Tryd.prog.cellsOf 95 = 64 := by kernel_rfl
theorem cellsByte : Tryd.prog.cellsOf 5 = 1 := by kernel_rfl
theorem oneGlobal : Tryd.prog.globals.size = 1 := by kernel_rfl

theorem h0_get (i : Nat) : h0.get i = if i = 0 then some (.cells false debA) else none := by
  unfold h0
  rw [Heap.get_put]
  rfl
theorem h0_ro (i : Nat) (b : Blk) (h : h0.get i = some b) : b.wr = false := by
  rw [h0_get] at h
  split at h
  · cases h; rfl
  · cases h
/-- The call's world is the first heap's. -/
theorem rel0 {W : World} (h : Lib.TabIs Tryd.prog W "math/bits.deBruijn64tab" .u8 deb) : Go.Ab.R Tryd.prog rho0 h0 W := by
  unfold Lib.TabIs World.var? at h
  rw [gTab] at h
  simp only [Option.bind_some] at h
  split at h
  · rename_i cs e fz hc
    cases h
    refine ⟨fun i b hb => ?_, fun i j b b' β x x' hne hi hj => ?_, fun i x hx => ?_, fun g hg => ?_⟩
    · rw [h0_get] at hb
      split at hb
      · rename_i hi
        subst hi
        cases hb
        refine ⟨0, 0, 64, _, e, fz, rfl, hc, rfl, Nat.le_of_eq rfl, fun k a ha => ?_, fun h => by cases h⟩
        rw [Nat.zero_add]
        simp only [debA, List.getElem?_map, Option.map_eq_some_iff] at ha
        obtain ⟨n, hn, rfl⟩ := ha
        exact ⟨.int .u8 n, by simp [hn], by simp only [VR]⟩
      · cases hb
    · rw [h0_get] at hi hj
      split at hi
      · split at hj
        · rename_i a b; exact absurd (a.trans b.symm) hne
        · cases hj
      · cases hi
    · unfold rho0 at hx
      split at hx
      · rename_i hi; subst hi; exact Nat.zero_lt_one
      · cases hx
    · rw [oneGlobal] at hg
      have : g = 0 := by omega
      subst this
      exact ⟨64, rfl⟩
  · cases h

theorem kept {ρ : Rho} {h : Heap} {W W' : World} (hk : Ab.Keeps ρ h W W') (hro : ∀ i b, h.get i = some b → b.wr = false) (may : MemPlace → Prop) : W.keptBut W' may := by
  refine ⟨hk.os, hk.output, fun i hi => ?_⟩
  have e := hk.old i hi fun j b x hb hw _ => by rw [hro j b hb] at hw; cases hw
  rw [e]
  exact (World.keptBut_refl W may).2.2 i hi

/-- A world for the witness: the settled one, the table holding what its initialiser lays. -/
noncomputable def laidWorld (os : Os) : World :=
  { World.holding Tryd.prog os ⟨#[], #[], []⟩ with heap := (World.holding Tryd.prog os ⟨#[], #[], []⟩).heap.modify 0 fun
      | .cells _ t frozen => .cells (deb.map fun n => Value.int .u8 n).toArray t frozen
      | o => o }
end Go.Proofs.YtfenhliknhmihaaDoor
