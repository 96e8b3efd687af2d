/- What a seat's program is to the abstract machine: its table's block, its first heap, the slots that its code hands on; the table is the only condition. -/
import Derived.Test.YtdbmkdaoljbdoaaGreatDoorAbS
import Derived.Test.YtdbmkdaoljbdoaaGreatDoorCards
import Derived.Test.YtdbmkdaoljbdoaaGreatDoorTie
import Derived.OpenShut
import Derived.ProofKit
import Derived.Deep.DeepHandedRow
import Derived.Lib.LaidTab
namespace Go.Proofs.YtdbmkdaoljbdoaaGreatDoor
open Go.Ab

def annL : List (Nat × List (Nat × List Nat)) := [
  (3, [(13, [10]), (61, [10]), (509, [14, 15, 16]), (1021, [14, 16]), (8171, [14]), (16381, [10]), (65533, [10]), (262141, []), (524285, []), (2097149, [10]), (8388605, [26]), (67108843, [26])])
  ,(4, [(29, [0])])
  ,(5, [(29, [4, 5]), (250, [4, 5, 26]), (2002, []), (64103, [4, 5])])
  ,(7, [(13, [8, 9]), (125, [11, 12]), (253, [8, 9]), (2045, [8, 9])])
  ,(8, [(13, [8])])
  ,(10, [(13, [4])])
  ,(11, [(13, [6])])
  ,(14, [(13, [8, 9])])
  ,(15, [(13, [14])])
  ,(16, [(27, [14])])
  ,(17, [(27, [8, 9])])
  ,(18, [(29, [4, 5])])
  ,(19, [(29, [6]), (125, [6]), (509, [6])])
  ,(20, [(13, [4, 5]), (59, [4, 5]), (123, [4, 5])])
  ,(22, [(29, [2, 3])])
  ,(24, [(13, [4, 5]), (59, [4, 5]), (61, [4, 5])])
  ,(25, [(13, [2])])
  ,(26, [(29, [])])
  ,(27, [(4, []), (33, []), (14, []), (113, [])])
  ,(28, [(13, [2, 3])])
  ,(30, [(29, [8])])
  ,(31, [(6, [8]), (50, [])])
  ,(32, [(6, [8]), (50, [])])
  ,(37, [(29, [6, 7])])
  ,(38, [(5, [])])
  ,(39, [(57, [8]), (231, [8])])
  ,(40, [(61, [3])])
  ,(41, [(13, [5])])
  ,(42, [(105, [5]), (53, [2]), (429, [25]), (215, [2])])
  ,(43, [(26, [4, 8]), (210, []), (3379, [4])])
  ,(44, [(13, [2, 3]), (122, [24]), (978, [])])
  ,(48, [(29, [4, 5]), (122, [4, 5, 20]), (978, []), (31333, []), (62669, []), (62671, [4, 5]), (250, [4, 5, 8]), (2001, []), (8009, [4, 5]), (506, [4, 5, 96]), (4050, []), (64819, [4, 5]), (518555, [4, 5])])
  ,(49, [(29, [4])])
  ,(50, [(53, [4]), (215, [4]), (863, [4]), (3453, []), (1721, [4]), (3447, []), (427, [])])
  ,(52, [(13, [8])])
  ,(53, [(29, [6])])
  ,(54, [(13, [4])])
  ,(55, [(26, [4, 8]), (210, []), (3379, [4])])
  ,(56, [(13, [6]), (233, [21]), (117, [6]), (471, [6]), (1887, [6])])
  ,(57, [(5, []), (15, [])])
  ,(58, [(13, [6])])
  ,(61, [(26, [2, 4]), (210, []), (3379, [2])])
  ,(62, [(13, [4])])
  ,(64, [(13, [4])])
  ,(66, [(29, [4, 5]), (253, [4, 5])])
  ,(68, [(125, [4, 5])])
  ,(69, [(29, [4, 5])])
  ,(70, [(29, [2]), (122, [21]), (978, [])])
  ,(71, [(6, [8]), (50, [])])
  ,(72, [(26, [2, 10]), (210, []), (3379, [2])])
  ,(73, [(58, [3, 10]), (466, [])])
  ,(76, [(13, [2])])
  ,(79, [(13, [4]), (251, [])])
  ,(80, [(13, [2])])
  ,(82, [(13, [6])])
  ,(83, [(25, [6]), (103, [6])])
  ,(84, [(13, [2])])
  ,(85, [(13, [4]), (61, [4])])
  ,(86, [(29, [4]), (122, [5, 6]), (977, []), (7827, [5])])
  ,(87, [(13, [2])])
  ,(89, [(13, []), (122, [3, 4]), (977, [])])
  ,(90, [(13, [2, 3])])
  ,(91, [(29, [4]), (125, [4]), (509, [4]), (4090, [9, 59]), (32722, []), (1047143, [9])])
  ,(93, [(13, [2])])
  ,(94, [(26, [4, 8]), (210, []), (3379, [4])])
  ]
def ann (f p : Nat) : List Nat := (((annL.lookup f).getD []).lookup p).getD []
def deb : List Int := [0, 1, 56, 2, 57, 49, 28, 3, 61, 58, 42, 50, 38, 29, 17, 4, 62, 47, 59, 36, 45, 43, 51, 22, 53, 39, 33, 30, 24, 18, 12, 5, 63, 55, 48, 27, 60, 41, 37, 16, 46, 35, 44, 21, 52, 32, 23, 11, 54, 26, 40, 15, 34, 20, 31, 10, 25, 14, 19, 9, 13, 8, 7, 6]
def debA : List AV := deb.map fun n => .int .u8 n
def h0 : Heap := (⟨1, .nil⟩ : Heap).put 0 (some (.cells false debA))
def rho0 : Rho := fun i => if i = 0 then some (0, 0, 64) else none
def isTrue : Option (AV × Heap) → Bool
  | some (.bool true, _) => true
  | _ => false
theorem isTrue_some {x : Option (AV × Heap)} (h : isTrue x = true) : ∃ g, x = some (.bool true, g) := by
  unfold isTrue at h
  split at h
  · exact ⟨_, rfl⟩
  · cases h

theorem good : Go.Ab.Good Tryz.prog := by
  have hall : (Tryz.prog.funcs.all fun fn => fn.name != "runtime.NumGoroutine") = true := by kernel_rfl
  intro f fn h e
  have := Array.all_eq_true_iff_forall_mem.1 hall fn (Array.mem_of_getElem? h)
  rw [e] at this
  exact absurd this (by decide)
theorem mixed : Tryz.prog.follows .mixedOrders = true := by kernel_rfl
theorem own : ownKnob Tryz.prog.godebug = none := by kernel_rfl
theorem gTab : Tryz.prog.globalNamed "math/bits.deBruijn64tab" = some 0 := by kernel_rfl
theorem gTabType : (Tryz.prog.globals[0]?).map (·.type) = some 154 := by kernel_rfl
theorem cellsTab : Tryz.prog.cellsOf 154 = 64 := by kernel_rfl
theorem cellsByte : Tryz.prog.cellsOf 5 = 1 := by kernel_rfl
theorem oneGlobal : Tryz.prog.globals.size = 1 := by kernel_rfl

theorem h0_get (i : Nat) : h0.get i = if i = 0 then some (.cells false debA) else none := by
  unfold h0
  rw [Heap.get_put]
  rfl
theorem h0_ro (i : Nat) (b : Blk) (h : h0.get i = some b) : b.wr = false := by
  rw [h0_get] at h
  split at h
  · cases h; rfl
  · cases h
/-- The call's world is the first heap's. -/
theorem rel0 {W : World} (h : Lib.TabIs Tryz.prog W "math/bits.deBruijn64tab" .u8 deb) : Go.Ab.R Tryz.prog rho0 h0 W := by
  unfold Lib.TabIs World.var? at h
  rw [gTab] at h
  simp only [Option.bind_some] at h
  split at h
  · rename_i cs e fz hc
    cases h
    refine ⟨fun i b hb => ?_, fun i j b b' β x x' hne hi hj => ?_, fun i x hx => ?_, fun g hg => ?_⟩
    · rw [h0_get] at hb
      split at hb
      · rename_i hi
        subst hi
        cases hb
        refine ⟨0, 0, 64, _, e, fz, rfl, hc, rfl, Nat.le_of_eq rfl, fun k a ha => ?_, fun _ _ => rfl⟩
        rw [Nat.zero_add]
        simp only [debA, List.getElem?_map, Option.map_eq_some_iff] at ha
        obtain ⟨n, hn, rfl⟩ := ha
        exact ⟨.int .u8 n, by simp [hn], by simp only [VR]⟩
      · cases hb
    · rw [h0_get] at hi hj
      split at hi
      · split at hj
        · rename_i a b; exact absurd (a.trans b.symm) hne
        · cases hj
      · cases hi
    · unfold rho0 at hx
      split at hx
      · rename_i hi; subst hi; exact Nat.zero_lt_one
      · cases hx
    · rw [oneGlobal] at hg
      have : g = 0 := by omega
      subst this
      exact ⟨64, rfl⟩
  · cases h

theorem kept {ρ : Rho} {h : Heap} {W W' : World} (hk : Ab.Keeps ρ h W W') (hro : ∀ i b, h.get i = some b → b.wr = false) (may : MemPlace → Prop) : W.keptBut W' may := by
  refine ⟨hk.os, hk.output, fun i hi => ?_⟩
  have e := hk.old i hi fun j b x hb hw _ => by rw [hro j b hb] at hw; cases hw
  rw [e]
  exact (World.keptBut_refl W may).2.2 i hi

/-- A world for the witness: the settled one, the table holding what its initialiser lays. -/
noncomputable def laidWorld (os : Os) : World :=
  { World.holding Tryz.prog os ⟨#[], #[], []⟩ with heap := (World.holding Tryz.prog os ⟨#[], #[], []⟩).heap.modify 0 fun
      | .cells _ t frozen => .cells (deb.map fun n => Value.int .u8 n).toArray t frozen
      | o => o }
end Go.Proofs.YtdbmkdaoljbdoaaGreatDoor
