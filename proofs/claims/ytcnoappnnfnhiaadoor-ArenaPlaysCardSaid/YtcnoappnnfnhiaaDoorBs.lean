/- What a seat's program is to the abstract machine: its table's block, its first heap, the slots that its code hands on; the table is the only condition. -/
import Derived.Test.YtcnoappnnfnhiaaDoorAbS
import Derived.Test.YtcnoappnnfnhiaaDoorCards
import Derived.Test.YtcnoappnnfnhiaaDoorTie
import Derived.OpenShut
import Derived.ProofKit
import Derived.Deep.DeepHandedRow
import Derived.Lib.LaidTab
namespace Go.Proofs.YtcnoappnnfnhiaaDoor
open Go.Ab

def annL : List (Nat × List (Nat × List Nat)) := [
  (3, [(13, [4]), (61, [4]), (125, [4]), (1018, [4, 8]), (8145, []), (521373, [4]), (2085495, [4]), (8341983, [4]), (33367935, [4]), (133471743, [4]), (4271095805, [4]), (34168766441, [4]), (68337532885, []), (8542191615, [4]), (2135547893, [16]), (2135547895, [4]), (33367933, [4]), (33367925, [4]), (266943401, [4]), (66735855, [4]), (16683949, [12]), (66735799, [12]), (16683951, [4])])
  ,(4, [(29, [0])])
  ,(5, [(13, [2, 3]), (122, [24]), (978, [])])
  ,(6, [(58, [4]), (465, [])])
  ,(7, [(25, [6]), (103, [6])])
  ,(8, [(29, [4, 5]), (253, [4, 5])])
  ,(9, [(58, [4, 6]), (465, []), (3731, [4]), (59700, [8]), (477601, [])])
  ,(10, [(29, [4])])
  ,(11, [(29, [4])])
  ,(12, [(6, [8]), (50, [])])
  ,(13, [(6, [2]), (49, [])])
  ,(14, [(13, [4]), (250, [5, 6, 7, 8]), (2001, []), (32037, [6]), (64077, [7]), (509, [])])
  ,(15, [(13, [4]), (251, [])])
  ,(16, [(26, [4, 5]), (209, []), (841, [4])])
  ,(17, [(29, [8])])
  ,(18, [(29, [6, 7])])
  ,(19, [(13, [4]), (58, [4, 5]), (465, []), (3731, [4]), (122, [4, 8]), (977, []), (7826, [4, 9]), (62609, []), (500883, [4])])
  ,(21, [(13, [4])])
  ,(24, [(13, [4])])
  ,(25, [(13, [4])])
  ,(27, [(13, [2])])
  ,(29, [(13, [2])])
  ,(30, [(13, [6])])
  ,(31, [(13, [2])])
  ,(32, [(13, [6])])
  ,(33, [(13, [2])])
  ,(34, [(125, [4, 5])])
  ,(35, [(13, [2])])
  ,(37, [(29, [6])])
  ,(38, [(58, [6, 7, 8]), (465, []), (1865, [6, 7]), (29847, [7])])
  ,(39, [(13, [2])])
  ,(40, [(13, [2])])
  ,(41, [(13, [2])])
  ,(42, [(13, [2])])
  ,(43, [(13, [4]), (61, [4])])
  ,(45, [(13, [4])])
  ]
def ann (f p : Nat) : List Nat := (((annL.lookup f).getD []).lookup p).getD []
def deb : List Int := [0, 1, 56, 2, 57, 49, 28, 3, 61, 58, 42, 50, 38, 29, 17, 4, 62, 47, 59, 36, 45, 43, 51, 22, 53, 39, 33, 30, 24, 18, 12, 5, 63, 55, 48, 27, 60, 41, 37, 16, 46, 35, 44, 21, 52, 32, 23, 11, 54, 26, 40, 15, 34, 20, 31, 10, 25, 14, 19, 9, 13, 8, 7, 6]
def debA : List AV := deb.map fun n => .int .u8 n
def h0 : Heap := (⟨1, .nil⟩ : Heap).put 0 (some (.cells false debA))
def rho0 : Rho := fun i => if i = 0 then some (0, 0, 64) else none
def isTrue : Option (AV × Heap) → Bool
  | some (.bool true, _) => true
  | _ => false
theorem isTrue_some {x : Option (AV × Heap)} (h : isTrue x = true) : ∃ g, x = some (.bool true, g) := by
  unfold isTrue at h
  split at h
  · exact ⟨_, rfl⟩
  · cases h

theorem good : Go.Ab.Good Tryd.prog := by
  have hall : (Tryd.prog.funcs.all fun fn => fn.name != "runtime.NumGoroutine") = true := by kernel_rfl
  intro f fn h e
  have := Array.all_eq_true_iff_forall_mem.1 hall fn (Array.mem_of_getElem? h)
  rw [e] at this
  exact absurd this (by decide)
theorem mixed : Tryd.prog.follows .mixedOrders = true := by kernel_rfl
theorem own : ownKnob Tryd.prog.godebug = none := by kernel_rfl
theorem gTab : Tryd.prog.globalNamed "math/bits.deBruijn64tab" = some 0 := by kernel_rfl
theorem gTabType : (Tryd.prog.globals[0]?).map (·.type) = some 73 := by kernel_rfl
theorem cellsTab : Tryd.prog.cellsOf 73 = 64 := by kernel_rfl
theorem cellsByte : Tryd.prog.cellsOf 5 = 1 := by kernel_rfl
theorem oneGlobal : Tryd.prog.globals.size = 1 := by kernel_rfl

theorem h0_get (i : Nat) : h0.get i = if i = 0 then some (.cells false debA) else none := by
  unfold h0
  rw [Heap.get_put]
  rfl
theorem h0_ro (i : Nat) (b : Blk) (h : h0.get i = some b) : b.wr = false := by
  rw [h0_get] at h
  split at h
  · cases h; rfl
  · cases h
/-- The call's world is the first heap's. -/
theorem rel0 {W : World} (h : Lib.TabIs Tryd.prog W "math/bits.deBruijn64tab" .u8 deb) : Go.Ab.R Tryd.prog rho0 h0 W := by
  unfold Lib.TabIs World.var? at h
  rw [gTab] at h
  simp only [Option.bind_some] at h
  split at h
  · rename_i cs e fz hc
    cases h
    refine ⟨fun i b hb => ?_, fun i j b b' β x x' hne hi hj => ?_, fun i x hx => ?_, fun g hg => ?_⟩
    · rw [h0_get] at hb
      split at hb
      · rename_i hi
        subst hi
        cases hb
        refine ⟨0, 0, 64, _, e, fz, rfl, hc, rfl, Nat.le_of_eq rfl, fun k a ha => ?_, fun _ _ => rfl⟩
        rw [Nat.zero_add]
        simp only [debA, List.getElem?_map, Option.map_eq_some_iff] at ha
        obtain ⟨n, hn, rfl⟩ := ha
        exact ⟨.int .u8 n, by simp [hn], by simp only [VR]⟩
      · cases hb
    · rw [h0_get] at hi hj
      split at hi
      · split at hj
        · rename_i a b; exact absurd (a.trans b.symm) hne
        · cases hj
      · cases hi
    · unfold rho0 at hx
      split at hx
      · rename_i hi; subst hi; exact Nat.zero_lt_one
      · cases hx
    · rw [oneGlobal] at hg
      have : g = 0 := by omega
      subst this
      exact ⟨64, rfl⟩
  · cases h

theorem kept {ρ : Rho} {h : Heap} {W W' : World} (hk : Ab.Keeps ρ h W W') (hro : ∀ i b, h.get i = some b → b.wr = false) (may : MemPlace → Prop) : W.keptBut W' may := by
  refine ⟨hk.os, hk.output, fun i hi => ?_⟩
  have e := hk.old i hi fun j b x hb hw _ => by rw [hro j b hb] at hw; cases hw
  rw [e]
  exact (World.keptBut_refl W may).2.2 i hi

/-- A world for the witness: the settled one, the table holding what its initialiser lays. -/
noncomputable def laidWorld (os : Os) : World :=
  { World.holding Tryd.prog os ⟨#[], #[], []⟩ with heap := (World.holding Tryd.prog os ⟨#[], #[], []⟩).heap.modify 0 fun
      | .cells _ t frozen => .cells (deb.map fun n => Value.int .u8 n).toArray t frozen
      | o => o }
end Go.Proofs.YtcnoappnnfnhiaaDoor
