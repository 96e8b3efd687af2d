import Derived.Test.YtfenhliknhmihaaDoorA3
import Derived.Test.YtfenhliknhmihaaDoorSp
namespace Go.Ab.F
open Go Go.Ab
set_option linter.all false
attribute [local congr] c_bind c_cl c_mk c_lp c_clC c_gQ c_gV c_condE c_thenK

/-! ### A span, an arena -/
structure PSp where
  cls : Int
  tk : BitVec 64
  md : BitVec 64
def spC (s : PSp) : List AV := [.int .i64 s.cls, .int .u64 s.tk.toNat, .int .u64 s.md.toNat]
def spsC : List PSp → List AV
  | [] => []
  | s :: l => .int .i64 s.cls :: .int .u64 s.tk.toNat :: .int .u64 s.md.toNat :: spsC l
theorem spsC_length : ∀ l, (spsC l).length = l.length * 3
  | [] => rfl
  | s :: l => by simp only [spsC, List.length_cons, spsC_length l]; omega
theorem spsC_0 : ∀ {l : List PSp} {i : Nat} {s : PSp}, l[i]? = some s → (spsC l)[i * 3]? = some (.int .i64 s.cls)
  | [], i, s, h => by simp at h
  | t :: l, 0, s, h => by simp at h; subst h; rfl
  | t :: l, i + 1, s, h => by
    rw [show (i + 1) * 3 = i * 3 + 1 + 1 + 1 by omega]
    simp only [spsC, List.getElem?_cons_succ]
    exact spsC_0 (by simpa using h)
theorem spsC_1 : ∀ {l : List PSp} {i : Nat} {s : PSp}, l[i]? = some s → (spsC l)[i * 3 + 1]? = some (.int .u64 s.tk.toNat)
  | [], i, s, h => by simp at h
  | t :: l, 0, s, h => by simp at h; subst h; rfl
  | t :: l, i + 1, s, h => by
    rw [show (i + 1) * 3 + 1 = i * 3 + 1 + 1 + 1 + 1 by omega]
    simp only [spsC, List.getElem?_cons_succ]
    exact spsC_1 (by simpa using h)
theorem spsC_2 : ∀ {l : List PSp} {i : Nat} {s : PSp}, l[i]? = some s → (spsC l)[i * 3 + 2]? = some (.int .u64 s.md.toNat)
  | [], i, s, h => by simp at h
  | t :: l, 0, s, h => by simp at h; subst h; rfl
  | t :: l, i + 1, s, h => by
    rw [show (i + 1) * 3 + 2 = i * 3 + 2 + 1 + 1 + 1 by omega]
    simp only [spsC, List.getElem?_cons_succ]
    exact spsC_2 (by simpa using h)
theorem spsC_set0 : ∀ {l : List PSp} {i : Nat} {s : PSp} (c : Int), l[i]? = some s → (spsC l).set (i * 3) (.int .i64 c) = spsC (l.set i ⟨c, s.tk, s.md⟩)
  | [], i, s, c, h => by simp at h
  | t :: l, 0, s, c, h => by simp at h; subst h; rfl
  | t :: l, i + 1, s, c, h => by
    rw [show (i + 1) * 3 = i * 3 + 1 + 1 + 1 by omega]
    simp only [spsC, List.set_cons_succ]
    rw [spsC_set0 c (by simpa using h)]
theorem spsC_set1 : ∀ {l : List PSp} {i : Nat} {s : PSp} (b : BitVec 64), l[i]? = some s → (spsC l).set (i * 3 + 1) (.int .u64 b.toNat) = spsC (l.set i ⟨s.cls, b, s.md⟩)
  | [], i, s, c, h => by simp at h
  | t :: l, 0, s, c, h => by simp at h; subst h; rfl
  | t :: l, i + 1, s, c, h => by
    rw [show (i + 1) * 3 + 1 = i * 3 + 1 + 1 + 1 + 1 by omega]
    simp only [spsC, List.set_cons_succ]
    rw [spsC_set1 c (by simpa using h)]
theorem spsC_set2 : ∀ {l : List PSp} {i : Nat} {s : PSp} (b : BitVec 64), l[i]? = some s → (spsC l).set (i * 3 + 2) (.int .u64 b.toNat) = spsC (l.set i ⟨s.cls, s.tk, b⟩)
  | [], i, s, c, h => by simp at h
  | t :: l, 0, s, c, h => by simp at h; subst h; rfl
  | t :: l, i + 1, s, c, h => by
    rw [show (i + 1) * 3 + 2 = i * 3 + 2 + 1 + 1 + 1 by omega]
    simp only [spsC, List.set_cons_succ]
    rw [spsC_set2 c (by simpa using h)]
theorem spsC_splice : ∀ {l : List PSp} {i : Nat} (s : PSp), i < l.length → splice (spsC l) (i * 3) (spC s) = some (spsC (l.set i s))
  | [], i, s, h => by simp at h
  | t :: l, 0, s, h => by simp [spsC, spC, splice]
  | t :: l, i + 1, s, h => by
    rw [show (i + 1) * 3 = i * 3 + 1 + 1 + 1 by omega]
    simp only [spsC, splice, spsC_splice s (show i < l.length by simpa using h), Option.map_some, List.set_cons_succ]

structure PAr where
  ws : List Int
  sp : List PSp
def wsC (l : List Int) : List AV := l.map fun n => .int .i64 n
/-- A slice whose room is known, or is not. -/
def capOk (sz n : Nat) (c : Cap) : Prop := c = .ex n ∨ c = .un sz
structure ArAt (h : Heap) (p w s : Nat) (a : PAr) : Prop where
  hp : ∃ c d, capOk 1 a.ws.length c ∧ h.get p = some (.cells true [.sl (some (w, 0)) a.ws.length c, .sl (some (s, 0)) a.sp.length d])
  hw : h.get w = some (.cells true (wsC a.ws))
  hs : h.get s = some (.cells true (spsC a.sp))
  pw : p ≠ w
  ps : p ≠ s
  sw : s ≠ w
  lp : p < h.next
  lw : w < h.next
  ls : s < h.next
  len : a.ws.length = a.sp.length * 64
  lo : 8 ≤ a.sp.length
  hi : a.sp.length ≤ 512
theorem ArAt.same {h h' : Heap} {p w s : Nat} {a : PAr} {S : List Nat} (H : ArAt h p w s a) (hs : Same S h h') (hp : p ∉ S) (hw : w ∉ S) (hss : s ∉ S) : ArAt h' p w s a :=
  { H with
    hp := by rw [hs.get p H.lp hp]; exact H.hp
    hw := by rw [hs.get w H.lw hw]; exact H.hw
    hs := by rw [hs.get s H.ls hss]; exact H.hs
    lp := Nat.lt_of_lt_of_le H.lp hs.next
    lw := Nat.lt_of_lt_of_le H.lw hs.next
    ls := Nat.lt_of_lt_of_le H.ls hs.next }

def PAr.has (a : PAr) (n : Int) : Prop := 1 ≤ n ∧ n < a.sp.length
instance (a : PAr) (n : Int) : Decidable (a.has n) := by unfold PAr.has; infer_instance
def PAr.at (a : PAr) (n : Int) : PSp := (a.sp[n.toNat]?).getD ⟨-1, 0, 0⟩
def PAr.cls (a : PAr) (n : Int) : Int := if a.has n then (a.at n).cls else -1
theorem PAr.at_some {a : PAr} {n : Int} (h : a.has n) : a.sp[n.toNat]? = some (a.at n) := by
  unfold PAr.at
  have : n.toNat < a.sp.length := by have := h.1; have := h.2; omega
  rw [List.getElem?_eq_getElem this]; rfl

section
variable {h : Heap} {p w s : Nat} {a : PAr} (H : ArAt h p w s a)
include H
theorem ArAt.ld1 : ∃ d, ldS h (.ptr (some (p, 1))) = some (.sl (some (s, 0)) a.sp.length d) := by
  obtain ⟨c, d, _, hp⟩ := H.hp
  exact ⟨d, by rw [ldS_at hp]; rfl⟩
theorem ArAt.ld0 : ∃ c, capOk 1 a.ws.length c ∧ ldS h (.ptr (some (p, 0))) = some (.sl (some (w, 0)) a.ws.length c) := by
  obtain ⟨c, d, hc, hp⟩ := H.hp
  exact ⟨c, hc, by rw [ldS_at hp]; rfl⟩
theorem spans_eq : k_arena_Arena_Spans (.ptr (some (p, 0))) h = some (.int .i64 a.sp.length, h) := by
  obtain ⟨d, hd⟩ := H.ld1
  simp -implicitDefEqProofs [k_arena_Arena_Spans, hd]
theorem has_eq (n : Int) : k_arena_Arena_has (.ptr (some (p, 0))) (.int .i64 n) h = some (.bool (decide (a.has n)), h) := by
  obtain ⟨d, hd⟩ := H.ld1
  by_cases h1 : 1 ≤ n
  · simp -implicitDefEqProofs [k_arena_Arena_has, hd, h1, PAr.has]
  · simp -implicitDefEqProofs [k_arena_Arena_has, h1, PAr.has]
theorem class_eq (n : Int) : k_arena_Arena_Class (.ptr (some (p, 0))) (.int .i64 n) h = some (.int .i64 (a.cls n), h) := by
  obtain ⟨d, hd⟩ := H.ld1
  by_cases h1 : a.has n
  · have hl := ldS_at (o := n.toNat * 3) H.hs
    rw [spsC_0 (PAr.at_some h1)] at hl
    simp -implicitDefEqProofs [k_arena_Arena_Class, has_eq H, hd, h1, PAr.cls, iaS_sl 3 (s, 0) _ _ .i64 n ⟨by have := h1.1; omega, h1.2⟩, hl]
  · simp -implicitDefEqProofs [k_arena_Arena_Class, has_eq H, h1, PAr.cls]
end
end Go.Ab.F
