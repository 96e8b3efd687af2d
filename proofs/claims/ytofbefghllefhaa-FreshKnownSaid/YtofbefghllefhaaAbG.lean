/- Calls that are told apart: closed ones, which take and answer plain values, each run by itself. -/
import Derived.Test.YtofbefghllefhaaAbF
namespace Go.Ab
open Go
set_option linter.all false

/-- A call, run from a heap without blocks whose next number is 'lo': its answer, and the next number behind it. -/
structure Told where
  f : FuncId
  args : List AV
  lo : Nat
  v : AV
  hi : Nat
def Told.at (t : Told) (args : List AV) (h : Heap) : Option (AV × Heap) :=
  bif sameL args t.args && Nat.ble h.next t.lo then some (t.v, ⟨t.hi, h.mem⟩) else none
def toldP : List Told → FuncId → Option (List AV → Heap → Option (AV × Heap))
  | [], _ => none
  | t :: l, f => bif Nat.beq t.f f then some t.at else toldP l f
/-- Did the run come out so? -/
def Told.ran (t : Told) (r : Option (AV × Heap)) : Bool :=
  match r with
  | some (v, h) => same v t.v && Nat.beq h.next t.hi
  | none => false

section
variable {P : Program} {call : CallF}

theorem Told.ok (hcall : CallOk P call) {t : Told} (hr : t.ran (call t.f t.args ⟨t.lo, .nil⟩) = true) : CallOk P (fun f args h => bif Nat.beq t.f f then t.at args h else none) := by
  intro f args h v h' hx
  simp only at hx
  by_cases hf : Nat.beq t.f f = true
  · rw [hf, cond_true] at hx
    have hf : t.f = f := Nat.eq_of_beq_eq_true hf
    subst hf
    unfold Told.at at hx
    by_cases hc : (sameL args t.args && Nat.ble h.next t.lo) = true
    · rw [hc, cond_true] at hx
      simp only [Option.some.injEq, Prod.mk.injEq] at hx
      obtain ⟨rfl, rfl⟩ := hx
      simp only [Bool.and_eq_true] at hc
      have ha := sameL_eq hc.1
      have hle : h.next ≤ t.lo := Nat.le_of_ble_eq_true hc.2
      subst ha
      unfold Told.ran at hr
      split at hr
      · rename_i u g hrun
        simp only [Bool.and_eq_true] at hr
        have hu := same_eq hr.1
        have hg : g.next = t.hi := Nat.eq_of_beq_eq_true hr.2
        subst hu
        obtain ⟨hfn, hc2⟩ := hcall _ _ _ _ _ hrun
        refine ⟨hfn, fun ρ w args' hR hA => ?_⟩
        have hR0 : R P ρ ⟨t.lo, .nil⟩ w := hR.fewer hle fun i b hb => by cases hb
        have hRX : R P ρ ⟨t.lo, h.mem⟩ w := hR.fewer hle fun i b hb => hb
        refine (hc2 ρ w args' hR0 hA).mono ?_
        rintro e w' ⟨v', ρ', rfl, hv, hs⟩
        obtain ⟨X', n1, n2, n3, n4⟩ := hs.frame hRX rfl fun x b hb => by cases hb
        refine ⟨v', ρ', rfl, hv, ⟨n4.rel.fewer (by rw [n1, hg]; exact Nat.le_refl _) fun i b hb => n2 i b rfl hb, n4.le,
          ⟨n4.keeps.size, fun β hβ hno => n4.keeps.old β hβ hno, n4.keeps.tape, n4.keeps.os, n4.keeps.output⟩, ?_, fun i _ hn => hn, fun i x hx hn => Nat.le_trans hle (n4.fresh i x hx hn),
          fun i b β x hb hx hβ => n4.grow i b β x (n2 i b rfl hb) hx hβ⟩⟩
        have := hs.next
        rw [hg] at this
        exact Nat.le_trans hle this
      · cases hr
    · rw [Bool.not_eq_true] at hc
      rw [hc] at hx; cases hx
  · rw [Bool.not_eq_true] at hf
    rw [hf] at hx; cases hx

/-- All of a list: each run by itself, the ones behind it told. -/
theorem toldP_ok (hG : Good P) (hm : P.follows .mixedOrders = true) {ann : FuncId → Nat → List Nat} {n : Nat} : ∀ (l : List Told),
    (∀ (k : Nat) (t : Told), l[k]? = some t → t.ran (callF P (toldP (l.drop (k + 1))) ann n t.f t.args ⟨t.lo, .nil⟩) = true) → CallOk P fun f args h => (toldP l f).bind fun g => g args h
  | [], _ => fun f args h v h' hx => by cases hx
  | t :: l, h => by
    have ih := toldP_ok hG hm l fun k u hk => h (k + 1) u (by simpa using hk)
    have hc : CallOk P (callF P (toldP l) ann n) := by
      rw [callF_eq]; exact callN_sound hG hm ih n
    have ht := Told.ok hc (h 0 t rfl)
    intro f args hp v h' hx
    simp only [toldP] at hx
    by_cases hf : Nat.beq t.f f = true
    · rw [hf] at hx
      refine ht f args hp v h' ?_
      simp only [hf, cond_true]
      simpa using hx
    · rw [Bool.not_eq_true] at hf
      rw [hf] at hx
      exact ih f args hp v h' (by simpa using hx)
end
end Go.Ab
