import Derived.Test.YtfenhliknhmihaaDoorQuFn
import Derived.Test.YtfenhliknhmihaaDoorAbS
namespace Go.Ab.F
open Go Go.Ab
set_option linter.all false
attribute [local congr] c_bind c_cl c_mk c_lp c_clC c_gQ c_gV c_condE c_thenK

/-! ### Places -/
def wordsOf (c : Int) : Int := if c = 0 then 2 else if c = 1 then 4 else if c = 2 then 8 else if c = 3 then 16 else if c = 4 then 32 else if c = 5 then 64 else 0
theorem words_eq (c : Int) (h : Heap) : k_geom_Words (.int .i64 c) h = some (.int .i64 (wordsOf c), h) := by
  by_cases h1 : c < 0
  · have : wordsOf c = 0 := by unfold wordsOf; (repeat rw [if_neg (by omega)])
    simp [k_geom_Words, h1, this]
  · by_cases h2 : 6 ≤ c
    · have : wordsOf c = 0 := by unfold wordsOf; (repeat rw [if_neg (by omega)])
      simp [k_geom_Words, h1, h2, this]
    · rcases (by omega : c = 0 ∨ c = 1 ∨ c = 2 ∨ c = 3 ∨ c = 4 ∨ c = 5) with rfl | rfl | rfl | rfl | rfl | rfl <;> rfl
def placesOf (c : Int) : Int := if c = 0 then 32 else if c = 1 then 16 else if c = 2 then 8 else if c = 3 then 4 else if c = 4 then 2 else if c = 5 then 1 else 0
theorem cls_cases (c : Int) : (c = 0 ∨ c = 1 ∨ c = 2 ∨ c = 3 ∨ c = 4 ∨ c = 5) ∨ (wordsOf c = 0 ∧ placesOf c = 0 ∧ (c < 0 ∨ 5 < c)) := by
  by_cases h : 0 ≤ c ∧ c ≤ 5
  · left; omega
  · right
    refine ⟨?_, ?_, by omega⟩ <;> first | unfold wordsOf | unfold placesOf
    all_goals (repeat rw [if_neg (by omega)])
theorem places_eq (c : Int) (h : Heap) : k_geom_Places (.int .i64 c) h = some (.int .i64 (placesOf c), h) := by
  rcases cls_cases c with (rfl | rfl | rfl | rfl | rfl | rfl) | ⟨h1, h2, _⟩
  · rfl
  · rfl
  · rfl
  · rfl
  · rfl
  · rfl
  · simp [k_geom_Places, words_eq, h1, h2]
def spanOf (a : Int) : Int := if 0 ≤ a ∧ a < 32768 then a / 64 else -1
theorem wrap_i64 {n : Int} (h1 : -9223372036854775808 ≤ n) (h2 : n ≤ 9223372036854775807) : IntKind.i64.wrap n = n := by
  simp [IntKind.wrap, IntKind.bits, IntKind.signed]
  omega
theorem wrap_u64 {n : Int} (h1 : 0 ≤ n) (h2 : n < 18446744073709551616) : IntKind.u64.wrap n = n := by
  simp [IntKind.wrap, IntKind.bits, IntKind.signed]
  omega
theorem span_eq (a : Int) (h : Heap) : k_geom_Span (.int .i64 a) h = some (.int .i64 (spanOf a), h) := by
  by_cases h1 : a < 0
  · simp [k_geom_Span, h1, spanOf]; omega
  · by_cases h2 : 32768 ≤ a
    · simp [k_geom_Span, h1, h2, spanOf]; omega
    · have e : a.tdiv 64 = a / 64 := Int.tdiv_eq_ediv_of_nonneg (by omega)
      have : spanOf a = a / 64 := by unfold spanOf; rw [if_pos (by omega)]
      simp [k_geom_Span, h1, h2, this, e]
      exact wrap_i64 (by omega) (by omega)
end Go.Ab.F
