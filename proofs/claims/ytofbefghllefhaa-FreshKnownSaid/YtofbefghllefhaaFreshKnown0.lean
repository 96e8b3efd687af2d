/- The closed call that FreshKnown begins with, run by itself; no condition. -/
import Derived.Test.YtofbefghllefhaaBase
import Derived.Test.YtofbefghllefhaaAbG
namespace Go.Proofs.Ytofbefghllefhaa.freshKnown
open Go.Ab

def told0 : Go.Ab.Told := ⟨30, [], 100, .bool true, 614⟩
def told : List Go.Ab.Told := [told0]
theorem ran0 : told0.ran (callF Try.prog (toldP []) ann 200 told0.f told0.args ⟨told0.lo, .nil⟩) = true := by kernel_rfl
theorem toldOk : CallOk Try.prog fun f args h => (toldP told f).bind fun g => g args h :=
  toldP_ok (ann := ann) (n := 200) good mixed told fun k t hk => by
    cases k with
    | zero => cases hk; exact ran0
    | succ k => cases hk
theorem soundTold (n : Nat) : CallOk Try.prog (callF Try.prog (toldP told) ann n) := by
  rw [callF_eq]
  exact callN_sound good mixed toldOk n
end Go.Proofs.Ytofbefghllefhaa.freshKnown
