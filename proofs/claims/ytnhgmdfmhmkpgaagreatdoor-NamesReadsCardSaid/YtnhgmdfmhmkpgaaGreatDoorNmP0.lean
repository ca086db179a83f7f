/- What instructions are called (layer 11): lengths. No conditions but those stated. -/
import Derived.Test.YtnhgmdfmhmkpgaaGreatDoorNm7
namespace Go.Proofs.YtnhgmdfmhmkpgaaGreatDoor
open Go.RowKit
open Kit
set_option linter.unusedSimpArgs false
set_option linter.unusedVariables false
namespace Nm
def lenOk (n o : Nat) : Bool := Nat.ble (patL ((n : Nat) : Int) o).length 40
theorem lens_ok : allB 7 (fun n => allB 256 fun o => lenOk n o) = true := by decide +kernel
theorem pat_len (pg : Int) (o : Nat) (ho : o < 256) : (patL pg o).length ≤ 45 := by
  by_cases h : 0 ≤ pg ∧ pg < 7
  · obtain ⟨n, rfl⟩ := Int.eq_ofNat_of_zero_le h.1
    have := Nat.le_of_ble_eq_true (allB_at (allB_at lens_ok (show n < 7 by omega)) ho)
    omega
  · have : patL pg o = [] := by
      unfold patL
      rw [if_neg (by omega), if_neg (by omega), if_neg (by omega), if_neg (by omega), if_neg (by omega), if_neg (by omega)]
    rw [this]; simp
end Nm
end Go.Proofs.YtnhgmdfmhmkpgaaGreatDoor
