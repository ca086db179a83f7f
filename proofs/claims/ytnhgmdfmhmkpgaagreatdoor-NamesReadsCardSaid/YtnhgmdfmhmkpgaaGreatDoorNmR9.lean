/- What instructions are called (layer 11): the program's patterns are the reference's. No conditions but those stated. -/
import Derived.Test.YtnhgmdfmhmkpgaaGreatDoorNmR8
import Derived.Test.YtnhgmdfmhmkpgaaGreatDoorNm7
import Derived.KernelRfl
namespace Go.Proofs.YtnhgmdfmhmkpgaaGreatDoor
open Go.RowKit
set_option linter.unusedSimpArgs false
set_option linter.unusedVariables false
namespace Nm
def samePB (pg : Int) : Bool := (List.range 256).all fun o => patL pg o == rpatL pg o
set_option maxRecDepth 100000 in
theorem sameP0 : samePB 0 = true := by kernel_rfl
set_option maxRecDepth 100000 in
theorem sameP1 : samePB 1 = true := by kernel_rfl
set_option maxRecDepth 100000 in
theorem sameP2 : samePB 2 = true := by kernel_rfl
set_option maxRecDepth 100000 in
theorem sameP3 : samePB 3 = true := by kernel_rfl
set_option maxRecDepth 100000 in
theorem sameP4 : samePB 4 = true := by kernel_rfl
set_option maxRecDepth 100000 in
theorem sameP5 : samePB 5 = true := by kernel_rfl
set_option maxRecDepth 100000 in
theorem sameP6 : samePB 6 = true := by kernel_rfl
theorem sameP_of {pg : Int} (h : samePB pg = true) {o : Nat} (ho : o < 256) : patL pg o = rpatL pg o := by
  simpa using List.all_eq_true.1 h o (List.mem_range.2 ho)
theorem pat_eq (pg : Int) (o : Nat) (ho : o < 256) : patL pg o = rpatL pg o := by
  by_cases hn : 0 ≤ pg ∧ pg ≤ 6
  · rcases (by omega : pg = 0 ∨ pg = 1 ∨ pg = 2 ∨ pg = 3 ∨ pg = 4 ∨ pg = 5 ∨ pg = 6) with rfl | rfl | rfl | rfl | rfl | rfl | rfl
    · exact sameP_of sameP0 ho
    · exact sameP_of sameP1 ho
    · exact sameP_of sameP2 ho
    · exact sameP_of sameP3 ho
    · exact sameP_of sameP4 ho
    · exact sameP_of sameP5 ho
    · exact sameP_of sameP6 ho
  · unfold patL rpatL
    rw [if_neg (by omega), if_neg (by omega), if_neg (by omega), if_neg (by omega), if_neg (by omega), if_neg (by omega)]
    rw [if_neg (by omega), if_neg (by omega), if_neg (by omega), if_neg (by omega), if_neg (by omega), if_neg (by omega)]
end Nm
end Go.Proofs.YtnhgmdfmhmkpgaaGreatDoor
