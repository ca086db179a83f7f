/- What instructions are called (layer 11): the program's numbers and replacements are the reference's. No conditions but those stated. -/
import Derived.Test.YtnhgmdfmhmkpgaaGreatDoorNmRB
import Derived.Test.YtnhgmdfmhmkpgaaGreatDoorNmR5
import Derived.Test.YtnhgmdfmhmkpgaaGreatDoorNmD
import Derived.KernelRfl
namespace Go.Proofs.YtnhgmdfmhmkpgaaGreatDoor
open Go.RowKit
set_option linter.unusedSimpArgs false
set_option linter.unusedVariables false
namespace Nm
theorem ra_one (s old new : Str) (hne : old ≠ new) (h : Lib.count s old ≤ 1) : RA old new s = Lib.replace s old new 1 := by
  unfold RA Lib.replace Lib.replaceNum
  rw [if_neg (by simpa using hne)]
  by_cases h0 : Lib.count s old = 0
  · rw [if_pos (by omega)]
  · rw [if_neg (by omega), show Lib.count s old = 1 by omega]
    rfl
def sgnB : Bool := (List.range 256).all fun v => sgnL v == rsgnL v
set_option maxRecDepth 100000 in
theorem sgnB_ok : sgnB = true := by kernel_rfl
theorem sgn_eq (v : Nat) (h : v < 256) : sgnL v = rsgnL v := by
  simpa using List.all_eq_true.1 sgnB_ok v (List.mem_range.2 h)
def hex2B : Bool := (List.range 256).all fun v => hexL v 2 == 36 :: rhexL v
set_option maxRecDepth 100000 in
theorem hex2B_ok : hex2B = true := by kernel_rfl
theorem hex2_eq (v : Nat) (h : v < 256) : hexL v 2 = 36 :: rhexL v := by
  simpa using List.all_eq_true.1 hex2B_ok v (List.mem_range.2 h)
end Nm
end Go.Proofs.YtnhgmdfmhmkpgaaGreatDoor
