/- What instructions are called (layer 11): a pattern holds each mark at most once. No conditions but those stated. -/
import Derived.Test.YtnhgmdfmhmkpgaaGreatDoorNmRD
import Derived.KernelRfl
namespace Go.Proofs.YtnhgmdfmhmkpgaaGreatDoor
open Go.RowKit
set_option linter.unusedSimpArgs false
set_option linter.unusedVariables false
namespace Nm
def onceOf (P : Str) : Bool := Nat.ble (Lib.count P [43, 100]) 1 && Nat.ble (Lib.count P [110, 110]) 1 && (Lib.contains P [110, 110] || Nat.ble (Lib.count P [110]) 1) && Nat.ble (Lib.count P [101]) 1
def onceB (pg : Int) : Bool := (List.range 256).all fun o => onceOf (patL pg o)
set_option maxRecDepth 100000 in
theorem once0 : onceB 0 = true := by kernel_rfl
set_option maxRecDepth 100000 in
theorem once1 : onceB 1 = true := by kernel_rfl
set_option maxRecDepth 100000 in
theorem once2 : onceB 2 = true := by kernel_rfl
set_option maxRecDepth 100000 in
theorem once3 : onceB 3 = true := by kernel_rfl
set_option maxRecDepth 100000 in
theorem once4 : onceB 4 = true := by kernel_rfl
set_option maxRecDepth 100000 in
theorem once5 : onceB 5 = true := by kernel_rfl
set_option maxRecDepth 100000 in
theorem once6 : onceB 6 = true := by kernel_rfl
end Nm
end Go.Proofs.YtnhgmdfmhmkpgaaGreatDoor
