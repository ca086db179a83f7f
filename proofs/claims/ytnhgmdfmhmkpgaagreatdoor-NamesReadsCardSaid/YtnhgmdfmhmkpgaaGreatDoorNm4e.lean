/- What instructions are called (layer 11): extended. No conditions but those stated. -/
import Derived.Test.YtnhgmdfmhmkpgaaGreatDoorNm4b
import Derived.Test.YtnhgmdfmhmkpgaaGreatDoorNm4c
import Derived.Test.YtnhgmdfmhmkpgaaGreatDoorNm4d
import Derived.RegionTactic
import Derived.LoopTactic
import Derived.Deep.RegionHeld3
import Derived.Deep.DeepCutAuto
import Derived.Lib.Hide
namespace Go.Proofs.YtnhgmdfmhmkpgaaGreatDoor
open Go.RowKit
open Kit
set_option linter.unusedSimpArgs false
set_option linter.unusedVariables false
namespace Nm
theorem extended_any (x y z p q : Int) (hx : 0 ≤ x ∧ x < 4) (hy : 0 ≤ y ∧ y < 8) (hz : 0 ≤ z ∧ z < 8) (hp : 0 ≤ p ∧ p < 4) (hq : 0 ≤ q ∧ q < 2) : HeldS 14 #[.agg #[.int .i64 x, .int .i64 y, .int .i64 z, .int .i64 p, .int .i64 q]] (extendedL x y z p q) 40 := by
  rcases (by omega : x = 0 ∨ x = 1 ∨ x = 2 ∨ x = 3) with rfl | rfl | rfl | rfl
  · exact extended_x0 y z p q
  · rcases (by omega : z = 0 ∨ z = 1 ∨ z = 2 ∨ z = 3 ∨ z = 4 ∨ z = 5 ∨ z = 6 ∨ z = 7) with rfl | rfl | rfl | rfl | rfl | rfl | rfl | rfl
    · exact extended_10 y p q hy hp hq
    · exact extended_11 y p q hy hp hq
    · exact extended_12 y p q hy hp hq
    · exact extended_13 y p q hy hp hq
    · exact extended_14 y p q hy hp hq
    · exact extended_15 y p q hy hp hq
    · exact extended_16 y p q hy hp hq
    · exact extended_17 y p q hy hp hq
  · by_cases h : 3 < y
    · by_cases h' : z < 4
      · exact extended_2c y z p q ⟨h, hy.2⟩ ⟨hz.1, h'⟩
      · exact extended_2b y z p q ⟨h, hy.2⟩ ⟨by omega, hz.2⟩
    · exact extended_2a y z p q ⟨hy.1, by omega⟩ hz
  · exact extended_x3 y z p q
end Nm
end Go.Proofs.YtnhgmdfmhmkpgaaGreatDoor
