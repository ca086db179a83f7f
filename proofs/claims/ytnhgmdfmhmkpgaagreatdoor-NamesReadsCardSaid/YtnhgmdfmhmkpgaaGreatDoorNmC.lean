/- What instructions are called (layer 11): cut. No conditions but those stated. -/
import Derived.Test.YtnhgmdfmhmkpgaaGreatDoorNm
import Derived.RegionTactic
import Derived.LoopTactic
import Derived.Deep.RegionHeld3
import Derived.Deep.DeepCutAuto
import Derived.Lib.Hide
namespace Go.Proofs.YtnhgmdfmhmkpgaaGreatDoor
open Go.RowKit
open Kit
set_option linter.unusedSimpArgs false
set_option linter.unusedVariables false
namespace Nm
def xO (o : Nat) : Int := ((o / 64 : Nat) : Int)
def yO (o : Nat) : Int := ((o / 8 % 8 : Nat) : Int)
def zO (o : Nat) : Int := ((o % 8 : Nat) : Int)
def pO (o : Nat) : Int := ((o / 16 % 4 : Nat) : Int)
def qO (o : Nat) : Int := ((o / 8 % 2 : Nat) : Int)
theorem shr3 : ∀ v, v < 256 → (v / 8) &&& 7 = v / 8 % 8 := byte_all _ _ (by decide +kernel)
theorem and7 : ∀ v, v < 256 → v &&& 7 = v % 8 := byte_all _ _ (by decide +kernel)
theorem half8 : ∀ v, v < 256 → v / 8 % 8 / 2 = v / 16 % 4 := byte_all _ _ (by decide +kernel)
theorem mod82 : ∀ v, v < 256 → v / 8 % 8 % 2 = v / 8 % 2 := byte_all _ _ (by decide +kernel)
set_option maxRecDepth 100000 in
set_option maxHeartbeats 4000000 in
theorem cut_any (o : Nat) (ho : o < 256) : Held 10 #[.int .u8 (o : Nat)] (.agg #[.int .i64 (xO o), .int .i64 (yO o), .int .i64 (zO o), .int .i64 (pO o), .int .i64 (qO o)]) := held' fun W hW => by
  have k0 := NB.start hW
  have e1 := shr3 o ho
  have e2 := and7 o ho
  have e3 := half8 o ho
  have e4 := mod82 o ho
  have i5 : (Tryz.prog.info? 30).map (·.size) = some 5 := by kernel_rfl
  go_enter Tryz.func10, Tryz.ntmps10
  go_wp2
  refine bodyPost_ret (v := .agg _) (results_cell_row rfl _ _ W.heap.size 30 _ (0, 0) _ rfl (heap_at _ _ _ rfl) Tryz.underlying30 rfl i5) rfl ⟨?_, k0.allocX _⟩
  rw [show pO o = (o : Int) / 8 % 8 / 2 by unfold pO; omega]
  rfl
end Nm
end Go.Proofs.YtnhgmdfmhmkpgaaGreatDoor
