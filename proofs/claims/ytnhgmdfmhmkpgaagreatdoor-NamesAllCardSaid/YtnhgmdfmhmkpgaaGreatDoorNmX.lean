/- What instructions are called (layer 11): each instruction of any page: the walk. No conditions but those stated. -/
import Derived.Test.YtnhgmdfmhmkpgaaGreatDoorNmM
import Derived.Test.YtnhgmdfmhmkpgaaGreatDoorNmR9
import Derived.RegionTactic
import Derived.LoopTactic
import Derived.Deep.RegionHeld3
import Derived.Deep.DeepCutAuto
import Derived.Lib.Hide
namespace Go.Proofs.YtnhgmdfmhmkpgaaGreatDoor
open Go.RowKit
open Kit
set_option linter.unusedSimpArgs false
set_option linter.unusedVariables false
namespace Nm
theorem u8_nat {x : Int} (h : (Lit.int .u8 x).wf = true) : ∃ n : Nat, x = n ∧ n < 256 := by
  have : 0 ≤ x ∧ x < 256 := by
    simp [Lit.wf, IntKind.min, IntKind.max, IntKind.signed, IntKind.bits] at h
    omega
  exact ⟨x.toNat, by omega, by omega⟩
set_option maxRecDepth 100000 in
set_option maxHeartbeats 4000000 in
theorem all_any (pg : Int) (a : Nat) (ha : a < 256) : Held 3 #[.int .i64 pg, .int .u8 (a : Nat)] (.bool true) := held' fun W hW => by
  have k0 := NB.start hW
  have HA := Lib.hid alive_any
  have H1 := Lib.hid (pattern_any pg a ha)
  have hC := rpat_any pg a ha
  rw [← pat_eq pg a ha] at hC
  have H2 := Lib.hid hC
  clear hC
  generalize patL pg a = A at *
  go_enter Tryz.func3, Tryz.ntmps3
  go_wp2_with (first
    | (go_at_call 5; with_reducible refine (HA.out _ _ _ k0).mono ?_; rintro e w5 ⟨rfl, k5⟩)
    | (go_at_call 6; with_reducible refine (H1.out _ _ _ k5).mono ?_; rintro e w6 ⟨p, rfl, hp, hz6, k6⟩; (have hp := Lib.hid hp))
    | (go_at_call 7; with_reducible refine (H2.out _ _ _ k6).mono ?_; rintro e w7 ⟨q, rfl, hq, hz7, k7⟩; (have te : (p.toList == q.toList) = true := by (rw [Lib.toList_data, Lib.toList_data, hp.out, hq]; simp)); (have hq := Lib.hid hq)))
  go_ret
  exact ⟨by simp, ⟨k7.1, fun p hp => (by cases hp), k7.2.2⟩⟩
theorem namesAll_walk (pg : Int) (x : Int) (wx : (Lit.int .u8 x).wf = true) (w : World) (hw : GV w) : Calls Tryz.prog 3 #[.int .i64 pg, .int .u8 x] w fun e w' => e = .returned (.bool true) ∧ Below w.heap.size w w' := by
  obtain ⟨a, rfl, ha⟩ := u8_nat wx
  exact (all_any pg a ha w [] w (NB.start hw)).mono fun e w' ⟨h1, h2⟩ => ⟨h1, h2.2.2⟩
end Nm
end Go.Proofs.YtnhgmdfmhmkpgaaGreatDoor
