/- What instructions are called (layer 11): it is alive. No conditions but those stated. -/
import Derived.Test.YtnhgmdfmhmkpgaaGreatDoorNmE
import Derived.RegionTactic
import Derived.LoopTactic
import Derived.Deep.RegionHeld3
import Derived.Deep.DeepCutAuto
import Derived.Lib.Hide
namespace Go.Proofs.YtnhgmdfmhmkpgaaGreatDoor
open Go.RowKit
open Kit
set_option linter.unusedSimpArgs false
set_option linter.unusedVariables false
namespace Nm
theorem alive_name : nameL (byt [33, 52, 18]) = ([76, 68, 32, 72, 76, 44, 36, 49, 50, 51, 52], 3) := by decide +kernel
theorem alive_pat : patL 1 70 = [66, 73, 84, 32, 48, 44, 40, 72, 76, 41] := by decide +kernel
set_option maxRecDepth 100000 in
set_option maxHeartbeats 4000000 in
theorem alive_any : Held 5 #[] (.bool true) := held' fun W hW => by
  obtain ⟨C, hC⟩ : ∃ C : Array Value, #[.int .u8 33, .int .u8 52, .int .u8 18] = C := ⟨_, rfl⟩
  have k1 := (NB.start hW).alloc #[.int .u8 33, .int .u8 52, .int .u8 18] 5
  have hB : BytesOf (W.alloc (.cells #[.int .u8 33, .int .u8 52, .int .u8 18] 5)) (.slice (some ⟨W.heap.size, 0, none⟩) 3 3) [33, 52, 18] := by
    refine ⟨_, 3, rfl, by decide, fun _ => ⟨W.heap.size, 0, rfl, by simp, fun i x hx => ?_⟩⟩
    rw [Nat.zero_add, cell_of _ _ i k1.h0]
    match i, hx with
    | 0, hx => simp at hx; subst hx; rfl
    | 1, hx => simp at hx; subst hx; rfl
    | 2, hx => simp at hx; subst hx; rfl
    | (i + 3), hx => simp at hx
  have hN := name_any _ _ _ k1.1 hB
  rw [alive_name] at hN
  have HN := Lib.hid hN
  clear hN hB hC
  go_enter Tryz.func5, Tryz.ntmps5
  go_upto_region 2 with (go_at_call 8; refine HN.out.mono ?_; rintro e w2 ⟨s, n, rfl, hs, hz, k2⟩)
  obtain ⟨hs1, hn⟩ := Prod.mk.inj hs
  subst hn
  have t1 : (s.toList == [76, 68, 32, 72, 76, 44, 36, 49, 50, 51, 52]) = true := by rw [Lib.toList_data, hs1]; rfl
  have hP := pattern_any 1 70 (by omega)
  rw [alive_pat] at hP
  have k3 := k1.below k2.2.2
  have HP := Lib.hid hP
  clear hP hs hs1
  go_wp2_with (go_at_call 6; refine (HP.out _ _ _ k3).mono ?_; rintro e w4 ⟨a4, rfl, ha4, hz4, k4⟩; (have t4 : (a4.toList == [66, 73, 84, 32, 48, 44, 40, 72, 76, 41]) = true := by (rw [Lib.toList_data, ha4]; rfl)))
  go_ret
  exact ⟨by simp, ⟨k4.1, fun p hp => (by cases hp), k4.2.2⟩⟩
end Nm
end Go.Proofs.YtnhgmdfmhmkpgaaGreatDoor
