/- What instructions are called (layer 11): the reference: hex. No conditions but those stated. -/
import Derived.Test.YtnhgmdfmhmkpgaaGreatDoorNmRA
import Derived.RegionTactic
import Derived.LoopTactic
import Derived.Deep.RegionHeld3
import Derived.Deep.DeepCutAuto
import Derived.Lib.Hide
namespace Go.Proofs.YtnhgmdfmhmkpgaaGreatDoor
open Go.RowKit
open Kit
set_option linter.unusedSimpArgs false
set_option linter.unusedVariables false
namespace Nm
set_option maxRecDepth 100000 in
set_option maxHeartbeats 4000000 in
theorem rhex_any (v : Nat) (hv : v < 256) : HeldS 28 #[.int .u8 (v : Nat)] (rhexL v) 2 := heldS fun W hW => by
  have k0 := NB.start hW
  obtain ⟨a, ha⟩ : ∃ a, v / 16 = a := ⟨_, rfl⟩
  obtain ⟨c, hc⟩ : ∃ c, v % 16 = c := ⟨_, rfl⟩
  have a0 : a < 16 := by omega
  have c0 : c < 16 := by omega
  have e1 : IntKind.u8.wrap ((v : Int) / 16) = (a : Int) := by rw [show (v : Int) / 16 = ((v / 16 : Nat) : Int) from rfl, w8 (v / 16) (by omega), ha]
  have e2 : Int.tmod (v : Int) 16 = (c : Int) := by rw [Int.tmod_eq_emod_of_nonneg (by omega)]; omega
  have e3 : IntKind.u8.wrap ((a : Int) + 1) = (a : Int) + 1 := by rw [show (a : Int) + 1 = ((a + 1 : Nat) : Int) from rfl, w8 (a + 1) (by omega)]
  have e4 : IntKind.u8.wrap ((c : Int) + 1) = (c : Int) + 1 := by rw [show (c : Int) + 1 = ((c + 1 : Nat) : Int) from rfl, w8 (c + 1) (by omega)]
  have e5 : IntKind.u8.wrap (c : Int) = (c : Int) := w8 c (by omega)
  have m2 : (0 : Int) ≤ (a : Int) := by omega
  have m3 : (a : Int) ≤ (a : Int) + 1 := by omega
  have m4 : (a : Int) + 1 ≤ 16 := by omega
  have n2 : (0 : Int) ≤ (c : Int) := by omega
  have n3 : (c : Int) ≤ (c : Int) + 1 := by omega
  have n4 : (c : Int) + 1 ≤ 16 := by omega
  have hd1 := dig16 a a0
  have hd2 := dig16 c c0
  have hR : rhexL v = [hxd a] ++ [hxd c] := by rw [← ha, ← hc]; rfl
  rw [hR]
  have z1 : ¬ 9223372036854775807 < (bs [hxd a]).size + (bs [hxd c]).size := by rw [bs_size, bs_size]; simp
  have s1 : (bs [hxd a]).size = 1 := rfl
  have s2 : (bs [hxd c]).size = 1 := rfl
  clear hR ha hc
  generalize hX : bs [hxd a] = X at *
  generalize hY : bs [hxd c] = Y at *
  have HX := Lib.hid hX
  have HY := Lib.hid hY
  clear hX hY
  go_enter Tryz.func28, Tryz.ntmps28
  go_upto_region 1 with fail
  go_region
  all_goals go_wp2_with fail
  all_goals first
    | (exfalso; (try simp only [ByteArray.size_append, size_mk, bs_size, List.length_cons, List.length_nil] at *); omega)
    | (go_ret; exact ⟨_, rfl, by rw [← HX.out, ← HY.out]; simp [bs], by (try simp only [ByteArray.size_append]); omega, (by first | exact k0.bel | exact k0.bel.drew)⟩)
end Nm
end Go.Proofs.YtnhgmdfmhmkpgaaGreatDoor
