/- Registers (layer 10): what the program's functions do, the second part. No conditions but that numbers are of their kinds. -/
import Derived.Test.YthghpgnnbdimaaaRegsA
import Derived.RegionTactic
import Derived.Deep.DeepCutAuto
import Derived.Lib.Hide
import Derived.Deep.CutRange
import Derived.LoopTactic
import Derived.Deep.RegionHeld3
namespace Go.Proofs.Ythghpgnnbdimaaa
open Go.RowKit
open Kit R06
set_option linter.unusedSimpArgs false
set_option linter.unusedVariables false
attribute [local simp] blkAt_alloc blkNew_cells putRow_cells blkAt_drew BlkN.set BlkOne.setInt BlkOne.setBool blkPut_alloc blkPut_drew nq2 nq3 nq4 nq5 nq6 nq7 nq8
namespace Regs
attribute [local simp ↓] rl_in rs_in
attribute [local simp] rl_run rs_run
theorem u8_wf {z : Int} (h : 0 ≤ z ∧ z < 256) : (Lit.int .u8 z).wf = true := by simp [Lit.wf, IntKind.min, IntKind.max, IntKind.signed, IntKind.bits]; omega
theorem u16_wf {z : Int} (h : 0 ≤ z ∧ z < 65536) : (Lit.int .u16 z).wf = true := by simp [Lit.wf, IntKind.min, IntKind.max, IntKind.signed, IntKind.bits]; omega
set_option maxRecDepth 100000 in
set_option maxHeartbeats 4000000 in
theorem leavesR (f : Nat → Int) (h : RB f) : leavesOk [some .u8, some .u8, some .u8, some .u8, some .u8, some .u8, some .u8, some .u8, some .u8, some .u8, some .u8, some .u8, some .u8, some .u8, some .u8, some .u8, some .u16, some .u16, some .u16, some .u16, some .u16, some .u8, some .u8, some .u8, some .u8, none, none, none, none] (R f).toList := ⟨⟨_, rfl, u8_wf (h.1 0 (by omega))⟩, ⟨_, rfl, u8_wf (h.1 1 (by omega))⟩, ⟨_, rfl, u8_wf (h.1 2 (by omega))⟩, ⟨_, rfl, u8_wf (h.1 3 (by omega))⟩, ⟨_, rfl, u8_wf (h.1 4 (by omega))⟩, ⟨_, rfl, u8_wf (h.1 5 (by omega))⟩, ⟨_, rfl, u8_wf (h.1 6 (by omega))⟩, ⟨_, rfl, u8_wf (h.1 7 (by omega))⟩, ⟨_, rfl, u8_wf (h.1 8 (by omega))⟩, ⟨_, rfl, u8_wf (h.1 9 (by omega))⟩, ⟨_, rfl, u8_wf (h.1 10 (by omega))⟩, ⟨_, rfl, u8_wf (h.1 11 (by omega))⟩, ⟨_, rfl, u8_wf (h.1 12 (by omega))⟩, ⟨_, rfl, u8_wf (h.1 13 (by omega))⟩, ⟨_, rfl, u8_wf (h.1 14 (by omega))⟩, ⟨_, rfl, u8_wf (h.1 15 (by omega))⟩, ⟨_, rfl, u16_wf (h.2.1 16 (by omega) (by omega))⟩, ⟨_, rfl, u16_wf (h.2.1 17 (by omega) (by omega))⟩, ⟨_, rfl, u16_wf (h.2.1 18 (by omega) (by omega))⟩, ⟨_, rfl, u16_wf (h.2.1 19 (by omega) (by omega))⟩, ⟨_, rfl, u16_wf (h.2.1 20 (by omega) (by omega))⟩, ⟨_, rfl, u8_wf (h.2.2 21 (by omega) (by omega))⟩, ⟨_, rfl, u8_wf (h.2.2 22 (by omega) (by omega))⟩, ⟨_, rfl, u8_wf (h.2.2 23 (by omega) (by omega))⟩, ⟨_, rfl, u8_wf (h.2.2 24 (by omega) (by omega))⟩, ⟨_, rfl⟩, ⟨_, rfl⟩, ⟨_, rfl⟩, ⟨_, rfl⟩, trivial⟩
set_option maxRecDepth 100000 in
set_option maxHeartbeats 4000000 in
theorem eqR (f : Nat → Int) (h : RB f) (w : World) : (Op.equalIn 10000 25 (.agg (R f)) (.agg (R f))).run Try.prog w = .ok true w := eq_self 6 6 25 [some .u8, some .u8, some .u8, some .u8, some .u8, some .u8, some .u8, some .u8, some .u8, some .u8, some .u8, some .u8, some .u8, some .u8, some .u8, some .u8, some .u16, some .u16, some .u16, some .u16, some .u16, some .u8, some .u8, some .u8, some .u8, none, none, none, none] (by kernel_rfl) (by kernel_rfl) (by decide) (by kernel_rfl) _ (leavesR f h) (by kernel_rfl) w
set_option maxRecDepth 100000 in
set_option maxHeartbeats 4000000 in
theorem eqR2 (f g : Nat → Int) (h : RB f) (h2 : RB g) (w : World) : ∃ r : Bool, (Op.equalIn 10000 25 (.agg (R f)) (.agg (R g))).run Try.prog w = .ok r w ∧ (r = true ↔ R f = R g) := eq_flat 6 6 25 [some .u8, some .u8, some .u8, some .u8, some .u8, some .u8, some .u8, some .u8, some .u8, some .u8, some .u8, some .u8, some .u8, some .u8, some .u8, some .u8, some .u16, some .u16, some .u16, some .u16, some .u16, some .u8, some .u8, some .u8, some .u8, none, none, none, none] (by kernel_rfl) (by kernel_rfl) (by decide) (by kernel_rfl) _ _ (leavesR f h) (leavesR g h2) (by kernel_rfl) w
theorem newB : RB newF := ⟨fun j _ => by unfold newF; split <;> (try split) <;> (try split) <;> omega, fun j _ _ => by unfold newF; split <;> (try split) <;> (try split) <;> omega, fun j _ _ => by unfold newF; split <;> (try split) <;> (try split) <;> omega⟩
set_option maxRecDepth 100000 in
set_option maxHeartbeats 4000000 in
theorem regsNames_walk (w : World) : Calls Try.prog 4 #[] w fun e w' => e = .returned (.bool true) ∧ Below w.heap.size w w' := by
  have hq := eqR newF newB
  have hn := belowOf1 fun W => new_any W
  have hrn := belowOf1 fun W => rnew_any W
  have h1 := belowOf1 fun W => right_any (upd (upd (fun _ => 0) 23 2) 24 253) W
  have h2 := belowOf1 fun W => right_any (upd (fun _ => 0) 23 3) W
  have h3 := belowOf1 fun W => right_any (upd (fun _ => 0) 24 1) W
  rw [show R (upd (upd (fun _ => 0) 23 2) 24 253) = #[.int .u8 0, .int .u8 0, .int .u8 0, .int .u8 0, .int .u8 0, .int .u8 0, .int .u8 0, .int .u8 0, .int .u8 0, .int .u8 0, .int .u8 0, .int .u8 0, .int .u8 0, .int .u8 0, .int .u8 0, .int .u8 0, .int .u16 0, .int .u16 0, .int .u16 0, .int .u16 0, .int .u16 0, .int .u8 0, .int .u8 0, .int .u8 2, .int .u8 253, .bool false, .bool false, .bool false, .bool false] from rfl, show rightV (upd (upd (fun _ => 0) 23 2) 24 253) = true from rfl] at h1
  rw [show R (upd (fun _ => 0) 23 3) = #[.int .u8 0, .int .u8 0, .int .u8 0, .int .u8 0, .int .u8 0, .int .u8 0, .int .u8 0, .int .u8 0, .int .u8 0, .int .u8 0, .int .u8 0, .int .u8 0, .int .u8 0, .int .u8 0, .int .u8 0, .int .u8 0, .int .u16 0, .int .u16 0, .int .u16 0, .int .u16 0, .int .u16 0, .int .u8 0, .int .u8 0, .int .u8 3, .int .u8 0, .bool false, .bool false, .bool false, .bool false] from rfl, show rightV (upd (fun _ => 0) 23 3) = false from rfl] at h2
  rw [show R (upd (fun _ => 0) 24 1) = #[.int .u8 0, .int .u8 0, .int .u8 0, .int .u8 0, .int .u8 0, .int .u8 0, .int .u8 0, .int .u8 0, .int .u8 0, .int .u8 0, .int .u8 0, .int .u8 0, .int .u8 0, .int .u8 0, .int .u8 0, .int .u8 0, .int .u16 0, .int .u16 0, .int .u16 0, .int .u16 0, .int .u16 0, .int .u8 0, .int .u8 0, .int .u8 0, .int .u8 1, .bool false, .bool false, .bool false, .bool false] from rfl, show rightV (upd (fun _ => 0) 24 1) = false from rfl] at h3
  have hi1 := fun W => index_any 221 W
  have hi2 := fun W => index_any 253 W
  have hi3 := fun W => index_any 7 W
  rw [show idxV 221 = 5 from rfl] at hi1
  rw [show idxV 253 = 6 from rfl] at hi2
  rw [show idxV 7 = 2 from rfl] at hi3
  generalize R newF = A at *
  have HN := Lib.hid hn
  have HRN := Lib.hid hrn
  have H1 := Lib.hid h1
  have H2 := Lib.hid h2
  have H3 := Lib.hid h3
  have I1 := Lib.hid hi1
  have I2 := Lib.hid hi2
  have I3 := Lib.hid hi3
  clear hn hrn h1 h2 h3 hi1 hi2 hi3
  go_enter Try.func4, Try.ntmps4
  go_wp2_with fail
  refine (alive_any _).mono ?_
  rintro e w1 ⟨rfl, b1⟩
  go_wp2_with fail
  refine (HN.out _).mono ?_
  rintro e w2 ⟨rfl, b2⟩
  go_wp2_with fail
  refine (HRN.out _).mono ?_
  rintro e w3 ⟨rfl, b3⟩
  go_wp2_with (first | (go_at_call 19; with_reducible refine (I1.out _).mono ?_; rintro e w' ⟨rfl, rfl⟩) | (go_at_call 19; with_reducible refine (I2.out _).mono ?_; rintro e w' ⟨rfl, rfl⟩) | (go_at_call 19; with_reducible refine (I3.out _).mono ?_; rintro e w' ⟨rfl, rfl⟩))
  refine (H1.out _).mono ?_
  rintro e w4 ⟨rfl, b4⟩
  go_wp2_with fail
  refine (H2.out _).mono ?_
  rintro e w5 ⟨rfl, b5⟩
  go_wp2_with fail
  refine (H3.out _).mono ?_
  rintro e w6 ⟨rfl, b6⟩
  go_wp2_with fail
  go_ret
  have c1 : Below w.heap.size w w1 := b1
  have c2 := c1.trans (b2.mono c1.size)
  have c3 := c2.trans (b3.mono c2.size)
  have c4 := c3.trans (b4.mono c3.size)
  have c5 := c4.trans (b5.mono c4.size)
  exact ⟨ret_bool (by simp), c5.trans (b6.mono c5.size)⟩
end Regs
end Go.Proofs.Ythghpgnnbdimaaa
