/- Registers (layer 10): what the program's functions do, the second part. No conditions but that numbers are of their kinds. -/
import Derived.Test.YthghpgnnbdimaaaRegsA
import Derived.Test.YthghpgnnbdimaaaRegsG1
import Derived.Test.YthghpgnnbdimaaaRegsG2
import Derived.Test.YthghpgnnbdimaaaRegsG3
import Derived.RegionTactic
import Derived.Deep.DeepCutAuto
import Derived.Lib.Hide
import Derived.Deep.CutRange
import Derived.LoopTactic
import Derived.Deep.RegionHeld3
namespace Go.Proofs.Ythghpgnnbdimaaa
open Go.RowKit
open Kit R06
set_option linter.unusedSimpArgs false
set_option linter.unusedVariables false
attribute [local simp] blkAt_alloc blkNew_cells putRow_cells blkAt_drew BlkN.set BlkOne.setInt BlkOne.setBool blkPut_alloc blkPut_drew nq2 nq3 nq4 nq5 nq6 nq7 nq8
namespace Regs
attribute [local simp ↓] rl_in rs_in
attribute [local simp] rl_run rs_run
theorem get_all (f : Nat → Int) (h : RB f) (n p : Int) (w : World) : Calls Try.prog 3 #[.agg (R f), .int .i64 n, .int .u8 p] w fun e w' => e = .returned (.bool true) ∧ Below w.heap.size w w' := by
  rcases (by omega : n < 0 ∨ 7 < n ∨ n = 0 ∨ n = 1 ∨ n = 2 ∨ n = 3 ∨ n = 4 ∨ n = 5 ∨ n = 6 ∨ n = 7) with g | g | rfl | rfl | rfl | rfl | rfl | rfl | rfl | rfl
  · exact get_clo f h n p g w
  · exact get_chi f h n p g w
  · exact get_c0 f h p w
  · exact get_c1 f h p w
  · exact get_c2 f h p w
  · exact get_c3 f h p w
  · rcases (by omega : p = 221 ∨ p = 253 ∨ (p ≠ 221 ∧ p ≠ 253)) with rfl | rfl | ⟨g1, g2⟩
    · exact get_c4x f h w
    · exact get_c4y f h w
    · exact get_c4 f h p g1 g2 w
  · rcases (by omega : p = 221 ∨ p = 253 ∨ (p ≠ 221 ∧ p ≠ 253)) with rfl | rfl | ⟨g1, g2⟩
    · exact get_c5x f h w
    · exact get_c5y f h w
    · exact get_c5 f h p g1 g2 w
  · exact get_c6 f h p w
  · exact get_c7 f h p w
set_option maxRecDepth 100000 in
set_option maxHeartbeats 4000000 in
theorem regsGet_walk (a0_0 a0_1 a0_2 a0_3 a0_4 a0_5 a0_6 a0_7 a0_8 a0_9 a0_10 a0_11 a0_12 a0_13 a0_14 a0_15 a0_16 a0_17 a0_18 a0_19 a0_20 a0_21 a0_22 a0_23 a0_24 : Int) (a0_25 a0_26 a0_27 a0_28 : Bool) (n p : Int) (w0_0 : (Lit.int .u8 a0_0).wf = true) (w0_1 : (Lit.int .u8 a0_1).wf = true) (w0_2 : (Lit.int .u8 a0_2).wf = true) (w0_3 : (Lit.int .u8 a0_3).wf = true) (w0_4 : (Lit.int .u8 a0_4).wf = true) (w0_5 : (Lit.int .u8 a0_5).wf = true) (w0_6 : (Lit.int .u8 a0_6).wf = true) (w0_7 : (Lit.int .u8 a0_7).wf = true) (w0_8 : (Lit.int .u8 a0_8).wf = true) (w0_9 : (Lit.int .u8 a0_9).wf = true) (w0_10 : (Lit.int .u8 a0_10).wf = true) (w0_11 : (Lit.int .u8 a0_11).wf = true) (w0_12 : (Lit.int .u8 a0_12).wf = true) (w0_13 : (Lit.int .u8 a0_13).wf = true) (w0_14 : (Lit.int .u8 a0_14).wf = true) (w0_15 : (Lit.int .u8 a0_15).wf = true) (w0_16 : (Lit.int .u16 a0_16).wf = true) (w0_17 : (Lit.int .u16 a0_17).wf = true) (w0_18 : (Lit.int .u16 a0_18).wf = true) (w0_19 : (Lit.int .u16 a0_19).wf = true) (w0_20 : (Lit.int .u16 a0_20).wf = true) (w0_21 : (Lit.int .u8 a0_21).wf = true) (w0_22 : (Lit.int .u8 a0_22).wf = true) (w0_23 : (Lit.int .u8 a0_23).wf = true) (w0_24 : (Lit.int .u8 a0_24).wf = true) (w1 : (Lit.int .i64 n).wf = true) (w2 : (Lit.int .u8 p).wf = true) (w : World) : Calls Try.prog 3 #[.agg #[.int .u8 a0_0, .int .u8 a0_1, .int .u8 a0_2, .int .u8 a0_3, .int .u8 a0_4, .int .u8 a0_5, .int .u8 a0_6, .int .u8 a0_7, .int .u8 a0_8, .int .u8 a0_9, .int .u8 a0_10, .int .u8 a0_11, .int .u8 a0_12, .int .u8 a0_13, .int .u8 a0_14, .int .u8 a0_15, .int .u16 a0_16, .int .u16 a0_17, .int .u16 a0_18, .int .u16 a0_19, .int .u16 a0_20, .int .u8 a0_21, .int .u8 a0_22, .int .u8 a0_23, .int .u8 a0_24, .bool a0_25, .bool a0_26, .bool a0_27, .bool a0_28], .int .i64 n, .int .u8 p] w fun e w' => e = .returned (.bool true) ∧ Below w.heap.size w w' := by
  rw [show (#[.int .u8 a0_0, .int .u8 a0_1, .int .u8 a0_2, .int .u8 a0_3, .int .u8 a0_4, .int .u8 a0_5, .int .u8 a0_6, .int .u8 a0_7, .int .u8 a0_8, .int .u8 a0_9, .int .u8 a0_10, .int .u8 a0_11, .int .u8 a0_12, .int .u8 a0_13, .int .u8 a0_14, .int .u8 a0_15, .int .u16 a0_16, .int .u16 a0_17, .int .u16 a0_18, .int .u16 a0_19, .int .u16 a0_20, .int .u8 a0_21, .int .u8 a0_22, .int .u8 a0_23, .int .u8 a0_24, .bool a0_25, .bool a0_26, .bool a0_27, .bool a0_28] : Array Value) = R (fOf [a0_0, a0_1, a0_2, a0_3, a0_4, a0_5, a0_6, a0_7, a0_8, a0_9, a0_10, a0_11, a0_12, a0_13, a0_14, a0_15, a0_16, a0_17, a0_18, a0_19, a0_20, a0_21, a0_22, a0_23, a0_24, cz a0_25, cz a0_26, cz a0_27, cz a0_28]) from regs_eq a0_0 a0_1 a0_2 a0_3 a0_4 a0_5 a0_6 a0_7 a0_8 a0_9 a0_10 a0_11 a0_12 a0_13 a0_14 a0_15 a0_16 a0_17 a0_18 a0_19 a0_20 a0_21 a0_22 a0_23 a0_24 a0_25 a0_26 a0_27 a0_28]
  exact get_all _ (regs_rb a0_0 a0_1 a0_2 a0_3 a0_4 a0_5 a0_6 a0_7 a0_8 a0_9 a0_10 a0_11 a0_12 a0_13 a0_14 a0_15 a0_16 a0_17 a0_18 a0_19 a0_20 a0_21 a0_22 a0_23 a0_24 a0_25 a0_26 a0_27 a0_28 w0_0 w0_1 w0_2 w0_3 w0_4 w0_5 w0_6 w0_7 w0_8 w0_9 w0_10 w0_11 w0_12 w0_13 w0_14 w0_15 w0_16 w0_17 w0_18 w0_19 w0_20 w0_21 w0_22 w0_23 w0_24) n p w
end Regs
end Go.Proofs.Ythghpgnnbdimaaa
