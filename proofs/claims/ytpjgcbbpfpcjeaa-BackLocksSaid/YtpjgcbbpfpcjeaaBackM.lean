/- A line of the ground of a picture (layer 17): what the program's and the reference's functions do, part 12. No conditions but that numbers are of their kinds and slices are slices. -/
import Derived.Test.YtpjgcbbpfpcjeaaBackL
import Derived.RegionTactic
import Derived.LoopTactic
import Derived.Deep.RegionHeld3
import Derived.Lib.Hide
namespace Go.Proofs.Ytpjgcbbpfpcjeaa
open Go.RowKit
open Kit Tile TileR
set_option linter.unusedSimpArgs false
set_option linter.unusedVariables false
attribute [local simp] blkAt_alloc blkNew_cells putRow_cells blkAt_drew BlkN.set BlkOne.setInt BlkOne.setBool blkPut_alloc blkPut_drew blkAt_blkPut_other size_blkPut nq2 nq3 nq4 nq5 nq6 nq7 nq8
namespace Back
attribute [local simp ↓] rl_in
attribute [local simp] rl_run
theorem backLocks_walk (v1 v2 : Value) (z1 z2 : List Int) (m a : Int) (a1_0 : Int) (a1_1 : Int) (a1_2 : Int) (a1_3 : Int) (a1_4 : Int) (a1_5 : Int) (a1_6 : Int) (a1_7 : Int) (a1_8 : Int) (a1_9 : Int) (a1_10 : Int) (a2_0 a2_1 : Int) (w0_2 : (Lit.int .i64 m).wf = true) (w0_3 : (Lit.int .i64 a).wf = true) (w1_0 : (Lit.int .u8 a1_0).wf = true) (w1_1 : (Lit.int .u8 a1_1).wf = true) (w1_2 : (Lit.int .u8 a1_2).wf = true) (w1_3 : (Lit.int .u8 a1_3).wf = true) (w1_4 : (Lit.int .u8 a1_4).wf = true) (w1_5 : (Lit.int .u8 a1_5).wf = true) (w1_6 : (Lit.int .u8 a1_6).wf = true) (w1_7 : (Lit.int .u8 a1_7).wf = true) (w1_8 : (Lit.int .u8 a1_8).wf = true) (w1_9 : (Lit.int .u8 a1_9).wf = true) (w1_10 : (Lit.int .u8 a1_10).wf = true) (w2_0 : (Lit.int .u8 a2_0).wf = true) (w2_1 : (Lit.int .u8 a2_1).wf = true) (w : World) (hs1 : IntsOf w v1 .u8 z1) (hs2 : IntsOf w v2 .u8 z2) : Calls Try.prog 7 #[.agg #[v1, v2, .int .i64 m, .int .i64 a], .agg #[.int .u8 a1_0, .int .u8 a1_1, .int .u8 a1_2, .int .u8 a1_3, .int .u8 a1_4, .int .u8 a1_5, .int .u8 a1_6, .int .u8 a1_7, .int .u8 a1_8, .int .u8 a1_9, .int .u8 a1_10], .agg #[.int .u8 a2_0, .int .u8 a2_1]] w fun e w' => e = .returned (.bool true) ∧ Below w.heap.size w w' := by
  rw [show (#[.int .u8 a1_0, .int .u8 a1_1, .int .u8 a1_2, .int .u8 a1_3, .int .u8 a1_4, .int .u8 a1_5, .int .u8 a1_6, .int .u8 a1_7, .int .u8 a1_8, .int .u8 a1_9, .int .u8 a1_10] : Array Value) = R (fOf [a1_0, a1_1, a1_2, a1_3, a1_4, a1_5, a1_6, a1_7, a1_8, a1_9, a1_10]) from rfl]
  exact locks_all v1 v2 z1 z2 m a _ (regs_rb a1_0 a1_1 a1_2 a1_3 a1_4 a1_5 a1_6 a1_7 a1_8 a1_9 a1_10 w1_0 w1_1 w1_2 w1_3 w1_4 w1_5 w1_6 w1_7 w1_8 w1_9 w1_10) a2_0 a2_1 (wf_u8 w2_0) (wf_u8 w2_1) (wf_i64 w0_3).1 (wf_i64 w0_3).2 w hs1 hs2
end Back
end Go.Proofs.Ytpjgcbbpfpcjeaa
