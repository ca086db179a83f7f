/- A chip of three tones and a noise (layer 5): what the program's functions do, part 17. No conditions but that numbers are of their kinds. -/
import Derived.Test.YtjggocbihjdekaaPsgP
import Derived.RegionTactic
import Derived.LoopTactic
import Derived.Deep.RegionHeld3
import Derived.Lib.Hide
namespace Go.Proofs.Ytjggocbihjdekaa
open Go.RowKit
open Kit
set_option linter.unusedSimpArgs false
set_option linter.unusedVariables false
attribute [local simp] blkAt_alloc blkNew_cells putRow_cells blkAt_drew BlkN.set BlkOne.setInt BlkOne.setBool blkPut_alloc blkPut_drew blkAt_blkPut_other size_blkPut nq2 nq3 nq4 nq5 nq6 nq7 nq8
namespace Psg
attribute [local simp ↓] sl_in ss_in vs_in
attribute [local simp] sl_run ss_run vs_run
set_option maxRecDepth 100000 in
set_option maxHeartbeats 4000000 in
theorem psgSplits_walk (a0_0 : Int) (a0_1 : Int) (a0_2 : Bool) (a0_3 : Int) (a0_4 : Int) (a0_5 : Bool) (a0_6 : Int) (a0_7 : Int) (a0_8 : Bool) (a0_9 : Int) (a0_10 : Int) (a0_11 : Bool) (a0_12 : Int) (a0_13 : Int) (a0_14 : Int) (a0_15 : Int) (a0_16 : Int) (a0_17 : Int) (a1_0 a1_1 a1_2 a1_3 : Int) (w0_0 : (Lit.int .i64 a0_0).wf = true) (w0_1 : (Lit.int .i64 a0_1).wf = true) (w0_3 : (Lit.int .i64 a0_3).wf = true) (w0_4 : (Lit.int .i64 a0_4).wf = true) (w0_6 : (Lit.int .i64 a0_6).wf = true) (w0_7 : (Lit.int .i64 a0_7).wf = true) (w0_9 : (Lit.int .u8 a0_9).wf = true) (w0_10 : (Lit.int .i64 a0_10).wf = true) (w0_12 : (Lit.int .u16 a0_12).wf = true) (w0_13 : (Lit.int .u8 a0_13).wf = true) (w0_14 : (Lit.int .u8 a0_14).wf = true) (w0_15 : (Lit.int .u8 a0_15).wf = true) (w0_16 : (Lit.int .u8 a0_16).wf = true) (w0_17 : (Lit.int .u8 a0_17).wf = true) (w1_0 : (Lit.int .i64 a1_0).wf = true) (w1_1 : (Lit.int .i64 a1_1).wf = true) (w1_2 : (Lit.int .i64 a1_2).wf = true) (w1_3 : (Lit.int .i64 a1_3).wf = true) (w : World) : Calls Try.prog 7 #[.agg #[.int .i64 a0_0, .int .i64 a0_1, .bool a0_2, .int .i64 a0_3, .int .i64 a0_4, .bool a0_5, .int .i64 a0_6, .int .i64 a0_7, .bool a0_8, .int .u8 a0_9, .int .i64 a0_10, .bool a0_11, .int .u16 a0_12, .int .u8 a0_13, .int .u8 a0_14, .int .u8 a0_15, .int .u8 a0_16, .int .u8 a0_17], .agg #[.int .i64 a1_0, .int .i64 a1_1, .int .i64 a1_2, .int .i64 a1_3]] w fun e w' => e = .returned (.bool true) ∧ Below w.heap.size w w' := by
  rw [show (#[.int .i64 a0_0, .int .i64 a0_1, .bool a0_2, .int .i64 a0_3, .int .i64 a0_4, .bool a0_5, .int .i64 a0_6, .int .i64 a0_7, .bool a0_8, .int .u8 a0_9, .int .i64 a0_10, .bool a0_11, .int .u16 a0_12, .int .u8 a0_13, .int .u8 a0_14, .int .u8 a0_15, .int .u8 a0_16, .int .u8 a0_17] : Array Value) = S (fOf [a0_0, a0_1, cz a0_2, a0_3, a0_4, cz a0_5, a0_6, a0_7, cz a0_8, a0_9, a0_10, cz a0_11, a0_12, a0_13, a0_14, a0_15, a0_16, a0_17]) from sound_eq a0_0 a0_1 a0_2 a0_3 a0_4 a0_5 a0_6 a0_7 a0_8 a0_9 a0_10 a0_11 a0_12 a0_13 a0_14 a0_15 a0_16 a0_17]
  exact splits_all _ (sound_sb a0_0 a0_1 a0_2 a0_3 a0_4 a0_5 a0_6 a0_7 a0_8 a0_9 a0_10 a0_11 a0_12 a0_13 a0_14 a0_15 a0_16 a0_17 w0_0 w0_1 w0_3 w0_4 w0_6 w0_7 w0_9 w0_10 w0_12 w0_13 w0_14 w0_15 w0_16 w0_17) a1_0 a1_1 a1_2 a1_3 w
end Psg
end Go.Proofs.Ytjggocbihjdekaa
