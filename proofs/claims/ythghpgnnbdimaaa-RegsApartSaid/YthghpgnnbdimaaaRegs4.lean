/- Registers (layer 10): what the program's functions do, the second part. No conditions but that numbers are of their kinds. -/
import Derived.Test.YthghpgnnbdimaaaRegs3
import Derived.RegionTactic
import Derived.Deep.CutRange
import Derived.LoopTactic
import Derived.Deep.RegionHeld3
namespace Go.Proofs.Ythghpgnnbdimaaa
open Go.RowKit
open Kit
set_option linter.unusedSimpArgs false
set_option linter.unusedVariables false
attribute [local simp] blkAt_alloc blkNew_cells putRow_cells blkAt_drew BlkN.set BlkOne.setInt BlkOne.setBool blkPut_alloc blkPut_drew nq2 nq3 nq4 nq5 nq6 nq7 nq8
namespace Regs
attribute [local simp ↓] rl_in rs_in
attribute [local simp] rl_run rs_run
set_option maxRecDepth 100000 in
set_option maxHeartbeats 4000000 in
theorem get_A (f : Nat → Int) (h : RB f) (w : World) : Calls Try.prog 10 #[.agg (R f), .string ⟨#[65]⟩] w fun e w' => e = .returned (.int .i64 (f 0)) ∧ ∃ o, w' = w.alloc o := by
  have c0 := R_get f 0 (by omega)
  have c1 := R_get f 1 (by omega)
  have c2 := R_get f 2 (by omega)
  have c3 := R_get f 3 (by omega)
  have c4 := R_get f 4 (by omega)
  have c5 := R_get f 5 (by omega)
  have c6 := R_get f 6 (by omega)
  have c7 := R_get f 7 (by omega)
  have c16 := R_get f 16 (by omega)
  have c17 := R_get f 17 (by omega)
  have c18 := R_get f 18 (by omega)
  change (R f)[0]? = some (.int .u8 (f 0)) at c0
  change (R f)[1]? = some (.int .u8 (f 1)) at c1
  change (R f)[2]? = some (.int .u8 (f 2)) at c2
  change (R f)[3]? = some (.int .u8 (f 3)) at c3
  change (R f)[4]? = some (.int .u8 (f 4)) at c4
  change (R f)[5]? = some (.int .u8 (f 5)) at c5
  change (R f)[6]? = some (.int .u8 (f 6)) at c6
  change (R f)[7]? = some (.int .u8 (f 7)) at c7
  change (R f)[16]? = some (.int .u16 (f 16)) at c16
  change (R f)[17]? = some (.int .u16 (f 17)) at c17
  change (R f)[18]? = some (.int .u16 (f 18)) at c18
  have c22 := R_get f 22 (by omega)
  change (R f)[22]? = some (.int .u8 (f 22)) at c22
  have c23 := R_get f 23 (by omega)
  change (R f)[23]? = some (.int .u8 (f 23)) at c23
  have c24 := R_get f 24 (by omega)
  change (R f)[24]? = some (.int .u8 (f 24)) at c24
  have sA : BlkN (R f) 29 := R_size f
  have oA : BlkOne (R f) := R_one f
  have b0 := h.u8 0 (by omega)
  have b1 := h.u8 1 (by omega)
  have b2 := h.u8 2 (by omega)
  have b3 := h.u8 3 (by omega)
  have b4 := h.u8 4 (by omega)
  have b5 := h.u8 5 (by omega)
  have b6 := h.u8 6 (by omega)
  have b7 := h.u8 7 (by omega)
  have b16 := h.u16 16 (by omega) (by omega)
  have b17 := h.u16 17 (by omega) (by omega)
  have b18 := h.u16 18 (by omega) (by omega)
  generalize hA : R f = A at *
  go_enter Try.func10, Try.ntmps10
  go_wp2_with fail
  go_ret
  exact ⟨ret_int (by rfl), _, rfl⟩
set_option maxRecDepth 100000 in
set_option maxHeartbeats 4000000 in
theorem get_F (f : Nat → Int) (h : RB f) (w : World) : Calls Try.prog 10 #[.agg (R f), .string ⟨#[70]⟩] w fun e w' => e = .returned (.int .i64 (f 1)) ∧ ∃ o, w' = w.alloc o := by
  have c0 := R_get f 0 (by omega)
  have c1 := R_get f 1 (by omega)
  have c2 := R_get f 2 (by omega)
  have c3 := R_get f 3 (by omega)
  have c4 := R_get f 4 (by omega)
  have c5 := R_get f 5 (by omega)
  have c6 := R_get f 6 (by omega)
  have c7 := R_get f 7 (by omega)
  have c16 := R_get f 16 (by omega)
  have c17 := R_get f 17 (by omega)
  have c18 := R_get f 18 (by omega)
  change (R f)[0]? = some (.int .u8 (f 0)) at c0
  change (R f)[1]? = some (.int .u8 (f 1)) at c1
  change (R f)[2]? = some (.int .u8 (f 2)) at c2
  change (R f)[3]? = some (.int .u8 (f 3)) at c3
  change (R f)[4]? = some (.int .u8 (f 4)) at c4
  change (R f)[5]? = some (.int .u8 (f 5)) at c5
  change (R f)[6]? = some (.int .u8 (f 6)) at c6
  change (R f)[7]? = some (.int .u8 (f 7)) at c7
  change (R f)[16]? = some (.int .u16 (f 16)) at c16
  change (R f)[17]? = some (.int .u16 (f 17)) at c17
  change (R f)[18]? = some (.int .u16 (f 18)) at c18
  have c22 := R_get f 22 (by omega)
  change (R f)[22]? = some (.int .u8 (f 22)) at c22
  have c23 := R_get f 23 (by omega)
  change (R f)[23]? = some (.int .u8 (f 23)) at c23
  have c24 := R_get f 24 (by omega)
  change (R f)[24]? = some (.int .u8 (f 24)) at c24
  have sA : BlkN (R f) 29 := R_size f
  have oA : BlkOne (R f) := R_one f
  have b0 := h.u8 0 (by omega)
  have b1 := h.u8 1 (by omega)
  have b2 := h.u8 2 (by omega)
  have b3 := h.u8 3 (by omega)
  have b4 := h.u8 4 (by omega)
  have b5 := h.u8 5 (by omega)
  have b6 := h.u8 6 (by omega)
  have b7 := h.u8 7 (by omega)
  have b16 := h.u16 16 (by omega) (by omega)
  have b17 := h.u16 17 (by omega) (by omega)
  have b18 := h.u16 18 (by omega) (by omega)
  generalize hA : R f = A at *
  go_enter Try.func10, Try.ntmps10
  go_wp2_with fail
  go_ret
  exact ⟨ret_int (by rfl), _, rfl⟩
set_option maxRecDepth 100000 in
set_option maxHeartbeats 4000000 in
theorem get_B (f : Nat → Int) (h : RB f) (w : World) : Calls Try.prog 10 #[.agg (R f), .string ⟨#[66]⟩] w fun e w' => e = .returned (.int .i64 (f 2)) ∧ ∃ o, w' = w.alloc o := by
  have c0 := R_get f 0 (by omega)
  have c1 := R_get f 1 (by omega)
  have c2 := R_get f 2 (by omega)
  have c3 := R_get f 3 (by omega)
  have c4 := R_get f 4 (by omega)
  have c5 := R_get f 5 (by omega)
  have c6 := R_get f 6 (by omega)
  have c7 := R_get f 7 (by omega)
  have c16 := R_get f 16 (by omega)
  have c17 := R_get f 17 (by omega)
  have c18 := R_get f 18 (by omega)
  change (R f)[0]? = some (.int .u8 (f 0)) at c0
  change (R f)[1]? = some (.int .u8 (f 1)) at c1
  change (R f)[2]? = some (.int .u8 (f 2)) at c2
  change (R f)[3]? = some (.int .u8 (f 3)) at c3
  change (R f)[4]? = some (.int .u8 (f 4)) at c4
  change (R f)[5]? = some (.int .u8 (f 5)) at c5
  change (R f)[6]? = some (.int .u8 (f 6)) at c6
  change (R f)[7]? = some (.int .u8 (f 7)) at c7
  change (R f)[16]? = some (.int .u16 (f 16)) at c16
  change (R f)[17]? = some (.int .u16 (f 17)) at c17
  change (R f)[18]? = some (.int .u16 (f 18)) at c18
  have c22 := R_get f 22 (by omega)
  change (R f)[22]? = some (.int .u8 (f 22)) at c22
  have c23 := R_get f 23 (by omega)
  change (R f)[23]? = some (.int .u8 (f 23)) at c23
  have c24 := R_get f 24 (by omega)
  change (R f)[24]? = some (.int .u8 (f 24)) at c24
  have sA : BlkN (R f) 29 := R_size f
  have oA : BlkOne (R f) := R_one f
  have b0 := h.u8 0 (by omega)
  have b1 := h.u8 1 (by omega)
  have b2 := h.u8 2 (by omega)
  have b3 := h.u8 3 (by omega)
  have b4 := h.u8 4 (by omega)
  have b5 := h.u8 5 (by omega)
  have b6 := h.u8 6 (by omega)
  have b7 := h.u8 7 (by omega)
  have b16 := h.u16 16 (by omega) (by omega)
  have b17 := h.u16 17 (by omega) (by omega)
  have b18 := h.u16 18 (by omega) (by omega)
  generalize hA : R f = A at *
  go_enter Try.func10, Try.ntmps10
  go_wp2_with fail
  go_ret
  exact ⟨ret_int (by rfl), _, rfl⟩
set_option maxRecDepth 100000 in
set_option maxHeartbeats 4000000 in
theorem get_C (f : Nat → Int) (h : RB f) (w : World) : Calls Try.prog 10 #[.agg (R f), .string ⟨#[67]⟩] w fun e w' => e = .returned (.int .i64 (f 3)) ∧ ∃ o, w' = w.alloc o := by
  have c0 := R_get f 0 (by omega)
  have c1 := R_get f 1 (by omega)
  have c2 := R_get f 2 (by omega)
  have c3 := R_get f 3 (by omega)
  have c4 := R_get f 4 (by omega)
  have c5 := R_get f 5 (by omega)
  have c6 := R_get f 6 (by omega)
  have c7 := R_get f 7 (by omega)
  have c16 := R_get f 16 (by omega)
  have c17 := R_get f 17 (by omega)
  have c18 := R_get f 18 (by omega)
  change (R f)[0]? = some (.int .u8 (f 0)) at c0
  change (R f)[1]? = some (.int .u8 (f 1)) at c1
  change (R f)[2]? = some (.int .u8 (f 2)) at c2
  change (R f)[3]? = some (.int .u8 (f 3)) at c3
  change (R f)[4]? = some (.int .u8 (f 4)) at c4
  change (R f)[5]? = some (.int .u8 (f 5)) at c5
  change (R f)[6]? = some (.int .u8 (f 6)) at c6
  change (R f)[7]? = some (.int .u8 (f 7)) at c7
  change (R f)[16]? = some (.int .u16 (f 16)) at c16
  change (R f)[17]? = some (.int .u16 (f 17)) at c17
  change (R f)[18]? = some (.int .u16 (f 18)) at c18
  have c22 := R_get f 22 (by omega)
  change (R f)[22]? = some (.int .u8 (f 22)) at c22
  have c23 := R_get f 23 (by omega)
  change (R f)[23]? = some (.int .u8 (f 23)) at c23
  have c24 := R_get f 24 (by omega)
  change (R f)[24]? = some (.int .u8 (f 24)) at c24
  have sA : BlkN (R f) 29 := R_size f
  have oA : BlkOne (R f) := R_one f
  have b0 := h.u8 0 (by omega)
  have b1 := h.u8 1 (by omega)
  have b2 := h.u8 2 (by omega)
  have b3 := h.u8 3 (by omega)
  have b4 := h.u8 4 (by omega)
  have b5 := h.u8 5 (by omega)
  have b6 := h.u8 6 (by omega)
  have b7 := h.u8 7 (by omega)
  have b16 := h.u16 16 (by omega) (by omega)
  have b17 := h.u16 17 (by omega) (by omega)
  have b18 := h.u16 18 (by omega) (by omega)
  generalize hA : R f = A at *
  go_enter Try.func10, Try.ntmps10
  go_wp2_with fail
  go_ret
  exact ⟨ret_int (by rfl), _, rfl⟩
set_option maxRecDepth 100000 in
set_option maxHeartbeats 4000000 in
theorem get_D (f : Nat → Int) (h : RB f) (w : World) : Calls Try.prog 10 #[.agg (R f), .string ⟨#[68]⟩] w fun e w' => e = .returned (.int .i64 (f 4)) ∧ ∃ o, w' = w.alloc o := by
  have c0 := R_get f 0 (by omega)
  have c1 := R_get f 1 (by omega)
  have c2 := R_get f 2 (by omega)
  have c3 := R_get f 3 (by omega)
  have c4 := R_get f 4 (by omega)
  have c5 := R_get f 5 (by omega)
  have c6 := R_get f 6 (by omega)
  have c7 := R_get f 7 (by omega)
  have c16 := R_get f 16 (by omega)
  have c17 := R_get f 17 (by omega)
  have c18 := R_get f 18 (by omega)
  change (R f)[0]? = some (.int .u8 (f 0)) at c0
  change (R f)[1]? = some (.int .u8 (f 1)) at c1
  change (R f)[2]? = some (.int .u8 (f 2)) at c2
  change (R f)[3]? = some (.int .u8 (f 3)) at c3
  change (R f)[4]? = some (.int .u8 (f 4)) at c4
  change (R f)[5]? = some (.int .u8 (f 5)) at c5
  change (R f)[6]? = some (.int .u8 (f 6)) at c6
  change (R f)[7]? = some (.int .u8 (f 7)) at c7
  change (R f)[16]? = some (.int .u16 (f 16)) at c16
  change (R f)[17]? = some (.int .u16 (f 17)) at c17
  change (R f)[18]? = some (.int .u16 (f 18)) at c18
  have c22 := R_get f 22 (by omega)
  change (R f)[22]? = some (.int .u8 (f 22)) at c22
  have c23 := R_get f 23 (by omega)
  change (R f)[23]? = some (.int .u8 (f 23)) at c23
  have c24 := R_get f 24 (by omega)
  change (R f)[24]? = some (.int .u8 (f 24)) at c24
  have sA : BlkN (R f) 29 := R_size f
  have oA : BlkOne (R f) := R_one f
  have b0 := h.u8 0 (by omega)
  have b1 := h.u8 1 (by omega)
  have b2 := h.u8 2 (by omega)
  have b3 := h.u8 3 (by omega)
  have b4 := h.u8 4 (by omega)
  have b5 := h.u8 5 (by omega)
  have b6 := h.u8 6 (by omega)
  have b7 := h.u8 7 (by omega)
  have b16 := h.u16 16 (by omega) (by omega)
  have b17 := h.u16 17 (by omega) (by omega)
  have b18 := h.u16 18 (by omega) (by omega)
  generalize hA : R f = A at *
  go_enter Try.func10, Try.ntmps10
  go_wp2_with fail
  go_ret
  exact ⟨ret_int (by rfl), _, rfl⟩
set_option maxRecDepth 100000 in
set_option maxHeartbeats 4000000 in
theorem get_E (f : Nat → Int) (h : RB f) (w : World) : Calls Try.prog 10 #[.agg (R f), .string ⟨#[69]⟩] w fun e w' => e = .returned (.int .i64 (f 5)) ∧ ∃ o, w' = w.alloc o := by
  have c0 := R_get f 0 (by omega)
  have c1 := R_get f 1 (by omega)
  have c2 := R_get f 2 (by omega)
  have c3 := R_get f 3 (by omega)
  have c4 := R_get f 4 (by omega)
  have c5 := R_get f 5 (by omega)
  have c6 := R_get f 6 (by omega)
  have c7 := R_get f 7 (by omega)
  have c16 := R_get f 16 (by omega)
  have c17 := R_get f 17 (by omega)
  have c18 := R_get f 18 (by omega)
  change (R f)[0]? = some (.int .u8 (f 0)) at c0
  change (R f)[1]? = some (.int .u8 (f 1)) at c1
  change (R f)[2]? = some (.int .u8 (f 2)) at c2
  change (R f)[3]? = some (.int .u8 (f 3)) at c3
  change (R f)[4]? = some (.int .u8 (f 4)) at c4
  change (R f)[5]? = some (.int .u8 (f 5)) at c5
  change (R f)[6]? = some (.int .u8 (f 6)) at c6
  change (R f)[7]? = some (.int .u8 (f 7)) at c7
  change (R f)[16]? = some (.int .u16 (f 16)) at c16
  change (R f)[17]? = some (.int .u16 (f 17)) at c17
  change (R f)[18]? = some (.int .u16 (f 18)) at c18
  have c22 := R_get f 22 (by omega)
  change (R f)[22]? = some (.int .u8 (f 22)) at c22
  have c23 := R_get f 23 (by omega)
  change (R f)[23]? = some (.int .u8 (f 23)) at c23
  have c24 := R_get f 24 (by omega)
  change (R f)[24]? = some (.int .u8 (f 24)) at c24
  have sA : BlkN (R f) 29 := R_size f
  have oA : BlkOne (R f) := R_one f
  have b0 := h.u8 0 (by omega)
  have b1 := h.u8 1 (by omega)
  have b2 := h.u8 2 (by omega)
  have b3 := h.u8 3 (by omega)
  have b4 := h.u8 4 (by omega)
  have b5 := h.u8 5 (by omega)
  have b6 := h.u8 6 (by omega)
  have b7 := h.u8 7 (by omega)
  have b16 := h.u16 16 (by omega) (by omega)
  have b17 := h.u16 17 (by omega) (by omega)
  have b18 := h.u16 18 (by omega) (by omega)
  generalize hA : R f = A at *
  go_enter Try.func10, Try.ntmps10
  go_wp2_with fail
  go_ret
  exact ⟨ret_int (by rfl), _, rfl⟩
set_option maxRecDepth 100000 in
set_option maxHeartbeats 4000000 in
theorem get_H (f : Nat → Int) (h : RB f) (w : World) : Calls Try.prog 10 #[.agg (R f), .string ⟨#[72]⟩] w fun e w' => e = .returned (.int .i64 (f 6)) ∧ ∃ o, w' = w.alloc o := by
  have c0 := R_get f 0 (by omega)
  have c1 := R_get f 1 (by omega)
  have c2 := R_get f 2 (by omega)
  have c3 := R_get f 3 (by omega)
  have c4 := R_get f 4 (by omega)
  have c5 := R_get f 5 (by omega)
  have c6 := R_get f 6 (by omega)
  have c7 := R_get f 7 (by omega)
  have c16 := R_get f 16 (by omega)
  have c17 := R_get f 17 (by omega)
  have c18 := R_get f 18 (by omega)
  change (R f)[0]? = some (.int .u8 (f 0)) at c0
  change (R f)[1]? = some (.int .u8 (f 1)) at c1
  change (R f)[2]? = some (.int .u8 (f 2)) at c2
  change (R f)[3]? = some (.int .u8 (f 3)) at c3
  change (R f)[4]? = some (.int .u8 (f 4)) at c4
  change (R f)[5]? = some (.int .u8 (f 5)) at c5
  change (R f)[6]? = some (.int .u8 (f 6)) at c6
  change (R f)[7]? = some (.int .u8 (f 7)) at c7
  change (R f)[16]? = some (.int .u16 (f 16)) at c16
  change (R f)[17]? = some (.int .u16 (f 17)) at c17
  change (R f)[18]? = some (.int .u16 (f 18)) at c18
  have c22 := R_get f 22 (by omega)
  change (R f)[22]? = some (.int .u8 (f 22)) at c22
  have c23 := R_get f 23 (by omega)
  change (R f)[23]? = some (.int .u8 (f 23)) at c23
  have c24 := R_get f 24 (by omega)
  change (R f)[24]? = some (.int .u8 (f 24)) at c24
  have sA : BlkN (R f) 29 := R_size f
  have oA : BlkOne (R f) := R_one f
  have b0 := h.u8 0 (by omega)
  have b1 := h.u8 1 (by omega)
  have b2 := h.u8 2 (by omega)
  have b3 := h.u8 3 (by omega)
  have b4 := h.u8 4 (by omega)
  have b5 := h.u8 5 (by omega)
  have b6 := h.u8 6 (by omega)
  have b7 := h.u8 7 (by omega)
  have b16 := h.u16 16 (by omega) (by omega)
  have b17 := h.u16 17 (by omega) (by omega)
  have b18 := h.u16 18 (by omega) (by omega)
  generalize hA : R f = A at *
  go_enter Try.func10, Try.ntmps10
  go_wp2_with fail
  go_ret
  exact ⟨ret_int (by rfl), _, rfl⟩
set_option maxRecDepth 100000 in
set_option maxHeartbeats 4000000 in
theorem get_L (f : Nat → Int) (h : RB f) (w : World) : Calls Try.prog 10 #[.agg (R f), .string ⟨#[76]⟩] w fun e w' => e = .returned (.int .i64 (f 7)) ∧ ∃ o, w' = w.alloc o := by
  have c0 := R_get f 0 (by omega)
  have c1 := R_get f 1 (by omega)
  have c2 := R_get f 2 (by omega)
  have c3 := R_get f 3 (by omega)
  have c4 := R_get f 4 (by omega)
  have c5 := R_get f 5 (by omega)
  have c6 := R_get f 6 (by omega)
  have c7 := R_get f 7 (by omega)
  have c16 := R_get f 16 (by omega)
  have c17 := R_get f 17 (by omega)
  have c18 := R_get f 18 (by omega)
  change (R f)[0]? = some (.int .u8 (f 0)) at c0
  change (R f)[1]? = some (.int .u8 (f 1)) at c1
  change (R f)[2]? = some (.int .u8 (f 2)) at c2
  change (R f)[3]? = some (.int .u8 (f 3)) at c3
  change (R f)[4]? = some (.int .u8 (f 4)) at c4
  change (R f)[5]? = some (.int .u8 (f 5)) at c5
  change (R f)[6]? = some (.int .u8 (f 6)) at c6
  change (R f)[7]? = some (.int .u8 (f 7)) at c7
  change (R f)[16]? = some (.int .u16 (f 16)) at c16
  change (R f)[17]? = some (.int .u16 (f 17)) at c17
  change (R f)[18]? = some (.int .u16 (f 18)) at c18
  have c22 := R_get f 22 (by omega)
  change (R f)[22]? = some (.int .u8 (f 22)) at c22
  have c23 := R_get f 23 (by omega)
  change (R f)[23]? = some (.int .u8 (f 23)) at c23
  have c24 := R_get f 24 (by omega)
  change (R f)[24]? = some (.int .u8 (f 24)) at c24
  have sA : BlkN (R f) 29 := R_size f
  have oA : BlkOne (R f) := R_one f
  have b0 := h.u8 0 (by omega)
  have b1 := h.u8 1 (by omega)
  have b2 := h.u8 2 (by omega)
  have b3 := h.u8 3 (by omega)
  have b4 := h.u8 4 (by omega)
  have b5 := h.u8 5 (by omega)
  have b6 := h.u8 6 (by omega)
  have b7 := h.u8 7 (by omega)
  have b16 := h.u16 16 (by omega) (by omega)
  have b17 := h.u16 17 (by omega) (by omega)
  have b18 := h.u16 18 (by omega) (by omega)
  generalize hA : R f = A at *
  go_enter Try.func10, Try.ntmps10
  go_wp2_with fail
  go_ret
  exact ⟨ret_int (by rfl), _, rfl⟩
set_option maxRecDepth 100000 in
set_option maxHeartbeats 4000000 in
theorem get_IXH (f : Nat → Int) (h : RB f) (w : World) : Calls Try.prog 10 #[.agg (R f), .string ⟨#[73, 88, 72]⟩] w fun e w' => e = .returned (.int .i64 (f 16 / 256)) ∧ ∃ o, w' = w.alloc o := by
  have c0 := R_get f 0 (by omega)
  have c1 := R_get f 1 (by omega)
  have c2 := R_get f 2 (by omega)
  have c3 := R_get f 3 (by omega)
  have c4 := R_get f 4 (by omega)
  have c5 := R_get f 5 (by omega)
  have c6 := R_get f 6 (by omega)
  have c7 := R_get f 7 (by omega)
  have c16 := R_get f 16 (by omega)
  have c17 := R_get f 17 (by omega)
  have c18 := R_get f 18 (by omega)
  change (R f)[0]? = some (.int .u8 (f 0)) at c0
  change (R f)[1]? = some (.int .u8 (f 1)) at c1
  change (R f)[2]? = some (.int .u8 (f 2)) at c2
  change (R f)[3]? = some (.int .u8 (f 3)) at c3
  change (R f)[4]? = some (.int .u8 (f 4)) at c4
  change (R f)[5]? = some (.int .u8 (f 5)) at c5
  change (R f)[6]? = some (.int .u8 (f 6)) at c6
  change (R f)[7]? = some (.int .u8 (f 7)) at c7
  change (R f)[16]? = some (.int .u16 (f 16)) at c16
  change (R f)[17]? = some (.int .u16 (f 17)) at c17
  change (R f)[18]? = some (.int .u16 (f 18)) at c18
  have c22 := R_get f 22 (by omega)
  change (R f)[22]? = some (.int .u8 (f 22)) at c22
  have c23 := R_get f 23 (by omega)
  change (R f)[23]? = some (.int .u8 (f 23)) at c23
  have c24 := R_get f 24 (by omega)
  change (R f)[24]? = some (.int .u8 (f 24)) at c24
  have sA : BlkN (R f) 29 := R_size f
  have oA : BlkOne (R f) := R_one f
  have b0 := h.u8 0 (by omega)
  have b1 := h.u8 1 (by omega)
  have b2 := h.u8 2 (by omega)
  have b3 := h.u8 3 (by omega)
  have b4 := h.u8 4 (by omega)
  have b5 := h.u8 5 (by omega)
  have b6 := h.u8 6 (by omega)
  have b7 := h.u8 7 (by omega)
  have b16 := h.u16 16 (by omega) (by omega)
  have b17 := h.u16 17 (by omega) (by omega)
  have b18 := h.u16 18 (by omega) (by omega)
  generalize hA : R f = A at *
  go_enter Try.func10, Try.ntmps10
  go_wp2_with fail
  go_ret
  exact ⟨ret_int (by rfl), _, rfl⟩
set_option maxRecDepth 100000 in
set_option maxHeartbeats 4000000 in
theorem get_IXL (f : Nat → Int) (h : RB f) (w : World) : Calls Try.prog 10 #[.agg (R f), .string ⟨#[73, 88, 76]⟩] w fun e w' => e = .returned (.int .i64 (f 16 % 256)) ∧ ∃ o, w' = w.alloc o := by
  have c0 := R_get f 0 (by omega)
  have c1 := R_get f 1 (by omega)
  have c2 := R_get f 2 (by omega)
  have c3 := R_get f 3 (by omega)
  have c4 := R_get f 4 (by omega)
  have c5 := R_get f 5 (by omega)
  have c6 := R_get f 6 (by omega)
  have c7 := R_get f 7 (by omega)
  have c16 := R_get f 16 (by omega)
  have c17 := R_get f 17 (by omega)
  have c18 := R_get f 18 (by omega)
  change (R f)[0]? = some (.int .u8 (f 0)) at c0
  change (R f)[1]? = some (.int .u8 (f 1)) at c1
  change (R f)[2]? = some (.int .u8 (f 2)) at c2
  change (R f)[3]? = some (.int .u8 (f 3)) at c3
  change (R f)[4]? = some (.int .u8 (f 4)) at c4
  change (R f)[5]? = some (.int .u8 (f 5)) at c5
  change (R f)[6]? = some (.int .u8 (f 6)) at c6
  change (R f)[7]? = some (.int .u8 (f 7)) at c7
  change (R f)[16]? = some (.int .u16 (f 16)) at c16
  change (R f)[17]? = some (.int .u16 (f 17)) at c17
  change (R f)[18]? = some (.int .u16 (f 18)) at c18
  have c22 := R_get f 22 (by omega)
  change (R f)[22]? = some (.int .u8 (f 22)) at c22
  have c23 := R_get f 23 (by omega)
  change (R f)[23]? = some (.int .u8 (f 23)) at c23
  have c24 := R_get f 24 (by omega)
  change (R f)[24]? = some (.int .u8 (f 24)) at c24
  have sA : BlkN (R f) 29 := R_size f
  have oA : BlkOne (R f) := R_one f
  have b0 := h.u8 0 (by omega)
  have b1 := h.u8 1 (by omega)
  have b2 := h.u8 2 (by omega)
  have b3 := h.u8 3 (by omega)
  have b4 := h.u8 4 (by omega)
  have b5 := h.u8 5 (by omega)
  have b6 := h.u8 6 (by omega)
  have b7 := h.u8 7 (by omega)
  have b16 := h.u16 16 (by omega) (by omega)
  have b17 := h.u16 17 (by omega) (by omega)
  have b18 := h.u16 18 (by omega) (by omega)
  generalize hA : R f = A at *
  go_enter Try.func10, Try.ntmps10
  go_wp2_with fail
  go_ret
  exact ⟨ret_int (by rfl), _, rfl⟩
set_option maxRecDepth 100000 in
set_option maxHeartbeats 4000000 in
theorem get_IYH (f : Nat → Int) (h : RB f) (w : World) : Calls Try.prog 10 #[.agg (R f), .string ⟨#[73, 89, 72]⟩] w fun e w' => e = .returned (.int .i64 (f 17 / 256)) ∧ ∃ o, w' = w.alloc o := by
  have c0 := R_get f 0 (by omega)
  have c1 := R_get f 1 (by omega)
  have c2 := R_get f 2 (by omega)
  have c3 := R_get f 3 (by omega)
  have c4 := R_get f 4 (by omega)
  have c5 := R_get f 5 (by omega)
  have c6 := R_get f 6 (by omega)
  have c7 := R_get f 7 (by omega)
  have c16 := R_get f 16 (by omega)
  have c17 := R_get f 17 (by omega)
  have c18 := R_get f 18 (by omega)
  change (R f)[0]? = some (.int .u8 (f 0)) at c0
  change (R f)[1]? = some (.int .u8 (f 1)) at c1
  change (R f)[2]? = some (.int .u8 (f 2)) at c2
  change (R f)[3]? = some (.int .u8 (f 3)) at c3
  change (R f)[4]? = some (.int .u8 (f 4)) at c4
  change (R f)[5]? = some (.int .u8 (f 5)) at c5
  change (R f)[6]? = some (.int .u8 (f 6)) at c6
  change (R f)[7]? = some (.int .u8 (f 7)) at c7
  change (R f)[16]? = some (.int .u16 (f 16)) at c16
  change (R f)[17]? = some (.int .u16 (f 17)) at c17
  change (R f)[18]? = some (.int .u16 (f 18)) at c18
  have c22 := R_get f 22 (by omega)
  change (R f)[22]? = some (.int .u8 (f 22)) at c22
  have c23 := R_get f 23 (by omega)
  change (R f)[23]? = some (.int .u8 (f 23)) at c23
  have c24 := R_get f 24 (by omega)
  change (R f)[24]? = some (.int .u8 (f 24)) at c24
  have sA : BlkN (R f) 29 := R_size f
  have oA : BlkOne (R f) := R_one f
  have b0 := h.u8 0 (by omega)
  have b1 := h.u8 1 (by omega)
  have b2 := h.u8 2 (by omega)
  have b3 := h.u8 3 (by omega)
  have b4 := h.u8 4 (by omega)
  have b5 := h.u8 5 (by omega)
  have b6 := h.u8 6 (by omega)
  have b7 := h.u8 7 (by omega)
  have b16 := h.u16 16 (by omega) (by omega)
  have b17 := h.u16 17 (by omega) (by omega)
  have b18 := h.u16 18 (by omega) (by omega)
  generalize hA : R f = A at *
  go_enter Try.func10, Try.ntmps10
  go_wp2_with fail
  go_ret
  exact ⟨ret_int (by rfl), _, rfl⟩
set_option maxRecDepth 100000 in
set_option maxHeartbeats 4000000 in
theorem get_IYL (f : Nat → Int) (h : RB f) (w : World) : Calls Try.prog 10 #[.agg (R f), .string ⟨#[73, 89, 76]⟩] w fun e w' => e = .returned (.int .i64 (f 17 % 256)) ∧ ∃ o, w' = w.alloc o := by
  have c0 := R_get f 0 (by omega)
  have c1 := R_get f 1 (by omega)
  have c2 := R_get f 2 (by omega)
  have c3 := R_get f 3 (by omega)
  have c4 := R_get f 4 (by omega)
  have c5 := R_get f 5 (by omega)
  have c6 := R_get f 6 (by omega)
  have c7 := R_get f 7 (by omega)
  have c16 := R_get f 16 (by omega)
  have c17 := R_get f 17 (by omega)
  have c18 := R_get f 18 (by omega)
  change (R f)[0]? = some (.int .u8 (f 0)) at c0
  change (R f)[1]? = some (.int .u8 (f 1)) at c1
  change (R f)[2]? = some (.int .u8 (f 2)) at c2
  change (R f)[3]? = some (.int .u8 (f 3)) at c3
  change (R f)[4]? = some (.int .u8 (f 4)) at c4
  change (R f)[5]? = some (.int .u8 (f 5)) at c5
  change (R f)[6]? = some (.int .u8 (f 6)) at c6
  change (R f)[7]? = some (.int .u8 (f 7)) at c7
  change (R f)[16]? = some (.int .u16 (f 16)) at c16
  change (R f)[17]? = some (.int .u16 (f 17)) at c17
  change (R f)[18]? = some (.int .u16 (f 18)) at c18
  have c22 := R_get f 22 (by omega)
  change (R f)[22]? = some (.int .u8 (f 22)) at c22
  have c23 := R_get f 23 (by omega)
  change (R f)[23]? = some (.int .u8 (f 23)) at c23
  have c24 := R_get f 24 (by omega)
  change (R f)[24]? = some (.int .u8 (f 24)) at c24
  have sA : BlkN (R f) 29 := R_size f
  have oA : BlkOne (R f) := R_one f
  have b0 := h.u8 0 (by omega)
  have b1 := h.u8 1 (by omega)
  have b2 := h.u8 2 (by omega)
  have b3 := h.u8 3 (by omega)
  have b4 := h.u8 4 (by omega)
  have b5 := h.u8 5 (by omega)
  have b6 := h.u8 6 (by omega)
  have b7 := h.u8 7 (by omega)
  have b16 := h.u16 16 (by omega) (by omega)
  have b17 := h.u16 17 (by omega) (by omega)
  have b18 := h.u16 18 (by omega) (by omega)
  generalize hA : R f = A at *
  go_enter Try.func10, Try.ntmps10
  go_wp2_with fail
  go_ret
  exact ⟨ret_int (by rfl), _, rfl⟩
set_option maxRecDepth 100000 in
set_option maxHeartbeats 4000000 in
theorem get_IX (f : Nat → Int) (h : RB f) (w : World) : Calls Try.prog 10 #[.agg (R f), .string ⟨#[73, 88]⟩] w fun e w' => e = .returned (.int .i64 (f 16)) ∧ ∃ o, w' = w.alloc o := by
  have c0 := R_get f 0 (by omega)
  have c1 := R_get f 1 (by omega)
  have c2 := R_get f 2 (by omega)
  have c3 := R_get f 3 (by omega)
  have c4 := R_get f 4 (by omega)
  have c5 := R_get f 5 (by omega)
  have c6 := R_get f 6 (by omega)
  have c7 := R_get f 7 (by omega)
  have c16 := R_get f 16 (by omega)
  have c17 := R_get f 17 (by omega)
  have c18 := R_get f 18 (by omega)
  change (R f)[0]? = some (.int .u8 (f 0)) at c0
  change (R f)[1]? = some (.int .u8 (f 1)) at c1
  change (R f)[2]? = some (.int .u8 (f 2)) at c2
  change (R f)[3]? = some (.int .u8 (f 3)) at c3
  change (R f)[4]? = some (.int .u8 (f 4)) at c4
  change (R f)[5]? = some (.int .u8 (f 5)) at c5
  change (R f)[6]? = some (.int .u8 (f 6)) at c6
  change (R f)[7]? = some (.int .u8 (f 7)) at c7
  change (R f)[16]? = some (.int .u16 (f 16)) at c16
  change (R f)[17]? = some (.int .u16 (f 17)) at c17
  change (R f)[18]? = some (.int .u16 (f 18)) at c18
  have c22 := R_get f 22 (by omega)
  change (R f)[22]? = some (.int .u8 (f 22)) at c22
  have c23 := R_get f 23 (by omega)
  change (R f)[23]? = some (.int .u8 (f 23)) at c23
  have c24 := R_get f 24 (by omega)
  change (R f)[24]? = some (.int .u8 (f 24)) at c24
  have sA : BlkN (R f) 29 := R_size f
  have oA : BlkOne (R f) := R_one f
  have b0 := h.u8 0 (by omega)
  have b1 := h.u8 1 (by omega)
  have b2 := h.u8 2 (by omega)
  have b3 := h.u8 3 (by omega)
  have b4 := h.u8 4 (by omega)
  have b5 := h.u8 5 (by omega)
  have b6 := h.u8 6 (by omega)
  have b7 := h.u8 7 (by omega)
  have b16 := h.u16 16 (by omega) (by omega)
  have b17 := h.u16 17 (by omega) (by omega)
  have b18 := h.u16 18 (by omega) (by omega)
  generalize hA : R f = A at *
  go_enter Try.func10, Try.ntmps10
  go_wp2_with fail
  go_ret
  exact ⟨ret_int (by rfl), _, rfl⟩
set_option maxRecDepth 100000 in
set_option maxHeartbeats 4000000 in
theorem get_IY (f : Nat → Int) (h : RB f) (w : World) : Calls Try.prog 10 #[.agg (R f), .string ⟨#[73, 89]⟩] w fun e w' => e = .returned (.int .i64 (f 17)) ∧ ∃ o, w' = w.alloc o := by
  have c0 := R_get f 0 (by omega)
  have c1 := R_get f 1 (by omega)
  have c2 := R_get f 2 (by omega)
  have c3 := R_get f 3 (by omega)
  have c4 := R_get f 4 (by omega)
  have c5 := R_get f 5 (by omega)
  have c6 := R_get f 6 (by omega)
  have c7 := R_get f 7 (by omega)
  have c16 := R_get f 16 (by omega)
  have c17 := R_get f 17 (by omega)
  have c18 := R_get f 18 (by omega)
  change (R f)[0]? = some (.int .u8 (f 0)) at c0
  change (R f)[1]? = some (.int .u8 (f 1)) at c1
  change (R f)[2]? = some (.int .u8 (f 2)) at c2
  change (R f)[3]? = some (.int .u8 (f 3)) at c3
  change (R f)[4]? = some (.int .u8 (f 4)) at c4
  change (R f)[5]? = some (.int .u8 (f 5)) at c5
  change (R f)[6]? = some (.int .u8 (f 6)) at c6
  change (R f)[7]? = some (.int .u8 (f 7)) at c7
  change (R f)[16]? = some (.int .u16 (f 16)) at c16
  change (R f)[17]? = some (.int .u16 (f 17)) at c17
  change (R f)[18]? = some (.int .u16 (f 18)) at c18
  have c22 := R_get f 22 (by omega)
  change (R f)[22]? = some (.int .u8 (f 22)) at c22
  have c23 := R_get f 23 (by omega)
  change (R f)[23]? = some (.int .u8 (f 23)) at c23
  have c24 := R_get f 24 (by omega)
  change (R f)[24]? = some (.int .u8 (f 24)) at c24
  have sA : BlkN (R f) 29 := R_size f
  have oA : BlkOne (R f) := R_one f
  have b0 := h.u8 0 (by omega)
  have b1 := h.u8 1 (by omega)
  have b2 := h.u8 2 (by omega)
  have b3 := h.u8 3 (by omega)
  have b4 := h.u8 4 (by omega)
  have b5 := h.u8 5 (by omega)
  have b6 := h.u8 6 (by omega)
  have b7 := h.u8 7 (by omega)
  have b16 := h.u16 16 (by omega) (by omega)
  have b17 := h.u16 17 (by omega) (by omega)
  have b18 := h.u16 18 (by omega) (by omega)
  generalize hA : R f = A at *
  go_enter Try.func10, Try.ntmps10
  go_wp2_with fail
  go_ret
  exact ⟨ret_int (by rfl), _, rfl⟩
set_option maxRecDepth 100000 in
set_option maxHeartbeats 4000000 in
theorem get_SP (f : Nat → Int) (h : RB f) (w : World) : Calls Try.prog 10 #[.agg (R f), .string ⟨#[83, 80]⟩] w fun e w' => e = .returned (.int .i64 (f 18)) ∧ ∃ o, w' = w.alloc o := by
  have c0 := R_get f 0 (by omega)
  have c1 := R_get f 1 (by omega)
  have c2 := R_get f 2 (by omega)
  have c3 := R_get f 3 (by omega)
  have c4 := R_get f 4 (by omega)
  have c5 := R_get f 5 (by omega)
  have c6 := R_get f 6 (by omega)
  have c7 := R_get f 7 (by omega)
  have c16 := R_get f 16 (by omega)
  have c17 := R_get f 17 (by omega)
  have c18 := R_get f 18 (by omega)
  change (R f)[0]? = some (.int .u8 (f 0)) at c0
  change (R f)[1]? = some (.int .u8 (f 1)) at c1
  change (R f)[2]? = some (.int .u8 (f 2)) at c2
  change (R f)[3]? = some (.int .u8 (f 3)) at c3
  change (R f)[4]? = some (.int .u8 (f 4)) at c4
  change (R f)[5]? = some (.int .u8 (f 5)) at c5
  change (R f)[6]? = some (.int .u8 (f 6)) at c6
  change (R f)[7]? = some (.int .u8 (f 7)) at c7
  change (R f)[16]? = some (.int .u16 (f 16)) at c16
  change (R f)[17]? = some (.int .u16 (f 17)) at c17
  change (R f)[18]? = some (.int .u16 (f 18)) at c18
  have c22 := R_get f 22 (by omega)
  change (R f)[22]? = some (.int .u8 (f 22)) at c22
  have c23 := R_get f 23 (by omega)
  change (R f)[23]? = some (.int .u8 (f 23)) at c23
  have c24 := R_get f 24 (by omega)
  change (R f)[24]? = some (.int .u8 (f 24)) at c24
  have sA : BlkN (R f) 29 := R_size f
  have oA : BlkOne (R f) := R_one f
  have b0 := h.u8 0 (by omega)
  have b1 := h.u8 1 (by omega)
  have b2 := h.u8 2 (by omega)
  have b3 := h.u8 3 (by omega)
  have b4 := h.u8 4 (by omega)
  have b5 := h.u8 5 (by omega)
  have b6 := h.u8 6 (by omega)
  have b7 := h.u8 7 (by omega)
  have b16 := h.u16 16 (by omega) (by omega)
  have b17 := h.u16 17 (by omega) (by omega)
  have b18 := h.u16 18 (by omega) (by omega)
  generalize hA : R f = A at *
  go_enter Try.func10, Try.ntmps10
  go_wp2_with fail
  go_ret
  exact ⟨ret_int (by rfl), _, rfl⟩
end Regs
end Go.Proofs.Ythghpgnnbdimaaa
