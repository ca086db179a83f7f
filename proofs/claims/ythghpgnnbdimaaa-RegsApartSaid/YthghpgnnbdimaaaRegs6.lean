/- Registers (layer 10): what the program's functions do, the second part. No conditions but that numbers are of their kinds. -/
import Derived.Test.YthghpgnnbdimaaaRegs4
import Derived.RegionTactic
import Derived.Deep.CutRange
import Derived.LoopTactic
import Derived.Deep.RegionHeld3
namespace Go.Proofs.Ythghpgnnbdimaaa
open Go.RowKit
open Kit
set_option linter.unusedSimpArgs false
set_option linter.unusedVariables false
attribute [local simp] blkAt_alloc blkNew_cells putRow_cells blkAt_drew BlkN.set BlkOne.setInt BlkOne.setBool blkPut_alloc blkPut_drew nq2 nq3 nq4 nq5 nq6 nq7 nq8
namespace Regs
attribute [local simp ↓] rl_in rs_in
attribute [local simp] rl_run rs_run
set_option maxRecDepth 100000 in
set_option maxHeartbeats 4000000 in
theorem set_A (f : Nat → Int) (h : RB f) (n : Int) (n0 : 0 ≤ n) (n1 : n < 65536) (w : World) : Calls Try.prog 27 #[.agg (R f), .string ⟨#[65]⟩, .int .i64 n] w fun e w' => e = .returned (.agg (R (upd f 0 (n % 256)))) ∧ ∃ o1 o2, w' = (w.alloc o1).alloc o2 := by
  have c0 := R_get f 0 (by omega)
  have c1 := R_get f 1 (by omega)
  have c2 := R_get f 2 (by omega)
  have c3 := R_get f 3 (by omega)
  have c4 := R_get f 4 (by omega)
  have c5 := R_get f 5 (by omega)
  have c6 := R_get f 6 (by omega)
  have c7 := R_get f 7 (by omega)
  have c16 := R_get f 16 (by omega)
  have c17 := R_get f 17 (by omega)
  have c18 := R_get f 18 (by omega)
  change (R f)[0]? = some (.int .u8 (f 0)) at c0
  change (R f)[1]? = some (.int .u8 (f 1)) at c1
  change (R f)[2]? = some (.int .u8 (f 2)) at c2
  change (R f)[3]? = some (.int .u8 (f 3)) at c3
  change (R f)[4]? = some (.int .u8 (f 4)) at c4
  change (R f)[5]? = some (.int .u8 (f 5)) at c5
  change (R f)[6]? = some (.int .u8 (f 6)) at c6
  change (R f)[7]? = some (.int .u8 (f 7)) at c7
  change (R f)[16]? = some (.int .u16 (f 16)) at c16
  change (R f)[17]? = some (.int .u16 (f 17)) at c17
  change (R f)[18]? = some (.int .u16 (f 18)) at c18
  have c22 := R_get f 22 (by omega)
  change (R f)[22]? = some (.int .u8 (f 22)) at c22
  have c23 := R_get f 23 (by omega)
  change (R f)[23]? = some (.int .u8 (f 23)) at c23
  have c24 := R_get f 24 (by omega)
  change (R f)[24]? = some (.int .u8 (f 24)) at c24
  have sA : BlkN (R f) 29 := R_size f
  have oA : BlkOne (R f) := R_one f
  have zn := zN
  unfold Z29 at zn
  have b0 := h.u8 0 (by omega)
  have b1 := h.u8 1 (by omega)
  have b2 := h.u8 2 (by omega)
  have b3 := h.u8 3 (by omega)
  have b4 := h.u8 4 (by omega)
  have b5 := h.u8 5 (by omega)
  have b6 := h.u8 6 (by omega)
  have b7 := h.u8 7 (by omega)
  have b16 := h.u16 16 (by omega) (by omega)
  have b17 := h.u16 17 (by omega) (by omega)
  have b18 := h.u16 18 (by omega) (by omega)
  have m1 := tmod_nn n0 256
  have m2 : 0 ≤ n % 256 ∧ n % 256 < 256 := by omega
  obtain ⟨m3, m4⟩ := m2
  generalize hA : R f = A at *
  go_enter Try.func27, Try.ntmps27
  go_wp2_with fail
  exact bodyPost_ret (v := .agg _) (results_cell_row rfl _ _ (w.heap.size + 1) 25 _ (0, 0) _ rfl (by repeat (first | (refine heap_at _ _ _ ?_; (simp; done)) | (refine (heap_past _ _ _ ?_).trans ?_; focus (simp; done)) | (refine (heap_drew _ _).trans ?_))) Try.underlying25 rfl (iR (show BlkN _ 29 by simp [*]))) rfl ⟨by rw [← hA]; simp [R_set8, R_set16, R_set8b], _, _, rfl⟩
set_option maxRecDepth 100000 in
set_option maxHeartbeats 4000000 in
theorem set_F (f : Nat → Int) (h : RB f) (n : Int) (n0 : 0 ≤ n) (n1 : n < 65536) (w : World) : Calls Try.prog 27 #[.agg (R f), .string ⟨#[70]⟩, .int .i64 n] w fun e w' => e = .returned (.agg (R (upd f 1 (n % 256)))) ∧ ∃ o1 o2, w' = (w.alloc o1).alloc o2 := by
  have c0 := R_get f 0 (by omega)
  have c1 := R_get f 1 (by omega)
  have c2 := R_get f 2 (by omega)
  have c3 := R_get f 3 (by omega)
  have c4 := R_get f 4 (by omega)
  have c5 := R_get f 5 (by omega)
  have c6 := R_get f 6 (by omega)
  have c7 := R_get f 7 (by omega)
  have c16 := R_get f 16 (by omega)
  have c17 := R_get f 17 (by omega)
  have c18 := R_get f 18 (by omega)
  change (R f)[0]? = some (.int .u8 (f 0)) at c0
  change (R f)[1]? = some (.int .u8 (f 1)) at c1
  change (R f)[2]? = some (.int .u8 (f 2)) at c2
  change (R f)[3]? = some (.int .u8 (f 3)) at c3
  change (R f)[4]? = some (.int .u8 (f 4)) at c4
  change (R f)[5]? = some (.int .u8 (f 5)) at c5
  change (R f)[6]? = some (.int .u8 (f 6)) at c6
  change (R f)[7]? = some (.int .u8 (f 7)) at c7
  change (R f)[16]? = some (.int .u16 (f 16)) at c16
  change (R f)[17]? = some (.int .u16 (f 17)) at c17
  change (R f)[18]? = some (.int .u16 (f 18)) at c18
  have c22 := R_get f 22 (by omega)
  change (R f)[22]? = some (.int .u8 (f 22)) at c22
  have c23 := R_get f 23 (by omega)
  change (R f)[23]? = some (.int .u8 (f 23)) at c23
  have c24 := R_get f 24 (by omega)
  change (R f)[24]? = some (.int .u8 (f 24)) at c24
  have sA : BlkN (R f) 29 := R_size f
  have oA : BlkOne (R f) := R_one f
  have zn := zN
  unfold Z29 at zn
  have b0 := h.u8 0 (by omega)
  have b1 := h.u8 1 (by omega)
  have b2 := h.u8 2 (by omega)
  have b3 := h.u8 3 (by omega)
  have b4 := h.u8 4 (by omega)
  have b5 := h.u8 5 (by omega)
  have b6 := h.u8 6 (by omega)
  have b7 := h.u8 7 (by omega)
  have b16 := h.u16 16 (by omega) (by omega)
  have b17 := h.u16 17 (by omega) (by omega)
  have b18 := h.u16 18 (by omega) (by omega)
  have m1 := tmod_nn n0 256
  have m2 : 0 ≤ n % 256 ∧ n % 256 < 256 := by omega
  obtain ⟨m3, m4⟩ := m2
  generalize hA : R f = A at *
  go_enter Try.func27, Try.ntmps27
  go_wp2_with fail
  exact bodyPost_ret (v := .agg _) (results_cell_row rfl _ _ (w.heap.size + 1) 25 _ (0, 0) _ rfl (by repeat (first | (refine heap_at _ _ _ ?_; (simp; done)) | (refine (heap_past _ _ _ ?_).trans ?_; focus (simp; done)) | (refine (heap_drew _ _).trans ?_))) Try.underlying25 rfl (iR (show BlkN _ 29 by simp [*]))) rfl ⟨by rw [← hA]; simp [R_set8, R_set16, R_set8b], _, _, rfl⟩
set_option maxRecDepth 100000 in
set_option maxHeartbeats 4000000 in
theorem set_B (f : Nat → Int) (h : RB f) (n : Int) (n0 : 0 ≤ n) (n1 : n < 65536) (w : World) : Calls Try.prog 27 #[.agg (R f), .string ⟨#[66]⟩, .int .i64 n] w fun e w' => e = .returned (.agg (R (upd f 2 (n % 256)))) ∧ ∃ o1 o2, w' = (w.alloc o1).alloc o2 := by
  have c0 := R_get f 0 (by omega)
  have c1 := R_get f 1 (by omega)
  have c2 := R_get f 2 (by omega)
  have c3 := R_get f 3 (by omega)
  have c4 := R_get f 4 (by omega)
  have c5 := R_get f 5 (by omega)
  have c6 := R_get f 6 (by omega)
  have c7 := R_get f 7 (by omega)
  have c16 := R_get f 16 (by omega)
  have c17 := R_get f 17 (by omega)
  have c18 := R_get f 18 (by omega)
  change (R f)[0]? = some (.int .u8 (f 0)) at c0
  change (R f)[1]? = some (.int .u8 (f 1)) at c1
  change (R f)[2]? = some (.int .u8 (f 2)) at c2
  change (R f)[3]? = some (.int .u8 (f 3)) at c3
  change (R f)[4]? = some (.int .u8 (f 4)) at c4
  change (R f)[5]? = some (.int .u8 (f 5)) at c5
  change (R f)[6]? = some (.int .u8 (f 6)) at c6
  change (R f)[7]? = some (.int .u8 (f 7)) at c7
  change (R f)[16]? = some (.int .u16 (f 16)) at c16
  change (R f)[17]? = some (.int .u16 (f 17)) at c17
  change (R f)[18]? = some (.int .u16 (f 18)) at c18
  have c22 := R_get f 22 (by omega)
  change (R f)[22]? = some (.int .u8 (f 22)) at c22
  have c23 := R_get f 23 (by omega)
  change (R f)[23]? = some (.int .u8 (f 23)) at c23
  have c24 := R_get f 24 (by omega)
  change (R f)[24]? = some (.int .u8 (f 24)) at c24
  have sA : BlkN (R f) 29 := R_size f
  have oA : BlkOne (R f) := R_one f
  have zn := zN
  unfold Z29 at zn
  have b0 := h.u8 0 (by omega)
  have b1 := h.u8 1 (by omega)
  have b2 := h.u8 2 (by omega)
  have b3 := h.u8 3 (by omega)
  have b4 := h.u8 4 (by omega)
  have b5 := h.u8 5 (by omega)
  have b6 := h.u8 6 (by omega)
  have b7 := h.u8 7 (by omega)
  have b16 := h.u16 16 (by omega) (by omega)
  have b17 := h.u16 17 (by omega) (by omega)
  have b18 := h.u16 18 (by omega) (by omega)
  have m1 := tmod_nn n0 256
  have m2 : 0 ≤ n % 256 ∧ n % 256 < 256 := by omega
  obtain ⟨m3, m4⟩ := m2
  generalize hA : R f = A at *
  go_enter Try.func27, Try.ntmps27
  go_wp2_with fail
  exact bodyPost_ret (v := .agg _) (results_cell_row rfl _ _ (w.heap.size + 1) 25 _ (0, 0) _ rfl (by repeat (first | (refine heap_at _ _ _ ?_; (simp; done)) | (refine (heap_past _ _ _ ?_).trans ?_; focus (simp; done)) | (refine (heap_drew _ _).trans ?_))) Try.underlying25 rfl (iR (show BlkN _ 29 by simp [*]))) rfl ⟨by rw [← hA]; simp [R_set8, R_set16, R_set8b], _, _, rfl⟩
set_option maxRecDepth 100000 in
set_option maxHeartbeats 4000000 in
theorem set_C (f : Nat → Int) (h : RB f) (n : Int) (n0 : 0 ≤ n) (n1 : n < 65536) (w : World) : Calls Try.prog 27 #[.agg (R f), .string ⟨#[67]⟩, .int .i64 n] w fun e w' => e = .returned (.agg (R (upd f 3 (n % 256)))) ∧ ∃ o1 o2, w' = (w.alloc o1).alloc o2 := by
  have c0 := R_get f 0 (by omega)
  have c1 := R_get f 1 (by omega)
  have c2 := R_get f 2 (by omega)
  have c3 := R_get f 3 (by omega)
  have c4 := R_get f 4 (by omega)
  have c5 := R_get f 5 (by omega)
  have c6 := R_get f 6 (by omega)
  have c7 := R_get f 7 (by omega)
  have c16 := R_get f 16 (by omega)
  have c17 := R_get f 17 (by omega)
  have c18 := R_get f 18 (by omega)
  change (R f)[0]? = some (.int .u8 (f 0)) at c0
  change (R f)[1]? = some (.int .u8 (f 1)) at c1
  change (R f)[2]? = some (.int .u8 (f 2)) at c2
  change (R f)[3]? = some (.int .u8 (f 3)) at c3
  change (R f)[4]? = some (.int .u8 (f 4)) at c4
  change (R f)[5]? = some (.int .u8 (f 5)) at c5
  change (R f)[6]? = some (.int .u8 (f 6)) at c6
  change (R f)[7]? = some (.int .u8 (f 7)) at c7
  change (R f)[16]? = some (.int .u16 (f 16)) at c16
  change (R f)[17]? = some (.int .u16 (f 17)) at c17
  change (R f)[18]? = some (.int .u16 (f 18)) at c18
  have c22 := R_get f 22 (by omega)
  change (R f)[22]? = some (.int .u8 (f 22)) at c22
  have c23 := R_get f 23 (by omega)
  change (R f)[23]? = some (.int .u8 (f 23)) at c23
  have c24 := R_get f 24 (by omega)
  change (R f)[24]? = some (.int .u8 (f 24)) at c24
  have sA : BlkN (R f) 29 := R_size f
  have oA : BlkOne (R f) := R_one f
  have zn := zN
  unfold Z29 at zn
  have b0 := h.u8 0 (by omega)
  have b1 := h.u8 1 (by omega)
  have b2 := h.u8 2 (by omega)
  have b3 := h.u8 3 (by omega)
  have b4 := h.u8 4 (by omega)
  have b5 := h.u8 5 (by omega)
  have b6 := h.u8 6 (by omega)
  have b7 := h.u8 7 (by omega)
  have b16 := h.u16 16 (by omega) (by omega)
  have b17 := h.u16 17 (by omega) (by omega)
  have b18 := h.u16 18 (by omega) (by omega)
  have m1 := tmod_nn n0 256
  have m2 : 0 ≤ n % 256 ∧ n % 256 < 256 := by omega
  obtain ⟨m3, m4⟩ := m2
  generalize hA : R f = A at *
  go_enter Try.func27, Try.ntmps27
  go_wp2_with fail
  exact bodyPost_ret (v := .agg _) (results_cell_row rfl _ _ (w.heap.size + 1) 25 _ (0, 0) _ rfl (by repeat (first | (refine heap_at _ _ _ ?_; (simp; done)) | (refine (heap_past _ _ _ ?_).trans ?_; focus (simp; done)) | (refine (heap_drew _ _).trans ?_))) Try.underlying25 rfl (iR (show BlkN _ 29 by simp [*]))) rfl ⟨by rw [← hA]; simp [R_set8, R_set16, R_set8b], _, _, rfl⟩
set_option maxRecDepth 100000 in
set_option maxHeartbeats 4000000 in
theorem set_D (f : Nat → Int) (h : RB f) (n : Int) (n0 : 0 ≤ n) (n1 : n < 65536) (w : World) : Calls Try.prog 27 #[.agg (R f), .string ⟨#[68]⟩, .int .i64 n] w fun e w' => e = .returned (.agg (R (upd f 4 (n % 256)))) ∧ ∃ o1 o2, w' = (w.alloc o1).alloc o2 := by
  have c0 := R_get f 0 (by omega)
  have c1 := R_get f 1 (by omega)
  have c2 := R_get f 2 (by omega)
  have c3 := R_get f 3 (by omega)
  have c4 := R_get f 4 (by omega)
  have c5 := R_get f 5 (by omega)
  have c6 := R_get f 6 (by omega)
  have c7 := R_get f 7 (by omega)
  have c16 := R_get f 16 (by omega)
  have c17 := R_get f 17 (by omega)
  have c18 := R_get f 18 (by omega)
  change (R f)[0]? = some (.int .u8 (f 0)) at c0
  change (R f)[1]? = some (.int .u8 (f 1)) at c1
  change (R f)[2]? = some (.int .u8 (f 2)) at c2
  change (R f)[3]? = some (.int .u8 (f 3)) at c3
  change (R f)[4]? = some (.int .u8 (f 4)) at c4
  change (R f)[5]? = some (.int .u8 (f 5)) at c5
  change (R f)[6]? = some (.int .u8 (f 6)) at c6
  change (R f)[7]? = some (.int .u8 (f 7)) at c7
  change (R f)[16]? = some (.int .u16 (f 16)) at c16
  change (R f)[17]? = some (.int .u16 (f 17)) at c17
  change (R f)[18]? = some (.int .u16 (f 18)) at c18
  have c22 := R_get f 22 (by omega)
  change (R f)[22]? = some (.int .u8 (f 22)) at c22
  have c23 := R_get f 23 (by omega)
  change (R f)[23]? = some (.int .u8 (f 23)) at c23
  have c24 := R_get f 24 (by omega)
  change (R f)[24]? = some (.int .u8 (f 24)) at c24
  have sA : BlkN (R f) 29 := R_size f
  have oA : BlkOne (R f) := R_one f
  have zn := zN
  unfold Z29 at zn
  have b0 := h.u8 0 (by omega)
  have b1 := h.u8 1 (by omega)
  have b2 := h.u8 2 (by omega)
  have b3 := h.u8 3 (by omega)
  have b4 := h.u8 4 (by omega)
  have b5 := h.u8 5 (by omega)
  have b6 := h.u8 6 (by omega)
  have b7 := h.u8 7 (by omega)
  have b16 := h.u16 16 (by omega) (by omega)
  have b17 := h.u16 17 (by omega) (by omega)
  have b18 := h.u16 18 (by omega) (by omega)
  have m1 := tmod_nn n0 256
  have m2 : 0 ≤ n % 256 ∧ n % 256 < 256 := by omega
  obtain ⟨m3, m4⟩ := m2
  generalize hA : R f = A at *
  go_enter Try.func27, Try.ntmps27
  go_wp2_with fail
  exact bodyPost_ret (v := .agg _) (results_cell_row rfl _ _ (w.heap.size + 1) 25 _ (0, 0) _ rfl (by repeat (first | (refine heap_at _ _ _ ?_; (simp; done)) | (refine (heap_past _ _ _ ?_).trans ?_; focus (simp; done)) | (refine (heap_drew _ _).trans ?_))) Try.underlying25 rfl (iR (show BlkN _ 29 by simp [*]))) rfl ⟨by rw [← hA]; simp [R_set8, R_set16, R_set8b], _, _, rfl⟩
set_option maxRecDepth 100000 in
set_option maxHeartbeats 4000000 in
theorem set_E (f : Nat → Int) (h : RB f) (n : Int) (n0 : 0 ≤ n) (n1 : n < 65536) (w : World) : Calls Try.prog 27 #[.agg (R f), .string ⟨#[69]⟩, .int .i64 n] w fun e w' => e = .returned (.agg (R (upd f 5 (n % 256)))) ∧ ∃ o1 o2, w' = (w.alloc o1).alloc o2 := by
  have c0 := R_get f 0 (by omega)
  have c1 := R_get f 1 (by omega)
  have c2 := R_get f 2 (by omega)
  have c3 := R_get f 3 (by omega)
  have c4 := R_get f 4 (by omega)
  have c5 := R_get f 5 (by omega)
  have c6 := R_get f 6 (by omega)
  have c7 := R_get f 7 (by omega)
  have c16 := R_get f 16 (by omega)
  have c17 := R_get f 17 (by omega)
  have c18 := R_get f 18 (by omega)
  change (R f)[0]? = some (.int .u8 (f 0)) at c0
  change (R f)[1]? = some (.int .u8 (f 1)) at c1
  change (R f)[2]? = some (.int .u8 (f 2)) at c2
  change (R f)[3]? = some (.int .u8 (f 3)) at c3
  change (R f)[4]? = some (.int .u8 (f 4)) at c4
  change (R f)[5]? = some (.int .u8 (f 5)) at c5
  change (R f)[6]? = some (.int .u8 (f 6)) at c6
  change (R f)[7]? = some (.int .u8 (f 7)) at c7
  change (R f)[16]? = some (.int .u16 (f 16)) at c16
  change (R f)[17]? = some (.int .u16 (f 17)) at c17
  change (R f)[18]? = some (.int .u16 (f 18)) at c18
  have c22 := R_get f 22 (by omega)
  change (R f)[22]? = some (.int .u8 (f 22)) at c22
  have c23 := R_get f 23 (by omega)
  change (R f)[23]? = some (.int .u8 (f 23)) at c23
  have c24 := R_get f 24 (by omega)
  change (R f)[24]? = some (.int .u8 (f 24)) at c24
  have sA : BlkN (R f) 29 := R_size f
  have oA : BlkOne (R f) := R_one f
  have zn := zN
  unfold Z29 at zn
  have b0 := h.u8 0 (by omega)
  have b1 := h.u8 1 (by omega)
  have b2 := h.u8 2 (by omega)
  have b3 := h.u8 3 (by omega)
  have b4 := h.u8 4 (by omega)
  have b5 := h.u8 5 (by omega)
  have b6 := h.u8 6 (by omega)
  have b7 := h.u8 7 (by omega)
  have b16 := h.u16 16 (by omega) (by omega)
  have b17 := h.u16 17 (by omega) (by omega)
  have b18 := h.u16 18 (by omega) (by omega)
  have m1 := tmod_nn n0 256
  have m2 : 0 ≤ n % 256 ∧ n % 256 < 256 := by omega
  obtain ⟨m3, m4⟩ := m2
  generalize hA : R f = A at *
  go_enter Try.func27, Try.ntmps27
  go_wp2_with fail
  exact bodyPost_ret (v := .agg _) (results_cell_row rfl _ _ (w.heap.size + 1) 25 _ (0, 0) _ rfl (by repeat (first | (refine heap_at _ _ _ ?_; (simp; done)) | (refine (heap_past _ _ _ ?_).trans ?_; focus (simp; done)) | (refine (heap_drew _ _).trans ?_))) Try.underlying25 rfl (iR (show BlkN _ 29 by simp [*]))) rfl ⟨by rw [← hA]; simp [R_set8, R_set16, R_set8b], _, _, rfl⟩
set_option maxRecDepth 100000 in
set_option maxHeartbeats 4000000 in
theorem set_H (f : Nat → Int) (h : RB f) (n : Int) (n0 : 0 ≤ n) (n1 : n < 65536) (w : World) : Calls Try.prog 27 #[.agg (R f), .string ⟨#[72]⟩, .int .i64 n] w fun e w' => e = .returned (.agg (R (upd f 6 (n % 256)))) ∧ ∃ o1 o2, w' = (w.alloc o1).alloc o2 := by
  have c0 := R_get f 0 (by omega)
  have c1 := R_get f 1 (by omega)
  have c2 := R_get f 2 (by omega)
  have c3 := R_get f 3 (by omega)
  have c4 := R_get f 4 (by omega)
  have c5 := R_get f 5 (by omega)
  have c6 := R_get f 6 (by omega)
  have c7 := R_get f 7 (by omega)
  have c16 := R_get f 16 (by omega)
  have c17 := R_get f 17 (by omega)
  have c18 := R_get f 18 (by omega)
  change (R f)[0]? = some (.int .u8 (f 0)) at c0
  change (R f)[1]? = some (.int .u8 (f 1)) at c1
  change (R f)[2]? = some (.int .u8 (f 2)) at c2
  change (R f)[3]? = some (.int .u8 (f 3)) at c3
  change (R f)[4]? = some (.int .u8 (f 4)) at c4
  change (R f)[5]? = some (.int .u8 (f 5)) at c5
  change (R f)[6]? = some (.int .u8 (f 6)) at c6
  change (R f)[7]? = some (.int .u8 (f 7)) at c7
  change (R f)[16]? = some (.int .u16 (f 16)) at c16
  change (R f)[17]? = some (.int .u16 (f 17)) at c17
  change (R f)[18]? = some (.int .u16 (f 18)) at c18
  have c22 := R_get f 22 (by omega)
  change (R f)[22]? = some (.int .u8 (f 22)) at c22
  have c23 := R_get f 23 (by omega)
  change (R f)[23]? = some (.int .u8 (f 23)) at c23
  have c24 := R_get f 24 (by omega)
  change (R f)[24]? = some (.int .u8 (f 24)) at c24
  have sA : BlkN (R f) 29 := R_size f
  have oA : BlkOne (R f) := R_one f
  have zn := zN
  unfold Z29 at zn
  have b0 := h.u8 0 (by omega)
  have b1 := h.u8 1 (by omega)
  have b2 := h.u8 2 (by omega)
  have b3 := h.u8 3 (by omega)
  have b4 := h.u8 4 (by omega)
  have b5 := h.u8 5 (by omega)
  have b6 := h.u8 6 (by omega)
  have b7 := h.u8 7 (by omega)
  have b16 := h.u16 16 (by omega) (by omega)
  have b17 := h.u16 17 (by omega) (by omega)
  have b18 := h.u16 18 (by omega) (by omega)
  have m1 := tmod_nn n0 256
  have m2 : 0 ≤ n % 256 ∧ n % 256 < 256 := by omega
  obtain ⟨m3, m4⟩ := m2
  generalize hA : R f = A at *
  go_enter Try.func27, Try.ntmps27
  go_wp2_with fail
  exact bodyPost_ret (v := .agg _) (results_cell_row rfl _ _ (w.heap.size + 1) 25 _ (0, 0) _ rfl (by repeat (first | (refine heap_at _ _ _ ?_; (simp; done)) | (refine (heap_past _ _ _ ?_).trans ?_; focus (simp; done)) | (refine (heap_drew _ _).trans ?_))) Try.underlying25 rfl (iR (show BlkN _ 29 by simp [*]))) rfl ⟨by rw [← hA]; simp [R_set8, R_set16, R_set8b], _, _, rfl⟩
set_option maxRecDepth 100000 in
set_option maxHeartbeats 4000000 in
theorem set_L (f : Nat → Int) (h : RB f) (n : Int) (n0 : 0 ≤ n) (n1 : n < 65536) (w : World) : Calls Try.prog 27 #[.agg (R f), .string ⟨#[76]⟩, .int .i64 n] w fun e w' => e = .returned (.agg (R (upd f 7 (n % 256)))) ∧ ∃ o1 o2, w' = (w.alloc o1).alloc o2 := by
  have c0 := R_get f 0 (by omega)
  have c1 := R_get f 1 (by omega)
  have c2 := R_get f 2 (by omega)
  have c3 := R_get f 3 (by omega)
  have c4 := R_get f 4 (by omega)
  have c5 := R_get f 5 (by omega)
  have c6 := R_get f 6 (by omega)
  have c7 := R_get f 7 (by omega)
  have c16 := R_get f 16 (by omega)
  have c17 := R_get f 17 (by omega)
  have c18 := R_get f 18 (by omega)
  change (R f)[0]? = some (.int .u8 (f 0)) at c0
  change (R f)[1]? = some (.int .u8 (f 1)) at c1
  change (R f)[2]? = some (.int .u8 (f 2)) at c2
  change (R f)[3]? = some (.int .u8 (f 3)) at c3
  change (R f)[4]? = some (.int .u8 (f 4)) at c4
  change (R f)[5]? = some (.int .u8 (f 5)) at c5
  change (R f)[6]? = some (.int .u8 (f 6)) at c6
  change (R f)[7]? = some (.int .u8 (f 7)) at c7
  change (R f)[16]? = some (.int .u16 (f 16)) at c16
  change (R f)[17]? = some (.int .u16 (f 17)) at c17
  change (R f)[18]? = some (.int .u16 (f 18)) at c18
  have c22 := R_get f 22 (by omega)
  change (R f)[22]? = some (.int .u8 (f 22)) at c22
  have c23 := R_get f 23 (by omega)
  change (R f)[23]? = some (.int .u8 (f 23)) at c23
  have c24 := R_get f 24 (by omega)
  change (R f)[24]? = some (.int .u8 (f 24)) at c24
  have sA : BlkN (R f) 29 := R_size f
  have oA : BlkOne (R f) := R_one f
  have zn := zN
  unfold Z29 at zn
  have b0 := h.u8 0 (by omega)
  have b1 := h.u8 1 (by omega)
  have b2 := h.u8 2 (by omega)
  have b3 := h.u8 3 (by omega)
  have b4 := h.u8 4 (by omega)
  have b5 := h.u8 5 (by omega)
  have b6 := h.u8 6 (by omega)
  have b7 := h.u8 7 (by omega)
  have b16 := h.u16 16 (by omega) (by omega)
  have b17 := h.u16 17 (by omega) (by omega)
  have b18 := h.u16 18 (by omega) (by omega)
  have m1 := tmod_nn n0 256
  have m2 : 0 ≤ n % 256 ∧ n % 256 < 256 := by omega
  obtain ⟨m3, m4⟩ := m2
  generalize hA : R f = A at *
  go_enter Try.func27, Try.ntmps27
  go_wp2_with fail
  exact bodyPost_ret (v := .agg _) (results_cell_row rfl _ _ (w.heap.size + 1) 25 _ (0, 0) _ rfl (by repeat (first | (refine heap_at _ _ _ ?_; (simp; done)) | (refine (heap_past _ _ _ ?_).trans ?_; focus (simp; done)) | (refine (heap_drew _ _).trans ?_))) Try.underlying25 rfl (iR (show BlkN _ 29 by simp [*]))) rfl ⟨by rw [← hA]; simp [R_set8, R_set16, R_set8b], _, _, rfl⟩
set_option maxRecDepth 100000 in
set_option maxHeartbeats 4000000 in
theorem set_IXH (f : Nat → Int) (h : RB f) (n : Int) (n0 : 0 ≤ n) (n1 : n < 65536) (w : World) : Calls Try.prog 27 #[.agg (R f), .string ⟨#[73, 88, 72]⟩, .int .i64 n] w fun e w' => e = .returned (.agg (R (upd f 16 (n % 256 * 256 + f 16 % 256)))) ∧ ∃ o1 o2, w' = (w.alloc o1).alloc o2 := by
  have c0 := R_get f 0 (by omega)
  have c1 := R_get f 1 (by omega)
  have c2 := R_get f 2 (by omega)
  have c3 := R_get f 3 (by omega)
  have c4 := R_get f 4 (by omega)
  have c5 := R_get f 5 (by omega)
  have c6 := R_get f 6 (by omega)
  have c7 := R_get f 7 (by omega)
  have c16 := R_get f 16 (by omega)
  have c17 := R_get f 17 (by omega)
  have c18 := R_get f 18 (by omega)
  change (R f)[0]? = some (.int .u8 (f 0)) at c0
  change (R f)[1]? = some (.int .u8 (f 1)) at c1
  change (R f)[2]? = some (.int .u8 (f 2)) at c2
  change (R f)[3]? = some (.int .u8 (f 3)) at c3
  change (R f)[4]? = some (.int .u8 (f 4)) at c4
  change (R f)[5]? = some (.int .u8 (f 5)) at c5
  change (R f)[6]? = some (.int .u8 (f 6)) at c6
  change (R f)[7]? = some (.int .u8 (f 7)) at c7
  change (R f)[16]? = some (.int .u16 (f 16)) at c16
  change (R f)[17]? = some (.int .u16 (f 17)) at c17
  change (R f)[18]? = some (.int .u16 (f 18)) at c18
  have c22 := R_get f 22 (by omega)
  change (R f)[22]? = some (.int .u8 (f 22)) at c22
  have c23 := R_get f 23 (by omega)
  change (R f)[23]? = some (.int .u8 (f 23)) at c23
  have c24 := R_get f 24 (by omega)
  change (R f)[24]? = some (.int .u8 (f 24)) at c24
  have sA : BlkN (R f) 29 := R_size f
  have oA : BlkOne (R f) := R_one f
  have zn := zN
  unfold Z29 at zn
  have b0 := h.u8 0 (by omega)
  have b1 := h.u8 1 (by omega)
  have b2 := h.u8 2 (by omega)
  have b3 := h.u8 3 (by omega)
  have b4 := h.u8 4 (by omega)
  have b5 := h.u8 5 (by omega)
  have b6 := h.u8 6 (by omega)
  have b7 := h.u8 7 (by omega)
  have b16 := h.u16 16 (by omega) (by omega)
  have b17 := h.u16 17 (by omega) (by omega)
  have b18 := h.u16 18 (by omega) (by omega)
  have m1 := tmod_nn n0 256
  have m2 : 0 ≤ n % 256 ∧ n % 256 < 256 := by omega
  obtain ⟨m3, m4⟩ := m2
  generalize hA : R f = A at *
  go_enter Try.func27, Try.ntmps27
  go_wp2_with fail
  exact bodyPost_ret (v := .agg _) (results_cell_row rfl _ _ (w.heap.size + 1) 25 _ (0, 0) _ rfl (by repeat (first | (refine heap_at _ _ _ ?_; (simp; done)) | (refine (heap_past _ _ _ ?_).trans ?_; focus (simp; done)) | (refine (heap_drew _ _).trans ?_))) Try.underlying25 rfl (iR (show BlkN _ 29 by simp [*]))) rfl ⟨by rw [← hA]; simp [R_set8, R_set16, R_set8b], _, _, rfl⟩
set_option maxRecDepth 100000 in
set_option maxHeartbeats 4000000 in
theorem set_IXL (f : Nat → Int) (h : RB f) (n : Int) (n0 : 0 ≤ n) (n1 : n < 65536) (w : World) : Calls Try.prog 27 #[.agg (R f), .string ⟨#[73, 88, 76]⟩, .int .i64 n] w fun e w' => e = .returned (.agg (R (upd f 16 (f 16 / 256 * 256 + n % 256)))) ∧ ∃ o1 o2, w' = (w.alloc o1).alloc o2 := by
  have c0 := R_get f 0 (by omega)
  have c1 := R_get f 1 (by omega)
  have c2 := R_get f 2 (by omega)
  have c3 := R_get f 3 (by omega)
  have c4 := R_get f 4 (by omega)
  have c5 := R_get f 5 (by omega)
  have c6 := R_get f 6 (by omega)
  have c7 := R_get f 7 (by omega)
  have c16 := R_get f 16 (by omega)
  have c17 := R_get f 17 (by omega)
  have c18 := R_get f 18 (by omega)
  change (R f)[0]? = some (.int .u8 (f 0)) at c0
  change (R f)[1]? = some (.int .u8 (f 1)) at c1
  change (R f)[2]? = some (.int .u8 (f 2)) at c2
  change (R f)[3]? = some (.int .u8 (f 3)) at c3
  change (R f)[4]? = some (.int .u8 (f 4)) at c4
  change (R f)[5]? = some (.int .u8 (f 5)) at c5
  change (R f)[6]? = some (.int .u8 (f 6)) at c6
  change (R f)[7]? = some (.int .u8 (f 7)) at c7
  change (R f)[16]? = some (.int .u16 (f 16)) at c16
  change (R f)[17]? = some (.int .u16 (f 17)) at c17
  change (R f)[18]? = some (.int .u16 (f 18)) at c18
  have c22 := R_get f 22 (by omega)
  change (R f)[22]? = some (.int .u8 (f 22)) at c22
  have c23 := R_get f 23 (by omega)
  change (R f)[23]? = some (.int .u8 (f 23)) at c23
  have c24 := R_get f 24 (by omega)
  change (R f)[24]? = some (.int .u8 (f 24)) at c24
  have sA : BlkN (R f) 29 := R_size f
  have oA : BlkOne (R f) := R_one f
  have zn := zN
  unfold Z29 at zn
  have b0 := h.u8 0 (by omega)
  have b1 := h.u8 1 (by omega)
  have b2 := h.u8 2 (by omega)
  have b3 := h.u8 3 (by omega)
  have b4 := h.u8 4 (by omega)
  have b5 := h.u8 5 (by omega)
  have b6 := h.u8 6 (by omega)
  have b7 := h.u8 7 (by omega)
  have b16 := h.u16 16 (by omega) (by omega)
  have b17 := h.u16 17 (by omega) (by omega)
  have b18 := h.u16 18 (by omega) (by omega)
  have m1 := tmod_nn n0 256
  have m2 : 0 ≤ n % 256 ∧ n % 256 < 256 := by omega
  obtain ⟨m3, m4⟩ := m2
  generalize hA : R f = A at *
  go_enter Try.func27, Try.ntmps27
  go_wp2_with fail
  exact bodyPost_ret (v := .agg _) (results_cell_row rfl _ _ (w.heap.size + 1) 25 _ (0, 0) _ rfl (by repeat (first | (refine heap_at _ _ _ ?_; (simp; done)) | (refine (heap_past _ _ _ ?_).trans ?_; focus (simp; done)) | (refine (heap_drew _ _).trans ?_))) Try.underlying25 rfl (iR (show BlkN _ 29 by simp [*]))) rfl ⟨by rw [← hA]; simp [R_set8, R_set16, R_set8b], _, _, rfl⟩
set_option maxRecDepth 100000 in
set_option maxHeartbeats 4000000 in
theorem set_IYH (f : Nat → Int) (h : RB f) (n : Int) (n0 : 0 ≤ n) (n1 : n < 65536) (w : World) : Calls Try.prog 27 #[.agg (R f), .string ⟨#[73, 89, 72]⟩, .int .i64 n] w fun e w' => e = .returned (.agg (R (upd f 17 (n % 256 * 256 + f 17 % 256)))) ∧ ∃ o1 o2, w' = (w.alloc o1).alloc o2 := by
  have c0 := R_get f 0 (by omega)
  have c1 := R_get f 1 (by omega)
  have c2 := R_get f 2 (by omega)
  have c3 := R_get f 3 (by omega)
  have c4 := R_get f 4 (by omega)
  have c5 := R_get f 5 (by omega)
  have c6 := R_get f 6 (by omega)
  have c7 := R_get f 7 (by omega)
  have c16 := R_get f 16 (by omega)
  have c17 := R_get f 17 (by omega)
  have c18 := R_get f 18 (by omega)
  change (R f)[0]? = some (.int .u8 (f 0)) at c0
  change (R f)[1]? = some (.int .u8 (f 1)) at c1
  change (R f)[2]? = some (.int .u8 (f 2)) at c2
  change (R f)[3]? = some (.int .u8 (f 3)) at c3
  change (R f)[4]? = some (.int .u8 (f 4)) at c4
  change (R f)[5]? = some (.int .u8 (f 5)) at c5
  change (R f)[6]? = some (.int .u8 (f 6)) at c6
  change (R f)[7]? = some (.int .u8 (f 7)) at c7
  change (R f)[16]? = some (.int .u16 (f 16)) at c16
  change (R f)[17]? = some (.int .u16 (f 17)) at c17
  change (R f)[18]? = some (.int .u16 (f 18)) at c18
  have c22 := R_get f 22 (by omega)
  change (R f)[22]? = some (.int .u8 (f 22)) at c22
  have c23 := R_get f 23 (by omega)
  change (R f)[23]? = some (.int .u8 (f 23)) at c23
  have c24 := R_get f 24 (by omega)
  change (R f)[24]? = some (.int .u8 (f 24)) at c24
  have sA : BlkN (R f) 29 := R_size f
  have oA : BlkOne (R f) := R_one f
  have zn := zN
  unfold Z29 at zn
  have b0 := h.u8 0 (by omega)
  have b1 := h.u8 1 (by omega)
  have b2 := h.u8 2 (by omega)
  have b3 := h.u8 3 (by omega)
  have b4 := h.u8 4 (by omega)
  have b5 := h.u8 5 (by omega)
  have b6 := h.u8 6 (by omega)
  have b7 := h.u8 7 (by omega)
  have b16 := h.u16 16 (by omega) (by omega)
  have b17 := h.u16 17 (by omega) (by omega)
  have b18 := h.u16 18 (by omega) (by omega)
  have m1 := tmod_nn n0 256
  have m2 : 0 ≤ n % 256 ∧ n % 256 < 256 := by omega
  obtain ⟨m3, m4⟩ := m2
  generalize hA : R f = A at *
  go_enter Try.func27, Try.ntmps27
  go_wp2_with fail
  exact bodyPost_ret (v := .agg _) (results_cell_row rfl _ _ (w.heap.size + 1) 25 _ (0, 0) _ rfl (by repeat (first | (refine heap_at _ _ _ ?_; (simp; done)) | (refine (heap_past _ _ _ ?_).trans ?_; focus (simp; done)) | (refine (heap_drew _ _).trans ?_))) Try.underlying25 rfl (iR (show BlkN _ 29 by simp [*]))) rfl ⟨by rw [← hA]; simp [R_set8, R_set16, R_set8b], _, _, rfl⟩
set_option maxRecDepth 100000 in
set_option maxHeartbeats 4000000 in
theorem set_IYL (f : Nat → Int) (h : RB f) (n : Int) (n0 : 0 ≤ n) (n1 : n < 65536) (w : World) : Calls Try.prog 27 #[.agg (R f), .string ⟨#[73, 89, 76]⟩, .int .i64 n] w fun e w' => e = .returned (.agg (R (upd f 17 (f 17 / 256 * 256 + n % 256)))) ∧ ∃ o1 o2, w' = (w.alloc o1).alloc o2 := by
  have c0 := R_get f 0 (by omega)
  have c1 := R_get f 1 (by omega)
  have c2 := R_get f 2 (by omega)
  have c3 := R_get f 3 (by omega)
  have c4 := R_get f 4 (by omega)
  have c5 := R_get f 5 (by omega)
  have c6 := R_get f 6 (by omega)
  have c7 := R_get f 7 (by omega)
  have c16 := R_get f 16 (by omega)
  have c17 := R_get f 17 (by omega)
  have c18 := R_get f 18 (by omega)
  change (R f)[0]? = some (.int .u8 (f 0)) at c0
  change (R f)[1]? = some (.int .u8 (f 1)) at c1
  change (R f)[2]? = some (.int .u8 (f 2)) at c2
  change (R f)[3]? = some (.int .u8 (f 3)) at c3
  change (R f)[4]? = some (.int .u8 (f 4)) at c4
  change (R f)[5]? = some (.int .u8 (f 5)) at c5
  change (R f)[6]? = some (.int .u8 (f 6)) at c6
  change (R f)[7]? = some (.int .u8 (f 7)) at c7
  change (R f)[16]? = some (.int .u16 (f 16)) at c16
  change (R f)[17]? = some (.int .u16 (f 17)) at c17
  change (R f)[18]? = some (.int .u16 (f 18)) at c18
  have c22 := R_get f 22 (by omega)
  change (R f)[22]? = some (.int .u8 (f 22)) at c22
  have c23 := R_get f 23 (by omega)
  change (R f)[23]? = some (.int .u8 (f 23)) at c23
  have c24 := R_get f 24 (by omega)
  change (R f)[24]? = some (.int .u8 (f 24)) at c24
  have sA : BlkN (R f) 29 := R_size f
  have oA : BlkOne (R f) := R_one f
  have zn := zN
  unfold Z29 at zn
  have b0 := h.u8 0 (by omega)
  have b1 := h.u8 1 (by omega)
  have b2 := h.u8 2 (by omega)
  have b3 := h.u8 3 (by omega)
  have b4 := h.u8 4 (by omega)
  have b5 := h.u8 5 (by omega)
  have b6 := h.u8 6 (by omega)
  have b7 := h.u8 7 (by omega)
  have b16 := h.u16 16 (by omega) (by omega)
  have b17 := h.u16 17 (by omega) (by omega)
  have b18 := h.u16 18 (by omega) (by omega)
  have m1 := tmod_nn n0 256
  have m2 : 0 ≤ n % 256 ∧ n % 256 < 256 := by omega
  obtain ⟨m3, m4⟩ := m2
  generalize hA : R f = A at *
  go_enter Try.func27, Try.ntmps27
  go_wp2_with fail
  exact bodyPost_ret (v := .agg _) (results_cell_row rfl _ _ (w.heap.size + 1) 25 _ (0, 0) _ rfl (by repeat (first | (refine heap_at _ _ _ ?_; (simp; done)) | (refine (heap_past _ _ _ ?_).trans ?_; focus (simp; done)) | (refine (heap_drew _ _).trans ?_))) Try.underlying25 rfl (iR (show BlkN _ 29 by simp [*]))) rfl ⟨by rw [← hA]; simp [R_set8, R_set16, R_set8b], _, _, rfl⟩
set_option maxRecDepth 100000 in
set_option maxHeartbeats 4000000 in
theorem set_IX (f : Nat → Int) (h : RB f) (n : Int) (n0 : 0 ≤ n) (n1 : n < 65536) (w : World) : Calls Try.prog 27 #[.agg (R f), .string ⟨#[73, 88]⟩, .int .i64 n] w fun e w' => e = .returned (.agg (R (upd f 16 n))) ∧ ∃ o1 o2, w' = (w.alloc o1).alloc o2 := by
  have c0 := R_get f 0 (by omega)
  have c1 := R_get f 1 (by omega)
  have c2 := R_get f 2 (by omega)
  have c3 := R_get f 3 (by omega)
  have c4 := R_get f 4 (by omega)
  have c5 := R_get f 5 (by omega)
  have c6 := R_get f 6 (by omega)
  have c7 := R_get f 7 (by omega)
  have c16 := R_get f 16 (by omega)
  have c17 := R_get f 17 (by omega)
  have c18 := R_get f 18 (by omega)
  change (R f)[0]? = some (.int .u8 (f 0)) at c0
  change (R f)[1]? = some (.int .u8 (f 1)) at c1
  change (R f)[2]? = some (.int .u8 (f 2)) at c2
  change (R f)[3]? = some (.int .u8 (f 3)) at c3
  change (R f)[4]? = some (.int .u8 (f 4)) at c4
  change (R f)[5]? = some (.int .u8 (f 5)) at c5
  change (R f)[6]? = some (.int .u8 (f 6)) at c6
  change (R f)[7]? = some (.int .u8 (f 7)) at c7
  change (R f)[16]? = some (.int .u16 (f 16)) at c16
  change (R f)[17]? = some (.int .u16 (f 17)) at c17
  change (R f)[18]? = some (.int .u16 (f 18)) at c18
  have c22 := R_get f 22 (by omega)
  change (R f)[22]? = some (.int .u8 (f 22)) at c22
  have c23 := R_get f 23 (by omega)
  change (R f)[23]? = some (.int .u8 (f 23)) at c23
  have c24 := R_get f 24 (by omega)
  change (R f)[24]? = some (.int .u8 (f 24)) at c24
  have sA : BlkN (R f) 29 := R_size f
  have oA : BlkOne (R f) := R_one f
  have zn := zN
  unfold Z29 at zn
  have b0 := h.u8 0 (by omega)
  have b1 := h.u8 1 (by omega)
  have b2 := h.u8 2 (by omega)
  have b3 := h.u8 3 (by omega)
  have b4 := h.u8 4 (by omega)
  have b5 := h.u8 5 (by omega)
  have b6 := h.u8 6 (by omega)
  have b7 := h.u8 7 (by omega)
  have b16 := h.u16 16 (by omega) (by omega)
  have b17 := h.u16 17 (by omega) (by omega)
  have b18 := h.u16 18 (by omega) (by omega)
  have m1 := tmod_nn n0 256
  have m2 : 0 ≤ n % 256 ∧ n % 256 < 256 := by omega
  obtain ⟨m3, m4⟩ := m2
  generalize hA : R f = A at *
  go_enter Try.func27, Try.ntmps27
  go_wp2_with fail
  exact bodyPost_ret (v := .agg _) (results_cell_row rfl _ _ (w.heap.size + 1) 25 _ (0, 0) _ rfl (by repeat (first | (refine heap_at _ _ _ ?_; (simp; done)) | (refine (heap_past _ _ _ ?_).trans ?_; focus (simp; done)) | (refine (heap_drew _ _).trans ?_))) Try.underlying25 rfl (iR (show BlkN _ 29 by simp [*]))) rfl ⟨by rw [← hA]; simp [R_set8, R_set16, R_set8b], _, _, rfl⟩
set_option maxRecDepth 100000 in
set_option maxHeartbeats 4000000 in
theorem set_IY (f : Nat → Int) (h : RB f) (n : Int) (n0 : 0 ≤ n) (n1 : n < 65536) (w : World) : Calls Try.prog 27 #[.agg (R f), .string ⟨#[73, 89]⟩, .int .i64 n] w fun e w' => e = .returned (.agg (R (upd f 17 n))) ∧ ∃ o1 o2, w' = (w.alloc o1).alloc o2 := by
  have c0 := R_get f 0 (by omega)
  have c1 := R_get f 1 (by omega)
  have c2 := R_get f 2 (by omega)
  have c3 := R_get f 3 (by omega)
  have c4 := R_get f 4 (by omega)
  have c5 := R_get f 5 (by omega)
  have c6 := R_get f 6 (by omega)
  have c7 := R_get f 7 (by omega)
  have c16 := R_get f 16 (by omega)
  have c17 := R_get f 17 (by omega)
  have c18 := R_get f 18 (by omega)
  change (R f)[0]? = some (.int .u8 (f 0)) at c0
  change (R f)[1]? = some (.int .u8 (f 1)) at c1
  change (R f)[2]? = some (.int .u8 (f 2)) at c2
  change (R f)[3]? = some (.int .u8 (f 3)) at c3
  change (R f)[4]? = some (.int .u8 (f 4)) at c4
  change (R f)[5]? = some (.int .u8 (f 5)) at c5
  change (R f)[6]? = some (.int .u8 (f 6)) at c6
  change (R f)[7]? = some (.int .u8 (f 7)) at c7
  change (R f)[16]? = some (.int .u16 (f 16)) at c16
  change (R f)[17]? = some (.int .u16 (f 17)) at c17
  change (R f)[18]? = some (.int .u16 (f 18)) at c18
  have c22 := R_get f 22 (by omega)
  change (R f)[22]? = some (.int .u8 (f 22)) at c22
  have c23 := R_get f 23 (by omega)
  change (R f)[23]? = some (.int .u8 (f 23)) at c23
  have c24 := R_get f 24 (by omega)
  change (R f)[24]? = some (.int .u8 (f 24)) at c24
  have sA : BlkN (R f) 29 := R_size f
  have oA : BlkOne (R f) := R_one f
  have zn := zN
  unfold Z29 at zn
  have b0 := h.u8 0 (by omega)
  have b1 := h.u8 1 (by omega)
  have b2 := h.u8 2 (by omega)
  have b3 := h.u8 3 (by omega)
  have b4 := h.u8 4 (by omega)
  have b5 := h.u8 5 (by omega)
  have b6 := h.u8 6 (by omega)
  have b7 := h.u8 7 (by omega)
  have b16 := h.u16 16 (by omega) (by omega)
  have b17 := h.u16 17 (by omega) (by omega)
  have b18 := h.u16 18 (by omega) (by omega)
  have m1 := tmod_nn n0 256
  have m2 : 0 ≤ n % 256 ∧ n % 256 < 256 := by omega
  obtain ⟨m3, m4⟩ := m2
  generalize hA : R f = A at *
  go_enter Try.func27, Try.ntmps27
  go_wp2_with fail
  exact bodyPost_ret (v := .agg _) (results_cell_row rfl _ _ (w.heap.size + 1) 25 _ (0, 0) _ rfl (by repeat (first | (refine heap_at _ _ _ ?_; (simp; done)) | (refine (heap_past _ _ _ ?_).trans ?_; focus (simp; done)) | (refine (heap_drew _ _).trans ?_))) Try.underlying25 rfl (iR (show BlkN _ 29 by simp [*]))) rfl ⟨by rw [← hA]; simp [R_set8, R_set16, R_set8b], _, _, rfl⟩
set_option maxRecDepth 100000 in
set_option maxHeartbeats 4000000 in
theorem set_SP (f : Nat → Int) (h : RB f) (n : Int) (n0 : 0 ≤ n) (n1 : n < 65536) (w : World) : Calls Try.prog 27 #[.agg (R f), .string ⟨#[83, 80]⟩, .int .i64 n] w fun e w' => e = .returned (.agg (R (upd f 18 n))) ∧ ∃ o1 o2, w' = (w.alloc o1).alloc o2 := by
  have c0 := R_get f 0 (by omega)
  have c1 := R_get f 1 (by omega)
  have c2 := R_get f 2 (by omega)
  have c3 := R_get f 3 (by omega)
  have c4 := R_get f 4 (by omega)
  have c5 := R_get f 5 (by omega)
  have c6 := R_get f 6 (by omega)
  have c7 := R_get f 7 (by omega)
  have c16 := R_get f 16 (by omega)
  have c17 := R_get f 17 (by omega)
  have c18 := R_get f 18 (by omega)
  change (R f)[0]? = some (.int .u8 (f 0)) at c0
  change (R f)[1]? = some (.int .u8 (f 1)) at c1
  change (R f)[2]? = some (.int .u8 (f 2)) at c2
  change (R f)[3]? = some (.int .u8 (f 3)) at c3
  change (R f)[4]? = some (.int .u8 (f 4)) at c4
  change (R f)[5]? = some (.int .u8 (f 5)) at c5
  change (R f)[6]? = some (.int .u8 (f 6)) at c6
  change (R f)[7]? = some (.int .u8 (f 7)) at c7
  change (R f)[16]? = some (.int .u16 (f 16)) at c16
  change (R f)[17]? = some (.int .u16 (f 17)) at c17
  change (R f)[18]? = some (.int .u16 (f 18)) at c18
  have c22 := R_get f 22 (by omega)
  change (R f)[22]? = some (.int .u8 (f 22)) at c22
  have c23 := R_get f 23 (by omega)
  change (R f)[23]? = some (.int .u8 (f 23)) at c23
  have c24 := R_get f 24 (by omega)
  change (R f)[24]? = some (.int .u8 (f 24)) at c24
  have sA : BlkN (R f) 29 := R_size f
  have oA : BlkOne (R f) := R_one f
  have zn := zN
  unfold Z29 at zn
  have b0 := h.u8 0 (by omega)
  have b1 := h.u8 1 (by omega)
  have b2 := h.u8 2 (by omega)
  have b3 := h.u8 3 (by omega)
  have b4 := h.u8 4 (by omega)
  have b5 := h.u8 5 (by omega)
  have b6 := h.u8 6 (by omega)
  have b7 := h.u8 7 (by omega)
  have b16 := h.u16 16 (by omega) (by omega)
  have b17 := h.u16 17 (by omega) (by omega)
  have b18 := h.u16 18 (by omega) (by omega)
  have m1 := tmod_nn n0 256
  have m2 : 0 ≤ n % 256 ∧ n % 256 < 256 := by omega
  obtain ⟨m3, m4⟩ := m2
  generalize hA : R f = A at *
  go_enter Try.func27, Try.ntmps27
  go_wp2_with fail
  exact bodyPost_ret (v := .agg _) (results_cell_row rfl _ _ (w.heap.size + 1) 25 _ (0, 0) _ rfl (by repeat (first | (refine heap_at _ _ _ ?_; (simp; done)) | (refine (heap_past _ _ _ ?_).trans ?_; focus (simp; done)) | (refine (heap_drew _ _).trans ?_))) Try.underlying25 rfl (iR (show BlkN _ 29 by simp [*]))) rfl ⟨by rw [← hA]; simp [R_set8, R_set16, R_set8b], _, _, rfl⟩
end Regs
end Go.Proofs.Ythghpgnnbdimaaa
