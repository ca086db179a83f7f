/- Registers (layer 10): what the program's functions do, the second part. No conditions but that numbers are of their kinds. -/
import Derived.Test.YthghpgnnbdimaaaRegs9
import Derived.RegionTactic
import Derived.Deep.DeepCutAuto
import Derived.Lib.Hide
import Derived.Deep.CutRange
import Derived.LoopTactic
import Derived.Deep.RegionHeld3
namespace Go.Proofs.Ythghpgnnbdimaaa
open Go.RowKit
open Kit R06
set_option linter.unusedSimpArgs false
set_option linter.unusedVariables false
attribute [local simp] blkAt_alloc blkNew_cells putRow_cells blkAt_drew BlkN.set BlkOne.setInt BlkOne.setBool blkPut_alloc blkPut_drew nq2 nq3 nq4 nq5 nq6 nq7 nq8
namespace Regs
attribute [local simp ↓] rl_in rs_in
attribute [local simp] rl_run rs_run
set_option maxRecDepth 100000 in
set_option maxHeartbeats 4000000 in
theorem get_c4x (f : Nat → Int) (h : RB f) (w : World) : Calls Try.prog 3 #[.agg (R f), .int .i64 4, .int .u8 221] w fun e w' => e = .returned (.bool true) ∧ Below w.heap.size w w' := by
  have b0 := h.u8 0 (by omega)
  have b1 := h.u8 1 (by omega)
  have b2 := h.u8 2 (by omega)
  have b3 := h.u8 3 (by omega)
  have b4 := h.u8 4 (by omega)
  have b5 := h.u8 5 (by omega)
  have b6 := h.u8 6 (by omega)
  have b7 := h.u8 7 (by omega)
  have b16 := h.u16 16 (by omega) (by omega)
  have b17 := h.u16 17 (by omega) (by omega)
  have b18 := h.u16 18 (by omega) (by omega)
  have sA : BlkN (R f) 29 := R_size f
  have ep : pairV f 4 = f 0 * 256 + f 1 := by simp [pairV]
  have eo : oneV f 4 221 = f 16 / 256 := by first | (simp [oneV, pairV, idxV]; done) | (simp [oneV, pairV, idxV]; omega)
  have hp := heldB (w := w) (H := w.heap.size) (A := R f) (belowOf1 fun W => pair_any f h 4 W)
  rw [ep] at hp
  have ho := heldB (w := w) (H := w.heap.size) (A := R f) (fun W => one_any f h 4 221 W)
  rw [eo] at ho
  have hr := heldB (w := w) (H := w.heap.size) (A := R f) (belowOf1 fun W => right_any f W)
  have hrr := heldB (w := w) (H := w.heap.size) (A := R f) (belowOf1 fun W => rright_any f W)
  have hl := heldB (w := w) (H := w.heap.size) (A := R f) (belowOf0 fun W => let_4x W)
  have ha := heldB (w := w) (H := w.heap.size) (A := R f) alive_any
  have hg := heldB (w := w) (H := w.heap.size) (A := R f) (fun W => get_AF f h W)
  have hg1 := heldB (w := w) (H := w.heap.size) (A := R f) (belowOf1 fun W => get_IXH f h W)
  have wo : IntKind.i64.wrap (f 16 / 256) = f 16 / 256 := by rw [IntKind.wrap_i64]; omega
  have wp : IntKind.i64.wrap (f 0 * 256 + f 1) = f 0 * 256 + f 1 := by rw [IntKind.wrap_i64]; omega
  generalize hv : rightV f = rv at *
  generalize hq1 : (f 0 * 256 + f 1) = q1 at *
  generalize R f = A at *
  have HP := Lib.hid hp
  have HO := Lib.hid ho
  have HR := Lib.hid hr
  have HRR := Lib.hid hrr
  have HL := Lib.hid hl
  have HA := Lib.hid ha
  have HG := Lib.hid hg
  have HG1 := Lib.hid hg1
  clear hp ho hr hrr hl ha hg hg1 ep eo b0 b1 b2 b3 b4 b5 b6 b7 b16 b17 b18
  go_enter Try.func3, Try.ntmps3
  go_wp2_with (go_at_call 9; (with_reducible refine (HA.out _ ?_).mono ?_); (unfold PH; exact ⟨by first | assumption | (simp [*]; done), by first | assumption | (simp; done) | (simp; omega) | omega, by first | assumption | go_grown⟩); rintro e w' ⟨rfl, k0, k1, k2⟩)
  go_cut [7] from 18 to 23 (fun v wx => v = .int .i64 q1 ∧ PH w w.heap.size A wx)
  case first =>
    have n0 : ¬ (w.heap.size = w'.heap.size) := by omega
    go_region_with (first | (go_at_call 11; with_reducible refine (names_any _).mono ?_; rintro e w2 ⟨rfl, rfl⟩) | (go_at_call 10; (with_reducible refine (HG.out _ ?_).mono ?_); (unfold PH; exact ⟨by first | assumption | (simp [*]; done), by first | assumption | (simp; done) | (simp; omega) | omega, by first | assumption | go_grown⟩); clear k0 k1 k2; rintro e w' ⟨rfl, k0, k1, k2⟩))
    all_goals (go_wp2_with fail; go_meet; exact ⟨rfl, k0, k1, k2⟩)
  case rest =>
  obtain ⟨rfl, m0, m1, m2⟩ := hcut
  clear k0 k1 k2
  go_wp2_with (first | (go_at_call 12; (with_reducible refine (HL.out _ ?_).mono ?_); (unfold PH; exact ⟨by first | assumption | (simp [*]; done), by first | assumption | (simp; done) | (simp; omega) | omega, by first | assumption | go_grown⟩); rintro e w' ⟨rfl, k0, k1, k2⟩) | (go_at_call 10; (with_reducible refine (HG1.out _ ?_).mono ?_); (unfold PH; exact ⟨by first | assumption | (simp [*]; done), by first | assumption | (simp; done) | (simp; omega) | omega, by first | assumption | go_grown⟩); rintro e w' ⟨rfl, k0, k1, k2⟩))
  go_region_held3 (fun w' => blkAt w' w.heap.size = A ∧ w.heap.size < w'.heap.size ∧ Below w.heap.size w w') (first | assumption | (exact PH.drew (by assumption)) | (exact ⟨by first | assumption | (simp [*]; done), by first | assumption | (simp; done) | (simp; omega) | omega, by first | assumption | (exact Below.drew (by assumption)) | go_grown⟩)) (first | (go_at_call 13; (with_reducible refine (HP.out _ ?_).mono ?_); (unfold PH; exact ⟨by first | assumption | (simp [*]; done), by first | assumption | (simp; done) | (simp; omega) | omega, by first | assumption | go_grown⟩); rintro e w' ⟨rfl, k0, k1, k2⟩) | (go_at_call 14; (with_reducible refine (HO.out _ ?_).mono ?_); (unfold PH; exact ⟨by first | assumption | (simp [*]; done), by first | assumption | (simp; done) | (simp; omega) | omega, by first | assumption | go_grown⟩); rintro e w' ⟨rfl, k0, k1, k2⟩) | (go_at_call 15; (with_reducible refine (HR.out _ ?_).mono ?_); (unfold PH; exact ⟨by first | assumption | (simp [*]; done), by first | assumption | (simp; done) | (simp; omega) | omega, by first | assumption | go_grown⟩); rintro e w' ⟨rfl, k0, k1, k2⟩) | (go_at_call 16; (with_reducible refine (HRR.out _ ?_).mono ?_); (unfold PH; exact ⟨by first | assumption | (simp [*]; done), by first | assumption | (simp; done) | (simp; omega) | omega, by first | assumption | go_grown⟩); rintro e w' ⟨rfl, k0, k1, k2⟩))
  all_goals
    go_wp2_with fail
    go_ret
    exact ⟨ret_bool (by simp), by first | assumption | go_grown⟩
set_option maxRecDepth 100000 in
set_option maxHeartbeats 4000000 in
theorem get_c4y (f : Nat → Int) (h : RB f) (w : World) : Calls Try.prog 3 #[.agg (R f), .int .i64 4, .int .u8 253] w fun e w' => e = .returned (.bool true) ∧ Below w.heap.size w w' := by
  have b0 := h.u8 0 (by omega)
  have b1 := h.u8 1 (by omega)
  have b2 := h.u8 2 (by omega)
  have b3 := h.u8 3 (by omega)
  have b4 := h.u8 4 (by omega)
  have b5 := h.u8 5 (by omega)
  have b6 := h.u8 6 (by omega)
  have b7 := h.u8 7 (by omega)
  have b16 := h.u16 16 (by omega) (by omega)
  have b17 := h.u16 17 (by omega) (by omega)
  have b18 := h.u16 18 (by omega) (by omega)
  have sA : BlkN (R f) 29 := R_size f
  have ep : pairV f 4 = f 0 * 256 + f 1 := by simp [pairV]
  have eo : oneV f 4 253 = f 17 / 256 := by first | (simp [oneV, pairV, idxV]; done) | (simp [oneV, pairV, idxV]; omega)
  have hp := heldB (w := w) (H := w.heap.size) (A := R f) (belowOf1 fun W => pair_any f h 4 W)
  rw [ep] at hp
  have ho := heldB (w := w) (H := w.heap.size) (A := R f) (fun W => one_any f h 4 253 W)
  rw [eo] at ho
  have hr := heldB (w := w) (H := w.heap.size) (A := R f) (belowOf1 fun W => right_any f W)
  have hrr := heldB (w := w) (H := w.heap.size) (A := R f) (belowOf1 fun W => rright_any f W)
  have hl := heldB (w := w) (H := w.heap.size) (A := R f) (belowOf0 fun W => let_4y W)
  have ha := heldB (w := w) (H := w.heap.size) (A := R f) alive_any
  have hg := heldB (w := w) (H := w.heap.size) (A := R f) (fun W => get_AF f h W)
  have hg1 := heldB (w := w) (H := w.heap.size) (A := R f) (belowOf1 fun W => get_IYH f h W)
  have wo : IntKind.i64.wrap (f 17 / 256) = f 17 / 256 := by rw [IntKind.wrap_i64]; omega
  have wp : IntKind.i64.wrap (f 0 * 256 + f 1) = f 0 * 256 + f 1 := by rw [IntKind.wrap_i64]; omega
  generalize hv : rightV f = rv at *
  generalize hq1 : (f 0 * 256 + f 1) = q1 at *
  generalize R f = A at *
  have HP := Lib.hid hp
  have HO := Lib.hid ho
  have HR := Lib.hid hr
  have HRR := Lib.hid hrr
  have HL := Lib.hid hl
  have HA := Lib.hid ha
  have HG := Lib.hid hg
  have HG1 := Lib.hid hg1
  clear hp ho hr hrr hl ha hg hg1 ep eo b0 b1 b2 b3 b4 b5 b6 b7 b16 b17 b18
  go_enter Try.func3, Try.ntmps3
  go_wp2_with (go_at_call 9; (with_reducible refine (HA.out _ ?_).mono ?_); (unfold PH; exact ⟨by first | assumption | (simp [*]; done), by first | assumption | (simp; done) | (simp; omega) | omega, by first | assumption | go_grown⟩); rintro e w' ⟨rfl, k0, k1, k2⟩)
  go_cut [7] from 18 to 23 (fun v wx => v = .int .i64 q1 ∧ PH w w.heap.size A wx)
  case first =>
    have n0 : ¬ (w.heap.size = w'.heap.size) := by omega
    go_region_with (first | (go_at_call 11; with_reducible refine (names_any _).mono ?_; rintro e w2 ⟨rfl, rfl⟩) | (go_at_call 10; (with_reducible refine (HG.out _ ?_).mono ?_); (unfold PH; exact ⟨by first | assumption | (simp [*]; done), by first | assumption | (simp; done) | (simp; omega) | omega, by first | assumption | go_grown⟩); clear k0 k1 k2; rintro e w' ⟨rfl, k0, k1, k2⟩))
    all_goals (go_wp2_with fail; go_meet; exact ⟨rfl, k0, k1, k2⟩)
  case rest =>
  obtain ⟨rfl, m0, m1, m2⟩ := hcut
  clear k0 k1 k2
  go_wp2_with (first | (go_at_call 12; (with_reducible refine (HL.out _ ?_).mono ?_); (unfold PH; exact ⟨by first | assumption | (simp [*]; done), by first | assumption | (simp; done) | (simp; omega) | omega, by first | assumption | go_grown⟩); rintro e w' ⟨rfl, k0, k1, k2⟩) | (go_at_call 10; (with_reducible refine (HG1.out _ ?_).mono ?_); (unfold PH; exact ⟨by first | assumption | (simp [*]; done), by first | assumption | (simp; done) | (simp; omega) | omega, by first | assumption | go_grown⟩); rintro e w' ⟨rfl, k0, k1, k2⟩))
  go_region_held3 (fun w' => blkAt w' w.heap.size = A ∧ w.heap.size < w'.heap.size ∧ Below w.heap.size w w') (first | assumption | (exact PH.drew (by assumption)) | (exact ⟨by first | assumption | (simp [*]; done), by first | assumption | (simp; done) | (simp; omega) | omega, by first | assumption | (exact Below.drew (by assumption)) | go_grown⟩)) (first | (go_at_call 13; (with_reducible refine (HP.out _ ?_).mono ?_); (unfold PH; exact ⟨by first | assumption | (simp [*]; done), by first | assumption | (simp; done) | (simp; omega) | omega, by first | assumption | go_grown⟩); rintro e w' ⟨rfl, k0, k1, k2⟩) | (go_at_call 14; (with_reducible refine (HO.out _ ?_).mono ?_); (unfold PH; exact ⟨by first | assumption | (simp [*]; done), by first | assumption | (simp; done) | (simp; omega) | omega, by first | assumption | go_grown⟩); rintro e w' ⟨rfl, k0, k1, k2⟩) | (go_at_call 15; (with_reducible refine (HR.out _ ?_).mono ?_); (unfold PH; exact ⟨by first | assumption | (simp [*]; done), by first | assumption | (simp; done) | (simp; omega) | omega, by first | assumption | go_grown⟩); rintro e w' ⟨rfl, k0, k1, k2⟩) | (go_at_call 16; (with_reducible refine (HRR.out _ ?_).mono ?_); (unfold PH; exact ⟨by first | assumption | (simp [*]; done), by first | assumption | (simp; done) | (simp; omega) | omega, by first | assumption | go_grown⟩); rintro e w' ⟨rfl, k0, k1, k2⟩))
  all_goals
    go_wp2_with fail
    go_ret
    exact ⟨ret_bool (by simp), by first | assumption | go_grown⟩
set_option maxRecDepth 100000 in
set_option maxHeartbeats 4000000 in
theorem get_c4 (f : Nat → Int) (h : RB f) (p : Int) (p1 : p ≠ 221) (p2 : p ≠ 253) (w : World) : Calls Try.prog 3 #[.agg (R f), .int .i64 4, .int .u8 p] w fun e w' => e = .returned (.bool true) ∧ Below w.heap.size w w' := by
  have b0 := h.u8 0 (by omega)
  have b1 := h.u8 1 (by omega)
  have b2 := h.u8 2 (by omega)
  have b3 := h.u8 3 (by omega)
  have b4 := h.u8 4 (by omega)
  have b5 := h.u8 5 (by omega)
  have b6 := h.u8 6 (by omega)
  have b7 := h.u8 7 (by omega)
  have b16 := h.u16 16 (by omega) (by omega)
  have b17 := h.u16 17 (by omega) (by omega)
  have b18 := h.u16 18 (by omega) (by omega)
  have sA : BlkN (R f) 29 := R_size f
  have ep : pairV f 4 = f 0 * 256 + f 1 := by simp [pairV]
  have eo : oneV f 4 p = f 6 := by simp [oneV, pairV, idxV, p1, p2]; omega
  have hp := heldB (w := w) (H := w.heap.size) (A := R f) (belowOf1 fun W => pair_any f h 4 W)
  rw [ep] at hp
  have ho := heldB (w := w) (H := w.heap.size) (A := R f) (fun W => one_any f h 4 p W)
  rw [eo] at ho
  have hr := heldB (w := w) (H := w.heap.size) (A := R f) (belowOf1 fun W => right_any f W)
  have hrr := heldB (w := w) (H := w.heap.size) (A := R f) (belowOf1 fun W => rright_any f W)
  have hl := heldB (w := w) (H := w.heap.size) (A := R f) (belowOf0 fun W => let_4 p p1 p2 W)
  have ha := heldB (w := w) (H := w.heap.size) (A := R f) alive_any
  have hg := heldB (w := w) (H := w.heap.size) (A := R f) (fun W => get_AF f h W)
  have hg1 := heldB (w := w) (H := w.heap.size) (A := R f) (belowOf1 fun W => get_H f h W)
  have wo : IntKind.i64.wrap (f 6) = f 6 := by rw [IntKind.wrap_i64]; omega
  have wp : IntKind.i64.wrap (f 0 * 256 + f 1) = f 0 * 256 + f 1 := by rw [IntKind.wrap_i64]; omega
  generalize hv : rightV f = rv at *
  generalize hq1 : (f 0 * 256 + f 1) = q1 at *
  generalize R f = A at *
  have HP := Lib.hid hp
  have HO := Lib.hid ho
  have HR := Lib.hid hr
  have HRR := Lib.hid hrr
  have HL := Lib.hid hl
  have HA := Lib.hid ha
  have HG := Lib.hid hg
  have HG1 := Lib.hid hg1
  clear hp ho hr hrr hl ha hg hg1 ep eo b0 b1 b2 b3 b4 b5 b6 b7 b16 b17 b18
  go_enter Try.func3, Try.ntmps3
  go_wp2_with (go_at_call 9; (with_reducible refine (HA.out _ ?_).mono ?_); (unfold PH; exact ⟨by first | assumption | (simp [*]; done), by first | assumption | (simp; done) | (simp; omega) | omega, by first | assumption | go_grown⟩); rintro e w' ⟨rfl, k0, k1, k2⟩)
  go_cut [7] from 18 to 23 (fun v wx => v = .int .i64 q1 ∧ PH w w.heap.size A wx)
  case first =>
    have n0 : ¬ (w.heap.size = w'.heap.size) := by omega
    go_region_with (first | (go_at_call 11; with_reducible refine (names_any _).mono ?_; rintro e w2 ⟨rfl, rfl⟩) | (go_at_call 10; (with_reducible refine (HG.out _ ?_).mono ?_); (unfold PH; exact ⟨by first | assumption | (simp [*]; done), by first | assumption | (simp; done) | (simp; omega) | omega, by first | assumption | go_grown⟩); clear k0 k1 k2; rintro e w' ⟨rfl, k0, k1, k2⟩))
    all_goals (go_wp2_with fail; go_meet; exact ⟨rfl, k0, k1, k2⟩)
  case rest =>
  obtain ⟨rfl, m0, m1, m2⟩ := hcut
  clear k0 k1 k2
  go_wp2_with (first | (go_at_call 12; (with_reducible refine (HL.out _ ?_).mono ?_); (unfold PH; exact ⟨by first | assumption | (simp [*]; done), by first | assumption | (simp; done) | (simp; omega) | omega, by first | assumption | go_grown⟩); rintro e w' ⟨rfl, k0, k1, k2⟩) | (go_at_call 10; (with_reducible refine (HG1.out _ ?_).mono ?_); (unfold PH; exact ⟨by first | assumption | (simp [*]; done), by first | assumption | (simp; done) | (simp; omega) | omega, by first | assumption | go_grown⟩); rintro e w' ⟨rfl, k0, k1, k2⟩))
  go_region_held3 (fun w' => blkAt w' w.heap.size = A ∧ w.heap.size < w'.heap.size ∧ Below w.heap.size w w') (first | assumption | (exact PH.drew (by assumption)) | (exact ⟨by first | assumption | (simp [*]; done), by first | assumption | (simp; done) | (simp; omega) | omega, by first | assumption | (exact Below.drew (by assumption)) | go_grown⟩)) (first | (go_at_call 13; (with_reducible refine (HP.out _ ?_).mono ?_); (unfold PH; exact ⟨by first | assumption | (simp [*]; done), by first | assumption | (simp; done) | (simp; omega) | omega, by first | assumption | go_grown⟩); rintro e w' ⟨rfl, k0, k1, k2⟩) | (go_at_call 14; (with_reducible refine (HO.out _ ?_).mono ?_); (unfold PH; exact ⟨by first | assumption | (simp [*]; done), by first | assumption | (simp; done) | (simp; omega) | omega, by first | assumption | go_grown⟩); rintro e w' ⟨rfl, k0, k1, k2⟩) | (go_at_call 15; (with_reducible refine (HR.out _ ?_).mono ?_); (unfold PH; exact ⟨by first | assumption | (simp [*]; done), by first | assumption | (simp; done) | (simp; omega) | omega, by first | assumption | go_grown⟩); rintro e w' ⟨rfl, k0, k1, k2⟩) | (go_at_call 16; (with_reducible refine (HRR.out _ ?_).mono ?_); (unfold PH; exact ⟨by first | assumption | (simp [*]; done), by first | assumption | (simp; done) | (simp; omega) | omega, by first | assumption | go_grown⟩); rintro e w' ⟨rfl, k0, k1, k2⟩))
  all_goals
    go_wp2_with fail
    go_ret
    exact ⟨ret_bool (by simp), by first | assumption | go_grown⟩
set_option maxRecDepth 100000 in
set_option maxHeartbeats 4000000 in
theorem get_c5x (f : Nat → Int) (h : RB f) (w : World) : Calls Try.prog 3 #[.agg (R f), .int .i64 5, .int .u8 221] w fun e w' => e = .returned (.bool true) ∧ Below w.heap.size w w' := by
  have b0 := h.u8 0 (by omega)
  have b1 := h.u8 1 (by omega)
  have b2 := h.u8 2 (by omega)
  have b3 := h.u8 3 (by omega)
  have b4 := h.u8 4 (by omega)
  have b5 := h.u8 5 (by omega)
  have b6 := h.u8 6 (by omega)
  have b7 := h.u8 7 (by omega)
  have b16 := h.u16 16 (by omega) (by omega)
  have b17 := h.u16 17 (by omega) (by omega)
  have b18 := h.u16 18 (by omega) (by omega)
  have sA : BlkN (R f) 29 := R_size f
  have ep : pairV f 5 = f 16 := by simp [pairV]
  have eo : oneV f 5 221 = f 16 % 256 := by first | (simp [oneV, pairV, idxV]; done) | (simp [oneV, pairV, idxV]; omega)
  have hp := heldB (w := w) (H := w.heap.size) (A := R f) (belowOf1 fun W => pair_any f h 5 W)
  rw [ep] at hp
  have ho := heldB (w := w) (H := w.heap.size) (A := R f) (fun W => one_any f h 5 221 W)
  rw [eo] at ho
  have hr := heldB (w := w) (H := w.heap.size) (A := R f) (belowOf1 fun W => right_any f W)
  have hrr := heldB (w := w) (H := w.heap.size) (A := R f) (belowOf1 fun W => rright_any f W)
  have hl := heldB (w := w) (H := w.heap.size) (A := R f) (belowOf0 fun W => let_5x W)
  have ha := heldB (w := w) (H := w.heap.size) (A := R f) alive_any
  have hg := heldB (w := w) (H := w.heap.size) (A := R f) (belowOf1 fun W => get_IX f h W)
  have hg1 := heldB (w := w) (H := w.heap.size) (A := R f) (belowOf1 fun W => get_IXL f h W)
  have wo : IntKind.i64.wrap (f 16 % 256) = f 16 % 256 := by rw [IntKind.wrap_i64]; omega
  have wp : IntKind.i64.wrap (f 16) = f 16 := by rw [IntKind.wrap_i64]; omega
  generalize hv : rightV f = rv at *
  generalize R f = A at *
  have HP := Lib.hid hp
  have HO := Lib.hid ho
  have HR := Lib.hid hr
  have HRR := Lib.hid hrr
  have HL := Lib.hid hl
  have HA := Lib.hid ha
  have HG := Lib.hid hg
  have HG1 := Lib.hid hg1
  clear hp ho hr hrr hl ha hg hg1 ep eo b0 b1 b2 b3 b4 b5 b6 b7 b16 b17 b18
  go_enter Try.func3, Try.ntmps3
  go_wp2_with (go_at_call 9; (with_reducible refine (HA.out _ ?_).mono ?_); (unfold PH; exact ⟨by first | assumption | (simp [*]; done), by first | assumption | (simp; done) | (simp; omega) | omega, by first | assumption | go_grown⟩); rintro e w' ⟨rfl, k0, k1, k2⟩)
  go_cut [7] from 18 to 23 (fun v wx => v = .int .i64 (f 16) ∧ PH w w.heap.size A wx)
  case first =>
    have n0 : ¬ (w.heap.size = w'.heap.size) := by omega
    go_region_with (first | (go_at_call 11; with_reducible refine (names_any _).mono ?_; rintro e w2 ⟨rfl, rfl⟩) | (go_at_call 10; (with_reducible refine (HG.out _ ?_).mono ?_); (unfold PH; exact ⟨by first | assumption | (simp [*]; done), by first | assumption | (simp; done) | (simp; omega) | omega, by first | assumption | go_grown⟩); clear k0 k1 k2; rintro e w' ⟨rfl, k0, k1, k2⟩))
    all_goals (go_wp2_with fail; go_meet; exact ⟨rfl, k0, k1, k2⟩)
  case rest =>
  obtain ⟨rfl, m0, m1, m2⟩ := hcut
  clear k0 k1 k2
  go_wp2_with (first | (go_at_call 12; (with_reducible refine (HL.out _ ?_).mono ?_); (unfold PH; exact ⟨by first | assumption | (simp [*]; done), by first | assumption | (simp; done) | (simp; omega) | omega, by first | assumption | go_grown⟩); rintro e w' ⟨rfl, k0, k1, k2⟩) | (go_at_call 10; (with_reducible refine (HG1.out _ ?_).mono ?_); (unfold PH; exact ⟨by first | assumption | (simp [*]; done), by first | assumption | (simp; done) | (simp; omega) | omega, by first | assumption | go_grown⟩); rintro e w' ⟨rfl, k0, k1, k2⟩))
  go_region_held3 (fun w' => blkAt w' w.heap.size = A ∧ w.heap.size < w'.heap.size ∧ Below w.heap.size w w') (first | assumption | (exact PH.drew (by assumption)) | (exact ⟨by first | assumption | (simp [*]; done), by first | assumption | (simp; done) | (simp; omega) | omega, by first | assumption | (exact Below.drew (by assumption)) | go_grown⟩)) (first | (go_at_call 13; (with_reducible refine (HP.out _ ?_).mono ?_); (unfold PH; exact ⟨by first | assumption | (simp [*]; done), by first | assumption | (simp; done) | (simp; omega) | omega, by first | assumption | go_grown⟩); rintro e w' ⟨rfl, k0, k1, k2⟩) | (go_at_call 14; (with_reducible refine (HO.out _ ?_).mono ?_); (unfold PH; exact ⟨by first | assumption | (simp [*]; done), by first | assumption | (simp; done) | (simp; omega) | omega, by first | assumption | go_grown⟩); rintro e w' ⟨rfl, k0, k1, k2⟩) | (go_at_call 15; (with_reducible refine (HR.out _ ?_).mono ?_); (unfold PH; exact ⟨by first | assumption | (simp [*]; done), by first | assumption | (simp; done) | (simp; omega) | omega, by first | assumption | go_grown⟩); rintro e w' ⟨rfl, k0, k1, k2⟩) | (go_at_call 16; (with_reducible refine (HRR.out _ ?_).mono ?_); (unfold PH; exact ⟨by first | assumption | (simp [*]; done), by first | assumption | (simp; done) | (simp; omega) | omega, by first | assumption | go_grown⟩); rintro e w' ⟨rfl, k0, k1, k2⟩))
  all_goals
    go_wp2_with fail
    go_ret
    exact ⟨ret_bool (by simp), by first | assumption | go_grown⟩
set_option maxRecDepth 100000 in
set_option maxHeartbeats 4000000 in
theorem get_c5y (f : Nat → Int) (h : RB f) (w : World) : Calls Try.prog 3 #[.agg (R f), .int .i64 5, .int .u8 253] w fun e w' => e = .returned (.bool true) ∧ Below w.heap.size w w' := by
  have b0 := h.u8 0 (by omega)
  have b1 := h.u8 1 (by omega)
  have b2 := h.u8 2 (by omega)
  have b3 := h.u8 3 (by omega)
  have b4 := h.u8 4 (by omega)
  have b5 := h.u8 5 (by omega)
  have b6 := h.u8 6 (by omega)
  have b7 := h.u8 7 (by omega)
  have b16 := h.u16 16 (by omega) (by omega)
  have b17 := h.u16 17 (by omega) (by omega)
  have b18 := h.u16 18 (by omega) (by omega)
  have sA : BlkN (R f) 29 := R_size f
  have ep : pairV f 5 = f 16 := by simp [pairV]
  have eo : oneV f 5 253 = f 17 % 256 := by first | (simp [oneV, pairV, idxV]; done) | (simp [oneV, pairV, idxV]; omega)
  have hp := heldB (w := w) (H := w.heap.size) (A := R f) (belowOf1 fun W => pair_any f h 5 W)
  rw [ep] at hp
  have ho := heldB (w := w) (H := w.heap.size) (A := R f) (fun W => one_any f h 5 253 W)
  rw [eo] at ho
  have hr := heldB (w := w) (H := w.heap.size) (A := R f) (belowOf1 fun W => right_any f W)
  have hrr := heldB (w := w) (H := w.heap.size) (A := R f) (belowOf1 fun W => rright_any f W)
  have hl := heldB (w := w) (H := w.heap.size) (A := R f) (belowOf0 fun W => let_5y W)
  have ha := heldB (w := w) (H := w.heap.size) (A := R f) alive_any
  have hg := heldB (w := w) (H := w.heap.size) (A := R f) (belowOf1 fun W => get_IX f h W)
  have hg1 := heldB (w := w) (H := w.heap.size) (A := R f) (belowOf1 fun W => get_IYL f h W)
  have wo : IntKind.i64.wrap (f 17 % 256) = f 17 % 256 := by rw [IntKind.wrap_i64]; omega
  have wp : IntKind.i64.wrap (f 16) = f 16 := by rw [IntKind.wrap_i64]; omega
  generalize hv : rightV f = rv at *
  generalize R f = A at *
  have HP := Lib.hid hp
  have HO := Lib.hid ho
  have HR := Lib.hid hr
  have HRR := Lib.hid hrr
  have HL := Lib.hid hl
  have HA := Lib.hid ha
  have HG := Lib.hid hg
  have HG1 := Lib.hid hg1
  clear hp ho hr hrr hl ha hg hg1 ep eo b0 b1 b2 b3 b4 b5 b6 b7 b16 b17 b18
  go_enter Try.func3, Try.ntmps3
  go_wp2_with (go_at_call 9; (with_reducible refine (HA.out _ ?_).mono ?_); (unfold PH; exact ⟨by first | assumption | (simp [*]; done), by first | assumption | (simp; done) | (simp; omega) | omega, by first | assumption | go_grown⟩); rintro e w' ⟨rfl, k0, k1, k2⟩)
  go_cut [7] from 18 to 23 (fun v wx => v = .int .i64 (f 16) ∧ PH w w.heap.size A wx)
  case first =>
    have n0 : ¬ (w.heap.size = w'.heap.size) := by omega
    go_region_with (first | (go_at_call 11; with_reducible refine (names_any _).mono ?_; rintro e w2 ⟨rfl, rfl⟩) | (go_at_call 10; (with_reducible refine (HG.out _ ?_).mono ?_); (unfold PH; exact ⟨by first | assumption | (simp [*]; done), by first | assumption | (simp; done) | (simp; omega) | omega, by first | assumption | go_grown⟩); clear k0 k1 k2; rintro e w' ⟨rfl, k0, k1, k2⟩))
    all_goals (go_wp2_with fail; go_meet; exact ⟨rfl, k0, k1, k2⟩)
  case rest =>
  obtain ⟨rfl, m0, m1, m2⟩ := hcut
  clear k0 k1 k2
  go_wp2_with (first | (go_at_call 12; (with_reducible refine (HL.out _ ?_).mono ?_); (unfold PH; exact ⟨by first | assumption | (simp [*]; done), by first | assumption | (simp; done) | (simp; omega) | omega, by first | assumption | go_grown⟩); rintro e w' ⟨rfl, k0, k1, k2⟩) | (go_at_call 10; (with_reducible refine (HG1.out _ ?_).mono ?_); (unfold PH; exact ⟨by first | assumption | (simp [*]; done), by first | assumption | (simp; done) | (simp; omega) | omega, by first | assumption | go_grown⟩); rintro e w' ⟨rfl, k0, k1, k2⟩))
  go_region_held3 (fun w' => blkAt w' w.heap.size = A ∧ w.heap.size < w'.heap.size ∧ Below w.heap.size w w') (first | assumption | (exact PH.drew (by assumption)) | (exact ⟨by first | assumption | (simp [*]; done), by first | assumption | (simp; done) | (simp; omega) | omega, by first | assumption | (exact Below.drew (by assumption)) | go_grown⟩)) (first | (go_at_call 13; (with_reducible refine (HP.out _ ?_).mono ?_); (unfold PH; exact ⟨by first | assumption | (simp [*]; done), by first | assumption | (simp; done) | (simp; omega) | omega, by first | assumption | go_grown⟩); rintro e w' ⟨rfl, k0, k1, k2⟩) | (go_at_call 14; (with_reducible refine (HO.out _ ?_).mono ?_); (unfold PH; exact ⟨by first | assumption | (simp [*]; done), by first | assumption | (simp; done) | (simp; omega) | omega, by first | assumption | go_grown⟩); rintro e w' ⟨rfl, k0, k1, k2⟩) | (go_at_call 15; (with_reducible refine (HR.out _ ?_).mono ?_); (unfold PH; exact ⟨by first | assumption | (simp [*]; done), by first | assumption | (simp; done) | (simp; omega) | omega, by first | assumption | go_grown⟩); rintro e w' ⟨rfl, k0, k1, k2⟩) | (go_at_call 16; (with_reducible refine (HRR.out _ ?_).mono ?_); (unfold PH; exact ⟨by first | assumption | (simp [*]; done), by first | assumption | (simp; done) | (simp; omega) | omega, by first | assumption | go_grown⟩); rintro e w' ⟨rfl, k0, k1, k2⟩))
  all_goals
    go_wp2_with fail
    go_ret
    exact ⟨ret_bool (by simp), by first | assumption | go_grown⟩
end Regs
end Go.Proofs.Ythghpgnnbdimaaa
