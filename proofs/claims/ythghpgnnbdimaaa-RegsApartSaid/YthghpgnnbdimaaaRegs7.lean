/- Registers (layer 10): what the program's functions do, the second part. No conditions but that numbers are of their kinds. -/
import Derived.Test.YthghpgnnbdimaaaRegs6
import Derived.Test.YthghpgnnbdimaaaRegs5
import Derived.RegionTactic
import Derived.Deep.CutRange
import Derived.LoopTactic
import Derived.Deep.RegionHeld3
namespace Go.Proofs.Ythghpgnnbdimaaa
open Go.RowKit
open Kit R06
set_option linter.unusedSimpArgs false
set_option linter.unusedVariables false
attribute [local simp] blkAt_alloc blkNew_cells putRow_cells blkAt_drew BlkN.set BlkOne.setInt BlkOne.setBool blkPut_alloc blkPut_drew nq2 nq3 nq4 nq5 nq6 nq7 nq8
namespace Regs
attribute [local simp ↓] rl_in rs_in
attribute [local simp] rl_run rs_run
def rightV (f : Nat → Int) : Bool := decide (f 23 ≤ 2) && (f 24 == 0 || f 24 == 221 || f 24 == 253)
set_option maxRecDepth 100000 in
set_option maxHeartbeats 4000000 in
theorem right_any (f : Nat → Int) (w : World) : Calls Try.prog 15 #[.agg (R f)] w fun e w' => e = .returned (.bool (rightV f)) ∧ ∃ o, w' = w.alloc o := by
  have c23 := R_get f 23 (by omega)
  change (R f)[23]? = some (.int .u8 (f 23)) at c23
  have c24 := R_get f 24 (by omega)
  change (R f)[24]? = some (.int .u8 (f 24)) at c24
  generalize hA : R f = A at *
  unfold rightV
  generalize f 23 = x at *
  generalize f 24 = y at *
  clear hA
  rcases (by omega : x ≤ 2 ∨ 2 < x) with h1 | h1
  case inl =>
    have h2 : x < 3 := by omega
    have h3 : decide (x ≤ 2) = true := decide_eq_true h1
    have h4 : decide (x < 3) = true := decide_eq_true h2
    rcases (by omega : y = 0 ∨ y = 221 ∨ y = 253 ∨ (y ≠ 0 ∧ y ≠ 221 ∧ y ≠ 253)) with rfl | rfl | rfl | ⟨y0, y1, y2⟩
    all_goals
      go_enter Try.func15, Try.ntmps15
      go_wp2_with fail
      go_ret
      exact ⟨ret_bool (by simp [*]), _, rfl⟩
  case inr =>
    have h2 : ¬ x < 3 := by omega
    have h2' : ¬ x ≤ 2 := by omega
    have h3 : decide (x ≤ 2) = false := decide_eq_false h2'
    have h4 : decide (x < 3) = false := decide_eq_false h2
    go_enter Try.func15, Try.ntmps15
    go_wp2_with fail
    go_ret
    exact ⟨ret_bool (by simp [*]), _, rfl⟩
set_option maxRecDepth 100000 in
set_option maxHeartbeats 4000000 in
theorem rright_any (f : Nat → Int) (w : World) : Calls Try.prog 16 #[.agg (R f)] w fun e w' => e = .returned (.bool (rightV f)) ∧ ∃ o, w' = w.alloc o := by
  have c23 := R_get f 23 (by omega)
  change (R f)[23]? = some (.int .u8 (f 23)) at c23
  have c24 := R_get f 24 (by omega)
  change (R f)[24]? = some (.int .u8 (f 24)) at c24
  generalize hA : R f = A at *
  unfold rightV
  generalize f 23 = x at *
  generalize f 24 = y at *
  clear hA
  rcases (by omega : x ≤ 2 ∨ 2 < x) with h1 | h1
  case inl =>
    have h2 : x < 3 := by omega
    have h3 : decide (x ≤ 2) = true := decide_eq_true h1
    have h4 : decide (x < 3) = true := decide_eq_true h2
    rcases (by omega : y = 0 ∨ y = 221 ∨ y = 253 ∨ (y ≠ 0 ∧ y ≠ 221 ∧ y ≠ 253)) with rfl | rfl | rfl | ⟨y0, y1, y2⟩
    all_goals
      go_enter Try.func16, Try.ntmps16
      go_wp2_with fail
      go_ret
      exact ⟨ret_bool (by simp [*]), _, rfl⟩
  case inr =>
    have h2 : ¬ x < 3 := by omega
    have h2' : ¬ x ≤ 2 := by omega
    have h3 : decide (x ≤ 2) = false := decide_eq_false h2'
    have h4 : decide (x < 3) = false := decide_eq_false h2
    go_enter Try.func16, Try.ntmps16
    go_wp2_with fail
    go_ret
    exact ⟨ret_bool (by simp [*]), _, rfl⟩
def tickV (x : Int) : Int := x / 128 * 128 + (x % 128 + 1) % 128
theorem tick_nat : ∀ v, v < 256 → ((v % 256 &&& (255 - 127 % 256)) ||| ((v + 1) % 256 % 256 &&& 127 % 256)) = v / 128 * 128 + (v % 128 + 1) % 128 := byte_all _ _ (by decide +kernel)
theorem tick_eq (x : Int) (x0 : 0 ≤ x) (x1 : x < 256) : Go.bits .or .u8 (Go.bits .andNot .u8 x 127) (Go.bits .and .u8 ((x + 1) % 256) 127) = tickV x := by
  obtain ⟨v, rfl⟩ := Int.eq_ofNat_of_zero_le x0
  simp only [Kit.and8l, Kit.or8l, Kit.xor8l, Kit.andn8l, Kit.and16l, Kit.or16l, Kit.divl, Kit.modl, Kit.addn, Kit.muln, Kit.addl, Kit.mull, Kit.lmul, Kit.ladd, Kit.and8, Kit.or8, Kit.xor8, Kit.andn8, Kit.and16, Kit.or16, Kit.xor16, Kit.wrap16, Kit.wrap8, Kit.land8, Kit.lor8, Kit.lxor8, Kit.landn8, Kit.land16, Kit.lor16, Kit.lxor16]
  rw [tick_nat v (by omega)]
  unfold tickV
  omega
theorem tickV_bd (x : Int) (x0 : 0 ≤ x) (x1 : x < 256) : 0 ≤ tickV x ∧ tickV x < 256 := by unfold tickV; omega
set_option maxRecDepth 100000 in
set_option maxHeartbeats 4000000 in
theorem tick_any (f : Nat → Int) (h : RB f) (w : World) : Calls Try.prog 24 #[.agg (R f)] w fun e w' => e = .returned (.agg (R (upd f 22 (tickV (f 22))))) ∧ ∃ o1 o2, w' = (w.alloc o1).alloc o2 := by
  have c0 := R_get f 0 (by omega)
  have c1 := R_get f 1 (by omega)
  have c2 := R_get f 2 (by omega)
  have c3 := R_get f 3 (by omega)
  have c4 := R_get f 4 (by omega)
  have c5 := R_get f 5 (by omega)
  have c6 := R_get f 6 (by omega)
  have c7 := R_get f 7 (by omega)
  have c16 := R_get f 16 (by omega)
  have c17 := R_get f 17 (by omega)
  have c18 := R_get f 18 (by omega)
  change (R f)[0]? = some (.int .u8 (f 0)) at c0
  change (R f)[1]? = some (.int .u8 (f 1)) at c1
  change (R f)[2]? = some (.int .u8 (f 2)) at c2
  change (R f)[3]? = some (.int .u8 (f 3)) at c3
  change (R f)[4]? = some (.int .u8 (f 4)) at c4
  change (R f)[5]? = some (.int .u8 (f 5)) at c5
  change (R f)[6]? = some (.int .u8 (f 6)) at c6
  change (R f)[7]? = some (.int .u8 (f 7)) at c7
  change (R f)[16]? = some (.int .u16 (f 16)) at c16
  change (R f)[17]? = some (.int .u16 (f 17)) at c17
  change (R f)[18]? = some (.int .u16 (f 18)) at c18
  have c22 := R_get f 22 (by omega)
  change (R f)[22]? = some (.int .u8 (f 22)) at c22
  have c23 := R_get f 23 (by omega)
  change (R f)[23]? = some (.int .u8 (f 23)) at c23
  have c24 := R_get f 24 (by omega)
  change (R f)[24]? = some (.int .u8 (f 24)) at c24
  have sA : BlkN (R f) 29 := R_size f
  have oA : BlkOne (R f) := R_one f
  have zn := zN
  unfold Z29 at zn
  obtain ⟨b0, b1⟩ := h.2.2 22 (by omega) (by omega)
  have eT := tick_eq (f 22) b0 b1
  have eN := tmod_nn b0 128
  have eD := tdiv_nn b0 128
  generalize hA : R f = A at *
  go_enter Try.func24, Try.ntmps24
  go_wp2_with fail
  exact bodyPost_ret (v := .agg _) (results_cell_row rfl _ _ (w.heap.size + 1) 25 _ (0, 0) _ rfl (by repeat (first | (refine heap_at _ _ _ ?_; (simp; done)) | (refine (heap_past _ _ _ ?_).trans ?_; focus (simp; done)) | (refine (heap_drew _ _).trans ?_))) Try.underlying25 rfl (iR (show BlkN _ 29 by simp [*]))) rfl ⟨by rw [← hA]; rw [R_set8b _ _ _ (by omega) (by omega)]; try (first | rfl | (rw [eT]; done) | (congr 4; unfold tickV; omega)), _, _, rfl⟩
set_option maxRecDepth 100000 in
set_option maxHeartbeats 4000000 in
theorem rtick_any (f : Nat → Int) (h : RB f) (w : World) : Calls Try.prog 25 #[.agg (R f)] w fun e w' => e = .returned (.agg (R (upd f 22 (tickV (f 22))))) ∧ ∃ o1 o2, w' = (w.alloc o1).alloc o2 := by
  have c0 := R_get f 0 (by omega)
  have c1 := R_get f 1 (by omega)
  have c2 := R_get f 2 (by omega)
  have c3 := R_get f 3 (by omega)
  have c4 := R_get f 4 (by omega)
  have c5 := R_get f 5 (by omega)
  have c6 := R_get f 6 (by omega)
  have c7 := R_get f 7 (by omega)
  have c16 := R_get f 16 (by omega)
  have c17 := R_get f 17 (by omega)
  have c18 := R_get f 18 (by omega)
  change (R f)[0]? = some (.int .u8 (f 0)) at c0
  change (R f)[1]? = some (.int .u8 (f 1)) at c1
  change (R f)[2]? = some (.int .u8 (f 2)) at c2
  change (R f)[3]? = some (.int .u8 (f 3)) at c3
  change (R f)[4]? = some (.int .u8 (f 4)) at c4
  change (R f)[5]? = some (.int .u8 (f 5)) at c5
  change (R f)[6]? = some (.int .u8 (f 6)) at c6
  change (R f)[7]? = some (.int .u8 (f 7)) at c7
  change (R f)[16]? = some (.int .u16 (f 16)) at c16
  change (R f)[17]? = some (.int .u16 (f 17)) at c17
  change (R f)[18]? = some (.int .u16 (f 18)) at c18
  have c22 := R_get f 22 (by omega)
  change (R f)[22]? = some (.int .u8 (f 22)) at c22
  have c23 := R_get f 23 (by omega)
  change (R f)[23]? = some (.int .u8 (f 23)) at c23
  have c24 := R_get f 24 (by omega)
  change (R f)[24]? = some (.int .u8 (f 24)) at c24
  have sA : BlkN (R f) 29 := R_size f
  have oA : BlkOne (R f) := R_one f
  have zn := zN
  unfold Z29 at zn
  obtain ⟨b0, b1⟩ := h.2.2 22 (by omega) (by omega)
  have eT := tick_eq (f 22) b0 b1
  have eN := tmod_nn b0 128
  have eD := tdiv_nn b0 128
  generalize hA : R f = A at *
  go_enter Try.func25, Try.ntmps25
  go_wp2_with fail
  exact bodyPost_ret (v := .agg _) (results_cell_row rfl _ _ (w.heap.size + 1) 25 _ (0, 0) _ rfl (by repeat (first | (refine heap_at _ _ _ ?_; (simp; done)) | (refine (heap_past _ _ _ ?_).trans ?_; focus (simp; done)) | (refine (heap_drew _ _).trans ?_))) Try.underlying25 rfl (iR (show BlkN _ 29 by simp [*]))) rfl ⟨by rw [← hA]; rw [R_set8b _ _ _ (by omega) (by omega)]; try (first | rfl | (rw [eT]; done) | (congr 4; unfold tickV; omega)), _, _, rfl⟩
def newF (j : Nat) : Int := if j = 0 then 255 else if j = 1 then 255 else if j = 18 then 57328 else 0
theorem newR : R newF = #[.int .u8 255, .int .u8 255, .int .u8 0, .int .u8 0, .int .u8 0, .int .u8 0, .int .u8 0, .int .u8 0, .int .u8 0, .int .u8 0, .int .u8 0, .int .u8 0, .int .u8 0, .int .u8 0, .int .u8 0, .int .u8 0, .int .u16 0, .int .u16 0, .int .u16 57328, .int .u16 0, .int .u16 0, .int .u8 0, .int .u8 0, .int .u8 0, .int .u8 0, .bool false, .bool false, .bool false, .bool false] := by rfl
theorem zeroR : R (fun _ => 0) = Z29 := by rfl
set_option maxRecDepth 100000 in
set_option maxHeartbeats 4000000 in
theorem new_any (w : World) : Calls Try.prog 17 #[] w fun e w' => e = .returned (.agg (R newF)) ∧ ∃ o1, w' = w.alloc o1 := by
  have sA : BlkN (R newF) 29 := R_size _
  have oA : BlkOne (R newF) := R_one _
  have zn := zN
  have hA := newR
  rw [newR] at sA oA
  unfold Z29 at zn
  go_enter Try.func17, Try.ntmps17
  go_wp2_with fail
  exact bodyPost_ret (v := .agg _) (results_cell_row rfl _ _ (w.heap.size) 25 _ (0, 0) _ rfl (by repeat (first | (refine heap_at _ _ _ ?_; (simp; done)) | (refine (heap_past _ _ _ ?_).trans ?_; focus (simp; done)) | (refine (heap_drew _ _).trans ?_))) Try.underlying25 rfl (iR (show BlkN _ 29 by simp [*]))) rfl ⟨by rw [← hA], _, rfl⟩
set_option maxRecDepth 100000 in
set_option maxHeartbeats 4000000 in
theorem rnew_any (w : World) : Calls Try.prog 18 #[] w fun e w' => e = .returned (.agg (R newF)) ∧ ∃ o1, w' = w.alloc o1 := by
  have sA : BlkN (R newF) 29 := R_size _
  have oA : BlkOne (R newF) := R_one _
  have zn := zN
  have hA := newR
  rw [newR] at sA oA
  unfold Z29 at zn
  go_enter Try.func18, Try.ntmps18
  go_wp2_with fail
  exact bodyPost_ret (v := .agg _) (results_cell_row rfl _ _ (w.heap.size) 25 _ (0, 0) _ rfl (by repeat (first | (refine heap_at _ _ _ ?_; (simp; done)) | (refine (heap_past _ _ _ ?_).trans ?_; focus (simp; done)) | (refine (heap_drew _ _).trans ?_))) Try.underlying25 rfl (iR (show BlkN _ 29 by simp [*]))) rfl ⟨by rw [← hA], _, rfl⟩
end Regs
end Go.Proofs.Ythghpgnnbdimaaa
