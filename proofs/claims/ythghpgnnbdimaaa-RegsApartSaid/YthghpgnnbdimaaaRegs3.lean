/- Registers (layer 10): what the program's functions do, the second part. No conditions but that numbers are of their kinds. -/
import Derived.Test.YthghpgnnbdimaaaRegs2
import Derived.Test.YthghpgnnbdimaaaCell
import Derived.RegionTactic
import Derived.Deep.CutRange
import Derived.LoopTactic
import Derived.Deep.RegionHeld3
namespace Go.Proofs.Ythghpgnnbdimaaa
open Go.RowKit
open Kit
set_option linter.unusedSimpArgs false
set_option linter.unusedVariables false
attribute [local simp] blkAt_alloc blkNew_cells putRow_cells blkAt_drew BlkN.set BlkOne.setInt BlkOne.setBool blkPut_alloc blkPut_drew nq2 nq3 nq4 nq5 nq6 nq7 nq8
namespace Regs
attribute [local simp ↓] rl_in rs_in
attribute [local simp] rl_run rs_run
def setOneV (f : Nat → Int) (n p v : Int) : Nat → Int := if n = 0 then upd f 2 v else if n = 1 then upd f 3 v else if n = 2 then upd f 4 v else if n = 3 then upd f 5 v else if n = 4 then setV f (idxV p) (v * 256 + pairV f (idxV p) % 256) else if n = 5 then setV f (idxV p) (pairV f (idxV p) / 256 * 256 + v) else if n = 7 then upd f 0 v else f
set_option maxRecDepth 100000 in
set_option maxHeartbeats 4000000 in
theorem setOne_any (f : Nat → Int) (h : RB f) (n p v : Int) (v0 : 0 ≤ v) (v1 : v < 256) (w : World) : Calls Try.prog 28 #[.agg (R f), .int .i64 n, .int .u8 p, .int .u8 v] w fun e w' => e = .returned (.agg (R (setOneV f n p v))) ∧ Below w.heap.size w w' := by
  have c0 := R_get f 0 (by omega)
  have c1 := R_get f 1 (by omega)
  have c2 := R_get f 2 (by omega)
  have c3 := R_get f 3 (by omega)
  have c4 := R_get f 4 (by omega)
  have c5 := R_get f 5 (by omega)
  have c6 := R_get f 6 (by omega)
  have c7 := R_get f 7 (by omega)
  have c16 := R_get f 16 (by omega)
  have c17 := R_get f 17 (by omega)
  have c18 := R_get f 18 (by omega)
  change (R f)[0]? = some (.int .u8 (f 0)) at c0
  change (R f)[1]? = some (.int .u8 (f 1)) at c1
  change (R f)[2]? = some (.int .u8 (f 2)) at c2
  change (R f)[3]? = some (.int .u8 (f 3)) at c3
  change (R f)[4]? = some (.int .u8 (f 4)) at c4
  change (R f)[5]? = some (.int .u8 (f 5)) at c5
  change (R f)[6]? = some (.int .u8 (f 6)) at c6
  change (R f)[7]? = some (.int .u8 (f 7)) at c7
  change (R f)[16]? = some (.int .u16 (f 16)) at c16
  change (R f)[17]? = some (.int .u16 (f 17)) at c17
  change (R f)[18]? = some (.int .u16 (f 18)) at c18
  have c22 := R_get f 22 (by omega)
  change (R f)[22]? = some (.int .u8 (f 22)) at c22
  have c23 := R_get f 23 (by omega)
  change (R f)[23]? = some (.int .u8 (f 23)) at c23
  have c24 := R_get f 24 (by omega)
  change (R f)[24]? = some (.int .u8 (f 24)) at c24
  have sA : BlkN (R f) 29 := R_size f
  have oA : BlkOne (R f) := R_one f
  have zn := zN
  unfold Z29 at zn
  have hp := fun W => pair_any f h (idxV p) W
  have hb := pairV_bd h (idxV p)
  have hs4 := fun W => setPair_any f h (idxV p) (v * 256 + pairV f (idxV p) % 256) (by omega) (by omega) W
  have hs5 := fun W => setPair_any f h (idxV p) (pairV f (idxV p) / 256 * 256 + v) (by omega) (by omega) W
  obtain ⟨B4, hB4⟩ : ∃ B, R (setV f (idxV p) (v * 256 + pairV f (idxV p) % 256)) = B := ⟨_, rfl⟩
  obtain ⟨B5, hB5⟩ : ∃ B, R (setV f (idxV p) (pairV f (idxV p) / 256 * 256 + v)) = B := ⟨_, rfl⟩
  have sB4 : BlkN B4 29 := hB4 ▸ R_size _
  have sB5 : BlkN B5 29 := hB5 ▸ R_size _
  have oB4 : BlkOne B4 := hB4 ▸ R_one _
  have oB5 : BlkOne B5 := hB5 ▸ R_one _
  rw [hB4] at hs4
  rw [hB5] at hs5
  have er : setOneV f 4 p v = setV f (idxV p) (v * 256 + pairV f (idxV p) % 256) ∧ setOneV f 5 p v = setV f (idxV p) (pairV f (idxV p) / 256 * 256 + v) := ⟨by simp [setOneV], by simp [setOneV]⟩
  rw [← er.1] at hB4
  rw [← er.2] at hB5
  clear er
  obtain ⟨q, hq⟩ : ∃ q, pairV f (idxV p) = q := ⟨_, rfl⟩
  rw [hq] at hp hb hs4 hs5
  obtain ⟨q0, q1⟩ := hb
  have e4 : 0 ≤ q % 256 ∧ q % 256 < 256 ∧ 0 ≤ q / 256 ∧ q / 256 < 256 := by omega
  obtain ⟨e4, e5, e6, e7⟩ := e4
  generalize hA : R f = A at *
  have HP := Lib.hid hp
  have HS4 := Lib.hid hs4
  have HS5 := Lib.hid hs5
  have HA := Lib.hid hA
  have HB4 := Lib.hid hB4
  have HB5 := Lib.hid hB5
  clear hp hA hs4 hs5 hB4 hB5
  go_enter Try.func28, Try.ntmps28
  go_upto_region 3 with (first | (go_at_call 19; with_reducible refine (index_any _ _).mono ?_; rintro e w' ⟨rfl, rfl⟩) | (go_at_call 13; with_reducible refine (HP.out _).mono ?_; rintro e w' ⟨rfl, o1, rfl⟩) | (go_at_call 30; with_reducible refine (split_any _ q0 q1 _).mono ?_; rintro e w' ⟨rfl, rfl⟩))
  rcases cases9 n with rfl | rfl | rfl | rfl | rfl | rfl | rfl | ⟨n0, n1, n2, n3, n4, n5, n7⟩
  case inr.inr.inr.inr.inl =>
    go_wp2_with fail
    go_region_with (first | (go_at_call 29; with_reducible refine (join_any _ _ v0 v1 e4 e5 _).mono ?_; rintro e w' ⟨rfl, rfl⟩) | (go_at_call 20; with_reducible refine (HS4.out _).mono ?_; rintro e w' ⟨rfl, o2, o3, rfl⟩))
    all_goals
      go_wp2_with fail
      exact bodyPost_ret (v := .agg _) (results_cell_row rfl _ _ (w.heap.size + 1) 25 _ (0, 0) _ rfl (by repeat (first | (refine heap_at _ _ _ ?_; (simp; done)) | (refine (heap_past _ _ _ ?_).trans ?_; focus (simp; done)) | (refine (heap_drew _ _).trans ?_))) Try.underlying25 rfl (iR (show BlkN _ 29 by simp [*]))) rfl ⟨by rw [HB4.out], by go_grown⟩
  case inr.inr.inr.inr.inr.inl =>
    go_wp2_with fail
    go_region_with (first | (go_at_call 29; with_reducible refine (join_any _ _ e6 e7 v0 v1 _).mono ?_; rintro e w' ⟨rfl, rfl⟩) | (go_at_call 20; with_reducible refine (HS5.out _).mono ?_; rintro e w' ⟨rfl, o2, o3, rfl⟩))
    all_goals
      go_wp2_with fail
      exact bodyPost_ret (v := .agg _) (results_cell_row rfl _ _ (w.heap.size + 1) 25 _ (0, 0) _ rfl (by repeat (first | (refine heap_at _ _ _ ?_; (simp; done)) | (refine (heap_past _ _ _ ?_).trans ?_; focus (simp; done)) | (refine (heap_drew _ _).trans ?_))) Try.underlying25 rfl (iR (show BlkN _ 29 by simp [*]))) rfl ⟨by rw [HB5.out], by go_grown⟩
  all_goals
    go_wp2_with fail
    exact bodyPost_ret (v := .agg _) (results_cell_row rfl _ _ (w.heap.size + 1) 25 _ (0, 0) _ rfl (by repeat (first | (refine heap_at _ _ _ ?_; (simp; done)) | (refine (heap_past _ _ _ ?_).trans ?_; focus (simp; done)) | (refine (heap_drew _ _).trans ?_))) Try.underlying25 rfl (iR (show BlkN _ 29 by simp [*]))) rfl ⟨by first | (rw [← HA.out]; simp [setOneV, R_set8, R_set16, R_set8b]; done) | (rw [← HA.out]; simp [setOneV, R_set8, R_set16, R_set8b, *]; done), by go_grown⟩
end Regs
end Go.Proofs.Ythghpgnnbdimaaa
