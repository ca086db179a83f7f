/- Registers (layer 10): what the program's functions do, the second part. No conditions but that numbers are of their kinds. -/
import Derived.Test.YthghpgnnbdimaaaRegs
import Derived.Test.YthghpgnnbdimaaaCell
import Derived.RegionTactic
import Derived.Deep.CutRange
import Derived.LoopTactic
import Derived.Deep.RegionHeld3
namespace Go.Proofs.Ythghpgnnbdimaaa
open Go.RowKit
open Kit
set_option linter.unusedSimpArgs false
set_option linter.unusedVariables false
attribute [local simp] blkAt_alloc blkNew_cells putRow_cells blkAt_drew BlkN.set BlkOne.setInt BlkOne.setBool blkPut_alloc blkPut_drew nq2 nq3 nq4 nq5 nq6 nq7 nq8
namespace Regs
theorem rl_in (v : Value) : Instr.loadAt 25 v = loadW 25 v := rfl
theorem rs_in (v x : Value) : Instr.storeAt 25 v x = storeW 25 v x := rfl
theorem rl_run (b : Nat) (w : World) (h : BlkN (blkAt w b) 29) : Sem.run Try.prog (loadW 25 (.pointer (some ⟨b, 0, none⟩))) w = .ok (.agg (blkAt w b)) w := load_run 25 29 Try.underlying25 rfl i29 (by omega) b w h
theorem rs_run (b : Nat) (w : World) (A : Array Value) (h : BlkN (blkAt w b) 29) (hA : BlkN A 29) (h1 : BlkOne A) : Sem.run Try.prog (storeW 25 (.pointer (some ⟨b, 0, none⟩)) (.agg A)) w = .ok () (blkPut w b A) := store_run 25 29 i29 (by omega) b w A h hA h1
attribute [local simp ↓] rl_in rs_in
attribute [local simp] rl_run rs_run
theorem wrap_join (a b : Int) (a0 : 0 ≤ a) (a1 : a < 256) (b0 : 0 ≤ b) (b1 : b < 256) : IntKind.i64.wrap (IntKind.i64.wrap (256 * a) + b) = a * 256 + b := by rw [IntKind.wrap_i64, IntKind.wrap_i64]; omega
theorem zN : BlkN Z29 29 := rfl
def idxV (p : Int) : Int := if p = 221 then 5 else if p = 253 then 6 else 2
theorem index_any (p : Int) (w : World) : Calls Try.prog 19 #[.int .u8 p] w fun e w' => e = .returned (.int .i64 (idxV p)) ∧ w = w' := by
  rcases (by omega : p = 221 ∨ p = 253 ∨ (p ≠ 221 ∧ p ≠ 253)) with rfl | rfl | ⟨p1, p2⟩
  all_goals
    go_enter Try.func19, Try.ntmps19
    go_wp2
    go_ret
    exact ⟨ret_int (by simp [idxV, *]), rfl⟩
theorem cases9 (n : Int) : n = 0 ∨ n = 1 ∨ n = 2 ∨ n = 3 ∨ n = 4 ∨ n = 5 ∨ n = 7 ∨ (n ≠ 0 ∧ n ≠ 1 ∧ n ≠ 2 ∧ n ≠ 3 ∧ n ≠ 4 ∧ n ≠ 5 ∧ n ≠ 7) := by omega
def oneV (f : Nat → Int) (n p : Int) : Int := if n = 0 then f 2 else if n = 1 then f 3 else if n = 2 then f 4 else if n = 3 then f 5 else if n = 4 then pairV f (idxV p) / 256 else if n = 5 then pairV f (idxV p) % 256 else if n = 7 then f 0 else 0
set_option maxRecDepth 100000 in
set_option maxHeartbeats 4000000 in
theorem one_any (f : Nat → Int) (h : RB f) (n p : Int) (w : World) : Calls Try.prog 14 #[.agg (R f), .int .i64 n, .int .u8 p] w fun e w' => e = .returned (.int .u8 (oneV f n p)) ∧ Below w.heap.size w w' := by
  have c0 := R_get f 0 (by omega)
  have c1 := R_get f 1 (by omega)
  have c2 := R_get f 2 (by omega)
  have c3 := R_get f 3 (by omega)
  have c4 := R_get f 4 (by omega)
  have c5 := R_get f 5 (by omega)
  have c6 := R_get f 6 (by omega)
  have c7 := R_get f 7 (by omega)
  have c16 := R_get f 16 (by omega)
  have c17 := R_get f 17 (by omega)
  have c18 := R_get f 18 (by omega)
  change (R f)[0]? = some (.int .u8 (f 0)) at c0
  change (R f)[1]? = some (.int .u8 (f 1)) at c1
  change (R f)[2]? = some (.int .u8 (f 2)) at c2
  change (R f)[3]? = some (.int .u8 (f 3)) at c3
  change (R f)[4]? = some (.int .u8 (f 4)) at c4
  change (R f)[5]? = some (.int .u8 (f 5)) at c5
  change (R f)[6]? = some (.int .u8 (f 6)) at c6
  change (R f)[7]? = some (.int .u8 (f 7)) at c7
  change (R f)[16]? = some (.int .u16 (f 16)) at c16
  change (R f)[17]? = some (.int .u16 (f 17)) at c17
  change (R f)[18]? = some (.int .u16 (f 18)) at c18
  have sA : BlkN (R f) 29 := R_size f
  have hp := fun W => pair_any f h (idxV p) W
  have hb := pairV_bd h (idxV p)
  obtain ⟨q, hq⟩ : ∃ q, pairV f (idxV p) = q := ⟨_, rfl⟩
  rw [hq] at hp hb
  obtain ⟨q0, q1⟩ := hb
  generalize hA : R f = A at *
  have HP := Lib.hid hp
  have HA := Lib.hid hA
  clear hp hA
  go_enter Try.func14, Try.ntmps14
  go_wp2_with fail
  go_region_with (first | (go_at_call 19; with_reducible refine (index_any _ _).mono ?_; rintro e w' ⟨rfl, rfl⟩) | (go_at_call 13; with_reducible refine (HP.out _).mono ?_; rintro e w' ⟨rfl, o1, rfl⟩) | (go_at_call 30; with_reducible refine (split_any _ q0 q1 _).mono ?_; rintro e w' ⟨rfl, rfl⟩))
  all_goals
    rcases cases9 n with rfl | rfl | rfl | rfl | rfl | rfl | rfl | ⟨n0, n1, n2, n3, n4, n5, n7⟩
    all_goals
      go_wp2_with fail
      go_ret
      exact ⟨ret_int (by simp [oneV, *]), by go_grown⟩
end Regs
end Go.Proofs.Ythghpgnnbdimaaa
