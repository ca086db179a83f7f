/- Registers (layer 10): what the program's functions do, the second part. No conditions but that numbers are of their kinds. -/
import Derived.Test.YthghpgnnbdimaaaRegsA
import Derived.Test.YthghpgnnbdimaaaRegsN
import Derived.Deep.Draws
import Derived.RegionTactic
import Derived.Deep.DeepCutAuto
import Derived.Lib.Hide
import Derived.Deep.CutRange
import Derived.LoopTactic
import Derived.Deep.RegionHeld3
namespace Go.Proofs.Ythghpgnnbdimaaa
open Go.RowKit
open Kit R06
set_option linter.unusedSimpArgs false
set_option linter.unusedVariables false
attribute [local simp] blkAt_alloc blkNew_cells putRow_cells blkAt_drew BlkN.set BlkOne.setInt BlkOne.setBool blkPut_alloc blkPut_drew nq2 nq3 nq4 nq5 nq6 nq7 nq8
namespace Regs
attribute [local simp ↓] rl_in rs_in
attribute [local simp] rl_run rs_run
theorem blkAt_drewN (w : World) (n b : Nat) : blkAt (w.drewN n) b = blkAt w b := rfl
theorem blkPut_drewN (w : World) (n b : Nat) (A : Array Value) : blkPut (w.drewN n) b A = (blkPut w b A).drewN n := rfl
theorem set_drewN (w : World) (n : Nat) (a : Addr) (v : Value) : (w.drewN n).setCell a v = (w.setCell a v).drewN n := rfl
theorem below_drewN {B : Nat} {a w : World} (h : Below B a w) (n : Nat) : Below B a (w.drewN n) := h.trans ⟨rfl, rfl, rfl, Nat.le_refl _, fun _ _ => rfl⟩
theorem drewN_drew (w : World) (n : Nat) : (w.drewN n).drew = w.drewN (n + 1) := rfl
attribute [local simp] blkAt_drewN blkPut_drewN set_drewN drewN_drew
def sw (all : Bool) (k j : Nat) : Bool := decide (j < k) && (all == decide (1 < j))
def swF (f : Nat → Int) (all : Bool) (k : Nat) (j : Nat) : Int := if j < 8 then (if sw all k j then f (8 + j) else f j) else if j < 16 then (if sw all k (j - 8) then f (j - 8) else f j) else f j
theorem swF_0 (f : Nat → Int) (all : Bool) : R (swF f all 0) = R f := R_congr _ _ fun j _ => by
  unfold swF sw
  simp
theorem swF_skip (f : Nat → Int) (all : Bool) (k : Nat) (h : (all == decide (1 < k)) = false) : R (swF f all k) = R (swF f all (k + 1)) := R_congr _ _ fun j _ => by
  have e : ∀ i, sw all (k + 1) i = sw all k i := fun i => by
    unfold sw
    by_cases hi : i = k
    · subst hi; rw [h]; simp
    · by_cases h2 : i < k
      · simp [h2, Nat.lt_succ_of_lt h2]
      · rw [decide_eq_false h2, decide_eq_false (show ¬ i < k + 1 by omega)]
  unfold swF
  rw [e, e]
theorem swF_step (f : Nat → Int) (all : Bool) (k : Nat) (hk : k < 8) (h : (all == decide (1 < k)) = true) (j : Nat) : upd (upd (swF f all k) k (f (8 + k))) (8 + k) (f k) j = swF f all (k + 1) j := by
  unfold upd
  by_cases e1 : j = 8 + k
  · subst e1
    rw [if_pos rfl]
    unfold swF sw
    rw [if_neg (by omega), if_pos (by omega), if_pos (by rw [show 8 + k - 8 = k by omega, h]; simp)]
    rw [show 8 + k - 8 = k by omega]
  · rw [if_neg e1]
    by_cases e2 : j = k
    · subst e2
      rw [if_pos rfl]
      unfold swF sw
      rw [if_pos (by omega), if_pos (by rw [h]; simp)]
    · rw [if_neg e2]
      have e : ∀ i, i ≠ k → sw all (k + 1) i = sw all k i := fun i hi => by
        unfold sw
        by_cases h2 : i < k
        · simp [h2, Nat.lt_succ_of_lt h2]
        · rw [decide_eq_false h2, decide_eq_false (show ¬ i < k + 1 by omega)]
      unfold swF
      by_cases h8 : j < 8
      · rw [if_pos h8, if_pos h8, e j e2]
      · rw [if_neg h8, if_neg h8]
        by_cases h16 : j < 16
        · rw [if_pos h16, if_pos h16, e (j - 8) (by omega)]
        · rw [if_neg h16, if_neg h16]
theorem swF_rb {f : Nat → Int} (h : RB f) (all : Bool) (k : Nat) : RB (swF f all k) :=
  ⟨fun j hj => by unfold swF; (repeat' split) <;> exact h.1 _ (by omega), fun j a b => by unfold swF; rw [if_neg (by omega), if_neg (by omega)]; exact h.2.1 j a b, fun j a b => by unfold swF; rw [if_neg (by omega), if_neg (by omega)]; exact h.2.2 j a b⟩
theorem swF_lo (f : Nat → Int) (all : Bool) (k : Nat) (hk : k < 8) : rv (swF f all k) k = .int .u8 (f k) := by
  unfold rv; rw [if_pos (by omega)]; unfold swF sw; rw [if_pos hk]; simp
theorem swF_hi (f : Nat → Int) (all : Bool) (k : Nat) (hk : k < 8) : rv (swF f all k) (8 + k) = .int .u8 (f (8 + k)) := by
  unfold rv; rw [if_pos (by omega)]; unfold swF sw; rw [if_neg (by omega), if_pos (by omega), show 8 + k - 8 = k by omega]; simp
set_option maxRecDepth 100000 in
set_option maxHeartbeats 4000000 in
theorem swap_any (f : Nat → Int) (h : RB f) (all : Bool) (w : World) : Calls Try.prog 21 #[.agg (R f), .bool all] w fun e w' => e = .returned (.agg (R (swF f all 8))) ∧ Below w.heap.size w w' := by
  have sA : BlkN (R f) 29 := R_size f
  have zn := zN
  have hix : ∀ k : Nat, k < 8 → ∀ w0, Sem.run Try.prog (Instr.index 57 (.agg #[.pointer (some ⟨w.heap.size, 0, none⟩), .pointer (some ⟨w.heap.size, 1, none⟩), .pointer (some ⟨w.heap.size, 2, none⟩), .pointer (some ⟨w.heap.size, 3, none⟩), .pointer (some ⟨w.heap.size, 4, none⟩), .pointer (some ⟨w.heap.size, 5, none⟩), .pointer (some ⟨w.heap.size, 6, none⟩), .pointer (some ⟨w.heap.size, 7, none⟩)]) (.int .i64 k)) w0 = .ok (.pointer (some ⟨w.heap.size, k, none⟩)) w0 := fun k hk w0 => index_run Try.underlying57 Try.underlying56 rfl (by kernel_rfl) _ _ _ _ (by omega) (by omega) (by
    rcases (by omega : k = 0 ∨ k = 1 ∨ k = 2 ∨ k = 3 ∨ k = 4 ∨ k = 5 ∨ k = 6 ∨ k = 7) with rfl | rfl | rfl | rfl | rfl | rfl | rfl | rfl <;> rfl) w0
  have HIX := Lib.hid hix
  clear hix
  obtain ⟨A, hA⟩ : ∃ A, R f = A := ⟨_, rfl⟩
  rw [hA] at sA ⊢
  have HA := Lib.hid hA
  clear hA
  unfold Z29 at zn
  cases all
  ·
    go_enter Try.func21, Try.ntmps21
    go_wp2_with fail
    go_loopw [18] (fun i wr => ∃ (k n : Nat) (G : Array Value), k ≤ 8 ∧ i = .int .i64 k ∧ G = R (swF f false k) ∧ wr = (((w.alloc (.cells G 25)).alloc (.cells Z29 25)).alloc (.cells #[.pointer (some ⟨w.heap.size, 0, none⟩), .pointer (some ⟨w.heap.size, 1, none⟩), .pointer (some ⟨w.heap.size, 2, none⟩), .pointer (some ⟨w.heap.size, 3, none⟩), .pointer (some ⟨w.heap.size, 4, none⟩), .pointer (some ⟨w.heap.size, 5, none⟩), .pointer (some ⟨w.heap.size, 6, none⟩), .pointer (some ⟨w.heap.size, 7, none⟩)] 57)).drewN n) (fun i _ => (8 - intOf i).toNat)
    case atStart => exact ⟨0, 0, A, by omega, rfl, by rw [swF_0, HA.out], rfl⟩
    case round =>
      obtain ⟨k, n, G, hk, rfl, hG, rfl⟩ := hrel
      have sG : BlkN G 29 := hG ▸ R_size _
      have oG : BlkOne G := hG ▸ R_one _
      by_cases hlt : k < 8
      case neg =>
        have hk8 : k = 8 := by omega
        subst hk8
        have HG := Lib.hid hG
        clear hG
        unfold Z29
        go_wp2_with fail
        exact bodyPost_ret (v := .agg _) (results_cell_row rfl _ _ (w.heap.size + 1) 25 _ (0, 0) _ rfl (by repeat (first | (refine heap_at _ _ _ ?_; (simp; done)) | (refine (heap_past _ _ _ ?_).trans ?_; focus (simp; done)) | (refine (heap_drew _ _).trans ?_))) Try.underlying25 rfl (iR (show BlkN _ 29 by simp [*]))) rfl ⟨by rw [HG.out], below_drewN (by go_grown) _⟩
      case pos =>
      have c1 := R_get (swF f false k) k (by omega)
      have c2 := R_get (swF f false k) (8 + k) (by omega)
      rw [swF_lo f _ k hlt, ← hG] at c1
      rw [swF_hi f _ k hlt, ← hG] at c2
      have HG := Lib.hid hG
      clear hG
      rcases (by omega : k = 0 ∨ k = 1 ∨ k = 2 ∨ k = 3 ∨ k = 4 ∨ k = 5 ∨ k = 6 ∨ k = 7) with rfl | rfl | rfl | rfl | rfl | rfl | rfl | rfl
      case inl =>
        have hix : ∀ w0, Sem.run Try.prog (Instr.index 57 (.agg #[.pointer (some ⟨w.heap.size, 0, none⟩), .pointer (some ⟨w.heap.size, 1, none⟩), .pointer (some ⟨w.heap.size, 2, none⟩), .pointer (some ⟨w.heap.size, 3, none⟩), .pointer (some ⟨w.heap.size, 4, none⟩), .pointer (some ⟨w.heap.size, 5, none⟩), .pointer (some ⟨w.heap.size, 6, none⟩), .pointer (some ⟨w.heap.size, 7, none⟩)]) (.int .i64 0)) w0 = .ok (.pointer (some ⟨w.heap.size, 0, none⟩)) w0 := HIX.out 0 hlt
        go_wp2_with fail
        go_region
        all_goals (go_wp2_with fail; go_roundw; (case rel => refine ⟨1, n + 1, _, by omega, by go_num, ?_, rfl⟩; rw [HG.out, R_set8 _ _ _ (by omega), R_set8 _ _ _ (by omega)]; exact R_congr _ _ fun j _ => swF_step f false 0 (by omega) rfl j); (case measure => simp [intOf] <;> omega))
      case inr.inl =>
        have hix : ∀ w0, Sem.run Try.prog (Instr.index 57 (.agg #[.pointer (some ⟨w.heap.size, 0, none⟩), .pointer (some ⟨w.heap.size, 1, none⟩), .pointer (some ⟨w.heap.size, 2, none⟩), .pointer (some ⟨w.heap.size, 3, none⟩), .pointer (some ⟨w.heap.size, 4, none⟩), .pointer (some ⟨w.heap.size, 5, none⟩), .pointer (some ⟨w.heap.size, 6, none⟩), .pointer (some ⟨w.heap.size, 7, none⟩)]) (.int .i64 1)) w0 = .ok (.pointer (some ⟨w.heap.size, 1, none⟩)) w0 := HIX.out 1 hlt
        go_wp2_with fail
        go_region
        all_goals (go_wp2_with fail; go_roundw; (case rel => refine ⟨2, n + 1, _, by omega, by go_num, ?_, rfl⟩; rw [HG.out, R_set8 _ _ _ (by omega), R_set8 _ _ _ (by omega)]; exact R_congr _ _ fun j _ => swF_step f false 1 (by omega) rfl j); (case measure => simp [intOf] <;> omega))
      case inr.inr.inl =>
        have hix : ∀ w0, Sem.run Try.prog (Instr.index 57 (.agg #[.pointer (some ⟨w.heap.size, 0, none⟩), .pointer (some ⟨w.heap.size, 1, none⟩), .pointer (some ⟨w.heap.size, 2, none⟩), .pointer (some ⟨w.heap.size, 3, none⟩), .pointer (some ⟨w.heap.size, 4, none⟩), .pointer (some ⟨w.heap.size, 5, none⟩), .pointer (some ⟨w.heap.size, 6, none⟩), .pointer (some ⟨w.heap.size, 7, none⟩)]) (.int .i64 2)) w0 = .ok (.pointer (some ⟨w.heap.size, 2, none⟩)) w0 := HIX.out 2 hlt
        go_wp2_with fail
        go_roundw
        case rel => exact ⟨3, n, G, by omega, by go_num, by rw [HG.out]; exact swF_skip f false 2 rfl, rfl⟩
        case measure => simp [intOf] <;> omega
      case inr.inr.inr.inl =>
        have hix : ∀ w0, Sem.run Try.prog (Instr.index 57 (.agg #[.pointer (some ⟨w.heap.size, 0, none⟩), .pointer (some ⟨w.heap.size, 1, none⟩), .pointer (some ⟨w.heap.size, 2, none⟩), .pointer (some ⟨w.heap.size, 3, none⟩), .pointer (some ⟨w.heap.size, 4, none⟩), .pointer (some ⟨w.heap.size, 5, none⟩), .pointer (some ⟨w.heap.size, 6, none⟩), .pointer (some ⟨w.heap.size, 7, none⟩)]) (.int .i64 3)) w0 = .ok (.pointer (some ⟨w.heap.size, 3, none⟩)) w0 := HIX.out 3 hlt
        go_wp2_with fail
        go_roundw
        case rel => exact ⟨4, n, G, by omega, by go_num, by rw [HG.out]; exact swF_skip f false 3 rfl, rfl⟩
        case measure => simp [intOf] <;> omega
      case inr.inr.inr.inr.inl =>
        have hix : ∀ w0, Sem.run Try.prog (Instr.index 57 (.agg #[.pointer (some ⟨w.heap.size, 0, none⟩), .pointer (some ⟨w.heap.size, 1, none⟩), .pointer (some ⟨w.heap.size, 2, none⟩), .pointer (some ⟨w.heap.size, 3, none⟩), .pointer (some ⟨w.heap.size, 4, none⟩), .pointer (some ⟨w.heap.size, 5, none⟩), .pointer (some ⟨w.heap.size, 6, none⟩), .pointer (some ⟨w.heap.size, 7, none⟩)]) (.int .i64 4)) w0 = .ok (.pointer (some ⟨w.heap.size, 4, none⟩)) w0 := HIX.out 4 hlt
        go_wp2_with fail
        go_roundw
        case rel => exact ⟨5, n, G, by omega, by go_num, by rw [HG.out]; exact swF_skip f false 4 rfl, rfl⟩
        case measure => simp [intOf] <;> omega
      case inr.inr.inr.inr.inr.inl =>
        have hix : ∀ w0, Sem.run Try.prog (Instr.index 57 (.agg #[.pointer (some ⟨w.heap.size, 0, none⟩), .pointer (some ⟨w.heap.size, 1, none⟩), .pointer (some ⟨w.heap.size, 2, none⟩), .pointer (some ⟨w.heap.size, 3, none⟩), .pointer (some ⟨w.heap.size, 4, none⟩), .pointer (some ⟨w.heap.size, 5, none⟩), .pointer (some ⟨w.heap.size, 6, none⟩), .pointer (some ⟨w.heap.size, 7, none⟩)]) (.int .i64 5)) w0 = .ok (.pointer (some ⟨w.heap.size, 5, none⟩)) w0 := HIX.out 5 hlt
        go_wp2_with fail
        go_roundw
        case rel => exact ⟨6, n, G, by omega, by go_num, by rw [HG.out]; exact swF_skip f false 5 rfl, rfl⟩
        case measure => simp [intOf] <;> omega
      case inr.inr.inr.inr.inr.inr.inl =>
        have hix : ∀ w0, Sem.run Try.prog (Instr.index 57 (.agg #[.pointer (some ⟨w.heap.size, 0, none⟩), .pointer (some ⟨w.heap.size, 1, none⟩), .pointer (some ⟨w.heap.size, 2, none⟩), .pointer (some ⟨w.heap.size, 3, none⟩), .pointer (some ⟨w.heap.size, 4, none⟩), .pointer (some ⟨w.heap.size, 5, none⟩), .pointer (some ⟨w.heap.size, 6, none⟩), .pointer (some ⟨w.heap.size, 7, none⟩)]) (.int .i64 6)) w0 = .ok (.pointer (some ⟨w.heap.size, 6, none⟩)) w0 := HIX.out 6 hlt
        go_wp2_with fail
        go_roundw
        case rel => exact ⟨7, n, G, by omega, by go_num, by rw [HG.out]; exact swF_skip f false 6 rfl, rfl⟩
        case measure => simp [intOf] <;> omega
      case inr.inr.inr.inr.inr.inr.inr =>
        have hix : ∀ w0, Sem.run Try.prog (Instr.index 57 (.agg #[.pointer (some ⟨w.heap.size, 0, none⟩), .pointer (some ⟨w.heap.size, 1, none⟩), .pointer (some ⟨w.heap.size, 2, none⟩), .pointer (some ⟨w.heap.size, 3, none⟩), .pointer (some ⟨w.heap.size, 4, none⟩), .pointer (some ⟨w.heap.size, 5, none⟩), .pointer (some ⟨w.heap.size, 6, none⟩), .pointer (some ⟨w.heap.size, 7, none⟩)]) (.int .i64 7)) w0 = .ok (.pointer (some ⟨w.heap.size, 7, none⟩)) w0 := HIX.out 7 hlt
        go_wp2_with fail
        go_roundw
        case rel => exact ⟨8, n, G, by omega, by go_num, by rw [HG.out]; exact swF_skip f false 7 rfl, rfl⟩
        case measure => simp [intOf] <;> omega
  ·
    go_enter Try.func21, Try.ntmps21
    go_wp2_with fail
    go_loopw [18] (fun i wr => ∃ (k n : Nat) (G : Array Value), k ≤ 8 ∧ i = .int .i64 k ∧ G = R (swF f true k) ∧ wr = (((w.alloc (.cells G 25)).alloc (.cells Z29 25)).alloc (.cells #[.pointer (some ⟨w.heap.size, 0, none⟩), .pointer (some ⟨w.heap.size, 1, none⟩), .pointer (some ⟨w.heap.size, 2, none⟩), .pointer (some ⟨w.heap.size, 3, none⟩), .pointer (some ⟨w.heap.size, 4, none⟩), .pointer (some ⟨w.heap.size, 5, none⟩), .pointer (some ⟨w.heap.size, 6, none⟩), .pointer (some ⟨w.heap.size, 7, none⟩)] 57)).drewN n) (fun i _ => (8 - intOf i).toNat)
    case atStart => exact ⟨0, 0, A, by omega, rfl, by rw [swF_0, HA.out], rfl⟩
    case round =>
      obtain ⟨k, n, G, hk, rfl, hG, rfl⟩ := hrel
      have sG : BlkN G 29 := hG ▸ R_size _
      have oG : BlkOne G := hG ▸ R_one _
      by_cases hlt : k < 8
      case neg =>
        have hk8 : k = 8 := by omega
        subst hk8
        have HG := Lib.hid hG
        clear hG
        unfold Z29
        go_wp2_with fail
        exact bodyPost_ret (v := .agg _) (results_cell_row rfl _ _ (w.heap.size + 1) 25 _ (0, 0) _ rfl (by repeat (first | (refine heap_at _ _ _ ?_; (simp; done)) | (refine (heap_past _ _ _ ?_).trans ?_; focus (simp; done)) | (refine (heap_drew _ _).trans ?_))) Try.underlying25 rfl (iR (show BlkN _ 29 by simp [*]))) rfl ⟨by rw [HG.out], below_drewN (by go_grown) _⟩
      case pos =>
      have c1 := R_get (swF f true k) k (by omega)
      have c2 := R_get (swF f true k) (8 + k) (by omega)
      rw [swF_lo f _ k hlt, ← hG] at c1
      rw [swF_hi f _ k hlt, ← hG] at c2
      have HG := Lib.hid hG
      clear hG
      rcases (by omega : k = 0 ∨ k = 1 ∨ k = 2 ∨ k = 3 ∨ k = 4 ∨ k = 5 ∨ k = 6 ∨ k = 7) with rfl | rfl | rfl | rfl | rfl | rfl | rfl | rfl
      case inl =>
        have hix : ∀ w0, Sem.run Try.prog (Instr.index 57 (.agg #[.pointer (some ⟨w.heap.size, 0, none⟩), .pointer (some ⟨w.heap.size, 1, none⟩), .pointer (some ⟨w.heap.size, 2, none⟩), .pointer (some ⟨w.heap.size, 3, none⟩), .pointer (some ⟨w.heap.size, 4, none⟩), .pointer (some ⟨w.heap.size, 5, none⟩), .pointer (some ⟨w.heap.size, 6, none⟩), .pointer (some ⟨w.heap.size, 7, none⟩)]) (.int .i64 0)) w0 = .ok (.pointer (some ⟨w.heap.size, 0, none⟩)) w0 := HIX.out 0 hlt
        go_wp2_with fail
        go_roundw
        case rel => exact ⟨1, n, G, by omega, by go_num, by rw [HG.out]; exact swF_skip f true 0 rfl, rfl⟩
        case measure => simp [intOf] <;> omega
      case inr.inl =>
        have hix : ∀ w0, Sem.run Try.prog (Instr.index 57 (.agg #[.pointer (some ⟨w.heap.size, 0, none⟩), .pointer (some ⟨w.heap.size, 1, none⟩), .pointer (some ⟨w.heap.size, 2, none⟩), .pointer (some ⟨w.heap.size, 3, none⟩), .pointer (some ⟨w.heap.size, 4, none⟩), .pointer (some ⟨w.heap.size, 5, none⟩), .pointer (some ⟨w.heap.size, 6, none⟩), .pointer (some ⟨w.heap.size, 7, none⟩)]) (.int .i64 1)) w0 = .ok (.pointer (some ⟨w.heap.size, 1, none⟩)) w0 := HIX.out 1 hlt
        go_wp2_with fail
        go_roundw
        case rel => exact ⟨2, n, G, by omega, by go_num, by rw [HG.out]; exact swF_skip f true 1 rfl, rfl⟩
        case measure => simp [intOf] <;> omega
      case inr.inr.inl =>
        have hix : ∀ w0, Sem.run Try.prog (Instr.index 57 (.agg #[.pointer (some ⟨w.heap.size, 0, none⟩), .pointer (some ⟨w.heap.size, 1, none⟩), .pointer (some ⟨w.heap.size, 2, none⟩), .pointer (some ⟨w.heap.size, 3, none⟩), .pointer (some ⟨w.heap.size, 4, none⟩), .pointer (some ⟨w.heap.size, 5, none⟩), .pointer (some ⟨w.heap.size, 6, none⟩), .pointer (some ⟨w.heap.size, 7, none⟩)]) (.int .i64 2)) w0 = .ok (.pointer (some ⟨w.heap.size, 2, none⟩)) w0 := HIX.out 2 hlt
        go_wp2_with fail
        go_region
        all_goals (go_wp2_with fail; go_roundw; (case rel => refine ⟨3, n + 1, _, by omega, by go_num, ?_, rfl⟩; rw [HG.out, R_set8 _ _ _ (by omega), R_set8 _ _ _ (by omega)]; exact R_congr _ _ fun j _ => swF_step f true 2 (by omega) rfl j); (case measure => simp [intOf] <;> omega))
      case inr.inr.inr.inl =>
        have hix : ∀ w0, Sem.run Try.prog (Instr.index 57 (.agg #[.pointer (some ⟨w.heap.size, 0, none⟩), .pointer (some ⟨w.heap.size, 1, none⟩), .pointer (some ⟨w.heap.size, 2, none⟩), .pointer (some ⟨w.heap.size, 3, none⟩), .pointer (some ⟨w.heap.size, 4, none⟩), .pointer (some ⟨w.heap.size, 5, none⟩), .pointer (some ⟨w.heap.size, 6, none⟩), .pointer (some ⟨w.heap.size, 7, none⟩)]) (.int .i64 3)) w0 = .ok (.pointer (some ⟨w.heap.size, 3, none⟩)) w0 := HIX.out 3 hlt
        go_wp2_with fail
        go_region
        all_goals (go_wp2_with fail; go_roundw; (case rel => refine ⟨4, n + 1, _, by omega, by go_num, ?_, rfl⟩; rw [HG.out, R_set8 _ _ _ (by omega), R_set8 _ _ _ (by omega)]; exact R_congr _ _ fun j _ => swF_step f true 3 (by omega) rfl j); (case measure => simp [intOf] <;> omega))
      case inr.inr.inr.inr.inl =>
        have hix : ∀ w0, Sem.run Try.prog (Instr.index 57 (.agg #[.pointer (some ⟨w.heap.size, 0, none⟩), .pointer (some ⟨w.heap.size, 1, none⟩), .pointer (some ⟨w.heap.size, 2, none⟩), .pointer (some ⟨w.heap.size, 3, none⟩), .pointer (some ⟨w.heap.size, 4, none⟩), .pointer (some ⟨w.heap.size, 5, none⟩), .pointer (some ⟨w.heap.size, 6, none⟩), .pointer (some ⟨w.heap.size, 7, none⟩)]) (.int .i64 4)) w0 = .ok (.pointer (some ⟨w.heap.size, 4, none⟩)) w0 := HIX.out 4 hlt
        go_wp2_with fail
        go_region
        all_goals (go_wp2_with fail; go_roundw; (case rel => refine ⟨5, n + 1, _, by omega, by go_num, ?_, rfl⟩; rw [HG.out, R_set8 _ _ _ (by omega), R_set8 _ _ _ (by omega)]; exact R_congr _ _ fun j _ => swF_step f true 4 (by omega) rfl j); (case measure => simp [intOf] <;> omega))
      case inr.inr.inr.inr.inr.inl =>
        have hix : ∀ w0, Sem.run Try.prog (Instr.index 57 (.agg #[.pointer (some ⟨w.heap.size, 0, none⟩), .pointer (some ⟨w.heap.size, 1, none⟩), .pointer (some ⟨w.heap.size, 2, none⟩), .pointer (some ⟨w.heap.size, 3, none⟩), .pointer (some ⟨w.heap.size, 4, none⟩), .pointer (some ⟨w.heap.size, 5, none⟩), .pointer (some ⟨w.heap.size, 6, none⟩), .pointer (some ⟨w.heap.size, 7, none⟩)]) (.int .i64 5)) w0 = .ok (.pointer (some ⟨w.heap.size, 5, none⟩)) w0 := HIX.out 5 hlt
        go_wp2_with fail
        go_region
        all_goals (go_wp2_with fail; go_roundw; (case rel => refine ⟨6, n + 1, _, by omega, by go_num, ?_, rfl⟩; rw [HG.out, R_set8 _ _ _ (by omega), R_set8 _ _ _ (by omega)]; exact R_congr _ _ fun j _ => swF_step f true 5 (by omega) rfl j); (case measure => simp [intOf] <;> omega))
      case inr.inr.inr.inr.inr.inr.inl =>
        have hix : ∀ w0, Sem.run Try.prog (Instr.index 57 (.agg #[.pointer (some ⟨w.heap.size, 0, none⟩), .pointer (some ⟨w.heap.size, 1, none⟩), .pointer (some ⟨w.heap.size, 2, none⟩), .pointer (some ⟨w.heap.size, 3, none⟩), .pointer (some ⟨w.heap.size, 4, none⟩), .pointer (some ⟨w.heap.size, 5, none⟩), .pointer (some ⟨w.heap.size, 6, none⟩), .pointer (some ⟨w.heap.size, 7, none⟩)]) (.int .i64 6)) w0 = .ok (.pointer (some ⟨w.heap.size, 6, none⟩)) w0 := HIX.out 6 hlt
        go_wp2_with fail
        go_region
        all_goals (go_wp2_with fail; go_roundw; (case rel => refine ⟨7, n + 1, _, by omega, by go_num, ?_, rfl⟩; rw [HG.out, R_set8 _ _ _ (by omega), R_set8 _ _ _ (by omega)]; exact R_congr _ _ fun j _ => swF_step f true 6 (by omega) rfl j); (case measure => simp [intOf] <;> omega))
      case inr.inr.inr.inr.inr.inr.inr =>
        have hix : ∀ w0, Sem.run Try.prog (Instr.index 57 (.agg #[.pointer (some ⟨w.heap.size, 0, none⟩), .pointer (some ⟨w.heap.size, 1, none⟩), .pointer (some ⟨w.heap.size, 2, none⟩), .pointer (some ⟨w.heap.size, 3, none⟩), .pointer (some ⟨w.heap.size, 4, none⟩), .pointer (some ⟨w.heap.size, 5, none⟩), .pointer (some ⟨w.heap.size, 6, none⟩), .pointer (some ⟨w.heap.size, 7, none⟩)]) (.int .i64 7)) w0 = .ok (.pointer (some ⟨w.heap.size, 7, none⟩)) w0 := HIX.out 7 hlt
        go_wp2_with fail
        go_region
        all_goals (go_wp2_with fail; go_roundw; (case rel => refine ⟨8, n + 1, _, by omega, by go_num, ?_, rfl⟩; rw [HG.out, R_set8 _ _ _ (by omega), R_set8 _ _ _ (by omega)]; exact R_congr _ _ fun j _ => swF_step f true 7 (by omega) rfl j); (case measure => simp [intOf] <;> omega))
end Regs
end Go.Proofs.Ythghpgnnbdimaaa
