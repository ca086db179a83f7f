/- Registers (layer 10): what the program's functions do, the second part. No conditions but that numbers are of their kinds. -/
import Derived.Test.YthghpgnnbdimaaaRegsA
import Derived.Test.YthghpgnnbdimaaaRegsS
import Derived.Test.YthghpgnnbdimaaaRegs5
import Derived.RegionTactic
import Derived.Deep.DeepCutAuto
import Derived.Lib.Hide
import Derived.Deep.CutRange
import Derived.LoopTactic
import Derived.Deep.RegionHeld3
namespace Go.Proofs.Ythghpgnnbdimaaa
open Go.RowKit
open Kit R06
set_option linter.unusedSimpArgs false
set_option linter.unusedVariables false
attribute [local simp] blkAt_alloc blkNew_cells putRow_cells blkAt_drew BlkN.set BlkOne.setInt BlkOne.setBool blkPut_alloc blkPut_drew nq2 nq3 nq4 nq5 nq6 nq7 nq8
namespace Regs
attribute [local simp ↓] rl_in rs_in
attribute [local simp] rl_run rs_run
theorem setV_rb {f : Nat → Int} (h : RB f) (n v : Int) (v0 : 0 ≤ v) (v1 : v < 65536) : RB (setV f n v) := by
  have e : 0 ≤ v / 256 ∧ v / 256 < 256 ∧ 0 ≤ v % 256 ∧ v % 256 < 256 := by omega
  obtain ⟨e0, e1, e2, e3⟩ := e
  unfold setV
  (repeat' split) <;> first | exact h | exact (h.set8 _ _ (by omega) e0 e1).set8 _ _ (by omega) e2 e3 | exact h.set16 _ _ (by omega) (by omega) v0 v1
theorem setOneV_rb {f : Nat → Int} (h : RB f) (n p v : Int) (v0 : 0 ≤ v) (v1 : v < 256) : RB (setOneV f n p v) := by
  have hb := pairV_bd h (idxV p)
  unfold setOneV
  (repeat' split) <;> first | exact h | exact h.set8 _ _ (by omega) v0 v1 | exact setV_rb h _ _ (by omega) (by omega)
theorem upd_same (f : Nat → Int) (k : Nat) (x : Int) (h : x = f k) (j : Nat) : upd f k x j = f j := by unfold upd; split <;> simp_all
theorem R_upd_same (f : Nat → Int) (k : Nat) (x : Int) (h : x = f k) : R (upd f k x) = R f := R_congr _ _ fun j _ => upd_same f k x h j
theorem set_hi (f : Nat → Int) (a b : Nat) (hab : a ≠ b) (x y v : Int) (hx : x = v) (hy : y = f b) : R (upd (upd f a x) b y) = R (upd f a v) := by
  subst hx; subst hy
  refine R_congr _ _ fun j _ => ?_
  unfold upd
  split
  · rename_i h; subst h; rw [if_neg (Ne.symm hab)]
  · rfl
theorem set_lo (f : Nat → Int) (a b : Nat) (x y v : Int) (hx : x = f a) (hy : y = v) : R (upd (upd f a x) b y) = R (upd f b v) := by
  subst hx; subst hy
  refine R_congr _ _ fun j _ => ?_
  unfold upd
  split
  · rfl
  · split
    · rename_i h; rw [h]
    · rfl
set_option maxRecDepth 100000 in
set_option maxHeartbeats 4000000 in
theorem set_all (f : Nat → Int) (h : RB f) (n x0 x1 : Int) (a0 : 0 ≤ x0) (a1 : x0 < 65536) (c0 : 0 ≤ x1) (c1 : x1 < 65536) (w : World) : Calls Try.prog 7 #[.agg (R f), .int .i64 n, .agg #[.int .u16 x0, .int .u16 x1]] w fun e w' => e = .returned (.bool true) ∧ Below w.heap.size w w' := by
  have b0 := h.u8 0 (by omega)
  have b1 := h.u8 1 (by omega)
  have b2 := h.u8 2 (by omega)
  have b3 := h.u8 3 (by omega)
  have b4 := h.u8 4 (by omega)
  have b5 := h.u8 5 (by omega)
  have b6 := h.u8 6 (by omega)
  have b7 := h.u8 7 (by omega)
  have b16 := h.u16 16 (by omega) (by omega)
  have b17 := h.u16 17 (by omega) (by omega)
  have b18 := h.u16 18 (by omega) (by omega)
  have e0 : 0 ≤ x0 % 256 ∧ x0 % 256 < 256 := by omega
  have r1 := setV_rb h n x0 a0 a1
  have r2 := setOneV_rb h n (x1 % 256) (x0 % 256) e0.1 e0.2
  generalize hp : x1 % 256 = p at *
  generalize hv : x0 % 256 = v at *
  obtain ⟨v0, v1⟩ := e0
  rcases (by omega : n < 0 ∨ 7 < n ∨ n = 0 ∨ n = 1 ∨ n = 2 ∨ n = 3 ∨ n = 4 ∨ n = 5 ∨ n = 6 ∨ n = 7) with g | g | rfl | rfl | rfl | rfl | rfl | rfl | rfl | rfl
  · subst hp; subst hv; exact set_gln f h n x0 x1 a0 a1 c0 c1 r1 r2 g (by simp [setV, show n ≠ 0 by omega, show n ≠ 1 by omega, show n ≠ 2 by omega, show n ≠ 3 by omega, show n ≠ 4 by omega, show n ≠ 5 by omega, show n ≠ 6 by omega, show n ≠ 7 by omega]) (fun W => let_lo n _ g W) (by simp [setOneV, show n ≠ 0 by omega, show n ≠ 1 by omega, show n ≠ 2 by omega, show n ≠ 3 by omega, show n ≠ 4 by omega, show n ≠ 5 by omega, show n ≠ 6 by omega, show n ≠ 7 by omega]) w
  · subst hp; subst hv; exact set_ghn f h n x0 x1 a0 a1 c0 c1 r1 r2 (by omega) (by omega) (by simp [setV, show n ≠ 0 by omega, show n ≠ 1 by omega, show n ≠ 2 by omega, show n ≠ 3 by omega, show n ≠ 4 by omega, show n ≠ 5 by omega, show n ≠ 6 by omega, show n ≠ 7 by omega]) (fun W => let_hi n _ (by omega) g W) (by simp [setOneV, show n ≠ 0 by omega, show n ≠ 1 by omega, show n ≠ 2 by omega, show n ≠ 3 by omega, show n ≠ 4 by omega, show n ≠ 5 by omega, show n ≠ 6 by omega, show n ≠ 7 by omega]) w
  · have hs : ∀ W, Calls Try.prog 27 #[.agg (R f), .string ⟨#[66, 67]⟩, .int .i64 x0] W fun e w' => e = .returned (.agg (R (setV f 0 x0))) ∧ Below W.heap.size W w' := by
      have t := fun W => set_BC f h x0 a0 a1 W
      simpa [setV] using t
    have ho : ∀ W, Calls Try.prog 27 #[.agg (R f), .string ⟨#[66]⟩, .int .i64 v] W fun e w' => e = .returned (.agg (R (setOneV f 0 p v))) ∧ Below W.heap.size W w' := by
      have t := belowOf2 fun W => set_B f h v v0 (by omega) W
      rw [show setOneV f 0 p v = upd f 2 v from by simp [setOneV]]
      rw [show v % 256 = v by omega] at t
      exact t
    subst hv
    exact set_gml f h 0 x0 x1 a0 a1 c0 c1 (setV_rb h _ _ a0 a1) (setOneV_rb h _ _ _ (by omega) (by omega)) (by omega) (by omega) ⟨#[66, 67]⟩ #[.string ⟨#[66, 67]⟩, .string ⟨#[68, 69]⟩, .string ⟨#[72, 76]⟩, .string ⟨#[83, 80]⟩, .string ⟨#[65, 70]⟩, .string ⟨#[73, 88]⟩, .string ⟨#[73, 89]⟩] (fun W => names_any W) rfl hs ⟨#[66]⟩ (by go_simp) (by rw [hp]; exact fun W => let_0 p W) (by rw [hp]; exact ho) w
  · have hs : ∀ W, Calls Try.prog 27 #[.agg (R f), .string ⟨#[68, 69]⟩, .int .i64 x0] W fun e w' => e = .returned (.agg (R (setV f 1 x0))) ∧ Below W.heap.size W w' := by
      have t := fun W => set_DE f h x0 a0 a1 W
      simpa [setV] using t
    have ho : ∀ W, Calls Try.prog 27 #[.agg (R f), .string ⟨#[67]⟩, .int .i64 v] W fun e w' => e = .returned (.agg (R (setOneV f 1 p v))) ∧ Below W.heap.size W w' := by
      have t := belowOf2 fun W => set_C f h v v0 (by omega) W
      rw [show setOneV f 1 p v = upd f 3 v from by simp [setOneV]]
      rw [show v % 256 = v by omega] at t
      exact t
    subst hv
    exact set_gml f h 1 x0 x1 a0 a1 c0 c1 (setV_rb h _ _ a0 a1) (setOneV_rb h _ _ _ (by omega) (by omega)) (by omega) (by omega) ⟨#[68, 69]⟩ #[.string ⟨#[66, 67]⟩, .string ⟨#[68, 69]⟩, .string ⟨#[72, 76]⟩, .string ⟨#[83, 80]⟩, .string ⟨#[65, 70]⟩, .string ⟨#[73, 88]⟩, .string ⟨#[73, 89]⟩] (fun W => names_any W) rfl hs ⟨#[67]⟩ (by go_simp) (by rw [hp]; exact fun W => let_1 p W) (by rw [hp]; exact ho) w
  · have hs : ∀ W, Calls Try.prog 27 #[.agg (R f), .string ⟨#[72, 76]⟩, .int .i64 x0] W fun e w' => e = .returned (.agg (R (setV f 2 x0))) ∧ Below W.heap.size W w' := by
      have t := fun W => set_HL f h x0 a0 a1 W
      simpa [setV] using t
    have ho : ∀ W, Calls Try.prog 27 #[.agg (R f), .string ⟨#[68]⟩, .int .i64 v] W fun e w' => e = .returned (.agg (R (setOneV f 2 p v))) ∧ Below W.heap.size W w' := by
      have t := belowOf2 fun W => set_D f h v v0 (by omega) W
      rw [show setOneV f 2 p v = upd f 4 v from by simp [setOneV]]
      rw [show v % 256 = v by omega] at t
      exact t
    subst hv
    exact set_gml f h 2 x0 x1 a0 a1 c0 c1 (setV_rb h _ _ a0 a1) (setOneV_rb h _ _ _ (by omega) (by omega)) (by omega) (by omega) ⟨#[72, 76]⟩ #[.string ⟨#[66, 67]⟩, .string ⟨#[68, 69]⟩, .string ⟨#[72, 76]⟩, .string ⟨#[83, 80]⟩, .string ⟨#[65, 70]⟩, .string ⟨#[73, 88]⟩, .string ⟨#[73, 89]⟩] (fun W => names_any W) rfl hs ⟨#[68]⟩ (by go_simp) (by rw [hp]; exact fun W => let_2 p W) (by rw [hp]; exact ho) w
  · have hs : ∀ W, Calls Try.prog 27 #[.agg (R f), .string ⟨#[83, 80]⟩, .int .i64 x0] W fun e w' => e = .returned (.agg (R (setV f 3 x0))) ∧ Below W.heap.size W w' := by
      have t := belowOf2 fun W => set_SP f h x0 a0 a1 W
      simpa [setV] using t
    have ho : ∀ W, Calls Try.prog 27 #[.agg (R f), .string ⟨#[69]⟩, .int .i64 v] W fun e w' => e = .returned (.agg (R (setOneV f 3 p v))) ∧ Below W.heap.size W w' := by
      have t := belowOf2 fun W => set_E f h v v0 (by omega) W
      rw [show setOneV f 3 p v = upd f 5 v from by simp [setOneV]]
      rw [show v % 256 = v by omega] at t
      exact t
    subst hv
    exact set_gml f h 3 x0 x1 a0 a1 c0 c1 (setV_rb h _ _ a0 a1) (setOneV_rb h _ _ _ (by omega) (by omega)) (by omega) (by omega) ⟨#[83, 80]⟩ #[.string ⟨#[66, 67]⟩, .string ⟨#[68, 69]⟩, .string ⟨#[72, 76]⟩, .string ⟨#[83, 80]⟩, .string ⟨#[65, 70]⟩, .string ⟨#[73, 88]⟩, .string ⟨#[73, 89]⟩] (fun W => names_any W) rfl hs ⟨#[69]⟩ (by go_simp) (by rw [hp]; exact fun W => let_3 p W) (by rw [hp]; exact ho) w
  · rcases (by omega : p = 221 ∨ p = 253 ∨ (p ≠ 221 ∧ p ≠ 253)) with hpp | hpp | ⟨g1, g2⟩
    · rw [hpp] at hp
      have hs : ∀ W, Calls Try.prog 27 #[.agg (R f), .string ⟨#[65, 70]⟩, .int .i64 x0] W fun e w' => e = .returned (.agg (R (setV f 4 x0))) ∧ Below W.heap.size W w' := by
        have t := fun W => set_AF f h x0 a0 a1 W
        simpa [setV] using t
      have ho : ∀ W, Calls Try.prog 27 #[.agg (R f), .string ⟨#[73, 88, 72]⟩, .int .i64 v] W fun e w' => e = .returned (.agg (R (setOneV f 4 221 v))) ∧ Below W.heap.size W w' := by
        have t := belowOf2 fun W => set_IXH f h v v0 (by omega) W
        rw [show setOneV f 4 221 v = upd f 16 (v * 256 + f 16 % 256) from by simp [setOneV, idxV, setV, pairV]]
        rw [show v % 256 = v by omega] at t
        exact t
      subst hv
      exact set_gml f h 4 x0 x1 a0 a1 c0 c1 (setV_rb h _ _ a0 a1) (setOneV_rb h _ _ _ (by omega) (by omega)) (by omega) (by omega) ⟨#[65, 70]⟩ #[.string ⟨#[66, 67]⟩, .string ⟨#[68, 69]⟩, .string ⟨#[72, 76]⟩, .string ⟨#[83, 80]⟩, .string ⟨#[65, 70]⟩, .string ⟨#[73, 88]⟩, .string ⟨#[73, 89]⟩] (fun W => names_any W) rfl hs ⟨#[73, 88, 72]⟩ (by go_simp) (by rw [hp]; exact fun W => let_4x W) (by rw [hp]; exact ho) w
    · rw [hpp] at hp
      have hs : ∀ W, Calls Try.prog 27 #[.agg (R f), .string ⟨#[65, 70]⟩, .int .i64 x0] W fun e w' => e = .returned (.agg (R (setV f 4 x0))) ∧ Below W.heap.size W w' := by
        have t := fun W => set_AF f h x0 a0 a1 W
        simpa [setV] using t
      have ho : ∀ W, Calls Try.prog 27 #[.agg (R f), .string ⟨#[73, 89, 72]⟩, .int .i64 v] W fun e w' => e = .returned (.agg (R (setOneV f 4 253 v))) ∧ Below W.heap.size W w' := by
        have t := belowOf2 fun W => set_IYH f h v v0 (by omega) W
        rw [show setOneV f 4 253 v = upd f 17 (v * 256 + f 17 % 256) from by simp [setOneV, idxV, setV, pairV]]
        rw [show v % 256 = v by omega] at t
        exact t
      subst hv
      exact set_gml f h 4 x0 x1 a0 a1 c0 c1 (setV_rb h _ _ a0 a1) (setOneV_rb h _ _ _ (by omega) (by omega)) (by omega) (by omega) ⟨#[65, 70]⟩ #[.string ⟨#[66, 67]⟩, .string ⟨#[68, 69]⟩, .string ⟨#[72, 76]⟩, .string ⟨#[83, 80]⟩, .string ⟨#[65, 70]⟩, .string ⟨#[73, 88]⟩, .string ⟨#[73, 89]⟩] (fun W => names_any W) rfl hs ⟨#[73, 89, 72]⟩ (by go_simp) (by rw [hp]; exact fun W => let_4y W) (by rw [hp]; exact ho) w
    · have hs : ∀ W, Calls Try.prog 27 #[.agg (R f), .string ⟨#[65, 70]⟩, .int .i64 x0] W fun e w' => e = .returned (.agg (R (setV f 4 x0))) ∧ Below W.heap.size W w' := by
        have t := fun W => set_AF f h x0 a0 a1 W
        simpa [setV] using t
      have ho : ∀ W, Calls Try.prog 27 #[.agg (R f), .string ⟨#[72]⟩, .int .i64 v] W fun e w' => e = .returned (.agg (R (setOneV f 4 p v))) ∧ Below W.heap.size W w' := by
        have t := belowOf2 fun W => set_H f h v v0 (by omega) W
        rw [show R (setOneV f 4 p v) = R (upd f 6 v) from by (have e1 : idxV p = 2 := by simp [idxV, g1, g2]); (have e2 : setOneV f 4 p v = upd (upd f 6 ((v * 256 + (f 6 * 256 + f 7) % 256) / 256)) 7 ((v * 256 + (f 6 * 256 + f 7) % 256) % 256) := by simp [setOneV, e1, setV, pairV]); rw [e2]; exact set_hi f 6 7 (by omega) _ _ _ (by omega) (by omega)]
        rw [show v % 256 = v by omega] at t
        exact t
      subst hv
      exact set_gml f h 4 x0 x1 a0 a1 c0 c1 (setV_rb h _ _ a0 a1) (setOneV_rb h _ _ _ (by omega) (by omega)) (by omega) (by omega) ⟨#[65, 70]⟩ #[.string ⟨#[66, 67]⟩, .string ⟨#[68, 69]⟩, .string ⟨#[72, 76]⟩, .string ⟨#[83, 80]⟩, .string ⟨#[65, 70]⟩, .string ⟨#[73, 88]⟩, .string ⟨#[73, 89]⟩] (fun W => names_any W) rfl hs ⟨#[72]⟩ (by go_simp) (by rw [hp]; exact fun W => let_4 p g1 g2 W) (by rw [hp]; exact ho) w
  · rcases (by omega : p = 221 ∨ p = 253 ∨ (p ≠ 221 ∧ p ≠ 253)) with hpp | hpp | ⟨g1, g2⟩
    · rw [hpp] at hp
      have hs : ∀ W, Calls Try.prog 27 #[.agg (R f), .string ⟨#[73, 88]⟩, .int .i64 x0] W fun e w' => e = .returned (.agg (R (setV f 5 x0))) ∧ Below W.heap.size W w' := by
        have t := belowOf2 fun W => set_IX f h x0 a0 a1 W
        simpa [setV] using t
      have ho : ∀ W, Calls Try.prog 27 #[.agg (R f), .string ⟨#[73, 88, 76]⟩, .int .i64 v] W fun e w' => e = .returned (.agg (R (setOneV f 5 221 v))) ∧ Below W.heap.size W w' := by
        have t := belowOf2 fun W => set_IXL f h v v0 (by omega) W
        rw [show setOneV f 5 221 v = upd f 16 (f 16 / 256 * 256 + v) from by simp [setOneV, idxV, setV, pairV]]
        rw [show v % 256 = v by omega] at t
        exact t
      subst hv
      exact set_gml f h 5 x0 x1 a0 a1 c0 c1 (setV_rb h _ _ a0 a1) (setOneV_rb h _ _ _ (by omega) (by omega)) (by omega) (by omega) ⟨#[73, 88]⟩ #[.string ⟨#[66, 67]⟩, .string ⟨#[68, 69]⟩, .string ⟨#[72, 76]⟩, .string ⟨#[83, 80]⟩, .string ⟨#[65, 70]⟩, .string ⟨#[73, 88]⟩, .string ⟨#[73, 89]⟩] (fun W => names_any W) rfl hs ⟨#[73, 88, 76]⟩ (by go_simp) (by rw [hp]; exact fun W => let_5x W) (by rw [hp]; exact ho) w
    · rw [hpp] at hp
      have hs : ∀ W, Calls Try.prog 27 #[.agg (R f), .string ⟨#[73, 88]⟩, .int .i64 x0] W fun e w' => e = .returned (.agg (R (setV f 5 x0))) ∧ Below W.heap.size W w' := by
        have t := belowOf2 fun W => set_IX f h x0 a0 a1 W
        simpa [setV] using t
      have ho : ∀ W, Calls Try.prog 27 #[.agg (R f), .string ⟨#[73, 89, 76]⟩, .int .i64 v] W fun e w' => e = .returned (.agg (R (setOneV f 5 253 v))) ∧ Below W.heap.size W w' := by
        have t := belowOf2 fun W => set_IYL f h v v0 (by omega) W
        rw [show setOneV f 5 253 v = upd f 17 (f 17 / 256 * 256 + v) from by simp [setOneV, idxV, setV, pairV]]
        rw [show v % 256 = v by omega] at t
        exact t
      subst hv
      exact set_gml f h 5 x0 x1 a0 a1 c0 c1 (setV_rb h _ _ a0 a1) (setOneV_rb h _ _ _ (by omega) (by omega)) (by omega) (by omega) ⟨#[73, 88]⟩ #[.string ⟨#[66, 67]⟩, .string ⟨#[68, 69]⟩, .string ⟨#[72, 76]⟩, .string ⟨#[83, 80]⟩, .string ⟨#[65, 70]⟩, .string ⟨#[73, 88]⟩, .string ⟨#[73, 89]⟩] (fun W => names_any W) rfl hs ⟨#[73, 89, 76]⟩ (by go_simp) (by rw [hp]; exact fun W => let_5y W) (by rw [hp]; exact ho) w
    · have hs : ∀ W, Calls Try.prog 27 #[.agg (R f), .string ⟨#[73, 88]⟩, .int .i64 x0] W fun e w' => e = .returned (.agg (R (setV f 5 x0))) ∧ Below W.heap.size W w' := by
        have t := belowOf2 fun W => set_IX f h x0 a0 a1 W
        simpa [setV] using t
      have ho : ∀ W, Calls Try.prog 27 #[.agg (R f), .string ⟨#[76]⟩, .int .i64 v] W fun e w' => e = .returned (.agg (R (setOneV f 5 p v))) ∧ Below W.heap.size W w' := by
        have t := belowOf2 fun W => set_L f h v v0 (by omega) W
        rw [show R (setOneV f 5 p v) = R (upd f 7 v) from by (have e1 : idxV p = 2 := by simp [idxV, g1, g2]); (have e2 : setOneV f 5 p v = upd (upd f 6 (((f 6 * 256 + f 7) / 256 * 256 + v) / 256)) 7 (((f 6 * 256 + f 7) / 256 * 256 + v) % 256) := by simp [setOneV, e1, setV, pairV]); rw [e2]; exact set_lo f 6 7 _ _ _ (by omega) (by omega)]
        rw [show v % 256 = v by omega] at t
        exact t
      subst hv
      exact set_gml f h 5 x0 x1 a0 a1 c0 c1 (setV_rb h _ _ a0 a1) (setOneV_rb h _ _ _ (by omega) (by omega)) (by omega) (by omega) ⟨#[73, 88]⟩ #[.string ⟨#[66, 67]⟩, .string ⟨#[68, 69]⟩, .string ⟨#[72, 76]⟩, .string ⟨#[83, 80]⟩, .string ⟨#[65, 70]⟩, .string ⟨#[73, 88]⟩, .string ⟨#[73, 89]⟩] (fun W => names_any W) rfl hs ⟨#[76]⟩ (by go_simp) (by rw [hp]; exact fun W => let_5 p g1 g2 W) (by rw [hp]; exact ho) w
  · have hs : ∀ W, Calls Try.prog 27 #[.agg (R f), .string ⟨#[73, 89]⟩, .int .i64 x0] W fun e w' => e = .returned (.agg (R (setV f 6 x0))) ∧ Below W.heap.size W w' := by
      have t := belowOf2 fun W => set_IY f h x0 a0 a1 W
      simpa [setV] using t
    subst hp; subst hv; exact set_gmn f h 6 x0 x1 a0 a1 c0 c1 (setV_rb h _ _ a0 a1) (setOneV_rb h _ _ _ (by omega) (by omega)) (by omega) (by omega) ⟨#[73, 89]⟩ #[.string ⟨#[66, 67]⟩, .string ⟨#[68, 69]⟩, .string ⟨#[72, 76]⟩, .string ⟨#[83, 80]⟩, .string ⟨#[65, 70]⟩, .string ⟨#[73, 88]⟩, .string ⟨#[73, 89]⟩] (fun W => names_any W) rfl hs (fun W => let_6 _ W) (by simp [setOneV]) w
  · have ho : ∀ W, Calls Try.prog 27 #[.agg (R f), .string ⟨#[65]⟩, .int .i64 v] W fun e w' => e = .returned (.agg (R (setOneV f 7 p v))) ∧ Below W.heap.size W w' := by
      have t := belowOf2 fun W => set_A f h v v0 (by omega) W
      rw [show setOneV f 7 p v = upd f 0 v from by simp [setOneV]]
      rw [show v % 256 = v by omega] at t
      exact t
    subst hv
    exact set_ghl f h 7 x0 x1 a0 a1 c0 c1 (setV_rb h _ _ a0 a1) (setOneV_rb h _ _ _ (by omega) (by omega)) (by omega) (by omega) (by simp [setV]) ⟨#[65]⟩ (by go_simp) (by rw [hp]; exact fun W => let_7 p W) (by rw [hp]; exact ho) w
set_option maxRecDepth 100000 in
set_option maxHeartbeats 4000000 in
theorem regsSet_walk (a0_0 a0_1 a0_2 a0_3 a0_4 a0_5 a0_6 a0_7 a0_8 a0_9 a0_10 a0_11 a0_12 a0_13 a0_14 a0_15 a0_16 a0_17 a0_18 a0_19 a0_20 a0_21 a0_22 a0_23 a0_24 : Int) (a0_25 a0_26 a0_27 a0_28 : Bool) (n x0 x1 : Int) (w0_0 : (Lit.int .u8 a0_0).wf = true) (w0_1 : (Lit.int .u8 a0_1).wf = true) (w0_2 : (Lit.int .u8 a0_2).wf = true) (w0_3 : (Lit.int .u8 a0_3).wf = true) (w0_4 : (Lit.int .u8 a0_4).wf = true) (w0_5 : (Lit.int .u8 a0_5).wf = true) (w0_6 : (Lit.int .u8 a0_6).wf = true) (w0_7 : (Lit.int .u8 a0_7).wf = true) (w0_8 : (Lit.int .u8 a0_8).wf = true) (w0_9 : (Lit.int .u8 a0_9).wf = true) (w0_10 : (Lit.int .u8 a0_10).wf = true) (w0_11 : (Lit.int .u8 a0_11).wf = true) (w0_12 : (Lit.int .u8 a0_12).wf = true) (w0_13 : (Lit.int .u8 a0_13).wf = true) (w0_14 : (Lit.int .u8 a0_14).wf = true) (w0_15 : (Lit.int .u8 a0_15).wf = true) (w0_16 : (Lit.int .u16 a0_16).wf = true) (w0_17 : (Lit.int .u16 a0_17).wf = true) (w0_18 : (Lit.int .u16 a0_18).wf = true) (w0_19 : (Lit.int .u16 a0_19).wf = true) (w0_20 : (Lit.int .u16 a0_20).wf = true) (w0_21 : (Lit.int .u8 a0_21).wf = true) (w0_22 : (Lit.int .u8 a0_22).wf = true) (w0_23 : (Lit.int .u8 a0_23).wf = true) (w0_24 : (Lit.int .u8 a0_24).wf = true) (w1 : (Lit.int .i64 n).wf = true) (w2_0 : (Lit.int .u16 x0).wf = true) (w2_1 : (Lit.int .u16 x1).wf = true) (w : World) : Calls Try.prog 7 #[.agg #[.int .u8 a0_0, .int .u8 a0_1, .int .u8 a0_2, .int .u8 a0_3, .int .u8 a0_4, .int .u8 a0_5, .int .u8 a0_6, .int .u8 a0_7, .int .u8 a0_8, .int .u8 a0_9, .int .u8 a0_10, .int .u8 a0_11, .int .u8 a0_12, .int .u8 a0_13, .int .u8 a0_14, .int .u8 a0_15, .int .u16 a0_16, .int .u16 a0_17, .int .u16 a0_18, .int .u16 a0_19, .int .u16 a0_20, .int .u8 a0_21, .int .u8 a0_22, .int .u8 a0_23, .int .u8 a0_24, .bool a0_25, .bool a0_26, .bool a0_27, .bool a0_28], .int .i64 n, .agg #[.int .u16 x0, .int .u16 x1]] w fun e w' => e = .returned (.bool true) ∧ Below w.heap.size w w' := by
  rw [show (#[.int .u8 a0_0, .int .u8 a0_1, .int .u8 a0_2, .int .u8 a0_3, .int .u8 a0_4, .int .u8 a0_5, .int .u8 a0_6, .int .u8 a0_7, .int .u8 a0_8, .int .u8 a0_9, .int .u8 a0_10, .int .u8 a0_11, .int .u8 a0_12, .int .u8 a0_13, .int .u8 a0_14, .int .u8 a0_15, .int .u16 a0_16, .int .u16 a0_17, .int .u16 a0_18, .int .u16 a0_19, .int .u16 a0_20, .int .u8 a0_21, .int .u8 a0_22, .int .u8 a0_23, .int .u8 a0_24, .bool a0_25, .bool a0_26, .bool a0_27, .bool a0_28] : Array Value) = R (fOf [a0_0, a0_1, a0_2, a0_3, a0_4, a0_5, a0_6, a0_7, a0_8, a0_9, a0_10, a0_11, a0_12, a0_13, a0_14, a0_15, a0_16, a0_17, a0_18, a0_19, a0_20, a0_21, a0_22, a0_23, a0_24, cz a0_25, cz a0_26, cz a0_27, cz a0_28]) from regs_eq a0_0 a0_1 a0_2 a0_3 a0_4 a0_5 a0_6 a0_7 a0_8 a0_9 a0_10 a0_11 a0_12 a0_13 a0_14 a0_15 a0_16 a0_17 a0_18 a0_19 a0_20 a0_21 a0_22 a0_23 a0_24 a0_25 a0_26 a0_27 a0_28]
  exact set_all _ (regs_rb a0_0 a0_1 a0_2 a0_3 a0_4 a0_5 a0_6 a0_7 a0_8 a0_9 a0_10 a0_11 a0_12 a0_13 a0_14 a0_15 a0_16 a0_17 a0_18 a0_19 a0_20 a0_21 a0_22 a0_23 a0_24 a0_25 a0_26 a0_27 a0_28 w0_0 w0_1 w0_2 w0_3 w0_4 w0_5 w0_6 w0_7 w0_8 w0_9 w0_10 w0_11 w0_12 w0_13 w0_14 w0_15 w0_16 w0_17 w0_18 w0_19 w0_20 w0_21 w0_22 w0_23 w0_24) n x0 x1 (wf_u16 w2_0).1 (wf_u16 w2_0).2 (wf_u16 w2_1).1 (wf_u16 w2_1).2 w
end Regs
end Go.Proofs.Ythghpgnnbdimaaa
