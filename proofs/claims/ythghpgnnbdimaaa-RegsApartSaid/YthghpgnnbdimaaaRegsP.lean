/- Registers (layer 10): what the program's functions do, the second part. No conditions but that numbers are of their kinds. -/
import Derived.Test.YthghpgnnbdimaaaRegsA
import Derived.Test.YthghpgnnbdimaaaRegsN
import Derived.Test.YthghpgnnbdimaaaIdx
import Derived.RegionTactic
import Derived.Deep.DeepCutAuto
import Derived.Lib.Hide
import Derived.Deep.CutRange
import Derived.LoopTactic
import Derived.Deep.RegionHeld3
namespace Go.Proofs.Ythghpgnnbdimaaa
open Go.RowKit
open Kit R06
set_option linter.unusedSimpArgs false
set_option linter.unusedVariables false
attribute [local simp] blkAt_alloc blkNew_cells putRow_cells blkAt_drew BlkN.set BlkOne.setInt BlkOne.setBool blkPut_alloc blkPut_drew nq2 nq3 nq4 nq5 nq6 nq7 nq8
namespace Regs
attribute [local simp ↓] rl_in rs_in
attribute [local simp] blkAt_blkPut_other size_blkPut rl_run rs_run
theorem apart_law {f : Nat → Int} (h : RB f) (n k p0 p v : Int) (n0 : 0 ≤ n) (n1 : n < 8) (k0 : 0 ≤ k) (k1 : k < 8) (v0 : 0 ≤ v) (v1 : v < 256) (hp0 : p0 = 0 ∨ p0 = 221 ∨ p0 = 253) (hp : p = 0 ∨ p = 221 ∨ p = 253) :
    oneV (setOneV f n p0 v) k p = if k = n ∧ (p = p0 ∨ (n ≠ 4 ∧ n ≠ 5)) ∧ k ≠ 6 then v else oneV f k p := by
  have b0 := h.u8 0 (by omega)
  have b1 := h.u8 1 (by omega)
  have b2 := h.u8 2 (by omega)
  have b3 := h.u8 3 (by omega)
  have b4 := h.u8 4 (by omega)
  have b5 := h.u8 5 (by omega)
  have b6 := h.u8 6 (by omega)
  have b7 := h.u8 7 (by omega)
  have b16 := h.u16 16 (by omega) (by omega)
  have b17 := h.u16 17 (by omega) (by omega)
  have b18 := h.u16 18 (by omega) (by omega)
  have hn : n = 0 ∨ n = 1 ∨ n = 2 ∨ n = 3 ∨ n = 4 ∨ n = 5 ∨ n = 6 ∨ n = 7 := by omega
  have hk : k = 0 ∨ k = 1 ∨ k = 2 ∨ k = 3 ∨ k = 4 ∨ k = 5 ∨ k = 6 ∨ k = 7 := by omega
  clear n0 n1 k0 k1 h
  rcases hn with rfl | rfl | rfl | rfl | rfl | rfl | rfl | rfl
  all_goals
    rcases hk with rfl | rfl | rfl | rfl | rfl | rfl | rfl | rfl
    all_goals first
      | (simp [setOneV, oneV, upd]; done)
      | (rcases hp with rfl | rfl | rfl <;> simp [setOneV, oneV, upd, pairV, idxV] <;> done)
      | (rcases hp0 with rfl | rfl | rfl <;> rcases hp with rfl | rfl | rfl <;> (first | (simp [setOneV, oneV, upd, pairV, idxV, setV]; done) | (simp [setOneV, oneV, upd, pairV, idxV, setV]; omega)))
theorem apart_same (f : Nat → Int) (n p0 v : Int) (j : Nat) (hj : j = 1 ∨ j = 18 ∨ j = 19 ∨ (8 ≤ j ∧ j < 16)) : setOneV f n p0 v j = f j := by
  have e : ∀ g : Nat → Int, ∀ c x, c ≠ j → upd g c x j = g j := fun g c x hc => by unfold upd; rw [if_neg (fun y => hc y.symm)]
  unfold setOneV setV
  have hx : idxV p0 = 2 ∨ idxV p0 = 5 ∨ idxV p0 = 6 := by unfold idxV; split <;> (try split) <;> simp
  rcases hx with hx | hx | hx <;> simp only [hx, Int.reduceEq, if_true, if_false] <;> (repeat' split) <;> (first | rfl | (rw [e _ _ _ (by omega), e _ _ _ (by omega)]; done) | (rw [e _ _ _ (by omega)]; done))
theorem heldP {P : Program} {n : Nat} {args : Array Value} {r : Value} {T : World → Prop} (hT : ∀ W W', T W → Below W.heap.size W W' → T W') (h : ∀ W, Calls P n args W fun e w' => e = .returned r ∧ Below W.heap.size W w') (W : World) (hW : T W) : Calls P n args W fun e w' => e = .returned r ∧ T w' :=
  (h W).mono fun e w' ⟨e1, e2⟩ => ⟨e1, hT _ _ hW e2⟩
theorem setV_rb3 {f : Nat → Int} (h : RB f) (n v : Int) (v0 : 0 ≤ v) (v1 : v < 65536) : RB (setV f n v) := by
  have e : 0 ≤ v / 256 ∧ v / 256 < 256 ∧ 0 ≤ v % 256 ∧ v % 256 < 256 := by omega
  obtain ⟨e0, e1, e2, e3⟩ := e
  unfold setV
  (repeat' split) <;> first | exact h | exact (h.set8 _ _ (by omega) e0 e1).set8 _ _ (by omega) e2 e3 | exact h.set16 _ _ (by omega) (by omega) v0 v1
theorem setOneV_rb3 {f : Nat → Int} (h : RB f) (n p v : Int) (v0 : 0 ≤ v) (v1 : v < 256) : RB (setOneV f n p v) := by
  have hb := pairV_bd h (idxV p)
  unfold setOneV
  (repeat' split) <;> first | exact h | exact h.set8 _ _ (by omega) v0 v1 | exact setV_rb3 h _ _ (by omega) (by omega)
def AS (w : World) (A : Array Value) (b0 b1 : Int) (W : World) : Prop := W.heap[w.heap.size]? = some (.cells A 25) ∧ W.heap[w.heap.size + 1]? = some (.cells #[.int .u8 b0, .int .u8 b1] 49) ∧ Below w.heap.size w W
theorem AS.below {w : World} {A : Array Value} {b0 b1 : Int} {W W' : World} (h : AS w A b0 b1 W) (hb : Below W.heap.size W W') : AS w A b0 b1 W' := by
  obtain ⟨h0, h1, h2⟩ := h
  exact ⟨(hb.block _ (heap_lt h0)).trans h0, (hb.block _ (heap_lt h1)).trans h1, h2.trans (hb.mono h2.size)⟩
theorem AS.drew {w : World} {A : Array Value} {b0 b1 : Int} {W : World} (h : AS w A b0 b1 W) : AS w A b0 b1 W.drew := ⟨h.1, h.2.1, h.2.2.drew⟩
theorem AS.facts {w : World} {A : Array Value} {b0 b1 : Int} {W : World} (h : AS w A b0 b1 W) : blkAt W w.heap.size = A ∧ W.cell? ⟨w.heap.size + 1, 0, none⟩ = some (.int .u8 b0) ∧ W.cell? ⟨w.heap.size + 1, 1, none⟩ = some (.int .u8 b1) ∧ w.heap.size + 1 < W.heap.size :=
  ⟨blkAt_heap h.1, by rw [cell_of W _ 0 h.2.1]; rfl, by rw [cell_of W _ 1 h.2.1]; rfl, heap_lt h.2.1⟩
def BS (w : World) (A : Array Value) (b0 b1 : Int) (ga : Nat) (B : Array Value) (W : World) : Prop := AS w A b0 b1 W ∧ W.heap[ga]? = some (.cells B 25)
theorem BS.below {w : World} {A : Array Value} {b0 b1 : Int} {ga : Nat} {B : Array Value} {W W' : World} (h : BS w A b0 b1 ga B W) (hb : Below W.heap.size W W') : BS w A b0 b1 ga B W' := ⟨h.1.below hb, (hb.block _ (heap_lt h.2)).trans h.2⟩
set_option maxRecDepth 100000 in
set_option maxHeartbeats 4000000 in
theorem apart_out (f : Nat → Int) (h : RB f) (n b0 b1 : Int) (a0 : 0 ≤ b0) (a1 : b0 < 256) (c0 : 0 ≤ b1) (c1 : b1 < 256) (hn : n < 0 ∨ 0 ≤ n ∧ 7 < n) (w : World) : Calls Try.prog 8 #[.agg (R f), .int .i64 n, .agg #[.int .u8 b0, .int .u8 b1]] w fun e w' => e = .returned (.bool true) ∧ Below w.heap.size w w' := by
  have hs := fun W => setOne_any f h n b0 b1 c0 c1 W
  rw [show setOneV f n b0 b1 = f from by simp [setOneV, show n ≠ 0 by omega, show n ≠ 1 by omega, show n ≠ 2 by omega, show n ≠ 3 by omega, show n ≠ 4 by omega, show n ≠ 5 by omega, show n ≠ 7 by omega]] at hs
  have hq := eqR f h
  have sA : BlkN (R f) 29 := R_size _
  generalize R f = A at *
  have HA := Lib.hid (heldP (T := AS w A b0 b1) (fun W W' h b => h.below b) alive_any)
  have HS := Lib.hid (heldP (T := AS w A b0 b1) (fun W W' h b => h.below b) hs)
  clear hs
  rcases hn with hn | ⟨hn0, hn⟩
  all_goals
    go_enter Try.func8, Try.ntmps8
    go_wp2_with (go_at_call 9; (with_reducible refine (HA.out _ ?_).mono ?_); (exact ⟨(by repeat (first | (refine heap_at _ _ _ ?_; first | (simp; done) | (simp; omega; done)) | (refine (heap_past _ _ _ ?_).trans ?_; focus (first | (simp; done) | (simp; omega; done))) | (refine (heap_drew _ _).trans ?_))), (by repeat (first | (refine heap_at _ _ _ ?_; first | (simp; done) | (simp; omega; done)) | (refine (heap_past _ _ _ ?_).trans ?_; focus (first | (simp; done) | (simp; omega; done))) | (refine (heap_drew _ _).trans ?_))), by go_grown⟩); rintro e w' ⟨rfl, k0⟩; (have bb := k0.facts); (obtain ⟨p0, p1, p2, p3⟩ := bb))
    go_region_held3 (fun W => AS w A b0 b1 W ∧ (blkAt W w.heap.size = A ∧ W.cell? ⟨w.heap.size + 1, 0, none⟩ = some (.int .u8 b0) ∧ W.cell? ⟨w.heap.size + 1, 1, none⟩ = some (.int .u8 b1) ∧ w.heap.size + 1 < W.heap.size)) (first | assumption | (exact ⟨AS.drew (by assumption), AS.facts (AS.drew (by assumption))⟩) | (exact ⟨by assumption, AS.facts (by assumption)⟩)) ((go_at_call 28; (with_reducible refine (HS.out _ ?_).mono ?_); (first | assumption | (exact AS.drew (by assumption))); rintro e w3 ⟨rfl, y0⟩; (have bb := y0.facts); (obtain ⟨z0, z1, z2, z3⟩ := bb)))
    all_goals
      go_wp2_with fail
      go_ret
      exact ⟨ret_bool (by simp), by first | assumption | (exact (AS.drew (by assumption)).2.2) | (exact (show AS w A b0 b1 _ by assumption).2.2) | go_grown⟩
theorem eqAlt (f : Nat → Int) (h : RB f) (w : World) : (Op.equalIn 10000 22 (.agg #[.int .u8 (f 8), .int .u8 (f 9), .int .u8 (f 10), .int .u8 (f 11), .int .u8 (f 12), .int .u8 (f 13), .int .u8 (f 14), .int .u8 (f 15)]) (.agg #[.int .u8 (f 8), .int .u8 (f 9), .int .u8 (f 10), .int .u8 (f 11), .int .u8 (f 12), .int .u8 (f 13), .int .u8 (f 14), .int .u8 (f 15)])).run Try.prog w = .ok true w :=
  Kit.eq_self 6 6 22 (List.replicate 8 (some .u8)) (by kernel_rfl) (by kernel_rfl) (by decide) (by kernel_rfl) (#[.int .u8 (f 8), .int .u8 (f 9), .int .u8 (f 10), .int .u8 (f 11), .int .u8 (f 12), .int .u8 (f 13), .int .u8 (f 14), .int .u8 (f 15)]) ⟨⟨_, rfl, u8_wf (h.1 8 (by omega))⟩, ⟨_, rfl, u8_wf (h.1 9 (by omega))⟩, ⟨_, rfl, u8_wf (h.1 10 (by omega))⟩, ⟨_, rfl, u8_wf (h.1 11 (by omega))⟩, ⟨_, rfl, u8_wf (h.1 12 (by omega))⟩, ⟨_, rfl, u8_wf (h.1 13 (by omega))⟩, ⟨_, rfl, u8_wf (h.1 14 (by omega))⟩, ⟨_, rfl, u8_wf (h.1 15 (by omega))⟩, trivial⟩ (by kernel_rfl) w
theorem alt_cells (f g : Nat → Int) (hg : ∀ j, (j = 1 ∨ j = 18 ∨ j = 19 ∨ (8 ≤ j ∧ j < 16)) → g j = f j) (W : World) (gg : Nat) (t : TypeId) (h : W.heap[gg]? = some (.cells (R g) t)) : W.cell? ⟨gg, 18, none⟩ = some (.int .u16 (f 18)) ∧ W.cell? ⟨gg, 19, none⟩ = some (.int .u16 (f 19)) ∧ W.cell? ⟨gg, 1, none⟩ = some (.int .u8 (f 1)) ∧ W.cell? ⟨gg, 8, none⟩ = some (.int .u8 (f 8)) ∧ W.cell? ⟨gg, 9, none⟩ = some (.int .u8 (f 9)) ∧ W.cell? ⟨gg, 10, none⟩ = some (.int .u8 (f 10)) ∧ W.cell? ⟨gg, 11, none⟩ = some (.int .u8 (f 11)) ∧ W.cell? ⟨gg, 12, none⟩ = some (.int .u8 (f 12)) ∧ W.cell? ⟨gg, 13, none⟩ = some (.int .u8 (f 13)) ∧ W.cell? ⟨gg, 14, none⟩ = some (.int .u8 (f 14)) ∧ W.cell? ⟨gg, 15, none⟩ = some (.int .u8 (f 15)) := by
  have e : ∀ j, j < 29 → W.cell? ⟨gg, j, none⟩ = some (rv g j) := fun j hj => by rw [cell_of W _ j h, R_get _ _ hj]
  refine ⟨?_, ?_, ?_, ?_, ?_, ?_, ?_, ?_, ?_, ?_, ?_⟩ <;> (rw [e _ (by omega)]; unfold rv; simp only [Nat.reduceLT, if_true, if_false]; rw [hg _ (by omega)])
set_option maxRecDepth 100000 in
set_option maxHeartbeats 4000000 in
theorem apart_in (f : Nat → Int) (h : RB f) (n b0 b1 p0 : Int) (a0 : 0 ≤ b0) (a1 : b0 < 256) (c0 : 0 ≤ b1) (c1 : b1 < 256) (n0 : 0 ≤ n) (n1 : n < 8) (hp0 : p0 = 0 ∨ p0 = 221 ∨ p0 = 253) (hix : ∀ w0, Sem.run Try.prog (Instr.index 50 (.agg #[.int .u8 0, .int .u8 221, .int .u8 253]) (.int .u8 (b0 % 3))) w0 = .ok (.int .u8 p0) w0) (w : World) : Calls Try.prog 8 #[.agg (R f), .int .i64 n, .agg #[.int .u8 b0, .int .u8 b1]] w fun e w' => e = .returned (.bool true) ∧ Below w.heap.size w w' := by
  have hs := fun W => setOne_any f h n p0 b1 c0 c1 W
  have hg := setOneV_rb3 h n p0 b1 c0 c1
  have hal := fun W gg t hh => alt_cells f f (fun _ _ => rfl) W gg t hh
  have hbl := fun W gg t hh => alt_cells f (setOneV f n p0 b1) (fun j hj => apart_same f n p0 b1 j hj) W gg t hh
  have hq := eqAlt f h
  have sA : BlkN (R f) 29 := R_size _
  have sB : BlkN (R (setOneV f n p0 b1)) 29 := R_size _
  have oB : BlkOne (R (setOneV f n p0 b1)) := R_one _
  have zn := zN
  unfold Z29 at zn
  have m3 := tmod_nn a0 3
  have hon := fun k p W => one_any f h k p W
  have hog := fun k p W => one_any _ hg k p W
  generalize hB : R (setOneV f n p0 b1) = B at *
  generalize hA : R f = A at *
  have HA := Lib.hid (heldP (T := AS w A b0 b1) (fun W W' h b => h.below b) alive_any)
  have HS := Lib.hid (heldP (T := AS w A b0 b1) (fun W W' h b => h.below b) hs)
  have HON := Lib.hid (fun ga k p => heldP (T := BS w A b0 b1 ga B) (fun W W' h b => h.below b) (fun W => hon k p W))
  have HOG := Lib.hid (fun ga k p => heldP (T := BS w A b0 b1 ga B) (fun W W' h b => h.below b) (fun W => hog k p W))
  have HAL := Lib.hid hal
  have HBL := Lib.hid hbl
  have HQ := Lib.hid hq
  clear hs hon hog hal hbl hq hA hB hg
  have nn0 : ¬ n < 0 := by omega
  have nn7 : ¬ 7 < n := by omega
  go_enter Try.func8, Try.ntmps8
  go_wp2_with (first | (go_at_call 9; (with_reducible refine (HA.out _ ?_).mono ?_); (exact ⟨(by repeat (first | (refine heap_at _ _ _ ?_; first | (simp; done) | (simp; omega; done)) | (refine (heap_past _ _ _ ?_).trans ?_; focus (first | (simp; done) | (simp; omega; done))) | (refine (heap_drew _ _).trans ?_))), (by repeat (first | (refine heap_at _ _ _ ?_; first | (simp; done) | (simp; omega; done)) | (refine (heap_past _ _ _ ?_).trans ?_; focus (first | (simp; done) | (simp; omega; done))) | (refine (heap_drew _ _).trans ?_))), by go_grown⟩); rintro e w' ⟨rfl, k0⟩; (have bb := k0.facts); (obtain ⟨p0, p1, p2, p3⟩ := bb)) | (go_at_call 28; (with_reducible refine (HS.out _ ?_).mono ?_); (first | assumption); rintro e wS ⟨rfl, y0⟩))
  have hBS : BS w A b0 b1 wS.heap.size B (wS.alloc (.cells B 25)) := ⟨y0.below ((Below.refl _ _).alloc (Nat.le_refl _) _), heap_at _ _ _ rfl⟩
  generalize wS.alloc (.cells B 25) = wT at *
  generalize wS.heap.size = ga at *
  clear k0 p0 p1 p2 p3 y0 hix
  go_loopw [9] (fun i wr => ∃ k : Nat, k ≤ 8 ∧ i = .int .i64 k ∧ BS w A b0 b1 ga B wr) (fun i _ => (8 - intOf i).toNat)
  case atStart => exact ⟨0, by omega, rfl, hBS⟩
  case round =>
    obtain ⟨k, hk, rfl, hT⟩ := hrel
    clear hBS
    by_cases hlt : k < 8
    case neg =>
      have hk8 : k = 8 := by omega
      subst hk8
      obtain ⟨e0, e1, e2, e3, e4, e5, e6, e7, e8, e9, e10⟩ := HAL.out _ _ _ hT.1.1
      obtain ⟨g0, g1, g2, g3, g4, g5, g6, g7, g8, g9, g10⟩ := HBL.out _ _ _ hT.2
      have hq := HQ.out
      have zc := hT.1.2.2
      go_wp2_with fail
      go_ret
      exact ⟨ret_bool (by simp), zc⟩
    case pos =>
    have kc0 : (0 : Int) ≤ (k : Int) := by omega
    have kc1 : (k : Int) < 8 := by omega
    go_wp2_with fail
    go_loopw [47] (fun i wr => ∃ j : Nat, j ≤ 3 ∧ i = .int .i64 j ∧ BS w A b0 b1 ga B wr) (fun i _ => (3 - intOf i).toNat)
    case atStart => exact ⟨0, by omega, rfl, hT⟩
    case round =>
      obtain ⟨j, hj, rfl, hT2⟩ := hrel
      clear hT
      by_cases hlt3 : j < 3
      case neg =>
        have hj3 : j = 3 := by omega
        subst hj3
        go_wp2_with fail
        go_roundw
        case rel => exact ⟨k + 1, by omega, by go_num, hT2⟩
        case measure => simp [intOf] <;> omega
      case pos =>
      obtain ⟨p, hp, hixp⟩ : ∃ p : Int, (p = 0 ∨ p = 221 ∨ p = 253) ∧ ∀ w0, Sem.run Try.prog (Instr.index 50 (.agg #[.int .u8 0, .int .u8 221, .int .u8 253]) (.int .i64 j)) w0 = .ok (.int .u8 p) w0 := by
        rcases (by omega : j = 0 ∨ j = 1 ∨ j = 2) with rfl | rfl | rfl
        · exact ⟨0, by simp, fun w0 => index_run Try.underlying50 Try.underlying5 rfl (by kernel_rfl) _ _ _ _ (by omega) (by omega) (by rfl) w0⟩
        · exact ⟨221, by simp, fun w0 => index_run Try.underlying50 Try.underlying5 rfl (by kernel_rfl) _ _ _ _ (by omega) (by omega) (by rfl) w0⟩
        · exact ⟨253, by simp, fun w0 => index_run Try.underlying50 Try.underlying5 rfl (by kernel_rfl) _ _ _ _ (by omega) (by omega) (by rfl) w0⟩
      have hoa := HON.out ga k p
      have hob := HOG.out ga k p
      have bb := hT2.1.facts
      obtain ⟨x0, x1, x2, x3⟩ := bb
      have xB := blkAt_heap hT2.2
      have xj : (j : Int) < 3 := by omega
      by_cases e1 : (k : Int) = n
      case neg =>
        have e1' : ((k : Int) == n) = false := by simpa using e1
        have ho := apart_law h n k p0 p b1 n0 n1 kc0 kc1 c0 c1 hp0 hp
        rw [if_neg (fun z => e1 z.1)] at ho
        rw [ho] at hob
        generalize oneV f k p = o1 at *
        have HOA := Lib.hid hoa
        have HOB := Lib.hid hob
        clear hoa hob ho
        go_wp2_with (first | (go_at_call 14; (with_reducible refine (HOA.out _ ?_).mono ?_); (first | assumption); rintro e w5 ⟨rfl, y0⟩; (have bb := y0.1.facts); (obtain ⟨z0, z1, z2, z3⟩ := bb); (have zB := blkAt_heap y0.2)) | (go_at_call 14; (with_reducible refine (HOB.out _ ?_).mono ?_); (first | assumption); rintro e w6 ⟨rfl, y1⟩))
        go_roundw
        case rel => exact ⟨j + 1, by omega, by go_num, by assumption⟩
        case measure => simp [intOf] <;> omega
      case pos =>
        subst e1
        by_cases e2 : p = p0
        case pos =>
          subst e2
          by_cases e6 : (k : Int) = 6
          case pos =>
            have ho := apart_law h k k p p b1 n0 n1 kc0 kc1 c0 c1 hp0 hp
            rw [if_neg (fun z => z.2.2 e6)] at ho
            rw [ho] at hob
            have et : ((k : Int) == 6) = true := by simpa using e6
            have ef : ((k : Int) != 6) = false := by simp [e6]
            have HE := Lib.hid e6
            clear e6
            generalize oneV f k p = o1 at *
            have HOA := Lib.hid hoa
            have HOB := Lib.hid hob
            clear hoa hob ho
            go_wp2_with (first | (go_at_call 14; (with_reducible refine (HOA.out _ ?_).mono ?_); (first | assumption); rintro e w5 ⟨rfl, y0⟩; (have bb := y0.1.facts); (obtain ⟨z0, z1, z2, z3⟩ := bb); (have zB := blkAt_heap y0.2)) | (go_at_call 14; (with_reducible refine (HOB.out _ ?_).mono ?_); (first | assumption); rintro e w6 ⟨rfl, y1⟩))
            go_roundw
            case rel => exact ⟨j + 1, by omega, by go_num, by assumption⟩
            case measure => simp [intOf] <;> omega
          case neg =>
            have e6n : ¬ k = 6 := by omega
            have e6' : ((k : Int) == 6) = false := by simpa using e6
            have ho := apart_law h k k p p b1 n0 n1 kc0 kc1 c0 c1 hp0 hp
            rw [if_pos ⟨rfl, Or.inl rfl, e6⟩] at ho
            rw [ho] at hob
            generalize oneV f k p = o1 at *
            have HOA := Lib.hid hoa
            have HOB := Lib.hid hob
            clear hoa hob ho
            go_wp2_with (first | (go_at_call 14; (with_reducible refine (HOA.out _ ?_).mono ?_); (first | assumption); rintro e w5 ⟨rfl, y0⟩; (have bb := y0.1.facts); (obtain ⟨z0, z1, z2, z3⟩ := bb); (have zB := blkAt_heap y0.2)) | (go_at_call 14; (with_reducible refine (HOB.out _ ?_).mono ?_); (first | assumption); rintro e w6 ⟨rfl, y1⟩))
            go_roundw
            case rel => exact ⟨j + 1, by omega, by go_num, by assumption⟩
            case measure => simp [intOf] <;> omega
        case neg =>
          have e2' : (p == p0) = false := by simpa using e2
          by_cases e4 : (k : Int) = 4
          case pos =>
            have ho := apart_law h k k p0 p b1 n0 n1 kc0 kc1 c0 c1 hp0 hp
            rw [if_neg (fun z => z.2.1.elim e2 fun y => y.1 e4)] at ho
            rw [ho] at hob
            have et : ((k : Int) == 4) = true := by simpa using e4
            have ef : ((k : Int) != 4) = false := by simp [e4]
            have HE := Lib.hid e4
            clear e4
            generalize oneV f k p = o1 at *
            have HOA := Lib.hid hoa
            have HOB := Lib.hid hob
            clear hoa hob ho
            go_wp2_with (first | (go_at_call 14; (with_reducible refine (HOA.out _ ?_).mono ?_); (first | assumption); rintro e w5 ⟨rfl, y0⟩; (have bb := y0.1.facts); (obtain ⟨z0, z1, z2, z3⟩ := bb); (have zB := blkAt_heap y0.2)) | (go_at_call 14; (with_reducible refine (HOB.out _ ?_).mono ?_); (first | assumption); rintro e w6 ⟨rfl, y1⟩))
            go_roundw
            case rel => exact ⟨j + 1, by omega, by go_num, by assumption⟩
            case measure => simp [intOf] <;> omega
          case neg =>
          by_cases e5 : (k : Int) = 5
          case pos =>
            have ho := apart_law h k k p0 p b1 n0 n1 kc0 kc1 c0 c1 hp0 hp
            rw [if_neg (fun z => z.2.1.elim e2 fun y => y.2 e5)] at ho
            rw [ho] at hob
            have et : ((k : Int) == 5) = true := by simpa using e5
            have ef : ((k : Int) != 5) = false := by simp [e5]
            have HE := Lib.hid e5
            clear e5
            have e4b : ((k : Int) != 4) = true := by simpa using e4
            generalize oneV f k p = o1 at *
            have HOA := Lib.hid hoa
            have HOB := Lib.hid hob
            clear hoa hob ho
            go_wp2_with (first | (go_at_call 14; (with_reducible refine (HOA.out _ ?_).mono ?_); (first | assumption); rintro e w5 ⟨rfl, y0⟩; (have bb := y0.1.facts); (obtain ⟨z0, z1, z2, z3⟩ := bb); (have zB := blkAt_heap y0.2)) | (go_at_call 14; (with_reducible refine (HOB.out _ ?_).mono ?_); (first | assumption); rintro e w6 ⟨rfl, y1⟩))
            go_roundw
            case rel => exact ⟨j + 1, by omega, by go_num, by assumption⟩
            case measure => simp [intOf] <;> omega
          case neg =>
          by_cases e6 : (k : Int) = 6
          case pos =>
            have ho := apart_law h k k p0 p b1 n0 n1 kc0 kc1 c0 c1 hp0 hp
            rw [if_neg (fun z => z.2.2 e6)] at ho
            rw [ho] at hob
            have et : ((k : Int) == 6) = true := by simpa using e6
            have ef : ((k : Int) != 6) = false := by simp [e6]
            have HE := Lib.hid e6
            clear e6
            have e4b : ((k : Int) != 4) = true := by simpa using e4
            have e5b : ((k : Int) != 5) = true := by simpa using e5
            generalize oneV f k p = o1 at *
            have HOA := Lib.hid hoa
            have HOB := Lib.hid hob
            clear hoa hob ho
            go_wp2_with (first | (go_at_call 14; (with_reducible refine (HOA.out _ ?_).mono ?_); (first | assumption); rintro e w5 ⟨rfl, y0⟩; (have bb := y0.1.facts); (obtain ⟨z0, z1, z2, z3⟩ := bb); (have zB := blkAt_heap y0.2)) | (go_at_call 14; (with_reducible refine (HOB.out _ ?_).mono ?_); (first | assumption); rintro e w6 ⟨rfl, y1⟩))
            go_roundw
            case rel => exact ⟨j + 1, by omega, by go_num, by assumption⟩
            case measure => simp [intOf] <;> omega
          case neg =>
            have e6n : ¬ k = 6 := by omega
            have e5n : ¬ k = 5 := by omega
            have e4n : ¬ k = 4 := by omega
            have e6' : ((k : Int) == 6) = false := by simpa using e6
            have e5' : ((k : Int) == 5) = false := by simpa using e5
            have e4' : ((k : Int) == 4) = false := by simpa using e4
            have e4b : ((k : Int) != 4) = true := by simpa using e4
            have e5b : ((k : Int) != 5) = true := by simpa using e5
            have e45 : ((k : Int) != 4 && (k : Int) != 5) = true := by simp [e4b, e5b]
            have ho := apart_law h k k p0 p b1 n0 n1 kc0 kc1 c0 c1 hp0 hp
            rw [if_pos ⟨rfl, Or.inr ⟨e4, e5⟩, e6⟩] at ho
            rw [ho] at hob
            generalize oneV f k p = o1 at *
            have HOA := Lib.hid hoa
            have HOB := Lib.hid hob
            clear hoa hob ho
            go_wp2_with (first | (go_at_call 14; (with_reducible refine (HOA.out _ ?_).mono ?_); (first | assumption); rintro e w5 ⟨rfl, y0⟩; (have bb := y0.1.facts); (obtain ⟨z0, z1, z2, z3⟩ := bb); (have zB := blkAt_heap y0.2)) | (go_at_call 14; (with_reducible refine (HOB.out _ ?_).mono ?_); (first | assumption); rintro e w6 ⟨rfl, y1⟩))
            go_roundw
            case rel => exact ⟨j + 1, by omega, by go_num, by assumption⟩
            case measure => simp [intOf] <;> omega
set_option maxRecDepth 100000 in
set_option maxHeartbeats 4000000 in
theorem apart_all (f : Nat → Int) (h : RB f) (n b0 b1 : Int) (a0 : 0 ≤ b0) (a1 : b0 < 256) (c0 : 0 ≤ b1) (c1 : b1 < 256) (w : World) : Calls Try.prog 8 #[.agg (R f), .int .i64 n, .agg #[.int .u8 b0, .int .u8 b1]] w fun e w' => e = .returned (.bool true) ∧ Below w.heap.size w w' := by
  by_cases hn : n < 0 ∨ 0 ≤ n ∧ 7 < n
  · exact apart_out f h n b0 b1 a0 a1 c0 c1 hn w
  · rcases (by omega : b0 % 3 = 0 ∨ b0 % 3 = 1 ∨ b0 % 3 = 2) with e | e | e
    · exact apart_in f h n b0 b1 0 a0 a1 c0 c1 (by omega) (by omega) (by simp) (fun w0 => by rw [e]; exact index_run Try.underlying50 Try.underlying5 rfl (by kernel_rfl) _ _ _ _ (by omega) (by omega) (by rfl) w0) w
    · exact apart_in f h n b0 b1 221 a0 a1 c0 c1 (by omega) (by omega) (by simp) (fun w0 => by rw [e]; exact index_run Try.underlying50 Try.underlying5 rfl (by kernel_rfl) _ _ _ _ (by omega) (by omega) (by rfl) w0) w
    · exact apart_in f h n b0 b1 253 a0 a1 c0 c1 (by omega) (by omega) (by simp) (fun w0 => by rw [e]; exact index_run Try.underlying50 Try.underlying5 rfl (by kernel_rfl) _ _ _ _ (by omega) (by omega) (by rfl) w0) w
set_option maxRecDepth 100000 in
set_option maxHeartbeats 4000000 in
theorem regsApart_walk (a0_0 a0_1 a0_2 a0_3 a0_4 a0_5 a0_6 a0_7 a0_8 a0_9 a0_10 a0_11 a0_12 a0_13 a0_14 a0_15 a0_16 a0_17 a0_18 a0_19 a0_20 a0_21 a0_22 a0_23 a0_24 : Int) (a0_25 a0_26 a0_27 a0_28 : Bool) (n b0 b1 : Int) (w0_0 : (Lit.int .u8 a0_0).wf = true) (w0_1 : (Lit.int .u8 a0_1).wf = true) (w0_2 : (Lit.int .u8 a0_2).wf = true) (w0_3 : (Lit.int .u8 a0_3).wf = true) (w0_4 : (Lit.int .u8 a0_4).wf = true) (w0_5 : (Lit.int .u8 a0_5).wf = true) (w0_6 : (Lit.int .u8 a0_6).wf = true) (w0_7 : (Lit.int .u8 a0_7).wf = true) (w0_8 : (Lit.int .u8 a0_8).wf = true) (w0_9 : (Lit.int .u8 a0_9).wf = true) (w0_10 : (Lit.int .u8 a0_10).wf = true) (w0_11 : (Lit.int .u8 a0_11).wf = true) (w0_12 : (Lit.int .u8 a0_12).wf = true) (w0_13 : (Lit.int .u8 a0_13).wf = true) (w0_14 : (Lit.int .u8 a0_14).wf = true) (w0_15 : (Lit.int .u8 a0_15).wf = true) (w0_16 : (Lit.int .u16 a0_16).wf = true) (w0_17 : (Lit.int .u16 a0_17).wf = true) (w0_18 : (Lit.int .u16 a0_18).wf = true) (w0_19 : (Lit.int .u16 a0_19).wf = true) (w0_20 : (Lit.int .u16 a0_20).wf = true) (w0_21 : (Lit.int .u8 a0_21).wf = true) (w0_22 : (Lit.int .u8 a0_22).wf = true) (w0_23 : (Lit.int .u8 a0_23).wf = true) (w0_24 : (Lit.int .u8 a0_24).wf = true) (w1 : (Lit.int .i64 n).wf = true) (w2_0 : (Lit.int .u8 b0).wf = true) (w2_1 : (Lit.int .u8 b1).wf = true) (w : World) : Calls Try.prog 8 #[.agg #[.int .u8 a0_0, .int .u8 a0_1, .int .u8 a0_2, .int .u8 a0_3, .int .u8 a0_4, .int .u8 a0_5, .int .u8 a0_6, .int .u8 a0_7, .int .u8 a0_8, .int .u8 a0_9, .int .u8 a0_10, .int .u8 a0_11, .int .u8 a0_12, .int .u8 a0_13, .int .u8 a0_14, .int .u8 a0_15, .int .u16 a0_16, .int .u16 a0_17, .int .u16 a0_18, .int .u16 a0_19, .int .u16 a0_20, .int .u8 a0_21, .int .u8 a0_22, .int .u8 a0_23, .int .u8 a0_24, .bool a0_25, .bool a0_26, .bool a0_27, .bool a0_28], .int .i64 n, .agg #[.int .u8 b0, .int .u8 b1]] w fun e w' => e = .returned (.bool true) ∧ Below w.heap.size w w' := by
  rw [show (#[.int .u8 a0_0, .int .u8 a0_1, .int .u8 a0_2, .int .u8 a0_3, .int .u8 a0_4, .int .u8 a0_5, .int .u8 a0_6, .int .u8 a0_7, .int .u8 a0_8, .int .u8 a0_9, .int .u8 a0_10, .int .u8 a0_11, .int .u8 a0_12, .int .u8 a0_13, .int .u8 a0_14, .int .u8 a0_15, .int .u16 a0_16, .int .u16 a0_17, .int .u16 a0_18, .int .u16 a0_19, .int .u16 a0_20, .int .u8 a0_21, .int .u8 a0_22, .int .u8 a0_23, .int .u8 a0_24, .bool a0_25, .bool a0_26, .bool a0_27, .bool a0_28] : Array Value) = R (fOf [a0_0, a0_1, a0_2, a0_3, a0_4, a0_5, a0_6, a0_7, a0_8, a0_9, a0_10, a0_11, a0_12, a0_13, a0_14, a0_15, a0_16, a0_17, a0_18, a0_19, a0_20, a0_21, a0_22, a0_23, a0_24, cz a0_25, cz a0_26, cz a0_27, cz a0_28]) from regs_eq a0_0 a0_1 a0_2 a0_3 a0_4 a0_5 a0_6 a0_7 a0_8 a0_9 a0_10 a0_11 a0_12 a0_13 a0_14 a0_15 a0_16 a0_17 a0_18 a0_19 a0_20 a0_21 a0_22 a0_23 a0_24 a0_25 a0_26 a0_27 a0_28]
  exact apart_all _ (regs_rb a0_0 a0_1 a0_2 a0_3 a0_4 a0_5 a0_6 a0_7 a0_8 a0_9 a0_10 a0_11 a0_12 a0_13 a0_14 a0_15 a0_16 a0_17 a0_18 a0_19 a0_20 a0_21 a0_22 a0_23 a0_24 a0_25 a0_26 a0_27 a0_28 w0_0 w0_1 w0_2 w0_3 w0_4 w0_5 w0_6 w0_7 w0_8 w0_9 w0_10 w0_11 w0_12 w0_13 w0_14 w0_15 w0_16 w0_17 w0_18 w0_19 w0_20 w0_21 w0_22 w0_23 w0_24) n b0 b1 (wf_u8 w2_0).1 (wf_u8 w2_0).2 (wf_u8 w2_1).1 (wf_u8 w2_1).2 w
end Regs
end Go.Proofs.Ythghpgnnbdimaaa
