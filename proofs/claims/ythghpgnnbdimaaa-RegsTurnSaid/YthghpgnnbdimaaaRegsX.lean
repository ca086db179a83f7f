/- Registers (layer 10): what the program's functions do, the second part. No conditions but that numbers are of their kinds. -/
import Derived.Test.YthghpgnnbdimaaaRegsA
import Derived.Test.YthghpgnnbdimaaaRegsW
import Derived.RegionTactic
import Derived.Deep.DeepCutAuto
import Derived.Lib.Hide
import Derived.Deep.CutRange
import Derived.LoopTactic
import Derived.Deep.RegionHeld3
namespace Go.Proofs.Ythghpgnnbdimaaa
open Go.RowKit
open Kit R06
set_option linter.unusedSimpArgs false
set_option linter.unusedVariables false
attribute [local simp] blkAt_alloc blkNew_cells putRow_cells blkAt_drew BlkN.set BlkOne.setInt BlkOne.setBool blkPut_alloc blkPut_drew nq2 nq3 nq4 nq5 nq6 nq7 nq8
namespace Regs
attribute [local simp ↓] rl_in rs_in
attribute [local simp] blkAt_blkPut_other size_blkPut rl_run rs_run
def NM8 : Array Value := #[.string ⟨#[65]⟩, .string ⟨#[70]⟩, .string ⟨#[66]⟩, .string ⟨#[67]⟩, .string ⟨#[68]⟩, .string ⟨#[69]⟩, .string ⟨#[72]⟩, .string ⟨#[76]⟩]
def US (w : World) (A G : Array Value) (W : World) : Prop := W.heap[w.heap.size]? = some (.cells A 25) ∧ W.heap[w.heap.size + 1]? = some (.cells Z29 25) ∧ W.heap[w.heap.size + 2]? = some (.cells G 25) ∧ W.heap[w.heap.size + 3]? = some (.cells NM8 9) ∧ Below w.heap.size w W
theorem US.below {w : World} {A G : Array Value} {W W' : World} (h : US w A G W) (hb : Below W.heap.size W W') : US w A G W' := by
  obtain ⟨h0, h1, h2, h3, h4⟩ := h
  have l := heap_lt h3
  exact ⟨(hb.block _ (by omega)).trans h0, (hb.block _ (by omega)).trans h1, (hb.block _ (by omega)).trans h2, (hb.block _ l).trans h3, h4.trans (hb.mono h4.size)⟩
theorem US.drew {w : World} {A G : Array Value} {W : World} (h : US w A G W) : US w A G W.drew := ⟨h.1, h.2.1, h.2.2.1, h.2.2.2.1, h.2.2.2.2.drew⟩
theorem US.put {w : World} {A G : Array Value} {W : World} (h : US w A G W) (G2 : Array Value) : US w A G2 (blkPut W (w.heap.size + 2) G2) := by
  obtain ⟨h0, h1, h2, h3, h4⟩ := h
  exact ⟨(heap_blkPut_other _ _ _ _ (by omega)).trans h0, (heap_blkPut_other _ _ _ _ (by omega)).trans h1, heap_blkPut_same h2 _, (heap_blkPut_other _ _ _ _ (by omega)).trans h3, below_blkPut h4 (by omega) _⟩
theorem US.set {w : World} {A G : Array Value} {W : World} (h : US w A G W) (k : Nat) (v : Value) : US w A (G.setIfInBounds k v) (W.setCell ⟨w.heap.size + 2, k, none⟩ v) := by
  obtain ⟨h0, h1, h2, h3, h4⟩ := h
  exact ⟨(heap_set_other _ _ _ _ _ (by omega)).trans h0, (heap_set_other _ _ _ _ _ (by omega)).trans h1, heap_set_same _ _ _ _ h2, (heap_set_other _ _ _ _ _ (by omega)).trans h3, h4.setCell (by simp) _⟩
theorem US.facts {w : World} {A G : Array Value} {W : World} (h : US w A G W) : blkAt W w.heap.size = A ∧ blkAt W (w.heap.size + 1) = Z29 ∧ blkAt W (w.heap.size + 2) = G ∧ w.heap.size + 3 < W.heap.size := ⟨blkAt_heap h.1, blkAt_heap h.2.1, blkAt_heap h.2.2.1, heap_lt h.2.2.2.1⟩
theorem heldV {P : Program} {n : Nat} {args : Array Value} {r : Value} {T : World → Prop} (hT : ∀ W W', T W → Below W.heap.size W W' → T W') (h : ∀ W, Calls P n args W fun e w' => e = .returned r ∧ Below W.heap.size W w') (W : World) (hW : T W) : Calls P n args W fun e w' => e = .returned r ∧ T w' ∧ Below W.heap.size W w' :=
  (h W).mono fun e w' ⟨e1, e2⟩ => ⟨e1, hT _ _ hW e2, e2⟩
set_option maxRecDepth 100000 in
set_option maxHeartbeats 4000000 in
theorem rswap_core (f : Nat → Int) (h : RB f) (all : Bool) (w : World) (HS : ∀ k : Nat, k < 8 → (all == decide (1 < k)) = true → ∀ nm, NM8[k]? = some (.string nm) → ∀ W, US w (R f) (R (swF f all k)) W → Calls Try.prog 27 #[.agg (R (swF f all k)), .string nm, .int .i64 (f (8 + k))] W fun e w' => e = .returned (.agg (R (upd (swF f all k) k (f (8 + k))))) ∧ US w (R f) (R (swF f all k)) w' ∧ Below W.heap.size W w') (HG : ∀ k : Nat, k < 8 → ∀ nm, NM8[k]? = some (.string nm) → ∀ G W, US w (R f) G W → Calls Try.prog 10 #[.agg (R f), .string nm] W fun e w' => e = .returned (.int .i64 (f k)) ∧ US w (R f) G w' ∧ Below W.heap.size W w') : Calls Try.prog 23 #[.agg (R f), .bool all] w fun e w' => e = .returned (.agg (R (swF f all 8))) ∧ Below w.heap.size w w' := by
  have HS := Lib.hid HS
  have HG := Lib.hid HG
  have sA : BlkN (R f) 29 := R_size f
  have oA : BlkOne (R f) := R_one f
  have zn := zN
  obtain ⟨A, hA⟩ : ∃ A, R f = A := ⟨_, rfl⟩
  rw [hA] at sA oA
  have HA := Lib.hid hA
  rw [hA]
  clear hA
  unfold Z29 at zn
  have zb : (all == true) = all := by cases all <;> rfl
  go_enter Try.func23, Try.ntmps23
  go_wp2_with fail
  go_loopw [11] (fun i wr => ∃ (k : Nat) (G : Array Value), k ≤ 8 ∧ i = .int .i64 k ∧ G = R (swF f all k) ∧ US w A G wr) (fun i _ => (8 - intOf i).toNat)
  case atStart => 
    refine ⟨0, A, by omega, rfl, by rw [swF_0, HA.out], ?_⟩
    exact ⟨(by repeat (first | (refine heap_at _ _ _ ?_; first | (simp; done) | (simp; omega; done)) | (refine (heap_past _ _ _ ?_).trans ?_; focus (first | (simp; done) | (simp; omega; done))) | (refine (heap_drew _ _).trans ?_))), (by repeat (first | (refine heap_at _ _ _ ?_; first | (simp; done) | (simp; omega; done)) | (refine (heap_past _ _ _ ?_).trans ?_; focus (first | (simp; done) | (simp; omega; done))) | (refine (heap_drew _ _).trans ?_))), (by repeat (first | (refine heap_at _ _ _ ?_; first | (simp; done) | (simp; omega; done)) | (refine (heap_past _ _ _ ?_).trans ?_; focus (first | (simp; done) | (simp; omega; done))) | (refine (heap_drew _ _).trans ?_))), (by repeat (first | (refine heap_at _ _ _ ?_; first | (simp; done) | (simp; omega; done)) | (refine (heap_past _ _ _ ?_).trans ?_; focus (first | (simp; done) | (simp; omega; done))) | (refine (heap_drew _ _).trans ?_))), by go_grown⟩
  case round =>
    obtain ⟨k, G, hk, rfl, hG, hU⟩ := hrel
    have sG : BlkN G 29 := hG ▸ R_size _
    have oG : BlkOne G := hG ▸ R_one _
    obtain ⟨b0, b1, b2, b3⟩ := hU.facts
    unfold Z29 at b1
    have hGR := Lib.hid hG
    by_cases hlt : k < 8
    case neg =>
      have hk8 : k = 8 := by omega
      subst hk8
      clear hG
      go_wp2_with fail
      exact bodyPost_ret (v := .agg _) (results_cell_row rfl _ _ (w.heap.size + 1) 25 _ (0, 0) _ rfl (heap_blkPut_same hU.2.1 G) Try.underlying25 rfl (iR sG)) rfl ⟨by rw [hGR.out], below_blkPut hU.2.2.2.2 (by omega) _⟩
    case pos =>
    obtain ⟨nm, hnm⟩ : ∃ nm, NM8[k]? = some (.string nm) := by
      rcases (by omega : k = 0 ∨ k = 1 ∨ k = 2 ∨ k = 3 ∨ k = 4 ∨ k = 5 ∨ k = 6 ∨ k = 7) with rfl | rfl | rfl | rfl | rfl | rfl | rfl | rfl <;> exact ⟨_, rfl⟩
    have cn : ∀ W, US w A G W → W.cell? ⟨w.heap.size + 3, k, none⟩ = some (.string nm) := fun W h => by rw [cell_of W _ k h.2.2.2.1, hnm]
    have cnw := cn _ hU
    have cA : A[8 + k]? = some (.int .u8 (f (8 + k))) := by rw [← HA.out, R_get _ _ (by omega)]; unfold rv; rw [if_pos (by omega)]
    have ca : ∀ W G0, US w A G0 W → W.cell? ⟨w.heap.size, 8 + k, none⟩ = some (.int .u8 (f (8 + k))) := fun W G0 h => by rw [cell_of W _ (8 + k) h.1, cA]
    have caw := ca _ _ hU
    have fk := h.u8 k (by omega)
    have fk8 := h.u8 (8 + k) (by omega)
    have wr1 : IntKind.i64.wrap (f (8 + k)) = f (8 + k) := by rw [IntKind.wrap_i64]; omega
    have wr2 : IntKind.u8.wrap (f k) = f k := by rw [IntKind.wrap_u8]; omega
    have wr3 : f k % 256 = f k := by omega
    have n0 : (0 : Int) ≤ (k : Int) := by omega
    have n1 : (k : Int) < 8 := by omega
    cases all <;> by_cases h2 : 1 < k
    ·
      have d2 : decide (2 ≤ k) = true := decide_eq_true (by omega)
      have d2' : (2 : Int) ≤ (k : Int) := by omega
      have d3 : 2 ≤ k := by omega
      go_wp2_with fail
      go_roundw
      case rel => exact ⟨k + 1, G, by omega, by go_num, by rw [hGR.out]; exact swF_skip f false k (by simp [h2]), hU⟩
      case measure => simp [intOf] <;> omega
    ·
      have d2 : decide (2 ≤ k) = false := decide_eq_false (by omega)
      have d2' : ¬ (2 : Int) ≤ (k : Int) := by omega
      have d3 : ¬ 2 ≤ k := by omega
      have hs := HS.out k hlt (by simp [h2]) nm hnm
      have hg := HG.out k hlt nm hnm
      have gA := HA.out
      rw [gA, ← hG] at hs
      rw [gA] at hg
      obtain ⟨G1, hG1⟩ : ∃ G1, R (upd (swF f false k) k (f (8 + k))) = G1 := ⟨_, rfl⟩
      rw [hG1] at hs
      have sG1 : BlkN G1 29 := hG1 ▸ R_size _
      have oG1 : BlkOne G1 := hG1 ▸ R_one _
      have cG : ∃ v, G1[8 + k]? = some v := ⟨_, by rw [← hG1, R_get _ _ (by omega)]⟩
      obtain ⟨v1, cG⟩ := cG
      have HS1 := Lib.hid hs
      have HG1 := Lib.hid hg
      have HGG := Lib.hid hG1
      clear hs hg hG1 hG gA
      go_wp2_with fail
      go_region_with (first | (go_at_call 27; (with_reducible refine (HS1.out _ ?_).mono ?_); (exact hU.drew); rintro e w3 ⟨rfl, k0, k1⟩; (have bb := k0.facts); (obtain ⟨p0, p1, p2, p3⟩ := bb); (unfold Z29 at p1)))
      all_goals
        go_wp2_with fail
        refine (HG1.out G1 _ (k0.put G1)).mono ?_
        rintro e w4 ⟨rfl, k2, k3⟩
        have c4 : w4.cell? ⟨w.heap.size + 2, 8 + k, none⟩ = some v1 := by rw [cell_of w4 _ (8 + k) k2.2.2.1, cG]
        have f4 : w4.frozen? ⟨w.heap.size + 2, 8 + k, none⟩ = false := free_of w4 _ _ k2.2.2.1
        go_wp2_with fail
        go_roundw
        case rel => exact ⟨k + 1, _, by omega, by go_num, by rw [← HGG.out, R_set8 _ _ _ (by omega)]; exact R_congr _ _ fun j _ => swF_step f false k hlt (by simp [h2]) j, k2.set _ _⟩
        case measure => simp [intOf] <;> omega
    ·
      have d2 : decide (2 ≤ k) = true := decide_eq_true (by omega)
      have d2' : (2 : Int) ≤ (k : Int) := by omega
      have d3 : 2 ≤ k := by omega
      have hs := HS.out k hlt (by simp [h2]) nm hnm
      have hg := HG.out k hlt nm hnm
      have gA := HA.out
      rw [gA, ← hG] at hs
      rw [gA] at hg
      obtain ⟨G1, hG1⟩ : ∃ G1, R (upd (swF f true k) k (f (8 + k))) = G1 := ⟨_, rfl⟩
      rw [hG1] at hs
      have sG1 : BlkN G1 29 := hG1 ▸ R_size _
      have oG1 : BlkOne G1 := hG1 ▸ R_one _
      have cG : ∃ v, G1[8 + k]? = some v := ⟨_, by rw [← hG1, R_get _ _ (by omega)]⟩
      obtain ⟨v1, cG⟩ := cG
      have HS1 := Lib.hid hs
      have HG1 := Lib.hid hg
      have HGG := Lib.hid hG1
      clear hs hg hG1 hG gA
      go_wp2_with fail
      go_region_with (first | (go_at_call 27; (with_reducible refine (HS1.out _ ?_).mono ?_); (exact hU.drew); rintro e w3 ⟨rfl, k0, k1⟩; (have bb := k0.facts); (obtain ⟨p0, p1, p2, p3⟩ := bb); (unfold Z29 at p1)))
      all_goals
        go_wp2_with fail
        refine (HG1.out G1 _ (k0.put G1)).mono ?_
        rintro e w4 ⟨rfl, k2, k3⟩
        have c4 : w4.cell? ⟨w.heap.size + 2, 8 + k, none⟩ = some v1 := by rw [cell_of w4 _ (8 + k) k2.2.2.1, cG]
        have f4 : w4.frozen? ⟨w.heap.size + 2, 8 + k, none⟩ = false := free_of w4 _ _ k2.2.2.1
        go_wp2_with fail
        go_roundw
        case rel => exact ⟨k + 1, _, by omega, by go_num, by rw [← HGG.out, R_set8 _ _ _ (by omega)]; exact R_congr _ _ fun j _ => swF_step f true k hlt (by simp [h2]) j, k2.set _ _⟩
        case measure => simp [intOf] <;> omega
    ·
      have d2 : decide (2 ≤ k) = false := decide_eq_false (by omega)
      have d2' : ¬ (2 : Int) ≤ (k : Int) := by omega
      have d3 : ¬ 2 ≤ k := by omega
      go_wp2_with fail
      go_roundw
      case rel => exact ⟨k + 1, G, by omega, by go_num, by rw [hGR.out]; exact swF_skip f true k (by simp [h2]), hU⟩
      case measure => simp [intOf] <;> omega
end Regs
end Go.Proofs.Ythghpgnnbdimaaa
