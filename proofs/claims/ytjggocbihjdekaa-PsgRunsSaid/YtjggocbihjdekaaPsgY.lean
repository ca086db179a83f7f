/- A chip of three tones and a noise (layer 5): what the program's functions do, part 9. No conditions but that numbers are of their kinds. -/
import Derived.Test.YtjggocbihjdekaaPsgX
import Derived.RegionTactic
import Derived.LoopTactic
import Derived.Deep.RegionHeld3
import Derived.Lib.Hide
namespace Go.Proofs.Ytjggocbihjdekaa
open Go.RowKit
open Kit
set_option linter.unusedSimpArgs false
set_option linter.unusedVariables false
attribute [local simp] blkAt_alloc blkNew_cells putRow_cells blkAt_drew BlkN.set BlkOne.setInt BlkOne.setBool blkPut_alloc blkPut_drew blkAt_blkPut_other size_blkPut nq2 nq3 nq4 nq5 nq6 nq7 nq8
namespace Psg
attribute [local simp ↓] sl_in ss_in vs_in
attribute [local simp] sl_run ss_run vs_run
def dQ (f g : Nat → Int) (k : Nat) : Int := Nat.rec 0 (fun i r => if f (13 + i) = g (13 + i) then r else r + 1) k
def dT (f g : Nat → Int) (k : Nat) : Int := Nat.rec 0 (fun i r => if f (3 * i) = g (3 * i) then r else r + 1) k
def dN (f g : Nat → Int) : Int := if f 9 = g 9 ∧ f 12 = g 12 then 0 else 1
theorem dQ4 (f g : Nat → Int) : dQ f g 4 = (if f 16 = g 16 then (if f 15 = g 15 then (if f 14 = g 14 then (if f 13 = g 13 then 0 else 0 + 1) else (if f 13 = g 13 then 0 else 0 + 1) + 1) else (if f 14 = g 14 then (if f 13 = g 13 then 0 else 0 + 1) else (if f 13 = g 13 then 0 else 0 + 1) + 1) + 1) else (if f 15 = g 15 then (if f 14 = g 14 then (if f 13 = g 13 then 0 else 0 + 1) else (if f 13 = g 13 then 0 else 0 + 1) + 1) else (if f 14 = g 14 then (if f 13 = g 13 then 0 else 0 + 1) else (if f 13 = g 13 then 0 else 0 + 1) + 1) + 1) + 1) := rfl
theorem dT3 (f g : Nat → Int) : dT f g 3 = (if f 6 = g 6 then (if f 3 = g 3 then (if f 0 = g 0 then 0 else 0 + 1) else (if f 0 = g 0 then 0 else 0 + 1) + 1) else (if f 3 = g 3 then (if f 0 = g 0 then 0 else 0 + 1) else (if f 0 = g 0 then 0 else 0 + 1) + 1) + 1) := rfl
/-- What a byte changes, and what it leaves. -/
structure WG (f g : Nat → Int) (v : Int) : Prop where
  same : g 1 = f 1 ∧ g 2 = f 2 ∧ g 4 = f 4 ∧ g 5 = f 5 ∧ g 7 = f 7 ∧ g 8 = f 8 ∧ g 10 = f 10 ∧ g 11 = f 11
  few : dQ f g 4 + dT f g 3 + dN f g ≤ 1
  low : v < 128 → g 17 = f 17
  quiet : 128 ≤ v → g 17 % 2 = 1 → g (13 + (g 17 / 2).toNat) = v % 16
  again : ∀ j, j < 18 → wF g v j = g j
  sb : SB g
  hp : ∀ k, k < 3 → 0 ≤ g (3 * k) ∧ g (3 * k) < 1024
  hl : 0 ≤ g 17 ∧ g 17 < 8
theorem j18 {j : Nat} (h : j < 18) : j = 0 ∨ j = 1 ∨ j = 2 ∨ j = 3 ∨ j = 4 ∨ j = 5 ∨ j = 6 ∨ j = 7 ∨ j = 8 ∨ j = 9 ∨ j = 10 ∨ j = 11 ∨ j = 12 ∨ j = 13 ∨ j = 14 ∨ j = 15 ∨ j = 16 ∨ j = 17 := by omega
theorem upd_self (f : Nat → Int) (k : Nat) (x : Int) (h : f k = x) : upd f k x = f := by
  funext j; unfold upd; split
  · rename_i e; rw [e, h]
  · rfl
set_option maxRecDepth 100000 in
set_option maxHeartbeats 4000000 in
theorem wg_h0 (f : Nat → Int) (h : SB f) (hp : ∀ k, k < 3 → 0 ≤ f (3 * k) ∧ f (3 * k) < 1024) (v : Int) (v0 : 0 ≤ v) (v1 : v < 256) (hv : 128 ≤ v) (hl : v / 16 % 8 = 0) : WG f (wH f v 0) v := by
  have b0 := hp 0 (by omega)
  have b3 := hp 1 (by omega)
  have b6 := hp 2 (by omega)
  simp only [Nat.mul_zero, Nat.mul_one, Nat.reduceMul] at b0 b3 b6
  obtain ⟨h9, h12, hu, hi⟩ := h
  have b1 := hi 1 (by omega)
  have b4 := hi 4 (by omega)
  have b7 := hi 7 (by omega)
  have b10 := hi 10 (by omega)
  have b13 := hu 13 (by omega) (by omega)
  have b14 := hu 14 (by omega) (by omega)
  have b15 := hu 15 (by omega) (by omega)
  have b16 := hu 16 (by omega) (by omega)
  have b17 := hu 17 (by omega) (by omega)
  clear hp hu hi
  rw [show wH f v 0 = upd (upd f 17 0) 0 (f 0 / 16 * 16 + v % 16) from rfl]
  have hv' : ¬ v < 128 := by omega
  refine ⟨by simp [upd], ?_, ?_, ?_, fun j hj => ?_, ?_, ?_, ?_⟩
  · rw [dQ4, dT3]; unfold dN; simp [upd] <;> (split <;> omega)
  · intro hh; first | omega | (simp [upd]; done)
  · intro ha hb; first | omega | (simp [upd] at hb ⊢; done) | (simp [upd] at hb; done)
  · unfold wF; rw [if_pos hv, hl]
    show upd (upd (upd (upd f 17 0) 0 (f 0 / 16 * 16 + v % 16)) 17 0) 0 ((upd (upd f 17 0) 0 (f 0 / 16 * 16 + v % 16)) 0 / 16 * 16 + v % 16) j = _
    rcases j18 hj with rfl | rfl | rfl | rfl | rfl | rfl | rfl | rfl | rfl | rfl | rfl | rfl | rfl | rfl | rfl | rfl | rfl | rfl <;> (simp [upd] <;> omega)
  · refine ⟨?_, ?_, fun j ha hb => ?_, fun j ha => ?_⟩
    · simp [upd] <;> omega
    · simp [upd] <;> omega
    · rcases (by omega : j = 13 ∨ j = 14 ∨ j = 15 ∨ j = 16 ∨ j = 17) with rfl | rfl | rfl | rfl | rfl <;> (simp [upd] <;> omega)
    · rcases ha with rfl | rfl | rfl | rfl | rfl | rfl | rfl <;> (simp [upd] <;> omega)
  · intro k hk
    rcases (by omega : k = 0 ∨ k = 1 ∨ k = 2) with rfl | rfl | rfl <;> (simp [upd] <;> omega)
  · simp [upd] <;> omega
set_option maxRecDepth 100000 in
set_option maxHeartbeats 4000000 in
theorem wg_h1 (f : Nat → Int) (h : SB f) (hp : ∀ k, k < 3 → 0 ≤ f (3 * k) ∧ f (3 * k) < 1024) (v : Int) (v0 : 0 ≤ v) (v1 : v < 256) (hv : 128 ≤ v) (hl : v / 16 % 8 = 1) : WG f (wH f v 1) v := by
  have b0 := hp 0 (by omega)
  have b3 := hp 1 (by omega)
  have b6 := hp 2 (by omega)
  simp only [Nat.mul_zero, Nat.mul_one, Nat.reduceMul] at b0 b3 b6
  obtain ⟨h9, h12, hu, hi⟩ := h
  have b1 := hi 1 (by omega)
  have b4 := hi 4 (by omega)
  have b7 := hi 7 (by omega)
  have b10 := hi 10 (by omega)
  have b13 := hu 13 (by omega) (by omega)
  have b14 := hu 14 (by omega) (by omega)
  have b15 := hu 15 (by omega) (by omega)
  have b16 := hu 16 (by omega) (by omega)
  have b17 := hu 17 (by omega) (by omega)
  clear hp hu hi
  rw [show wH f v 1 = upd (upd f 17 1) 13 (v % 16) from rfl]
  have hv' : ¬ v < 128 := by omega
  refine ⟨by simp [upd], ?_, ?_, ?_, fun j hj => ?_, ?_, ?_, ?_⟩
  · rw [dQ4, dT3]; unfold dN; simp [upd] <;> (split <;> omega)
  · intro hh; first | omega | (simp [upd]; done)
  · intro ha hb; first | omega | (simp [upd] at hb ⊢; done) | (simp [upd] at hb; done)
  · unfold wF; rw [if_pos hv, hl]
    show upd (upd (upd (upd f 17 1) 13 (v % 16)) 17 1) 13 (v % 16) j = _
    rcases j18 hj with rfl | rfl | rfl | rfl | rfl | rfl | rfl | rfl | rfl | rfl | rfl | rfl | rfl | rfl | rfl | rfl | rfl | rfl <;> (simp [upd] <;> omega)
  · refine ⟨?_, ?_, fun j ha hb => ?_, fun j ha => ?_⟩
    · simp [upd] <;> omega
    · simp [upd] <;> omega
    · rcases (by omega : j = 13 ∨ j = 14 ∨ j = 15 ∨ j = 16 ∨ j = 17) with rfl | rfl | rfl | rfl | rfl <;> (simp [upd] <;> omega)
    · rcases ha with rfl | rfl | rfl | rfl | rfl | rfl | rfl <;> (simp [upd] <;> omega)
  · intro k hk
    rcases (by omega : k = 0 ∨ k = 1 ∨ k = 2) with rfl | rfl | rfl <;> (simp [upd] <;> omega)
  · simp [upd] <;> omega
set_option maxRecDepth 100000 in
set_option maxHeartbeats 4000000 in
theorem wg_h2 (f : Nat → Int) (h : SB f) (hp : ∀ k, k < 3 → 0 ≤ f (3 * k) ∧ f (3 * k) < 1024) (v : Int) (v0 : 0 ≤ v) (v1 : v < 256) (hv : 128 ≤ v) (hl : v / 16 % 8 = 2) : WG f (wH f v 2) v := by
  have b0 := hp 0 (by omega)
  have b3 := hp 1 (by omega)
  have b6 := hp 2 (by omega)
  simp only [Nat.mul_zero, Nat.mul_one, Nat.reduceMul] at b0 b3 b6
  obtain ⟨h9, h12, hu, hi⟩ := h
  have b1 := hi 1 (by omega)
  have b4 := hi 4 (by omega)
  have b7 := hi 7 (by omega)
  have b10 := hi 10 (by omega)
  have b13 := hu 13 (by omega) (by omega)
  have b14 := hu 14 (by omega) (by omega)
  have b15 := hu 15 (by omega) (by omega)
  have b16 := hu 16 (by omega) (by omega)
  have b17 := hu 17 (by omega) (by omega)
  clear hp hu hi
  rw [show wH f v 2 = upd (upd f 17 2) 3 (f 3 / 16 * 16 + v % 16) from rfl]
  have hv' : ¬ v < 128 := by omega
  refine ⟨by simp [upd], ?_, ?_, ?_, fun j hj => ?_, ?_, ?_, ?_⟩
  · rw [dQ4, dT3]; unfold dN; simp [upd] <;> (split <;> omega)
  · intro hh; first | omega | (simp [upd]; done)
  · intro ha hb; first | omega | (simp [upd] at hb ⊢; done) | (simp [upd] at hb; done)
  · unfold wF; rw [if_pos hv, hl]
    show upd (upd (upd (upd f 17 2) 3 (f 3 / 16 * 16 + v % 16)) 17 2) 3 ((upd (upd f 17 2) 3 (f 3 / 16 * 16 + v % 16)) 3 / 16 * 16 + v % 16) j = _
    rcases j18 hj with rfl | rfl | rfl | rfl | rfl | rfl | rfl | rfl | rfl | rfl | rfl | rfl | rfl | rfl | rfl | rfl | rfl | rfl <;> (simp [upd] <;> omega)
  · refine ⟨?_, ?_, fun j ha hb => ?_, fun j ha => ?_⟩
    · simp [upd] <;> omega
    · simp [upd] <;> omega
    · rcases (by omega : j = 13 ∨ j = 14 ∨ j = 15 ∨ j = 16 ∨ j = 17) with rfl | rfl | rfl | rfl | rfl <;> (simp [upd] <;> omega)
    · rcases ha with rfl | rfl | rfl | rfl | rfl | rfl | rfl <;> (simp [upd] <;> omega)
  · intro k hk
    rcases (by omega : k = 0 ∨ k = 1 ∨ k = 2) with rfl | rfl | rfl <;> (simp [upd] <;> omega)
  · simp [upd] <;> omega
set_option maxRecDepth 100000 in
set_option maxHeartbeats 4000000 in
theorem wg_h3 (f : Nat → Int) (h : SB f) (hp : ∀ k, k < 3 → 0 ≤ f (3 * k) ∧ f (3 * k) < 1024) (v : Int) (v0 : 0 ≤ v) (v1 : v < 256) (hv : 128 ≤ v) (hl : v / 16 % 8 = 3) : WG f (wH f v 3) v := by
  have b0 := hp 0 (by omega)
  have b3 := hp 1 (by omega)
  have b6 := hp 2 (by omega)
  simp only [Nat.mul_zero, Nat.mul_one, Nat.reduceMul] at b0 b3 b6
  obtain ⟨h9, h12, hu, hi⟩ := h
  have b1 := hi 1 (by omega)
  have b4 := hi 4 (by omega)
  have b7 := hi 7 (by omega)
  have b10 := hi 10 (by omega)
  have b13 := hu 13 (by omega) (by omega)
  have b14 := hu 14 (by omega) (by omega)
  have b15 := hu 15 (by omega) (by omega)
  have b16 := hu 16 (by omega) (by omega)
  have b17 := hu 17 (by omega) (by omega)
  clear hp hu hi
  rw [show wH f v 3 = upd (upd f 17 3) 14 (v % 16) from rfl]
  have hv' : ¬ v < 128 := by omega
  refine ⟨by simp [upd], ?_, ?_, ?_, fun j hj => ?_, ?_, ?_, ?_⟩
  · rw [dQ4, dT3]; unfold dN; simp [upd] <;> (split <;> omega)
  · intro hh; first | omega | (simp [upd]; done)
  · intro ha hb; first | omega | (simp [upd] at hb ⊢; done) | (simp [upd] at hb; done)
  · unfold wF; rw [if_pos hv, hl]
    show upd (upd (upd (upd f 17 3) 14 (v % 16)) 17 3) 14 (v % 16) j = _
    rcases j18 hj with rfl | rfl | rfl | rfl | rfl | rfl | rfl | rfl | rfl | rfl | rfl | rfl | rfl | rfl | rfl | rfl | rfl | rfl <;> (simp [upd] <;> omega)
  · refine ⟨?_, ?_, fun j ha hb => ?_, fun j ha => ?_⟩
    · simp [upd] <;> omega
    · simp [upd] <;> omega
    · rcases (by omega : j = 13 ∨ j = 14 ∨ j = 15 ∨ j = 16 ∨ j = 17) with rfl | rfl | rfl | rfl | rfl <;> (simp [upd] <;> omega)
    · rcases ha with rfl | rfl | rfl | rfl | rfl | rfl | rfl <;> (simp [upd] <;> omega)
  · intro k hk
    rcases (by omega : k = 0 ∨ k = 1 ∨ k = 2) with rfl | rfl | rfl <;> (simp [upd] <;> omega)
  · simp [upd] <;> omega
set_option maxRecDepth 100000 in
set_option maxHeartbeats 4000000 in
theorem wg_h4 (f : Nat → Int) (h : SB f) (hp : ∀ k, k < 3 → 0 ≤ f (3 * k) ∧ f (3 * k) < 1024) (v : Int) (v0 : 0 ≤ v) (v1 : v < 256) (hv : 128 ≤ v) (hl : v / 16 % 8 = 4) : WG f (wH f v 4) v := by
  have b0 := hp 0 (by omega)
  have b3 := hp 1 (by omega)
  have b6 := hp 2 (by omega)
  simp only [Nat.mul_zero, Nat.mul_one, Nat.reduceMul] at b0 b3 b6
  obtain ⟨h9, h12, hu, hi⟩ := h
  have b1 := hi 1 (by omega)
  have b4 := hi 4 (by omega)
  have b7 := hi 7 (by omega)
  have b10 := hi 10 (by omega)
  have b13 := hu 13 (by omega) (by omega)
  have b14 := hu 14 (by omega) (by omega)
  have b15 := hu 15 (by omega) (by omega)
  have b16 := hu 16 (by omega) (by omega)
  have b17 := hu 17 (by omega) (by omega)
  clear hp hu hi
  rw [show wH f v 4 = upd (upd f 17 4) 6 (f 6 / 16 * 16 + v % 16) from rfl]
  have hv' : ¬ v < 128 := by omega
  refine ⟨by simp [upd], ?_, ?_, ?_, fun j hj => ?_, ?_, ?_, ?_⟩
  · rw [dQ4, dT3]; unfold dN; simp [upd] <;> (split <;> omega)
  · intro hh; first | omega | (simp [upd]; done)
  · intro ha hb; first | omega | (simp [upd] at hb ⊢; done) | (simp [upd] at hb; done)
  · unfold wF; rw [if_pos hv, hl]
    show upd (upd (upd (upd f 17 4) 6 (f 6 / 16 * 16 + v % 16)) 17 4) 6 ((upd (upd f 17 4) 6 (f 6 / 16 * 16 + v % 16)) 6 / 16 * 16 + v % 16) j = _
    rcases j18 hj with rfl | rfl | rfl | rfl | rfl | rfl | rfl | rfl | rfl | rfl | rfl | rfl | rfl | rfl | rfl | rfl | rfl | rfl <;> (simp [upd] <;> omega)
  · refine ⟨?_, ?_, fun j ha hb => ?_, fun j ha => ?_⟩
    · simp [upd] <;> omega
    · simp [upd] <;> omega
    · rcases (by omega : j = 13 ∨ j = 14 ∨ j = 15 ∨ j = 16 ∨ j = 17) with rfl | rfl | rfl | rfl | rfl <;> (simp [upd] <;> omega)
    · rcases ha with rfl | rfl | rfl | rfl | rfl | rfl | rfl <;> (simp [upd] <;> omega)
  · intro k hk
    rcases (by omega : k = 0 ∨ k = 1 ∨ k = 2) with rfl | rfl | rfl <;> (simp [upd] <;> omega)
  · simp [upd] <;> omega
set_option maxRecDepth 100000 in
set_option maxHeartbeats 4000000 in
theorem wg_h5 (f : Nat → Int) (h : SB f) (hp : ∀ k, k < 3 → 0 ≤ f (3 * k) ∧ f (3 * k) < 1024) (v : Int) (v0 : 0 ≤ v) (v1 : v < 256) (hv : 128 ≤ v) (hl : v / 16 % 8 = 5) : WG f (wH f v 5) v := by
  have b0 := hp 0 (by omega)
  have b3 := hp 1 (by omega)
  have b6 := hp 2 (by omega)
  simp only [Nat.mul_zero, Nat.mul_one, Nat.reduceMul] at b0 b3 b6
  obtain ⟨h9, h12, hu, hi⟩ := h
  have b1 := hi 1 (by omega)
  have b4 := hi 4 (by omega)
  have b7 := hi 7 (by omega)
  have b10 := hi 10 (by omega)
  have b13 := hu 13 (by omega) (by omega)
  have b14 := hu 14 (by omega) (by omega)
  have b15 := hu 15 (by omega) (by omega)
  have b16 := hu 16 (by omega) (by omega)
  have b17 := hu 17 (by omega) (by omega)
  clear hp hu hi
  rw [show wH f v 5 = upd (upd f 17 5) 15 (v % 16) from rfl]
  have hv' : ¬ v < 128 := by omega
  refine ⟨by simp [upd], ?_, ?_, ?_, fun j hj => ?_, ?_, ?_, ?_⟩
  · rw [dQ4, dT3]; unfold dN; simp [upd] <;> (split <;> omega)
  · intro hh; first | omega | (simp [upd]; done)
  · intro ha hb; first | omega | (simp [upd] at hb ⊢; done) | (simp [upd] at hb; done)
  · unfold wF; rw [if_pos hv, hl]
    show upd (upd (upd (upd f 17 5) 15 (v % 16)) 17 5) 15 (v % 16) j = _
    rcases j18 hj with rfl | rfl | rfl | rfl | rfl | rfl | rfl | rfl | rfl | rfl | rfl | rfl | rfl | rfl | rfl | rfl | rfl | rfl <;> (simp [upd] <;> omega)
  · refine ⟨?_, ?_, fun j ha hb => ?_, fun j ha => ?_⟩
    · simp [upd] <;> omega
    · simp [upd] <;> omega
    · rcases (by omega : j = 13 ∨ j = 14 ∨ j = 15 ∨ j = 16 ∨ j = 17) with rfl | rfl | rfl | rfl | rfl <;> (simp [upd] <;> omega)
    · rcases ha with rfl | rfl | rfl | rfl | rfl | rfl | rfl <;> (simp [upd] <;> omega)
  · intro k hk
    rcases (by omega : k = 0 ∨ k = 1 ∨ k = 2) with rfl | rfl | rfl <;> (simp [upd] <;> omega)
  · simp [upd] <;> omega
set_option maxRecDepth 100000 in
set_option maxHeartbeats 4000000 in
theorem wg_h6 (f : Nat → Int) (h : SB f) (hp : ∀ k, k < 3 → 0 ≤ f (3 * k) ∧ f (3 * k) < 1024) (v : Int) (v0 : 0 ≤ v) (v1 : v < 256) (hv : 128 ≤ v) (hl : v / 16 % 8 = 6) : WG f (wH f v 6) v := by
  have b0 := hp 0 (by omega)
  have b3 := hp 1 (by omega)
  have b6 := hp 2 (by omega)
  simp only [Nat.mul_zero, Nat.mul_one, Nat.reduceMul] at b0 b3 b6
  obtain ⟨h9, h12, hu, hi⟩ := h
  have b1 := hi 1 (by omega)
  have b4 := hi 4 (by omega)
  have b7 := hi 7 (by omega)
  have b10 := hi 10 (by omega)
  have b13 := hu 13 (by omega) (by omega)
  have b14 := hu 14 (by omega) (by omega)
  have b15 := hu 15 (by omega) (by omega)
  have b16 := hu 16 (by omega) (by omega)
  have b17 := hu 17 (by omega) (by omega)
  clear hp hu hi
  rw [show wH f v 6 = upd (upd (upd (upd (upd f 17 6) 9 (v % 8)) 10 (f 10)) 11 (f 11)) 12 32768 from rfl]
  have hv' : ¬ v < 128 := by omega
  refine ⟨by simp [upd], ?_, ?_, ?_, fun j hj => ?_, ?_, ?_, ?_⟩
  · rw [dQ4, dT3]; unfold dN; simp [upd] <;> (split <;> omega)
  · intro hh; first | omega | (simp [upd]; done)
  · intro ha hb; first | omega | (simp [upd] at hb ⊢; done) | (simp [upd] at hb; done)
  · unfold wF; rw [if_pos hv, hl]
    show wH (upd (upd (upd (upd (upd f 17 6) 9 (v % 8)) 10 (f 10)) 11 (f 11)) 12 32768) v 6 j = _
    show upd (upd (upd (upd (upd (upd (upd (upd (upd (upd f 17 6) 9 (v % 8)) 10 (f 10)) 11 (f 11)) 12 32768) 17 6) 9 (v % 8)) 10 ((upd (upd (upd (upd (upd f 17 6) 9 (v % 8)) 10 (f 10)) 11 (f 11)) 12 32768) 10)) 11 ((upd (upd (upd (upd (upd f 17 6) 9 (v % 8)) 10 (f 10)) 11 (f 11)) 12 32768) 11)) 12 32768 j = _
    rcases j18 hj with rfl | rfl | rfl | rfl | rfl | rfl | rfl | rfl | rfl | rfl | rfl | rfl | rfl | rfl | rfl | rfl | rfl | rfl <;> (simp [upd] <;> omega)
  · refine ⟨?_, ?_, fun j ha hb => ?_, fun j ha => ?_⟩
    · simp [upd] <;> omega
    · simp [upd] <;> omega
    · rcases (by omega : j = 13 ∨ j = 14 ∨ j = 15 ∨ j = 16 ∨ j = 17) with rfl | rfl | rfl | rfl | rfl <;> (simp [upd] <;> omega)
    · rcases ha with rfl | rfl | rfl | rfl | rfl | rfl | rfl <;> (simp [upd] <;> omega)
  · intro k hk
    rcases (by omega : k = 0 ∨ k = 1 ∨ k = 2) with rfl | rfl | rfl <;> (simp [upd] <;> omega)
  · simp [upd] <;> omega
set_option maxRecDepth 100000 in
set_option maxHeartbeats 4000000 in
theorem wg_h7 (f : Nat → Int) (h : SB f) (hp : ∀ k, k < 3 → 0 ≤ f (3 * k) ∧ f (3 * k) < 1024) (v : Int) (v0 : 0 ≤ v) (v1 : v < 256) (hv : 128 ≤ v) (hl : v / 16 % 8 = 7) : WG f (wH f v 7) v := by
  have b0 := hp 0 (by omega)
  have b3 := hp 1 (by omega)
  have b6 := hp 2 (by omega)
  simp only [Nat.mul_zero, Nat.mul_one, Nat.reduceMul] at b0 b3 b6
  obtain ⟨h9, h12, hu, hi⟩ := h
  have b1 := hi 1 (by omega)
  have b4 := hi 4 (by omega)
  have b7 := hi 7 (by omega)
  have b10 := hi 10 (by omega)
  have b13 := hu 13 (by omega) (by omega)
  have b14 := hu 14 (by omega) (by omega)
  have b15 := hu 15 (by omega) (by omega)
  have b16 := hu 16 (by omega) (by omega)
  have b17 := hu 17 (by omega) (by omega)
  clear hp hu hi
  rw [show wH f v 7 = upd (upd f 17 7) 16 (v % 16) from rfl]
  have hv' : ¬ v < 128 := by omega
  refine ⟨by simp [upd], ?_, ?_, ?_, fun j hj => ?_, ?_, ?_, ?_⟩
  · rw [dQ4, dT3]; unfold dN; simp [upd] <;> (split <;> omega)
  · intro hh; first | omega | (simp [upd]; done)
  · intro ha hb; first | omega | (simp [upd] at hb ⊢; done) | (simp [upd] at hb; done)
  · unfold wF; rw [if_pos hv, hl]
    show upd (upd (upd (upd f 17 7) 16 (v % 16)) 17 7) 16 (v % 16) j = _
    rcases j18 hj with rfl | rfl | rfl | rfl | rfl | rfl | rfl | rfl | rfl | rfl | rfl | rfl | rfl | rfl | rfl | rfl | rfl | rfl <;> (simp [upd] <;> omega)
  · refine ⟨?_, ?_, fun j ha hb => ?_, fun j ha => ?_⟩
    · simp [upd] <;> omega
    · simp [upd] <;> omega
    · rcases (by omega : j = 13 ∨ j = 14 ∨ j = 15 ∨ j = 16 ∨ j = 17) with rfl | rfl | rfl | rfl | rfl <;> (simp [upd] <;> omega)
    · rcases ha with rfl | rfl | rfl | rfl | rfl | rfl | rfl <;> (simp [upd] <;> omega)
  · intro k hk
    rcases (by omega : k = 0 ∨ k = 1 ∨ k = 2) with rfl | rfl | rfl <;> (simp [upd] <;> omega)
  · simp [upd] <;> omega
set_option maxRecDepth 100000 in
set_option maxHeartbeats 4000000 in
theorem wg_l0 (f : Nat → Int) (h : SB f) (hp : ∀ k, k < 3 → 0 ≤ f (3 * k) ∧ f (3 * k) < 1024) (v : Int) (v0 : 0 ≤ v) (v1 : v < 256) (hv : v < 128) (hl : f 17 = 0) : WG f (wL f v 0) v := by
  have b0 := hp 0 (by omega)
  have b3 := hp 1 (by omega)
  have b6 := hp 2 (by omega)
  simp only [Nat.mul_zero, Nat.mul_one, Nat.reduceMul] at b0 b3 b6
  obtain ⟨h9, h12, hu, hi⟩ := h
  have b1 := hi 1 (by omega)
  have b4 := hi 4 (by omega)
  have b7 := hi 7 (by omega)
  have b10 := hi 10 (by omega)
  have b13 := hu 13 (by omega) (by omega)
  have b14 := hu 14 (by omega) (by omega)
  have b15 := hu 15 (by omega) (by omega)
  have b16 := hu 16 (by omega) (by omega)
  have b17 := hu 17 (by omega) (by omega)
  clear hp hu hi
  rw [show wL f v 0 = upd f 0 (f 0 % 16 + v % 64 * 16) from rfl]
  have hv' : ¬ 128 ≤ v := by omega
  refine ⟨by simp [upd], ?_, ?_, ?_, fun j hj => ?_, ?_, ?_, ?_⟩
  · rw [dQ4, dT3]; unfold dN; simp [upd] <;> (split <;> omega)
  · intro hh; first | omega | (simp [upd]; done)
  · intro ha hb; first | omega | (simp [upd] at hb ⊢; done) | (simp [upd] at hb; done)
  · unfold wF; rw [if_neg hv', show (upd f 0 (f 0 % 16 + v % 64 * 16)) 17 = 0 by simpa [upd] using hl]
    show upd (upd f 0 (f 0 % 16 + v % 64 * 16)) 0 ((upd f 0 (f 0 % 16 + v % 64 * 16)) 0 % 16 + v % 64 * 16) j = _
    rcases j18 hj with rfl | rfl | rfl | rfl | rfl | rfl | rfl | rfl | rfl | rfl | rfl | rfl | rfl | rfl | rfl | rfl | rfl | rfl <;> (simp [upd] <;> omega)
  · refine ⟨?_, ?_, fun j ha hb => ?_, fun j ha => ?_⟩
    · simp [upd] <;> omega
    · simp [upd] <;> omega
    · rcases (by omega : j = 13 ∨ j = 14 ∨ j = 15 ∨ j = 16 ∨ j = 17) with rfl | rfl | rfl | rfl | rfl <;> (simp [upd] <;> omega)
    · rcases ha with rfl | rfl | rfl | rfl | rfl | rfl | rfl <;> (simp [upd] <;> omega)
  · intro k hk
    rcases (by omega : k = 0 ∨ k = 1 ∨ k = 2) with rfl | rfl | rfl <;> (simp [upd] <;> omega)
  · simp [upd] <;> omega
set_option maxRecDepth 100000 in
set_option maxHeartbeats 4000000 in
theorem wg_l1 (f : Nat → Int) (h : SB f) (hp : ∀ k, k < 3 → 0 ≤ f (3 * k) ∧ f (3 * k) < 1024) (v : Int) (v0 : 0 ≤ v) (v1 : v < 256) (hv : v < 128) (hl : f 17 = 1) : WG f (wL f v 1) v := by
  have b0 := hp 0 (by omega)
  have b3 := hp 1 (by omega)
  have b6 := hp 2 (by omega)
  simp only [Nat.mul_zero, Nat.mul_one, Nat.reduceMul] at b0 b3 b6
  obtain ⟨h9, h12, hu, hi⟩ := h
  have b1 := hi 1 (by omega)
  have b4 := hi 4 (by omega)
  have b7 := hi 7 (by omega)
  have b10 := hi 10 (by omega)
  have b13 := hu 13 (by omega) (by omega)
  have b14 := hu 14 (by omega) (by omega)
  have b15 := hu 15 (by omega) (by omega)
  have b16 := hu 16 (by omega) (by omega)
  have b17 := hu 17 (by omega) (by omega)
  clear hp hu hi
  rw [show wL f v 1 = upd f 13 (v % 16) from rfl]
  have hv' : ¬ 128 ≤ v := by omega
  refine ⟨by simp [upd], ?_, ?_, ?_, fun j hj => ?_, ?_, ?_, ?_⟩
  · rw [dQ4, dT3]; unfold dN; simp [upd] <;> (split <;> omega)
  · intro hh; first | omega | (simp [upd]; done)
  · intro ha hb; first | omega | (simp [upd] at hb ⊢; done) | (simp [upd] at hb; done)
  · unfold wF; rw [if_neg hv', show (upd f 13 (v % 16)) 17 = 1 by simpa [upd] using hl]
    show upd (upd f 13 (v % 16)) 13 (v % 16) j = _
    rcases j18 hj with rfl | rfl | rfl | rfl | rfl | rfl | rfl | rfl | rfl | rfl | rfl | rfl | rfl | rfl | rfl | rfl | rfl | rfl <;> (simp [upd] <;> omega)
  · refine ⟨?_, ?_, fun j ha hb => ?_, fun j ha => ?_⟩
    · simp [upd] <;> omega
    · simp [upd] <;> omega
    · rcases (by omega : j = 13 ∨ j = 14 ∨ j = 15 ∨ j = 16 ∨ j = 17) with rfl | rfl | rfl | rfl | rfl <;> (simp [upd] <;> omega)
    · rcases ha with rfl | rfl | rfl | rfl | rfl | rfl | rfl <;> (simp [upd] <;> omega)
  · intro k hk
    rcases (by omega : k = 0 ∨ k = 1 ∨ k = 2) with rfl | rfl | rfl <;> (simp [upd] <;> omega)
  · simp [upd] <;> omega
set_option maxRecDepth 100000 in
set_option maxHeartbeats 4000000 in
theorem wg_l2 (f : Nat → Int) (h : SB f) (hp : ∀ k, k < 3 → 0 ≤ f (3 * k) ∧ f (3 * k) < 1024) (v : Int) (v0 : 0 ≤ v) (v1 : v < 256) (hv : v < 128) (hl : f 17 = 2) : WG f (wL f v 2) v := by
  have b0 := hp 0 (by omega)
  have b3 := hp 1 (by omega)
  have b6 := hp 2 (by omega)
  simp only [Nat.mul_zero, Nat.mul_one, Nat.reduceMul] at b0 b3 b6
  obtain ⟨h9, h12, hu, hi⟩ := h
  have b1 := hi 1 (by omega)
  have b4 := hi 4 (by omega)
  have b7 := hi 7 (by omega)
  have b10 := hi 10 (by omega)
  have b13 := hu 13 (by omega) (by omega)
  have b14 := hu 14 (by omega) (by omega)
  have b15 := hu 15 (by omega) (by omega)
  have b16 := hu 16 (by omega) (by omega)
  have b17 := hu 17 (by omega) (by omega)
  clear hp hu hi
  rw [show wL f v 2 = upd f 3 (f 3 % 16 + v % 64 * 16) from rfl]
  have hv' : ¬ 128 ≤ v := by omega
  refine ⟨by simp [upd], ?_, ?_, ?_, fun j hj => ?_, ?_, ?_, ?_⟩
  · rw [dQ4, dT3]; unfold dN; simp [upd] <;> (split <;> omega)
  · intro hh; first | omega | (simp [upd]; done)
  · intro ha hb; first | omega | (simp [upd] at hb ⊢; done) | (simp [upd] at hb; done)
  · unfold wF; rw [if_neg hv', show (upd f 3 (f 3 % 16 + v % 64 * 16)) 17 = 2 by simpa [upd] using hl]
    show upd (upd f 3 (f 3 % 16 + v % 64 * 16)) 3 ((upd f 3 (f 3 % 16 + v % 64 * 16)) 3 % 16 + v % 64 * 16) j = _
    rcases j18 hj with rfl | rfl | rfl | rfl | rfl | rfl | rfl | rfl | rfl | rfl | rfl | rfl | rfl | rfl | rfl | rfl | rfl | rfl <;> (simp [upd] <;> omega)
  · refine ⟨?_, ?_, fun j ha hb => ?_, fun j ha => ?_⟩
    · simp [upd] <;> omega
    · simp [upd] <;> omega
    · rcases (by omega : j = 13 ∨ j = 14 ∨ j = 15 ∨ j = 16 ∨ j = 17) with rfl | rfl | rfl | rfl | rfl <;> (simp [upd] <;> omega)
    · rcases ha with rfl | rfl | rfl | rfl | rfl | rfl | rfl <;> (simp [upd] <;> omega)
  · intro k hk
    rcases (by omega : k = 0 ∨ k = 1 ∨ k = 2) with rfl | rfl | rfl <;> (simp [upd] <;> omega)
  · simp [upd] <;> omega
set_option maxRecDepth 100000 in
set_option maxHeartbeats 4000000 in
theorem wg_l3 (f : Nat → Int) (h : SB f) (hp : ∀ k, k < 3 → 0 ≤ f (3 * k) ∧ f (3 * k) < 1024) (v : Int) (v0 : 0 ≤ v) (v1 : v < 256) (hv : v < 128) (hl : f 17 = 3) : WG f (wL f v 3) v := by
  have b0 := hp 0 (by omega)
  have b3 := hp 1 (by omega)
  have b6 := hp 2 (by omega)
  simp only [Nat.mul_zero, Nat.mul_one, Nat.reduceMul] at b0 b3 b6
  obtain ⟨h9, h12, hu, hi⟩ := h
  have b1 := hi 1 (by omega)
  have b4 := hi 4 (by omega)
  have b7 := hi 7 (by omega)
  have b10 := hi 10 (by omega)
  have b13 := hu 13 (by omega) (by omega)
  have b14 := hu 14 (by omega) (by omega)
  have b15 := hu 15 (by omega) (by omega)
  have b16 := hu 16 (by omega) (by omega)
  have b17 := hu 17 (by omega) (by omega)
  clear hp hu hi
  rw [show wL f v 3 = upd f 14 (v % 16) from rfl]
  have hv' : ¬ 128 ≤ v := by omega
  refine ⟨by simp [upd], ?_, ?_, ?_, fun j hj => ?_, ?_, ?_, ?_⟩
  · rw [dQ4, dT3]; unfold dN; simp [upd] <;> (split <;> omega)
  · intro hh; first | omega | (simp [upd]; done)
  · intro ha hb; first | omega | (simp [upd] at hb ⊢; done) | (simp [upd] at hb; done)
  · unfold wF; rw [if_neg hv', show (upd f 14 (v % 16)) 17 = 3 by simpa [upd] using hl]
    show upd (upd f 14 (v % 16)) 14 (v % 16) j = _
    rcases j18 hj with rfl | rfl | rfl | rfl | rfl | rfl | rfl | rfl | rfl | rfl | rfl | rfl | rfl | rfl | rfl | rfl | rfl | rfl <;> (simp [upd] <;> omega)
  · refine ⟨?_, ?_, fun j ha hb => ?_, fun j ha => ?_⟩
    · simp [upd] <;> omega
    · simp [upd] <;> omega
    · rcases (by omega : j = 13 ∨ j = 14 ∨ j = 15 ∨ j = 16 ∨ j = 17) with rfl | rfl | rfl | rfl | rfl <;> (simp [upd] <;> omega)
    · rcases ha with rfl | rfl | rfl | rfl | rfl | rfl | rfl <;> (simp [upd] <;> omega)
  · intro k hk
    rcases (by omega : k = 0 ∨ k = 1 ∨ k = 2) with rfl | rfl | rfl <;> (simp [upd] <;> omega)
  · simp [upd] <;> omega
set_option maxRecDepth 100000 in
set_option maxHeartbeats 4000000 in
theorem wg_l4 (f : Nat → Int) (h : SB f) (hp : ∀ k, k < 3 → 0 ≤ f (3 * k) ∧ f (3 * k) < 1024) (v : Int) (v0 : 0 ≤ v) (v1 : v < 256) (hv : v < 128) (hl : f 17 = 4) : WG f (wL f v 4) v := by
  have b0 := hp 0 (by omega)
  have b3 := hp 1 (by omega)
  have b6 := hp 2 (by omega)
  simp only [Nat.mul_zero, Nat.mul_one, Nat.reduceMul] at b0 b3 b6
  obtain ⟨h9, h12, hu, hi⟩ := h
  have b1 := hi 1 (by omega)
  have b4 := hi 4 (by omega)
  have b7 := hi 7 (by omega)
  have b10 := hi 10 (by omega)
  have b13 := hu 13 (by omega) (by omega)
  have b14 := hu 14 (by omega) (by omega)
  have b15 := hu 15 (by omega) (by omega)
  have b16 := hu 16 (by omega) (by omega)
  have b17 := hu 17 (by omega) (by omega)
  clear hp hu hi
  rw [show wL f v 4 = upd f 6 (f 6 % 16 + v % 64 * 16) from rfl]
  have hv' : ¬ 128 ≤ v := by omega
  refine ⟨by simp [upd], ?_, ?_, ?_, fun j hj => ?_, ?_, ?_, ?_⟩
  · rw [dQ4, dT3]; unfold dN; simp [upd] <;> (split <;> omega)
  · intro hh; first | omega | (simp [upd]; done)
  · intro ha hb; first | omega | (simp [upd] at hb ⊢; done) | (simp [upd] at hb; done)
  · unfold wF; rw [if_neg hv', show (upd f 6 (f 6 % 16 + v % 64 * 16)) 17 = 4 by simpa [upd] using hl]
    show upd (upd f 6 (f 6 % 16 + v % 64 * 16)) 6 ((upd f 6 (f 6 % 16 + v % 64 * 16)) 6 % 16 + v % 64 * 16) j = _
    rcases j18 hj with rfl | rfl | rfl | rfl | rfl | rfl | rfl | rfl | rfl | rfl | rfl | rfl | rfl | rfl | rfl | rfl | rfl | rfl <;> (simp [upd] <;> omega)
  · refine ⟨?_, ?_, fun j ha hb => ?_, fun j ha => ?_⟩
    · simp [upd] <;> omega
    · simp [upd] <;> omega
    · rcases (by omega : j = 13 ∨ j = 14 ∨ j = 15 ∨ j = 16 ∨ j = 17) with rfl | rfl | rfl | rfl | rfl <;> (simp [upd] <;> omega)
    · rcases ha with rfl | rfl | rfl | rfl | rfl | rfl | rfl <;> (simp [upd] <;> omega)
  · intro k hk
    rcases (by omega : k = 0 ∨ k = 1 ∨ k = 2) with rfl | rfl | rfl <;> (simp [upd] <;> omega)
  · simp [upd] <;> omega
set_option maxRecDepth 100000 in
set_option maxHeartbeats 4000000 in
theorem wg_l5 (f : Nat → Int) (h : SB f) (hp : ∀ k, k < 3 → 0 ≤ f (3 * k) ∧ f (3 * k) < 1024) (v : Int) (v0 : 0 ≤ v) (v1 : v < 256) (hv : v < 128) (hl : f 17 = 5) : WG f (wL f v 5) v := by
  have b0 := hp 0 (by omega)
  have b3 := hp 1 (by omega)
  have b6 := hp 2 (by omega)
  simp only [Nat.mul_zero, Nat.mul_one, Nat.reduceMul] at b0 b3 b6
  obtain ⟨h9, h12, hu, hi⟩ := h
  have b1 := hi 1 (by omega)
  have b4 := hi 4 (by omega)
  have b7 := hi 7 (by omega)
  have b10 := hi 10 (by omega)
  have b13 := hu 13 (by omega) (by omega)
  have b14 := hu 14 (by omega) (by omega)
  have b15 := hu 15 (by omega) (by omega)
  have b16 := hu 16 (by omega) (by omega)
  have b17 := hu 17 (by omega) (by omega)
  clear hp hu hi
  rw [show wL f v 5 = upd f 15 (v % 16) from rfl]
  have hv' : ¬ 128 ≤ v := by omega
  refine ⟨by simp [upd], ?_, ?_, ?_, fun j hj => ?_, ?_, ?_, ?_⟩
  · rw [dQ4, dT3]; unfold dN; simp [upd] <;> (split <;> omega)
  · intro hh; first | omega | (simp [upd]; done)
  · intro ha hb; first | omega | (simp [upd] at hb ⊢; done) | (simp [upd] at hb; done)
  · unfold wF; rw [if_neg hv', show (upd f 15 (v % 16)) 17 = 5 by simpa [upd] using hl]
    show upd (upd f 15 (v % 16)) 15 (v % 16) j = _
    rcases j18 hj with rfl | rfl | rfl | rfl | rfl | rfl | rfl | rfl | rfl | rfl | rfl | rfl | rfl | rfl | rfl | rfl | rfl | rfl <;> (simp [upd] <;> omega)
  · refine ⟨?_, ?_, fun j ha hb => ?_, fun j ha => ?_⟩
    · simp [upd] <;> omega
    · simp [upd] <;> omega
    · rcases (by omega : j = 13 ∨ j = 14 ∨ j = 15 ∨ j = 16 ∨ j = 17) with rfl | rfl | rfl | rfl | rfl <;> (simp [upd] <;> omega)
    · rcases ha with rfl | rfl | rfl | rfl | rfl | rfl | rfl <;> (simp [upd] <;> omega)
  · intro k hk
    rcases (by omega : k = 0 ∨ k = 1 ∨ k = 2) with rfl | rfl | rfl <;> (simp [upd] <;> omega)
  · simp [upd] <;> omega
set_option maxRecDepth 100000 in
set_option maxHeartbeats 4000000 in
theorem wg_l6 (f : Nat → Int) (h : SB f) (hp : ∀ k, k < 3 → 0 ≤ f (3 * k) ∧ f (3 * k) < 1024) (v : Int) (v0 : 0 ≤ v) (v1 : v < 256) (hv : v < 128) (hl : f 17 = 6) : WG f (wL f v 6) v := by
  have b0 := hp 0 (by omega)
  have b3 := hp 1 (by omega)
  have b6 := hp 2 (by omega)
  simp only [Nat.mul_zero, Nat.mul_one, Nat.reduceMul] at b0 b3 b6
  obtain ⟨h9, h12, hu, hi⟩ := h
  have b1 := hi 1 (by omega)
  have b4 := hi 4 (by omega)
  have b7 := hi 7 (by omega)
  have b10 := hi 10 (by omega)
  have b13 := hu 13 (by omega) (by omega)
  have b14 := hu 14 (by omega) (by omega)
  have b15 := hu 15 (by omega) (by omega)
  have b16 := hu 16 (by omega) (by omega)
  have b17 := hu 17 (by omega) (by omega)
  clear hp hu hi
  rw [show wL f v 6 = upd (upd (upd (upd f 9 (v % 8)) 10 (f 10)) 11 (f 11)) 12 32768 from rfl]
  have hv' : ¬ 128 ≤ v := by omega
  refine ⟨by simp [upd], ?_, ?_, ?_, fun j hj => ?_, ?_, ?_, ?_⟩
  · rw [dQ4, dT3]; unfold dN; simp [upd] <;> (split <;> omega)
  · intro hh; first | omega | (simp [upd]; done)
  · intro ha hb; first | omega | (simp [upd] at hb ⊢; done) | (simp [upd] at hb; done)
  · unfold wF; rw [if_neg hv', show (upd (upd (upd (upd f 9 (v % 8)) 10 (f 10)) 11 (f 11)) 12 32768) 17 = 6 by simpa [upd] using hl]
    show wL (upd (upd (upd (upd f 9 (v % 8)) 10 (f 10)) 11 (f 11)) 12 32768) v 6 j = _
    show upd (upd (upd (upd (upd (upd (upd (upd f 9 (v % 8)) 10 (f 10)) 11 (f 11)) 12 32768) 9 (v % 8)) 10 ((upd (upd (upd (upd f 9 (v % 8)) 10 (f 10)) 11 (f 11)) 12 32768) 10)) 11 ((upd (upd (upd (upd f 9 (v % 8)) 10 (f 10)) 11 (f 11)) 12 32768) 11)) 12 32768 j = _
    rcases j18 hj with rfl | rfl | rfl | rfl | rfl | rfl | rfl | rfl | rfl | rfl | rfl | rfl | rfl | rfl | rfl | rfl | rfl | rfl <;> (simp [upd] <;> omega)
  · refine ⟨?_, ?_, fun j ha hb => ?_, fun j ha => ?_⟩
    · simp [upd] <;> omega
    · simp [upd] <;> omega
    · rcases (by omega : j = 13 ∨ j = 14 ∨ j = 15 ∨ j = 16 ∨ j = 17) with rfl | rfl | rfl | rfl | rfl <;> (simp [upd] <;> omega)
    · rcases ha with rfl | rfl | rfl | rfl | rfl | rfl | rfl <;> (simp [upd] <;> omega)
  · intro k hk
    rcases (by omega : k = 0 ∨ k = 1 ∨ k = 2) with rfl | rfl | rfl <;> (simp [upd] <;> omega)
  · simp [upd] <;> omega
set_option maxRecDepth 100000 in
set_option maxHeartbeats 4000000 in
theorem wg_l7 (f : Nat → Int) (h : SB f) (hp : ∀ k, k < 3 → 0 ≤ f (3 * k) ∧ f (3 * k) < 1024) (v : Int) (v0 : 0 ≤ v) (v1 : v < 256) (hv : v < 128) (hl : f 17 = 7) : WG f (wL f v 7) v := by
  have b0 := hp 0 (by omega)
  have b3 := hp 1 (by omega)
  have b6 := hp 2 (by omega)
  simp only [Nat.mul_zero, Nat.mul_one, Nat.reduceMul] at b0 b3 b6
  obtain ⟨h9, h12, hu, hi⟩ := h
  have b1 := hi 1 (by omega)
  have b4 := hi 4 (by omega)
  have b7 := hi 7 (by omega)
  have b10 := hi 10 (by omega)
  have b13 := hu 13 (by omega) (by omega)
  have b14 := hu 14 (by omega) (by omega)
  have b15 := hu 15 (by omega) (by omega)
  have b16 := hu 16 (by omega) (by omega)
  have b17 := hu 17 (by omega) (by omega)
  clear hp hu hi
  rw [show wL f v 7 = upd f 16 (v % 16) from rfl]
  have hv' : ¬ 128 ≤ v := by omega
  refine ⟨by simp [upd], ?_, ?_, ?_, fun j hj => ?_, ?_, ?_, ?_⟩
  · rw [dQ4, dT3]; unfold dN; simp [upd] <;> (split <;> omega)
  · intro hh; first | omega | (simp [upd]; done)
  · intro ha hb; first | omega | (simp [upd] at hb ⊢; done) | (simp [upd] at hb; done)
  · unfold wF; rw [if_neg hv', show (upd f 16 (v % 16)) 17 = 7 by simpa [upd] using hl]
    show upd (upd f 16 (v % 16)) 16 (v % 16) j = _
    rcases j18 hj with rfl | rfl | rfl | rfl | rfl | rfl | rfl | rfl | rfl | rfl | rfl | rfl | rfl | rfl | rfl | rfl | rfl | rfl <;> (simp [upd] <;> omega)
  · refine ⟨?_, ?_, fun j ha hb => ?_, fun j ha => ?_⟩
    · simp [upd] <;> omega
    · simp [upd] <;> omega
    · rcases (by omega : j = 13 ∨ j = 14 ∨ j = 15 ∨ j = 16 ∨ j = 17) with rfl | rfl | rfl | rfl | rfl <;> (simp [upd] <;> omega)
    · rcases ha with rfl | rfl | rfl | rfl | rfl | rfl | rfl <;> (simp [upd] <;> omega)
  · intro k hk
    rcases (by omega : k = 0 ∨ k = 1 ∨ k = 2) with rfl | rfl | rfl <;> (simp [upd] <;> omega)
  · simp [upd] <;> omega
theorem wg_any (f : Nat → Int) (h : SB f) (hp : ∀ k, k < 3 → 0 ≤ f (3 * k) ∧ f (3 * k) < 1024) (hl : f 17 < 8) (v : Int) (v0 : 0 ≤ v) (v1 : v < 256) : WG f (wF f v) v := by
  have l0 := (h.2.2.1 17 (by omega) (by omega)).1
  unfold wF
  by_cases hv : 128 ≤ v
  · rw [if_pos hv]
    rcases (by omega : v / 16 % 8 = 0 ∨ v / 16 % 8 = 1 ∨ v / 16 % 8 = 2 ∨ v / 16 % 8 = 3 ∨ v / 16 % 8 = 4 ∨ v / 16 % 8 = 5 ∨ v / 16 % 8 = 6 ∨ v / 16 % 8 = 7) with e | e | e | e | e | e | e | e
    · rw [e]; exact wg_h0 f h hp v v0 v1 hv e
    · rw [e]; exact wg_h1 f h hp v v0 v1 hv e
    · rw [e]; exact wg_h2 f h hp v v0 v1 hv e
    · rw [e]; exact wg_h3 f h hp v v0 v1 hv e
    · rw [e]; exact wg_h4 f h hp v v0 v1 hv e
    · rw [e]; exact wg_h5 f h hp v v0 v1 hv e
    · rw [e]; exact wg_h6 f h hp v v0 v1 hv e
    · rw [e]; exact wg_h7 f h hp v v0 v1 hv e
  · rw [if_neg hv]
    rcases (by omega : f 17 = 0 ∨ f 17 = 1 ∨ f 17 = 2 ∨ f 17 = 3 ∨ f 17 = 4 ∨ f 17 = 5 ∨ f 17 = 6 ∨ f 17 = 7) with e | e | e | e | e | e | e | e
    · rw [e]; exact wg_l0 f h hp v v0 v1 (by omega) e
    · rw [e]; exact wg_l1 f h hp v v0 v1 (by omega) e
    · rw [e]; exact wg_l2 f h hp v v0 v1 (by omega) e
    · rw [e]; exact wg_l3 f h hp v v0 v1 (by omega) e
    · rw [e]; exact wg_l4 f h hp v v0 v1 (by omega) e
    · rw [e]; exact wg_l5 f h hp v v0 v1 (by omega) e
    · rw [e]; exact wg_l6 f h hp v v0 v1 (by omega) e
    · rw [e]; exact wg_l7 f h hp v v0 v1 (by omega) e
end Psg
end Go.Proofs.Ytjggocbihjdekaa
