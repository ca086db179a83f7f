/- Registers (layer 10): what the program's functions do, the second part. No conditions but that numbers are of their kinds. -/
import Derived.Test.YthghpgnnbdimaaaRegs8
import Derived.Test.YthghpgnnbdimaaaIdx
import Derived.Test.YthghpgnnbdimaaaEq
import Derived.RegionTactic
import Derived.Deep.CutRange
import Derived.LoopTactic
import Derived.Deep.RegionHeld3
namespace Go.Proofs.Ythghpgnnbdimaaa
open Go.RowKit
open Kit R06
set_option linter.unusedSimpArgs false
set_option linter.unusedVariables false
attribute [local simp] blkAt_alloc blkNew_cells putRow_cells blkAt_drew BlkN.set BlkOne.setInt BlkOne.setBool blkPut_alloc blkPut_drew nq2 nq3 nq4 nq5 nq6 nq7 nq8
namespace Regs
attribute [local simp ↓] rl_in rs_in
attribute [local simp] rl_run rs_run
def PH (w : World) (H : Nat) (A : Array Value) (W : World) : Prop := blkAt W H = A ∧ H < W.heap.size ∧ Below w.heap.size w W
theorem PH.below {w : World} {H : Nat} {A : Array Value} {W W' : World} (h : PH w H A W) (hb : Below W.heap.size W W') : PH w H A W' := by
  obtain ⟨h0, h1, h2⟩ := h
  refine ⟨?_, Nat.lt_of_lt_of_le h1 hb.size, h2.trans (hb.mono h2.size)⟩
  rw [← h0]; unfold blkAt; rw [hb.block H h1]
theorem PH.drew {w : World} {H : Nat} {A : Array Value} {W : World} (h : PH w H A W) : PH w H A W.drew := ⟨h.1, h.2.1, h.2.2.drew⟩
theorem PH.alloc {w : World} {H : Nat} {A : Array Value} {W : World} (h : PH w H A W) (o : Obj) : PH w H A (W.alloc o) := h.below ((Below.refl _ _).alloc (Nat.le_refl _) _)
/-- A callee that leaves what stood, met where the block is held. -/
theorem heldB {P : Program} {n : Nat} {args : Array Value} {r : Value} {w : World} {H : Nat} {A : Array Value} (h : ∀ W, Calls P n args W fun e w' => e = .returned r ∧ Below W.heap.size W w') (W : World) (hW : PH w H A W) : Calls P n args W fun e w' => e = .returned r ∧ PH w H A w' :=
  (h W).mono fun e w' ⟨e1, e2⟩ => ⟨e1, hW.below e2⟩
theorem belowOf0 {P : Program} {n : Nat} {args : Array Value} {r : Value} (h : ∀ W, Calls P n args W fun e w' => e = .returned r ∧ W = w') (W : World) : Calls P n args W fun e w' => e = .returned r ∧ Below W.heap.size W w' :=
  (h W).mono fun e w' ⟨e1, e2⟩ => ⟨e1, e2 ▸ Below.refl _ _⟩
theorem belowOf1 {P : Program} {n : Nat} {args : Array Value} {r : Value} (h : ∀ W, Calls P n args W fun e w' => e = .returned r ∧ ∃ o, w' = W.alloc o) (W : World) : Calls P n args W fun e w' => e = .returned r ∧ Below W.heap.size W w' :=
  (h W).mono fun e w' ⟨e1, o, e2⟩ => ⟨e1, by rw [e2]; exact (Below.refl _ _).alloc (Nat.le_refl _) _⟩
theorem belowOf2 {P : Program} {n : Nat} {args : Array Value} {r : Value} (h : ∀ W, Calls P n args W fun e w' => e = .returned r ∧ ∃ o1 o2, w' = (W.alloc o1).alloc o2) (W : World) : Calls P n args W fun e w' => e = .returned r ∧ Below W.heap.size W w' :=
  (h W).mono fun e w' ⟨e1, o, o2, e2⟩ => ⟨e1, by rw [e2]; exact ((Below.refl _ _).alloc (Nat.le_refl _) _).alloc (by simp) _⟩
theorem R_congr (f g : Nat → Int) (h : ∀ j, j < 29 → f j = g j) : R f = R g := row_congr _ _ _ fun j hj => by unfold rv; rw [h j hj]
set_option maxRecDepth 100000 in
set_option maxHeartbeats 4000000 in
theorem names_any (w : World) : Calls Try.prog 11 #[] w fun e w' => e = .returned (.slice (some ⟨w.heap.size, 0, none⟩) 7 7) ∧ w' = w.alloc (.cells #[.string ⟨#[66, 67]⟩, .string ⟨#[68, 69]⟩, .string ⟨#[72, 76]⟩, .string ⟨#[83, 80]⟩, .string ⟨#[65, 70]⟩, .string ⟨#[73, 88]⟩, .string ⟨#[73, 89]⟩] 9) := by
  go_enter Try.func11, Try.ntmps11
  go_wp2_with fail
  go_ret
  exact ⟨rfl, rfl⟩
set_option maxRecDepth 100000 in
set_option maxHeartbeats 4000000 in
theorem alive_any (w : World) : Calls Try.prog 9 #[] w fun e w' => e = .returned (.bool true) ∧ Below w.heap.size w w' := by
  have zb : RB (fun _ => 0) := ⟨fun _ _ => by simp, fun _ _ _ => by simp, fun _ _ _ => by simp⟩
  have gb : RB (setV (fun _ => 0) 2 258) := (zb.set8 6 (258 / 256) (by omega) (by omega) (by omega)).set8 7 (258 % 256) (by omega) (by omega) (by omega)
  have hs := fun W => setPair_any (fun _ => 0) zb 2 258 (by omega) (by omega) W
  rw [zeroR] at hs
  unfold Z29 at hs
  have hp := fun W => pair_any _ gb 2 W
  have ho := fun W => one_any _ gb 5 0 W
  rw [show pairV (setV (fun _ => 0) 2 258) 2 = 258 from rfl] at hp
  rw [show oneV (setV (fun _ => 0) 2 258) 5 0 = 2 from rfl] at ho
  have c6 := R_get (setV (fun _ => 0) 2 258) 6 (by omega)
  change (R (setV (fun _ => 0) 2 258))[6]? = some (.int .u8 1) at c6
  have c7 := R_get (setV (fun _ => 0) 2 258) 7 (by omega)
  change (R (setV (fun _ => 0) 2 258))[7]? = some (.int .u8 2) at c7
  have sA : BlkN (R (setV (fun _ => 0) 2 258)) 29 := R_size _
  have oA : BlkOne (R (setV (fun _ => 0) 2 258)) := R_one _
  generalize R (setV (fun _ => 0) 2 258) = A at *
  have HS := Lib.hid hs
  have HP := Lib.hid hp
  have HO := Lib.hid ho
  clear hs hp ho zb gb
  have zn := zN
  unfold Z29 at zn
  go_enter Try.func9, Try.ntmps9
  go_wp2_with (go_at_call 20; with_reducible refine (HS.out _).mono ?_; rintro e w' ⟨rfl, o1, o2, rfl⟩)
  go_wp2_with (first | (go_at_call 13; with_reducible refine (HP.out _).mono ?_; rintro e w' ⟨rfl, o3, rfl⟩) | (go_at_call 14; with_reducible refine (HO.out _).mono ?_; rintro e w5 ⟨rfl, hb5⟩))
  go_ret
  refine ⟨ret_bool (by simp), ?_⟩
  have h0 : Below w.heap.size w ((((w.alloc o1).alloc o2).alloc (.cells A 25)).alloc o3) := by go_grown
  exact h0.trans (hb5.mono h0.size)
end Regs
end Go.Proofs.Ythghpgnnbdimaaa
