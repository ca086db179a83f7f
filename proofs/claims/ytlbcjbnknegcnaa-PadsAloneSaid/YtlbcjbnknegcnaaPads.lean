/- What is pressed (layer 21): what the program's functions do: a text of pads. No conditions but that numbers are of their kinds. -/
import Derived.Test.YtlbcjbnknegcnaaKit
import Derived.Test.YtlbcjbnknegcnaaBuild
import Derived.Test.YtlbcjbnknegcnaaShelf
import Derived.RegionTactic
import Derived.LoopTactic
import Derived.Deep.RegionHeld3
import Derived.Lib.Hide
namespace Go.Proofs.Ytlbcjbnknegcnaa
open Go.RowKit
open Kit
set_option linter.unusedSimpArgs false
set_option linter.unusedVariables false
namespace Pads
def SS : ByteArray := ⟨#[85, 68, 76, 82, 49, 50]⟩
theorem iter_new (w : World) (s : ByteArray) (pos : Nat) : (w.iter s pos).heap[w.heap.size]? = some (.stringIter s pos) := World.iter_heap w s pos
def acc17 (k : Nat) : List UInt8 := [[], [85], [85], [85], [85], [85, 49], [85, 49]].getD k []
set_option maxRecDepth 100000 in
set_option maxHeartbeats 4000000 in
theorem pad_17 (w : World) : Calls Try.prog 8 #[.int .u8 17] w fun e w' => e = .returned (.string ⟨#[85, 49]⟩) ∧ Below w.heap.size w w' := by
  go_enter Try.func8, Try.ntmps8
  go_wp2
  go_loopw [] (fun wr => ∃ k : Nat, k ≤ 6 ∧ Lib.IsBuilderF 35 5 w.heap.size w.heap.size (Lib.byteCells (acc17 k)) wr ∧ wr.heap[w.heap.size + 1]? = some (.stringIter SS k) ∧ Below w.heap.size w wr) (fun wr => 6 - wr.iterPos (w.heap.size + 1))
  case atStart =>
    refine ⟨0, by omega, (Lib.IsBuilderF.of (Lib.fresh_isBuilder 35 5 w)).alloc _, ?_, ((Below.refl _ w).alloc (Nat.le_refl _) _).alloc (by simp) _⟩
    have := World.iter_heap (w.alloc (.cells #[.pointer none, .slice none 0 0] 35)) SS 0
    rw [show (⟨#[85, 68, 76, 82, 49, 50]⟩ : ByteArray) = SS from rfl]
    simpa using this
  case round =>
    obtain ⟨k, hk, hI, hit, hbw⟩ := hrel
    have hsz : w.heap.size + 1 < wr.heap.size := (Array.getElem?_eq_some_iff.1 hit).1
    rcases (by omega : k = 0 ∨ k = 1 ∨ k = 2 ∨ k = 3 ∨ k = 4 ∨ k = 5 ∨ k = 6) with rfl | rfl | rfl | rfl | rfl | rfl | rfl
    · have hnx : ∀ ty, (Instr.next (.pointer (some ⟨w.heap.size + 1, 0, none⟩)) true ty).run Try.prog wr = .ok (.tuple #[.bool true, .int .i64 0, .int .i32 85]) (wr.iterAt (w.heap.size + 1) SS 1) := fun ty => Lib.run_next_ascii_at wr (w.heap.size + 1) SS 0 ty hit (by decide) (by decide)
      have hI2 := hI.iterAt hit 1
      have hit2 := Lib.iterAt_heap wr (w.heap.size + 1) SS 0 1 hit
      have hbw2 := Lib.below_iterAt hbw (k := w.heap.size + 1) (by omega) SS 1
      have hsz2 : w.heap.size ≤ (wr.iterAt (w.heap.size + 1) SS 1).heap.size := by rw [Lib.iterAt_size]; omega
      go_wp2_with (go_at_call 9; refine (Bld.rune_ascii w.heap.size w.heap.size _ 85 (by omega) (by omega) _ hI2 (by rw [Lib.byteCells_length]; decide) hsz2).mono ?_)
      rintro e W1 ⟨rfl, h1, b1, k1⟩
      go_wp2
      go_roundw
      case rel => exact ⟨1, by omega, Or.inr h1, k1.iter hit2 (by omega), hbw2.trans b1⟩
      case measure =>
        simp only [World.iterPos, k1.iter hit2 (by omega), hit]
        omega
    · have hnx : ∀ ty, (Instr.next (.pointer (some ⟨w.heap.size + 1, 0, none⟩)) true ty).run Try.prog wr = .ok (.tuple #[.bool true, .int .i64 1, .int .i32 68]) (wr.iterAt (w.heap.size + 1) SS 2) := fun ty => Lib.run_next_ascii_at wr (w.heap.size + 1) SS 1 ty hit (by decide) (by decide)
      have hI2 := hI.iterAt hit 2
      have hit2 := Lib.iterAt_heap wr (w.heap.size + 1) SS 1 2 hit
      have hbw2 := Lib.below_iterAt hbw (k := w.heap.size + 1) (by omega) SS 2
      have hsz2 : w.heap.size ≤ (wr.iterAt (w.heap.size + 1) SS 2).heap.size := by rw [Lib.iterAt_size]; omega
      go_wp2
      go_roundw
      case rel => exact ⟨2, by omega, hI2, hit2, hbw2⟩
      case measure =>
        simp only [World.iterPos, hit2, hit]
        omega
    · have hnx : ∀ ty, (Instr.next (.pointer (some ⟨w.heap.size + 1, 0, none⟩)) true ty).run Try.prog wr = .ok (.tuple #[.bool true, .int .i64 2, .int .i32 76]) (wr.iterAt (w.heap.size + 1) SS 3) := fun ty => Lib.run_next_ascii_at wr (w.heap.size + 1) SS 2 ty hit (by decide) (by decide)
      have hI2 := hI.iterAt hit 3
      have hit2 := Lib.iterAt_heap wr (w.heap.size + 1) SS 2 3 hit
      have hbw2 := Lib.below_iterAt hbw (k := w.heap.size + 1) (by omega) SS 3
      have hsz2 : w.heap.size ≤ (wr.iterAt (w.heap.size + 1) SS 3).heap.size := by rw [Lib.iterAt_size]; omega
      go_wp2
      go_roundw
      case rel => exact ⟨3, by omega, hI2, hit2, hbw2⟩
      case measure =>
        simp only [World.iterPos, hit2, hit]
        omega
    · have hnx : ∀ ty, (Instr.next (.pointer (some ⟨w.heap.size + 1, 0, none⟩)) true ty).run Try.prog wr = .ok (.tuple #[.bool true, .int .i64 3, .int .i32 82]) (wr.iterAt (w.heap.size + 1) SS 4) := fun ty => Lib.run_next_ascii_at wr (w.heap.size + 1) SS 3 ty hit (by decide) (by decide)
      have hI2 := hI.iterAt hit 4
      have hit2 := Lib.iterAt_heap wr (w.heap.size + 1) SS 3 4 hit
      have hbw2 := Lib.below_iterAt hbw (k := w.heap.size + 1) (by omega) SS 4
      have hsz2 : w.heap.size ≤ (wr.iterAt (w.heap.size + 1) SS 4).heap.size := by rw [Lib.iterAt_size]; omega
      go_wp2
      go_roundw
      case rel => exact ⟨4, by omega, hI2, hit2, hbw2⟩
      case measure =>
        simp only [World.iterPos, hit2, hit]
        omega
    · have hnx : ∀ ty, (Instr.next (.pointer (some ⟨w.heap.size + 1, 0, none⟩)) true ty).run Try.prog wr = .ok (.tuple #[.bool true, .int .i64 4, .int .i32 49]) (wr.iterAt (w.heap.size + 1) SS 5) := fun ty => Lib.run_next_ascii_at wr (w.heap.size + 1) SS 4 ty hit (by decide) (by decide)
      have hI2 := hI.iterAt hit 5
      have hit2 := Lib.iterAt_heap wr (w.heap.size + 1) SS 4 5 hit
      have hbw2 := Lib.below_iterAt hbw (k := w.heap.size + 1) (by omega) SS 5
      have hsz2 : w.heap.size ≤ (wr.iterAt (w.heap.size + 1) SS 5).heap.size := by rw [Lib.iterAt_size]; omega
      go_wp2_with (go_at_call 9; refine (Bld.rune_ascii w.heap.size w.heap.size _ 49 (by omega) (by omega) _ hI2 (by rw [Lib.byteCells_length]; decide) hsz2).mono ?_)
      rintro e W1 ⟨rfl, h1, b1, k1⟩
      go_wp2
      go_roundw
      case rel => exact ⟨5, by omega, Or.inr h1, k1.iter hit2 (by omega), hbw2.trans b1⟩
      case measure =>
        simp only [World.iterPos, k1.iter hit2 (by omega), hit]
        omega
    · have hnx : ∀ ty, (Instr.next (.pointer (some ⟨w.heap.size + 1, 0, none⟩)) true ty).run Try.prog wr = .ok (.tuple #[.bool true, .int .i64 5, .int .i32 50]) (wr.iterAt (w.heap.size + 1) SS 6) := fun ty => Lib.run_next_ascii_at wr (w.heap.size + 1) SS 5 ty hit (by decide) (by decide)
      have hI2 := hI.iterAt hit 6
      have hit2 := Lib.iterAt_heap wr (w.heap.size + 1) SS 5 6 hit
      have hbw2 := Lib.below_iterAt hbw (k := w.heap.size + 1) (by omega) SS 6
      have hsz2 : w.heap.size ≤ (wr.iterAt (w.heap.size + 1) SS 6).heap.size := by rw [Lib.iterAt_size]; omega
      go_wp2
      go_roundw
      case rel => exact ⟨6, by omega, hI2, hit2, hbw2⟩
      case measure =>
        simp only [World.iterPos, hit2, hit]
        omega
    · have hnx : ∀ ty, (Instr.next (.pointer (some ⟨w.heap.size + 1, 0, none⟩)) true ty).run Try.prog wr = .ok (.tuple #[.bool false]) wr := fun ty => Lib.run_next_end_at wr (w.heap.size + 1) SS 6 ty hit (by decide)
      go_wp2_with (first | (go_at_call 10; refine (Try.Builder_Len_f w.heap.size w.heap.size _ _ hI).mono ?_; rintro e w' ⟨rfl, rfl⟩) | (go_at_call 11; refine (Try.Builder_String_any_k w.heap.size w.heap.size (acc17 6) _ hI (by omega)).mono ?_; rintro e W1 ⟨rfl, _, b1, _⟩))
      go_ret
      exact ⟨rfl, hbw.trans b1⟩
def acc0 (k : Nat) : List UInt8 := [[], [], [], [], [], [], []].getD k []
set_option maxRecDepth 100000 in
set_option maxHeartbeats 4000000 in
theorem pad_0 (w : World) : Calls Try.prog 8 #[.int .u8 0] w fun e w' => e = .returned (.string ⟨#[45]⟩) ∧ Below w.heap.size w w' := by
  go_enter Try.func8, Try.ntmps8
  go_wp2
  go_loopw [] (fun wr => ∃ k : Nat, k ≤ 6 ∧ Lib.IsBuilderF 35 5 w.heap.size w.heap.size (Lib.byteCells (acc0 k)) wr ∧ wr.heap[w.heap.size + 1]? = some (.stringIter SS k) ∧ Below w.heap.size w wr) (fun wr => 6 - wr.iterPos (w.heap.size + 1))
  case atStart =>
    refine ⟨0, by omega, (Lib.IsBuilderF.of (Lib.fresh_isBuilder 35 5 w)).alloc _, ?_, ((Below.refl _ w).alloc (Nat.le_refl _) _).alloc (by simp) _⟩
    have := World.iter_heap (w.alloc (.cells #[.pointer none, .slice none 0 0] 35)) SS 0
    rw [show (⟨#[85, 68, 76, 82, 49, 50]⟩ : ByteArray) = SS from rfl]
    simpa using this
  case round =>
    obtain ⟨k, hk, hI, hit, hbw⟩ := hrel
    have hsz : w.heap.size + 1 < wr.heap.size := (Array.getElem?_eq_some_iff.1 hit).1
    rcases (by omega : k = 0 ∨ k = 1 ∨ k = 2 ∨ k = 3 ∨ k = 4 ∨ k = 5 ∨ k = 6) with rfl | rfl | rfl | rfl | rfl | rfl | rfl
    · have hnx : ∀ ty, (Instr.next (.pointer (some ⟨w.heap.size + 1, 0, none⟩)) true ty).run Try.prog wr = .ok (.tuple #[.bool true, .int .i64 0, .int .i32 85]) (wr.iterAt (w.heap.size + 1) SS 1) := fun ty => Lib.run_next_ascii_at wr (w.heap.size + 1) SS 0 ty hit (by decide) (by decide)
      have hI2 := hI.iterAt hit 1
      have hit2 := Lib.iterAt_heap wr (w.heap.size + 1) SS 0 1 hit
      have hbw2 := Lib.below_iterAt hbw (k := w.heap.size + 1) (by omega) SS 1
      have hsz2 : w.heap.size ≤ (wr.iterAt (w.heap.size + 1) SS 1).heap.size := by rw [Lib.iterAt_size]; omega
      go_wp2
      go_roundw
      case rel => exact ⟨1, by omega, hI2, hit2, hbw2⟩
      case measure =>
        simp only [World.iterPos, hit2, hit]
        omega
    · have hnx : ∀ ty, (Instr.next (.pointer (some ⟨w.heap.size + 1, 0, none⟩)) true ty).run Try.prog wr = .ok (.tuple #[.bool true, .int .i64 1, .int .i32 68]) (wr.iterAt (w.heap.size + 1) SS 2) := fun ty => Lib.run_next_ascii_at wr (w.heap.size + 1) SS 1 ty hit (by decide) (by decide)
      have hI2 := hI.iterAt hit 2
      have hit2 := Lib.iterAt_heap wr (w.heap.size + 1) SS 1 2 hit
      have hbw2 := Lib.below_iterAt hbw (k := w.heap.size + 1) (by omega) SS 2
      have hsz2 : w.heap.size ≤ (wr.iterAt (w.heap.size + 1) SS 2).heap.size := by rw [Lib.iterAt_size]; omega
      go_wp2
      go_roundw
      case rel => exact ⟨2, by omega, hI2, hit2, hbw2⟩
      case measure =>
        simp only [World.iterPos, hit2, hit]
        omega
    · have hnx : ∀ ty, (Instr.next (.pointer (some ⟨w.heap.size + 1, 0, none⟩)) true ty).run Try.prog wr = .ok (.tuple #[.bool true, .int .i64 2, .int .i32 76]) (wr.iterAt (w.heap.size + 1) SS 3) := fun ty => Lib.run_next_ascii_at wr (w.heap.size + 1) SS 2 ty hit (by decide) (by decide)
      have hI2 := hI.iterAt hit 3
      have hit2 := Lib.iterAt_heap wr (w.heap.size + 1) SS 2 3 hit
      have hbw2 := Lib.below_iterAt hbw (k := w.heap.size + 1) (by omega) SS 3
      have hsz2 : w.heap.size ≤ (wr.iterAt (w.heap.size + 1) SS 3).heap.size := by rw [Lib.iterAt_size]; omega
      go_wp2
      go_roundw
      case rel => exact ⟨3, by omega, hI2, hit2, hbw2⟩
      case measure =>
        simp only [World.iterPos, hit2, hit]
        omega
    · have hnx : ∀ ty, (Instr.next (.pointer (some ⟨w.heap.size + 1, 0, none⟩)) true ty).run Try.prog wr = .ok (.tuple #[.bool true, .int .i64 3, .int .i32 82]) (wr.iterAt (w.heap.size + 1) SS 4) := fun ty => Lib.run_next_ascii_at wr (w.heap.size + 1) SS 3 ty hit (by decide) (by decide)
      have hI2 := hI.iterAt hit 4
      have hit2 := Lib.iterAt_heap wr (w.heap.size + 1) SS 3 4 hit
      have hbw2 := Lib.below_iterAt hbw (k := w.heap.size + 1) (by omega) SS 4
      have hsz2 : w.heap.size ≤ (wr.iterAt (w.heap.size + 1) SS 4).heap.size := by rw [Lib.iterAt_size]; omega
      go_wp2
      go_roundw
      case rel => exact ⟨4, by omega, hI2, hit2, hbw2⟩
      case measure =>
        simp only [World.iterPos, hit2, hit]
        omega
    · have hnx : ∀ ty, (Instr.next (.pointer (some ⟨w.heap.size + 1, 0, none⟩)) true ty).run Try.prog wr = .ok (.tuple #[.bool true, .int .i64 4, .int .i32 49]) (wr.iterAt (w.heap.size + 1) SS 5) := fun ty => Lib.run_next_ascii_at wr (w.heap.size + 1) SS 4 ty hit (by decide) (by decide)
      have hI2 := hI.iterAt hit 5
      have hit2 := Lib.iterAt_heap wr (w.heap.size + 1) SS 4 5 hit
      have hbw2 := Lib.below_iterAt hbw (k := w.heap.size + 1) (by omega) SS 5
      have hsz2 : w.heap.size ≤ (wr.iterAt (w.heap.size + 1) SS 5).heap.size := by rw [Lib.iterAt_size]; omega
      go_wp2
      go_roundw
      case rel => exact ⟨5, by omega, hI2, hit2, hbw2⟩
      case measure =>
        simp only [World.iterPos, hit2, hit]
        omega
    · have hnx : ∀ ty, (Instr.next (.pointer (some ⟨w.heap.size + 1, 0, none⟩)) true ty).run Try.prog wr = .ok (.tuple #[.bool true, .int .i64 5, .int .i32 50]) (wr.iterAt (w.heap.size + 1) SS 6) := fun ty => Lib.run_next_ascii_at wr (w.heap.size + 1) SS 5 ty hit (by decide) (by decide)
      have hI2 := hI.iterAt hit 6
      have hit2 := Lib.iterAt_heap wr (w.heap.size + 1) SS 5 6 hit
      have hbw2 := Lib.below_iterAt hbw (k := w.heap.size + 1) (by omega) SS 6
      have hsz2 : w.heap.size ≤ (wr.iterAt (w.heap.size + 1) SS 6).heap.size := by rw [Lib.iterAt_size]; omega
      go_wp2
      go_roundw
      case rel => exact ⟨6, by omega, hI2, hit2, hbw2⟩
      case measure =>
        simp only [World.iterPos, hit2, hit]
        omega
    · have hnx : ∀ ty, (Instr.next (.pointer (some ⟨w.heap.size + 1, 0, none⟩)) true ty).run Try.prog wr = .ok (.tuple #[.bool false]) wr := fun ty => Lib.run_next_end_at wr (w.heap.size + 1) SS 6 ty hit (by decide)
      go_wp2_with (first | (go_at_call 10; refine (Try.Builder_Len_f w.heap.size w.heap.size _ _ hI).mono ?_; rintro e w' ⟨rfl, rfl⟩) | (go_at_call 11; refine (Try.Builder_String_any_k w.heap.size w.heap.size (acc0 6) _ hI (by omega)).mono ?_; rintro e W1 ⟨rfl, _, b1, _⟩))
      go_ret
      exact ⟨rfl, hbw⟩
end Pads
end Go.Proofs.Ytlbcjbnknegcnaa
