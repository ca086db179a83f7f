/- What is pressed (layer 21): what the program's functions do: the example, the ports. No conditions but that numbers are of their kinds. -/
import Derived.Test.YtlbcjbnknegcnaaPads
import Derived.Test.YtlbcjbnknegcnaaPadsP
import Derived.Test.YtlbcjbnknegcnaaEq
import Derived.Test.YtlbcjbnknegcnaaIdx
import Derived.Test.YtlbcjbnknegcnaaRow
import Derived.RegionTactic
import Derived.LoopTactic
import Derived.Deep.RegionHeld3
import Derived.Lib.Hide
namespace Go.Proofs.Ytlbcjbnknegcnaa
open Go.RowKit
open Kit
set_option linter.unusedSimpArgs false
set_option linter.unusedVariables false
namespace Pads
theorem a63 : ∀ v, v < 256 → v &&& 63 = v % 64 := byte_all _ _ (by decide +kernel)
theorem a15 : ∀ v, v < 256 → v &&& 15 = v % 16 := byte_all _ _ (by decide +kernel)
theorem or_tab : allB 64 (fun a => allB 4 fun t => decide (a ||| t * 64 = a + t * 64)) = true := by decide +kernel
theorem or_tab2 : allB 16 (fun a => decide (a ||| 16 = a + 16)) = true := by decide +kernel
theorem or_tab3 : allB 32 (fun a => decide (255 - a ||| 224 = 255 - a)) = true := by decide +kernel
set_option maxRecDepth 100000 in
set_option maxHeartbeats 4000000 in
theorem text_17 (w : World) : Calls Try.prog 7 #[.agg #[.int .u8 17, .int .u8 0, .bool false, .bool false]] w fun e w' => e = .returned (.string ⟨#[85, 49, 32, 45]⟩) ∧ Below w.heap.size w w' := by
  have h1 := Lib.hid pad_17
  have h2 := Lib.hid pad_0
  go_enter Try.func7, Try.ntmps7
  go_wp2_with fail
  go_region_held3 (fun W => W.cell? ⟨w.heap.size, 0, none⟩ = some (.int .u8 17) ∧ W.cell? ⟨w.heap.size, 1, none⟩ = some (.int .u8 0) ∧ W.cell? ⟨w.heap.size, 2, none⟩ = some (.bool false) ∧ W.cell? ⟨w.heap.size, 3, none⟩ = some (.bool false) ∧ w.heap.size < W.heap.size ∧ Below w.heap.size w W) (first | assumption | (exact ⟨by first | assumption | go_keep | (go_simp; done), by first | assumption | go_keep | (go_simp; done), by first | assumption | go_keep | (go_simp; done), by first | assumption | go_keep | (go_simp; done), by first | assumption | (simp; done) | (simp; omega), by first | assumption | exact Below.drew (by assumption) | go_grown⟩)) ((go_at_call 8; (first | (with_reducible refine (h1.out _).mono ?_) | (with_reducible refine (h2.out _).mono ?_)); rintro e w6 ⟨rfl, b6⟩; (have hz6 : w.heap.size < w6.heap.size := (by have := b6.size; first | omega | (simp at this; omega))); (have bb6 : Below w.heap.size w w6 := (by first | exact (Below.trans (by assumption) (b6.mono (by first | omega | (simp; omega)))) | exact (Below.trans (Below.drew (by assumption)) (b6.mono (by first | omega | (simp; omega)))) | exact (((Below.refl _ _).alloc (Nat.le_refl _) _).drew).trans (b6.mono (by simp)))); (have x0 : w6.cell? ⟨w.heap.size, 0, none⟩ = some (.int .u8 17) := (by rw [b6.cell (p := ⟨w.heap.size, 0, none⟩) (by first | assumption | (simp; done))]; first | assumption | (go_simp; done))); (have x1 : w6.cell? ⟨w.heap.size, 1, none⟩ = some (.int .u8 0) := (by rw [b6.cell (p := ⟨w.heap.size, 1, none⟩) (by first | assumption | (simp; done))]; first | assumption | (go_simp; done))); (have x2 : w6.cell? ⟨w.heap.size, 2, none⟩ = some (.bool false) := (by rw [b6.cell (p := ⟨w.heap.size, 2, none⟩) (by first | assumption | (simp; done))]; first | assumption | (go_simp; done))); (have x3 : w6.cell? ⟨w.heap.size, 3, none⟩ = some (.bool false) := (by rw [b6.cell (p := ⟨w.heap.size, 3, none⟩) (by first | assumption | (simp; done))]; first | assumption | (go_simp; done)))))
  all_goals
    go_wp2_with fail
    go_ret
    exact ⟨by rfl, by first | assumption | exact Below.drew (by assumption)⟩
theorem ret_u8 {a b : Int} (h : a = b) : Ending.returned (.int .u8 a) = .returned (.int .u8 b) := by rw [h]
theorem or8i (a b : Nat) (c : Nat) (h : a % 256 ||| b % 256 = c) : Go.bits .or .u8 (a : Int) (b : Int) = (c : Int) := by rw [Kit.or8, h]
theorem port_e (one two : Nat) (p r : Bool) (h1 : one < 256) (h2 : two < 256) (w : World) : Calls Try.prog 6 #[.agg #[.int .u8 one, .int .u8 two, .bool p, .bool r], .bool false] w fun e w' => e = .returned (.int .u8 (pE one two)) ∧ ∃ o, w' = w.alloc o := by
  have e2 : one % 64 ||| two % 4 * 64 = one % 64 + two % 4 * 64 := by simpa using allB_at (allB_at or_tab (show one % 64 < 64 by omega)) (show two % 4 < 4 by omega)
  have h3 : Go.bits .or .u8 ((one : Int) % 64) ((two : Int) * 64 % 256) = ((one % 64 + two % 4 * 64 : Nat) : Int) := by
    rw [show ((one : Int) % 64) = ((one % 64 : Nat) : Int) by omega, show ((two : Int) * 64 % 256) = ((two % 4 * 64 : Nat) : Int) by omega]
    exact or8i _ _ _ (by rw [Nat.mod_eq_of_lt (show one % 64 < 256 by omega), Nat.mod_eq_of_lt (show two % 4 * 64 < 256 by omega), e2])
  go_enter Try.func6, Try.ntmps6
  go_wp2_with fail
  go_ret
  refine ⟨?_, _, rfl⟩
  refine ret_u8 ?_
  rw [show ((one : Int) % 64 + (two : Int) % 4 * 64) = ((one % 64 + two % 4 * 64 : Nat) : Int) by omega, Kit.not8 _ (by omega)]; rfl
theorem port_o (one two : Nat) (p r : Bool) (h1 : one < 256) (h2 : two < 256) (w : World) : Calls Try.prog 6 #[.agg #[.int .u8 one, .int .u8 two, .bool p, .bool r], .bool true] w fun e w' => e = .returned (.int .u8 (pO two r)) ∧ ∃ o, w' = w.alloc o := by
  have e1 : two / 4 % 16 ||| 16 = two / 4 % 16 + 16 := by simpa using allB_at or_tab2 (show two / 4 % 16 < 16 by omega)
  have h3 : Go.bits .or .u8 ((two : Int) / 4 % 16) 16 = ((two / 4 % 16 + 16 : Nat) : Int) := by
    rw [show ((two : Int) / 4 % 16) = ((two / 4 % 16 : Nat) : Int) by omega]
    exact or8i _ 16 _ (by rw [Nat.mod_eq_of_lt (show two / 4 % 16 < 256 by omega), Nat.mod_eq_of_lt (show 16 < 256 by omega), e1])
  have h4 : ∀ x : Nat, x < 32 → Go.bits .or .u8 (Go.bits .xor .u8 IntKind.u8.max (x : Int)) 224 = ((255 - x : Nat) : Int) := fun x hx => by
    rw [Kit.not8 _ (by omega)]
    exact or8i _ 224 _ (by rw [Nat.mod_eq_of_lt (show 255 - x < 256 by omega), Nat.mod_eq_of_lt (show 224 < 256 by omega)]; simpa using allB_at or_tab3 hx)
  cases r
  · go_enter Try.func6, Try.ntmps6
    go_wp2_with fail
    go_ret
    refine ⟨ret_u8 ?_, _, rfl⟩
    rw [show ((two : Int) / 4 % 16) = ((two / 4 % 16 : Nat) : Int) by omega, h4 _ (by omega)]; rfl
  · go_enter Try.func6, Try.ntmps6
    go_wp2_with fail
    go_ret
    refine ⟨ret_u8 ?_, _, rfl⟩
    rw [show ((two : Int) / 4 % 16 + 16) = ((two / 4 % 16 + 16 : Nat) : Int) by omega, h4 _ (by omega)]; rfl
theorem right_any (one two : Nat) (p r : Bool) (w : World) : Calls Try.prog 5 #[.agg #[.int .u8 one, .int .u8 two, .bool p, .bool r]] w fun e w' => e = .returned (.bool (decide (one ≤ 63) && decide (two ≤ 63))) ∧ ∃ o, w' = w.alloc o := by
  by_cases h : one ≤ 63
  · have h' : ((one : Int) ≤ 63) := by omega
    go_enter Try.func5, Try.ntmps5
    go_wp2_with fail
    go_ret
    exact ⟨ret_bool (by rw [decide_eq_true h, Bool.true_and]; rw [Bool.eq_iff_iff]; simp; omega), _, rfl⟩
  · have h' : ¬ ((one : Int) ≤ 63) := by omega
    go_enter Try.func5, Try.ntmps5
    go_wp2_with fail
    go_ret
    exact ⟨ret_bool (by simp), _, rfl⟩
set_option maxRecDepth 100000 in
set_option maxHeartbeats 4000000 in
theorem alive_any (w : World) : Calls Try.prog 4 #[] w fun e w' => e = .returned (.bool true) ∧ Below w.heap.size w w' := by
  have h1 := Lib.hid text_17
  have h2 : ∀ W, Calls Try.prog 6 #[.agg #[.int .u8 0, .int .u8 0, .bool false, .bool false], .bool false] W fun e w' => e = .returned (.int .u8 255) ∧ ∃ o, w' = W.alloc o := port_e 0 0 false false (by omega) (by omega)
  have h3 : ∀ W, Calls Try.prog 6 #[.agg #[.int .u8 1, .int .u8 0, .bool false, .bool false], .bool false] W fun e w' => e = .returned (.int .u8 254) ∧ ∃ o, w' = W.alloc o := port_e 1 0 false false (by omega) (by omega)
  have H2 := Lib.hid h2
  have H3 := Lib.hid h3
  clear h2 h3
  go_enter Try.func4, Try.ntmps4
  go_wp2_with (first | (go_at_call 7; (with_reducible refine (h1.out _).mono ?_); rintro e w1 ⟨rfl, b1⟩) | (go_at_call 6; (first | (with_reducible refine (H2.out _).mono ?_) | (with_reducible refine (H3.out _).mono ?_)); rintro e w2 ⟨rfl, o2, rfl⟩))
  all_goals
    go_ret
    exact ⟨ret_bool (by simp), (b1.alloc b1.size _).alloc (by have := b1.size; simp; omega) _⟩
end Pads
end Go.Proofs.Ytlbcjbnknegcnaa
