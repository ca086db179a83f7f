/- What is pressed (layer 21): what the program's functions do: the statement. No conditions but that numbers are of their kinds. -/
import Derived.Test.YtlbcjbnknegcnaaPads2
import Derived.RegionTactic
import Derived.LoopTactic
import Derived.Deep.DeepCutAuto
import Derived.Deep.CutRange
import Derived.Deep.CutBlock
import Derived.Deep.RegionHeld3
import Derived.Lib.Hide
namespace Go.Proofs.Ytlbcjbnknegcnaa
open Go.RowKit
open Kit
set_option linter.unusedSimpArgs false
set_option linter.unusedVariables false
namespace Pads
theorem heldP {P : Program} {n : Nat} {args : Array Value} {r : Value} {T : World → Prop} (hT : ∀ W W', T W → Below W.heap.size W W' → T W') (h : ∀ W, Calls P n args W fun e w' => e = .returned r ∧ Below W.heap.size W w') (W : World) (hW : T W) : Calls P n args W fun e w' => e = .returned r ∧ T w' :=
  (h W).mono fun e w' ⟨e1, e2⟩ => ⟨e1, hT _ _ hW e2⟩
def HS (w : World) (A : Array Value) (W : World) : Prop := W.heap[w.heap.size]? = some (.cells A 23) ∧ Below w.heap.size w W
theorem HS.below {w : World} {A : Array Value} {W W' : World} (h : HS w A W) (hb : Below W.heap.size W W') : HS w A W' := ⟨(hb.block _ (heap_lt h.1)).trans h.1, h.2.trans (hb.mono h.2.size)⟩
def HT (w : World) (A : Array Value) (tb : Nat) (B : Array Value) (W : World) : Prop := W.heap[w.heap.size]? = some (.cells A 23) ∧ W.heap[tb]? = some (.cells B 23) ∧ w.heap.size < tb ∧ Below w.heap.size w W
theorem HT.below {w : World} {A : Array Value} {tb : Nat} {B : Array Value} {W W' : World} (h : HT w A tb B W) (hb : Below W.heap.size W W') : HT w A tb B W' := ⟨(hb.block _ (heap_lt h.1)).trans h.1, (hb.block _ (heap_lt h.2.1)).trans h.2.1, h.2.2.1, h.2.2.2.trans (hb.mono h.2.2.2.size)⟩
theorem HT.drew {w : World} {A : Array Value} {tb : Nat} {B : Array Value} {W : World} (h : HT w A tb B W) : HT w A tb B W.drew := ⟨h.1, h.2.1, h.2.2.1, h.2.2.2.drew⟩
theorem HT.set {w : World} {A : Array Value} {tb : Nat} {B : Array Value} {W : World} (h : HT w A tb B W) (k : Nat) (v : Value) (B' : Array Value) (e : B.setIfInBounds k v = B') : HT w A tb B' (W.setCell ⟨tb, k, none⟩ v) :=
  ⟨(heap_set_other _ _ _ _ _ (by have := h.2.2.1; omega)).trans h.1, by rw [← e]; exact heap_set_same _ _ _ _ h.2.1, h.2.2.1, h.2.2.2.setCell (by have := h.2.2.1; simp; omega) _⟩
theorem HT.alloc {w : World} {A : Array Value} {tb : Nat} {B : Array Value} {W : World} (h : HT w A tb B W) (o : Obj) : HT w A tb B (W.alloc o) := h.below ((Below.refl _ _).alloc (Nat.le_refl _) _)
theorem HT.all {w : World} {a0 a1 a2 a3 b0 b1 b2 b3 : Value} {tb : Nat} {W : World} (h : HT w #[a0, a1, a2, a3] tb #[b0, b1, b2, b3] W) : W.cell? ⟨w.heap.size, 0, none⟩ = some a0 ∧ W.cell? ⟨w.heap.size, 1, none⟩ = some a1 ∧ W.cell? ⟨w.heap.size, 2, none⟩ = some a2 ∧ W.cell? ⟨w.heap.size, 3, none⟩ = some a3 ∧ W.cell? ⟨tb, 0, none⟩ = some b0 ∧ W.cell? ⟨tb, 1, none⟩ = some b1 ∧ W.cell? ⟨tb, 2, none⟩ = some b2 ∧ W.cell? ⟨tb, 3, none⟩ = some b3 ∧ tb < W.heap.size ∧ HT w #[a0, a1, a2, a3] tb #[b0, b1, b2, b3] W :=
  ⟨(cell_of _ _ 0 h.1).trans rfl, (cell_of _ _ 1 h.1).trans rfl, (cell_of _ _ 2 h.1).trans rfl, (cell_of _ _ 3 h.1).trans rfl, (cell_of _ _ 0 h.2.1).trans rfl, (cell_of _ _ 1 h.2.1).trans rfl, (cell_of _ _ 2 h.2.1).trans rfl, (cell_of _ _ 3 h.2.1).trans rfl, heap_lt h.2.1, h⟩
theorem pop_le (d : Nat) : pop d ≤ 8 := by unfold pop; omega
theorem pop_half (d : Nat) (h : d < 256) : pop d = d % 2 + pop (d / 2) := by unfold pop; omega
theorem u8_wf {z : Int} (h : 0 ≤ z ∧ z < 256) : (Lit.int .u8 z).wf = true := by simp [Lit.wf, IntKind.min, IntKind.max, IntKind.signed, IntKind.bits]; omega
theorem leavesI (a b : Nat) (p r : Bool) (ha : a < 256) (hb : b < 256) : leavesOk [some .u8, some .u8, none, none] (#[.int .u8 a, .int .u8 b, .bool p, .bool r] : Array Value).toList := ⟨⟨_, rfl, u8_wf ⟨by omega, by omega⟩⟩, ⟨_, rfl, u8_wf ⟨by omega, by omega⟩⟩, ⟨_, rfl⟩, ⟨_, rfl⟩, trivial⟩
theorem eqI (x y : Nat) (p b : Bool) (one two : Nat) (r : Bool) (hx : x < 256) (hy : y < 256) (h1 : one < 256) (h2 : two < 256) (w : World) : (Op.equalIn 10000 23 (.agg #[.int .u8 x, .int .u8 y, .bool p, .bool b]) (.agg #[.int .u8 one, .int .u8 two, .bool p, .bool r])).run Try.prog w = .ok (one == x && (two == y && r == b)) w := by
  obtain ⟨q, e1, e2⟩ := Kit.eq_flat 6 6 23 [some .u8, some .u8, none, none] (by kernel_rfl) (by kernel_rfl) (by decide) (by kernel_rfl) _ _ (leavesI x y p b hx hy) (leavesI one two p r h1 h2) (by kernel_rfl) w
  rw [e1]
  congr 1
  rw [Bool.eq_iff_iff, e2]
  simp
  constructor
  · rintro ⟨a, b, c⟩; exact ⟨by omega, by omega, c.symm⟩
  · rintro ⟨a, b, c⟩; exact ⟨by omega, by omega, c.symm⟩
def inA (one two : Nat) (p r : Bool) : Array Value := #[.int .u8 one, .int .u8 two, .bool p, .bool r]
set_option maxRecDepth 100000 in
set_option maxHeartbeats 4000000 in
theorem alone_all (one two : Nat) (p r : Bool) (n : Int) (h1 : one < 256) (h2 : two < 256) (n0 : -9223372036854775808 ≤ n) (n1 : n ≤ 9223372036854775807) (w : World) : Calls Try.prog 3 #[.agg #[.int .u8 one, .int .u8 two, .bool p, .bool r], .int .i64 n] w fun e w' => e = .returned (.bool true) ∧ Below w.heap.size w w' := by
  have HAL := Lib.hid (heldP (T := HS w #[.int .u8 one, .int .u8 two, .bool p, .bool r]) (fun W W' h b => h.below b) alive_any)
  have hr := right_any one two p r
  have I0 : Hid ((#[.int .u8 one, .int .u8 two, .bool p, .bool r] : Array Value)[0]? = some (.int .u8 one)) := Lib.hid rfl
  have I1 : Hid ((#[.int .u8 one, .int .u8 two, .bool p, .bool r] : Array Value)[1]? = some (.int .u8 two)) := Lib.hid rfl
  have I2 : Hid ((#[.int .u8 one, .int .u8 two, .bool p, .bool r] : Array Value)[2]? = some (.bool p)) := Lib.hid rfl
  have I3 : Hid ((#[.int .u8 one, .int .u8 two, .bool p, .bool r] : Array Value)[3]? = some (.bool r)) := Lib.hid rfl
  cases hR : (decide (one ≤ 63) && decide (two ≤ 63))
  · rw [hR] at hr
    have HR := Lib.hid hr
    clear hr hR
    go_enter Try.func3, Try.ntmps3
    go_wp2_with (first | (go_at_call 4; (with_reducible refine (HAL.out _ ?_).mono ?_); (exact ⟨heap_at _ _ _ rfl, by go_grown⟩); rintro e w1 ⟨rfl, k1⟩; (have a0 := (cell_of _ _ 0 k1.1).trans I0.out); (have a1 := (cell_of _ _ 1 k1.1).trans I1.out); (have a2 := (cell_of _ _ 2 k1.1).trans I2.out); (have a3 := (cell_of _ _ 3 k1.1).trans I3.out); (have l1 := heap_lt k1.1)) | (go_at_call 5; (with_reducible refine (HR.out _).mono ?_); rintro e w2 ⟨rfl, o2, rfl⟩))
    go_ret
    exact ⟨ret_bool (by simp), k1.2.alloc k1.2.size _⟩
  rw [hR] at hr
  have HR := Lib.hid hr
  simp only [Bool.and_eq_true, decide_eq_true_eq] at hR
  obtain ⟨r1, r2⟩ := hR
  clear hr
  by_cases hn : n < 0
  · go_enter Try.func3, Try.ntmps3
    go_wp2_with (first | (go_at_call 4; (with_reducible refine (HAL.out _ ?_).mono ?_); (exact ⟨heap_at _ _ _ rfl, by go_grown⟩); rintro e w1 ⟨rfl, k1⟩; (have a0 := (cell_of _ _ 0 k1.1).trans I0.out); (have a1 := (cell_of _ _ 1 k1.1).trans I1.out); (have a2 := (cell_of _ _ 2 k1.1).trans I2.out); (have a3 := (cell_of _ _ 3 k1.1).trans I3.out); (have l1 := heap_lt k1.1)) | (go_at_call 5; (with_reducible refine (HR.out _).mono ?_); rintro e w2 ⟨rfl, o2, rfl⟩))
    go_ret
    exact ⟨ret_bool (by simp), k1.2.alloc k1.2.size _⟩
  by_cases hn2 : 12 < n
  · go_enter Try.func3, Try.ntmps3
    go_wp2_with (first | (go_at_call 4; (with_reducible refine (HAL.out _ ?_).mono ?_); (exact ⟨heap_at _ _ _ rfl, by go_grown⟩); rintro e w1 ⟨rfl, k1⟩; (have a0 := (cell_of _ _ 0 k1.1).trans I0.out); (have a1 := (cell_of _ _ 1 k1.1).trans I1.out); (have a2 := (cell_of _ _ 2 k1.1).trans I2.out); (have a3 := (cell_of _ _ 3 k1.1).trans I3.out); (have l1 := heap_lt k1.1)) | (go_at_call 5; (with_reducible refine (HR.out _).mono ?_); rintro e w2 ⟨rfl, o2, rfl⟩))
    go_ret
    exact ⟨ret_bool (by simp), k1.2.alloc k1.2.size _⟩
  obtain ⟨k, rfl⟩ := Int.eq_ofNat_of_zero_le (show 0 ≤ n by omega)
  have hk : k ≤ 12 := by omega
  have hk2 : (k : Int) ≤ 12 := by omega
  clear hn hn2 n0 n1
  go_enter Try.func3, Try.ntmps3
  go_upto_block 0 with (first | (go_at_call 4; (with_reducible refine (HAL.out _ ?_).mono ?_); (exact ⟨heap_at _ _ _ rfl, by go_grown⟩); rintro e w1 ⟨rfl, k1⟩; (have a0 := (cell_of _ _ 0 k1.1).trans I0.out); (have a1 := (cell_of _ _ 1 k1.1).trans I1.out); (have a2 := (cell_of _ _ 2 k1.1).trans I2.out); (have a3 := (cell_of _ _ 3 k1.1).trans I3.out); (have l1 := heap_lt k1.1)) | (go_at_call 5; (with_reducible refine (HR.out _).mono ?_); rintro e w2 ⟨rfl, o2, rfl⟩))
  have hT : HT w #[.int .u8 one, .int .u8 two, .bool p, .bool r] (w1.heap.size + 1) #[.int .u8 one, .int .u8 two, .bool p, .bool r] ((w1.alloc o2).alloc (.cells #[.int .u8 one, .int .u8 two, .bool p, .bool r] 23)) :=
    ⟨(heap_past _ _ _ (by simp; omega)).trans ((heap_past _ _ _ l1).trans k1.1), heap_at _ _ _ (by simp), by omega, (k1.2.alloc k1.2.size _).alloc (by have := k1.2.size; simp; omega) _⟩
  generalize (w1.alloc o2).alloc (.cells #[.int .u8 one, .int .u8 two, .bool p, .bool r] 23) = w4 at *
  generalize w1.heap.size + 1 = mb at *
  clear k1 a0 a1 a2 a3 l1 HAL HR
  go_cut [] from 26 to 45 (fun wx => ∃ (x y : Nat) (b : Bool), x < 64 ∧ y < 64 ∧ chk one two r x y b = true ∧ HT w #[.int .u8 one, .int .u8 two, .bool p, .bool r] mb #[.int .u8 x, .int .u8 y, .bool p, .bool b] wx)
  case first =>
    have b0 : w4.cell? ⟨mb, 0, none⟩ = some (.int .u8 one) := (cell_of _ _ 0 hT.2.1).trans rfl
    have b1 : w4.cell? ⟨mb, 1, none⟩ = some (.int .u8 two) := (cell_of _ _ 1 hT.2.1).trans rfl
    have b3 : w4.cell? ⟨mb, 3, none⟩ = some (.bool r) := (cell_of _ _ 3 hT.2.1).trans rfl
    have f0 := free_of _ _ 0 hT.2.1
    have f1 := free_of _ _ 1 hT.2.1
    have f3 := free_of _ _ 3 hT.2.1
    rcases (by omega : k = 0 ∨ k = 1 ∨ k = 2 ∨ k = 3 ∨ k = 4 ∨ k = 5 ∨ k = 6 ∨ k = 7 ∨ k = 8 ∨ k = 9 ∨ k = 10 ∨ k = 11 ∨ k = 12) with rfl | rfl | rfl | rfl | rfl | rfl | rfl | rfl | rfl | rfl | rfl | rfl | rfl
    · obtain ⟨x, hx⟩ : ∃ x, one ||| 2 ^ 0 = x := ⟨_, rfl⟩
      have hor : Go.bits .or .u8 (one : Int) 1 = (x : Int) := or8i one 1 x (by rw [Nat.mod_eq_of_lt h1, ← hx])
      have hc : chk one two r x two r = true := by rw [← hx]; exact all2_at (allB_at (allB_at (allB_at chk_one (show 0 < 6 by omega)) (show one < 64 by omega)) (show two < 64 by omega)) r
      have hx64 : x < 64 := by rw [← hx]; simpa using allB_at (allB_at or_lt (show 0 < 6 by omega)) (show one < 64 by omega)
      clear hx
      go_wp2_with fail
      go_region
      all_goals (go_wp2_with fail; go_meet; exact ⟨x, two, r, hx64, by omega, hc, by first | exact (hT.set 0 (.int .u8 x) _ rfl) | exact (hT.set 0 (.int .u8 x) _ rfl).drew | exact (hT.drew.set 0 (.int .u8 x) _ rfl)⟩)
    · obtain ⟨x, hx⟩ : ∃ x, one ||| 2 ^ 1 = x := ⟨_, rfl⟩
      have hor : Go.bits .or .u8 (one : Int) 2 = (x : Int) := or8i one 2 x (by rw [Nat.mod_eq_of_lt h1, ← hx])
      have hc : chk one two r x two r = true := by rw [← hx]; exact all2_at (allB_at (allB_at (allB_at chk_one (show 1 < 6 by omega)) (show one < 64 by omega)) (show two < 64 by omega)) r
      have hx64 : x < 64 := by rw [← hx]; simpa using allB_at (allB_at or_lt (show 1 < 6 by omega)) (show one < 64 by omega)
      clear hx
      go_wp2_with fail
      go_region
      all_goals (go_wp2_with fail; go_meet; exact ⟨x, two, r, hx64, by omega, hc, by first | exact (hT.set 0 (.int .u8 x) _ rfl) | exact (hT.set 0 (.int .u8 x) _ rfl).drew | exact (hT.drew.set 0 (.int .u8 x) _ rfl)⟩)
    · obtain ⟨x, hx⟩ : ∃ x, one ||| 2 ^ 2 = x := ⟨_, rfl⟩
      have hor : Go.bits .or .u8 (one : Int) 4 = (x : Int) := or8i one 4 x (by rw [Nat.mod_eq_of_lt h1, ← hx])
      have hc : chk one two r x two r = true := by rw [← hx]; exact all2_at (allB_at (allB_at (allB_at chk_one (show 2 < 6 by omega)) (show one < 64 by omega)) (show two < 64 by omega)) r
      have hx64 : x < 64 := by rw [← hx]; simpa using allB_at (allB_at or_lt (show 2 < 6 by omega)) (show one < 64 by omega)
      clear hx
      go_wp2_with fail
      go_region
      all_goals (go_wp2_with fail; go_meet; exact ⟨x, two, r, hx64, by omega, hc, by first | exact (hT.set 0 (.int .u8 x) _ rfl) | exact (hT.set 0 (.int .u8 x) _ rfl).drew | exact (hT.drew.set 0 (.int .u8 x) _ rfl)⟩)
    · obtain ⟨x, hx⟩ : ∃ x, one ||| 2 ^ 3 = x := ⟨_, rfl⟩
      have hor : Go.bits .or .u8 (one : Int) 8 = (x : Int) := or8i one 8 x (by rw [Nat.mod_eq_of_lt h1, ← hx])
      have hc : chk one two r x two r = true := by rw [← hx]; exact all2_at (allB_at (allB_at (allB_at chk_one (show 3 < 6 by omega)) (show one < 64 by omega)) (show two < 64 by omega)) r
      have hx64 : x < 64 := by rw [← hx]; simpa using allB_at (allB_at or_lt (show 3 < 6 by omega)) (show one < 64 by omega)
      clear hx
      go_wp2_with fail
      go_region
      all_goals (go_wp2_with fail; go_meet; exact ⟨x, two, r, hx64, by omega, hc, by first | exact (hT.set 0 (.int .u8 x) _ rfl) | exact (hT.set 0 (.int .u8 x) _ rfl).drew | exact (hT.drew.set 0 (.int .u8 x) _ rfl)⟩)
    · obtain ⟨x, hx⟩ : ∃ x, one ||| 2 ^ 4 = x := ⟨_, rfl⟩
      have hor : Go.bits .or .u8 (one : Int) 16 = (x : Int) := or8i one 16 x (by rw [Nat.mod_eq_of_lt h1, ← hx])
      have hc : chk one two r x two r = true := by rw [← hx]; exact all2_at (allB_at (allB_at (allB_at chk_one (show 4 < 6 by omega)) (show one < 64 by omega)) (show two < 64 by omega)) r
      have hx64 : x < 64 := by rw [← hx]; simpa using allB_at (allB_at or_lt (show 4 < 6 by omega)) (show one < 64 by omega)
      clear hx
      go_wp2_with fail
      go_region
      all_goals (go_wp2_with fail; go_meet; exact ⟨x, two, r, hx64, by omega, hc, by first | exact (hT.set 0 (.int .u8 x) _ rfl) | exact (hT.set 0 (.int .u8 x) _ rfl).drew | exact (hT.drew.set 0 (.int .u8 x) _ rfl)⟩)
    · obtain ⟨x, hx⟩ : ∃ x, one ||| 2 ^ 5 = x := ⟨_, rfl⟩
      have hor : Go.bits .or .u8 (one : Int) 32 = (x : Int) := or8i one 32 x (by rw [Nat.mod_eq_of_lt h1, ← hx])
      have hc : chk one two r x two r = true := by rw [← hx]; exact all2_at (allB_at (allB_at (allB_at chk_one (show 5 < 6 by omega)) (show one < 64 by omega)) (show two < 64 by omega)) r
      have hx64 : x < 64 := by rw [← hx]; simpa using allB_at (allB_at or_lt (show 5 < 6 by omega)) (show one < 64 by omega)
      clear hx
      go_wp2_with fail
      go_region
      all_goals (go_wp2_with fail; go_meet; exact ⟨x, two, r, hx64, by omega, hc, by first | exact (hT.set 0 (.int .u8 x) _ rfl) | exact (hT.set 0 (.int .u8 x) _ rfl).drew | exact (hT.drew.set 0 (.int .u8 x) _ rfl)⟩)
    · obtain ⟨y, hy⟩ : ∃ y, two ||| 2 ^ 0 = y := ⟨_, rfl⟩
      have hor : Go.bits .or .u8 (two : Int) 1 = (y : Int) := or8i two 1 y (by rw [Nat.mod_eq_of_lt h2, ← hy])
      have hc : chk one two r one y r = true := by rw [← hy]; exact all2_at (allB_at (allB_at (allB_at chk_two (show 0 < 6 by omega)) (show one < 64 by omega)) (show two < 64 by omega)) r
      have hy64 : y < 64 := by rw [← hy]; simpa using allB_at (allB_at or_lt (show 0 < 6 by omega)) (show two < 64 by omega)
      clear hy
      go_wp2_with fail
      go_region
      all_goals (go_wp2_with fail; go_meet; exact ⟨one, y, r, by omega, hy64, hc, by first | exact (hT.set 1 (.int .u8 y) _ rfl) | exact (hT.set 1 (.int .u8 y) _ rfl).drew | exact (hT.drew.set 1 (.int .u8 y) _ rfl)⟩)
    · obtain ⟨y, hy⟩ : ∃ y, two ||| 2 ^ 1 = y := ⟨_, rfl⟩
      have hor : Go.bits .or .u8 (two : Int) 2 = (y : Int) := or8i two 2 y (by rw [Nat.mod_eq_of_lt h2, ← hy])
      have hc : chk one two r one y r = true := by rw [← hy]; exact all2_at (allB_at (allB_at (allB_at chk_two (show 1 < 6 by omega)) (show one < 64 by omega)) (show two < 64 by omega)) r
      have hy64 : y < 64 := by rw [← hy]; simpa using allB_at (allB_at or_lt (show 1 < 6 by omega)) (show two < 64 by omega)
      clear hy
      go_wp2_with fail
      go_region
      all_goals (go_wp2_with fail; go_meet; exact ⟨one, y, r, by omega, hy64, hc, by first | exact (hT.set 1 (.int .u8 y) _ rfl) | exact (hT.set 1 (.int .u8 y) _ rfl).drew | exact (hT.drew.set 1 (.int .u8 y) _ rfl)⟩)
    · obtain ⟨y, hy⟩ : ∃ y, two ||| 2 ^ 2 = y := ⟨_, rfl⟩
      have hor : Go.bits .or .u8 (two : Int) 4 = (y : Int) := or8i two 4 y (by rw [Nat.mod_eq_of_lt h2, ← hy])
      have hc : chk one two r one y r = true := by rw [← hy]; exact all2_at (allB_at (allB_at (allB_at chk_two (show 2 < 6 by omega)) (show one < 64 by omega)) (show two < 64 by omega)) r
      have hy64 : y < 64 := by rw [← hy]; simpa using allB_at (allB_at or_lt (show 2 < 6 by omega)) (show two < 64 by omega)
      clear hy
      go_wp2_with fail
      go_region
      all_goals (go_wp2_with fail; go_meet; exact ⟨one, y, r, by omega, hy64, hc, by first | exact (hT.set 1 (.int .u8 y) _ rfl) | exact (hT.set 1 (.int .u8 y) _ rfl).drew | exact (hT.drew.set 1 (.int .u8 y) _ rfl)⟩)
    · obtain ⟨y, hy⟩ : ∃ y, two ||| 2 ^ 3 = y := ⟨_, rfl⟩
      have hor : Go.bits .or .u8 (two : Int) 8 = (y : Int) := or8i two 8 y (by rw [Nat.mod_eq_of_lt h2, ← hy])
      have hc : chk one two r one y r = true := by rw [← hy]; exact all2_at (allB_at (allB_at (allB_at chk_two (show 3 < 6 by omega)) (show one < 64 by omega)) (show two < 64 by omega)) r
      have hy64 : y < 64 := by rw [← hy]; simpa using allB_at (allB_at or_lt (show 3 < 6 by omega)) (show two < 64 by omega)
      clear hy
      go_wp2_with fail
      go_region
      all_goals (go_wp2_with fail; go_meet; exact ⟨one, y, r, by omega, hy64, hc, by first | exact (hT.set 1 (.int .u8 y) _ rfl) | exact (hT.set 1 (.int .u8 y) _ rfl).drew | exact (hT.drew.set 1 (.int .u8 y) _ rfl)⟩)
    · obtain ⟨y, hy⟩ : ∃ y, two ||| 2 ^ 4 = y := ⟨_, rfl⟩
      have hor : Go.bits .or .u8 (two : Int) 16 = (y : Int) := or8i two 16 y (by rw [Nat.mod_eq_of_lt h2, ← hy])
      have hc : chk one two r one y r = true := by rw [← hy]; exact all2_at (allB_at (allB_at (allB_at chk_two (show 4 < 6 by omega)) (show one < 64 by omega)) (show two < 64 by omega)) r
      have hy64 : y < 64 := by rw [← hy]; simpa using allB_at (allB_at or_lt (show 4 < 6 by omega)) (show two < 64 by omega)
      clear hy
      go_wp2_with fail
      go_region
      all_goals (go_wp2_with fail; go_meet; exact ⟨one, y, r, by omega, hy64, hc, by first | exact (hT.set 1 (.int .u8 y) _ rfl) | exact (hT.set 1 (.int .u8 y) _ rfl).drew | exact (hT.drew.set 1 (.int .u8 y) _ rfl)⟩)
    · obtain ⟨y, hy⟩ : ∃ y, two ||| 2 ^ 5 = y := ⟨_, rfl⟩
      have hor : Go.bits .or .u8 (two : Int) 32 = (y : Int) := or8i two 32 y (by rw [Nat.mod_eq_of_lt h2, ← hy])
      have hc : chk one two r one y r = true := by rw [← hy]; exact all2_at (allB_at (allB_at (allB_at chk_two (show 5 < 6 by omega)) (show one < 64 by omega)) (show two < 64 by omega)) r
      have hy64 : y < 64 := by rw [← hy]; simpa using allB_at (allB_at or_lt (show 5 < 6 by omega)) (show two < 64 by omega)
      clear hy
      go_wp2_with fail
      go_region
      all_goals (go_wp2_with fail; go_meet; exact ⟨one, y, r, by omega, hy64, hc, by first | exact (hT.set 1 (.int .u8 y) _ rfl) | exact (hT.set 1 (.int .u8 y) _ rfl).drew | exact (hT.drew.set 1 (.int .u8 y) _ rfl)⟩)
    · have hc : chk one two r one two true = true := all2_at (allB_at (allB_at chk_r (show one < 64 by omega)) (show two < 64 by omega)) r
      go_wp2_with fail
      go_meet
      exact ⟨one, two, true, by omega, by omega, hc, hT.set 3 (.bool true) _ rfl⟩
  case rest =>
    obtain ⟨x, y, b, hx, hy, hc, hT2⟩ := hcut
    have hc' := hc
    unfold chk at hc'
    simp only [Bool.and_eq_true, beq_iff_eq] at hc'
    obtain ⟨an0, an1, htot⟩ := hc'
    have hp1 := port_e one two p r h1 h2
    have hp2 := port_e x y p b (by omega) (by omega)
    have hp3 := port_o one two p r h1 h2
    have hp4 := port_o x y p b (by omega) (by omega)
    have bA0 : pE one two < 256 := by unfold pE; omega
    have bB0 : pE x y < 256 := by unfold pE; omega
    have bA1 : pO two r < 256 := by unfold pO; omega
    have bB1 : pO y b < 256 := by unfold pO; omega
    generalize pE one two = A0 at *
    generalize pE x y = B0 at *
    generalize pO two r = A1 at *
    generalize pO y b = B1 at *
    have AN0 : Hid (Go.bits .andNot .u8 (B0 : Int) (A0 : Int) = 0) := Lib.hid (by rw [Kit.andn8, Nat.mod_eq_of_lt bB0, Nat.mod_eq_of_lt bA0, an0]; rfl)
    have AN1 : Hid (Go.bits .andNot .u8 (B1 : Int) (A1 : Int) = 0) := Lib.hid (by rw [Kit.andn8, Nat.mod_eq_of_lt bB1, Nat.mod_eq_of_lt bA1, an1]; rfl)
    have L0 : Hid (A0 ^^^ B0 < 256) := Lib.hid (show A0 ^^^ B0 < 2 ^ 8 from Nat.xor_lt_two_pow bA0 bB0)
    have L1 : Hid (A1 ^^^ B1 < 256) := Lib.hid (show A1 ^^^ B1 < 2 ^ 8 from Nat.xor_lt_two_pow bA1 bB1)
    have XO0 : Hid (Go.bits .xor .u8 (A0 : Int) (B0 : Int) = ((A0 ^^^ B0 : Nat) : Int)) := Lib.hid (by rw [Kit.xor8, Nat.mod_eq_of_lt bA0, Nat.mod_eq_of_lt bB0])
    have XO1 : Hid (Go.bits .xor .u8 (A1 : Int) (B1 : Int) = ((A1 ^^^ B1 : Nat) : Int)) := Lib.hid (by rw [Kit.xor8, Nat.mod_eq_of_lt bA1, Nat.mod_eq_of_lt bB1])
    generalize A0 ^^^ B0 = d0 at *
    generalize A1 ^^^ B1 = d1 at *
    obtain ⟨t0, ht0⟩ : ∃ t0, pop d0 = t0 := ⟨_, rfl⟩
    obtain ⟨t01, ht01⟩ : ∃ t01, t0 + pop d1 = t01 := ⟨_, rfl⟩
    have E0 : Hid (0 + pop d0 = t0) := Lib.hid (by omega)
    have E1 : Hid (t0 + pop d1 = t01) := Lib.hid ht01
    have z0 : t0 ≤ 8 := by have := pop_le d0; omega
    have z1 : t01 ≤ 16 := by have := pop_le d1; omega
    rw [ht0, ht01] at htot
    have HTOT := Lib.hid htot
    have P1 := Lib.hid hp1
    have P2 := Lib.hid hp2
    have P3 := Lib.hid hp3
    have P4 := Lib.hid hp4
    clear an0 an1 hc htot hp1 hp2 hp3 hp4 ht0 ht01
    go_wp2_with fail
    go_loopw [6, 47] (fun c i wr => ∃ ii : Nat, ii ≤ 2 ∧ i = .int .i64 ii ∧ c = .int .i64 ((if ii = 0 then 0 else if ii = 1 then t0 else t01 : Nat)) ∧ HT w #[.int .u8 one, .int .u8 two, .bool p, .bool r] mb #[.int .u8 x, .int .u8 y, .bool p, .bool b] wr) (fun _ i _ => (2 - intOf i).toNat)
    case atStart => exact ⟨0, by omega, rfl, rfl, hT2⟩
    case round =>
      obtain ⟨ii, hi, rfl, rfl, hTr⟩ := hrel
      obtain ⟨q0, q1, q2, q3, q4, q5, q6, q7, q8, q9⟩ := HT.all hTr
      clear hT2 hT
      rcases (by omega : ii = 0 ∨ ii = 1 ∨ ii = 2) with rfl | rfl | rfl
      · have hix : ∀ w0, Sem.run Try.prog (Instr.index 26 (.agg #[.bool false, .bool true]) (.int .i64 0)) w0 = .ok (.bool false) w0 := fun w0 => index_run Try.underlying26 Try.underlying4 rfl (by kernel_rfl) _ _ _ _ (by omega) (by omega) (by rfl) w0
        have an := AN0.out
        have xo := XO0.out
        go_wp2_with fail
        go_region_held3 (fun W => W.cell? ⟨w.heap.size, 0, none⟩ = some (.int .u8 one) ∧ W.cell? ⟨w.heap.size, 1, none⟩ = some (.int .u8 two) ∧ W.cell? ⟨w.heap.size, 2, none⟩ = some (.bool p) ∧ W.cell? ⟨w.heap.size, 3, none⟩ = some (.bool r) ∧ W.cell? ⟨mb, 0, none⟩ = some (.int .u8 x) ∧ W.cell? ⟨mb, 1, none⟩ = some (.int .u8 y) ∧ W.cell? ⟨mb, 2, none⟩ = some (.bool p) ∧ W.cell? ⟨mb, 3, none⟩ = some (.bool b) ∧ mb < W.heap.size ∧ HT w #[.int .u8 one, .int .u8 two, .bool p, .bool r] mb #[.int .u8 x, .int .u8 y, .bool p, .bool b] W) (first | assumption | (exact HT.all (by repeat (first | assumption | refine HT.drew ?_ | refine HT.alloc ?_ _)))) ((go_at_call 6; (first | (with_reducible refine (P1.out _).mono ?_) | (with_reducible refine (P2.out _).mono ?_)); rintro e w6 ⟨rfl, o6, rfl⟩))
        all_goals
          go_wp2_with fail
          go_loopw [6, 11] (fun c d wi => ∃ cc dd : Nat, c = .int .i64 cc ∧ d = .int .u8 dd ∧ dd < 256 ∧ cc + pop dd = t0 ∧ HT w #[.int .u8 one, .int .u8 two, .bool p, .bool r] mb #[.int .u8 x, .int .u8 y, .bool p, .bool b] wi) (fun _ d _ => (intOf d).toNat)
          case atStart => exact ⟨0, d0, rfl, rfl, L0.out, E0.out, by repeat (first | assumption | refine HT.drew ?_ | refine HT.alloc ?_ _)⟩
          case round =>
            obtain ⟨cc, dd, rfl, rfl, hd, hs, hTi⟩ := hrel
            have pl := pop_le dd
            have ct : cc ≤ 16 := by omega
            by_cases h0 : 0 < dd
            case pos =>
              have hh := pop_half dd hd
              have hd2 : dd / 2 < 256 := by omega
              have hm2 : dd % 2 < 2 := by omega
              have hsn : cc + dd % 2 + pop (dd / 2) = t0 := by omega
              have HSN := Lib.hid hsn
              clear hsn hs hh pl
              go_wp2_with fail
              go_roundw
              case rel => exact ⟨cc + dd % 2, dd / 2, by first | rfl | (congr 1; omega), by first | rfl | (congr 1; omega), hd2, HSN.out, hTi⟩
              case measure => simp [intOf] <;> omega
            case neg =>
              have hz : dd = 0 := by omega
              subst hz
              have hcc : cc = t0 := by have : pop 0 = 0 := rfl; omega
              clear hs pl h0 ct hd
              subst hcc
              go_wp2_with fail
              go_roundw
              case rel => exact ⟨1, by omega, rfl, rfl, hTi⟩
              case measure => simp [intOf] <;> omega
      · have hix : ∀ w0, Sem.run Try.prog (Instr.index 26 (.agg #[.bool false, .bool true]) (.int .i64 1)) w0 = .ok (.bool true) w0 := fun w0 => index_run Try.underlying26 Try.underlying4 rfl (by kernel_rfl) _ _ _ _ (by omega) (by omega) (by rfl) w0
        have an := AN1.out
        have xo := XO1.out
        go_wp2_with fail
        go_region_held3 (fun W => W.cell? ⟨w.heap.size, 0, none⟩ = some (.int .u8 one) ∧ W.cell? ⟨w.heap.size, 1, none⟩ = some (.int .u8 two) ∧ W.cell? ⟨w.heap.size, 2, none⟩ = some (.bool p) ∧ W.cell? ⟨w.heap.size, 3, none⟩ = some (.bool r) ∧ W.cell? ⟨mb, 0, none⟩ = some (.int .u8 x) ∧ W.cell? ⟨mb, 1, none⟩ = some (.int .u8 y) ∧ W.cell? ⟨mb, 2, none⟩ = some (.bool p) ∧ W.cell? ⟨mb, 3, none⟩ = some (.bool b) ∧ mb < W.heap.size ∧ HT w #[.int .u8 one, .int .u8 two, .bool p, .bool r] mb #[.int .u8 x, .int .u8 y, .bool p, .bool b] W) (first | assumption | (exact HT.all (by repeat (first | assumption | refine HT.drew ?_ | refine HT.alloc ?_ _)))) ((go_at_call 6; (first | (with_reducible refine (P3.out _).mono ?_) | (with_reducible refine (P4.out _).mono ?_)); rintro e w6 ⟨rfl, o6, rfl⟩))
        all_goals
          go_wp2_with fail
          go_loopw [6, 11] (fun c d wi => ∃ cc dd : Nat, c = .int .i64 cc ∧ d = .int .u8 dd ∧ dd < 256 ∧ cc + pop dd = t01 ∧ HT w #[.int .u8 one, .int .u8 two, .bool p, .bool r] mb #[.int .u8 x, .int .u8 y, .bool p, .bool b] wi) (fun _ d _ => (intOf d).toNat)
          case atStart => exact ⟨t0, d1, rfl, rfl, L1.out, E1.out, by repeat (first | assumption | refine HT.drew ?_ | refine HT.alloc ?_ _)⟩
          case round =>
            obtain ⟨cc, dd, rfl, rfl, hd, hs, hTi⟩ := hrel
            have pl := pop_le dd
            have ct : cc ≤ 16 := by omega
            by_cases h0 : 0 < dd
            case pos =>
              have hh := pop_half dd hd
              have hd2 : dd / 2 < 256 := by omega
              have hm2 : dd % 2 < 2 := by omega
              have hsn : cc + dd % 2 + pop (dd / 2) = t01 := by omega
              have HSN := Lib.hid hsn
              clear hsn hs hh pl
              go_wp2_with fail
              go_roundw
              case rel => exact ⟨cc + dd % 2, dd / 2, by first | rfl | (congr 1; omega), by first | rfl | (congr 1; omega), hd2, HSN.out, hTi⟩
              case measure => simp [intOf] <;> omega
            case neg =>
              have hz : dd = 0 := by omega
              subst hz
              have hcc : cc = t01 := by have : pop 0 = 0 := rfl; omega
              clear hs pl h0 ct hd
              subst hcc
              go_wp2_with fail
              go_roundw
              case rel => exact ⟨2, by omega, rfl, rfl, hTi⟩
              case measure => simp [intOf] <;> omega
      · have hsame : ∀ w0, (Op.equalIn 10000 23 (.agg #[.int .u8 x, .int .u8 y, .bool p, .bool b]) (.agg #[.int .u8 one, .int .u8 two, .bool p, .bool r])).run Try.prog w0 = .ok (one == x && (two == y && r == b)) w0 := fun w0 => eqI x y p b one two r (by omega) (by omega) h1 h2 w0
        have tot := HTOT.out
        cases hsm : (one == x && (two == y && r == b))
        all_goals
          rw [hsm] at hsame tot
          simp only [cond_true, cond_false] at tot
          subst tot
          go_wp2_with fail
          go_ret
          exact ⟨ret_bool (by simp), hTr.2.2.2⟩
end Pads
end Go.Proofs.Ytlbcjbnknegcnaa
