/- The reference's words of two bytes, bit by bit (layer 6). No conditions but that bytes are bytes. -/
import Derived.Test.YtibahlpphnokkaaSums
import Derived.Deep.QuietTactic
import Derived.BigQuiet
namespace Go.Proofs.Ytibahlpphnokkaa
open Go.RowKit
open Kit R06 Pop
set_option linter.unusedSimpArgs false
set_option linter.unusedVariables false
namespace Logic
theorem below_dn {w : World} (n : Nat) : Below w.heap.size w (w.drewN n) := (Below.refl _ w).trans ⟨rfl, rfl, rfl, Nat.le_refl _, fun _ _ => rfl⟩
/-- The bits of a number from place j + 1 on. -/
def sh (r : Nat) (j : Int) : Nat := r / 2 ^ (j + 1).toNat
theorem sh_step (r : Nat) (j : Nat) : sh r ((j : Int) - 1) = 2 * sh r j + r / 2 ^ j % 2 := by
  unfold sh
  rw [show ((j : Int) - 1 + 1).toNat = j from by omega, show ((j : Int) + 1).toNat = j + 1 from by omega, Nat.pow_succ, ← Nat.div_div_eq_div_mul]
  omega
theorem sh_top (r : Nat) (h : r < 256) : sh r 7 = 0 := by unfold sh; show r / 256 = 0; omega
theorem sh_end (r : Nat) : sh r (-1) = r := by unfold sh; show r / 1 = r; omega
theorem sh_lt (r : Nat) (h : r < 256) (j : Int) (hj : 0 ≤ j) : sh r j < 128 := by
  unfold sh
  have : 2 ^ 1 ≤ 2 ^ (j + 1).toNat := Nat.pow_le_pow_right (by decide) (by omega)
  have h2 : r / 2 ^ (j + 1).toNat ≤ r / 2 ^ 1 := Nat.div_le_div_left this (by decide)
  omega
theorem two_and : ∀ x y : Nat, (x &&& y) % 2 = (x % 2) * (y % 2) := by
  intro x y
  have h := Nat.and_mod_two_pow (a := x) (b := y) (n := 1)
  simp only [Nat.pow_one] at h
  rw [h]
  rcases (show x % 2 = 0 ∨ x % 2 = 1 by omega) with h1 | h1 <;> rcases (show y % 2 = 0 ∨ y % 2 = 1 by omega) with h2 | h2 <;> rw [h1, h2] <;> rfl
theorem two_xor : ∀ x y : Nat, (x ^^^ y) % 2 = (x % 2 + y % 2) % 2 := by
  intro x y
  have h := Nat.xor_mod_two_pow (a := x) (b := y) (n := 1)
  simp only [Nat.pow_one] at h
  rw [h]
  rcases (show x % 2 = 0 ∨ x % 2 = 1 by omega) with h1 | h1 <;> rcases (show y % 2 = 0 ∨ y % 2 = 1 by omega) with h2 | h2 <;> rw [h1, h2] <;> rfl
theorem two_or : ∀ x y : Nat, (x ||| y) % 2 = (x % 2 + y % 2 + 1) / 2 := by
  intro x y
  have h := Nat.or_mod_two_pow (a := x) (b := y) (n := 1)
  simp only [Nat.pow_one] at h
  rw [h]
  rcases (show x % 2 = 0 ∨ x % 2 = 1 by omega) with h1 | h1 <;> rcases (show y % 2 = 0 ∨ y % 2 = 1 by omega) with h2 | h2 <;> rw [h1, h2] <;> rfl
set_option maxRecDepth 100000 in
set_option maxHeartbeats 4000000 in
theorem and_any (a b : Nat) (ha : a < 256) (hb : b < 256) (w : World) : Calls Try.prog 31 #[.int .i64 4, .int .u8 a, .int .u8 b] w fun e w' =>
    e = .returned (.tuple #[.int .u8 (a &&& b : Nat), .int .u8 (Sums.lgF (a &&& b : Nat) true)]) ∧ Below w.heap.size w w' := by
  obtain ⟨r, hr'⟩ : ∃ r, r = a &&& b := ⟨_, rfl⟩
  have hr : r < 256 := by rw [hr']; exact Nat.and_lt_two_pow (n := 8) _ hb
  rw [← hr']
  have HR := Lib.hid hr'
  clear hr'
  go_enter Try.func31, Try.ntmps31
  go_wp2
  go_loopw [8, 9] (fun v i wr => ∃ j : Int, -1 ≤ j ∧ j ≤ 7 ∧ i = .int .i64 j ∧ v = .int .u8 (sh r j : Nat) ∧ ∃ n, wr = w.drewN n) (fun _ i _ => (intOf i + 1).toNat)
  case atStart => exact ⟨7, by decide, by decide, rfl, by rw [sh_top _ hr]; rfl, 0, rfl⟩
  case round =>
    obtain ⟨j, hj0, hj1, rfl, rfl, n, rfl⟩ := hrel
    have hc : j = 7 ∨ j = 6 ∨ j = 5 ∨ j = 4 ∨ j = 3 ∨ j = 2 ∨ j = 1 ∨ j = 0 ∨ j = -1 := by omega
    clear hj0 hj1
    rcases hc with rfl | rfl | rfl | rfl | rfl | rfl | rfl | rfl | rfl
    · have s1 := sh_step (a &&& b) 7
      rw [Nat.and_div_two_pow, two_and] at s1
      rw [← HR.out] at s1
      have s2 := sh_lt r hr 7 (by decide)
      simp only [Nat.reducePow] at s1
      rcases (show a / 128 % 2 = 0 ∨ a / 128 % 2 = 1 by omega) with ea | ea
      all_goals
        rcases (show b / 128 % 2 = 0 ∨ b / 128 % 2 = 1 by omega) with eb | eb
        all_goals
          rw [ea, eb] at s1
          have S1 := Lib.hid s1
          have fa : (a : Int) / 128 % 2 = (a / 128 % 2 : Nat) := by omega
          have fb : (b : Int) / 128 % 2 = (b / 128 % 2 : Nat) := by omega
          rw [ea] at fa
          rw [eb] at fb
          skip
          skip
          skip
          skip
          clear s1 ea eb
          go_wp2_with fail
          go_quiet (fail)
          go_wp2
          go_roundw
          case rel => exact ⟨6, by decide, by decide, rfl, by rw [show ((7 : Nat) : Int) - 1 = 6 from by decide] at S1; rw [S1.out]; go_num, ⟨_, rfl⟩⟩
          case measure => simp [intOf]
    · have s1 := sh_step (a &&& b) 6
      rw [Nat.and_div_two_pow, two_and] at s1
      rw [← HR.out] at s1
      have s2 := sh_lt r hr 6 (by decide)
      simp only [Nat.reducePow] at s1
      rcases (show a / 64 % 2 = 0 ∨ a / 64 % 2 = 1 by omega) with ea | ea
      all_goals
        rcases (show b / 64 % 2 = 0 ∨ b / 64 % 2 = 1 by omega) with eb | eb
        all_goals
          rw [ea, eb] at s1
          have S1 := Lib.hid s1
          have fa : (a : Int) / 64 % 2 = (a / 64 % 2 : Nat) := by omega
          have fb : (b : Int) / 64 % 2 = (b / 64 % 2 : Nat) := by omega
          rw [ea] at fa
          rw [eb] at fb
          skip
          skip
          skip
          skip
          clear s1 ea eb
          go_wp2_with fail
          go_quiet (fail)
          go_wp2
          go_roundw
          case rel => exact ⟨5, by decide, by decide, rfl, by rw [show ((6 : Nat) : Int) - 1 = 5 from by decide] at S1; rw [S1.out]; go_num, ⟨_, rfl⟩⟩
          case measure => simp [intOf]
    · have s1 := sh_step (a &&& b) 5
      rw [Nat.and_div_two_pow, two_and] at s1
      rw [← HR.out] at s1
      have s2 := sh_lt r hr 5 (by decide)
      simp only [Nat.reducePow] at s1
      rcases (show a / 32 % 2 = 0 ∨ a / 32 % 2 = 1 by omega) with ea | ea
      all_goals
        rcases (show b / 32 % 2 = 0 ∨ b / 32 % 2 = 1 by omega) with eb | eb
        all_goals
          rw [ea, eb] at s1
          have S1 := Lib.hid s1
          have fa : (a : Int) / 32 % 2 = (a / 32 % 2 : Nat) := by omega
          have fb : (b : Int) / 32 % 2 = (b / 32 % 2 : Nat) := by omega
          rw [ea] at fa
          rw [eb] at fb
          skip
          skip
          skip
          skip
          clear s1 ea eb
          go_wp2_with fail
          go_quiet (fail)
          go_wp2
          go_roundw
          case rel => exact ⟨4, by decide, by decide, rfl, by rw [show ((5 : Nat) : Int) - 1 = 4 from by decide] at S1; rw [S1.out]; go_num, ⟨_, rfl⟩⟩
          case measure => simp [intOf]
    · have s1 := sh_step (a &&& b) 4
      rw [Nat.and_div_two_pow, two_and] at s1
      rw [← HR.out] at s1
      have s2 := sh_lt r hr 4 (by decide)
      simp only [Nat.reducePow] at s1
      rcases (show a / 16 % 2 = 0 ∨ a / 16 % 2 = 1 by omega) with ea | ea
      all_goals
        rcases (show b / 16 % 2 = 0 ∨ b / 16 % 2 = 1 by omega) with eb | eb
        all_goals
          rw [ea, eb] at s1
          have S1 := Lib.hid s1
          have fa : (a : Int) / 16 % 2 = (a / 16 % 2 : Nat) := by omega
          have fb : (b : Int) / 16 % 2 = (b / 16 % 2 : Nat) := by omega
          rw [ea] at fa
          rw [eb] at fb
          skip
          skip
          skip
          skip
          clear s1 ea eb
          go_wp2_with fail
          go_quiet (fail)
          go_wp2
          go_roundw
          case rel => exact ⟨3, by decide, by decide, rfl, by rw [show ((4 : Nat) : Int) - 1 = 3 from by decide] at S1; rw [S1.out]; go_num, ⟨_, rfl⟩⟩
          case measure => simp [intOf]
    · have s1 := sh_step (a &&& b) 3
      rw [Nat.and_div_two_pow, two_and] at s1
      rw [← HR.out] at s1
      have s2 := sh_lt r hr 3 (by decide)
      simp only [Nat.reducePow] at s1
      rcases (show a / 8 % 2 = 0 ∨ a / 8 % 2 = 1 by omega) with ea | ea
      all_goals
        rcases (show b / 8 % 2 = 0 ∨ b / 8 % 2 = 1 by omega) with eb | eb
        all_goals
          rw [ea, eb] at s1
          have S1 := Lib.hid s1
          have fa : (a : Int) / 8 % 2 = (a / 8 % 2 : Nat) := by omega
          have fb : (b : Int) / 8 % 2 = (b / 8 % 2 : Nat) := by omega
          rw [ea] at fa
          rw [eb] at fb
          skip
          skip
          skip
          skip
          clear s1 ea eb
          go_wp2_with fail
          go_quiet (fail)
          go_wp2
          go_roundw
          case rel => exact ⟨2, by decide, by decide, rfl, by rw [show ((3 : Nat) : Int) - 1 = 2 from by decide] at S1; rw [S1.out]; go_num, ⟨_, rfl⟩⟩
          case measure => simp [intOf]
    · have s1 := sh_step (a &&& b) 2
      rw [Nat.and_div_two_pow, two_and] at s1
      rw [← HR.out] at s1
      have s2 := sh_lt r hr 2 (by decide)
      simp only [Nat.reducePow] at s1
      rcases (show a / 4 % 2 = 0 ∨ a / 4 % 2 = 1 by omega) with ea | ea
      all_goals
        rcases (show b / 4 % 2 = 0 ∨ b / 4 % 2 = 1 by omega) with eb | eb
        all_goals
          rw [ea, eb] at s1
          have S1 := Lib.hid s1
          have fa : (a : Int) / 4 % 2 = (a / 4 % 2 : Nat) := by omega
          have fb : (b : Int) / 4 % 2 = (b / 4 % 2 : Nat) := by omega
          rw [ea] at fa
          rw [eb] at fb
          skip
          skip
          skip
          skip
          clear s1 ea eb
          go_wp2_with fail
          go_quiet (fail)
          go_wp2
          go_roundw
          case rel => exact ⟨1, by decide, by decide, rfl, by rw [show ((2 : Nat) : Int) - 1 = 1 from by decide] at S1; rw [S1.out]; go_num, ⟨_, rfl⟩⟩
          case measure => simp [intOf]
    · have s1 := sh_step (a &&& b) 1
      rw [Nat.and_div_two_pow, two_and] at s1
      rw [← HR.out] at s1
      have s2 := sh_lt r hr 1 (by decide)
      simp only [Nat.reducePow] at s1
      rcases (show a / 2 % 2 = 0 ∨ a / 2 % 2 = 1 by omega) with ea | ea
      all_goals
        rcases (show b / 2 % 2 = 0 ∨ b / 2 % 2 = 1 by omega) with eb | eb
        all_goals
          rw [ea, eb] at s1
          have S1 := Lib.hid s1
          have fa : (a : Int) / 2 % 2 = (a / 2 % 2 : Nat) := by omega
          have fb : (b : Int) / 2 % 2 = (b / 2 % 2 : Nat) := by omega
          rw [ea] at fa
          rw [eb] at fb
          skip
          skip
          skip
          skip
          clear s1 ea eb
          go_wp2_with fail
          go_quiet (fail)
          go_wp2
          go_roundw
          case rel => exact ⟨0, by decide, by decide, rfl, by rw [show ((1 : Nat) : Int) - 1 = 0 from by decide] at S1; rw [S1.out]; go_num, ⟨_, rfl⟩⟩
          case measure => simp [intOf]
    · have s1 := sh_step (a &&& b) 0
      rw [Nat.and_div_two_pow, two_and] at s1
      rw [← HR.out] at s1
      have s2 := sh_lt r hr 0 (by decide)
      simp only [Nat.reducePow] at s1
      rcases (show a / 1 % 2 = 0 ∨ a / 1 % 2 = 1 by omega) with ea | ea
      all_goals
        rcases (show b / 1 % 2 = 0 ∨ b / 1 % 2 = 1 by omega) with eb | eb
        all_goals
          rw [ea, eb] at s1
          have S1 := Lib.hid s1
          have fa : (a : Int) / 1 % 2 = (a / 1 % 2 : Nat) := by omega
          have fb : (b : Int) / 1 % 2 = (b / 1 % 2 : Nat) := by omega
          rw [ea] at fa
          rw [eb] at fb
          have fa' : (a : Int) % 2 = (a / 1 % 2 : Nat) := by omega
          have fb' : (b : Int) % 2 = (b / 1 % 2 : Nat) := by omega
          rw [ea] at fa'
          rw [eb] at fb'
          clear s1 ea eb
          go_wp2_with fail
          go_quiet (fail)
          go_wp2
          go_roundw
          case rel => exact ⟨-1, by decide, by decide, rfl, by rw [show ((0 : Nat) : Int) - 1 = -1 from by decide] at S1; rw [S1.out]; go_num, ⟨_, rfl⟩⟩
          case measure => simp [intOf]
    · rw [sh_end]
      go_wp2_with (first | (go_at_call 20; with_reducible refine (R06.shape_any _ (by omega) (by omega) _).mono ?_; rintro e w' ⟨rfl, o1, rfl⟩) | (go_at_call 17; with_reducible refine (rparity_any _ (by omega) (by omega) _).mono ?_; rintro e w' ⟨rfl, rfl⟩) | (go_at_call 19; with_reducible refine (R06.byte_any _ _ _ _ _ _ _ _ _).mono ?_; rintro e w' ⟨rfl, o5, rfl⟩))
      go_ret2
      exact ⟨ret_int2 rfl rfl, by (go_grown; exact below_dn n)⟩
set_option maxRecDepth 100000 in
set_option maxHeartbeats 4000000 in
theorem xor_any (a b : Nat) (ha : a < 256) (hb : b < 256) (w : World) : Calls Try.prog 31 #[.int .i64 5, .int .u8 a, .int .u8 b] w fun e w' =>
    e = .returned (.tuple #[.int .u8 (a ^^^ b : Nat), .int .u8 (Sums.lgF (a ^^^ b : Nat) false)]) ∧ Below w.heap.size w w' := by
  obtain ⟨r, hr'⟩ : ∃ r, r = a ^^^ b := ⟨_, rfl⟩
  have hr : r < 256 := by rw [hr']; exact Nat.xor_lt_two_pow (n := 8) ha hb
  rw [← hr']
  have HR := Lib.hid hr'
  clear hr'
  go_enter Try.func31, Try.ntmps31
  go_wp2
  go_loopw [8, 9] (fun v i wr => ∃ j : Int, -1 ≤ j ∧ j ≤ 7 ∧ i = .int .i64 j ∧ v = .int .u8 (sh r j : Nat) ∧ ∃ n, wr = w.drewN n) (fun _ i _ => (intOf i + 1).toNat)
  case atStart => exact ⟨7, by decide, by decide, rfl, by rw [sh_top _ hr]; rfl, 0, rfl⟩
  case round =>
    obtain ⟨j, hj0, hj1, rfl, rfl, n, rfl⟩ := hrel
    have hc : j = 7 ∨ j = 6 ∨ j = 5 ∨ j = 4 ∨ j = 3 ∨ j = 2 ∨ j = 1 ∨ j = 0 ∨ j = -1 := by omega
    clear hj0 hj1
    rcases hc with rfl | rfl | rfl | rfl | rfl | rfl | rfl | rfl | rfl
    · have s1 := sh_step (a ^^^ b) 7
      rw [Nat.xor_div_two_pow, two_xor] at s1
      rw [← HR.out] at s1
      have s2 := sh_lt r hr 7 (by decide)
      simp only [Nat.reducePow] at s1
      rcases (show a / 128 % 2 = 0 ∨ a / 128 % 2 = 1 by omega) with ea | ea
      all_goals
        rcases (show b / 128 % 2 = 0 ∨ b / 128 % 2 = 1 by omega) with eb | eb
        all_goals
          rw [ea, eb] at s1
          have S1 := Lib.hid s1
          have fa : (a : Int) / 128 % 2 = (a / 128 % 2 : Nat) := by omega
          have fb : (b : Int) / 128 % 2 = (b / 128 % 2 : Nat) := by omega
          rw [ea] at fa
          rw [eb] at fb
          skip
          skip
          skip
          skip
          clear s1 ea eb
          go_wp2_with fail
          go_quiet (fail)
          go_wp2
          go_roundw
          case rel => exact ⟨6, by decide, by decide, rfl, by rw [show ((7 : Nat) : Int) - 1 = 6 from by decide] at S1; rw [S1.out]; go_num, ⟨_, rfl⟩⟩
          case measure => simp [intOf]
    · have s1 := sh_step (a ^^^ b) 6
      rw [Nat.xor_div_two_pow, two_xor] at s1
      rw [← HR.out] at s1
      have s2 := sh_lt r hr 6 (by decide)
      simp only [Nat.reducePow] at s1
      rcases (show a / 64 % 2 = 0 ∨ a / 64 % 2 = 1 by omega) with ea | ea
      all_goals
        rcases (show b / 64 % 2 = 0 ∨ b / 64 % 2 = 1 by omega) with eb | eb
        all_goals
          rw [ea, eb] at s1
          have S1 := Lib.hid s1
          have fa : (a : Int) / 64 % 2 = (a / 64 % 2 : Nat) := by omega
          have fb : (b : Int) / 64 % 2 = (b / 64 % 2 : Nat) := by omega
          rw [ea] at fa
          rw [eb] at fb
          skip
          skip
          skip
          skip
          clear s1 ea eb
          go_wp2_with fail
          go_quiet (fail)
          go_wp2
          go_roundw
          case rel => exact ⟨5, by decide, by decide, rfl, by rw [show ((6 : Nat) : Int) - 1 = 5 from by decide] at S1; rw [S1.out]; go_num, ⟨_, rfl⟩⟩
          case measure => simp [intOf]
    · have s1 := sh_step (a ^^^ b) 5
      rw [Nat.xor_div_two_pow, two_xor] at s1
      rw [← HR.out] at s1
      have s2 := sh_lt r hr 5 (by decide)
      simp only [Nat.reducePow] at s1
      rcases (show a / 32 % 2 = 0 ∨ a / 32 % 2 = 1 by omega) with ea | ea
      all_goals
        rcases (show b / 32 % 2 = 0 ∨ b / 32 % 2 = 1 by omega) with eb | eb
        all_goals
          rw [ea, eb] at s1
          have S1 := Lib.hid s1
          have fa : (a : Int) / 32 % 2 = (a / 32 % 2 : Nat) := by omega
          have fb : (b : Int) / 32 % 2 = (b / 32 % 2 : Nat) := by omega
          rw [ea] at fa
          rw [eb] at fb
          skip
          skip
          skip
          skip
          clear s1 ea eb
          go_wp2_with fail
          go_quiet (fail)
          go_wp2
          go_roundw
          case rel => exact ⟨4, by decide, by decide, rfl, by rw [show ((5 : Nat) : Int) - 1 = 4 from by decide] at S1; rw [S1.out]; go_num, ⟨_, rfl⟩⟩
          case measure => simp [intOf]
    · have s1 := sh_step (a ^^^ b) 4
      rw [Nat.xor_div_two_pow, two_xor] at s1
      rw [← HR.out] at s1
      have s2 := sh_lt r hr 4 (by decide)
      simp only [Nat.reducePow] at s1
      rcases (show a / 16 % 2 = 0 ∨ a / 16 % 2 = 1 by omega) with ea | ea
      all_goals
        rcases (show b / 16 % 2 = 0 ∨ b / 16 % 2 = 1 by omega) with eb | eb
        all_goals
          rw [ea, eb] at s1
          have S1 := Lib.hid s1
          have fa : (a : Int) / 16 % 2 = (a / 16 % 2 : Nat) := by omega
          have fb : (b : Int) / 16 % 2 = (b / 16 % 2 : Nat) := by omega
          rw [ea] at fa
          rw [eb] at fb
          skip
          skip
          skip
          skip
          clear s1 ea eb
          go_wp2_with fail
          go_quiet (fail)
          go_wp2
          go_roundw
          case rel => exact ⟨3, by decide, by decide, rfl, by rw [show ((4 : Nat) : Int) - 1 = 3 from by decide] at S1; rw [S1.out]; go_num, ⟨_, rfl⟩⟩
          case measure => simp [intOf]
    · have s1 := sh_step (a ^^^ b) 3
      rw [Nat.xor_div_two_pow, two_xor] at s1
      rw [← HR.out] at s1
      have s2 := sh_lt r hr 3 (by decide)
      simp only [Nat.reducePow] at s1
      rcases (show a / 8 % 2 = 0 ∨ a / 8 % 2 = 1 by omega) with ea | ea
      all_goals
        rcases (show b / 8 % 2 = 0 ∨ b / 8 % 2 = 1 by omega) with eb | eb
        all_goals
          rw [ea, eb] at s1
          have S1 := Lib.hid s1
          have fa : (a : Int) / 8 % 2 = (a / 8 % 2 : Nat) := by omega
          have fb : (b : Int) / 8 % 2 = (b / 8 % 2 : Nat) := by omega
          rw [ea] at fa
          rw [eb] at fb
          skip
          skip
          skip
          skip
          clear s1 ea eb
          go_wp2_with fail
          go_quiet (fail)
          go_wp2
          go_roundw
          case rel => exact ⟨2, by decide, by decide, rfl, by rw [show ((3 : Nat) : Int) - 1 = 2 from by decide] at S1; rw [S1.out]; go_num, ⟨_, rfl⟩⟩
          case measure => simp [intOf]
    · have s1 := sh_step (a ^^^ b) 2
      rw [Nat.xor_div_two_pow, two_xor] at s1
      rw [← HR.out] at s1
      have s2 := sh_lt r hr 2 (by decide)
      simp only [Nat.reducePow] at s1
      rcases (show a / 4 % 2 = 0 ∨ a / 4 % 2 = 1 by omega) with ea | ea
      all_goals
        rcases (show b / 4 % 2 = 0 ∨ b / 4 % 2 = 1 by omega) with eb | eb
        all_goals
          rw [ea, eb] at s1
          have S1 := Lib.hid s1
          have fa : (a : Int) / 4 % 2 = (a / 4 % 2 : Nat) := by omega
          have fb : (b : Int) / 4 % 2 = (b / 4 % 2 : Nat) := by omega
          rw [ea] at fa
          rw [eb] at fb
          skip
          skip
          skip
          skip
          clear s1 ea eb
          go_wp2_with fail
          go_quiet (fail)
          go_wp2
          go_roundw
          case rel => exact ⟨1, by decide, by decide, rfl, by rw [show ((2 : Nat) : Int) - 1 = 1 from by decide] at S1; rw [S1.out]; go_num, ⟨_, rfl⟩⟩
          case measure => simp [intOf]
    · have s1 := sh_step (a ^^^ b) 1
      rw [Nat.xor_div_two_pow, two_xor] at s1
      rw [← HR.out] at s1
      have s2 := sh_lt r hr 1 (by decide)
      simp only [Nat.reducePow] at s1
      rcases (show a / 2 % 2 = 0 ∨ a / 2 % 2 = 1 by omega) with ea | ea
      all_goals
        rcases (show b / 2 % 2 = 0 ∨ b / 2 % 2 = 1 by omega) with eb | eb
        all_goals
          rw [ea, eb] at s1
          have S1 := Lib.hid s1
          have fa : (a : Int) / 2 % 2 = (a / 2 % 2 : Nat) := by omega
          have fb : (b : Int) / 2 % 2 = (b / 2 % 2 : Nat) := by omega
          rw [ea] at fa
          rw [eb] at fb
          skip
          skip
          skip
          skip
          clear s1 ea eb
          go_wp2_with fail
          go_quiet (fail)
          go_wp2
          go_roundw
          case rel => exact ⟨0, by decide, by decide, rfl, by rw [show ((1 : Nat) : Int) - 1 = 0 from by decide] at S1; rw [S1.out]; go_num, ⟨_, rfl⟩⟩
          case measure => simp [intOf]
    · have s1 := sh_step (a ^^^ b) 0
      rw [Nat.xor_div_two_pow, two_xor] at s1
      rw [← HR.out] at s1
      have s2 := sh_lt r hr 0 (by decide)
      simp only [Nat.reducePow] at s1
      rcases (show a / 1 % 2 = 0 ∨ a / 1 % 2 = 1 by omega) with ea | ea
      all_goals
        rcases (show b / 1 % 2 = 0 ∨ b / 1 % 2 = 1 by omega) with eb | eb
        all_goals
          rw [ea, eb] at s1
          have S1 := Lib.hid s1
          have fa : (a : Int) / 1 % 2 = (a / 1 % 2 : Nat) := by omega
          have fb : (b : Int) / 1 % 2 = (b / 1 % 2 : Nat) := by omega
          rw [ea] at fa
          rw [eb] at fb
          have fa' : (a : Int) % 2 = (a / 1 % 2 : Nat) := by omega
          have fb' : (b : Int) % 2 = (b / 1 % 2 : Nat) := by omega
          rw [ea] at fa'
          rw [eb] at fb'
          clear s1 ea eb
          go_wp2_with fail
          go_quiet (fail)
          go_wp2
          go_roundw
          case rel => exact ⟨-1, by decide, by decide, rfl, by rw [show ((0 : Nat) : Int) - 1 = -1 from by decide] at S1; rw [S1.out]; go_num, ⟨_, rfl⟩⟩
          case measure => simp [intOf]
    · rw [sh_end]
      go_wp2_with (first | (go_at_call 20; with_reducible refine (R06.shape_any _ (by omega) (by omega) _).mono ?_; rintro e w' ⟨rfl, o1, rfl⟩) | (go_at_call 17; with_reducible refine (rparity_any _ (by omega) (by omega) _).mono ?_; rintro e w' ⟨rfl, rfl⟩) | (go_at_call 19; with_reducible refine (R06.byte_any _ _ _ _ _ _ _ _ _).mono ?_; rintro e w' ⟨rfl, o5, rfl⟩))
      go_ret2
      exact ⟨ret_int2 rfl rfl, by (go_grown; exact below_dn n)⟩
set_option maxRecDepth 100000 in
set_option maxHeartbeats 4000000 in
theorem or_any (a b : Nat) (ha : a < 256) (hb : b < 256) (w : World) : Calls Try.prog 31 #[.int .i64 6, .int .u8 a, .int .u8 b] w fun e w' =>
    e = .returned (.tuple #[.int .u8 (a ||| b : Nat), .int .u8 (Sums.lgF (a ||| b : Nat) false)]) ∧ Below w.heap.size w w' := by
  obtain ⟨r, hr'⟩ : ∃ r, r = a ||| b := ⟨_, rfl⟩
  have hr : r < 256 := by rw [hr']; exact Nat.or_lt_two_pow (n := 8) ha hb
  rw [← hr']
  have HR := Lib.hid hr'
  clear hr'
  go_enter Try.func31, Try.ntmps31
  go_wp2
  go_loopw [8, 9] (fun v i wr => ∃ j : Int, -1 ≤ j ∧ j ≤ 7 ∧ i = .int .i64 j ∧ v = .int .u8 (sh r j : Nat) ∧ ∃ n, wr = w.drewN n) (fun _ i _ => (intOf i + 1).toNat)
  case atStart => exact ⟨7, by decide, by decide, rfl, by rw [sh_top _ hr]; rfl, 0, rfl⟩
  case round =>
    obtain ⟨j, hj0, hj1, rfl, rfl, n, rfl⟩ := hrel
    have hc : j = 7 ∨ j = 6 ∨ j = 5 ∨ j = 4 ∨ j = 3 ∨ j = 2 ∨ j = 1 ∨ j = 0 ∨ j = -1 := by omega
    clear hj0 hj1
    rcases hc with rfl | rfl | rfl | rfl | rfl | rfl | rfl | rfl | rfl
    · have s1 := sh_step (a ||| b) 7
      rw [Nat.or_div_two_pow, two_or] at s1
      rw [← HR.out] at s1
      have s2 := sh_lt r hr 7 (by decide)
      simp only [Nat.reducePow] at s1
      rcases (show a / 128 % 2 = 0 ∨ a / 128 % 2 = 1 by omega) with ea | ea
      all_goals
        rcases (show b / 128 % 2 = 0 ∨ b / 128 % 2 = 1 by omega) with eb | eb
        all_goals
          rw [ea, eb] at s1
          have S1 := Lib.hid s1
          have fa : (a : Int) / 128 % 2 = (a / 128 % 2 : Nat) := by omega
          have fb : (b : Int) / 128 % 2 = (b / 128 % 2 : Nat) := by omega
          rw [ea] at fa
          rw [eb] at fb
          skip
          skip
          skip
          skip
          clear s1 ea eb
          go_wp2_with fail
          go_quiet (fail)
          go_wp2
          go_roundw
          case rel => exact ⟨6, by decide, by decide, rfl, by rw [show ((7 : Nat) : Int) - 1 = 6 from by decide] at S1; rw [S1.out]; go_num, ⟨_, rfl⟩⟩
          case measure => simp [intOf]
    · have s1 := sh_step (a ||| b) 6
      rw [Nat.or_div_two_pow, two_or] at s1
      rw [← HR.out] at s1
      have s2 := sh_lt r hr 6 (by decide)
      simp only [Nat.reducePow] at s1
      rcases (show a / 64 % 2 = 0 ∨ a / 64 % 2 = 1 by omega) with ea | ea
      all_goals
        rcases (show b / 64 % 2 = 0 ∨ b / 64 % 2 = 1 by omega) with eb | eb
        all_goals
          rw [ea, eb] at s1
          have S1 := Lib.hid s1
          have fa : (a : Int) / 64 % 2 = (a / 64 % 2 : Nat) := by omega
          have fb : (b : Int) / 64 % 2 = (b / 64 % 2 : Nat) := by omega
          rw [ea] at fa
          rw [eb] at fb
          skip
          skip
          skip
          skip
          clear s1 ea eb
          go_wp2_with fail
          go_quiet (fail)
          go_wp2
          go_roundw
          case rel => exact ⟨5, by decide, by decide, rfl, by rw [show ((6 : Nat) : Int) - 1 = 5 from by decide] at S1; rw [S1.out]; go_num, ⟨_, rfl⟩⟩
          case measure => simp [intOf]
    · have s1 := sh_step (a ||| b) 5
      rw [Nat.or_div_two_pow, two_or] at s1
      rw [← HR.out] at s1
      have s2 := sh_lt r hr 5 (by decide)
      simp only [Nat.reducePow] at s1
      rcases (show a / 32 % 2 = 0 ∨ a / 32 % 2 = 1 by omega) with ea | ea
      all_goals
        rcases (show b / 32 % 2 = 0 ∨ b / 32 % 2 = 1 by omega) with eb | eb
        all_goals
          rw [ea, eb] at s1
          have S1 := Lib.hid s1
          have fa : (a : Int) / 32 % 2 = (a / 32 % 2 : Nat) := by omega
          have fb : (b : Int) / 32 % 2 = (b / 32 % 2 : Nat) := by omega
          rw [ea] at fa
          rw [eb] at fb
          skip
          skip
          skip
          skip
          clear s1 ea eb
          go_wp2_with fail
          go_quiet (fail)
          go_wp2
          go_roundw
          case rel => exact ⟨4, by decide, by decide, rfl, by rw [show ((5 : Nat) : Int) - 1 = 4 from by decide] at S1; rw [S1.out]; go_num, ⟨_, rfl⟩⟩
          case measure => simp [intOf]
    · have s1 := sh_step (a ||| b) 4
      rw [Nat.or_div_two_pow, two_or] at s1
      rw [← HR.out] at s1
      have s2 := sh_lt r hr 4 (by decide)
      simp only [Nat.reducePow] at s1
      rcases (show a / 16 % 2 = 0 ∨ a / 16 % 2 = 1 by omega) with ea | ea
      all_goals
        rcases (show b / 16 % 2 = 0 ∨ b / 16 % 2 = 1 by omega) with eb | eb
        all_goals
          rw [ea, eb] at s1
          have S1 := Lib.hid s1
          have fa : (a : Int) / 16 % 2 = (a / 16 % 2 : Nat) := by omega
          have fb : (b : Int) / 16 % 2 = (b / 16 % 2 : Nat) := by omega
          rw [ea] at fa
          rw [eb] at fb
          skip
          skip
          skip
          skip
          clear s1 ea eb
          go_wp2_with fail
          go_quiet (fail)
          go_wp2
          go_roundw
          case rel => exact ⟨3, by decide, by decide, rfl, by rw [show ((4 : Nat) : Int) - 1 = 3 from by decide] at S1; rw [S1.out]; go_num, ⟨_, rfl⟩⟩
          case measure => simp [intOf]
    · have s1 := sh_step (a ||| b) 3
      rw [Nat.or_div_two_pow, two_or] at s1
      rw [← HR.out] at s1
      have s2 := sh_lt r hr 3 (by decide)
      simp only [Nat.reducePow] at s1
      rcases (show a / 8 % 2 = 0 ∨ a / 8 % 2 = 1 by omega) with ea | ea
      all_goals
        rcases (show b / 8 % 2 = 0 ∨ b / 8 % 2 = 1 by omega) with eb | eb
        all_goals
          rw [ea, eb] at s1
          have S1 := Lib.hid s1
          have fa : (a : Int) / 8 % 2 = (a / 8 % 2 : Nat) := by omega
          have fb : (b : Int) / 8 % 2 = (b / 8 % 2 : Nat) := by omega
          rw [ea] at fa
          rw [eb] at fb
          skip
          skip
          skip
          skip
          clear s1 ea eb
          go_wp2_with fail
          go_quiet (fail)
          go_wp2
          go_roundw
          case rel => exact ⟨2, by decide, by decide, rfl, by rw [show ((3 : Nat) : Int) - 1 = 2 from by decide] at S1; rw [S1.out]; go_num, ⟨_, rfl⟩⟩
          case measure => simp [intOf]
    · have s1 := sh_step (a ||| b) 2
      rw [Nat.or_div_two_pow, two_or] at s1
      rw [← HR.out] at s1
      have s2 := sh_lt r hr 2 (by decide)
      simp only [Nat.reducePow] at s1
      rcases (show a / 4 % 2 = 0 ∨ a / 4 % 2 = 1 by omega) with ea | ea
      all_goals
        rcases (show b / 4 % 2 = 0 ∨ b / 4 % 2 = 1 by omega) with eb | eb
        all_goals
          rw [ea, eb] at s1
          have S1 := Lib.hid s1
          have fa : (a : Int) / 4 % 2 = (a / 4 % 2 : Nat) := by omega
          have fb : (b : Int) / 4 % 2 = (b / 4 % 2 : Nat) := by omega
          rw [ea] at fa
          rw [eb] at fb
          skip
          skip
          skip
          skip
          clear s1 ea eb
          go_wp2_with fail
          go_quiet (fail)
          go_wp2
          go_roundw
          case rel => exact ⟨1, by decide, by decide, rfl, by rw [show ((2 : Nat) : Int) - 1 = 1 from by decide] at S1; rw [S1.out]; go_num, ⟨_, rfl⟩⟩
          case measure => simp [intOf]
    · have s1 := sh_step (a ||| b) 1
      rw [Nat.or_div_two_pow, two_or] at s1
      rw [← HR.out] at s1
      have s2 := sh_lt r hr 1 (by decide)
      simp only [Nat.reducePow] at s1
      rcases (show a / 2 % 2 = 0 ∨ a / 2 % 2 = 1 by omega) with ea | ea
      all_goals
        rcases (show b / 2 % 2 = 0 ∨ b / 2 % 2 = 1 by omega) with eb | eb
        all_goals
          rw [ea, eb] at s1
          have S1 := Lib.hid s1
          have fa : (a : Int) / 2 % 2 = (a / 2 % 2 : Nat) := by omega
          have fb : (b : Int) / 2 % 2 = (b / 2 % 2 : Nat) := by omega
          rw [ea] at fa
          rw [eb] at fb
          skip
          skip
          skip
          skip
          clear s1 ea eb
          go_wp2_with fail
          go_quiet (fail)
          go_wp2
          go_roundw
          case rel => exact ⟨0, by decide, by decide, rfl, by rw [show ((1 : Nat) : Int) - 1 = 0 from by decide] at S1; rw [S1.out]; go_num, ⟨_, rfl⟩⟩
          case measure => simp [intOf]
    · have s1 := sh_step (a ||| b) 0
      rw [Nat.or_div_two_pow, two_or] at s1
      rw [← HR.out] at s1
      have s2 := sh_lt r hr 0 (by decide)
      simp only [Nat.reducePow] at s1
      rcases (show a / 1 % 2 = 0 ∨ a / 1 % 2 = 1 by omega) with ea | ea
      all_goals
        rcases (show b / 1 % 2 = 0 ∨ b / 1 % 2 = 1 by omega) with eb | eb
        all_goals
          rw [ea, eb] at s1
          have S1 := Lib.hid s1
          have fa : (a : Int) / 1 % 2 = (a / 1 % 2 : Nat) := by omega
          have fb : (b : Int) / 1 % 2 = (b / 1 % 2 : Nat) := by omega
          rw [ea] at fa
          rw [eb] at fb
          have fa' : (a : Int) % 2 = (a / 1 % 2 : Nat) := by omega
          have fb' : (b : Int) % 2 = (b / 1 % 2 : Nat) := by omega
          rw [ea] at fa'
          rw [eb] at fb'
          clear s1 ea eb
          go_wp2_with fail
          go_quiet (fail)
          go_wp2
          go_roundw
          case rel => exact ⟨-1, by decide, by decide, rfl, by rw [show ((0 : Nat) : Int) - 1 = -1 from by decide] at S1; rw [S1.out]; go_num, ⟨_, rfl⟩⟩
          case measure => simp [intOf]
    · rw [sh_end]
      go_wp2_with (first | (go_at_call 20; with_reducible refine (R06.shape_any _ (by omega) (by omega) _).mono ?_; rintro e w' ⟨rfl, o1, rfl⟩) | (go_at_call 17; with_reducible refine (rparity_any _ (by omega) (by omega) _).mono ?_; rintro e w' ⟨rfl, rfl⟩) | (go_at_call 19; with_reducible refine (R06.byte_any _ _ _ _ _ _ _ _ _).mono ?_; rintro e w' ⟨rfl, o5, rfl⟩))
      go_ret2
      exact ⟨ret_int2 rfl rfl, by (go_grown; exact below_dn n)⟩
end Logic
end Go.Proofs.Ytibahlpphnokkaa
