/- A bit that is set (layer 8): what the reference's function answers: the same as the program's. No conditions but that numbers are of their kinds. -/
import Derived.Test.YtlhbokennnjohaaRTurns
namespace Go.Proofs.Ytlhbokennnjohaa
open Go.RowKit
open Kit R06 Pop Turns
set_option linter.unusedSimpArgs false
set_option linter.unusedVariables false
namespace RTurns
def sh (r : Nat) (j : Int) : Nat := r / 2 ^ (j + 1).toNat
theorem sh_step (r : Nat) (j : Nat) : sh r ((j : Int) - 1) = 2 * sh r j + r / 2 ^ j % 2 := by
  unfold sh
  rw [show ((j : Int) - 1 + 1).toNat = j from by omega, show ((j : Int) + 1).toNat = j + 1 from by omega, Nat.pow_succ, ← Nat.div_div_eq_div_mul]
  omega
theorem sh_top (r : Nat) (h : r < 256) : sh r 7 = 0 := by unfold sh; show r / 256 = 0; omega
theorem sh_end (r : Nat) : sh r (-1) = r := by unfold sh; show r / 1 = r; omega
theorem sh_lt (r : Nat) (h : r < 256) (j : Int) (hj : 0 ≤ j) : sh r j < 128 := by
  unfold sh
  have : 2 ^ 1 ≤ 2 ^ (j + 1).toNat := Nat.pow_le_pow_right (by decide) (by omega)
  have h2 : r / 2 ^ (j + 1).toNat ≤ r / 2 ^ 1 := Nat.div_le_div_left this (by decide)
  omega
def ckP (v k : Nat) (c : Nat) (r : Int) : Bool := decide (0 ≤ r) && Nat.blt r.toNat 256 && allB 8 fun j => Nat.beq (r.toNat / 2 ^ j % 2) (cond (Nat.beq j k) c (v / 2 ^ j % 2))
theorem put_tab : allB 256 (fun v => allB 8 fun k => ckP v k 1 (putV k v true) && ckP v k 0 (putV k v false)) = true := by decide +kernel
theorem put_bits (k v : Int) (on : Bool) (hk0 : 0 ≤ k) (hk1 : k < 8) (hv0 : 0 ≤ v) (hv1 : v < 256) : ∃ r : Nat, putV k v on = r ∧ r < 256 ∧ ∀ j : Nat, j < 8 → r / 2 ^ j % 2 = if (j : Int) = k then cond on 1 0 else v.toNat / 2 ^ j % 2 := by
  obtain ⟨k, rfl⟩ := Int.eq_ofNat_of_zero_le hk0
  obtain ⟨v, rfl⟩ := Int.eq_ofNat_of_zero_le hv0
  have g := allB_at (allB_at put_tab (show v < 256 by omega)) (show k < 8 by omega)
  have key : ∀ (c : Nat) (r : Int), ckP v k c r = true → ∃ n : Nat, r = n ∧ n < 256 ∧ ∀ j : Nat, j < 8 → n / 2 ^ j % 2 = if (j : Int) = (k : Int) then c else v / 2 ^ j % 2 := by
    intro c r h
    unfold ckP at h
    simp only [Bool.and_eq_true, decide_eq_true_eq] at h
    obtain ⟨⟨h0, h1⟩, h2⟩ := h
    refine ⟨r.toNat, by omega, Nat.blt_eq.mp h1, ?_⟩
    intro j hj
    have g := Nat.eq_of_beq_eq_true (allB_at h2 hj)
    rw [g]
    by_cases e : j = k
    · subst e
      simp
    · have q : Nat.beq j k = false := by
        cases q : Nat.beq j k
        · rfl
        · exact absurd (Nat.eq_of_beq_eq_true q) e
      rw [if_neg (by omega), q]
      rfl
  simp only [Bool.and_eq_true] at g
  cases on
  · exact key 0 _ g.2
  · exact key 1 _ g.1
set_option maxRecDepth 100000 in
set_option maxHeartbeats 4000000 in
theorem rput_any (o v : Int) (on : Bool) (hv0 : 0 ≤ v) (hv1 : v < 256) (w : World) : Calls Try.prog 13 #[.int .i64 o, .int .u8 v, .bool on] w fun e w' => e = .returned (.int .u8 (putV (o % 8) v on)) ∧ w = w' := by
  obtain ⟨k, hk⟩ : ∃ k, k = o % 8 := ⟨_, rfl⟩
  have k0 : 0 ≤ k := by omega
  have k1 : k < 8 := by omega
  rw [← hk]
  have HK := Lib.hid hk
  clear hk
  obtain ⟨r, hr', hr, hB⟩ := put_bits k v on k0 k1 hv0 hv1
  rw [hr']
  clear hr'
  have HB := Lib.hid hB
  clear hB
  go_enter Try.func13, Try.ntmps13
  go_wp2
  go_loopw [7, 8] (fun v i wr => ∃ j : Int, -1 ≤ j ∧ j ≤ 7 ∧ i = .int .i64 j ∧ v = .int .u8 (sh r j : Nat) ∧ wr = w) (fun _ i _ => (intOf i + 1).toNat)
  case atStart => exact ⟨7, by decide, by decide, rfl, by rw [sh_top _ hr]; rfl, rfl⟩
  case round =>
    obtain ⟨j, hj0, hj1, rfl, rfl, rfl⟩ := hrel
    have hc : j = 7 ∨ j = 6 ∨ j = 5 ∨ j = 4 ∨ j = 3 ∨ j = 2 ∨ j = 1 ∨ j = 0 ∨ j = -1 := by omega
    clear hj0 hj1
    rcases hc with rfl | rfl | rfl | rfl | rfl | rfl | rfl | rfl | rfl
    · have s1 := sh_step r 7
      have hb := HB.out 7 (by decide)
      rw [hb] at s1
      clear hb
      have s2 := sh_lt r hr 7 (by decide)
      by_cases e : ((7 : Nat) : Int) = k
      · rw [if_pos e] at s1
        have e' : k = 7 := by omega
        clear e
        subst e'
        cases on
        all_goals
          simp only [cond_true, cond_false] at s1
          have S1 := Lib.hid s1
          clear s1
          go_wp2_with (first | (go_at_call 20; with_reducible refine (low8 _ _).mono ?_; rw [← HK.out]; rintro e w' ⟨rfl, rfl⟩))
          go_roundw
          case rel => exact ⟨6, by decide, by decide, rfl, by rw [show ((7 : Nat) : Int) - 1 = 6 from by decide] at S1; rw [S1.out]; go_num, by trivial⟩
          case measure => simp [intOf]
      · rw [if_neg e] at s1
        have t : ((7 : Int) == k) = false := by rw [beq_eq_false_iff_ne]; omega
        have t2 : ¬ ((7 : Int) = k) := by omega
        clear e
        rcases (show v.toNat / 2 ^ 7 % 2 = 0 ∨ v.toNat / 2 ^ 7 % 2 = 1 by omega) with ea | ea
        all_goals
          rw [ea] at s1
          have fa : v / 128 % 2 = ((v.toNat / 2 ^ 7 % 2 : Nat) : Int) := by omega
          rw [ea] at fa
          have S1 := Lib.hid s1
          clear s1 ea
          go_wp2_with (first | (go_at_call 20; with_reducible refine (low8 _ _).mono ?_; rw [← HK.out]; rintro e w' ⟨rfl, rfl⟩))
          go_roundw
          case rel => exact ⟨6, by decide, by decide, rfl, by rw [show ((7 : Nat) : Int) - 1 = 6 from by decide] at S1; rw [S1.out]; go_num, by trivial⟩
          case measure => simp [intOf]
    · have s1 := sh_step r 6
      have hb := HB.out 6 (by decide)
      rw [hb] at s1
      clear hb
      have s2 := sh_lt r hr 6 (by decide)
      by_cases e : ((6 : Nat) : Int) = k
      · rw [if_pos e] at s1
        have e' : k = 6 := by omega
        clear e
        subst e'
        cases on
        all_goals
          simp only [cond_true, cond_false] at s1
          have S1 := Lib.hid s1
          clear s1
          go_wp2_with (first | (go_at_call 20; with_reducible refine (low8 _ _).mono ?_; rw [← HK.out]; rintro e w' ⟨rfl, rfl⟩))
          go_roundw
          case rel => exact ⟨5, by decide, by decide, rfl, by rw [show ((6 : Nat) : Int) - 1 = 5 from by decide] at S1; rw [S1.out]; go_num, by trivial⟩
          case measure => simp [intOf]
      · rw [if_neg e] at s1
        have t : ((6 : Int) == k) = false := by rw [beq_eq_false_iff_ne]; omega
        have t2 : ¬ ((6 : Int) = k) := by omega
        clear e
        rcases (show v.toNat / 2 ^ 6 % 2 = 0 ∨ v.toNat / 2 ^ 6 % 2 = 1 by omega) with ea | ea
        all_goals
          rw [ea] at s1
          have fa : v / 64 % 2 = ((v.toNat / 2 ^ 6 % 2 : Nat) : Int) := by omega
          rw [ea] at fa
          have S1 := Lib.hid s1
          clear s1 ea
          go_wp2_with (first | (go_at_call 20; with_reducible refine (low8 _ _).mono ?_; rw [← HK.out]; rintro e w' ⟨rfl, rfl⟩))
          go_roundw
          case rel => exact ⟨5, by decide, by decide, rfl, by rw [show ((6 : Nat) : Int) - 1 = 5 from by decide] at S1; rw [S1.out]; go_num, by trivial⟩
          case measure => simp [intOf]
    · have s1 := sh_step r 5
      have hb := HB.out 5 (by decide)
      rw [hb] at s1
      clear hb
      have s2 := sh_lt r hr 5 (by decide)
      by_cases e : ((5 : Nat) : Int) = k
      · rw [if_pos e] at s1
        have e' : k = 5 := by omega
        clear e
        subst e'
        cases on
        all_goals
          simp only [cond_true, cond_false] at s1
          have S1 := Lib.hid s1
          clear s1
          go_wp2_with (first | (go_at_call 20; with_reducible refine (low8 _ _).mono ?_; rw [← HK.out]; rintro e w' ⟨rfl, rfl⟩))
          go_roundw
          case rel => exact ⟨4, by decide, by decide, rfl, by rw [show ((5 : Nat) : Int) - 1 = 4 from by decide] at S1; rw [S1.out]; go_num, by trivial⟩
          case measure => simp [intOf]
      · rw [if_neg e] at s1
        have t : ((5 : Int) == k) = false := by rw [beq_eq_false_iff_ne]; omega
        have t2 : ¬ ((5 : Int) = k) := by omega
        clear e
        rcases (show v.toNat / 2 ^ 5 % 2 = 0 ∨ v.toNat / 2 ^ 5 % 2 = 1 by omega) with ea | ea
        all_goals
          rw [ea] at s1
          have fa : v / 32 % 2 = ((v.toNat / 2 ^ 5 % 2 : Nat) : Int) := by omega
          rw [ea] at fa
          have S1 := Lib.hid s1
          clear s1 ea
          go_wp2_with (first | (go_at_call 20; with_reducible refine (low8 _ _).mono ?_; rw [← HK.out]; rintro e w' ⟨rfl, rfl⟩))
          go_roundw
          case rel => exact ⟨4, by decide, by decide, rfl, by rw [show ((5 : Nat) : Int) - 1 = 4 from by decide] at S1; rw [S1.out]; go_num, by trivial⟩
          case measure => simp [intOf]
    · have s1 := sh_step r 4
      have hb := HB.out 4 (by decide)
      rw [hb] at s1
      clear hb
      have s2 := sh_lt r hr 4 (by decide)
      by_cases e : ((4 : Nat) : Int) = k
      · rw [if_pos e] at s1
        have e' : k = 4 := by omega
        clear e
        subst e'
        cases on
        all_goals
          simp only [cond_true, cond_false] at s1
          have S1 := Lib.hid s1
          clear s1
          go_wp2_with (first | (go_at_call 20; with_reducible refine (low8 _ _).mono ?_; rw [← HK.out]; rintro e w' ⟨rfl, rfl⟩))
          go_roundw
          case rel => exact ⟨3, by decide, by decide, rfl, by rw [show ((4 : Nat) : Int) - 1 = 3 from by decide] at S1; rw [S1.out]; go_num, by trivial⟩
          case measure => simp [intOf]
      · rw [if_neg e] at s1
        have t : ((4 : Int) == k) = false := by rw [beq_eq_false_iff_ne]; omega
        have t2 : ¬ ((4 : Int) = k) := by omega
        clear e
        rcases (show v.toNat / 2 ^ 4 % 2 = 0 ∨ v.toNat / 2 ^ 4 % 2 = 1 by omega) with ea | ea
        all_goals
          rw [ea] at s1
          have fa : v / 16 % 2 = ((v.toNat / 2 ^ 4 % 2 : Nat) : Int) := by omega
          rw [ea] at fa
          have S1 := Lib.hid s1
          clear s1 ea
          go_wp2_with (first | (go_at_call 20; with_reducible refine (low8 _ _).mono ?_; rw [← HK.out]; rintro e w' ⟨rfl, rfl⟩))
          go_roundw
          case rel => exact ⟨3, by decide, by decide, rfl, by rw [show ((4 : Nat) : Int) - 1 = 3 from by decide] at S1; rw [S1.out]; go_num, by trivial⟩
          case measure => simp [intOf]
    · have s1 := sh_step r 3
      have hb := HB.out 3 (by decide)
      rw [hb] at s1
      clear hb
      have s2 := sh_lt r hr 3 (by decide)
      by_cases e : ((3 : Nat) : Int) = k
      · rw [if_pos e] at s1
        have e' : k = 3 := by omega
        clear e
        subst e'
        cases on
        all_goals
          simp only [cond_true, cond_false] at s1
          have S1 := Lib.hid s1
          clear s1
          go_wp2_with (first | (go_at_call 20; with_reducible refine (low8 _ _).mono ?_; rw [← HK.out]; rintro e w' ⟨rfl, rfl⟩))
          go_roundw
          case rel => exact ⟨2, by decide, by decide, rfl, by rw [show ((3 : Nat) : Int) - 1 = 2 from by decide] at S1; rw [S1.out]; go_num, by trivial⟩
          case measure => simp [intOf]
      · rw [if_neg e] at s1
        have t : ((3 : Int) == k) = false := by rw [beq_eq_false_iff_ne]; omega
        have t2 : ¬ ((3 : Int) = k) := by omega
        clear e
        rcases (show v.toNat / 2 ^ 3 % 2 = 0 ∨ v.toNat / 2 ^ 3 % 2 = 1 by omega) with ea | ea
        all_goals
          rw [ea] at s1
          have fa : v / 8 % 2 = ((v.toNat / 2 ^ 3 % 2 : Nat) : Int) := by omega
          rw [ea] at fa
          have S1 := Lib.hid s1
          clear s1 ea
          go_wp2_with (first | (go_at_call 20; with_reducible refine (low8 _ _).mono ?_; rw [← HK.out]; rintro e w' ⟨rfl, rfl⟩))
          go_roundw
          case rel => exact ⟨2, by decide, by decide, rfl, by rw [show ((3 : Nat) : Int) - 1 = 2 from by decide] at S1; rw [S1.out]; go_num, by trivial⟩
          case measure => simp [intOf]
    · have s1 := sh_step r 2
      have hb := HB.out 2 (by decide)
      rw [hb] at s1
      clear hb
      have s2 := sh_lt r hr 2 (by decide)
      by_cases e : ((2 : Nat) : Int) = k
      · rw [if_pos e] at s1
        have e' : k = 2 := by omega
        clear e
        subst e'
        cases on
        all_goals
          simp only [cond_true, cond_false] at s1
          have S1 := Lib.hid s1
          clear s1
          go_wp2_with (first | (go_at_call 20; with_reducible refine (low8 _ _).mono ?_; rw [← HK.out]; rintro e w' ⟨rfl, rfl⟩))
          go_roundw
          case rel => exact ⟨1, by decide, by decide, rfl, by rw [show ((2 : Nat) : Int) - 1 = 1 from by decide] at S1; rw [S1.out]; go_num, by trivial⟩
          case measure => simp [intOf]
      · rw [if_neg e] at s1
        have t : ((2 : Int) == k) = false := by rw [beq_eq_false_iff_ne]; omega
        have t2 : ¬ ((2 : Int) = k) := by omega
        clear e
        rcases (show v.toNat / 2 ^ 2 % 2 = 0 ∨ v.toNat / 2 ^ 2 % 2 = 1 by omega) with ea | ea
        all_goals
          rw [ea] at s1
          have fa : v / 4 % 2 = ((v.toNat / 2 ^ 2 % 2 : Nat) : Int) := by omega
          rw [ea] at fa
          have S1 := Lib.hid s1
          clear s1 ea
          go_wp2_with (first | (go_at_call 20; with_reducible refine (low8 _ _).mono ?_; rw [← HK.out]; rintro e w' ⟨rfl, rfl⟩))
          go_roundw
          case rel => exact ⟨1, by decide, by decide, rfl, by rw [show ((2 : Nat) : Int) - 1 = 1 from by decide] at S1; rw [S1.out]; go_num, by trivial⟩
          case measure => simp [intOf]
    · have s1 := sh_step r 1
      have hb := HB.out 1 (by decide)
      rw [hb] at s1
      clear hb
      have s2 := sh_lt r hr 1 (by decide)
      by_cases e : ((1 : Nat) : Int) = k
      · rw [if_pos e] at s1
        have e' : k = 1 := by omega
        clear e
        subst e'
        cases on
        all_goals
          simp only [cond_true, cond_false] at s1
          have S1 := Lib.hid s1
          clear s1
          go_wp2_with (first | (go_at_call 20; with_reducible refine (low8 _ _).mono ?_; rw [← HK.out]; rintro e w' ⟨rfl, rfl⟩))
          go_roundw
          case rel => exact ⟨0, by decide, by decide, rfl, by rw [show ((1 : Nat) : Int) - 1 = 0 from by decide] at S1; rw [S1.out]; go_num, by trivial⟩
          case measure => simp [intOf]
      · rw [if_neg e] at s1
        have t : ((1 : Int) == k) = false := by rw [beq_eq_false_iff_ne]; omega
        have t2 : ¬ ((1 : Int) = k) := by omega
        clear e
        rcases (show v.toNat / 2 ^ 1 % 2 = 0 ∨ v.toNat / 2 ^ 1 % 2 = 1 by omega) with ea | ea
        all_goals
          rw [ea] at s1
          have fa : v / 2 % 2 = ((v.toNat / 2 ^ 1 % 2 : Nat) : Int) := by omega
          rw [ea] at fa
          have S1 := Lib.hid s1
          clear s1 ea
          go_wp2_with (first | (go_at_call 20; with_reducible refine (low8 _ _).mono ?_; rw [← HK.out]; rintro e w' ⟨rfl, rfl⟩))
          go_roundw
          case rel => exact ⟨0, by decide, by decide, rfl, by rw [show ((1 : Nat) : Int) - 1 = 0 from by decide] at S1; rw [S1.out]; go_num, by trivial⟩
          case measure => simp [intOf]
    · have s1 := sh_step r 0
      have hb := HB.out 0 (by decide)
      rw [hb] at s1
      clear hb
      have s2 := sh_lt r hr 0 (by decide)
      by_cases e : ((0 : Nat) : Int) = k
      · rw [if_pos e] at s1
        have e' : k = 0 := by omega
        clear e
        subst e'
        cases on
        all_goals
          simp only [cond_true, cond_false] at s1
          have S1 := Lib.hid s1
          clear s1
          go_wp2_with (first | (go_at_call 20; with_reducible refine (low8 _ _).mono ?_; rw [← HK.out]; rintro e w' ⟨rfl, rfl⟩))
          go_roundw
          case rel => exact ⟨-1, by decide, by decide, rfl, by rw [show ((0 : Nat) : Int) - 1 = -1 from by decide] at S1; rw [S1.out]; go_num, by trivial⟩
          case measure => simp [intOf]
      · rw [if_neg e] at s1
        have t : ((0 : Int) == k) = false := by rw [beq_eq_false_iff_ne]; omega
        have t2 : ¬ ((0 : Int) = k) := by omega
        clear e
        rcases (show v.toNat / 2 ^ 0 % 2 = 0 ∨ v.toNat / 2 ^ 0 % 2 = 1 by omega) with ea | ea
        all_goals
          rw [ea] at s1
          have fa : v / 1 % 2 = ((v.toNat / 2 ^ 0 % 2 : Nat) : Int) := by omega
          rw [ea] at fa
          have fb : v % 2 = ((v.toNat / 2 ^ 0 % 2 : Nat) : Int) := by omega
          rw [ea] at fb
          have S1 := Lib.hid s1
          clear s1 ea
          go_wp2_with (first | (go_at_call 20; with_reducible refine (low8 _ _).mono ?_; rw [← HK.out]; rintro e w' ⟨rfl, rfl⟩))
          go_roundw
          case rel => exact ⟨-1, by decide, by decide, rfl, by rw [show ((0 : Nat) : Int) - 1 = -1 from by decide] at S1; rw [S1.out]; go_num, by trivial⟩
          case measure => simp [intOf]
    · rw [sh_end]
      go_wp2
      go_ret
      exact ⟨rfl, rfl⟩
end RTurns
end Go.Proofs.Ytlhbokennnjohaa
