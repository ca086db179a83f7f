/- A noise (layer 4): what the program's functions do. No conditions but that numbers are of their kinds. -/
import Derived.Test.YtjggocbihjdekaaKit
import Derived.Test.YtjggocbihjdekaaNoiseM
import Derived.LoopTactic
namespace Go.Proofs.Ytjggocbihjdekaa
open Go.RowKit
open Kit NoiseM
set_option linter.unusedSimpArgs false
set_option linter.unusedVariables false
namespace Noise
theorem mv_or (x b : Nat) (hx : x < 32768) (hb : b < 2) : x ||| b * 32768 = x + 32768 * b := by
  rw [Nat.or_comm, Nat.mul_comm]
  rw [← Nat.two_pow_add_eq_or_of_lt (i := 15) hx]; omega
theorem and1 (x : Nat) (hx : x < 65536) : Go.bits .and .u16 (x : Int) 1 = ((x % 2 : Nat) : Int) := by
  rw [show (1 : Int) = ((1 : Nat) : Int) from rfl, and16, Nat.mod_eq_of_lt hx, show 1 % 65536 = 1 from rfl, Nat.and_one_is_mod]
theorem xor2 (a b : Nat) (ha : a < 2) (hb : b < 2) : Go.bits .xor .u16 (a : Int) (b : Int) = (((a + b) % 2 : Nat) : Int) := by
  rcases (by omega : a = 0 ∨ a = 1) with rfl | rfl <;> rcases (by omega : b = 0 ∨ b = 1) with rfl | rfl <;> decide
theorem out_eq (x b : Nat) (hx : x < 65536) (hb : b < 2) : Go.bits .or .u16 ((x : Int) / 2) (IntKind.u16.wrap ((b : Int) * 32768)) = ((x / 2 + 32768 * b : Nat) : Int) := by
  rw [show ((b : Int) * 32768) = ((b * 32768 : Nat) : Int) from rfl, wrap16, show ((x : Int) / 2) = ((x / 2 : Nat) : Int) from rfl, or16]
  rw [Nat.mod_eq_of_lt (show b * 32768 < 65536 by omega), Nat.mod_eq_of_lt (show b * 32768 < 65536 by omega), Nat.mod_eq_of_lt (show x / 2 < 65536 by omega), mv_or _ _ (by omega) hb]
theorem move_any (x : Nat) (wh : Bool) (hx : x < 65536) (w : World) : Calls Try.prog 33 #[.int .u16 x, .bool wh] w fun e w' => e = .returned (.int .u16 (mv x wh : Nat)) ∧ w = w' := by
  cases wh
  · go_enter Try.func33, Try.ntmps33
    go_wp2
    go_ret
    refine ⟨ret_int ?_, rfl⟩
    rw [and1 x hx, out_eq x _ hx (by omega)]
    unfold mv
    simp
  · go_enter Try.func33, Try.ntmps33
    go_wp2
    go_ret
    refine ⟨ret_int ?_, rfl⟩
    rw [and1 x hx, show ((x : Int) / 8) = ((x / 8 : Nat) : Int) from rfl, and1 (x / 8) (by omega), xor2 _ _ (by omega) (by omega), out_eq x _ hx (by omega)]
    rfl
def nR (m c x : Int) : Bool := decide (m < 8) && decide (0 ≤ c) && decide (c ≤ 64) && decide (x ≠ 0)
theorem nR_bd {m c x : Int} (h : nR m c x = true) : m < 8 ∧ 0 ≤ c ∧ c ≤ 64 ∧ x ≠ 0 := by
  simp only [nR, Bool.and_eq_true, decide_eq_true_eq] at h
  exact ⟨h.1.1.1, h.1.1.2, h.1.2, h.2⟩
theorem nR_of {m c x : Int} (h1 : m < 8) (h2 : 0 ≤ c) (h3 : c ≤ 64) (h4 : x ≠ 0) : nR m c x = true := by simp [nR, h1, h2, h3, h4]
theorem nR_no {m c x : Int} (h : ¬ (m < 8 ∧ 0 ≤ c ∧ c ≤ 64 ∧ x ≠ 0)) : nR m c x = false := by
  rw [← Bool.not_eq_true]; exact fun g => h (nR_bd g)
theorem agg4 {m c c' x x' : Int} {h h' : Bool} (h1 : c = c') (h2 : h = h') (h3 : x = x') : Ending.returned (.agg #[.int .u8 m, .int .i64 c, .bool h, .int .u16 x]) = .returned (.agg #[.int .u8 m, .int .i64 c', .bool h', .int .u16 x']) := by rw [h1, h2, h3]
theorem set_any (m c x v : Int) (h : Bool) (hv0 : 0 ≤ v) (hv1 : v < 256) (w : World) : Calls Try.prog 22 #[.agg #[.int .u8 m, .int .i64 c, .bool h, .int .u16 x], .int .u8 v] w fun e w' =>
    e = .returned (.agg #[.int .u8 (v % 8), .int .i64 c, .bool h, .int .u16 32768]) ∧ ∃ o1 o2, w' = (w.alloc o1).alloc o2 := by
  obtain ⟨v, rfl⟩ := Int.eq_ofNat_of_zero_le hv0
  have hv : v < 256 := by omega
  have e : Go.bits .and .u8 (v : Int) 7 = (v : Int) % 8 := by
    rw [show (7 : Int) = ((7 : Nat) : Int) from rfl, and8, Nat.mod_eq_of_lt hv]
    show ((v &&& 2 ^ 3 - 1 : Nat) : Int) = _
    rw [Nat.and_two_pow_sub_one_eq_mod]; rfl
  go_enter Try.func22, Try.ntmps22
  go_wp2
  go_returns
  exact ⟨by simp, _, _, rfl⟩
theorem out_any (m c : Int) (x : Nat) (h : Bool) (hx : x < 65536) (w : World) : Calls Try.prog 25 #[.agg #[.int .u8 m, .int .i64 c, .bool h, .int .u16 x]] w fun e w' =>
    e = .returned (.bool (x % 2 == 1)) ∧ ∃ o1, w' = w.alloc o1 := by
  have e := and1 x hx
  have e2 : (((x % 2 : Nat) : Int) == 1) = (x % 2 == 1) := by rw [Bool.eq_iff_iff]; simp; omega
  have E2 := Lib.hid e2
  clear e2
  go_enter Try.func25, Try.ntmps25
  go_wp2
  go_ret
  exact ⟨ret_bool E2.out, _, rfl⟩
theorem right_any (m c x : Int) (h : Bool) (w : World) : Calls Try.prog 24 #[.agg #[.int .u8 m, .int .i64 c, .bool h, .int .u16 x]] w fun e w' => e = .returned (.bool (nR m c x)) ∧ ∃ o1, w' = w.alloc o1 := by
  obtain ⟨r, hr⟩ : ∃ r, nR m c x = r := ⟨_, rfl⟩
  have HR := Lib.hid hr
  rw [hr]
  clear hr
  by_cases h1 : m < 8
  · have g1 : decide (m ≤ 7) = true := by simp; omega
    by_cases h2 : 0 ≤ c
    · by_cases h3 : c ≤ 64
      · by_cases h4 : x = 0
        · have g4 : (x != 0) = false := by simp [h4]
          have H4 := Lib.hid h4
          clear h4
          go_enter Try.func24, Try.ntmps24
          go_wp2
          go_ret
          exact ⟨ret_bool (by rw [← HR.out, nR_no (by rw [H4.out]; simp)]), _, rfl⟩
        · have g4 : (x != 0) = true := by simp [h4]
          go_enter Try.func24, Try.ntmps24
          go_wp2
          go_ret
          exact ⟨ret_bool (by rw [← HR.out, nR_of h1 h2 h3 h4]), _, rfl⟩
      · have g3 : decide (c ≤ 64) = false := by simp; omega
        go_enter Try.func24, Try.ntmps24
        go_wp2
        go_ret
        exact ⟨ret_bool (by rw [← HR.out, nR_no (by omega)]), _, rfl⟩
    · have g2 : decide (0 ≤ c) = false := by simp; omega
      go_enter Try.func24, Try.ntmps24
      go_wp2
      go_ret
      exact ⟨ret_bool (by rw [← HR.out, nR_no (by omega)]), _, rfl⟩
  · have g1 : decide (m ≤ 7) = false := by simp; omega
    go_enter Try.func24, Try.ntmps24
    go_wp2
    go_ret
    exact ⟨ret_bool (by rw [← HR.out, nR_no (by omega)]), _, rfl⟩
theorem step_0 (c x : Nat) (h t : Bool) (hc : c ≤ 64) (hx : x < 65536) (w : World) : Calls Try.prog 29 #[.agg #[.int .u8 0, .int .i64 c, .bool h, .int .u16 x], .bool t] w fun e w' => e = .returned (.agg #[.int .u8 0, .int .i64 (nC 0 c : Nat), .bool (nH 0 c t h), .int .u16 (nS 0 c x t h : Nat)]) ∧ ∃ o1 o2, w' = (w.alloc o1).alloc o2 := by
  have hr : (0 : Nat) ≠ 3 := by decide
  by_cases h1 : c ≤ 1
  · have d1 : tk 0 c t = true := by unfold tk; rw [if_neg hr]; simpa using h1
    have n1 : nC 0 c = 16 := by unfold nC; rw [if_neg hr, if_pos h1]
    have k1 : ∀ h, nH 0 c t h = !h := by intro h; unfold nH; rw [d1]; cases h <;> rfl
    have D1 := Lib.hid d1
    have N1 := Lib.hid n1
    have K1 := Lib.hid k1
    clear d1 n1 k1
    have g1 : (c : Int) ≤ 1 := by omega
    cases h
    · have F0 := Lib.hid (show nC 0 c = 16 from by exact N1.out)
      have F1 := Lib.hid (show nH 0 c t false = true from by exact K1.out false)
      have F2 := Lib.hid (show nS 0 c x t false = mv x false from by unfold nS; rw [if_pos ⟨D1.out, rfl⟩]; rfl)
      have b1 : Go.bits .and .u8 0 3 = 0 := by decide
      have b2 : Go.bits .and .u8 0 4 = 0 := by decide
      go_enter Try.func29, Try.ntmps29
      go_wp2_with (go_at_call 33; with_reducible refine (move_any x false hx _).mono ?_; rintro e w' ⟨rfl, rfl⟩)
      go_returns
      exact ⟨agg4 (by rw [F0.out]; try omega) (by rw [F1.out]; try rfl) (by rw [F2.out]; try rfl), _, _, rfl⟩
    · have F0 := Lib.hid (show nC 0 c = 16 from by exact N1.out)
      have F1 := Lib.hid (show nH 0 c t true = false from by exact K1.out true)
      have F2 := Lib.hid (show nS 0 c x t true = x from by unfold nS; rw [if_neg (by simp)])
      have b1 : Go.bits .and .u8 0 3 = 0 := by decide
      have b2 : Go.bits .and .u8 0 4 = 0 := by decide
      go_enter Try.func29, Try.ntmps29
      go_wp2
      go_returns
      exact ⟨agg4 (by rw [F0.out]; try omega) (by rw [F1.out]; try rfl) (by rw [F2.out]; try rfl), _, _, rfl⟩
  · have d1 : tk 0 c t = false := by unfold tk; rw [if_neg hr]; simpa using h1
    have n1 : nC 0 c = c - 1 := by unfold nC; rw [if_neg hr, if_neg h1]
    have k1 : nH 0 c t h = h := by unfold nH; rw [d1]; cases h <;> rfl
    have s1 : nS 0 c x t h = x := by unfold nS; rw [if_neg (fun g => by rw [show 0 % 4 = 0 from rfl, d1] at g; exact absurd g.1 (by decide))]
    have D1 := Lib.hid d1
    have N1 := Lib.hid n1
    have K1 := Lib.hid k1
    have S1 := Lib.hid s1
    clear d1 n1 k1 s1
    have g1 : 1 < (c : Int) := by omega
    have F0 := Lib.hid (show nC 0 c = c - 1 from by exact N1.out)
    have F1 := Lib.hid (show nH 0 c t h = h from by exact K1.out)
    have F2 := Lib.hid (show nS 0 c x t h = x from by exact S1.out)
    have b1 : Go.bits .and .u8 0 3 = 0 := by decide
    have b2 : Go.bits .and .u8 0 4 = 0 := by decide
    go_enter Try.func29, Try.ntmps29
    go_wp2
    go_returns
    exact ⟨agg4 (by rw [F0.out]; try omega) (by rw [F1.out]; try rfl) (by rw [F2.out]; try rfl), _, _, rfl⟩
theorem step_1 (c x : Nat) (h t : Bool) (hc : c ≤ 64) (hx : x < 65536) (w : World) : Calls Try.prog 29 #[.agg #[.int .u8 1, .int .i64 c, .bool h, .int .u16 x], .bool t] w fun e w' => e = .returned (.agg #[.int .u8 1, .int .i64 (nC 1 c : Nat), .bool (nH 1 c t h), .int .u16 (nS 1 c x t h : Nat)]) ∧ ∃ o1 o2, w' = (w.alloc o1).alloc o2 := by
  have hr : (1 : Nat) ≠ 3 := by decide
  by_cases h1 : c ≤ 1
  · have d1 : tk 1 c t = true := by unfold tk; rw [if_neg hr]; simpa using h1
    have n1 : nC 1 c = 32 := by unfold nC; rw [if_neg hr, if_pos h1]
    have k1 : ∀ h, nH 1 c t h = !h := by intro h; unfold nH; rw [d1]; cases h <;> rfl
    have D1 := Lib.hid d1
    have N1 := Lib.hid n1
    have K1 := Lib.hid k1
    clear d1 n1 k1
    have g1 : (c : Int) ≤ 1 := by omega
    cases h
    · have F0 := Lib.hid (show nC 1 c = 32 from by exact N1.out)
      have F1 := Lib.hid (show nH 1 c t false = true from by exact K1.out false)
      have F2 := Lib.hid (show nS 1 c x t false = mv x false from by unfold nS; rw [if_pos ⟨D1.out, rfl⟩]; rfl)
      have b1 : Go.bits .and .u8 1 3 = 1 := by decide
      have b2 : Go.bits .and .u8 1 4 = 0 := by decide
      go_enter Try.func29, Try.ntmps29
      go_wp2_with (go_at_call 33; with_reducible refine (move_any x false hx _).mono ?_; rintro e w' ⟨rfl, rfl⟩)
      go_returns
      exact ⟨agg4 (by rw [F0.out]; try omega) (by rw [F1.out]; try rfl) (by rw [F2.out]; try rfl), _, _, rfl⟩
    · have F0 := Lib.hid (show nC 1 c = 32 from by exact N1.out)
      have F1 := Lib.hid (show nH 1 c t true = false from by exact K1.out true)
      have F2 := Lib.hid (show nS 1 c x t true = x from by unfold nS; rw [if_neg (by simp)])
      have b1 : Go.bits .and .u8 1 3 = 1 := by decide
      have b2 : Go.bits .and .u8 1 4 = 0 := by decide
      go_enter Try.func29, Try.ntmps29
      go_wp2
      go_returns
      exact ⟨agg4 (by rw [F0.out]; try omega) (by rw [F1.out]; try rfl) (by rw [F2.out]; try rfl), _, _, rfl⟩
  · have d1 : tk 1 c t = false := by unfold tk; rw [if_neg hr]; simpa using h1
    have n1 : nC 1 c = c - 1 := by unfold nC; rw [if_neg hr, if_neg h1]
    have k1 : nH 1 c t h = h := by unfold nH; rw [d1]; cases h <;> rfl
    have s1 : nS 1 c x t h = x := by unfold nS; rw [if_neg (fun g => by rw [show 1 % 4 = 1 from rfl, d1] at g; exact absurd g.1 (by decide))]
    have D1 := Lib.hid d1
    have N1 := Lib.hid n1
    have K1 := Lib.hid k1
    have S1 := Lib.hid s1
    clear d1 n1 k1 s1
    have g1 : 1 < (c : Int) := by omega
    have F0 := Lib.hid (show nC 1 c = c - 1 from by exact N1.out)
    have F1 := Lib.hid (show nH 1 c t h = h from by exact K1.out)
    have F2 := Lib.hid (show nS 1 c x t h = x from by exact S1.out)
    have b1 : Go.bits .and .u8 1 3 = 1 := by decide
    have b2 : Go.bits .and .u8 1 4 = 0 := by decide
    go_enter Try.func29, Try.ntmps29
    go_wp2
    go_returns
    exact ⟨agg4 (by rw [F0.out]; try omega) (by rw [F1.out]; try rfl) (by rw [F2.out]; try rfl), _, _, rfl⟩
theorem step_2 (c x : Nat) (h t : Bool) (hc : c ≤ 64) (hx : x < 65536) (w : World) : Calls Try.prog 29 #[.agg #[.int .u8 2, .int .i64 c, .bool h, .int .u16 x], .bool t] w fun e w' => e = .returned (.agg #[.int .u8 2, .int .i64 (nC 2 c : Nat), .bool (nH 2 c t h), .int .u16 (nS 2 c x t h : Nat)]) ∧ ∃ o1 o2, w' = (w.alloc o1).alloc o2 := by
  have hr : (2 : Nat) ≠ 3 := by decide
  by_cases h1 : c ≤ 1
  · have d1 : tk 2 c t = true := by unfold tk; rw [if_neg hr]; simpa using h1
    have n1 : nC 2 c = 64 := by unfold nC; rw [if_neg hr, if_pos h1]
    have k1 : ∀ h, nH 2 c t h = !h := by intro h; unfold nH; rw [d1]; cases h <;> rfl
    have D1 := Lib.hid d1
    have N1 := Lib.hid n1
    have K1 := Lib.hid k1
    clear d1 n1 k1
    have g1 : (c : Int) ≤ 1 := by omega
    cases h
    · have F0 := Lib.hid (show nC 2 c = 64 from by exact N1.out)
      have F1 := Lib.hid (show nH 2 c t false = true from by exact K1.out false)
      have F2 := Lib.hid (show nS 2 c x t false = mv x false from by unfold nS; rw [if_pos ⟨D1.out, rfl⟩]; rfl)
      have b1 : Go.bits .and .u8 2 3 = 2 := by decide
      have b2 : Go.bits .and .u8 2 4 = 0 := by decide
      go_enter Try.func29, Try.ntmps29
      go_wp2_with (go_at_call 33; with_reducible refine (move_any x false hx _).mono ?_; rintro e w' ⟨rfl, rfl⟩)
      go_returns
      exact ⟨agg4 (by rw [F0.out]; try omega) (by rw [F1.out]; try rfl) (by rw [F2.out]; try rfl), _, _, rfl⟩
    · have F0 := Lib.hid (show nC 2 c = 64 from by exact N1.out)
      have F1 := Lib.hid (show nH 2 c t true = false from by exact K1.out true)
      have F2 := Lib.hid (show nS 2 c x t true = x from by unfold nS; rw [if_neg (by simp)])
      have b1 : Go.bits .and .u8 2 3 = 2 := by decide
      have b2 : Go.bits .and .u8 2 4 = 0 := by decide
      go_enter Try.func29, Try.ntmps29
      go_wp2
      go_returns
      exact ⟨agg4 (by rw [F0.out]; try omega) (by rw [F1.out]; try rfl) (by rw [F2.out]; try rfl), _, _, rfl⟩
  · have d1 : tk 2 c t = false := by unfold tk; rw [if_neg hr]; simpa using h1
    have n1 : nC 2 c = c - 1 := by unfold nC; rw [if_neg hr, if_neg h1]
    have k1 : nH 2 c t h = h := by unfold nH; rw [d1]; cases h <;> rfl
    have s1 : nS 2 c x t h = x := by unfold nS; rw [if_neg (fun g => by rw [show 2 % 4 = 2 from rfl, d1] at g; exact absurd g.1 (by decide))]
    have D1 := Lib.hid d1
    have N1 := Lib.hid n1
    have K1 := Lib.hid k1
    have S1 := Lib.hid s1
    clear d1 n1 k1 s1
    have g1 : 1 < (c : Int) := by omega
    have F0 := Lib.hid (show nC 2 c = c - 1 from by exact N1.out)
    have F1 := Lib.hid (show nH 2 c t h = h from by exact K1.out)
    have F2 := Lib.hid (show nS 2 c x t h = x from by exact S1.out)
    have b1 : Go.bits .and .u8 2 3 = 2 := by decide
    have b2 : Go.bits .and .u8 2 4 = 0 := by decide
    go_enter Try.func29, Try.ntmps29
    go_wp2
    go_returns
    exact ⟨agg4 (by rw [F0.out]; try omega) (by rw [F1.out]; try rfl) (by rw [F2.out]; try rfl), _, _, rfl⟩
theorem step_3 (c x : Nat) (h t : Bool) (hc : c ≤ 64) (hx : x < 65536) (w : World) : Calls Try.prog 29 #[.agg #[.int .u8 3, .int .i64 c, .bool h, .int .u16 x], .bool t] w fun e w' => e = .returned (.agg #[.int .u8 3, .int .i64 (nC 3 c : Nat), .bool (nH 3 c t h), .int .u16 (nS 3 c x t h : Nat)]) ∧ ∃ o1 o2, w' = (w.alloc o1).alloc o2 := by
  cases t
  · have F0 := Lib.hid (show nC 3 c = c from by rfl)
    have F1 := Lib.hid (show nH 3 c false h = h from by cases h <;> rfl)
    have F2 := Lib.hid (show nS 3 c x false h = x from by cases h <;> rfl)
    have b1 : Go.bits .and .u8 3 3 = 3 := by decide
    have b2 : Go.bits .and .u8 3 4 = 0 := by decide
    go_enter Try.func29, Try.ntmps29
    go_wp2
    go_returns
    exact ⟨agg4 (by rw [F0.out]; try omega) (by rw [F1.out]; try rfl) (by rw [F2.out]; try rfl), _, _, rfl⟩
  · cases h
    · have F0 := Lib.hid (show nC 3 c = c from by rfl)
      have F1 := Lib.hid (show nH 3 c true false = true from by rfl)
      have F2 := Lib.hid (show nS 3 c x true false = mv x false from by rfl)
      have b1 : Go.bits .and .u8 3 3 = 3 := by decide
      have b2 : Go.bits .and .u8 3 4 = 0 := by decide
      go_enter Try.func29, Try.ntmps29
      go_wp2_with (go_at_call 33; with_reducible refine (move_any x false hx _).mono ?_; rintro e w' ⟨rfl, rfl⟩)
      go_returns
      exact ⟨agg4 (by rw [F0.out]; try omega) (by rw [F1.out]; try rfl) (by rw [F2.out]; try rfl), _, _, rfl⟩
    · have F0 := Lib.hid (show nC 3 c = c from by rfl)
      have F1 := Lib.hid (show nH 3 c true true = false from by rfl)
      have F2 := Lib.hid (show nS 3 c x true true = x from by rfl)
      have b1 : Go.bits .and .u8 3 3 = 3 := by decide
      have b2 : Go.bits .and .u8 3 4 = 0 := by decide
      go_enter Try.func29, Try.ntmps29
      go_wp2
      go_returns
      exact ⟨agg4 (by rw [F0.out]; try omega) (by rw [F1.out]; try rfl) (by rw [F2.out]; try rfl), _, _, rfl⟩
theorem step_4 (c x : Nat) (h t : Bool) (hc : c ≤ 64) (hx : x < 65536) (w : World) : Calls Try.prog 29 #[.agg #[.int .u8 4, .int .i64 c, .bool h, .int .u16 x], .bool t] w fun e w' => e = .returned (.agg #[.int .u8 4, .int .i64 (nC 0 c : Nat), .bool (nH 0 c t h), .int .u16 (nS 4 c x t h : Nat)]) ∧ ∃ o1 o2, w' = (w.alloc o1).alloc o2 := by
  have hr : (0 : Nat) ≠ 3 := by decide
  by_cases h1 : c ≤ 1
  · have d1 : tk 0 c t = true := by unfold tk; rw [if_neg hr]; simpa using h1
    have n1 : nC 0 c = 16 := by unfold nC; rw [if_neg hr, if_pos h1]
    have k1 : ∀ h, nH 0 c t h = !h := by intro h; unfold nH; rw [d1]; cases h <;> rfl
    have D1 := Lib.hid d1
    have N1 := Lib.hid n1
    have K1 := Lib.hid k1
    clear d1 n1 k1
    have g1 : (c : Int) ≤ 1 := by omega
    cases h
    · have F0 := Lib.hid (show nC 0 c = 16 from by exact N1.out)
      have F1 := Lib.hid (show nH 0 c t false = true from by exact K1.out false)
      have F2 := Lib.hid (show nS 4 c x t false = mv x true from by unfold nS; rw [if_pos ⟨D1.out, rfl⟩]; rfl)
      have b1 : Go.bits .and .u8 4 3 = 0 := by decide
      have b2 : Go.bits .and .u8 4 4 = 4 := by decide
      go_enter Try.func29, Try.ntmps29
      go_wp2_with (go_at_call 33; with_reducible refine (move_any x true hx _).mono ?_; rintro e w' ⟨rfl, rfl⟩)
      go_returns
      exact ⟨agg4 (by rw [F0.out]; try omega) (by rw [F1.out]; try rfl) (by rw [F2.out]; try rfl), _, _, rfl⟩
    · have F0 := Lib.hid (show nC 0 c = 16 from by exact N1.out)
      have F1 := Lib.hid (show nH 0 c t true = false from by exact K1.out true)
      have F2 := Lib.hid (show nS 4 c x t true = x from by unfold nS; rw [if_neg (by simp)])
      have b1 : Go.bits .and .u8 4 3 = 0 := by decide
      have b2 : Go.bits .and .u8 4 4 = 4 := by decide
      go_enter Try.func29, Try.ntmps29
      go_wp2
      go_returns
      exact ⟨agg4 (by rw [F0.out]; try omega) (by rw [F1.out]; try rfl) (by rw [F2.out]; try rfl), _, _, rfl⟩
  · have d1 : tk 0 c t = false := by unfold tk; rw [if_neg hr]; simpa using h1
    have n1 : nC 0 c = c - 1 := by unfold nC; rw [if_neg hr, if_neg h1]
    have k1 : nH 0 c t h = h := by unfold nH; rw [d1]; cases h <;> rfl
    have s1 : nS 4 c x t h = x := by unfold nS; rw [if_neg (fun g => by rw [show 4 % 4 = 0 from rfl, d1] at g; exact absurd g.1 (by decide))]
    have D1 := Lib.hid d1
    have N1 := Lib.hid n1
    have K1 := Lib.hid k1
    have S1 := Lib.hid s1
    clear d1 n1 k1 s1
    have g1 : 1 < (c : Int) := by omega
    have F0 := Lib.hid (show nC 0 c = c - 1 from by exact N1.out)
    have F1 := Lib.hid (show nH 0 c t h = h from by exact K1.out)
    have F2 := Lib.hid (show nS 4 c x t h = x from by exact S1.out)
    have b1 : Go.bits .and .u8 4 3 = 0 := by decide
    have b2 : Go.bits .and .u8 4 4 = 4 := by decide
    go_enter Try.func29, Try.ntmps29
    go_wp2
    go_returns
    exact ⟨agg4 (by rw [F0.out]; try omega) (by rw [F1.out]; try rfl) (by rw [F2.out]; try rfl), _, _, rfl⟩
theorem step_5 (c x : Nat) (h t : Bool) (hc : c ≤ 64) (hx : x < 65536) (w : World) : Calls Try.prog 29 #[.agg #[.int .u8 5, .int .i64 c, .bool h, .int .u16 x], .bool t] w fun e w' => e = .returned (.agg #[.int .u8 5, .int .i64 (nC 1 c : Nat), .bool (nH 1 c t h), .int .u16 (nS 5 c x t h : Nat)]) ∧ ∃ o1 o2, w' = (w.alloc o1).alloc o2 := by
  have hr : (1 : Nat) ≠ 3 := by decide
  by_cases h1 : c ≤ 1
  · have d1 : tk 1 c t = true := by unfold tk; rw [if_neg hr]; simpa using h1
    have n1 : nC 1 c = 32 := by unfold nC; rw [if_neg hr, if_pos h1]
    have k1 : ∀ h, nH 1 c t h = !h := by intro h; unfold nH; rw [d1]; cases h <;> rfl
    have D1 := Lib.hid d1
    have N1 := Lib.hid n1
    have K1 := Lib.hid k1
    clear d1 n1 k1
    have g1 : (c : Int) ≤ 1 := by omega
    cases h
    · have F0 := Lib.hid (show nC 1 c = 32 from by exact N1.out)
      have F1 := Lib.hid (show nH 1 c t false = true from by exact K1.out false)
      have F2 := Lib.hid (show nS 5 c x t false = mv x true from by unfold nS; rw [if_pos ⟨D1.out, rfl⟩]; rfl)
      have b1 : Go.bits .and .u8 5 3 = 1 := by decide
      have b2 : Go.bits .and .u8 5 4 = 4 := by decide
      go_enter Try.func29, Try.ntmps29
      go_wp2_with (go_at_call 33; with_reducible refine (move_any x true hx _).mono ?_; rintro e w' ⟨rfl, rfl⟩)
      go_returns
      exact ⟨agg4 (by rw [F0.out]; try omega) (by rw [F1.out]; try rfl) (by rw [F2.out]; try rfl), _, _, rfl⟩
    · have F0 := Lib.hid (show nC 1 c = 32 from by exact N1.out)
      have F1 := Lib.hid (show nH 1 c t true = false from by exact K1.out true)
      have F2 := Lib.hid (show nS 5 c x t true = x from by unfold nS; rw [if_neg (by simp)])
      have b1 : Go.bits .and .u8 5 3 = 1 := by decide
      have b2 : Go.bits .and .u8 5 4 = 4 := by decide
      go_enter Try.func29, Try.ntmps29
      go_wp2
      go_returns
      exact ⟨agg4 (by rw [F0.out]; try omega) (by rw [F1.out]; try rfl) (by rw [F2.out]; try rfl), _, _, rfl⟩
  · have d1 : tk 1 c t = false := by unfold tk; rw [if_neg hr]; simpa using h1
    have n1 : nC 1 c = c - 1 := by unfold nC; rw [if_neg hr, if_neg h1]
    have k1 : nH 1 c t h = h := by unfold nH; rw [d1]; cases h <;> rfl
    have s1 : nS 5 c x t h = x := by unfold nS; rw [if_neg (fun g => by rw [show 5 % 4 = 1 from rfl, d1] at g; exact absurd g.1 (by decide))]
    have D1 := Lib.hid d1
    have N1 := Lib.hid n1
    have K1 := Lib.hid k1
    have S1 := Lib.hid s1
    clear d1 n1 k1 s1
    have g1 : 1 < (c : Int) := by omega
    have F0 := Lib.hid (show nC 1 c = c - 1 from by exact N1.out)
    have F1 := Lib.hid (show nH 1 c t h = h from by exact K1.out)
    have F2 := Lib.hid (show nS 5 c x t h = x from by exact S1.out)
    have b1 : Go.bits .and .u8 5 3 = 1 := by decide
    have b2 : Go.bits .and .u8 5 4 = 4 := by decide
    go_enter Try.func29, Try.ntmps29
    go_wp2
    go_returns
    exact ⟨agg4 (by rw [F0.out]; try omega) (by rw [F1.out]; try rfl) (by rw [F2.out]; try rfl), _, _, rfl⟩
theorem step_6 (c x : Nat) (h t : Bool) (hc : c ≤ 64) (hx : x < 65536) (w : World) : Calls Try.prog 29 #[.agg #[.int .u8 6, .int .i64 c, .bool h, .int .u16 x], .bool t] w fun e w' => e = .returned (.agg #[.int .u8 6, .int .i64 (nC 2 c : Nat), .bool (nH 2 c t h), .int .u16 (nS 6 c x t h : Nat)]) ∧ ∃ o1 o2, w' = (w.alloc o1).alloc o2 := by
  have hr : (2 : Nat) ≠ 3 := by decide
  by_cases h1 : c ≤ 1
  · have d1 : tk 2 c t = true := by unfold tk; rw [if_neg hr]; simpa using h1
    have n1 : nC 2 c = 64 := by unfold nC; rw [if_neg hr, if_pos h1]
    have k1 : ∀ h, nH 2 c t h = !h := by intro h; unfold nH; rw [d1]; cases h <;> rfl
    have D1 := Lib.hid d1
    have N1 := Lib.hid n1
    have K1 := Lib.hid k1
    clear d1 n1 k1
    have g1 : (c : Int) ≤ 1 := by omega
    cases h
    · have F0 := Lib.hid (show nC 2 c = 64 from by exact N1.out)
      have F1 := Lib.hid (show nH 2 c t false = true from by exact K1.out false)
      have F2 := Lib.hid (show nS 6 c x t false = mv x true from by unfold nS; rw [if_pos ⟨D1.out, rfl⟩]; rfl)
      have b1 : Go.bits .and .u8 6 3 = 2 := by decide
      have b2 : Go.bits .and .u8 6 4 = 4 := by decide
      go_enter Try.func29, Try.ntmps29
      go_wp2_with (go_at_call 33; with_reducible refine (move_any x true hx _).mono ?_; rintro e w' ⟨rfl, rfl⟩)
      go_returns
      exact ⟨agg4 (by rw [F0.out]; try omega) (by rw [F1.out]; try rfl) (by rw [F2.out]; try rfl), _, _, rfl⟩
    · have F0 := Lib.hid (show nC 2 c = 64 from by exact N1.out)
      have F1 := Lib.hid (show nH 2 c t true = false from by exact K1.out true)
      have F2 := Lib.hid (show nS 6 c x t true = x from by unfold nS; rw [if_neg (by simp)])
      have b1 : Go.bits .and .u8 6 3 = 2 := by decide
      have b2 : Go.bits .and .u8 6 4 = 4 := by decide
      go_enter Try.func29, Try.ntmps29
      go_wp2
      go_returns
      exact ⟨agg4 (by rw [F0.out]; try omega) (by rw [F1.out]; try rfl) (by rw [F2.out]; try rfl), _, _, rfl⟩
  · have d1 : tk 2 c t = false := by unfold tk; rw [if_neg hr]; simpa using h1
    have n1 : nC 2 c = c - 1 := by unfold nC; rw [if_neg hr, if_neg h1]
    have k1 : nH 2 c t h = h := by unfold nH; rw [d1]; cases h <;> rfl
    have s1 : nS 6 c x t h = x := by unfold nS; rw [if_neg (fun g => by rw [show 6 % 4 = 2 from rfl, d1] at g; exact absurd g.1 (by decide))]
    have D1 := Lib.hid d1
    have N1 := Lib.hid n1
    have K1 := Lib.hid k1
    have S1 := Lib.hid s1
    clear d1 n1 k1 s1
    have g1 : 1 < (c : Int) := by omega
    have F0 := Lib.hid (show nC 2 c = c - 1 from by exact N1.out)
    have F1 := Lib.hid (show nH 2 c t h = h from by exact K1.out)
    have F2 := Lib.hid (show nS 6 c x t h = x from by exact S1.out)
    have b1 : Go.bits .and .u8 6 3 = 2 := by decide
    have b2 : Go.bits .and .u8 6 4 = 4 := by decide
    go_enter Try.func29, Try.ntmps29
    go_wp2
    go_returns
    exact ⟨agg4 (by rw [F0.out]; try omega) (by rw [F1.out]; try rfl) (by rw [F2.out]; try rfl), _, _, rfl⟩
theorem step_7 (c x : Nat) (h t : Bool) (hc : c ≤ 64) (hx : x < 65536) (w : World) : Calls Try.prog 29 #[.agg #[.int .u8 7, .int .i64 c, .bool h, .int .u16 x], .bool t] w fun e w' => e = .returned (.agg #[.int .u8 7, .int .i64 (nC 3 c : Nat), .bool (nH 3 c t h), .int .u16 (nS 7 c x t h : Nat)]) ∧ ∃ o1 o2, w' = (w.alloc o1).alloc o2 := by
  cases t
  · have F0 := Lib.hid (show nC 3 c = c from by rfl)
    have F1 := Lib.hid (show nH 3 c false h = h from by cases h <;> rfl)
    have F2 := Lib.hid (show nS 7 c x false h = x from by cases h <;> rfl)
    have b1 : Go.bits .and .u8 7 3 = 3 := by decide
    have b2 : Go.bits .and .u8 7 4 = 4 := by decide
    go_enter Try.func29, Try.ntmps29
    go_wp2
    go_returns
    exact ⟨agg4 (by rw [F0.out]; try omega) (by rw [F1.out]; try rfl) (by rw [F2.out]; try rfl), _, _, rfl⟩
  · cases h
    · have F0 := Lib.hid (show nC 3 c = c from by rfl)
      have F1 := Lib.hid (show nH 3 c true false = true from by rfl)
      have F2 := Lib.hid (show nS 7 c x true false = mv x true from by rfl)
      have b1 : Go.bits .and .u8 7 3 = 3 := by decide
      have b2 : Go.bits .and .u8 7 4 = 4 := by decide
      go_enter Try.func29, Try.ntmps29
      go_wp2_with (go_at_call 33; with_reducible refine (move_any x true hx _).mono ?_; rintro e w' ⟨rfl, rfl⟩)
      go_returns
      exact ⟨agg4 (by rw [F0.out]; try omega) (by rw [F1.out]; try rfl) (by rw [F2.out]; try rfl), _, _, rfl⟩
    · have F0 := Lib.hid (show nC 3 c = c from by rfl)
      have F1 := Lib.hid (show nH 3 c true true = false from by rfl)
      have F2 := Lib.hid (show nS 7 c x true true = x from by rfl)
      have b1 : Go.bits .and .u8 7 3 = 3 := by decide
      have b2 : Go.bits .and .u8 7 4 = 4 := by decide
      go_enter Try.func29, Try.ntmps29
      go_wp2
      go_returns
      exact ⟨agg4 (by rw [F0.out]; try omega) (by rw [F1.out]; try rfl) (by rw [F2.out]; try rfl), _, _, rfl⟩
theorem step_any (m : Int) (c x : Nat) (h t : Bool) (hm0 : 0 ≤ m) (hm : m < 8) (hc : c ≤ 64) (hx : x < 65536) (w : World) : Calls Try.prog 29 #[.agg #[.int .u8 m, .int .i64 c, .bool h, .int .u16 x], .bool t] w fun e w' =>
    e = .returned (.agg #[.int .u8 m, .int .i64 (nC (m.toNat % 4) c : Nat), .bool (nH (m.toNat % 4) c t h), .int .u16 (nS m.toNat c x t h : Nat)]) ∧ ∃ o1 o2, w' = (w.alloc o1).alloc o2 := by
  rcases (by omega : m = 0 ∨ m = 1 ∨ m = 2 ∨ m = 3 ∨ m = 4 ∨ m = 5 ∨ m = 6 ∨ m = 7) with rfl | rfl | rfl | rfl | rfl | rfl | rfl | rfl
  · exact step_0 c x h t hc hx w
  · exact step_1 c x h t hc hx w
  · exact step_2 c x h t hc hx w
  · exact step_3 c x h t hc hx w
  · exact step_4 c x h t hc hx w
  · exact step_5 c x h t hc hx w
  · exact step_6 c x h t hc hx w
  · exact step_7 c x h t hc hx w
end Noise
end Go.Proofs.Ytjggocbihjdekaa
