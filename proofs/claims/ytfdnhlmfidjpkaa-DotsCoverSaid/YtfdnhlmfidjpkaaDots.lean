/- Where a picture is drawn at a time (layer 14): what the program's functions and the reference's answer; the statements' walks. No conditions but that numbers are of their kinds. -/
import Derived.Test.YtfdnhlmfidjpkaaKit
namespace Go.Proofs.Ytfdnhlmfidjpkaa
open Go.RowKit
open Kit
set_option linter.unusedSimpArgs false
set_option linter.unusedVariables false
namespace Dots
theorem tm_bd (t : Int) : -59736 < t.tmod 59736 ∧ t.tmod 59736 < 59736 := by
  rcases Int.le_total 0 t with h | h
  · rw [Int.tmod_eq_emod_of_nonneg h]; omega
  · have := Int.neg_tmod (-t) 59736
    rw [Int.neg_neg] at this
    rw [this, Int.tmod_eq_emod_of_nonneg (by omega)]; omega
theorem tm_pos (t : Int) (h : 0 ≤ t.tmod 59736) : t.tmod 59736 = t % 59736 := by
  rcases Int.le_total 0 t with g | g
  · exact Int.tmod_eq_emod_of_nonneg g
  · have := Int.neg_tmod (-t) 59736
    rw [Int.neg_neg] at this
    rw [this, Int.tmod_eq_emod_of_nonneg (by omega)] at h ⊢; omega
theorem tm_neg (t : Int) (h : t.tmod 59736 < 0) : t.tmod 59736 + 59736 = t % 59736 := by
  rcases Int.le_total 0 t with g | g
  · rw [Int.tmod_eq_emod_of_nonneg g] at h; omega
  · have := Int.neg_tmod (-t) 59736
    rw [Int.neg_neg] at this
    rw [this, Int.tmod_eq_emod_of_nonneg (by omega)] at h ⊢; omega
theorem within_any (t : Int) (w : World) : Calls Try.prog 20 #[.int .i64 t] w fun e w' => e = .returned (.int .i64 (t % 59736)) ∧ w = w' := by
  obtain ⟨h1, h2⟩ := tm_bd t
  by_cases h : t.tmod 59736 < 0
  · go_enter Try.func20, Try.ntmps20
    go_wp2
    go_ret
    exact ⟨ret_int (tm_neg t h), rfl⟩
  · go_enter Try.func20, Try.ntmps20
    go_wp2
    go_ret
    exact ⟨ret_int (tm_pos t (by omega)), rfl⟩
theorem rmod_any (t : Int) (w : World) : Calls Try.prog 19 #[.int .i64 t] w fun e w' => e = .returned (.int .i64 (t % 59736)) ∧ w = w' := by
  obtain ⟨h1, h2⟩ := tm_bd t
  by_cases h : t.tmod 59736 < 0
  · go_enter Try.func19, Try.ntmps19
    go_wp2
    go_ret
    exact ⟨ret_int (tm_neg t h), rfl⟩
  · go_enter Try.func19, Try.ntmps19
    go_wp2
    go_ret
    exact ⟨ret_int (tm_pos t (by omega)), rfl⟩
theorem line_any (t : Int) (w : World) : Calls Try.prog 14 #[.int .i64 t] w fun e w' => e = .returned (.int .i64 (t % 59736 / 228)) ∧ w = w' := by
  go_enter Try.func14, Try.ntmps14
  go_wp2_with (go_at_call 20; with_reducible refine (within_any _ _).mono ?_; rintro e w' ⟨rfl, rfl⟩)
  go_ret
  exact ⟨rfl, rfl⟩
theorem dot_any (t : Int) (w : World) : Calls Try.prog 15 #[.int .i64 t] w fun e w' => e = .returned (.int .i64 (t % 228 * 3 / 2)) ∧ w = w' := by
  go_enter Try.func15, Try.ntmps15
  go_wp2_with (go_at_call 20; with_reducible refine (within_any _ _).mono ?_; rintro e w' ⟨rfl, rfl⟩)
  go_ret
  exact ⟨rfl, rfl⟩
theorem next_any (t : Int) (w : World) : Calls Try.prog 13 #[.int .i64 t] w fun e w' => e = .returned (.int .i64 (228 - t % 228)) ∧ w = w' := by
  go_enter Try.func13, Try.ntmps13
  go_wp2_with (go_at_call 20; with_reducible refine (within_any _ _).mono ?_; rintro e w' ⟨rfl, rfl⟩)
  go_ret
  exact ⟨rfl, rfl⟩
def vOf (l : Int) : Int := if l < 0 ∨ 262 ≤ l then 0 else if 218 < l then l - 6 else l
def hOf (d : Int) : Int := if d < 0 ∨ 342 ≤ d then 0 else if 148 ≤ d / 2 then d / 2 + 85 else d / 2
def startOf (l : Int) : Int := if l < 0 ∨ 262 ≤ l then -1 else l * 228
theorem v_any (l : Int) (w : World) : Calls Try.prog 9 #[.int .i64 l] w fun e w' => e = .returned (.int .u8 (vOf l)) ∧ w = w' := by
  go_enter Try.func9, Try.ntmps9
  go_wp2
  all_goals
    go_ret
    refine ⟨ret_int ?_, rfl⟩
    unfold vOf
    repeat' split
    all_goals omega
theorem h_any (d : Int) (hd : d ≤ 9223372036854775807) (w : World) : Calls Try.prog 11 #[.int .i64 d] w fun e w' => e = .returned (.int .u8 (hOf d)) ∧ w = w' := by
  by_cases h0 : d < 0
  · go_enter Try.func11, Try.ntmps11
    go_wp2
    all_goals
      go_ret
      refine ⟨ret_int ?_, rfl⟩
      unfold hOf
      rw [if_pos (Or.inl h0)]
  · have h0' : 0 ≤ d := by omega
    go_enter Try.func11, Try.ntmps11
    go_wp2
    all_goals
      go_ret
      refine ⟨ret_int ?_, rfl⟩
      unfold hOf
      repeat' split
      all_goals omega
theorem start_any (l : Int) (w : World) : Calls Try.prog 16 #[.int .i64 l] w fun e w' => e = .returned (.int .i64 (startOf l)) ∧ w = w' := by
  go_enter Try.func16, Try.ntmps16
  go_wp2
  all_goals
    go_ret
    refine ⟨ret_int ?_, rfl⟩
    unfold startOf
    repeat' split
    all_goals omega
theorem rv_any (l : Int) (w : World) : Calls Try.prog 10 #[.int .i64 l] w fun e w' => e = .returned (.int .u8 (vOf l)) ∧ w = w' := by
  go_enter Try.func10, Try.ntmps10
  go_wp2
  all_goals
    go_ret
    refine ⟨ret_int ?_, rfl⟩
    unfold vOf
    repeat' split
    all_goals omega
theorem rh_any (d : Int) (hd : d ≤ 9223372036854775807) (w : World) : Calls Try.prog 12 #[.int .i64 d] w fun e w' => e = .returned (.int .u8 (hOf d)) ∧ w = w' := by
  by_cases h0 : d < 0
  · go_enter Try.func12, Try.ntmps12
    go_wp2
    all_goals
      go_ret
      refine ⟨ret_int ?_, rfl⟩
      unfold hOf
      rw [if_pos (Or.inl h0)]
  · have h0' : 0 ≤ d := by omega
    go_enter Try.func12, Try.ntmps12
    go_wp2
    all_goals
      go_ret
      refine ⟨ret_int ?_, rfl⟩
      unfold hOf
      repeat' split
      all_goals omega
theorem rline_any (t : Int) (w : World) : Calls Try.prog 17 #[.int .i64 t] w fun e w' => e = .returned (.int .i64 (t % 59736 / 228)) ∧ w = w' := by
  obtain ⟨m, hm⟩ : ∃ m, m = t % 59736 := ⟨_, rfl⟩
  have m0 : 0 ≤ m := by omega
  have m1 : m < 59736 := by omega
  have HM := Lib.hid hm
  rw [← hm]
  clear hm
  go_enter Try.func17, Try.ntmps17
  go_wp2
  go_loop [3] (fun i => ∃ k : Nat, (k : Int) ≤ 262 ∧ 228 * (k : Int) ≤ m ∧ i = .int .i64 k) (fun i => 300 - (intOf i).toNat)
  case atStart => exact ⟨0, by omega, by omega, rfl⟩
  case round =>
    obtain ⟨k, hk, hm, rfl⟩ := hrel
    by_cases hlt : 228 * ((k : Int) + 1) ≤ m
    · go_wp2_with (go_at_call 19; with_reducible refine (rmod_any _ _).mono ?_; rw [← HM.out]; rintro e w' ⟨rfl, rfl⟩)
      go_round
      case rel => exact ⟨k + 1, by omega, by omega, by go_num⟩
      case measure => simp [intOf]; omega
    · go_wp2_with (go_at_call 19; with_reducible refine (rmod_any _ _).mono ?_; rw [← HM.out]; rintro e w' ⟨rfl, rfl⟩)
      go_ret
      exact ⟨ret_int (by omega), rfl⟩
theorem rdot_any (t : Int) (w : World) : Calls Try.prog 18 #[.int .i64 t] w fun e w' => e = .returned (.int .i64 (t % 228 * 3 / 2)) ∧ w = w' := by
  go_enter Try.func18, Try.ntmps18
  go_wp2_with (first | (go_at_call 19; with_reducible refine (rmod_any _ _).mono ?_; rintro e w' ⟨rfl, rfl⟩) | (go_at_call 17; with_reducible refine (rline_any _ _).mono ?_; rintro e w' ⟨rfl, rfl⟩))
  go_ret
  exact ⟨ret_int (by omega), rfl⟩
theorem alive_any (w : World) : Calls Try.prog 8 #[] w fun e w' => e = .returned (.bool true) ∧ w = w' := by
  have e1 : vOf 1 = 1 := by decide
  have e2 : hOf 2 = 1 := by decide
  go_enter Try.func8, Try.ntmps8
  go_wp2_with (first
   
    | (go_at_call 14; with_reducible refine (line_any _ _).mono ?_; rintro e w' ⟨rfl, rfl⟩)
    | (go_at_call 15; with_reducible refine (dot_any _ _).mono ?_; rintro e w' ⟨rfl, rfl⟩)
    | (go_at_call 13; with_reducible refine (next_any _ _).mono ?_; rintro e w' ⟨rfl, rfl⟩)
    | (go_at_call 9; with_reducible refine (v_any _ _).mono ?_; rintro e w' ⟨rfl, rfl⟩)
    | (go_at_call 11; with_reducible refine (h_any _ (by omega) _).mono ?_; rintro e w' ⟨rfl, rfl⟩)
    | (go_at_call 16; with_reducible refine (start_any _ _).mono ?_; rintro e w' ⟨rfl, rfl⟩))
  go_ret
  exact ⟨ret_bool (by simp), rfl⟩
end Dots
open Dots
theorem dotsCounts_walk (a0 : Int) (a1 : Int) (w0 : (Lit.int .i64 a0).wf = true) (w1 : (Lit.int .i64 a1).wf = true) (w : World) :
    Calls Try.prog 3 #[.int .i64 a0, .int .i64 a1] w fun e w' => e = .returned (.bool true) ∧ Below w.heap.size w w' := by
  have hb := (i64_wf w1).2
  clear w0 w1
  go_enter Try.func3, Try.ntmps3
  go_wp2_with (first
    | (go_at_call 8; with_reducible refine (alive_any _).mono ?_; rintro e w' ⟨rfl, rfl⟩)
    | (go_at_call 14; with_reducible refine (line_any _ _).mono ?_; rintro e w' ⟨rfl, rfl⟩)
    | (go_at_call 15; with_reducible refine (dot_any _ _).mono ?_; rintro e w' ⟨rfl, rfl⟩)
    | (go_at_call 13; with_reducible refine (next_any _ _).mono ?_; rintro e w' ⟨rfl, rfl⟩)
    | (go_at_call 9; with_reducible refine (v_any _ _).mono ?_; rintro e w' ⟨rfl, rfl⟩)
    | (go_at_call 11; with_reducible refine (h_any _ (by omega) _).mono ?_; rintro e w' ⟨rfl, rfl⟩)
    | (go_at_call 16; with_reducible refine (start_any _ _).mono ?_; rintro e w' ⟨rfl, rfl⟩)
    | (go_at_call 17; with_reducible refine (rline_any _ _).mono ?_; rintro e w' ⟨rfl, rfl⟩)
    | (go_at_call 18; with_reducible refine (rdot_any _ _).mono ?_; rintro e w' ⟨rfl, rfl⟩)
    | (go_at_call 10; with_reducible refine (rv_any _ _).mono ?_; rintro e w' ⟨rfl, rfl⟩)
    | (go_at_call 12; with_reducible refine (rh_any _ (by omega) _).mono ?_; rintro e w' ⟨rfl, rfl⟩)
    | (go_at_call 19; with_reducible refine (rmod_any _ _).mono ?_; rintro e w' ⟨rfl, rfl⟩))
  go_ret
  exact ⟨ret_bool (by simp), Below.refl _ _⟩
theorem dotsTimes_walk (a0 : Int) (w0 : (Lit.int .i64 a0).wf = true) (w : World) :
    Calls Try.prog 6 #[.int .i64 a0] w fun e w' => e = .returned (.bool true) ∧ Below w.heap.size w w' := by
  clear w0
  have t1 : startOf (a0 % 59736 / 228) = 228 * (a0 % 59736 / 228) := by
    unfold startOf; rw [if_neg (by omega)]; omega
  have t2 : 228 - a0 % 228 = 228 * (a0 % 59736 / 228 + 1) - a0 % 59736 := by omega
  go_enter Try.func6, Try.ntmps6
  go_wp2_with (first
    | (go_at_call 8; with_reducible refine (alive_any _).mono ?_; rintro e w' ⟨rfl, rfl⟩)
    | (go_at_call 14; with_reducible refine (line_any _ _).mono ?_; rintro e w' ⟨rfl, rfl⟩)
    | (go_at_call 15; with_reducible refine (dot_any _ _).mono ?_; rintro e w' ⟨rfl, rfl⟩)
    | (go_at_call 13; with_reducible refine (next_any _ _).mono ?_; rintro e w' ⟨rfl, rfl⟩)
    | (go_at_call 9; with_reducible refine (v_any _ _).mono ?_; rintro e w' ⟨rfl, rfl⟩)
    | (go_at_call 11; with_reducible refine (h_any _ (by omega) _).mono ?_; rintro e w' ⟨rfl, rfl⟩)
    | (go_at_call 16; with_reducible refine (start_any _ _).mono ?_; rintro e w' ⟨rfl, rfl⟩)
    | (go_at_call 17; with_reducible refine (rline_any _ _).mono ?_; rintro e w' ⟨rfl, rfl⟩)
    | (go_at_call 18; with_reducible refine (rdot_any _ _).mono ?_; rintro e w' ⟨rfl, rfl⟩)
    | (go_at_call 10; with_reducible refine (rv_any _ _).mono ?_; rintro e w' ⟨rfl, rfl⟩)
    | (go_at_call 12; with_reducible refine (rh_any _ (by omega) _).mono ?_; rintro e w' ⟨rfl, rfl⟩)
    | (go_at_call 19; with_reducible refine (rmod_any _ _).mono ?_; rintro e w' ⟨rfl, rfl⟩))
  go_ret
  exact ⟨ret_bool (by simp), Below.refl _ _⟩
theorem dotsNames_walk (w : World) :
    Calls Try.prog 5 #[] w fun e w' => e = .returned (.bool true) ∧ Below w.heap.size w w' := by
  have v1 : vOf 218 = 218 := by decide
  have v2 : vOf 219 = 213 := by decide
  have v3 : vOf 261 = 255 := by decide
  have v4 : vOf 262 = 0 := by decide
  have h1 : hOf 295 = 147 := by decide
  have h2 : hOf 296 = 233 := by decide
  have h3 : hOf 341 = 255 := by decide
  have h4 : hOf 342 = 0 := by decide
  have s1 : startOf 261 = 59508 := by decide
  have s2 : startOf 262 = -1 := by decide
  have s3 : startOf (-1) = -1 := by decide
  go_enter Try.func5, Try.ntmps5
  go_wp2_with (first
    | (go_at_call 8; with_reducible refine (alive_any _).mono ?_; rintro e w' ⟨rfl, rfl⟩)
    | (go_at_call 14; with_reducible refine (line_any _ _).mono ?_; rintro e w' ⟨rfl, rfl⟩)
    | (go_at_call 15; with_reducible refine (dot_any _ _).mono ?_; rintro e w' ⟨rfl, rfl⟩)
    | (go_at_call 13; with_reducible refine (next_any _ _).mono ?_; rintro e w' ⟨rfl, rfl⟩)
    | (go_at_call 9; with_reducible refine (v_any _ _).mono ?_; rintro e w' ⟨rfl, rfl⟩)
    | (go_at_call 11; with_reducible refine (h_any _ (by omega) _).mono ?_; rintro e w' ⟨rfl, rfl⟩)
    | (go_at_call 16; with_reducible refine (start_any _ _).mono ?_; rintro e w' ⟨rfl, rfl⟩))
  go_ret
  exact ⟨ret_bool (by simp), Below.refl _ _⟩
theorem line_at (t v : Int) (h : t % 59736 / 228 = v) (w : World) : Calls Try.prog 14 #[.int .i64 t] w fun e w' => e = .returned (.int .i64 v) ∧ w = w' := by
  subst h; exact line_any t w
theorem dot_at (t r : Int) (h : t % 228 = r) (w : World) : Calls Try.prog 15 #[.int .i64 t] w fun e w' => e = .returned (.int .i64 (r * 3 / 2)) ∧ w = w' := by
  subst h; exact dot_any t w
theorem next_at (t r : Int) (h : t % 228 = r) (w : World) : Calls Try.prog 13 #[.int .i64 t] w fun e w' => e = .returned (.int .i64 (228 - r)) ∧ w = w' := by
  subst h; exact next_any t w
set_option maxHeartbeats 2000000 in
theorem dotsGo_walk (a0 : Int) (w0 : (Lit.int .i64 a0).wf = true) (w : World) :
    Calls Try.prog 4 #[.int .i64 a0] w fun e w' => e = .returned (.bool true) ∧ Below w.heap.size w w' := by
  clear w0
  by_cases hg : 1152921504606846976 < a0 ∨ a0 < -1152921504606846976
  · rcases hg with hg | hg
    all_goals
      go_enter Try.func4, Try.ntmps4
      go_wp2_with (first
        | (go_at_call 8; with_reducible refine (alive_any _).mono ?_; rintro e w' ⟨rfl, rfl⟩)
        | (go_at_call 14; with_reducible refine (line_any _ _).mono ?_; rintro e w' ⟨rfl, rfl⟩)
        | (go_at_call 15; with_reducible refine (dot_any _ _).mono ?_; rintro e w' ⟨rfl, rfl⟩)
        | (go_at_call 13; with_reducible refine (next_any _ _).mono ?_; rintro e w' ⟨rfl, rfl⟩)
        | (go_at_call 9; with_reducible refine (v_any _ _).mono ?_; rintro e w' ⟨rfl, rfl⟩)
        | (go_at_call 11; with_reducible refine (h_any _ (by omega) _).mono ?_; rintro e w' ⟨rfl, rfl⟩)
        | (go_at_call 16; with_reducible refine (start_any _ _).mono ?_; rintro e w' ⟨rfl, rfl⟩))
      go_ret
      exact ⟨ret_bool (by simp), Below.refl _ _⟩
  · have g1 : a0 ≤ 1152921504606846976 := by omega
    have g2 : -1152921504606846976 ≤ a0 := by omega
    clear hg
    obtain ⟨r, hr⟩ : ∃ r, r = a0 % 228 := ⟨_, rfl⟩
    obtain ⟨L, hL⟩ : ∃ L, L = a0 % 59736 / 228 := ⟨_, rfl⟩
    obtain ⟨q, hq⟩ : ∃ q, a0 = 59736 * q + 228 * L + r := ⟨a0 / 59736, by omega⟩
    have r0 : 0 ≤ r := by omega
    have r1 : r < 228 := by omega
    have l0 : 0 ≤ L := by omega
    have l1 : L < 262 := by omega
    clear hr hL
    have H0 := Lib.hid (show a0 % 228 = r by omega)
    have H1 := Lib.hid (show a0 % 59736 / 228 = L by omega)
    have H2 := Lib.hid (show (a0 + (228 - r)) % 59736 / 228 = (L + 1) % 262 by omega)
    have H3 := Lib.hid (show (a0 + (228 - r) - 1) % 59736 / 228 = L by omega)
    have H4 := Lib.hid (show (a0 + 228) % 59736 / 228 = (L + 1) % 262 by omega)
    have H5 := Lib.hid (show (a0 + 59736) % 59736 / 228 = L by omega)
    have H6 := Lib.hid (show (a0 + (228 - r)) % 228 = 0 by omega)
    have H8 := Lib.hid (show (a0 + 228) % 228 = r by omega)
    by_cases h7 : r = 227
    · subst h7
      have H2 := Lib.hid (show (a0 + 1) % 59736 / 228 = (L + 1) % 262 by omega)
      have H3 := Lib.hid (show (a0 + 1 - 1) % 59736 / 228 = L by omega)
      have H6 := Lib.hid (show (a0 + 1) % 228 = 0 by omega)
      clear hq r0 r1
      have T : ((L + 1) % 262 == L) = false := by rw [beq_eq_false_iff_ne]; omega
      go_enter Try.func4, Try.ntmps4
      go_wp2_with (first
        | (go_at_call 8; with_reducible refine (alive_any _).mono ?_; rintro e w' ⟨rfl, rfl⟩)
        | (go_at_call 13; with_reducible refine (next_at a0 227 H0.out _).mono ?_; rintro e w' ⟨rfl, rfl⟩)
        | (go_at_call 14; with_reducible refine (line_at (a0 + 1) ((L + 1) % 262) H2.out _).mono ?_; rintro e w' ⟨rfl, rfl⟩)
        | (go_at_call 14; with_reducible refine (line_at (a0 + 1 - 1) L H3.out _).mono ?_; rintro e w' ⟨rfl, rfl⟩)
        | (go_at_call 14; with_reducible refine (line_at (a0 + 228) ((L + 1) % 262) H4.out _).mono ?_; rintro e w' ⟨rfl, rfl⟩)
        | (go_at_call 14; with_reducible refine (line_at (a0 + 59736) L H5.out _).mono ?_; rintro e w' ⟨rfl, rfl⟩)
        | (go_at_call 14; with_reducible refine (line_at a0 L H1.out _).mono ?_; rintro e w' ⟨rfl, rfl⟩)
        | (go_at_call 15; with_reducible refine (dot_at (a0 + 1) 0 H6.out _).mono ?_; rintro e w' ⟨rfl, rfl⟩)
        | (go_at_call 15; with_reducible refine (dot_at (a0 + 228) 227 H8.out _).mono ?_; rintro e w' ⟨rfl, rfl⟩)
        | (go_at_call 15; with_reducible refine (dot_at a0 227 H0.out _).mono ?_; rintro e w' ⟨rfl, rfl⟩))
      all_goals
        go_ret
        refine ⟨ret_bool ?_, Below.refl _ _⟩
        first
        | rfl
        | (rw [bne_iff_ne]; omega)
        | trace_state
    · have H7 := Lib.hid (show (a0 + 1) % 228 = r + 1 by omega)
      have h7a : r < 227 := by omega
      clear h7 hq
      have T : ((L + 1) % 262 == L) = false := by rw [beq_eq_false_iff_ne]; omega
      have T2 : decide (r * 3 / 2 < (r + 1) * 3 / 2) = true := by rw [decide_eq_true_eq]; omega
      go_enter Try.func4, Try.ntmps4
      go_wp2_with (first
        | (go_at_call 8; with_reducible refine (alive_any _).mono ?_; rintro e w' ⟨rfl, rfl⟩)
        | (go_at_call 13; with_reducible refine (next_at a0 r H0.out _).mono ?_; rintro e w' ⟨rfl, rfl⟩)
        | (go_at_call 14; with_reducible refine (line_at (a0 + (228 - r)) ((L + 1) % 262) H2.out _).mono ?_; rintro e w' ⟨rfl, rfl⟩)
        | (go_at_call 14; with_reducible refine (line_at (a0 + (228 - r) - 1) L H3.out _).mono ?_; rintro e w' ⟨rfl, rfl⟩)
        | (go_at_call 14; with_reducible refine (line_at (a0 + 228) ((L + 1) % 262) H4.out _).mono ?_; rintro e w' ⟨rfl, rfl⟩)
        | (go_at_call 14; with_reducible refine (line_at (a0 + 59736) L H5.out _).mono ?_; rintro e w' ⟨rfl, rfl⟩)
        | (go_at_call 14; with_reducible refine (line_at a0 L H1.out _).mono ?_; rintro e w' ⟨rfl, rfl⟩)
        | (go_at_call 15; with_reducible refine (dot_at (a0 + (228 - r)) 0 H6.out _).mono ?_; rintro e w' ⟨rfl, rfl⟩)
        | (go_at_call 15; with_reducible refine (dot_at (a0 + 1) (r + 1) H7.out _).mono ?_; rintro e w' ⟨rfl, rfl⟩)
        | (go_at_call 15; with_reducible refine (dot_at (a0 + 228) r H8.out _).mono ?_; rintro e w' ⟨rfl, rfl⟩)
        | (go_at_call 15; with_reducible refine (dot_at a0 r H0.out _).mono ?_; rintro e w' ⟨rfl, rfl⟩))
      all_goals
        go_ret
        refine ⟨ret_bool ?_, Below.refl _ _⟩
        first
        | rfl
        | (rw [bne_iff_ne]; omega)
        | trace_state
theorem start_at (t v : Int) (h : startOf t = v) (w : World) : Calls Try.prog 16 #[.int .i64 t] w fun e w' => e = .returned (.int .i64 v) ∧ w = w' := by
  subst h; exact start_any t w
/-- How many of the first k lines are told by v. -/
def cnt (v : Int) : Nat → Nat
  | 0 => 0
  | k + 1 => cnt v k + cond (vOf k == v) 1 0
theorem cnt_all (l : Nat) (h : l < 262) : cnt (vOf l) 262 = cond (decide (l < 213) || decide (224 < l)) 1 2 := by
  have g := allB_at (n := 262) (p := fun l => Nat.beq (cnt (vOf l) 262) (cond (decide (l < 213) || decide (224 < l)) 1 2)) (by decide +kernel) h
  exact Nat.eq_of_beq_eq_true g
theorem cnt_261 : cnt (vOf 261) 262 = 1 := by
  have := cnt_all 261 (by decide)
  rw [show ((261 : Nat) : Int) = 261 from rfl] at this
  rw [this]; decide
theorem cnt_le (v : Int) : ∀ n, cnt v n ≤ n
  | 0 => Nat.le_refl _
  | n + 1 => by
    have := cnt_le v n
    show cnt v n + cond (vOf n == v) 1 0 ≤ n + 1
    cases (vOf n == v) <;> simp <;> omega
set_option maxRecDepth 100000 in
set_option maxHeartbeats 2000000 in
theorem dotsCover_walk (a0 : Int) (w0 : (Lit.int .i64 a0).wf = true) (w : World) :
    Calls Try.prog 7 #[.int .i64 a0] w fun e w' => e = .returned (.bool true) ∧ Below w.heap.size w w' := by
  clear w0
  by_cases hg : a0 < 0 ∨ 261 < a0
  · have s1 : startOf a0 = -1 := by unfold startOf; rw [if_pos (by omega)]
    rcases hg with hg | hg
    all_goals
      go_enter Try.func7, Try.ntmps7
      go_wp2_with (first
        | (go_at_call 8; with_reducible refine (alive_any _).mono ?_; rintro e w' ⟨rfl, rfl⟩)
        | (go_at_call 14; with_reducible refine (line_any _ _).mono ?_; rintro e w' ⟨rfl, rfl⟩)
        | (go_at_call 15; with_reducible refine (dot_any _ _).mono ?_; rintro e w' ⟨rfl, rfl⟩)
        | (go_at_call 13; with_reducible refine (next_any _ _).mono ?_; rintro e w' ⟨rfl, rfl⟩)
        | (go_at_call 9; with_reducible refine (v_any _ _).mono ?_; rintro e w' ⟨rfl, rfl⟩)
        | (go_at_call 11; with_reducible refine (h_any _ (by omega) _).mono ?_; rintro e w' ⟨rfl, rfl⟩)
        | (go_at_call 16; with_reducible refine (start_any _ _).mono ?_; rintro e w' ⟨rfl, rfl⟩))
      go_ret
      exact ⟨ret_bool (by simp), Below.refl _ _⟩
  · obtain ⟨l, rfl⟩ := Int.eq_ofNat_of_zero_le (show 0 ≤ a0 by omega)
    have hl : l < 262 := by omega
    clear hg
    have s1 : startOf l = l * 228 := by unfold startOf; rw [if_neg (by omega)]
    have s2 : (l : Int) * 228 % 228 = 0 := by omega
    have s3 : (l : Int) * 228 % 59736 / 228 = l := by omega
    have s4 : ((l : Int) * 228 + 228 - 1) % 59736 / 228 = l := by omega
    have H1 := Lib.hid s1
    have H2 := Lib.hid s2
    have H3 := Lib.hid s3
    have H4 := Lib.hid s4
    clear s1 s2 s3 s4
    by_cases h261 : l = 261
    · subst h261
      have HC := Lib.hid cnt_261
      go_enter Try.func7, Try.ntmps7
      go_wp2_with (first
        | (go_at_call 8; with_reducible refine (alive_any _).mono ?_; rintro e w' ⟨rfl, rfl⟩)
        | (go_at_call 16; with_reducible refine (start_at 261 59508 (by decide) _).mono ?_; rintro e w' ⟨rfl, rfl⟩)
        | (go_at_call 16; with_reducible refine (start_at 262 (-1) (by decide) _).mono ?_; rintro e w' ⟨rfl, rfl⟩)
        | (go_at_call 13; with_reducible refine (next_at 59508 0 (by decide) _).mono ?_; rintro e w' ⟨rfl, rfl⟩))
      go_loop [6, 7] (fun c k => ∃ n : Nat, n ≤ 262 ∧ k = .int .i64 n ∧ c = .int .i64 (cnt (vOf 261) n : Nat)) (fun _ k => 262 - (intOf k).toNat)
      case atStart => exact ⟨0, by omega, rfl, rfl⟩
      case round =>
        obtain ⟨n, hn, rfl, rfl⟩ := hrel
        have hc := cnt_le (vOf 261) n
        by_cases hlt : n < 262
        · obtain ⟨b, hb⟩ : ∃ b, b = (vOf n == vOf 261) := ⟨_, rfl⟩
          have HB := Lib.hid (show cnt (vOf 261) (n + 1) = cnt (vOf 261) n + cond b 1 0 by rw [hb]; rfl)
          have hb' := hb.symm
          clear hb
          cases b
          all_goals
            go_wp2_with (go_at_call 9; with_reducible refine (v_any _ _).mono ?_; rintro e w' ⟨rfl, rfl⟩)
            go_round
            case rel => exact ⟨n + 1, by omega, by go_num, by rw [HB.out]; simp⟩
            case measure => simp [intOf]; omega
        · obtain rfl : n = 262 := by omega
          clear hn hlt hc
          rw [HC.out]
          go_wp2_with (first
            | (go_at_call 14; with_reducible refine (line_at 59508 261 (by decide) _).mono ?_; rintro e w' ⟨rfl, rfl⟩)
            | (go_at_call 14; with_reducible refine (line_at 59735 261 (by decide) _).mono ?_; rintro e w' ⟨rfl, rfl⟩))
          go_ret
          exact ⟨ret_bool (by simp), Below.refl _ _⟩
    · have h0 : l < 261 := by omega
      have s5 : startOf ((l : Int) + 1) = (l : Int) * 228 + 228 := by unfold startOf; rw [if_neg (by omega)]; omega
      have H5 := Lib.hid s5
      have HC := Lib.hid (cnt_all l hl)
      clear s5 h261
      go_enter Try.func7, Try.ntmps7
      go_wp2_with (first
        | (go_at_call 8; with_reducible refine (alive_any _).mono ?_; rintro e w' ⟨rfl, rfl⟩)
        | (go_at_call 16; with_reducible refine (start_at _ _ H1.out _).mono ?_; rintro e w' ⟨rfl, rfl⟩)
        | (go_at_call 16; with_reducible refine (start_at _ _ H5.out _).mono ?_; rintro e w' ⟨rfl, rfl⟩)
        | (go_at_call 13; with_reducible refine (next_at _ 0 H2.out _).mono ?_; rintro e w' ⟨rfl, rfl⟩))
      go_loop [6, 7] (fun c k => ∃ n : Nat, n ≤ 262 ∧ k = .int .i64 n ∧ c = .int .i64 (cnt (vOf l) n : Nat)) (fun _ k => 262 - (intOf k).toNat)
      case atStart => exact ⟨0, by omega, rfl, rfl⟩
      case round =>
        obtain ⟨n, hn, rfl, rfl⟩ := hrel
        have hc := cnt_le (vOf l) n
        by_cases hlt : n < 262
        · obtain ⟨b, hb⟩ : ∃ b, b = (vOf n == vOf l) := ⟨_, rfl⟩
          have HB := Lib.hid (show cnt (vOf l) (n + 1) = cnt (vOf l) n + cond b 1 0 by rw [hb]; rfl)
          have hb' := hb.symm
          clear hb
          cases b
          all_goals
            go_wp2_with (go_at_call 9; with_reducible refine (v_any _ _).mono ?_; rintro e w' ⟨rfl, rfl⟩)
            go_round
            case rel => exact ⟨n + 1, by omega, by go_num, by rw [HB.out]; simp⟩
            case measure => simp [intOf]; omega
        · obtain rfl : n = 262 := by omega
          clear hn hlt hc
          rw [HC.out]
          by_cases ha : l < 213
          · rw [show (decide (l < 213) || decide (224 < l)) = true from by simp [ha], cond_true]
            go_wp2_with (first
              | (go_at_call 14; with_reducible refine (line_at _ l H3.out _).mono ?_; rintro e w' ⟨rfl, rfl⟩)
              | (go_at_call 14; with_reducible refine (line_at _ l H4.out _).mono ?_; rintro e w' ⟨rfl, rfl⟩))
            go_ret
            exact ⟨ret_bool (by first | (simp; done) | (simp; omega)), Below.refl _ _⟩
          · by_cases hz : 224 < l
            · rw [show (decide (l < 213) || decide (224 < l)) = true from by simp [hz], cond_true]
              go_wp2_with (first
                | (go_at_call 14; with_reducible refine (line_at _ l H3.out _).mono ?_; rintro e w' ⟨rfl, rfl⟩)
                | (go_at_call 14; with_reducible refine (line_at _ l H4.out _).mono ?_; rintro e w' ⟨rfl, rfl⟩))
              go_ret
              exact ⟨ret_bool (by first | (simp; done) | (simp; omega)), Below.refl _ _⟩
            · rw [show (decide (l < 213) || decide (224 < l)) = false from by simp [ha, hz], cond_false]
              go_wp2_with (first
                | (go_at_call 14; with_reducible refine (line_at _ l H3.out _).mono ?_; rintro e w' ⟨rfl, rfl⟩)
                | (go_at_call 14; with_reducible refine (line_at _ l H4.out _).mono ?_; rintro e w' ⟨rfl, rfl⟩))
              go_ret
              exact ⟨ret_bool (by first | (simp; done) | (simp; omega)), Below.refl _ _⟩
end Go.Proofs.Ytfdnhlmfidjpkaa
