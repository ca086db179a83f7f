/- The walk of the statement on numbers of two digits (layer 6): it returns true for every input. No conditions but that numbers are of their kinds. -/
import Derived.Test.YtibahlpphnokkaaSumsL
namespace Go.Proofs.Ytibahlpphnokkaa
open Go.RowKit
open Kit R06 Pop Sums
set_option linter.unusedSimpArgs false
set_option linter.unusedVariables false
def bcd (n : Nat) : Nat := n / 10 * 16 + n % 10
def digAdd (a b : Nat) : Bool := Nat.beq (daaV ((bcd a + bcd b) % 256) (decide (15 < bcd a % 16 + bcd b % 16)) (decide (255 < bcd a + bcd b)) false) (bcd ((a + b) % 100)) && ((decide (255 < bcd a + bcd b) || decide (153 < (bcd a + bcd b) % 256)) == decide (99 < a + b))
def digSub (a b : Nat) : Bool := Nat.beq (daaV ((bcd a + 256 - bcd b) % 256) (decide (bcd a % 16 < bcd b % 16)) (decide (bcd a < bcd b)) true) (bcd ((a + 100 - b) % 100)) && ((decide (bcd a < bcd b) || decide (153 < (bcd a + 256 - bcd b) % 256)) == decide (a < b))
theorem dig_add : allB 100 (fun a => allB 100 fun b => digAdd a b) = true := by decide +kernel
theorem dig_sub : allB 100 (fun a => allB 100 fun b => digSub a b) = true := by decide +kernel
theorem bcd_lt (n : Nat) (h : n < 100) : bcd n < 154 := by unfold bcd; omega
open RSums in
theorem add_val (a b : Nat) (ha : a < 100) (hb : b < 100) : daaVi ((((bcd a : Nat) : Int) + (bcd b : Nat) + c01 false) % 256) (add8F (bcd a : Nat) (bcd b : Nat) (c01 false)) = (bcd ((a + b) % 100) : Nat) ∧
    (Go.bits .and .u8 (daaFi ((((bcd a : Nat) : Int) + (bcd b : Nat) + c01 false) % 256) (add8F (bcd a : Nat) (bcd b : Nat) (c01 false))) 1 != 0) = decide (99 < a + b) := by
  have h1 := bcd_lt a ha
  have h2 := bcd_lt b hb
  have g := allB_at (allB_at dig_add ha) hb
  unfold digAdd at g
  rw [Bool.and_eq_true] at g
  have g1 := Nat.eq_of_beq_eq_true g.1
  have g2 := eq_of_beq g.2
  have e : (((bcd a : Nat) : Int) + (bcd b : Nat) + c01 false) % 256 = ((bcd a + bcd b) % 256 : Nat) := by rw [show c01 false = 0 from rfl]; omega
  have e1 : decide ((15 : Int) < (bcd a : Nat) % 16 + (bcd b : Nat) % 16) = decide (15 < bcd a % 16 + bcd b % 16) := by rw [decide_eq_decide]; omega
  have e2 : decide ((255 : Int) < (bcd a : Nat) + (bcd b : Nat)) = decide (255 < bcd a + bcd b) := by rw [decide_eq_decide]; omega
  rw [e]
  unfold daaVi daaFi daaF add8F
  simp only [bi_cast, b16, b1, RSums.b2, show c01 false = 0 from rfl, Int.add_zero, Int.toNat_natCast]
  rw [e1, e2, g1, c_of, g2]
  exact ⟨rfl, rfl⟩
open RSums in
theorem sub_val (a b : Nat) (ha : a < 100) (hb : b < 100) : daaVi ((((bcd a : Nat) : Int) - (bcd b : Nat) - c01 false) % 256) (sub8F (bcd a : Nat) (bcd b : Nat) (c01 false)) = (bcd ((a + 100 - b) % 100) : Nat) ∧
    (Go.bits .and .u8 (daaFi ((((bcd a : Nat) : Int) - (bcd b : Nat) - c01 false) % 256) (sub8F (bcd a : Nat) (bcd b : Nat) (c01 false))) 1 != 0) = decide (a < b) := by
  have h1 := bcd_lt a ha
  have h2 := bcd_lt b hb
  have g := allB_at (allB_at dig_sub ha) hb
  unfold digSub at g
  rw [Bool.and_eq_true] at g
  have g1 := Nat.eq_of_beq_eq_true g.1
  have g2 := eq_of_beq g.2
  have e : (((bcd a : Nat) : Int) - (bcd b : Nat) - c01 false) % 256 = ((bcd a + 256 - bcd b) % 256 : Nat) := by rw [show c01 false = 0 from rfl]; omega
  have e1 : decide (((bcd a : Nat) : Int) % 16 - (bcd b : Nat) % 16 < 0) = decide (bcd a % 16 < bcd b % 16) := by rw [decide_eq_decide]; omega
  have e2 : decide (((bcd a : Nat) : Int) - (bcd b : Nat) < 0) = decide (bcd a < bcd b) := by rw [decide_eq_decide]; omega
  rw [e]
  unfold daaVi daaFi daaF sub8F
  simp only [bi_cast, b16, b1, RSums.b2, show c01 false = 0 from rfl, Int.sub_zero, Int.toNat_natCast]
  rw [e1, e2, g1, c_of, g2]
  exact ⟨rfl, rfl⟩
theorem wa_eq (a b : Nat) : ((bcd ((a + b) % 100) : Nat) : Int) = ((a : Int) + b) % 100 / 10 * 16 + ((a : Int) + b) % 10 := by unfold bcd; omega
theorem ws_eq (a b : Nat) (hb : b < 100) : ((bcd ((a + 100 - b) % 100) : Nat) : Int) = ((a : Int) - b + 100) % 100 / 10 * 16 + ((a : Int) - b + 100) % 10 := by
  have e : (((a + 100 - b : Nat)) : Int) = (a : Int) - b + 100 := by omega
  rw [← e]
  generalize a + 100 - b = n
  unfold bcd; omega
theorem lt99 (a b : Nat) : 99 < a + b ↔ (99 : Int) < (a : Int) + b := by omega
theorem xy_bd (a : Nat) (ha : a < 100) : 0 ≤ (a : Int) / 10 * 16 + a % 10 ∧ (a : Int) / 10 * 16 + a % 10 < 256 := by omega
theorem x_eq (a : Nat) : ((bcd a : Nat) : Int) = (a : Int) / 10 * 16 + a % 10 := by unfold bcd; omega
set_option maxRecDepth 100000 in
set_option maxHeartbeats 2000000 in
theorem sumsDigits_walk (a0 : Int) (a1 : Int) (a2 : Bool) (w0 : (Lit.int .i64 a0).wf = true) (w1 : (Lit.int .i64 a1).wf = true) (w : World) :
    Calls Try.prog 7 #[.int .i64 a0, .int .i64 a1, .bool a2] w fun e w' => e = .returned (.bool true) ∧ Below w.heap.size w w' := by
  clear w0 w1
  by_cases h : a0 < 0 ∨ 99 < a0 ∨ a1 < 0 ∨ 99 < a1
  · rcases h with h | h | h | h
    all_goals
      go_enter Try.func7, Try.ntmps7
      go_wp2_with (go_at_call 11; with_reducible refine (alive_any _).mono ?_; rintro e w' ⟨rfl, rfl⟩)
      all_goals
        go_ret
        exact ⟨ret_bool (by simp), Below.refl _ _⟩
  · obtain ⟨a, rfl⟩ := Int.eq_ofNat_of_zero_le (show 0 ≤ a0 by omega)
    obtain ⟨b, rfl⟩ := Int.eq_ofNat_of_zero_le (show 0 ≤ a1 by omega)
    have ha : a < 100 := by omega
    have hb : b < 100 := by omega
    clear h
    obtain ⟨av, ac⟩ := add_val a b ha hb
    obtain ⟨sv, sc⟩ := sub_val a b ha hb
    have xa := x_eq a
    have xb := x_eq b
    rw [xa, xb] at av ac sv sc
    have ac2 : decide (99 < a + b) = decide ((99 : Int) < (a : Int) + b) := by rw [decide_eq_decide]; exact lt99 a b
    have sc2 : decide (a < b) = decide ((a : Int) < b) := by rw [decide_eq_decide]; exact Int.ofNat_lt.symm
    have wa := wa_eq a b
    have ws := ws_eq a b hb
    rw [ac2] at ac
    rw [sc2] at sc
    rw [wa] at av
    rw [ws] at sv
    obtain ⟨f0, f1⟩ := add8F_lt ((a : Int) / 10 * 16 + a % 10) (b / 10 * 16 + b % 10) (c01 false)
    obtain ⟨k0, k1⟩ := sub8F_lt ((a : Int) / 10 * 16 + a % 10) (b / 10 * 16 + b % 10) (c01 false)
    obtain ⟨x0, x1⟩ := xy_bd a ha
    obtain ⟨y0, y1⟩ := xy_bd b hb
    clear xa xb wa ws ac2 sc2
    cases a2
    · clear sv sc k0 k1
      generalize hv : ((a : Int) / 10 * 16 + a % 10 + (b / 10 * 16 + b % 10) + c01 false) % 256 = v at av ac
      generalize hf : add8F ((a : Int) / 10 * 16 + a % 10) (b / 10 * 16 + b % 10) (c01 false) = f at av ac f0 f1
      generalize hg : daaFi v f = g at ac
      have v0 : 0 ≤ v := by rw [← hv]; exact Int.emod_nonneg _ (by decide)
      have v1 : v < 256 := by rw [← hv]; exact Int.emod_lt_of_pos _ (by decide)
      have HV := Lib.hid hv
      have HF := Lib.hid hf
      have HG := Lib.hid hg
      have HA := Lib.hid av
      clear hv hf hg av
      go_enter Try.func7, Try.ntmps7
      go_wp2_with (first | (go_at_call 11; with_reducible refine (alive_any _).mono ?_; rintro e w' ⟨rfl, rfl⟩) | (go_at_call 12; with_reducible refine (add_to _ _ _ _ _ x0 x1 y0 y1 HV.out HF.out _).mono ?_; rintro e w' ⟨rfl, rfl⟩) | (go_at_call 25; with_reducible refine (daa_to _ _ _ _ v0 v1 f0 f1 HA.out HG.out _).mono ?_; rintro e w' ⟨rfl, rfl⟩))
      all_goals
        go_ret
        exact ⟨ret_bool (by simp), Below.refl _ _⟩
    · clear av ac
      generalize hv : ((a : Int) / 10 * 16 + a % 10 - (b / 10 * 16 + b % 10) - c01 false) % 256 = v at sv sc
      generalize hf : sub8F ((a : Int) / 10 * 16 + a % 10) (b / 10 * 16 + b % 10) (c01 false) = f at sv sc k0 k1
      generalize hg : daaFi v f = g at sc
      have v0 : 0 ≤ v := by rw [← hv]; exact Int.emod_nonneg _ (by decide)
      have v1 : v < 256 := by rw [← hv]; exact Int.emod_lt_of_pos _ (by decide)
      have HV := Lib.hid hv
      have HF := Lib.hid hf
      have HG := Lib.hid hg
      have HA := Lib.hid sv
      clear hv hf hg sv
      go_enter Try.func7, Try.ntmps7
      go_wp2_with (first | (go_at_call 11; with_reducible refine (alive_any _).mono ?_; rintro e w' ⟨rfl, rfl⟩) | (go_at_call 12; with_reducible refine (add_to _ _ _ _ _ x0 x1 y0 y1 rfl rfl _).mono ?_; rintro e w' ⟨rfl, rfl⟩) | (go_at_call 14; with_reducible refine (sub_to _ _ _ _ _ x0 x1 y0 y1 HV.out HF.out _).mono ?_; rintro e w' ⟨rfl, rfl⟩) | (go_at_call 25; with_reducible refine (daa_to _ _ _ _ v0 v1 k0 k1 HA.out HG.out _).mono ?_; rintro e w' ⟨rfl, rfl⟩))
      all_goals
        go_ret
        exact ⟨ret_bool (by simp), Below.refl _ _⟩
end Go.Proofs.Ytibahlpphnokkaa
