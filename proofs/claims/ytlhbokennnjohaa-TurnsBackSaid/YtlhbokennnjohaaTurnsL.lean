/- The walks of the statements on bits that go round (layer 8): each returns true for every input. No conditions but that numbers are of their kinds. -/
import Derived.Test.YtlhbokennnjohaaRTurns
import Derived.Deep.RegionHeld3
namespace Go.Proofs.Ytlhbokennnjohaa
open Go.RowKit
open Kit R06 Pop Turns
set_option linter.unusedSimpArgs false
set_option linter.unusedVariables false
theorem alive_any (w : World) : Calls Try.prog 9 #[] w fun e w' => e = .returned (.bool true) ∧ w = w' := by
  have e1 : trV 0 129 (0 % 2) = 3 := by decide +kernel
  have e2 : saidF 3 (trO 0 129 == 1) = 5 := by decide +kernel
  have e3 : putV 7 0 true = 128 := by decide +kernel
  have e4 : bitF 0 0 0 0 = 84 := by decide +kernel
  have H1 := Lib.hid e1
  have H2 := Lib.hid e2
  have H3 := Lib.hid e3
  have H4 := Lib.hid e4
  clear e1 e2 e3 e4
  go_enter Try.func9, Try.ntmps9
  go_wp2_with (first | (go_at_call 14; with_reducible refine (rot_any _ _ _ (by omega) (by omega) (by omega) (by omega) _).mono ?_; rw [show (0 : Int) % 8 = 0 from rfl, H1.out, H2.out]; rintro e w' ⟨rfl, rfl⟩) | (go_at_call 12; with_reducible refine (put_any _ _ _ (by omega) (by omega) _).mono ?_; rw [show (7 : Int) % 8 = 7 from rfl, H3.out]; rintro e w' ⟨rfl, rfl⟩) | (go_at_call 10; with_reducible refine (bit_any _ _ _ _ (by omega) (by omega) (by omega) (by omega) (by omega) (by omega) _).mono ?_; rw [show (0 : Int) % 8 = 0 from rfl, H4.out]; rintro e w' ⟨rfl, rfl⟩))
  go_ret
  exact ⟨ret_bool (by simp), rfl⟩
theorem turnsNames_walk (w : World) : Calls Try.prog 8 #[] w fun e w' => e = .returned (.bool true) ∧ Below w.heap.size w w' := by
  have e1 : trV 1 1 (255 % 2) = 128 := by decide +kernel
  have e2 : quickF 128 255 (trO 1 1 == 1) = 197 := by decide +kernel
  have e3 : dB true 18 52 = 19 := by decide +kernel
  have e4 : dN true 18 52 = 66 := by decide +kernel
  have e5 : saidF 19 (bi 1 1) = 1 := by decide +kernel
  have e6 : dB false 18 52 = 20 := by decide +kernel
  have e7 : dN false 18 52 = 35 := by decide +kernel
  have e8 : saidF 20 (bi 0 1) = 4 := by decide +kernel
  have e9 : bitF 7 128 1 255 = 185 := by decide +kernel
  have H1 := Lib.hid e1
  have H2 := Lib.hid e2
  have H3 := Lib.hid e3
  have H4 := Lib.hid e4
  have H5 := Lib.hid e5
  have H6 := Lib.hid e6
  have H7 := Lib.hid e7
  have H8 := Lib.hid e8
  have H9 := Lib.hid e9
  clear e1 e2 e3 e4 e5 e6 e7 e8 e9
  go_enter Try.func8, Try.ntmps8
  go_wp2_with (first | (go_at_call 9; with_reducible refine (alive_any _).mono ?_; rintro e w' ⟨rfl, rfl⟩) | (go_at_call 16; with_reducible refine (quick_any _ _ _ (by omega) (by omega) (by omega) (by omega) _).mono ?_; rw [show (1 : Int) % 4 = 1 from rfl, H1.out, H2.out]; rintro e w' ⟨rfl, rfl⟩) | (go_at_call 18; with_reducible refine (digits_any true _ _ _ (by omega) (by omega) (by omega) (by omega) (by omega) (by omega) _).mono ?_; rw [H3.out, H4.out, H5.out]; rintro e w' ⟨rfl, rfl⟩) | (go_at_call 18; with_reducible refine (digits_any false _ _ _ (by omega) (by omega) (by omega) (by omega) (by omega) (by omega) _).mono ?_; rw [H6.out, H7.out, H8.out]; rintro e w' ⟨rfl, rfl⟩) | (go_at_call 10; with_reducible refine (bit_any _ _ _ _ (by omega) (by omega) (by omega) (by omega) (by omega) (by omega) _).mono ?_; rw [show (7 : Int) % 8 = 7 from rfl, H9.out]; rintro e w' ⟨rfl, rfl⟩))
  go_ret
  exact ⟨ret_bool (by simp), Below.refl _ _⟩
set_option maxRecDepth 100000 in
set_option maxHeartbeats 2000000 in
theorem turnsRot_walk (a0 : Int) (a1 : Int) (a2 : Int) (wa0 : (Lit.int .i64 a0).wf = true) (wa1 : (Lit.int .u8 a1).wf = true) (wa2 : (Lit.int .u8 a2).wf = true) (w : World) :
    Calls Try.prog 5 #[.int .i64 a0, .int .u8 a1, .int .u8 a2] w fun e w' => e = .returned (.bool true) ∧ Below w.heap.size w w' := by
  obtain ⟨ha10, ha11⟩ := u8_bd wa1
  obtain ⟨ha20, ha21⟩ := u8_bd wa2
  clear wa0 wa1 wa2
  obtain ⟨x, hx⟩ : ∃ x, trV (a0 % 8) a1 (a2 % 2) = x := ⟨_, rfl⟩
  obtain ⟨y, hy⟩ : ∃ y, saidF x (trO (a0 % 8) a1 == 1) = y := ⟨_, rfl⟩
  obtain ⟨z, hz⟩ : ∃ z, trV (a0 % 4) a1 (a2 % 2) = z := ⟨_, rfl⟩
  obtain ⟨u, hu⟩ : ∃ u, quickF z a2 (trO (a0 % 4) a1 == 1) = u := ⟨_, rfl⟩
  have HX := Lib.hid hx
  have HY := Lib.hid hy
  have HZ := Lib.hid hz
  have HU := Lib.hid hu
  clear hx hy hz hu
  go_enter Try.func5, Try.ntmps5
  go_wp2_with (first | (go_at_call 9; with_reducible refine (alive_any _).mono ?_; rintro e w' ⟨rfl, rfl⟩) | (go_at_call 14; with_reducible refine (rot_any _ _ _ ha10 ha11 ha20 ha21 _).mono ?_; rw [HX.out, HY.out]; rintro e w' ⟨rfl, rfl⟩) | (go_at_call 16; with_reducible refine (quick_any _ _ _ ha10 ha11 ha20 ha21 _).mono ?_; rw [HZ.out, HU.out]; rintro e w' ⟨rfl, rfl⟩) | (go_at_call 15; with_reducible refine (RTurns.rrot_any _ _ _ ha10 ha11 ha20 ha21 _).mono ?_; rw [HX.out, HY.out]; rintro e w1 ⟨rfl, hb1⟩) | (go_at_call 17; with_reducible refine (RTurns.rquick_any _ _ _ ha10 ha11 ha20 ha21 _).mono ?_; rw [HZ.out, HU.out]; rintro e w2 ⟨rfl, hb2⟩))
  go_ret
  exact ⟨ret_bool (by simp), below_trans hb1 hb2⟩
set_option maxRecDepth 100000 in
set_option maxHeartbeats 2000000 in
theorem turnsDigits_walk (a0 : Bool) (a1_0 : Int) (a1_1 : Int) (a1_2 : Int) (wa1_0 : (Lit.int .u8 a1_0).wf = true) (wa1_1 : (Lit.int .u8 a1_1).wf = true) (wa1_2 : (Lit.int .u8 a1_2).wf = true) (w : World) :
    Calls Try.prog 6 #[.bool a0, .agg #[.int .u8 a1_0, .int .u8 a1_1, .int .u8 a1_2]] w fun e w' => e = .returned (.bool true) ∧ Below w.heap.size w w' := by
  obtain ⟨ha00, ha01⟩ := u8_bd wa1_0
  obtain ⟨ha10, ha11⟩ := u8_bd wa1_1
  obtain ⟨ha20, ha21⟩ := u8_bd wa1_2
  clear wa1_0 wa1_1 wa1_2
  obtain ⟨x, hx⟩ : ∃ x, dB a0 a1_0 a1_1 = x := ⟨_, rfl⟩
  obtain ⟨y, hy⟩ : ∃ y, dN a0 a1_0 a1_1 = y := ⟨_, rfl⟩
  obtain ⟨z, hz⟩ : ∃ z, saidF x (bi a1_2 1) = z := ⟨_, rfl⟩
  have HX := Lib.hid hx
  have HY := Lib.hid hy
  have HZ := Lib.hid hz
  clear hx hy hz
  go_enter Try.func6, Try.ntmps6
  go_wp2_with (first | (go_at_call 9; with_reducible refine (alive_any _).mono ?_; rintro e w' ⟨rfl, rfl⟩) | (go_at_call 18; with_reducible refine (digits_any _ _ _ _ ha00 ha01 ha10 ha11 ha20 ha21 _).mono ?_; rw [HX.out, HY.out, HZ.out]; rintro e w' ⟨rfl, rfl⟩) | (go_at_call 19; with_reducible refine (RTurns.rdigits_any _ _ _ _ ha00 ha01 ha10 ha11 ha20 ha21 _).mono ?_; rw [HX.out, HY.out, HZ.out]; rintro e w1 ⟨rfl, hb1⟩))
  go_ret
  exact ⟨ret_bool (by simp), below_trans (by go_grown) hb1⟩
end Go.Proofs.Ytlhbokennnjohaa
