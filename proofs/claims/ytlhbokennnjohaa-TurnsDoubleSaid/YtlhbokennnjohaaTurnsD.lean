/- The walk of the statement on bits that double (layer 8): it returns true for every input. No conditions but that numbers are of their kinds. -/
import Derived.Test.YtlhbokennnjohaaTurnsL
import Derived.Deep.RegionHeld3
namespace Go.Proofs.Ytlhbokennnjohaa
open Go.RowKit
open Kit R06 Pop Turns
set_option linter.unusedSimpArgs false
set_option linter.unusedVariables false
namespace Dbl
theorem said_1 (v : Int) (c : Bool) : Go.bits .and .u8 (saidF v c) 1 = cond c 1 0 := by
  have h : ∀ s z y h x p n c : Bool, Go.bits .and .u8 ((flagsOf s z y h x p n c : Nat) : Int) 1 = cond c 1 0 := by decide +kernel
  exact h ..
theorem rot_to (k v g x y : Int) (hk : k % 8 = k) (hv0 : 0 ≤ v) (hv1 : v < 256) (hg0 : 0 ≤ g) (hg1 : g < 256) (hx : trV k v (g % 2) = x) (hy : trO k v = y) (w : World) : Calls Try.prog 14 #[.int .i64 k, .int .u8 v, .int .u8 g] w fun e w' => ∃ f, e = .returned (.tuple #[.int .u8 x, .int .u8 f]) ∧ Go.bits .and .u8 f 1 = y ∧ w = w' := by
  have h := rot_any k v g hv0 hv1 hg0 hg1 w
  rw [hk, hx] at h
  refine h.mono ?_
  rintro e w' ⟨rfl, rfl⟩
  refine ⟨_, rfl, ?_, rfl⟩
  rw [said_1, ← out_c _ (trO_bd k v hv0 hv1), hy]
def ck (k v : Int) (on : Bool) : Bool := decide (0 ≤ putV k v on) && decide (putV k v on < 256) && decide (Go.bits .and .u8 (bitF k (putV k v on) 0 0) 64 = cond on 0 64) && decide (putV k (putV k v (!on)) on = putV k v on)
theorem tab : allB 256 (fun v => allB 8 fun k => ck (k : Int) (v : Int) true && ck (k : Int) (v : Int) false) = true := by decide +kernel
theorem tab_at (k v : Int) (on : Bool) (k0 : 0 ≤ k) (k1 : k < 8) (v0 : 0 ≤ v) (v1 : v < 256) : 0 ≤ putV k v on ∧ putV k v on < 256 ∧ Go.bits .and .u8 (bitF k (putV k v on) 0 0) 64 = cond on 0 64 ∧ putV k (putV k v (!on)) on = putV k v on := by
  obtain ⟨k, rfl⟩ := Int.eq_ofNat_of_zero_le k0
  obtain ⟨v, rfl⟩ := Int.eq_ofNat_of_zero_le v0
  have g := allB_at (allB_at tab (show v < 256 by omega)) (show k < 8 by omega)
  simp only [Bool.and_eq_true] at g
  have h : ck (k : Int) (v : Int) on = true := by
    cases on
    · exact g.2
    · exact g.1
  unfold ck at h
  simp only [Bool.and_eq_true, decide_eq_true_eq] at h
  exact ⟨h.1.1.1, h.1.1.2, h.1.2, h.2⟩
theorem put_to (o k v : Int) (on : Bool) (y : Int) (hk : o % 8 = k) (hv0 : 0 ≤ v) (hv1 : v < 256) (hy : putV k v on = y) (w : World) : Calls Try.prog 12 #[.int .i64 o, .int .u8 v, .bool on] w fun e w' => e = .returned (.int .u8 y) ∧ w = w' := by
  subst hk hy
  exact put_any o v on hv0 hv1 w
end Dbl
open Dbl in
set_option maxRecDepth 100000 in
set_option maxHeartbeats 2000000 in
theorem turnsDouble_walk (a0 : Int) (a1 : Int) (a2 : Bool) (wa0 : (Lit.int .u8 a0).wf = true) (wa1 : (Lit.int .i64 a1).wf = true) (w : World) :
    Calls Try.prog 4 #[.int .u8 a0, .int .i64 a1, .bool a2] w fun e w' => e = .returned (.bool true) ∧ Below w.heap.size w w' := by
  obtain ⟨v0, v1⟩ := u8_bd wa0
  clear wa0 wa1
  obtain ⟨k, hk⟩ : ∃ k, a1 % 8 = k := ⟨_, rfl⟩
  have k0 : 0 ≤ k := by omega
  have k1 : k < 8 := by omega
  obtain ⟨t0, t1, t2, t3⟩ := tab_at k a0 a2 k0 k1 v0 v1
  obtain ⟨u0, u1, _, _⟩ := tab_at k a0 (!a2) k0 k1 v0 v1
  obtain ⟨x, hx⟩ : ∃ x, putV k a0 a2 = x := ⟨_, rfl⟩
  obtain ⟨n, hn⟩ : ∃ n, putV k a0 (!a2) = n := ⟨_, rfl⟩
  rw [hx] at t0 t1 t2 t3
  rw [hn] at u0 u1 t3
  obtain ⟨b, hb⟩ : ∃ b, bitF k x 0 0 = b := ⟨_, rfl⟩
  rw [hb] at t2
  cases a2
  all_goals
    simp only [cond_true, cond_false, Bool.not_true, Bool.not_false] at t2 hn
    have h4 : trV 4 a0 (0 % 2) = a0 * 2 % 256 := rfl
    have h7 : trV 7 a0 (0 % 2) = a0 / 2 := rfl
    have h5 : trV 5 a0 (0 % 2) = a0 / 2 + 128 * (a0 / 128) := rfl
    have h6 : trV 6 a0 (0 % 2) = a0 * 2 % 256 + 1 := rfl
    have o4 : trO 4 a0 = a0 / 128 := rfl
    have o7 : trO 7 a0 = a0 % 2 := rfl
    have i1 : IntKind.i8.wrap (a0 / 2 + 128 * (a0 / 128)) = IntKind.i8.wrap a0 / 2 := by rw [i8_wrap, i8_wrap]; omega
    have HK := Lib.hid hk
    have HX := Lib.hid hx
    have HN := Lib.hid hn
    have HB := Lib.hid hb
    have T3 := Lib.hid t3
    have H4 := Lib.hid h4
    have H5 := Lib.hid h5
    have H6 := Lib.hid h6
    have H7 := Lib.hid h7
    have O4 := Lib.hid o4
    have O7 := Lib.hid o7
    clear hk hx hn hb t3 h4 h5 h6 h7 o4 o7
    go_enter Try.func4, Try.ntmps4
    go_wp2_with (first | (go_at_call 9; with_reducible refine (alive_any _).mono ?_; rintro e w' ⟨rfl, rfl⟩) | (go_at_call 14; with_reducible refine (rot_to 4 _ 0 _ _ (by decide) v0 v1 (by decide) (by decide) H4.out O4.out _).mono ?_; rintro e w' ⟨f1, rfl, hf1, rfl⟩) | (go_at_call 14; with_reducible refine (rot_to 7 _ 0 _ _ (by decide) v0 v1 (by decide) (by decide) H7.out O7.out _).mono ?_; rintro e w' ⟨f2, rfl, hf2, rfl⟩) | (go_at_call 14; with_reducible refine (rot_to 5 _ 0 _ _ (by decide) v0 v1 (by decide) (by decide) H5.out rfl _).mono ?_; rintro e w' ⟨f3, rfl, hf3, rfl⟩) | (go_at_call 14; with_reducible refine (rot_to 6 _ 0 _ _ (by decide) v0 v1 (by decide) (by decide) H6.out rfl _).mono ?_; rintro e w' ⟨f4, rfl, hf4, rfl⟩) | (go_at_call 12; with_reducible refine (put_to _ k _ _ x HK.out v0 v1 HX.out _).mono ?_; rintro e w' ⟨rfl, rfl⟩) | (go_at_call 12; with_reducible refine (put_to _ k _ _ n HK.out v0 v1 HN.out _).mono ?_; rintro e w' ⟨rfl, rfl⟩) | (go_at_call 12; with_reducible refine (put_to _ k _ _ x HK.out u0 u1 T3.out _).mono ?_; rintro e w' ⟨rfl, rfl⟩) | (go_at_call 10; with_reducible refine (bit_any _ _ _ _ t0 t1 (by decide) (by decide) (by decide) (by decide) _).mono ?_; rw [HK.out, HB.out]; rintro e w' ⟨rfl, rfl⟩))
    go_ret
    exact ⟨ret_bool (by simp), by go_grown⟩
end Go.Proofs.Ytlhbokennnjohaa
