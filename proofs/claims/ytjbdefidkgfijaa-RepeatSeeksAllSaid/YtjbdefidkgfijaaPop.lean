/- Ones in a byte: the library's OnesCount8, the program's Parity, the reference's Parity. No conditions but that bytes are bytes. -/
import Derived.Test.YtjbdefidkgfijaaR06
namespace Go.Proofs.Ytjbdefidkgfijaa
open Go.RowKit
open Kit
set_option linter.unusedSimpArgs false
set_option linter.unusedVariables false
namespace Pop
/-- Has a byte an even number of ones? -/
def parN (v : Nat) : Bool := !(xor (bt v 1) (xor (bt v 2) (xor (bt v 4) (xor (bt v 8) (xor (bt v 16) (xor (bt v 32) (xor (bt v 64) (bt v 128))))))))
def par (v : Int) : Bool := parN v.toNat
def tab : ByteArray := ⟨#[0, 1, 1, 2, 1, 2, 2, 3, 1, 2, 2, 3, 2, 3, 3, 4, 1, 2, 2, 3, 2, 3, 3, 4, 2, 3, 3, 4, 3, 4, 4, 5, 1, 2, 2, 3, 2, 3, 3, 4, 2, 3, 3, 4, 3, 4, 4, 5, 2, 3, 3, 4, 3, 4, 4, 5, 3, 4, 4, 5, 4, 5, 5, 6, 1, 2, 2, 3, 2, 3, 3, 4, 2, 3, 3, 4, 3, 4, 4, 5, 2, 3, 3, 4, 3, 4, 4, 5, 3, 4, 4, 5, 4, 5, 5, 6, 2, 3, 3, 4, 3, 4, 4, 5, 3, 4, 4, 5, 4, 5, 5, 6, 3, 4, 4, 5, 4, 5, 5, 6, 4, 5, 5, 6, 5, 6, 6, 7, 1, 2, 2, 3, 2, 3, 3, 4, 2, 3, 3, 4, 3, 4, 4, 5, 2, 3, 3, 4, 3, 4, 4, 5, 3, 4, 4, 5, 4, 5, 5, 6, 2, 3, 3, 4, 3, 4, 4, 5, 3, 4, 4, 5, 4, 5, 5, 6, 3, 4, 4, 5, 4, 5, 5, 6, 4, 5, 5, 6, 5, 6, 6, 7, 2, 3, 3, 4, 3, 4, 4, 5, 3, 4, 4, 5, 4, 5, 5, 6, 3, 4, 4, 5, 4, 5, 5, 6, 4, 5, 5, 6, 5, 6, 6, 7, 3, 4, 4, 5, 4, 5, 5, 6, 4, 5, 5, 6, 5, 6, 6, 7, 4, 5, 5, 6, 5, 6, 6, 7, 5, 6, 6, 7, 6, 7, 7, 8]⟩
theorem tab_size : tab.size = 256 := by decide +kernel
def oc (x : Nat) : Nat := if h : x < tab.size then (tab[x]'h).toNat else 0
theorem oc_par : ∀ n : Fin 256, Nat.beq (oc n.val % 2) 0 = parN n.val := by decide +kernel
theorem oc_lt : ∀ n : Fin 256, oc n.val < 9 := by decide +kernel
set_option maxRecDepth 1000000 in
theorem ones_any (x : Nat) (hx : x < 256) (w : World) : Calls Try.prog 30 #[.int .u8 x] w fun e w' => e = .returned (.int .i64 (oc x : Nat)) ∧ w = w' := by
  have hl := oc_lt ⟨x, hx⟩
  have HW := Lib.hid (show wrap64 ((oc x : Nat) : Int) = (oc x : Nat) by unfold wrap64; simp only at hl; omega)
  have HT := Lib.hid (show (oc x : Nat) = (tab[x]'(by rw [tab_size]; exact hx)).toNat by unfold oc; rw [dif_pos (by rw [tab_size]; exact hx)])
  clear hl
  go_enter Try.func30, Try.ntmps30
  go_wp2
  go_ret
  refine ⟨ret_int ?_, rfl⟩
  rw [← HW.out, HT.out]
  rfl
theorem parity_any (x : Int) (h0 : 0 ≤ x) (h1 : x < 256) (w : World) : Calls Try.prog 23 #[.int .u8 x] w fun e w' => e = .returned (.bool (par x)) ∧ w = w' := by
  obtain ⟨x, rfl⟩ := Int.eq_ofNat_of_zero_le h0
  have hx : x < 256 := by omega
  have hl := oc_lt ⟨x, hx⟩
  have hp : (((oc x : Nat) : Int) % 2 == 0) = par x := by
    rw [show par (x : Int) = parN x from rfl, ← oc_par ⟨x, hx⟩, Bool.eq_iff_iff, Nat.beq_eq, beq_iff_eq]; simp only; omega
  have n1 : oc x < 9 := hl
  have HP := Lib.hid hp
  clear hl hp h0 h1
  go_enter Try.func23, Try.ntmps23
  go_wp2_with (go_at_call 30; with_reducible refine (ones_any x hx _).mono ?_; rintro e w' ⟨rfl, rfl⟩)
  go_ret
  exact ⟨ret_bool HP.out, rfl⟩
/-- The parity of what is left, with so many ones so far. -/
theorem parN_half (v c : Nat) (hv : v < 256) : (Nat.beq ((c + v % 2) % 2) 0 == parN (v / 2)) = (Nat.beq (c % 2) 0 == parN v) := by
  have g := allB_at (allB_at (n := 256) (p := fun v => allB 2 fun c => cond (Nat.beq ((c + v % 2) % 2) 0 == parN (v / 2)) (Nat.beq (c % 2) 0 == parN v) (!(Nat.beq (c % 2) 0 == parN v))) (by decide +kernel) hv) (i := c % 2) (Nat.mod_lt _ (by decide))
  rw [show (c + v % 2) % 2 = (c % 2 + v % 2) % 2 from by omega]
  rw [Nat.mod_mod] at g
  revert g
  generalize (Nat.beq ((c % 2 + v % 2) % 2) 0 == parN (v / 2)) = p
  generalize (Nat.beq (c % 2) 0 == parN v) = q
  cases p <;> cases q <;> simp
theorem rparity_any (x : Int) (h0 : 0 ≤ x) (h1 : x < 256) (w : World) : Calls Try.prog 25 #[.int .u8 x] w fun e w' => e = .returned (.bool (par x)) ∧ w = w' := by
  obtain ⟨x, rfl⟩ := Int.eq_ofNat_of_zero_le h0
  have hx : x < 256 := by omega
  obtain ⟨p, hp⟩ : ∃ p : Bool, p = parN x := ⟨_, rfl⟩
  have HP := Lib.hid hp
  have HX := Lib.hid (show (Nat.beq (0 % 2) 0 == parN x) = p by rw [hp]; cases parN x <;> rfl)
  rw [show par (x : Int) = p from hp.symm]
  clear hp h0 h1
  go_enter Try.func25, Try.ntmps25
  go_wp2
  go_loop [0, 3] (fun v c => ∃ n m : Nat, v = .int .u8 n ∧ c = .int .i64 m ∧ n < 256 ∧ m ≤ 256 - n ∧ (Nat.beq (m % 2) 0 == parN n) = p) (fun v _ => (intOf v).toNat)
  case atStart => exact ⟨x, 0, rfl, rfl, hx, by omega, HX.out⟩
  case round =>
    obtain ⟨n, m, rfl, rfl, hn, hm, hq⟩ := hrel
    have HQ := Lib.hid hq
    clear hq
    by_cases hz : 0 < n
    · go_wp2
      go_round
      case rel => exact ⟨n / 2, m + n % 2, by go_num, by go_num, by omega, by omega, by rw [parN_half n m hn]; exact HQ.out⟩
      case measure => simp [intOf]; omega
    · obtain rfl : n = 0 := by omega
      go_wp2
      go_ret
      refine ⟨ret_bool ?_, rfl⟩
      rw [← HQ.out, show parN 0 = true from by decide, show ∀ b : Bool, (b == true) = b from by decide, Bool.eq_iff_iff, Nat.beq_eq, beq_iff_eq]
      omega
end Pop
end Go.Proofs.Ytjbdefidkgfijaa
