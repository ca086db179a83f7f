/- Small lemmas that this seat's proofs share: whole numbers that are natural numbers, all numbers below a bound, flat arguments. No conditions. -/
import Derived.Test.YtnhgmdfmhmkpgaaGreatDoorProg
import Derived.Below
import Derived.WalkKit
import Derived.KernelRfl
import Derived.RowKit3
import Derived.OwnWalk
import Derived.ProofKit
import Derived.OpenShut
import Derived.Carry
import Derived.Handy
import Derived.Lib.Hide
import Derived.Deep.DeepMust
namespace Go.Proofs.YtnhgmdfmhmkpgaaGreatDoor
namespace Kit
open Go.RowKit Go.ChangeShapes Go.WideShapes Go.ChangeAt
theorem w8 (n : Nat) (h : n < 256) : IntKind.u8.wrap ((n : Nat) : Int) = ((n : Nat) : Int) := by
  simp only [IntKind.wrap, IntKind.bits, IntKind.signed, Bool.false_and]
  show ((n : Int) % 256) = n
  omega
theorem w16 (n : Nat) (h : n < 65536) : IntKind.u16.wrap ((n : Nat) : Int) = ((n : Nat) : Int) := by
  simp only [IntKind.wrap, IntKind.bits, IntKind.signed, Bool.false_and]
  show ((n : Int) % 65536) = n
  omega
theorem w32 (n : Nat) (h : n < 4294967296) : IntKind.u32.wrap ((n : Nat) : Int) = ((n : Nat) : Int) := by
  simp only [IntKind.wrap, IntKind.bits, IntKind.signed, Bool.false_and]
  show ((n : Int) % 4294967296) = n
  omega
theorem and8 (x y : Nat) : Go.bits .and .u8 (x : Int) (y : Int) = ((x % 256 &&& y % 256 : Nat) : Int) := by
  show IntKind.u8.wrap (((BitVec.ofInt 8 (x : Int) &&& BitVec.ofInt 8 (y : Int)).toNat : Nat) : Int) = _
  rw [BitVec.ofInt_natCast, BitVec.ofInt_natCast, BitVec.toNat_and, BitVec.toNat_ofNat, BitVec.toNat_ofNat]
  exact w8 _ (show x % 2 ^ 8 &&& y % 2 ^ 8 < 2 ^ 8 from Nat.and_lt_two_pow _ (Nat.mod_lt _ (by decide)))
theorem or8 (x y : Nat) : Go.bits .or .u8 (x : Int) (y : Int) = ((x % 256 ||| y % 256 : Nat) : Int) := by
  show IntKind.u8.wrap (((BitVec.ofInt 8 (x : Int) ||| BitVec.ofInt 8 (y : Int)).toNat : Nat) : Int) = _
  rw [BitVec.ofInt_natCast, BitVec.ofInt_natCast, BitVec.toNat_or, BitVec.toNat_ofNat, BitVec.toNat_ofNat]
  exact w8 _ (show x % 2 ^ 8 ||| y % 2 ^ 8 < 2 ^ 8 from Nat.or_lt_two_pow (Nat.mod_lt _ (by decide)) (Nat.mod_lt _ (by decide)))
theorem xor8 (x y : Nat) : Go.bits .xor .u8 (x : Int) (y : Int) = ((x % 256 ^^^ y % 256 : Nat) : Int) := by
  show IntKind.u8.wrap (((BitVec.ofInt 8 (x : Int) ^^^ BitVec.ofInt 8 (y : Int)).toNat : Nat) : Int) = _
  rw [BitVec.ofInt_natCast, BitVec.ofInt_natCast, BitVec.toNat_xor, BitVec.toNat_ofNat, BitVec.toNat_ofNat]
  exact w8 _ (show x % 2 ^ 8 ^^^ y % 2 ^ 8 < 2 ^ 8 from Nat.xor_lt_two_pow (Nat.mod_lt _ (by decide)) (Nat.mod_lt _ (by decide)))
theorem andn8 (x y : Nat) : Go.bits .andNot .u8 (x : Int) (y : Int) = ((x % 256 &&& (255 - y % 256) : Nat) : Int) := by
  show IntKind.u8.wrap (((BitVec.ofInt 8 (x : Int) &&& ~~~ BitVec.ofInt 8 (y : Int)).toNat : Nat) : Int) = _
  rw [BitVec.ofInt_natCast, BitVec.ofInt_natCast, BitVec.toNat_and, BitVec.toNat_not, BitVec.toNat_ofNat, BitVec.toNat_ofNat]
  exact w8 _ (show x % 2 ^ 8 &&& (2 ^ 8 - 1 - y % 2 ^ 8) < 2 ^ 8 from Nat.and_lt_two_pow _ (Nat.lt_of_le_of_lt (Nat.sub_le _ _) (by decide)))
theorem and16 (x y : Nat) : Go.bits .and .u16 (x : Int) (y : Int) = ((x % 65536 &&& y % 65536 : Nat) : Int) := by
  show IntKind.u16.wrap (((BitVec.ofInt 16 (x : Int) &&& BitVec.ofInt 16 (y : Int)).toNat : Nat) : Int) = _
  rw [BitVec.ofInt_natCast, BitVec.ofInt_natCast, BitVec.toNat_and, BitVec.toNat_ofNat, BitVec.toNat_ofNat]
  exact w16 _ (show x % 2 ^ 16 &&& y % 2 ^ 16 < 2 ^ 16 from Nat.and_lt_two_pow _ (Nat.mod_lt _ (by decide)))
theorem or16 (x y : Nat) : Go.bits .or .u16 (x : Int) (y : Int) = ((x % 65536 ||| y % 65536 : Nat) : Int) := by
  show IntKind.u16.wrap (((BitVec.ofInt 16 (x : Int) ||| BitVec.ofInt 16 (y : Int)).toNat : Nat) : Int) = _
  rw [BitVec.ofInt_natCast, BitVec.ofInt_natCast, BitVec.toNat_or, BitVec.toNat_ofNat, BitVec.toNat_ofNat]
  exact w16 _ (show x % 2 ^ 16 ||| y % 2 ^ 16 < 2 ^ 16 from Nat.or_lt_two_pow (Nat.mod_lt _ (by decide)) (Nat.mod_lt _ (by decide)))
theorem xor16 (x y : Nat) : Go.bits .xor .u16 (x : Int) (y : Int) = ((x % 65536 ^^^ y % 65536 : Nat) : Int) := by
  show IntKind.u16.wrap (((BitVec.ofInt 16 (x : Int) ^^^ BitVec.ofInt 16 (y : Int)).toNat : Nat) : Int) = _
  rw [BitVec.ofInt_natCast, BitVec.ofInt_natCast, BitVec.toNat_xor, BitVec.toNat_ofNat, BitVec.toNat_ofNat]
  exact w16 _ (show x % 2 ^ 16 ^^^ y % 2 ^ 16 < 2 ^ 16 from Nat.xor_lt_two_pow (Nat.mod_lt _ (by decide)) (Nat.mod_lt _ (by decide)))
theorem andn16 (x y : Nat) : Go.bits .andNot .u16 (x : Int) (y : Int) = ((x % 65536 &&& (65535 - y % 65536) : Nat) : Int) := by
  show IntKind.u16.wrap (((BitVec.ofInt 16 (x : Int) &&& ~~~ BitVec.ofInt 16 (y : Int)).toNat : Nat) : Int) = _
  rw [BitVec.ofInt_natCast, BitVec.ofInt_natCast, BitVec.toNat_and, BitVec.toNat_not, BitVec.toNat_ofNat, BitVec.toNat_ofNat]
  exact w16 _ (show x % 2 ^ 16 &&& (2 ^ 16 - 1 - y % 2 ^ 16) < 2 ^ 16 from Nat.and_lt_two_pow _ (Nat.lt_of_le_of_lt (Nat.sub_le _ _) (by decide)))
theorem and32 (x y : Nat) : Go.bits .and .u32 (x : Int) (y : Int) = ((x % 4294967296 &&& y % 4294967296 : Nat) : Int) := by
  show IntKind.u32.wrap (((BitVec.ofInt 32 (x : Int) &&& BitVec.ofInt 32 (y : Int)).toNat : Nat) : Int) = _
  rw [BitVec.ofInt_natCast, BitVec.ofInt_natCast, BitVec.toNat_and, BitVec.toNat_ofNat, BitVec.toNat_ofNat]
  exact w32 _ (show x % 2 ^ 32 &&& y % 2 ^ 32 < 2 ^ 32 from Nat.and_lt_two_pow _ (Nat.mod_lt _ (by decide)))
theorem or32 (x y : Nat) : Go.bits .or .u32 (x : Int) (y : Int) = ((x % 4294967296 ||| y % 4294967296 : Nat) : Int) := by
  show IntKind.u32.wrap (((BitVec.ofInt 32 (x : Int) ||| BitVec.ofInt 32 (y : Int)).toNat : Nat) : Int) = _
  rw [BitVec.ofInt_natCast, BitVec.ofInt_natCast, BitVec.toNat_or, BitVec.toNat_ofNat, BitVec.toNat_ofNat]
  exact w32 _ (show x % 2 ^ 32 ||| y % 2 ^ 32 < 2 ^ 32 from Nat.or_lt_two_pow (Nat.mod_lt _ (by decide)) (Nat.mod_lt _ (by decide)))
theorem xor32 (x y : Nat) : Go.bits .xor .u32 (x : Int) (y : Int) = ((x % 4294967296 ^^^ y % 4294967296 : Nat) : Int) := by
  show IntKind.u32.wrap (((BitVec.ofInt 32 (x : Int) ^^^ BitVec.ofInt 32 (y : Int)).toNat : Nat) : Int) = _
  rw [BitVec.ofInt_natCast, BitVec.ofInt_natCast, BitVec.toNat_xor, BitVec.toNat_ofNat, BitVec.toNat_ofNat]
  exact w32 _ (show x % 2 ^ 32 ^^^ y % 2 ^ 32 < 2 ^ 32 from Nat.xor_lt_two_pow (Nat.mod_lt _ (by decide)) (Nat.mod_lt _ (by decide)))
theorem andn32 (x y : Nat) : Go.bits .andNot .u32 (x : Int) (y : Int) = ((x % 4294967296 &&& (4294967295 - y % 4294967296) : Nat) : Int) := by
  show IntKind.u32.wrap (((BitVec.ofInt 32 (x : Int) &&& ~~~ BitVec.ofInt 32 (y : Int)).toNat : Nat) : Int) = _
  rw [BitVec.ofInt_natCast, BitVec.ofInt_natCast, BitVec.toNat_and, BitVec.toNat_not, BitVec.toNat_ofNat, BitVec.toNat_ofNat]
  exact w32 _ (show x % 2 ^ 32 &&& (2 ^ 32 - 1 - y % 2 ^ 32) < 2 ^ 32 from Nat.and_lt_two_pow _ (Nat.lt_of_le_of_lt (Nat.sub_le _ _) (by decide)))
theorem wrap16 (x : Nat) : IntKind.u16.wrap (x : Int) = ((x % 65536 : Nat) : Int) := by
  simp [IntKind.wrap, IntKind.bits, IntKind.signed]
theorem wrap8 (x : Nat) : IntKind.u8.wrap (x : Int) = ((x % 256 : Nat) : Int) := by
  simp [IntKind.wrap, IntKind.bits, IntKind.signed]
theorem beqn (x y : Nat) : ((x : Int) == (y : Int)) = (x == y) := by
  rw [Bool.eq_iff_iff]; simp; omega
theorem u8_wf {a : Int} (h : (Lit.int .u8 a).wf = true) : ∃ n : Nat, a = n ∧ n < 256 := by
  simp only [Lit.wf, IntKind.min, IntKind.max, IntKind.signed, IntKind.bits, Bool.and_eq_true] at h
  refine ⟨a.toNat, ?_, ?_⟩ <;> simp at h <;> omega
theorem u16_wf {a : Int} (h : (Lit.int .u16 a).wf = true) : ∃ n : Nat, a = n ∧ n < 65536 := by
  simp only [Lit.wf, IntKind.min, IntKind.max, IntKind.signed, IntKind.bits, Bool.and_eq_true] at h
  refine ⟨a.toNat, ?_, ?_⟩ <;> simp at h <;> omega
theorem u8_bd {a : Int} (h : (Lit.int .u8 a).wf = true) : 0 ≤ a ∧ a < 256 := by
  obtain ⟨n, rfl, hn⟩ := u8_wf h; omega
theorem u16_bd {a : Int} (h : (Lit.int .u16 a).wf = true) : 0 ≤ a ∧ a < 65536 := by
  obtain ⟨n, rfl, hn⟩ := u16_wf h; omega
theorem i8_wrap (n : Int) : IntKind.i8.wrap n = (n + 128) % 256 - 128 := by
  simp [IntKind.wrap, IntKind.bits, IntKind.signed]
  split <;> omega
theorem i64_wf {a : Int} (h : (Lit.int .i64 a).wf = true) : -9223372036854775808 ≤ a ∧ a ≤ 9223372036854775807 := by
  simp only [Lit.wf, IntKind.min, IntKind.max, IntKind.signed, IntKind.bits, Bool.and_eq_true, decide_eq_true_eq] at h
  simp at h; omega
/-- All numbers below n. -/
def allB (n : Nat) (p : Nat → Bool) : Bool := Nat.rec true (fun i r => and (p i) r) n
theorem allB_at {n : Nat} {p : Nat → Bool} (h : allB n p = true) {i : Nat} (hi : i < n) : p i = true := by
  induction n with
  | zero => omega
  | succ n ih =>
    have h' : (p n && allB n p) = true := h
    rw [Bool.and_eq_true] at h'
    by_cases e : i = n
    · subst e; exact h'.1
    · exact ih h'.2 (by omega)
def fl (b : Bool) (n : Nat) : Nat := cond b n 0
/-- Eight flags as a byte. -/
def flagsOf (s z y h x p n c : Bool) : Nat := fl s 128 + (fl z 64 + (fl y 32 + (fl h 16 + (fl x 8 + (fl p 4 + (fl n 2 + fl c 1))))))
theorem flagsOf_lt (s z y h x p n c : Bool) : flagsOf s z y h x p n c < 256 := by
  revert s z y h x p n c; decide
def bt (v k : Nat) : Bool := Nat.beq (v / k % 2) 1
set_option linter.unusedVariables false
theorem and8l (x n : Nat) : Go.bits .and .u8 (x : Int) (no_index (OfNat.ofNat n : Int)) = ((x % 256 &&& (OfNat.ofNat n) % 256 : Nat) : Int) := and8 x n
theorem or8l (x n : Nat) : Go.bits .or .u8 (x : Int) (no_index (OfNat.ofNat n : Int)) = ((x % 256 ||| (OfNat.ofNat n) % 256 : Nat) : Int) := or8 x n
theorem xor8l (x n : Nat) : Go.bits .xor .u8 (x : Int) (no_index (OfNat.ofNat n : Int)) = ((x % 256 ^^^ (OfNat.ofNat n) % 256 : Nat) : Int) := xor8 x n
theorem andn8l (x n : Nat) : Go.bits .andNot .u8 (x : Int) (no_index (OfNat.ofNat n : Int)) = ((x % 256 &&& (255 - (OfNat.ofNat n) % 256) : Nat) : Int) := andn8 x n
theorem and16l (x n : Nat) : Go.bits .and .u16 (x : Int) (no_index (OfNat.ofNat n : Int)) = ((x % 65536 &&& (OfNat.ofNat n) % 65536 : Nat) : Int) := and16 x n
theorem or16l (x n : Nat) : Go.bits .or .u16 (x : Int) (no_index (OfNat.ofNat n : Int)) = ((x % 65536 ||| (OfNat.ofNat n) % 65536 : Nat) : Int) := or16 x n
theorem not8 (x : Nat) (h : x < 256) : Go.bits .xor .u8 IntKind.u8.max (x : Int) = ((255 - x : Nat) : Int) := by
  rw [show IntKind.u8.max = ((255 : Nat) : Int) from by decide, xor8, Nat.mod_eq_of_lt h]
  have := allB_at (n := 256) (p := fun x => Nat.beq (255 % 256 ^^^ x) (255 - x)) (by decide +kernel) h
  rw [Nat.eq_of_beq_eq_true this]
theorem not16 (x : Nat) (h : x < 65536) : Go.bits .xor .u16 IntKind.u16.max (x : Int) = ((65535 - x : Nat) : Int) := by
  rw [show IntKind.u16.max = ((65535 : Nat) : Int) from by decide, xor16, Nat.mod_eq_of_lt h]
  have h1 : (BitVec.allOnes 16 ^^^ BitVec.ofNat 16 x).toNat = (~~~ BitVec.ofNat 16 x).toNat := by rw [BitVec.allOnes_xor]
  rw [BitVec.toNat_xor, BitVec.toNat_not, BitVec.toNat_allOnes, BitVec.toNat_ofNat, show x % 2 ^ 16 = x from Nat.mod_eq_of_lt h] at h1
  rw [show (65535 % 65536 ^^^ x) = (2 ^ 16 - 1 ^^^ x) from rfl, h1]
theorem divl (x n : Nat) : (x : Int) / (no_index (OfNat.ofNat n : Int)) = ((x / OfNat.ofNat n : Nat) : Int) := rfl
theorem modl (x n : Nat) : (x : Int) % (no_index (OfNat.ofNat n : Int)) = ((x % OfNat.ofNat n : Nat) : Int) := rfl
theorem addn (x y : Nat) : (x : Int) + (y : Int) = ((x + y : Nat) : Int) := rfl
theorem muln (x y : Nat) : (x : Int) * (y : Int) = ((x * y : Nat) : Int) := rfl
theorem addl (x n : Nat) : (x : Int) + (no_index (OfNat.ofNat n : Int)) = ((x + OfNat.ofNat n : Nat) : Int) := rfl
theorem mull (x n : Nat) : (x : Int) * (no_index (OfNat.ofNat n : Int)) = ((x * OfNat.ofNat n : Nat) : Int) := rfl
theorem lmul (x n : Nat) : (no_index (OfNat.ofNat n : Int)) * (x : Int) = ((OfNat.ofNat n * x : Nat) : Int) := rfl
theorem ladd (x n : Nat) : (no_index (OfNat.ofNat n : Int)) + (x : Int) = ((OfNat.ofNat n + x : Nat) : Int) := rfl
theorem land8 (x y : Nat) : (x % 256 &&& y % 256) % 256 = x % 256 &&& y % 256 := Nat.mod_eq_of_lt (show _ < 2 ^ 8 from Nat.and_lt_two_pow _ (Nat.mod_lt _ (by decide)))
theorem lor8 (x y : Nat) : (x % 256 ||| y % 256) % 256 = x % 256 ||| y % 256 := Nat.mod_eq_of_lt (show _ < 2 ^ 8 from Nat.or_lt_two_pow (Nat.mod_lt _ (by decide)) (Nat.mod_lt _ (by decide)))
theorem lxor8 (x y : Nat) : (x % 256 ^^^ y % 256) % 256 = x % 256 ^^^ y % 256 := Nat.mod_eq_of_lt (show _ < 2 ^ 8 from Nat.xor_lt_two_pow (Nat.mod_lt _ (by decide)) (Nat.mod_lt _ (by decide)))
theorem landn8 (x y : Nat) : (x % 256 &&& (255 - y % 256)) % 256 = x % 256 &&& (255 - y % 256) := Nat.mod_eq_of_lt (Nat.lt_of_le_of_lt Nat.and_le_right (by omega))
theorem land16 (x y : Nat) : (x % 65536 &&& y % 65536) % 65536 = x % 65536 &&& y % 65536 := Nat.mod_eq_of_lt (show _ < 2 ^ 16 from Nat.and_lt_two_pow _ (Nat.mod_lt _ (by decide)))
theorem lor16 (x y : Nat) : (x % 65536 ||| y % 65536) % 65536 = x % 65536 ||| y % 65536 := Nat.mod_eq_of_lt (show _ < 2 ^ 16 from Nat.or_lt_two_pow (Nat.mod_lt _ (by decide)) (Nat.mod_lt _ (by decide)))
theorem lxor16 (x y : Nat) : (x % 65536 ^^^ y % 65536) % 65536 = x % 65536 ^^^ y % 65536 := Nat.mod_eq_of_lt (show _ < 2 ^ 16 from Nat.xor_lt_two_pow (Nat.mod_lt _ (by decide)) (Nat.mod_lt _ (by decide)))
theorem byte_all (f g : Nat → Nat) (h : allB 256 (fun v => Nat.beq (f v) (g v)) = true) (v : Nat) (hv : v < 256) : f v = g v := Nat.eq_of_beq_eq_true (allB_at h hv)
theorem m168 : ∀ v, v < 256 → v &&& 168 = fl (bt v 128) 128 + (fl (bt v 32) 32 + fl (bt v 8) 8) := byte_all _ _ (by decide +kernel)
theorem m196 : ∀ v, v < 256 → v &&& 196 = fl (bt v 128) 128 + (fl (bt v 64) 64 + fl (bt v 4) 4) := byte_all _ _ (by decide +kernel)
theorem m40 : ∀ v, v < 256 → v &&& 40 = fl (bt v 32) 32 + fl (bt v 8) 8 := byte_all _ _ (by decide +kernel)
theorem m16 : ∀ v, v < 256 → v &&& 16 = fl (bt v 16) 16 := byte_all _ _ (by decide +kernel)
theorem m4 : ∀ v, v < 256 → v &&& 4 = fl (bt v 4) 4 := byte_all _ _ (by decide +kernel)
theorem m1 : ∀ v, v < 256 → v &&& 1 = fl (bt v 1) 1 := byte_all _ _ (by decide +kernel)
theorem m1' : ∀ v, v < 256 → v &&& 1 = v % 2 := byte_all _ _ (by decide +kernel)
theorem xor_iff (p q : Bool) : (xor p q = true) ↔ ((p = true ∧ ¬ q = true) ∨ (¬ p = true ∧ q = true)) := by cases p <;> cases q <;> decide
theorem below_trans {w w1 w2 : World} (h1 : Below w.heap.size w w1) (h2 : Below w1.heap.size w1 w2) : Below w.heap.size w w2 := h1.trans (h2.mono h1.size)
theorem and64_mask (x : Int) (k : Nat) (hk : k ≤ 32) : Go.bits .and .i64 x ((2 ^ k : Nat) - 1 : Int) = x % ((2 ^ k : Nat) : Int) := by
  show IntKind.i64.wrap (((BitVec.ofInt 64 x &&& BitVec.ofInt 64 ((2 ^ k : Nat) - 1 : Int)).toNat : Nat) : Int) = _
  have hp : 0 < 2 ^ k := Nat.two_pow_pos k
  have hle : 2 ^ k ≤ 2 ^ 32 := Nat.pow_le_pow_right (by decide) hk
  rw [show ((2 ^ k : Nat) - 1 : Int) = ((2 ^ k - 1 : Nat) : Int) from by omega, BitVec.ofInt_natCast, BitVec.toNat_and, BitVec.toNat_ofNat, BitVec.toNat_ofInt,
    Nat.mod_eq_of_lt (show 2 ^ k - 1 < 2 ^ 64 from by simp only [Nat.reducePow] at *; omega), Nat.and_two_pow_sub_one_eq_mod]
  have h1 : (x % ((2 ^ 64 : Nat) : Int)).toNat % 2 ^ k = (x % ((2 ^ k : Nat) : Int)).toNat := by
    have hd : ((2 ^ k : Nat) : Int) ∣ ((2 ^ 64 : Nat) : Int) := Int.natCast_dvd_natCast.2 (Nat.pow_dvd_pow 2 (by omega))
    have a0 : 0 ≤ x % ((2 ^ 64 : Nat) : Int) := Int.emod_nonneg _ (by decide)
    have b0 : 0 ≤ x % ((2 ^ k : Nat) : Int) := Int.emod_nonneg _ (by omega)
    have : (((x % ((2 ^ 64 : Nat) : Int)).toNat % 2 ^ k : Nat) : Int) = ((x % ((2 ^ k : Nat) : Int)).toNat : Nat) := by
      rw [Int.natCast_emod, Int.toNat_of_nonneg a0, Int.toNat_of_nonneg b0, Int.emod_emod_of_dvd _ hd]
    exact Int.ofNat.inj this
  have b0 : 0 ≤ x % ((2 ^ k : Nat) : Int) := Int.emod_nonneg _ (by omega)
  have b1 : x % ((2 ^ k : Nat) : Int) < ((2 ^ k : Nat) : Int) := Int.emod_lt_of_pos _ (by omega)
  rw [h1, Int.toNat_of_nonneg b0, IntKind.wrap_i64]
  simp only [Nat.reducePow] at *
  omega
theorem and64_7 (x : Int) : Go.bits .and .i64 x 7 = x % 8 := and64_mask x 3 (by decide)
theorem and64_3 (x : Int) : Go.bits .and .i64 x 3 = x % 4 := and64_mask x 2 (by decide)
theorem and64_255 (x : Int) : Go.bits .and .i64 x 255 = x % 256 := and64_mask x 8 (by decide)
theorem and64_511 (x : Int) : Go.bits .and .i64 x 511 = x % 512 := and64_mask x 9 (by decide)
theorem and64_16383 (x : Int) : Go.bits .and .i64 x 16383 = x % 16384 := and64_mask x 14 (by decide)
theorem tmod_cases (x m : Int) (hm : 0 < m) : (0 ≤ x.tmod m ∧ x.tmod m = x % m) ∨ (x.tmod m < 0 ∧ x.tmod m = x % m - m) := by
  have h0 := Int.emod_nonneg x (show m ≠ 0 by omega)
  have h1 := Int.emod_lt_of_pos x hm
  rcases Int.le_total 0 x with h | h
  · left; rw [Int.tmod_eq_emod_of_nonneg h]; exact ⟨h0, rfl⟩
  · have e := Int.neg_tmod (-x) m
    rw [Int.neg_neg] at e
    rw [e, Int.tmod_eq_emod_of_nonneg (by omega)]
    by_cases hz : x % m = 0
    · left
      have : (-x) % m = 0 := Int.emod_eq_zero_of_dvd (Int.dvd_neg.2 (Int.dvd_of_emod_eq_zero hz))
      rw [this, hz]; omega
    · right
      have : (-x) % m = m - x % m := by
        have e2 : -x = (m - x % m) + m * (-(x / m) - 1) := by
          have := Int.mul_ediv_add_emod x m
          rw [Int.mul_sub, Int.mul_neg, Int.mul_one]; omega
        rw [e2, Int.add_mul_emod_self_left]
        exact Int.emod_eq_of_lt (by omega) (by omega)
      rw [this]; omega
theorem ret_int {k : IntKind} {a b : Int} (h : a = b) : Ending.returned (.int k a) = .returned (.int k b) := by rw [h]
theorem ret_bool {a b : Bool} (h : a = b) : Ending.returned (.bool a) = .returned (.bool b) := by rw [h]
theorem ret_int2 {k l : IntKind} {a b c d : Int} (h : a = b) (g : c = d) : Ending.returned (.tuple #[.int k a, .int l c]) = .returned (.tuple #[.int k b, .int l d]) := by rw [h, g]
open Go.RowKit Go.ChangeShapes Go.WideShapes Go.ChangeAt
/-- A flat type's cells, in order: none for a bool, some k for a whole number of kind k. -/
def chk : Nat → List (Nat × List (Option IntKind)) → Option (List (Option IntKind))
  | _, [] => some []
  | off, (o, l) :: r => if o = off then (chk (off + l.length) r).map (l ++ ·) else none
def flat (P : Program) : Nat → TypeId → Option (List (Option IntKind))
  | 0, _ => none
  | n + 1, t =>
    match P.underlying t with
    | some .bool => some [none]
    | some (.int k) => some [some k]
    | some (.struct fs) =>
      match fs.toList.mapM (fun f => match flat P n f.type with | some l => if l.length = P.cellsOf f.type then some (f.offset, l) else none | none => none) with
      | some xs => match chk 0 xs with | some l => if l.length = P.cellsOf t then some l else none | none => none
      | none => none
    | some (.array m e) =>
      match flat P n e with
      | some l => if l.length = P.cellsOf e ∧ m * l.length = P.cellsOf t then some (List.replicate m l).flatten else none
      | none => none
    | _ => none
def leafOk : Option IntKind → Value → Prop
  | none, v => ∃ b, v = .bool b
  | some k, v => ∃ n, v = .int k n ∧ (Lit.int k n).wf = true
def leavesOk : List (Option IntKind) → List Value → Prop
  | [], [] => True
  | k :: ks, v :: vs => leafOk k v ∧ leavesOk ks vs
  | _, _ => False
theorem leaves_append : ∀ {a b : List (Option IntKind)} {x y : List Value}, leavesOk a x → leavesOk b y → leavesOk (a ++ b) (x ++ y)
  | [], _, [], _, _, h => h
  | _ :: _, _, _ :: _, _, h, g => ⟨h.1, leaves_append h.2 g⟩
  | [], _, _ :: _, _, h, _ => h.elim
  | _ :: _, _, [], _, h, _ => h.elim
theorem leaves_length : ∀ {a : List (Option IntKind)} {x : List Value}, leavesOk a x → x.length = a.length
  | [], [], _ => rfl
  | _ :: _, _ :: _, h => by simp [leaves_length h.2]
  | [], _ :: _, h => h.elim
  | _ :: _, [], h => h.elim
theorem leaves_cons {k : Option IntKind} {ks : List (Option IntKind)} {vs : List Value} (h : leavesOk (k :: ks) vs) : ∃ v r, vs = v :: r ∧ leafOk k v ∧ leavesOk ks r := by
  cases vs with
  | nil => exact h.elim
  | cons v r => exact ⟨v, r, rfl, h.1, h.2⟩
theorem leaves_int {k : IntKind} {ks : List (Option IntKind)} {vs : List Value} (h : leavesOk (some k :: ks) vs) : ∃ n r, vs = .int k n :: r ∧ (Lit.int k n).wf = true ∧ leavesOk ks r := by
  obtain ⟨v, r, rfl, ⟨n, rfl, hn⟩, hr⟩ := leaves_cons h
  exact ⟨n, r, rfl, hn, hr⟩
theorem leaves_bool {ks : List (Option IntKind)} {vs : List Value} (h : leavesOk (none :: ks) vs) : ∃ b r, vs = .bool b :: r ∧ leavesOk ks r := by
  obtain ⟨v, r, rfl, ⟨n, rfl⟩, hr⟩ := leaves_cons h
  exact ⟨n, r, rfl, hr⟩
theorem leaves_nil {vs : List Value} (h : leavesOk [] vs) : vs = [] := by
  cases vs with
  | nil => rfl
  | cons v r => exact h.elim
theorem chk_ok {cs : List Value} : ∀ (xs : List (Nat × List (Option IntKind))) (off : Nat) (l : List (Option IntKind)), chk off xs = some l →
    (∀ x ∈ xs, leavesOk x.2 ((cs.drop x.1).take x.2.length)) → cs.length = off + l.length → leavesOk l (cs.drop off)
  | [], off, l, h, _, hl => by
    simp [chk] at h; subst h
    rw [List.drop_eq_nil_of_le (by simp at hl; omega)]
    trivial
  | (o, m) :: r, off, l, h, hx, hl => by
    unfold chk at h
    split at h
    · rename_i e
      subst e
      obtain ⟨k, hk, rfl⟩ := Option.map_eq_some_iff.1 h
      have h1 := hx (o, m) (List.mem_cons_self ..)
      have h2 := chk_ok r _ k hk (fun x hx' => hx x (List.mem_cons_of_mem _ hx')) (by simp at hl ⊢; omega)
      have e : cs.drop o = (cs.drop o).take m.length ++ cs.drop (o + m.length) := by
        rw [← List.drop_drop, List.take_append_drop]
      rw [e]
      exact leaves_append h1 h2
    · cases h
theorem mapM_get {α β : Type} {f : α → Option β} : ∀ {l : List α} {r : List β}, l.mapM f = some r → r.length = l.length ∧ ∀ (i : Nat) a b, l[i]? = some a → r[i]? = some b → f a = some b
  | [], r, h => by simp at h; subst h; exact ⟨rfl, fun i a b h => by simp at h⟩
  | x :: xs, r, h => by
    simp only [List.mapM_cons, Option.bind_eq_bind, Option.pure_def, Option.bind_eq_some_iff] at h
    obtain ⟨y, hy, ys, hys, hr⟩ := h
    injection hr with hr
    subst hr
    obtain ⟨hl, hg⟩ := mapM_get hys
    refine ⟨by simp [hl], fun i a b ha hb => ?_⟩
    cases i with
    | zero => simp at ha hb; subst ha; subst hb; exact hy
    | succ i => simp at ha hb; exact hg i a b ha hb
section
variable {H : Type} {enc : TypeId × Value → H} {P : Program} {w : World} {base : Nat} {spare : Nat → Bool} {held : Bool}
theorem rep_ok {l : List (Option IntKind)} : ∀ (m : Nat) (cs : List Value), (∀ i, i < m → leavesOk l ((cs.drop (i * l.length)).take l.length)) → cs.length = m * l.length → leavesOk (List.replicate m l).flatten cs
  | 0, cs, _, hl => by
    have : cs = [] := List.eq_nil_of_length_eq_zero (by omega)
    subst this; trivial
  | m + 1, cs, h, hl => by
    have h0 := h 0 (by omega)
    simp only [Nat.zero_mul, List.drop_zero] at h0
    have h1 := rep_ok m (cs.drop l.length) (fun i hi => by
      have := h (i + 1) (by omega)
      rw [List.drop_drop]
      rwa [show (i + 1) * l.length = l.length + i * l.length from by rw [Nat.add_mul, Nat.one_mul, Nat.add_comm]] at this) (by
        rw [List.length_drop, hl, Nat.add_mul]; omega)
    rw [List.replicate_succ, List.flatten_cons, ← List.take_append_drop l.length cs]
    exact leaves_append h0 h1
theorem flat_leaves : ∀ (n : Nat) (t : TypeId) (l : List (Option IntKind)) (fuel : Nat) (cs : List Value) (x : DataW H × List MemPlace),
    flat P n t = some l → DataW.trod enc P w base spare held fuel t cs = some x → leavesOk l cs
  | 0, _, _, _, _, _, h, _ => by cases h
  | n + 1, t, l, fuel, cs, x, h, ht => by
    unfold flat at h
    split at h
    · rename_i hu
      injection h with h; subst h
      obtain ⟨b, rfl, _⟩ := DataW.trod_bool hu ht
      exact ⟨⟨b, rfl⟩, trivial⟩
    · rename_i k hu
      injection h with h; subst h
      obtain ⟨m, rfl, _, hw⟩ := DataW.trod_int hu ht
      exact ⟨⟨m, rfl, hw⟩, trivial⟩
    · rename_i fs hu
      split at h
      · rename_i xs hxs
        split at h
        · rename_i l' hl'
          split at h
          · rename_i hsz
            injection h with h; subst h
            obtain ⟨ys, m, _, _, hlen, _, hf⟩ := DataW.trod_struct hu ht
            obtain ⟨hl1, hl2⟩ := mapM_get hxs
            have := chk_ok (cs := cs) xs 0 l' hl' (fun y hy => by
              obtain ⟨i, hi, rfl⟩ := List.getElem_of_mem hy
              have hi' : i < fs.toList.length := by rw [← hl1]; exact hi
              have he := hl2 i (fs.toList[i]) (xs[i]) (List.getElem?_eq_getElem hi') (List.getElem?_eq_getElem hi)
              have hfi := hf i (fs.toList[i]) (by rw [← Array.getElem?_toList]; exact List.getElem?_eq_getElem hi')
              split at he
              · rename_i l1 hl1'
                split at he
                · rename_i hsz1
                  injection he with he
                  rw [← he]
                  simp only
                  cases hy2 : ys[i]? with
                  | none =>
                    have : fs.size ≤ i := by
                      rename_i hys _ _
                      have := List.getElem?_eq_none_iff.1 hy2
                      omega
                    simp at hi'
                    omega
                  | some y2 =>
                    rw [hy2] at hfi
                    rw [hsz1]
                    exact flat_leaves n _ _ _ _ _ hl1' hfi
                · cases he
              · cases he) (by rw [hlen, hsz]; simp)
            simpa using this
          · cases h
        · cases h
      · cases h
    · rename_i m e hu
      split at h
      · rename_i l1 hl1
        split at h
        · rename_i hsz
          injection h with h; subst h
          obtain ⟨ys, k, _, _, hlen, hyl, hf⟩ := DataW.trod_array hu ht
          refine rep_ok m cs (fun i hi => ?_) (by rw [hlen, hsz.2])
          have hfi := hf i hi
          have : ys[i]? = some (ys[i]'(by omega)) := List.getElem?_eq_getElem (by omega)
          rw [this] at hfi
          rw [hsz.1]
          exact flat_leaves n _ _ _ _ _ hl1 hfi
        · cases h
      · cases h
    · cases h
end
section
variable {H : Type} {enc : TypeId × Value → H} {P : Program} {w : World} {base : Nat} {spare : Nat → Bool} {held : Bool}
def isAgg (P : Program) (t : TypeId) : Bool := match P.underlying t with | some (.struct _) => true | some (.array _ _) => true | _ => false
theorem open_flat {r : Reach} {b0 : Nat} {t : TypeId} {v : Value} {d : DataW H} {p : List MemPlace} (n : Nat) (ls : List (Option IntKind)) (hf : flat P n t = some ls) (hs : isAgg P t = true)
    (hv : Value.okWide P w r b0 t v) (h : DataW.Trod enc P w base spare held t v d p) : ∃ l : List Value, v = .agg ⟨l⟩ ∧ leavesOk ls l := by
  obtain ⟨fuel, hx⟩ := h
  have : ∃ cs, v = .agg cs := by
    unfold Value.okWide at hv
    unfold isAgg at hs
    split at hs
    · rename_i h1; simp only [h1] at hv; obtain ⟨cs, e, _⟩ := hv; exact ⟨cs, e⟩
    · rename_i h1; simp only [h1] at hv; obtain ⟨cs, e, _⟩ := hv; exact ⟨cs, e⟩
    · cases hs
  obtain ⟨⟨l⟩, rfl⟩ := this
  exact ⟨l, rfl, flat_leaves n t ls fuel _ _ hf hx⟩
end
end Kit
end Go.Proofs.YtnhgmdfmhmkpgaaGreatDoor
