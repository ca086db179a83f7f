/- What the reference's functions on flags and bytes (layer 6) answer, each for every input. No conditions but that bytes are bytes. -/
import Derived.Test.YthghpgnnbdimaaaKit
namespace Go.Proofs.Ythghpgnnbdimaaa
open Go.RowKit
set_option linter.unusedSimpArgs false
set_option linter.unusedVariables false
namespace R06
open Kit
def b2 (acc : Nat) (b : Bool) : Nat := 2 * acc + b.toNat
def upto (l : List Bool) (k : Nat) : Nat := (l.take k).foldl b2 0
theorem upto_succ (l : List Bool) (k : Nat) (b : Bool) (h : l[k]? = some b) : upto l (k + 1) = 2 * upto l k + b.toNat := by
  unfold upto
  rw [List.take_add_one, h]
  simp [b2]
theorem upto_lt (l : List Bool) : ∀ k, upto l k < 2 ^ k
  | 0 => by simp [upto]
  | k + 1 => by
    have ih := upto_lt l k
    cases h : l[k]? with
    | none =>
      unfold upto at ih ⊢
      rw [List.take_add_one, h]; simp; omega
    | some b => rw [upto_succ l k b h]; cases b <;> simp <;> omega
theorem upto_flagsOf (s z y h x p n c : Bool) : upto [s,z,y,h,x,p,n,c] 8 = flagsOf s z y h x p n c := by
  revert s z y h x p n c; decide
/-- One round: the number so far, twice, and one more where the flag is set. -/
theorem round_ {l : List Bool} {k : Nat} (b : Bool) (h : l[k]? = some b) (hk : k < 8) :
    Value.int .u8 (bif b then 2 * (upto l k : Int) % 256 + 1 else 2 * (upto l k : Int) % 256) = Value.int .u8 (upto l (k + 1) : Nat) := by
  have h1 := upto_lt l k
  have h2 : (2 : Nat) ^ k ≤ 2 ^ 7 := Nat.pow_le_pow_right (by decide) (by omega)
  rw [upto_succ l k b h]
  cases b <;> simp <;> omega
theorem bt_int (b k : Nat) : (((b : Int) / (k : Int) % 2) == 1) = bt b k := by
  unfold bt
  rw [Bool.eq_iff_iff, Nat.beq_eq]
  simp
  omega
theorem bt_128 (b : Nat) (hb : b < 256) : (((b : Int) / 128) == 1) = bt b 128 := by
  rw [← bt_int b 128, Bool.eq_iff_iff]
  simp
  omega
theorem bt_1 (b : Nat) : (((b : Int) % 2) == 1) = bt b 1 := by
  rw [← bt_int b 1, Bool.eq_iff_iff]
  simp
def bi (b : Int) (k : Nat) : Bool := bt b.toNat k
theorem bi_cast (b k : Nat) : bi (b : Int) k = bt b k := rfl
theorem of_any (b : Int) (h0 : 0 ≤ b) (h1 : b < 256) (w : World) : Calls Try.prog 31 #[.int .u8 b] w fun e w' =>
    e = .returned (.agg #[.bool (bi b 128), .bool (bi b 64), .bool (bi b 32), .bool (bi b 16), .bool (bi b 8), .bool (bi b 4), .bool (bi b 2), .bool (bi b 1)]) ∧ ∃ o, w' = w.alloc o := by
  obtain ⟨b, rfl⟩ := Int.eq_ofNat_of_zero_le h0
  have hb : b < 256 := by omega
  go_enter Try.func31, Try.ntmps31
  go_wp2
  go_returns
  refine ⟨?_, _, rfl⟩
  simp only [bi_cast]
  rw [← bt_128 b hb, ← bt_int b 64, ← bt_int b 32, ← bt_int b 16, ← bt_int b 8, ← bt_int b 4, ← bt_int b 2, ← bt_1 b]
  rfl
theorem sub512 (n : Int) : (n + 512) % 256 = n % 256 := by omega
def c01 (c : Bool) : Int := cond c 1 0
def sg8 (a : Int) : Int := if 128 ≤ a then a - 256 else a
def ov8 (s : Int) : Bool := decide (s < -128) || decide (127 < s)
/-- The flags of a sum of two bytes and a carry. -/
def add8F (a b c : Int) : Int := (flagsOf (bi ((a + b + c) % 256) 128) ((a + b + c) % 256 == 0) (bi ((a + b + c) % 256) 32) (decide (15 < a % 16 + b % 16 + c)) (bi ((a + b + c) % 256) 8) (ov8 (sg8 a + sg8 b + c)) false (decide (255 < a + b + c)) : Nat)
/-- The flags of a difference. -/
def sub8F (a b c : Int) : Int := (flagsOf (bi ((a - b - c) % 256) 128) ((a - b - c) % 256 == 0) (bi ((a - b - c) % 256) 32) (decide (a % 16 - b % 16 - c < 0)) (bi ((a - b - c) % 256) 8) (ov8 (sg8 a - sg8 b - c)) true (decide (a - b - c < 0)) : Nat)
theorem fi_lt (s z y h x p n c : Bool) : 0 ≤ ((flagsOf s z y h x p n c : Nat) : Int) ∧ ((flagsOf s z y h x p n c : Nat) : Int) < 256 := ⟨Int.natCast_nonneg _, Int.ofNat_lt.2 (flagsOf_lt ..)⟩
theorem add8F_lt (a b c : Int) : 0 ≤ add8F a b c ∧ add8F a b c < 256 := fi_lt ..
theorem sub8F_lt (a b c : Int) : 0 ≤ sub8F a b c ∧ sub8F a b c < 256 := fi_lt ..
theorem flags_eq {s z y h x p n c s' z' y' h' x' p' n' c' : Bool} (e1 : s = s') (e2 : z = z') (e3 : y = y') (e4 : h = h') (e5 : x = x') (e6 : p = p') (e7 : n = n') (e8 : c = c') :
    ((flagsOf s z y h x p n c : Nat) : Int) = (flagsOf s' z' y' h' x' p' n' c' : Nat) := by subst e1 e2 e3 e4 e5 e6 e7 e8; rfl
end R06
end Go.Proofs.Ythghpgnnbdimaaa
