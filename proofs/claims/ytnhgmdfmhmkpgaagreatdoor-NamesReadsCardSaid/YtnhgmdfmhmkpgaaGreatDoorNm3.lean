/- What instructions are called (layer 11): high. No conditions but those stated. -/
import Derived.Test.YtnhgmdfmhmkpgaaGreatDoorNm2
import Derived.Lib.AppendIntMem
import Derived.RegionTactic
import Derived.LoopTactic
import Derived.Deep.RegionHeld3
import Derived.Deep.DeepCutAuto
import Derived.Lib.Hide
namespace Go.Proofs.YtnhgmdfmhmkpgaaGreatDoor
open Go.RowKit
open Kit
set_option linter.unusedSimpArgs false
set_option linter.unusedVariables false
namespace Nm
attribute [local simp] ix2_0 ix2_1 ix4_0 ix4_1 ix4_2 ix4_3 ix8_0 ix8_1 ix8_2 ix8_3 ix8_4 ix8_5 ix8_6 ix8_7 wrp0 wrp1 wrp2 wrp3 wrp4 wrp5 wrp6 wrp7 wrp8 wrp9
def dig (n : Nat) : Str := if n < 10 then [UInt8.ofNat (48 + n)] else if n < 100 then [UInt8.ofNat (48 + n / 10), UInt8.ofNat (48 + n % 10)] else [UInt8.ofNat (48 + n / 100), UInt8.ofNat (48 + n / 10 % 10), UInt8.ofNat (48 + n % 10)]
theorem dig_eq (n : Nat) (h : n < 1000) : Lib.decDigits n = dig n := by
  unfold Lib.decDigits
  unfold Lib.decDigits
  unfold Lib.decDigits
  unfold dig
  by_cases h1 : n < 10
  · rw [dif_pos h1, if_pos h1]
  · rw [dif_neg h1, if_neg h1]
    by_cases h2 : n < 100
    · rw [dif_pos (by omega), if_pos h2]; rfl
    · rw [dif_neg (by omega), if_neg h2, dif_pos (by omega)]
      simp only [List.cons_append, List.nil_append]
      rw [show n / 10 / 10 = n / 100 by omega]
def itoaL (n : Int) : Str := if n < 0 then 45 :: dig n.natAbs else dig n.toNat
theorem dig_len (n : Nat) : (dig n).length ≤ 3 := by
  unfold dig
  repeat' split
  all_goals simp
theorem itoa_len (n : Int) : (itoaL n).length ≤ 4 := by
  have h1 := dig_len n.natAbs
  have h2 := dig_len n.toNat
  unfold itoaL
  split
  · simp only [List.length_cons]; omega
  · omega
theorem itoa_any (n : Int) (h0 : -1000 < n) (h1 : n < 1000) : HeldS 33 #[.int .i64 n] (itoaL n) 4 := heldS fun W hW => by
  refine (Tryz.strconv_Itoa n (by omega) (by omega) W hW.2.1).mono ?_
  rintro e w' ⟨rfl, k, os, rfl⟩
  have e : Lib.itoa n = itoaL n := by
    unfold Lib.itoa itoaL
    split <;> rw [dig_eq _ (by omega)]
  exact ⟨_, rfl, e, by rw [Lib.size_eq]; show (Lib.itoa n).length ≤ 4; rw [e]; exact itoa_len n, Lib.below_grow _ _ (Nat.le_refl _) _ _⟩
def highL (y z p q : Int) : Str :=
  if z = 0 then [82, 69, 84, 32] ++ wd t_conds y else
  if z = 1 then (if q = 0 then [80, 79, 80, 32] ++ wd t_pushed p else wd t_h1 p) else
  if z = 2 then [74, 80, 32] ++ (wd t_conds y ++ [44, 110, 110]) else
  if z = 3 then wd t_h3 y else
  if z = 4 then [67, 65, 76, 76, 32] ++ (wd t_conds y ++ [44, 110, 110]) else
  if z = 5 then (if q = 0 then [80, 85, 83, 72, 32] ++ wd t_pushed p else wd t_h5 p) else
  if z = 6 then sumL y [110] else [82, 83, 84, 32] ++ itoaL (8 * y)
set_option maxRecDepth 100000 in
set_option maxHeartbeats 4000000 in
theorem high_0 (x y p q : Int) (hy : 0 ≤ y ∧ y < 8) (hp : 0 ≤ p ∧ p < 4) (hq : 0 ≤ q ∧ q < 2) : HeldS 31 #[.agg #[.int .i64 x, .int .i64 y, .int .i64 0, .int .i64 p, .int .i64 q]] (highL y 0 p q) 40 := heldS' fun W hW => by
  have k0 := (NB.start hW).alloc #[.int .i64 x, .int .i64 y, .int .i64 0, .int .i64 p, .int .i64 q] 30
  skip
  all_goals
    go_enter Tryz.func31, Tryz.ntmps31
    go_wp2_with (first | (go_at_call 32; (first | (with_reducible refine (w_ones _ (by omega) (by omega) _ _ _ (by first | assumption | exact NB.drew (by assumption))).mono ?_) | (with_reducible refine (w_pairs _ (by omega) (by omega) _ _ _ (by first | assumption | exact NB.drew (by assumption))).mono ?_) | (with_reducible refine (w_pushed _ (by omega) (by omega) _ _ _ (by first | assumption | exact NB.drew (by assumption))).mono ?_) | (with_reducible refine (w_conds _ (by omega) (by omega) _ _ _ (by first | assumption | exact NB.drew (by assumption))).mono ?_) | (with_reducible refine (w_turns _ (by omega) (by omega) _ _ _ (by first | assumption | exact NB.drew (by assumption))).mono ?_) | (with_reducible refine (w_there _ (by omega) (by omega) _ _ _ (by first | assumption | exact NB.drew (by assumption))).mono ?_) | (with_reducible refine (w_what _ (by omega) (by omega) _ _ _ (by first | assumption | exact NB.drew (by assumption))).mono ?_) | (with_reducible refine (w_rots _ (by omega) (by omega) _ _ _ (by first | assumption | exact NB.drew (by assumption))).mono ?_) | (with_reducible refine (w_brs _ (by omega) (by omega) _ _ _ (by first | assumption | exact NB.drew (by assumption))).mono ?_) | (with_reducible refine (w_blk _ (by omega) (by omega) _ _ _ (by first | assumption | exact NB.drew (by assumption))).mono ?_) | (with_reducible refine (w_ends _ (by omega) (by omega) _ _ _ (by first | assumption | exact NB.drew (by assumption))).mono ?_) | (with_reducible refine (w_sa _ (by omega) (by omega) _ _ _ (by first | assumption | exact NB.drew (by assumption))).mono ?_) | (with_reducible refine (w_ims _ (by omega) (by omega) _ _ _ (by first | assumption | exact NB.drew (by assumption))).mono ?_)); rintro e w1 ⟨a1, rfl, ha1, hz1, k1⟩; (try (obtain ⟨c10, c11, c12, c13, c14⟩ := k1.c5))) | (go_at_call 30; (with_reducible refine (sum_any _ (by omega) _ 8 (by first | assumption | decide) (by omega) _ _ _ (by first | assumption | exact NB.drew (by assumption))).mono ?_); rintro e w2 ⟨a2, rfl, ha2, hz2, k2⟩; (try (obtain ⟨c20, c21, c22, c23, c24⟩ := k2.c5))) | (go_at_call 33; (with_reducible refine (itoa_any _ (by omega) (by omega) _ _ _ (by first | assumption | exact NB.drew (by assumption))).mono ?_); rintro e w3 ⟨a3, rfl, ha3, hz3, k3⟩; (try (obtain ⟨c30, c31, c32, c33, c34⟩ := k3.c5))))
    all_goals first
      | (exfalso; (try simp only [ByteArray.size_append, size_mk, List.length_cons, List.length_nil] at *); omega)
      | (go_ret; exact ⟨_, rfl, by simp [highL, wd, t_h1, t_h3, t_h5, *] <;> (intros; omega), by (try simp only [ByteArray.size_append, size_mk, List.length_cons, List.length_nil]); omega, _, by assumption⟩)
set_option maxRecDepth 100000 in
set_option maxHeartbeats 4000000 in
theorem high_1 (x y p q : Int) (hy : 0 ≤ y ∧ y < 8) (hp : 0 ≤ p ∧ p < 4) (hq : 0 ≤ q ∧ q < 2) : HeldS 31 #[.agg #[.int .i64 x, .int .i64 y, .int .i64 1, .int .i64 p, .int .i64 q]] (highL y 1 p q) 40 := heldS' fun W hW => by
  have k0 := (NB.start hW).alloc #[.int .i64 x, .int .i64 y, .int .i64 1, .int .i64 p, .int .i64 q] 30
  rcases (by omega : q = 0 ∨ q = 1) with rfl | rfl <;> rcases (by omega : p = 0 ∨ p = 1 ∨ p = 2 ∨ p = 3) with rfl | rfl | rfl | rfl
  all_goals
    go_enter Tryz.func31, Tryz.ntmps31
    go_wp2_with (first | (go_at_call 32; (first | (with_reducible refine (w_ones _ (by omega) (by omega) _ _ _ (by first | assumption | exact NB.drew (by assumption))).mono ?_) | (with_reducible refine (w_pairs _ (by omega) (by omega) _ _ _ (by first | assumption | exact NB.drew (by assumption))).mono ?_) | (with_reducible refine (w_pushed _ (by omega) (by omega) _ _ _ (by first | assumption | exact NB.drew (by assumption))).mono ?_) | (with_reducible refine (w_conds _ (by omega) (by omega) _ _ _ (by first | assumption | exact NB.drew (by assumption))).mono ?_) | (with_reducible refine (w_turns _ (by omega) (by omega) _ _ _ (by first | assumption | exact NB.drew (by assumption))).mono ?_) | (with_reducible refine (w_there _ (by omega) (by omega) _ _ _ (by first | assumption | exact NB.drew (by assumption))).mono ?_) | (with_reducible refine (w_what _ (by omega) (by omega) _ _ _ (by first | assumption | exact NB.drew (by assumption))).mono ?_) | (with_reducible refine (w_rots _ (by omega) (by omega) _ _ _ (by first | assumption | exact NB.drew (by assumption))).mono ?_) | (with_reducible refine (w_brs _ (by omega) (by omega) _ _ _ (by first | assumption | exact NB.drew (by assumption))).mono ?_) | (with_reducible refine (w_blk _ (by omega) (by omega) _ _ _ (by first | assumption | exact NB.drew (by assumption))).mono ?_) | (with_reducible refine (w_ends _ (by omega) (by omega) _ _ _ (by first | assumption | exact NB.drew (by assumption))).mono ?_) | (with_reducible refine (w_sa _ (by omega) (by omega) _ _ _ (by first | assumption | exact NB.drew (by assumption))).mono ?_) | (with_reducible refine (w_ims _ (by omega) (by omega) _ _ _ (by first | assumption | exact NB.drew (by assumption))).mono ?_)); rintro e w1 ⟨a1, rfl, ha1, hz1, k1⟩; (try (obtain ⟨c10, c11, c12, c13, c14⟩ := k1.c5))) | (go_at_call 30; (with_reducible refine (sum_any _ (by omega) _ 8 (by first | assumption | decide) (by omega) _ _ _ (by first | assumption | exact NB.drew (by assumption))).mono ?_); rintro e w2 ⟨a2, rfl, ha2, hz2, k2⟩; (try (obtain ⟨c20, c21, c22, c23, c24⟩ := k2.c5))) | (go_at_call 33; (with_reducible refine (itoa_any _ (by omega) (by omega) _ _ _ (by first | assumption | exact NB.drew (by assumption))).mono ?_); rintro e w3 ⟨a3, rfl, ha3, hz3, k3⟩; (try (obtain ⟨c30, c31, c32, c33, c34⟩ := k3.c5))))
    all_goals first
      | (exfalso; (try simp only [ByteArray.size_append, size_mk, List.length_cons, List.length_nil] at *); omega)
      | (go_ret; exact ⟨_, rfl, by simp [highL, wd, t_h1, t_h3, t_h5, *] <;> (intros; omega), by (try simp only [ByteArray.size_append, size_mk, List.length_cons, List.length_nil]); omega, _, by assumption⟩)
set_option maxRecDepth 100000 in
set_option maxHeartbeats 4000000 in
theorem high_2 (x y p q : Int) (hy : 0 ≤ y ∧ y < 8) (hp : 0 ≤ p ∧ p < 4) (hq : 0 ≤ q ∧ q < 2) : HeldS 31 #[.agg #[.int .i64 x, .int .i64 y, .int .i64 2, .int .i64 p, .int .i64 q]] (highL y 2 p q) 40 := heldS' fun W hW => by
  have k0 := (NB.start hW).alloc #[.int .i64 x, .int .i64 y, .int .i64 2, .int .i64 p, .int .i64 q] 30
  skip
  all_goals
    go_enter Tryz.func31, Tryz.ntmps31
    go_wp2_with (first | (go_at_call 32; (first | (with_reducible refine (w_ones _ (by omega) (by omega) _ _ _ (by first | assumption | exact NB.drew (by assumption))).mono ?_) | (with_reducible refine (w_pairs _ (by omega) (by omega) _ _ _ (by first | assumption | exact NB.drew (by assumption))).mono ?_) | (with_reducible refine (w_pushed _ (by omega) (by omega) _ _ _ (by first | assumption | exact NB.drew (by assumption))).mono ?_) | (with_reducible refine (w_conds _ (by omega) (by omega) _ _ _ (by first | assumption | exact NB.drew (by assumption))).mono ?_) | (with_reducible refine (w_turns _ (by omega) (by omega) _ _ _ (by first | assumption | exact NB.drew (by assumption))).mono ?_) | (with_reducible refine (w_there _ (by omega) (by omega) _ _ _ (by first | assumption | exact NB.drew (by assumption))).mono ?_) | (with_reducible refine (w_what _ (by omega) (by omega) _ _ _ (by first | assumption | exact NB.drew (by assumption))).mono ?_) | (with_reducible refine (w_rots _ (by omega) (by omega) _ _ _ (by first | assumption | exact NB.drew (by assumption))).mono ?_) | (with_reducible refine (w_brs _ (by omega) (by omega) _ _ _ (by first | assumption | exact NB.drew (by assumption))).mono ?_) | (with_reducible refine (w_blk _ (by omega) (by omega) _ _ _ (by first | assumption | exact NB.drew (by assumption))).mono ?_) | (with_reducible refine (w_ends _ (by omega) (by omega) _ _ _ (by first | assumption | exact NB.drew (by assumption))).mono ?_) | (with_reducible refine (w_sa _ (by omega) (by omega) _ _ _ (by first | assumption | exact NB.drew (by assumption))).mono ?_) | (with_reducible refine (w_ims _ (by omega) (by omega) _ _ _ (by first | assumption | exact NB.drew (by assumption))).mono ?_)); rintro e w1 ⟨a1, rfl, ha1, hz1, k1⟩; (try (obtain ⟨c10, c11, c12, c13, c14⟩ := k1.c5))) | (go_at_call 30; (with_reducible refine (sum_any _ (by omega) _ 8 (by first | assumption | decide) (by omega) _ _ _ (by first | assumption | exact NB.drew (by assumption))).mono ?_); rintro e w2 ⟨a2, rfl, ha2, hz2, k2⟩; (try (obtain ⟨c20, c21, c22, c23, c24⟩ := k2.c5))) | (go_at_call 33; (with_reducible refine (itoa_any _ (by omega) (by omega) _ _ _ (by first | assumption | exact NB.drew (by assumption))).mono ?_); rintro e w3 ⟨a3, rfl, ha3, hz3, k3⟩; (try (obtain ⟨c30, c31, c32, c33, c34⟩ := k3.c5))))
    all_goals first
      | (exfalso; (try simp only [ByteArray.size_append, size_mk, List.length_cons, List.length_nil] at *); omega)
      | (go_ret; exact ⟨_, rfl, by simp [highL, wd, t_h1, t_h3, t_h5, *] <;> (intros; omega), by (try simp only [ByteArray.size_append, size_mk, List.length_cons, List.length_nil]); omega, _, by assumption⟩)
set_option maxRecDepth 100000 in
set_option maxHeartbeats 4000000 in
theorem high_3 (x y p q : Int) (hy : 0 ≤ y ∧ y < 8) (hp : 0 ≤ p ∧ p < 4) (hq : 0 ≤ q ∧ q < 2) : HeldS 31 #[.agg #[.int .i64 x, .int .i64 y, .int .i64 3, .int .i64 p, .int .i64 q]] (highL y 3 p q) 40 := heldS' fun W hW => by
  have k0 := (NB.start hW).alloc #[.int .i64 x, .int .i64 y, .int .i64 3, .int .i64 p, .int .i64 q] 30
  rcases (by omega : y = 0 ∨ y = 1 ∨ y = 2 ∨ y = 3 ∨ y = 4 ∨ y = 5 ∨ y = 6 ∨ y = 7) with rfl | rfl | rfl | rfl | rfl | rfl | rfl | rfl
  all_goals
    go_enter Tryz.func31, Tryz.ntmps31
    go_wp2_with (first | (go_at_call 32; (first | (with_reducible refine (w_ones _ (by omega) (by omega) _ _ _ (by first | assumption | exact NB.drew (by assumption))).mono ?_) | (with_reducible refine (w_pairs _ (by omega) (by omega) _ _ _ (by first | assumption | exact NB.drew (by assumption))).mono ?_) | (with_reducible refine (w_pushed _ (by omega) (by omega) _ _ _ (by first | assumption | exact NB.drew (by assumption))).mono ?_) | (with_reducible refine (w_conds _ (by omega) (by omega) _ _ _ (by first | assumption | exact NB.drew (by assumption))).mono ?_) | (with_reducible refine (w_turns _ (by omega) (by omega) _ _ _ (by first | assumption | exact NB.drew (by assumption))).mono ?_) | (with_reducible refine (w_there _ (by omega) (by omega) _ _ _ (by first | assumption | exact NB.drew (by assumption))).mono ?_) | (with_reducible refine (w_what _ (by omega) (by omega) _ _ _ (by first | assumption | exact NB.drew (by assumption))).mono ?_) | (with_reducible refine (w_rots _ (by omega) (by omega) _ _ _ (by first | assumption | exact NB.drew (by assumption))).mono ?_) | (with_reducible refine (w_brs _ (by omega) (by omega) _ _ _ (by first | assumption | exact NB.drew (by assumption))).mono ?_) | (with_reducible refine (w_blk _ (by omega) (by omega) _ _ _ (by first | assumption | exact NB.drew (by assumption))).mono ?_) | (with_reducible refine (w_ends _ (by omega) (by omega) _ _ _ (by first | assumption | exact NB.drew (by assumption))).mono ?_) | (with_reducible refine (w_sa _ (by omega) (by omega) _ _ _ (by first | assumption | exact NB.drew (by assumption))).mono ?_) | (with_reducible refine (w_ims _ (by omega) (by omega) _ _ _ (by first | assumption | exact NB.drew (by assumption))).mono ?_)); rintro e w1 ⟨a1, rfl, ha1, hz1, k1⟩; (try (obtain ⟨c10, c11, c12, c13, c14⟩ := k1.c5))) | (go_at_call 30; (with_reducible refine (sum_any _ (by omega) _ 8 (by first | assumption | decide) (by omega) _ _ _ (by first | assumption | exact NB.drew (by assumption))).mono ?_); rintro e w2 ⟨a2, rfl, ha2, hz2, k2⟩; (try (obtain ⟨c20, c21, c22, c23, c24⟩ := k2.c5))) | (go_at_call 33; (with_reducible refine (itoa_any _ (by omega) (by omega) _ _ _ (by first | assumption | exact NB.drew (by assumption))).mono ?_); rintro e w3 ⟨a3, rfl, ha3, hz3, k3⟩; (try (obtain ⟨c30, c31, c32, c33, c34⟩ := k3.c5))))
    all_goals first
      | (exfalso; (try simp only [ByteArray.size_append, size_mk, List.length_cons, List.length_nil] at *); omega)
      | (go_ret; exact ⟨_, rfl, by simp [highL, wd, t_h1, t_h3, t_h5, *] <;> (intros; omega), by (try simp only [ByteArray.size_append, size_mk, List.length_cons, List.length_nil]); omega, _, by assumption⟩)
set_option maxRecDepth 100000 in
set_option maxHeartbeats 4000000 in
theorem high_4 (x y p q : Int) (hy : 0 ≤ y ∧ y < 8) (hp : 0 ≤ p ∧ p < 4) (hq : 0 ≤ q ∧ q < 2) : HeldS 31 #[.agg #[.int .i64 x, .int .i64 y, .int .i64 4, .int .i64 p, .int .i64 q]] (highL y 4 p q) 40 := heldS' fun W hW => by
  have k0 := (NB.start hW).alloc #[.int .i64 x, .int .i64 y, .int .i64 4, .int .i64 p, .int .i64 q] 30
  skip
  all_goals
    go_enter Tryz.func31, Tryz.ntmps31
    go_wp2_with (first | (go_at_call 32; (first | (with_reducible refine (w_ones _ (by omega) (by omega) _ _ _ (by first | assumption | exact NB.drew (by assumption))).mono ?_) | (with_reducible refine (w_pairs _ (by omega) (by omega) _ _ _ (by first | assumption | exact NB.drew (by assumption))).mono ?_) | (with_reducible refine (w_pushed _ (by omega) (by omega) _ _ _ (by first | assumption | exact NB.drew (by assumption))).mono ?_) | (with_reducible refine (w_conds _ (by omega) (by omega) _ _ _ (by first | assumption | exact NB.drew (by assumption))).mono ?_) | (with_reducible refine (w_turns _ (by omega) (by omega) _ _ _ (by first | assumption | exact NB.drew (by assumption))).mono ?_) | (with_reducible refine (w_there _ (by omega) (by omega) _ _ _ (by first | assumption | exact NB.drew (by assumption))).mono ?_) | (with_reducible refine (w_what _ (by omega) (by omega) _ _ _ (by first | assumption | exact NB.drew (by assumption))).mono ?_) | (with_reducible refine (w_rots _ (by omega) (by omega) _ _ _ (by first | assumption | exact NB.drew (by assumption))).mono ?_) | (with_reducible refine (w_brs _ (by omega) (by omega) _ _ _ (by first | assumption | exact NB.drew (by assumption))).mono ?_) | (with_reducible refine (w_blk _ (by omega) (by omega) _ _ _ (by first | assumption | exact NB.drew (by assumption))).mono ?_) | (with_reducible refine (w_ends _ (by omega) (by omega) _ _ _ (by first | assumption | exact NB.drew (by assumption))).mono ?_) | (with_reducible refine (w_sa _ (by omega) (by omega) _ _ _ (by first | assumption | exact NB.drew (by assumption))).mono ?_) | (with_reducible refine (w_ims _ (by omega) (by omega) _ _ _ (by first | assumption | exact NB.drew (by assumption))).mono ?_)); rintro e w1 ⟨a1, rfl, ha1, hz1, k1⟩; (try (obtain ⟨c10, c11, c12, c13, c14⟩ := k1.c5))) | (go_at_call 30; (with_reducible refine (sum_any _ (by omega) _ 8 (by first | assumption | decide) (by omega) _ _ _ (by first | assumption | exact NB.drew (by assumption))).mono ?_); rintro e w2 ⟨a2, rfl, ha2, hz2, k2⟩; (try (obtain ⟨c20, c21, c22, c23, c24⟩ := k2.c5))) | (go_at_call 33; (with_reducible refine (itoa_any _ (by omega) (by omega) _ _ _ (by first | assumption | exact NB.drew (by assumption))).mono ?_); rintro e w3 ⟨a3, rfl, ha3, hz3, k3⟩; (try (obtain ⟨c30, c31, c32, c33, c34⟩ := k3.c5))))
    all_goals first
      | (exfalso; (try simp only [ByteArray.size_append, size_mk, List.length_cons, List.length_nil] at *); omega)
      | (go_ret; exact ⟨_, rfl, by simp [highL, wd, t_h1, t_h3, t_h5, *] <;> (intros; omega), by (try simp only [ByteArray.size_append, size_mk, List.length_cons, List.length_nil]); omega, _, by assumption⟩)
set_option maxRecDepth 100000 in
set_option maxHeartbeats 4000000 in
theorem high_5 (x y p q : Int) (hy : 0 ≤ y ∧ y < 8) (hp : 0 ≤ p ∧ p < 4) (hq : 0 ≤ q ∧ q < 2) : HeldS 31 #[.agg #[.int .i64 x, .int .i64 y, .int .i64 5, .int .i64 p, .int .i64 q]] (highL y 5 p q) 40 := heldS' fun W hW => by
  have k0 := (NB.start hW).alloc #[.int .i64 x, .int .i64 y, .int .i64 5, .int .i64 p, .int .i64 q] 30
  rcases (by omega : q = 0 ∨ q = 1) with rfl | rfl <;> rcases (by omega : p = 0 ∨ p = 1 ∨ p = 2 ∨ p = 3) with rfl | rfl | rfl | rfl
  all_goals
    go_enter Tryz.func31, Tryz.ntmps31
    go_wp2_with (first | (go_at_call 32; (first | (with_reducible refine (w_ones _ (by omega) (by omega) _ _ _ (by first | assumption | exact NB.drew (by assumption))).mono ?_) | (with_reducible refine (w_pairs _ (by omega) (by omega) _ _ _ (by first | assumption | exact NB.drew (by assumption))).mono ?_) | (with_reducible refine (w_pushed _ (by omega) (by omega) _ _ _ (by first | assumption | exact NB.drew (by assumption))).mono ?_) | (with_reducible refine (w_conds _ (by omega) (by omega) _ _ _ (by first | assumption | exact NB.drew (by assumption))).mono ?_) | (with_reducible refine (w_turns _ (by omega) (by omega) _ _ _ (by first | assumption | exact NB.drew (by assumption))).mono ?_) | (with_reducible refine (w_there _ (by omega) (by omega) _ _ _ (by first | assumption | exact NB.drew (by assumption))).mono ?_) | (with_reducible refine (w_what _ (by omega) (by omega) _ _ _ (by first | assumption | exact NB.drew (by assumption))).mono ?_) | (with_reducible refine (w_rots _ (by omega) (by omega) _ _ _ (by first | assumption | exact NB.drew (by assumption))).mono ?_) | (with_reducible refine (w_brs _ (by omega) (by omega) _ _ _ (by first | assumption | exact NB.drew (by assumption))).mono ?_) | (with_reducible refine (w_blk _ (by omega) (by omega) _ _ _ (by first | assumption | exact NB.drew (by assumption))).mono ?_) | (with_reducible refine (w_ends _ (by omega) (by omega) _ _ _ (by first | assumption | exact NB.drew (by assumption))).mono ?_) | (with_reducible refine (w_sa _ (by omega) (by omega) _ _ _ (by first | assumption | exact NB.drew (by assumption))).mono ?_) | (with_reducible refine (w_ims _ (by omega) (by omega) _ _ _ (by first | assumption | exact NB.drew (by assumption))).mono ?_)); rintro e w1 ⟨a1, rfl, ha1, hz1, k1⟩; (try (obtain ⟨c10, c11, c12, c13, c14⟩ := k1.c5))) | (go_at_call 30; (with_reducible refine (sum_any _ (by omega) _ 8 (by first | assumption | decide) (by omega) _ _ _ (by first | assumption | exact NB.drew (by assumption))).mono ?_); rintro e w2 ⟨a2, rfl, ha2, hz2, k2⟩; (try (obtain ⟨c20, c21, c22, c23, c24⟩ := k2.c5))) | (go_at_call 33; (with_reducible refine (itoa_any _ (by omega) (by omega) _ _ _ (by first | assumption | exact NB.drew (by assumption))).mono ?_); rintro e w3 ⟨a3, rfl, ha3, hz3, k3⟩; (try (obtain ⟨c30, c31, c32, c33, c34⟩ := k3.c5))))
    all_goals first
      | (exfalso; (try simp only [ByteArray.size_append, size_mk, List.length_cons, List.length_nil] at *); omega)
      | (go_ret; exact ⟨_, rfl, by simp [highL, wd, t_h1, t_h3, t_h5, *] <;> (intros; omega), by (try simp only [ByteArray.size_append, size_mk, List.length_cons, List.length_nil]); omega, _, by assumption⟩)
set_option maxRecDepth 100000 in
set_option maxHeartbeats 4000000 in
theorem high_6 (x y p q : Int) (hy : 0 ≤ y ∧ y < 8) (hp : 0 ≤ p ∧ p < 4) (hq : 0 ≤ q ∧ q < 2) : HeldS 31 #[.agg #[.int .i64 x, .int .i64 y, .int .i64 6, .int .i64 p, .int .i64 q]] (highL y 6 p q) 40 := heldS' fun W hW => by
  have k0 := (NB.start hW).alloc #[.int .i64 x, .int .i64 y, .int .i64 6, .int .i64 p, .int .i64 q] 30
  skip
  all_goals
    go_enter Tryz.func31, Tryz.ntmps31
    go_wp2_with (first | (go_at_call 32; (first | (with_reducible refine (w_ones _ (by omega) (by omega) _ _ _ (by first | assumption | exact NB.drew (by assumption))).mono ?_) | (with_reducible refine (w_pairs _ (by omega) (by omega) _ _ _ (by first | assumption | exact NB.drew (by assumption))).mono ?_) | (with_reducible refine (w_pushed _ (by omega) (by omega) _ _ _ (by first | assumption | exact NB.drew (by assumption))).mono ?_) | (with_reducible refine (w_conds _ (by omega) (by omega) _ _ _ (by first | assumption | exact NB.drew (by assumption))).mono ?_) | (with_reducible refine (w_turns _ (by omega) (by omega) _ _ _ (by first | assumption | exact NB.drew (by assumption))).mono ?_) | (with_reducible refine (w_there _ (by omega) (by omega) _ _ _ (by first | assumption | exact NB.drew (by assumption))).mono ?_) | (with_reducible refine (w_what _ (by omega) (by omega) _ _ _ (by first | assumption | exact NB.drew (by assumption))).mono ?_) | (with_reducible refine (w_rots _ (by omega) (by omega) _ _ _ (by first | assumption | exact NB.drew (by assumption))).mono ?_) | (with_reducible refine (w_brs _ (by omega) (by omega) _ _ _ (by first | assumption | exact NB.drew (by assumption))).mono ?_) | (with_reducible refine (w_blk _ (by omega) (by omega) _ _ _ (by first | assumption | exact NB.drew (by assumption))).mono ?_) | (with_reducible refine (w_ends _ (by omega) (by omega) _ _ _ (by first | assumption | exact NB.drew (by assumption))).mono ?_) | (with_reducible refine (w_sa _ (by omega) (by omega) _ _ _ (by first | assumption | exact NB.drew (by assumption))).mono ?_) | (with_reducible refine (w_ims _ (by omega) (by omega) _ _ _ (by first | assumption | exact NB.drew (by assumption))).mono ?_)); rintro e w1 ⟨a1, rfl, ha1, hz1, k1⟩; (try (obtain ⟨c10, c11, c12, c13, c14⟩ := k1.c5))) | (go_at_call 30; (with_reducible refine (sum_any _ (by omega) _ 8 (by first | assumption | decide) (by omega) _ _ _ (by first | assumption | exact NB.drew (by assumption))).mono ?_); rintro e w2 ⟨a2, rfl, ha2, hz2, k2⟩; (try (obtain ⟨c20, c21, c22, c23, c24⟩ := k2.c5))) | (go_at_call 33; (with_reducible refine (itoa_any _ (by omega) (by omega) _ _ _ (by first | assumption | exact NB.drew (by assumption))).mono ?_); rintro e w3 ⟨a3, rfl, ha3, hz3, k3⟩; (try (obtain ⟨c30, c31, c32, c33, c34⟩ := k3.c5))))
    all_goals first
      | (exfalso; (try simp only [ByteArray.size_append, size_mk, List.length_cons, List.length_nil] at *); omega)
      | (go_ret; exact ⟨_, rfl, by simp [highL, wd, t_h1, t_h3, t_h5, *] <;> (intros; omega), by (try simp only [ByteArray.size_append, size_mk, List.length_cons, List.length_nil]); omega, _, by assumption⟩)
set_option maxRecDepth 100000 in
set_option maxHeartbeats 4000000 in
theorem high_7 (x y p q : Int) (hy : 0 ≤ y ∧ y < 8) (hp : 0 ≤ p ∧ p < 4) (hq : 0 ≤ q ∧ q < 2) : HeldS 31 #[.agg #[.int .i64 x, .int .i64 y, .int .i64 7, .int .i64 p, .int .i64 q]] (highL y 7 p q) 40 := heldS' fun W hW => by
  have k0 := (NB.start hW).alloc #[.int .i64 x, .int .i64 y, .int .i64 7, .int .i64 p, .int .i64 q] 30
  skip
  all_goals
    go_enter Tryz.func31, Tryz.ntmps31
    go_wp2_with (first | (go_at_call 32; (first | (with_reducible refine (w_ones _ (by omega) (by omega) _ _ _ (by first | assumption | exact NB.drew (by assumption))).mono ?_) | (with_reducible refine (w_pairs _ (by omega) (by omega) _ _ _ (by first | assumption | exact NB.drew (by assumption))).mono ?_) | (with_reducible refine (w_pushed _ (by omega) (by omega) _ _ _ (by first | assumption | exact NB.drew (by assumption))).mono ?_) | (with_reducible refine (w_conds _ (by omega) (by omega) _ _ _ (by first | assumption | exact NB.drew (by assumption))).mono ?_) | (with_reducible refine (w_turns _ (by omega) (by omega) _ _ _ (by first | assumption | exact NB.drew (by assumption))).mono ?_) | (with_reducible refine (w_there _ (by omega) (by omega) _ _ _ (by first | assumption | exact NB.drew (by assumption))).mono ?_) | (with_reducible refine (w_what _ (by omega) (by omega) _ _ _ (by first | assumption | exact NB.drew (by assumption))).mono ?_) | (with_reducible refine (w_rots _ (by omega) (by omega) _ _ _ (by first | assumption | exact NB.drew (by assumption))).mono ?_) | (with_reducible refine (w_brs _ (by omega) (by omega) _ _ _ (by first | assumption | exact NB.drew (by assumption))).mono ?_) | (with_reducible refine (w_blk _ (by omega) (by omega) _ _ _ (by first | assumption | exact NB.drew (by assumption))).mono ?_) | (with_reducible refine (w_ends _ (by omega) (by omega) _ _ _ (by first | assumption | exact NB.drew (by assumption))).mono ?_) | (with_reducible refine (w_sa _ (by omega) (by omega) _ _ _ (by first | assumption | exact NB.drew (by assumption))).mono ?_) | (with_reducible refine (w_ims _ (by omega) (by omega) _ _ _ (by first | assumption | exact NB.drew (by assumption))).mono ?_)); rintro e w1 ⟨a1, rfl, ha1, hz1, k1⟩; (try (obtain ⟨c10, c11, c12, c13, c14⟩ := k1.c5))) | (go_at_call 30; (with_reducible refine (sum_any _ (by omega) _ 8 (by first | assumption | decide) (by omega) _ _ _ (by first | assumption | exact NB.drew (by assumption))).mono ?_); rintro e w2 ⟨a2, rfl, ha2, hz2, k2⟩; (try (obtain ⟨c20, c21, c22, c23, c24⟩ := k2.c5))) | (go_at_call 33; (with_reducible refine (itoa_any _ (by omega) (by omega) _ _ _ (by first | assumption | exact NB.drew (by assumption))).mono ?_); rintro e w3 ⟨a3, rfl, ha3, hz3, k3⟩; (try (obtain ⟨c30, c31, c32, c33, c34⟩ := k3.c5))))
    all_goals first
      | (exfalso; (try simp only [ByteArray.size_append, size_mk, List.length_cons, List.length_nil] at *); omega)
      | (go_ret; exact ⟨_, rfl, by simp [highL, wd, t_h1, t_h3, t_h5, *] <;> (intros; omega), by (try simp only [ByteArray.size_append, size_mk, List.length_cons, List.length_nil]); omega, _, by assumption⟩)
theorem high_any (x y z p q : Int) (hy : 0 ≤ y ∧ y < 8) (hz : 0 ≤ z ∧ z < 8) (hp : 0 ≤ p ∧ p < 4) (hq : 0 ≤ q ∧ q < 2) : HeldS 31 #[.agg #[.int .i64 x, .int .i64 y, .int .i64 z, .int .i64 p, .int .i64 q]] (highL y z p q) 40 := by
  rcases (by omega : z = 0 ∨ z = 1 ∨ z = 2 ∨ z = 3 ∨ z = 4 ∨ z = 5 ∨ z = 6 ∨ z = 7) with rfl | rfl | rfl | rfl | rfl | rfl | rfl | rfl
  · exact high_0 x y p q hy hp hq
  · exact high_1 x y p q hy hp hq
  · exact high_2 x y p q hy hp hq
  · exact high_3 x y p q hy hp hq
  · exact high_4 x y p q hy hp hq
  · exact high_5 x y p q hy hp hq
  · exact high_6 x y p q hy hp hq
  · exact high_7 x y p q hy hp hq
end Nm
end Go.Proofs.YtnhgmdfmhmkpgaaGreatDoor
