/- What instructions are called (layer 11): bits, block. No conditions but those stated. -/
import Derived.Test.YtnhgmdfmhmkpgaaGreatDoorNm3
import Derived.RegionTactic
import Derived.LoopTactic
import Derived.Deep.RegionHeld3
import Derived.Deep.DeepCutAuto
import Derived.Lib.Hide
namespace Go.Proofs.YtnhgmdfmhmkpgaaGreatDoor
open Go.RowKit
open Kit
set_option linter.unusedSimpArgs false
set_option linter.unusedVariables false
namespace Nm
attribute [local simp] ix2_0 ix2_1 ix4_0 ix4_1 ix4_2 ix4_3 ix8_0 ix8_1 ix8_2 ix8_3 ix8_4 ix8_5 ix8_6 ix8_7 wrp0 wrp1 wrp2 wrp3 wrp4 wrp5 wrp6 wrp7 wrp8 wrp9
def bitsL (x y : Int) (s : Str) : Str := if x = 0 then wd t_turns y ++ ([32] ++ s) else wd t_brs (x - 1) ++ ([32] ++ (itoaL y ++ ([44] ++ s)))
def blockL (y z : Int) : Str := (if z = 3 ∧ 5 < y then [79, 84] else wd t_blk z) ++ wd t_ends (y - 4)
def extendedL (x y z p q : Int) : Str :=
  if x = 2 ∧ 3 < y ∧ z < 4 then blockL y z else if x ≠ 1 then [78, 79, 80] else
  if z = 0 then (if y = 6 then [73, 78, 32, 40, 67, 41] else [73, 78, 32] ++ (wd t_ones y ++ [44, 40, 67, 41])) else
  if z = 1 then (if y = 6 then [79, 85, 84, 32, 40, 67, 41, 44, 48] else [79, 85, 84, 32, 40, 67, 41, 44] ++ wd t_ones y) else
  if z = 2 then wd t_sa q ++ ([32, 72, 76, 44] ++ wd t_pairs p) else
  if z = 3 then (if q = 0 then [76, 68, 32, 40, 110, 110, 41, 44] ++ wd t_pairs p else [76, 68, 32] ++ (wd t_pairs p ++ [44, 40, 110, 110, 41])) else
  if z = 4 then [78, 69, 71] else
  if z = 5 then (if y = 1 then [82, 69, 84, 73] else [82, 69, 84, 78]) else
  if z = 6 then [73, 77, 32] ++ wd t_ims (y % 4) else wd t_e7 y
set_option maxRecDepth 100000 in
set_option maxHeartbeats 4000000 in
theorem bits_0 (y z p q : Int) (hy : 0 ≤ y ∧ y < 8) (s : ByteArray) (m : Nat) (hs : s.size ≤ m) (hm : m ≤ 1000) : HeldS 12 #[.agg #[.int .i64 0, .int .i64 y, .int .i64 z, .int .i64 p, .int .i64 q], .string s] (bitsL 0 y s.data.toList) (20 + m) := heldS' fun W hW => by
  have k0 := (NB.start hW).alloc #[.int .i64 0, .int .i64 y, .int .i64 z, .int .i64 p, .int .i64 q] 30
  all_goals
    go_enter Tryz.func12, Tryz.ntmps12
    go_wp2_with (first | (go_at_call 32; (first | (with_reducible refine (w_ones _ (by omega) (by omega) _ _ _ (by first | assumption | exact NB.drew (by assumption))).mono ?_) | (with_reducible refine (w_pairs _ (by omega) (by omega) _ _ _ (by first | assumption | exact NB.drew (by assumption))).mono ?_) | (with_reducible refine (w_pushed _ (by omega) (by omega) _ _ _ (by first | assumption | exact NB.drew (by assumption))).mono ?_) | (with_reducible refine (w_conds _ (by omega) (by omega) _ _ _ (by first | assumption | exact NB.drew (by assumption))).mono ?_) | (with_reducible refine (w_turns _ (by omega) (by omega) _ _ _ (by first | assumption | exact NB.drew (by assumption))).mono ?_) | (with_reducible refine (w_there _ (by omega) (by omega) _ _ _ (by first | assumption | exact NB.drew (by assumption))).mono ?_) | (with_reducible refine (w_what _ (by omega) (by omega) _ _ _ (by first | assumption | exact NB.drew (by assumption))).mono ?_) | (with_reducible refine (w_rots _ (by omega) (by omega) _ _ _ (by first | assumption | exact NB.drew (by assumption))).mono ?_) | (with_reducible refine (w_brs _ (by omega) (by omega) _ _ _ (by first | assumption | exact NB.drew (by assumption))).mono ?_) | (with_reducible refine (w_blk _ (by omega) (by omega) _ _ _ (by first | assumption | exact NB.drew (by assumption))).mono ?_) | (with_reducible refine (w_ends _ (by omega) (by omega) _ _ _ (by first | assumption | exact NB.drew (by assumption))).mono ?_) | (with_reducible refine (w_sa _ (by omega) (by omega) _ _ _ (by first | assumption | exact NB.drew (by assumption))).mono ?_) | (with_reducible refine (w_ims _ (by omega) (by omega) _ _ _ (by first | assumption | exact NB.drew (by assumption))).mono ?_)); rintro e w1 ⟨a1, rfl, ha1, hz1, k1⟩; (try (obtain ⟨c10, c11, c12, c13, c14⟩ := k1.c5))) | (go_at_call 33; (with_reducible refine (itoa_any _ (by omega) (by omega) _ _ _ (by first | assumption | exact NB.drew (by assumption))).mono ?_); rintro e w2 ⟨a2, rfl, ha2, hz2, k2⟩; (try (obtain ⟨c20, c21, c22, c23, c24⟩ := k2.c5))))
    all_goals first
      | (exfalso; (try simp only [ByteArray.size_append, size_mk, List.length_cons, List.length_nil] at *); omega)
      | (go_ret; exact ⟨_, rfl, by simp [bitsL, *], by (try simp only [ByteArray.size_append, size_mk, List.length_cons, List.length_nil]); omega, _, by assumption⟩)
set_option maxRecDepth 100000 in
set_option maxHeartbeats 4000000 in
theorem bits_1 (y z p q : Int) (hy : 0 ≤ y ∧ y < 8) (s : ByteArray) (m : Nat) (hs : s.size ≤ m) (hm : m ≤ 1000) : HeldS 12 #[.agg #[.int .i64 1, .int .i64 y, .int .i64 z, .int .i64 p, .int .i64 q], .string s] (bitsL 1 y s.data.toList) (20 + m) := heldS' fun W hW => by
  have k0 := (NB.start hW).alloc #[.int .i64 1, .int .i64 y, .int .i64 z, .int .i64 p, .int .i64 q] 30
  all_goals
    go_enter Tryz.func12, Tryz.ntmps12
    go_upto_region 3 with fail
    obtain ⟨c0, c1, c2, c3, c4⟩ := k0.c5
    generalize W.alloc (.cells #[.int .i64 1, .int .i64 y, .int .i64 z, .int .i64 p, .int .i64 q] 30) = W1 at *
    go_region_with (first | (go_at_call 32; (first | (with_reducible refine (w_ones _ (by omega) (by omega) _ _ _ (by first | assumption | exact NB.drew (by assumption))).mono ?_) | (with_reducible refine (w_pairs _ (by omega) (by omega) _ _ _ (by first | assumption | exact NB.drew (by assumption))).mono ?_) | (with_reducible refine (w_pushed _ (by omega) (by omega) _ _ _ (by first | assumption | exact NB.drew (by assumption))).mono ?_) | (with_reducible refine (w_conds _ (by omega) (by omega) _ _ _ (by first | assumption | exact NB.drew (by assumption))).mono ?_) | (with_reducible refine (w_turns _ (by omega) (by omega) _ _ _ (by first | assumption | exact NB.drew (by assumption))).mono ?_) | (with_reducible refine (w_there _ (by omega) (by omega) _ _ _ (by first | assumption | exact NB.drew (by assumption))).mono ?_) | (with_reducible refine (w_what _ (by omega) (by omega) _ _ _ (by first | assumption | exact NB.drew (by assumption))).mono ?_) | (with_reducible refine (w_rots _ (by omega) (by omega) _ _ _ (by first | assumption | exact NB.drew (by assumption))).mono ?_) | (with_reducible refine (w_brs _ (by omega) (by omega) _ _ _ (by first | assumption | exact NB.drew (by assumption))).mono ?_) | (with_reducible refine (w_blk _ (by omega) (by omega) _ _ _ (by first | assumption | exact NB.drew (by assumption))).mono ?_) | (with_reducible refine (w_ends _ (by omega) (by omega) _ _ _ (by first | assumption | exact NB.drew (by assumption))).mono ?_) | (with_reducible refine (w_sa _ (by omega) (by omega) _ _ _ (by first | assumption | exact NB.drew (by assumption))).mono ?_) | (with_reducible refine (w_ims _ (by omega) (by omega) _ _ _ (by first | assumption | exact NB.drew (by assumption))).mono ?_)); rintro e w1 ⟨a1, rfl, ha1, hz1, k1⟩; (try (obtain ⟨c10, c11, c12, c13, c14⟩ := k1.c5))) | (go_at_call 33; (with_reducible refine (itoa_any _ (by omega) (by omega) _ _ _ (by first | assumption | exact NB.drew (by assumption))).mono ?_); rintro e w2 ⟨a2, rfl, ha2, hz2, k2⟩; (try (obtain ⟨c20, c21, c22, c23, c24⟩ := k2.c5))))
    all_goals go_wp2_with fail
    all_goals first
      | (exfalso; (try simp only [ByteArray.size_append, size_mk, List.length_cons, List.length_nil] at *); omega)
      | (go_ret; exact ⟨_, rfl, by simp [bitsL, *], by (try simp only [ByteArray.size_append, size_mk, List.length_cons, List.length_nil]); omega, _, by assumption⟩)
set_option maxRecDepth 100000 in
set_option maxHeartbeats 4000000 in
theorem bits_2 (y z p q : Int) (hy : 0 ≤ y ∧ y < 8) (s : ByteArray) (m : Nat) (hs : s.size ≤ m) (hm : m ≤ 1000) : HeldS 12 #[.agg #[.int .i64 2, .int .i64 y, .int .i64 z, .int .i64 p, .int .i64 q], .string s] (bitsL 2 y s.data.toList) (20 + m) := heldS' fun W hW => by
  have k0 := (NB.start hW).alloc #[.int .i64 2, .int .i64 y, .int .i64 z, .int .i64 p, .int .i64 q] 30
  all_goals
    go_enter Tryz.func12, Tryz.ntmps12
    go_upto_region 3 with fail
    obtain ⟨c0, c1, c2, c3, c4⟩ := k0.c5
    generalize W.alloc (.cells #[.int .i64 2, .int .i64 y, .int .i64 z, .int .i64 p, .int .i64 q] 30) = W1 at *
    go_region_with (first | (go_at_call 32; (first | (with_reducible refine (w_ones _ (by omega) (by omega) _ _ _ (by first | assumption | exact NB.drew (by assumption))).mono ?_) | (with_reducible refine (w_pairs _ (by omega) (by omega) _ _ _ (by first | assumption | exact NB.drew (by assumption))).mono ?_) | (with_reducible refine (w_pushed _ (by omega) (by omega) _ _ _ (by first | assumption | exact NB.drew (by assumption))).mono ?_) | (with_reducible refine (w_conds _ (by omega) (by omega) _ _ _ (by first | assumption | exact NB.drew (by assumption))).mono ?_) | (with_reducible refine (w_turns _ (by omega) (by omega) _ _ _ (by first | assumption | exact NB.drew (by assumption))).mono ?_) | (with_reducible refine (w_there _ (by omega) (by omega) _ _ _ (by first | assumption | exact NB.drew (by assumption))).mono ?_) | (with_reducible refine (w_what _ (by omega) (by omega) _ _ _ (by first | assumption | exact NB.drew (by assumption))).mono ?_) | (with_reducible refine (w_rots _ (by omega) (by omega) _ _ _ (by first | assumption | exact NB.drew (by assumption))).mono ?_) | (with_reducible refine (w_brs _ (by omega) (by omega) _ _ _ (by first | assumption | exact NB.drew (by assumption))).mono ?_) | (with_reducible refine (w_blk _ (by omega) (by omega) _ _ _ (by first | assumption | exact NB.drew (by assumption))).mono ?_) | (with_reducible refine (w_ends _ (by omega) (by omega) _ _ _ (by first | assumption | exact NB.drew (by assumption))).mono ?_) | (with_reducible refine (w_sa _ (by omega) (by omega) _ _ _ (by first | assumption | exact NB.drew (by assumption))).mono ?_) | (with_reducible refine (w_ims _ (by omega) (by omega) _ _ _ (by first | assumption | exact NB.drew (by assumption))).mono ?_)); rintro e w1 ⟨a1, rfl, ha1, hz1, k1⟩; (try (obtain ⟨c10, c11, c12, c13, c14⟩ := k1.c5))) | (go_at_call 33; (with_reducible refine (itoa_any _ (by omega) (by omega) _ _ _ (by first | assumption | exact NB.drew (by assumption))).mono ?_); rintro e w2 ⟨a2, rfl, ha2, hz2, k2⟩; (try (obtain ⟨c20, c21, c22, c23, c24⟩ := k2.c5))))
    all_goals go_wp2_with fail
    all_goals first
      | (exfalso; (try simp only [ByteArray.size_append, size_mk, List.length_cons, List.length_nil] at *); omega)
      | (go_ret; exact ⟨_, rfl, by simp [bitsL, *], by (try simp only [ByteArray.size_append, size_mk, List.length_cons, List.length_nil]); omega, _, by assumption⟩)
set_option maxRecDepth 100000 in
set_option maxHeartbeats 4000000 in
theorem bits_3 (y z p q : Int) (hy : 0 ≤ y ∧ y < 8) (s : ByteArray) (m : Nat) (hs : s.size ≤ m) (hm : m ≤ 1000) : HeldS 12 #[.agg #[.int .i64 3, .int .i64 y, .int .i64 z, .int .i64 p, .int .i64 q], .string s] (bitsL 3 y s.data.toList) (20 + m) := heldS' fun W hW => by
  have k0 := (NB.start hW).alloc #[.int .i64 3, .int .i64 y, .int .i64 z, .int .i64 p, .int .i64 q] 30
  all_goals
    go_enter Tryz.func12, Tryz.ntmps12
    go_upto_region 3 with fail
    obtain ⟨c0, c1, c2, c3, c4⟩ := k0.c5
    generalize W.alloc (.cells #[.int .i64 3, .int .i64 y, .int .i64 z, .int .i64 p, .int .i64 q] 30) = W1 at *
    go_region_with (first | (go_at_call 32; (first | (with_reducible refine (w_ones _ (by omega) (by omega) _ _ _ (by first | assumption | exact NB.drew (by assumption))).mono ?_) | (with_reducible refine (w_pairs _ (by omega) (by omega) _ _ _ (by first | assumption | exact NB.drew (by assumption))).mono ?_) | (with_reducible refine (w_pushed _ (by omega) (by omega) _ _ _ (by first | assumption | exact NB.drew (by assumption))).mono ?_) | (with_reducible refine (w_conds _ (by omega) (by omega) _ _ _ (by first | assumption | exact NB.drew (by assumption))).mono ?_) | (with_reducible refine (w_turns _ (by omega) (by omega) _ _ _ (by first | assumption | exact NB.drew (by assumption))).mono ?_) | (with_reducible refine (w_there _ (by omega) (by omega) _ _ _ (by first | assumption | exact NB.drew (by assumption))).mono ?_) | (with_reducible refine (w_what _ (by omega) (by omega) _ _ _ (by first | assumption | exact NB.drew (by assumption))).mono ?_) | (with_reducible refine (w_rots _ (by omega) (by omega) _ _ _ (by first | assumption | exact NB.drew (by assumption))).mono ?_) | (with_reducible refine (w_brs _ (by omega) (by omega) _ _ _ (by first | assumption | exact NB.drew (by assumption))).mono ?_) | (with_reducible refine (w_blk _ (by omega) (by omega) _ _ _ (by first | assumption | exact NB.drew (by assumption))).mono ?_) | (with_reducible refine (w_ends _ (by omega) (by omega) _ _ _ (by first | assumption | exact NB.drew (by assumption))).mono ?_) | (with_reducible refine (w_sa _ (by omega) (by omega) _ _ _ (by first | assumption | exact NB.drew (by assumption))).mono ?_) | (with_reducible refine (w_ims _ (by omega) (by omega) _ _ _ (by first | assumption | exact NB.drew (by assumption))).mono ?_)); rintro e w1 ⟨a1, rfl, ha1, hz1, k1⟩; (try (obtain ⟨c10, c11, c12, c13, c14⟩ := k1.c5))) | (go_at_call 33; (with_reducible refine (itoa_any _ (by omega) (by omega) _ _ _ (by first | assumption | exact NB.drew (by assumption))).mono ?_); rintro e w2 ⟨a2, rfl, ha2, hz2, k2⟩; (try (obtain ⟨c20, c21, c22, c23, c24⟩ := k2.c5))))
    all_goals go_wp2_with fail
    all_goals first
      | (exfalso; (try simp only [ByteArray.size_append, size_mk, List.length_cons, List.length_nil] at *); omega)
      | (go_ret; exact ⟨_, rfl, by simp [bitsL, *], by (try simp only [ByteArray.size_append, size_mk, List.length_cons, List.length_nil]); omega, _, by assumption⟩)
theorem bits_any (x y z p q : Int) (hx : 0 ≤ x ∧ x < 4) (hy : 0 ≤ y ∧ y < 8) (s : ByteArray) (m : Nat) (hs : s.size ≤ m) (hm : m ≤ 1000) : HeldS 12 #[.agg #[.int .i64 x, .int .i64 y, .int .i64 z, .int .i64 p, .int .i64 q], .string s] (bitsL x y s.data.toList) (20 + m) := by
  rcases (by omega : x = 0 ∨ x = 1 ∨ x = 2 ∨ x = 3) with rfl | rfl | rfl | rfl
  · exact bits_0 y z p q hy s m hs hm
  · exact bits_1 y z p q hy s m hs hm
  · exact bits_2 y z p q hy s m hs hm
  · exact bits_3 y z p q hy s m hs hm
set_option maxRecDepth 100000 in
set_option maxHeartbeats 4000000 in
theorem block_0 (x y p q : Int) (hy : 4 ≤ y ∧ y < 8) : HeldS 34 #[.agg #[.int .i64 x, .int .i64 y, .int .i64 0, .int .i64 p, .int .i64 q]] (blockL y 0) 16 := heldS' fun W hW => by
  have k0 := (NB.start hW).alloc #[.int .i64 x, .int .i64 y, .int .i64 0, .int .i64 p, .int .i64 q] 30
  skip
  all_goals
    go_enter Tryz.func34, Tryz.ntmps34
    go_wp2_with (first | (go_at_call 32; (first | (with_reducible refine (w_ones _ (by omega) (by omega) _ _ _ (by first | assumption | exact NB.drew (by assumption))).mono ?_) | (with_reducible refine (w_pairs _ (by omega) (by omega) _ _ _ (by first | assumption | exact NB.drew (by assumption))).mono ?_) | (with_reducible refine (w_pushed _ (by omega) (by omega) _ _ _ (by first | assumption | exact NB.drew (by assumption))).mono ?_) | (with_reducible refine (w_conds _ (by omega) (by omega) _ _ _ (by first | assumption | exact NB.drew (by assumption))).mono ?_) | (with_reducible refine (w_turns _ (by omega) (by omega) _ _ _ (by first | assumption | exact NB.drew (by assumption))).mono ?_) | (with_reducible refine (w_there _ (by omega) (by omega) _ _ _ (by first | assumption | exact NB.drew (by assumption))).mono ?_) | (with_reducible refine (w_what _ (by omega) (by omega) _ _ _ (by first | assumption | exact NB.drew (by assumption))).mono ?_) | (with_reducible refine (w_rots _ (by omega) (by omega) _ _ _ (by first | assumption | exact NB.drew (by assumption))).mono ?_) | (with_reducible refine (w_brs _ (by omega) (by omega) _ _ _ (by first | assumption | exact NB.drew (by assumption))).mono ?_) | (with_reducible refine (w_blk _ (by omega) (by omega) _ _ _ (by first | assumption | exact NB.drew (by assumption))).mono ?_) | (with_reducible refine (w_ends _ (by omega) (by omega) _ _ _ (by first | assumption | exact NB.drew (by assumption))).mono ?_) | (with_reducible refine (w_sa _ (by omega) (by omega) _ _ _ (by first | assumption | exact NB.drew (by assumption))).mono ?_) | (with_reducible refine (w_ims _ (by omega) (by omega) _ _ _ (by first | assumption | exact NB.drew (by assumption))).mono ?_)); rintro e w1 ⟨a1, rfl, ha1, hz1, k1⟩; (try (obtain ⟨c10, c11, c12, c13, c14⟩ := k1.c5))))
    all_goals first
      | (exfalso; (try simp only [ByteArray.size_append, size_mk, List.length_cons, List.length_nil] at *); omega)
      | (go_ret; exact ⟨_, rfl, by simp [blockL, *] <;> (intros; omega), by (try simp only [ByteArray.size_append, size_mk, List.length_cons, List.length_nil]); omega, _, by assumption⟩)
set_option maxRecDepth 100000 in
set_option maxHeartbeats 4000000 in
theorem block_1 (x y p q : Int) (hy : 4 ≤ y ∧ y < 8) : HeldS 34 #[.agg #[.int .i64 x, .int .i64 y, .int .i64 1, .int .i64 p, .int .i64 q]] (blockL y 1) 16 := heldS' fun W hW => by
  have k0 := (NB.start hW).alloc #[.int .i64 x, .int .i64 y, .int .i64 1, .int .i64 p, .int .i64 q] 30
  skip
  all_goals
    go_enter Tryz.func34, Tryz.ntmps34
    go_wp2_with (first | (go_at_call 32; (first | (with_reducible refine (w_ones _ (by omega) (by omega) _ _ _ (by first | assumption | exact NB.drew (by assumption))).mono ?_) | (with_reducible refine (w_pairs _ (by omega) (by omega) _ _ _ (by first | assumption | exact NB.drew (by assumption))).mono ?_) | (with_reducible refine (w_pushed _ (by omega) (by omega) _ _ _ (by first | assumption | exact NB.drew (by assumption))).mono ?_) | (with_reducible refine (w_conds _ (by omega) (by omega) _ _ _ (by first | assumption | exact NB.drew (by assumption))).mono ?_) | (with_reducible refine (w_turns _ (by omega) (by omega) _ _ _ (by first | assumption | exact NB.drew (by assumption))).mono ?_) | (with_reducible refine (w_there _ (by omega) (by omega) _ _ _ (by first | assumption | exact NB.drew (by assumption))).mono ?_) | (with_reducible refine (w_what _ (by omega) (by omega) _ _ _ (by first | assumption | exact NB.drew (by assumption))).mono ?_) | (with_reducible refine (w_rots _ (by omega) (by omega) _ _ _ (by first | assumption | exact NB.drew (by assumption))).mono ?_) | (with_reducible refine (w_brs _ (by omega) (by omega) _ _ _ (by first | assumption | exact NB.drew (by assumption))).mono ?_) | (with_reducible refine (w_blk _ (by omega) (by omega) _ _ _ (by first | assumption | exact NB.drew (by assumption))).mono ?_) | (with_reducible refine (w_ends _ (by omega) (by omega) _ _ _ (by first | assumption | exact NB.drew (by assumption))).mono ?_) | (with_reducible refine (w_sa _ (by omega) (by omega) _ _ _ (by first | assumption | exact NB.drew (by assumption))).mono ?_) | (with_reducible refine (w_ims _ (by omega) (by omega) _ _ _ (by first | assumption | exact NB.drew (by assumption))).mono ?_)); rintro e w1 ⟨a1, rfl, ha1, hz1, k1⟩; (try (obtain ⟨c10, c11, c12, c13, c14⟩ := k1.c5))))
    all_goals first
      | (exfalso; (try simp only [ByteArray.size_append, size_mk, List.length_cons, List.length_nil] at *); omega)
      | (go_ret; exact ⟨_, rfl, by simp [blockL, *] <;> (intros; omega), by (try simp only [ByteArray.size_append, size_mk, List.length_cons, List.length_nil]); omega, _, by assumption⟩)
set_option maxRecDepth 100000 in
set_option maxHeartbeats 4000000 in
theorem block_2 (x y p q : Int) (hy : 4 ≤ y ∧ y < 8) : HeldS 34 #[.agg #[.int .i64 x, .int .i64 y, .int .i64 2, .int .i64 p, .int .i64 q]] (blockL y 2) 16 := heldS' fun W hW => by
  have k0 := (NB.start hW).alloc #[.int .i64 x, .int .i64 y, .int .i64 2, .int .i64 p, .int .i64 q] 30
  skip
  all_goals
    go_enter Tryz.func34, Tryz.ntmps34
    go_wp2_with (first | (go_at_call 32; (first | (with_reducible refine (w_ones _ (by omega) (by omega) _ _ _ (by first | assumption | exact NB.drew (by assumption))).mono ?_) | (with_reducible refine (w_pairs _ (by omega) (by omega) _ _ _ (by first | assumption | exact NB.drew (by assumption))).mono ?_) | (with_reducible refine (w_pushed _ (by omega) (by omega) _ _ _ (by first | assumption | exact NB.drew (by assumption))).mono ?_) | (with_reducible refine (w_conds _ (by omega) (by omega) _ _ _ (by first | assumption | exact NB.drew (by assumption))).mono ?_) | (with_reducible refine (w_turns _ (by omega) (by omega) _ _ _ (by first | assumption | exact NB.drew (by assumption))).mono ?_) | (with_reducible refine (w_there _ (by omega) (by omega) _ _ _ (by first | assumption | exact NB.drew (by assumption))).mono ?_) | (with_reducible refine (w_what _ (by omega) (by omega) _ _ _ (by first | assumption | exact NB.drew (by assumption))).mono ?_) | (with_reducible refine (w_rots _ (by omega) (by omega) _ _ _ (by first | assumption | exact NB.drew (by assumption))).mono ?_) | (with_reducible refine (w_brs _ (by omega) (by omega) _ _ _ (by first | assumption | exact NB.drew (by assumption))).mono ?_) | (with_reducible refine (w_blk _ (by omega) (by omega) _ _ _ (by first | assumption | exact NB.drew (by assumption))).mono ?_) | (with_reducible refine (w_ends _ (by omega) (by omega) _ _ _ (by first | assumption | exact NB.drew (by assumption))).mono ?_) | (with_reducible refine (w_sa _ (by omega) (by omega) _ _ _ (by first | assumption | exact NB.drew (by assumption))).mono ?_) | (with_reducible refine (w_ims _ (by omega) (by omega) _ _ _ (by first | assumption | exact NB.drew (by assumption))).mono ?_)); rintro e w1 ⟨a1, rfl, ha1, hz1, k1⟩; (try (obtain ⟨c10, c11, c12, c13, c14⟩ := k1.c5))))
    all_goals first
      | (exfalso; (try simp only [ByteArray.size_append, size_mk, List.length_cons, List.length_nil] at *); omega)
      | (go_ret; exact ⟨_, rfl, by simp [blockL, *] <;> (intros; omega), by (try simp only [ByteArray.size_append, size_mk, List.length_cons, List.length_nil]); omega, _, by assumption⟩)
set_option maxRecDepth 100000 in
set_option maxHeartbeats 4000000 in
theorem block_3 (x y p q : Int) (hy : 4 ≤ y ∧ y < 8) : HeldS 34 #[.agg #[.int .i64 x, .int .i64 y, .int .i64 3, .int .i64 p, .int .i64 q]] (blockL y 3) 16 := heldS' fun W hW => by
  have k0 := (NB.start hW).alloc #[.int .i64 x, .int .i64 y, .int .i64 3, .int .i64 p, .int .i64 q] 30
  rcases (by omega : y = 4 ∨ y = 5 ∨ y = 6 ∨ y = 7) with rfl | rfl | rfl | rfl
  all_goals
    go_enter Tryz.func34, Tryz.ntmps34
    go_wp2_with (first | (go_at_call 32; (first | (with_reducible refine (w_ones _ (by omega) (by omega) _ _ _ (by first | assumption | exact NB.drew (by assumption))).mono ?_) | (with_reducible refine (w_pairs _ (by omega) (by omega) _ _ _ (by first | assumption | exact NB.drew (by assumption))).mono ?_) | (with_reducible refine (w_pushed _ (by omega) (by omega) _ _ _ (by first | assumption | exact NB.drew (by assumption))).mono ?_) | (with_reducible refine (w_conds _ (by omega) (by omega) _ _ _ (by first | assumption | exact NB.drew (by assumption))).mono ?_) | (with_reducible refine (w_turns _ (by omega) (by omega) _ _ _ (by first | assumption | exact NB.drew (by assumption))).mono ?_) | (with_reducible refine (w_there _ (by omega) (by omega) _ _ _ (by first | assumption | exact NB.drew (by assumption))).mono ?_) | (with_reducible refine (w_what _ (by omega) (by omega) _ _ _ (by first | assumption | exact NB.drew (by assumption))).mono ?_) | (with_reducible refine (w_rots _ (by omega) (by omega) _ _ _ (by first | assumption | exact NB.drew (by assumption))).mono ?_) | (with_reducible refine (w_brs _ (by omega) (by omega) _ _ _ (by first | assumption | exact NB.drew (by assumption))).mono ?_) | (with_reducible refine (w_blk _ (by omega) (by omega) _ _ _ (by first | assumption | exact NB.drew (by assumption))).mono ?_) | (with_reducible refine (w_ends _ (by omega) (by omega) _ _ _ (by first | assumption | exact NB.drew (by assumption))).mono ?_) | (with_reducible refine (w_sa _ (by omega) (by omega) _ _ _ (by first | assumption | exact NB.drew (by assumption))).mono ?_) | (with_reducible refine (w_ims _ (by omega) (by omega) _ _ _ (by first | assumption | exact NB.drew (by assumption))).mono ?_)); rintro e w1 ⟨a1, rfl, ha1, hz1, k1⟩; (try (obtain ⟨c10, c11, c12, c13, c14⟩ := k1.c5))))
    all_goals first
      | (exfalso; (try simp only [ByteArray.size_append, size_mk, List.length_cons, List.length_nil] at *); omega)
      | (go_ret; exact ⟨_, rfl, by simp [blockL, *] <;> (intros; omega), by (try simp only [ByteArray.size_append, size_mk, List.length_cons, List.length_nil]); omega, _, by assumption⟩)
theorem block_any (x y z p q : Int) (hy : 4 ≤ y ∧ y < 8) (hz : 0 ≤ z ∧ z < 4) : HeldS 34 #[.agg #[.int .i64 x, .int .i64 y, .int .i64 z, .int .i64 p, .int .i64 q]] (blockL y z) 16 := by
  rcases (by omega : z = 0 ∨ z = 1 ∨ z = 2 ∨ z = 3) with rfl | rfl | rfl | rfl
  · exact block_0 x y p q hy
  · exact block_1 x y p q hy
  · exact block_2 x y p q hy
  · exact block_3 x y p q hy
end Nm
end Go.Proofs.YtnhgmdfmhmkpgaaGreatDoor
