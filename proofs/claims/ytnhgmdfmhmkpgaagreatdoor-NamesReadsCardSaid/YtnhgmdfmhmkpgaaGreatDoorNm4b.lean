/- What instructions are called (layer 11): extended. No conditions but those stated. -/
import Derived.Test.YtnhgmdfmhmkpgaaGreatDoorNm4
import Derived.RegionTactic
import Derived.LoopTactic
import Derived.Deep.RegionHeld3
import Derived.Deep.DeepCutAuto
import Derived.Lib.Hide
namespace Go.Proofs.YtnhgmdfmhmkpgaaGreatDoor
open Go.RowKit
open Kit
set_option linter.unusedSimpArgs false
set_option linter.unusedVariables false
namespace Nm
attribute [local simp] ix2_0 ix2_1 ix4_0 ix4_1 ix4_2 ix4_3 ix8_0 ix8_1 ix8_2 ix8_3 ix8_4 ix8_5 ix8_6 ix8_7 wrp0 wrp1 wrp2 wrp3 wrp4 wrp5 wrp6 wrp7 wrp8 wrp9
theorem an0 : Go.bits .and .i64 0 3 = 0 := by decide +kernel
theorem an1 : Go.bits .and .i64 1 3 = 1 := by decide +kernel
theorem an2 : Go.bits .and .i64 2 3 = 2 := by decide +kernel
theorem an3 : Go.bits .and .i64 3 3 = 3 := by decide +kernel
theorem an4 : Go.bits .and .i64 4 3 = 0 := by decide +kernel
theorem an5 : Go.bits .and .i64 5 3 = 1 := by decide +kernel
theorem an6 : Go.bits .and .i64 6 3 = 2 := by decide +kernel
theorem an7 : Go.bits .and .i64 7 3 = 3 := by decide +kernel
attribute [local simp] an0 an1 an2 an3 an4 an5 an6 an7
set_option maxRecDepth 100000 in
set_option maxHeartbeats 4000000 in
theorem extended_x0 (y z p q : Int)  : HeldS 14 #[.agg #[.int .i64 0, .int .i64 y, .int .i64 z, .int .i64 p, .int .i64 q]] (extendedL 0 y z p q) 40 := heldS' fun W hW => by
  have k0 := (NB.start hW).alloc #[.int .i64 0, .int .i64 y, .int .i64 z, .int .i64 p, .int .i64 q] 30
  skip
  all_goals
    go_enter Tryz.func14, Tryz.ntmps14
    go_wp2_with (first | (go_at_call 32; (first | (with_reducible refine (w_ones _ (by omega) (by omega) _ _ _ (by first | assumption | exact NB.drew (by assumption))).mono ?_) | (with_reducible refine (w_pairs _ (by omega) (by omega) _ _ _ (by first | assumption | exact NB.drew (by assumption))).mono ?_) | (with_reducible refine (w_pushed _ (by omega) (by omega) _ _ _ (by first | assumption | exact NB.drew (by assumption))).mono ?_) | (with_reducible refine (w_conds _ (by omega) (by omega) _ _ _ (by first | assumption | exact NB.drew (by assumption))).mono ?_) | (with_reducible refine (w_turns _ (by omega) (by omega) _ _ _ (by first | assumption | exact NB.drew (by assumption))).mono ?_) | (with_reducible refine (w_there _ (by omega) (by omega) _ _ _ (by first | assumption | exact NB.drew (by assumption))).mono ?_) | (with_reducible refine (w_what _ (by omega) (by omega) _ _ _ (by first | assumption | exact NB.drew (by assumption))).mono ?_) | (with_reducible refine (w_rots _ (by omega) (by omega) _ _ _ (by first | assumption | exact NB.drew (by assumption))).mono ?_) | (with_reducible refine (w_brs _ (by omega) (by omega) _ _ _ (by first | assumption | exact NB.drew (by assumption))).mono ?_) | (with_reducible refine (w_blk _ (by omega) (by omega) _ _ _ (by first | assumption | exact NB.drew (by assumption))).mono ?_) | (with_reducible refine (w_ends _ (by omega) (by omega) _ _ _ (by first | assumption | exact NB.drew (by assumption))).mono ?_) | (with_reducible refine (w_sa _ (by omega) (by omega) _ _ _ (by first | assumption | exact NB.drew (by assumption))).mono ?_) | (with_reducible refine (w_ims _ (by omega) (by omega) _ _ _ (by first | assumption | exact NB.drew (by assumption))).mono ?_)); rintro e w1 ⟨a1, rfl, ha1, hz1, k1⟩; (try (obtain ⟨c10, c11, c12, c13, c14⟩ := k1.c5))) | (go_at_call 13; (with_reducible refine (one_any _ (by omega) (by omega) _ _ _ (by first | assumption | exact NB.drew (by assumption))).mono ?_); rintro e w2 ⟨a2, rfl, ha2, hz2, k2⟩; (try (obtain ⟨c20, c21, c22, c23, c24⟩ := k2.c5))) | (go_at_call 34; (with_reducible refine (block_any _ _ _ _ _ (by omega) (by omega) _ _ _ (by first | assumption | exact NB.drew (by assumption))).mono ?_); rintro e w3 ⟨a3, rfl, ha3, hz3, k3⟩))
    all_goals first
      | (exfalso; (try simp only [ByteArray.size_append, size_mk, List.length_cons, List.length_nil] at *); omega)
      | (go_ret; exact ⟨_, rfl, by simp [extendedL, *] <;> (intros; omega), by (try simp only [ByteArray.size_append, size_mk, List.length_cons, List.length_nil]); omega, _, by assumption⟩)
set_option maxRecDepth 100000 in
set_option maxHeartbeats 4000000 in
theorem extended_x3 (y z p q : Int)  : HeldS 14 #[.agg #[.int .i64 3, .int .i64 y, .int .i64 z, .int .i64 p, .int .i64 q]] (extendedL 3 y z p q) 40 := heldS' fun W hW => by
  have k0 := (NB.start hW).alloc #[.int .i64 3, .int .i64 y, .int .i64 z, .int .i64 p, .int .i64 q] 30
  skip
  all_goals
    go_enter Tryz.func14, Tryz.ntmps14
    go_wp2_with (first | (go_at_call 32; (first | (with_reducible refine (w_ones _ (by omega) (by omega) _ _ _ (by first | assumption | exact NB.drew (by assumption))).mono ?_) | (with_reducible refine (w_pairs _ (by omega) (by omega) _ _ _ (by first | assumption | exact NB.drew (by assumption))).mono ?_) | (with_reducible refine (w_pushed _ (by omega) (by omega) _ _ _ (by first | assumption | exact NB.drew (by assumption))).mono ?_) | (with_reducible refine (w_conds _ (by omega) (by omega) _ _ _ (by first | assumption | exact NB.drew (by assumption))).mono ?_) | (with_reducible refine (w_turns _ (by omega) (by omega) _ _ _ (by first | assumption | exact NB.drew (by assumption))).mono ?_) | (with_reducible refine (w_there _ (by omega) (by omega) _ _ _ (by first | assumption | exact NB.drew (by assumption))).mono ?_) | (with_reducible refine (w_what _ (by omega) (by omega) _ _ _ (by first | assumption | exact NB.drew (by assumption))).mono ?_) | (with_reducible refine (w_rots _ (by omega) (by omega) _ _ _ (by first | assumption | exact NB.drew (by assumption))).mono ?_) | (with_reducible refine (w_brs _ (by omega) (by omega) _ _ _ (by first | assumption | exact NB.drew (by assumption))).mono ?_) | (with_reducible refine (w_blk _ (by omega) (by omega) _ _ _ (by first | assumption | exact NB.drew (by assumption))).mono ?_) | (with_reducible refine (w_ends _ (by omega) (by omega) _ _ _ (by first | assumption | exact NB.drew (by assumption))).mono ?_) | (with_reducible refine (w_sa _ (by omega) (by omega) _ _ _ (by first | assumption | exact NB.drew (by assumption))).mono ?_) | (with_reducible refine (w_ims _ (by omega) (by omega) _ _ _ (by first | assumption | exact NB.drew (by assumption))).mono ?_)); rintro e w1 ⟨a1, rfl, ha1, hz1, k1⟩; (try (obtain ⟨c10, c11, c12, c13, c14⟩ := k1.c5))) | (go_at_call 13; (with_reducible refine (one_any _ (by omega) (by omega) _ _ _ (by first | assumption | exact NB.drew (by assumption))).mono ?_); rintro e w2 ⟨a2, rfl, ha2, hz2, k2⟩; (try (obtain ⟨c20, c21, c22, c23, c24⟩ := k2.c5))) | (go_at_call 34; (with_reducible refine (block_any _ _ _ _ _ (by omega) (by omega) _ _ _ (by first | assumption | exact NB.drew (by assumption))).mono ?_); rintro e w3 ⟨a3, rfl, ha3, hz3, k3⟩))
    all_goals first
      | (exfalso; (try simp only [ByteArray.size_append, size_mk, List.length_cons, List.length_nil] at *); omega)
      | (go_ret; exact ⟨_, rfl, by simp [extendedL, *] <;> (intros; omega), by (try simp only [ByteArray.size_append, size_mk, List.length_cons, List.length_nil]); omega, _, by assumption⟩)
set_option maxRecDepth 100000 in
set_option maxHeartbeats 4000000 in
theorem extended_2a (y z p q : Int) (hy : 0 ≤ y ∧ y ≤ 3) (hz : 0 ≤ z ∧ z < 8) : HeldS 14 #[.agg #[.int .i64 2, .int .i64 y, .int .i64 z, .int .i64 p, .int .i64 q]] (extendedL 2 y z p q) 40 := heldS' fun W hW => by
  have k0 := (NB.start hW).alloc #[.int .i64 2, .int .i64 y, .int .i64 z, .int .i64 p, .int .i64 q] 30
  have t1 : decide (3 < y) = false := decide_eq_false (by omega)
  have t2 : ¬ 3 < y := by omega
  all_goals
    go_enter Tryz.func14, Tryz.ntmps14
    go_wp2_with (first | (go_at_call 32; (first | (with_reducible refine (w_ones _ (by omega) (by omega) _ _ _ (by first | assumption | exact NB.drew (by assumption))).mono ?_) | (with_reducible refine (w_pairs _ (by omega) (by omega) _ _ _ (by first | assumption | exact NB.drew (by assumption))).mono ?_) | (with_reducible refine (w_pushed _ (by omega) (by omega) _ _ _ (by first | assumption | exact NB.drew (by assumption))).mono ?_) | (with_reducible refine (w_conds _ (by omega) (by omega) _ _ _ (by first | assumption | exact NB.drew (by assumption))).mono ?_) | (with_reducible refine (w_turns _ (by omega) (by omega) _ _ _ (by first | assumption | exact NB.drew (by assumption))).mono ?_) | (with_reducible refine (w_there _ (by omega) (by omega) _ _ _ (by first | assumption | exact NB.drew (by assumption))).mono ?_) | (with_reducible refine (w_what _ (by omega) (by omega) _ _ _ (by first | assumption | exact NB.drew (by assumption))).mono ?_) | (with_reducible refine (w_rots _ (by omega) (by omega) _ _ _ (by first | assumption | exact NB.drew (by assumption))).mono ?_) | (with_reducible refine (w_brs _ (by omega) (by omega) _ _ _ (by first | assumption | exact NB.drew (by assumption))).mono ?_) | (with_reducible refine (w_blk _ (by omega) (by omega) _ _ _ (by first | assumption | exact NB.drew (by assumption))).mono ?_) | (with_reducible refine (w_ends _ (by omega) (by omega) _ _ _ (by first | assumption | exact NB.drew (by assumption))).mono ?_) | (with_reducible refine (w_sa _ (by omega) (by omega) _ _ _ (by first | assumption | exact NB.drew (by assumption))).mono ?_) | (with_reducible refine (w_ims _ (by omega) (by omega) _ _ _ (by first | assumption | exact NB.drew (by assumption))).mono ?_)); rintro e w1 ⟨a1, rfl, ha1, hz1, k1⟩; (try (obtain ⟨c10, c11, c12, c13, c14⟩ := k1.c5))) | (go_at_call 13; (with_reducible refine (one_any _ (by omega) (by omega) _ _ _ (by first | assumption | exact NB.drew (by assumption))).mono ?_); rintro e w2 ⟨a2, rfl, ha2, hz2, k2⟩; (try (obtain ⟨c20, c21, c22, c23, c24⟩ := k2.c5))) | (go_at_call 34; (with_reducible refine (block_any _ _ _ _ _ (by omega) (by omega) _ _ _ (by first | assumption | exact NB.drew (by assumption))).mono ?_); rintro e w3 ⟨a3, rfl, ha3, hz3, k3⟩))
    all_goals first
      | (exfalso; (try simp only [ByteArray.size_append, size_mk, List.length_cons, List.length_nil] at *); omega)
      | (go_ret; exact ⟨_, rfl, by simp [extendedL, *] <;> (intros; omega), by (try simp only [ByteArray.size_append, size_mk, List.length_cons, List.length_nil]); omega, _, by assumption⟩)
set_option maxRecDepth 100000 in
set_option maxHeartbeats 4000000 in
theorem extended_2b (y z p q : Int) (hy : 3 < y ∧ y < 8) (hz : 4 ≤ z ∧ z < 8) : HeldS 14 #[.agg #[.int .i64 2, .int .i64 y, .int .i64 z, .int .i64 p, .int .i64 q]] (extendedL 2 y z p q) 40 := heldS' fun W hW => by
  have k0 := (NB.start hW).alloc #[.int .i64 2, .int .i64 y, .int .i64 z, .int .i64 p, .int .i64 q] 30
  have t1 : decide (3 < y) = true := decide_eq_true hy.1
  have t2 : 3 < y := hy.1
  have t3 : decide (z < 4) = false := decide_eq_false (by omega)
  have t4 : ¬ z < 4 := by omega
  all_goals
    go_enter Tryz.func14, Tryz.ntmps14
    go_wp2_with (first | (go_at_call 32; (first | (with_reducible refine (w_ones _ (by omega) (by omega) _ _ _ (by first | assumption | exact NB.drew (by assumption))).mono ?_) | (with_reducible refine (w_pairs _ (by omega) (by omega) _ _ _ (by first | assumption | exact NB.drew (by assumption))).mono ?_) | (with_reducible refine (w_pushed _ (by omega) (by omega) _ _ _ (by first | assumption | exact NB.drew (by assumption))).mono ?_) | (with_reducible refine (w_conds _ (by omega) (by omega) _ _ _ (by first | assumption | exact NB.drew (by assumption))).mono ?_) | (with_reducible refine (w_turns _ (by omega) (by omega) _ _ _ (by first | assumption | exact NB.drew (by assumption))).mono ?_) | (with_reducible refine (w_there _ (by omega) (by omega) _ _ _ (by first | assumption | exact NB.drew (by assumption))).mono ?_) | (with_reducible refine (w_what _ (by omega) (by omega) _ _ _ (by first | assumption | exact NB.drew (by assumption))).mono ?_) | (with_reducible refine (w_rots _ (by omega) (by omega) _ _ _ (by first | assumption | exact NB.drew (by assumption))).mono ?_) | (with_reducible refine (w_brs _ (by omega) (by omega) _ _ _ (by first | assumption | exact NB.drew (by assumption))).mono ?_) | (with_reducible refine (w_blk _ (by omega) (by omega) _ _ _ (by first | assumption | exact NB.drew (by assumption))).mono ?_) | (with_reducible refine (w_ends _ (by omega) (by omega) _ _ _ (by first | assumption | exact NB.drew (by assumption))).mono ?_) | (with_reducible refine (w_sa _ (by omega) (by omega) _ _ _ (by first | assumption | exact NB.drew (by assumption))).mono ?_) | (with_reducible refine (w_ims _ (by omega) (by omega) _ _ _ (by first | assumption | exact NB.drew (by assumption))).mono ?_)); rintro e w1 ⟨a1, rfl, ha1, hz1, k1⟩; (try (obtain ⟨c10, c11, c12, c13, c14⟩ := k1.c5))) | (go_at_call 13; (with_reducible refine (one_any _ (by omega) (by omega) _ _ _ (by first | assumption | exact NB.drew (by assumption))).mono ?_); rintro e w2 ⟨a2, rfl, ha2, hz2, k2⟩; (try (obtain ⟨c20, c21, c22, c23, c24⟩ := k2.c5))) | (go_at_call 34; (with_reducible refine (block_any _ _ _ _ _ (by omega) (by omega) _ _ _ (by first | assumption | exact NB.drew (by assumption))).mono ?_); rintro e w3 ⟨a3, rfl, ha3, hz3, k3⟩))
    all_goals first
      | (exfalso; (try simp only [ByteArray.size_append, size_mk, List.length_cons, List.length_nil] at *); omega)
      | (go_ret; exact ⟨_, rfl, by simp [extendedL, *] <;> (intros; omega), by (try simp only [ByteArray.size_append, size_mk, List.length_cons, List.length_nil]); omega, _, by assumption⟩)
set_option maxRecDepth 100000 in
set_option maxHeartbeats 4000000 in
theorem extended_2c (y z p q : Int) (hy : 3 < y ∧ y < 8) (hz : 0 ≤ z ∧ z < 4) : HeldS 14 #[.agg #[.int .i64 2, .int .i64 y, .int .i64 z, .int .i64 p, .int .i64 q]] (extendedL 2 y z p q) 40 := heldS' fun W hW => by
  have k0 := (NB.start hW).alloc #[.int .i64 2, .int .i64 y, .int .i64 z, .int .i64 p, .int .i64 q] 30
  have t1 : decide (3 < y) = true := decide_eq_true hy.1
  have t2 : 3 < y := hy.1
  have t3 : decide (z < 4) = true := decide_eq_true hz.2
  have t4 : z < 4 := hz.2
  all_goals
    go_enter Tryz.func14, Tryz.ntmps14
    go_wp2_with (first | (go_at_call 32; (first | (with_reducible refine (w_ones _ (by omega) (by omega) _ _ _ (by first | assumption | exact NB.drew (by assumption))).mono ?_) | (with_reducible refine (w_pairs _ (by omega) (by omega) _ _ _ (by first | assumption | exact NB.drew (by assumption))).mono ?_) | (with_reducible refine (w_pushed _ (by omega) (by omega) _ _ _ (by first | assumption | exact NB.drew (by assumption))).mono ?_) | (with_reducible refine (w_conds _ (by omega) (by omega) _ _ _ (by first | assumption | exact NB.drew (by assumption))).mono ?_) | (with_reducible refine (w_turns _ (by omega) (by omega) _ _ _ (by first | assumption | exact NB.drew (by assumption))).mono ?_) | (with_reducible refine (w_there _ (by omega) (by omega) _ _ _ (by first | assumption | exact NB.drew (by assumption))).mono ?_) | (with_reducible refine (w_what _ (by omega) (by omega) _ _ _ (by first | assumption | exact NB.drew (by assumption))).mono ?_) | (with_reducible refine (w_rots _ (by omega) (by omega) _ _ _ (by first | assumption | exact NB.drew (by assumption))).mono ?_) | (with_reducible refine (w_brs _ (by omega) (by omega) _ _ _ (by first | assumption | exact NB.drew (by assumption))).mono ?_) | (with_reducible refine (w_blk _ (by omega) (by omega) _ _ _ (by first | assumption | exact NB.drew (by assumption))).mono ?_) | (with_reducible refine (w_ends _ (by omega) (by omega) _ _ _ (by first | assumption | exact NB.drew (by assumption))).mono ?_) | (with_reducible refine (w_sa _ (by omega) (by omega) _ _ _ (by first | assumption | exact NB.drew (by assumption))).mono ?_) | (with_reducible refine (w_ims _ (by omega) (by omega) _ _ _ (by first | assumption | exact NB.drew (by assumption))).mono ?_)); rintro e w1 ⟨a1, rfl, ha1, hz1, k1⟩; (try (obtain ⟨c10, c11, c12, c13, c14⟩ := k1.c5))) | (go_at_call 13; (with_reducible refine (one_any _ (by omega) (by omega) _ _ _ (by first | assumption | exact NB.drew (by assumption))).mono ?_); rintro e w2 ⟨a2, rfl, ha2, hz2, k2⟩; (try (obtain ⟨c20, c21, c22, c23, c24⟩ := k2.c5))) | (go_at_call 34; (with_reducible refine (block_any _ _ _ _ _ (by omega) (by omega) _ _ _ (by first | assumption | exact NB.drew (by assumption))).mono ?_); rintro e w3 ⟨a3, rfl, ha3, hz3, k3⟩))
    all_goals first
      | (exfalso; (try simp only [ByteArray.size_append, size_mk, List.length_cons, List.length_nil] at *); omega)
      | (go_ret; exact ⟨_, rfl, by simp [extendedL, *] <;> (intros; omega), by (try simp only [ByteArray.size_append, size_mk, List.length_cons, List.length_nil]); omega, _, by assumption⟩)
end Nm
end Go.Proofs.YtnhgmdfmhmkpgaaGreatDoor
