/- What instructions are called (layer 11): extended. No conditions but those stated. -/
import Derived.Test.YtnhgmdfmhmkpgaaGreatDoorNm4
import Derived.RegionTactic
import Derived.LoopTactic
import Derived.Deep.RegionHeld3
import Derived.Deep.DeepCutAuto
import Derived.Lib.Hide
namespace Go.Proofs.YtnhgmdfmhmkpgaaGreatDoor
open Go.RowKit
open Kit
set_option linter.unusedSimpArgs false
set_option linter.unusedVariables false
namespace Nm
attribute [local simp] ix2_0 ix2_1 ix4_0 ix4_1 ix4_2 ix4_3 ix8_0 ix8_1 ix8_2 ix8_3 ix8_4 ix8_5 ix8_6 ix8_7 wrp0 wrp1 wrp2 wrp3 wrp4 wrp5 wrp6 wrp7 wrp8 wrp9
theorem bn0 : Go.bits .and .i64 0 3 = 0 := by decide +kernel
theorem bn1 : Go.bits .and .i64 1 3 = 1 := by decide +kernel
theorem bn2 : Go.bits .and .i64 2 3 = 2 := by decide +kernel
theorem bn3 : Go.bits .and .i64 3 3 = 3 := by decide +kernel
theorem bn4 : Go.bits .and .i64 4 3 = 0 := by decide +kernel
theorem bn5 : Go.bits .and .i64 5 3 = 1 := by decide +kernel
theorem bn6 : Go.bits .and .i64 6 3 = 2 := by decide +kernel
theorem bn7 : Go.bits .and .i64 7 3 = 3 := by decide +kernel
attribute [local simp] bn0 bn1 bn2 bn3 bn4 bn5 bn6 bn7
set_option maxRecDepth 100000 in
set_option maxHeartbeats 4000000 in
theorem extended_10 (y p q : Int) (hy : 0 ≤ y ∧ y < 8) (hp : 0 ≤ p ∧ p < 4) (hq : 0 ≤ q ∧ q < 2) : HeldS 14 #[.agg #[.int .i64 1, .int .i64 y, .int .i64 0, .int .i64 p, .int .i64 q]] (extendedL 1 y 0 p q) 40 := heldS' fun W hW => by
  have k0 := (NB.start hW).alloc #[.int .i64 1, .int .i64 y, .int .i64 0, .int .i64 p, .int .i64 q] 30
  rcases (by omega : y = 0 ∨ y = 1 ∨ y = 2 ∨ y = 3 ∨ y = 4 ∨ y = 5 ∨ y = 6 ∨ y = 7) with rfl | rfl | rfl | rfl | rfl | rfl | rfl | rfl
  all_goals
    go_enter Tryz.func14, Tryz.ntmps14
    go_wp2_with (first | (go_at_call 32; (first | (with_reducible refine (w_ones _ (by omega) (by omega) _ _ _ (by first | assumption | exact NB.drew (by assumption))).mono ?_) | (with_reducible refine (w_pairs _ (by omega) (by omega) _ _ _ (by first | assumption | exact NB.drew (by assumption))).mono ?_) | (with_reducible refine (w_pushed _ (by omega) (by omega) _ _ _ (by first | assumption | exact NB.drew (by assumption))).mono ?_) | (with_reducible refine (w_conds _ (by omega) (by omega) _ _ _ (by first | assumption | exact NB.drew (by assumption))).mono ?_) | (with_reducible refine (w_turns _ (by omega) (by omega) _ _ _ (by first | assumption | exact NB.drew (by assumption))).mono ?_) | (with_reducible refine (w_there _ (by omega) (by omega) _ _ _ (by first | assumption | exact NB.drew (by assumption))).mono ?_) | (with_reducible refine (w_what _ (by omega) (by omega) _ _ _ (by first | assumption | exact NB.drew (by assumption))).mono ?_) | (with_reducible refine (w_rots _ (by omega) (by omega) _ _ _ (by first | assumption | exact NB.drew (by assumption))).mono ?_) | (with_reducible refine (w_brs _ (by omega) (by omega) _ _ _ (by first | assumption | exact NB.drew (by assumption))).mono ?_) | (with_reducible refine (w_blk _ (by omega) (by omega) _ _ _ (by first | assumption | exact NB.drew (by assumption))).mono ?_) | (with_reducible refine (w_ends _ (by omega) (by omega) _ _ _ (by first | assumption | exact NB.drew (by assumption))).mono ?_) | (with_reducible refine (w_sa _ (by omega) (by omega) _ _ _ (by first | assumption | exact NB.drew (by assumption))).mono ?_) | (with_reducible refine (w_ims _ (by omega) (by omega) _ _ _ (by first | assumption | exact NB.drew (by assumption))).mono ?_)); rintro e w1 ⟨a1, rfl, ha1, hz1, k1⟩; (try (obtain ⟨c10, c11, c12, c13, c14⟩ := k1.c5))) | (go_at_call 13; (with_reducible refine (one_any _ (by omega) (by omega) _ _ _ (by first | assumption | exact NB.drew (by assumption))).mono ?_); rintro e w2 ⟨a2, rfl, ha2, hz2, k2⟩; (try (obtain ⟨c20, c21, c22, c23, c24⟩ := k2.c5))) | (go_at_call 34; (with_reducible refine (block_any _ _ _ _ _ (by omega) (by omega) _ _ _ (by first | assumption | exact NB.drew (by assumption))).mono ?_); rintro e w3 ⟨a3, rfl, ha3, hz3, k3⟩))
    all_goals first
      | (exfalso; (try simp only [ByteArray.size_append, size_mk, List.length_cons, List.length_nil] at *); omega)
      | (go_ret; exact ⟨_, rfl, by simp [extendedL, *] <;> (intros; omega), by (try simp only [ByteArray.size_append, size_mk, List.length_cons, List.length_nil]); omega, _, by assumption⟩)
set_option maxRecDepth 100000 in
set_option maxHeartbeats 4000000 in
theorem extended_11 (y p q : Int) (hy : 0 ≤ y ∧ y < 8) (hp : 0 ≤ p ∧ p < 4) (hq : 0 ≤ q ∧ q < 2) : HeldS 14 #[.agg #[.int .i64 1, .int .i64 y, .int .i64 1, .int .i64 p, .int .i64 q]] (extendedL 1 y 1 p q) 40 := heldS' fun W hW => by
  have k0 := (NB.start hW).alloc #[.int .i64 1, .int .i64 y, .int .i64 1, .int .i64 p, .int .i64 q] 30
  rcases (by omega : y = 0 ∨ y = 1 ∨ y = 2 ∨ y = 3 ∨ y = 4 ∨ y = 5 ∨ y = 6 ∨ y = 7) with rfl | rfl | rfl | rfl | rfl | rfl | rfl | rfl
  all_goals
    go_enter Tryz.func14, Tryz.ntmps14
    go_wp2_with (first | (go_at_call 32; (first | (with_reducible refine (w_ones _ (by omega) (by omega) _ _ _ (by first | assumption | exact NB.drew (by assumption))).mono ?_) | (with_reducible refine (w_pairs _ (by omega) (by omega) _ _ _ (by first | assumption | exact NB.drew (by assumption))).mono ?_) | (with_reducible refine (w_pushed _ (by omega) (by omega) _ _ _ (by first | assumption | exact NB.drew (by assumption))).mono ?_) | (with_reducible refine (w_conds _ (by omega) (by omega) _ _ _ (by first | assumption | exact NB.drew (by assumption))).mono ?_) | (with_reducible refine (w_turns _ (by omega) (by omega) _ _ _ (by first | assumption | exact NB.drew (by assumption))).mono ?_) | (with_reducible refine (w_there _ (by omega) (by omega) _ _ _ (by first | assumption | exact NB.drew (by assumption))).mono ?_) | (with_reducible refine (w_what _ (by omega) (by omega) _ _ _ (by first | assumption | exact NB.drew (by assumption))).mono ?_) | (with_reducible refine (w_rots _ (by omega) (by omega) _ _ _ (by first | assumption | exact NB.drew (by assumption))).mono ?_) | (with_reducible refine (w_brs _ (by omega) (by omega) _ _ _ (by first | assumption | exact NB.drew (by assumption))).mono ?_) | (with_reducible refine (w_blk _ (by omega) (by omega) _ _ _ (by first | assumption | exact NB.drew (by assumption))).mono ?_) | (with_reducible refine (w_ends _ (by omega) (by omega) _ _ _ (by first | assumption | exact NB.drew (by assumption))).mono ?_) | (with_reducible refine (w_sa _ (by omega) (by omega) _ _ _ (by first | assumption | exact NB.drew (by assumption))).mono ?_) | (with_reducible refine (w_ims _ (by omega) (by omega) _ _ _ (by first | assumption | exact NB.drew (by assumption))).mono ?_)); rintro e w1 ⟨a1, rfl, ha1, hz1, k1⟩; (try (obtain ⟨c10, c11, c12, c13, c14⟩ := k1.c5))) | (go_at_call 13; (with_reducible refine (one_any _ (by omega) (by omega) _ _ _ (by first | assumption | exact NB.drew (by assumption))).mono ?_); rintro e w2 ⟨a2, rfl, ha2, hz2, k2⟩; (try (obtain ⟨c20, c21, c22, c23, c24⟩ := k2.c5))) | (go_at_call 34; (with_reducible refine (block_any _ _ _ _ _ (by omega) (by omega) _ _ _ (by first | assumption | exact NB.drew (by assumption))).mono ?_); rintro e w3 ⟨a3, rfl, ha3, hz3, k3⟩))
    all_goals first
      | (exfalso; (try simp only [ByteArray.size_append, size_mk, List.length_cons, List.length_nil] at *); omega)
      | (go_ret; exact ⟨_, rfl, by simp [extendedL, *] <;> (intros; omega), by (try simp only [ByteArray.size_append, size_mk, List.length_cons, List.length_nil]); omega, _, by assumption⟩)
set_option maxRecDepth 100000 in
set_option maxHeartbeats 4000000 in
theorem extended_12 (y p q : Int) (hy : 0 ≤ y ∧ y < 8) (hp : 0 ≤ p ∧ p < 4) (hq : 0 ≤ q ∧ q < 2) : HeldS 14 #[.agg #[.int .i64 1, .int .i64 y, .int .i64 2, .int .i64 p, .int .i64 q]] (extendedL 1 y 2 p q) 40 := heldS' fun W hW => by
  have k0 := (NB.start hW).alloc #[.int .i64 1, .int .i64 y, .int .i64 2, .int .i64 p, .int .i64 q] 30
  rcases (by omega : q = 0 ∨ q = 1) with rfl | rfl
  all_goals
    go_enter Tryz.func14, Tryz.ntmps14
    go_wp2_with (first | (go_at_call 32; (first | (with_reducible refine (w_ones _ (by omega) (by omega) _ _ _ (by first | assumption | exact NB.drew (by assumption))).mono ?_) | (with_reducible refine (w_pairs _ (by omega) (by omega) _ _ _ (by first | assumption | exact NB.drew (by assumption))).mono ?_) | (with_reducible refine (w_pushed _ (by omega) (by omega) _ _ _ (by first | assumption | exact NB.drew (by assumption))).mono ?_) | (with_reducible refine (w_conds _ (by omega) (by omega) _ _ _ (by first | assumption | exact NB.drew (by assumption))).mono ?_) | (with_reducible refine (w_turns _ (by omega) (by omega) _ _ _ (by first | assumption | exact NB.drew (by assumption))).mono ?_) | (with_reducible refine (w_there _ (by omega) (by omega) _ _ _ (by first | assumption | exact NB.drew (by assumption))).mono ?_) | (with_reducible refine (w_what _ (by omega) (by omega) _ _ _ (by first | assumption | exact NB.drew (by assumption))).mono ?_) | (with_reducible refine (w_rots _ (by omega) (by omega) _ _ _ (by first | assumption | exact NB.drew (by assumption))).mono ?_) | (with_reducible refine (w_brs _ (by omega) (by omega) _ _ _ (by first | assumption | exact NB.drew (by assumption))).mono ?_) | (with_reducible refine (w_blk _ (by omega) (by omega) _ _ _ (by first | assumption | exact NB.drew (by assumption))).mono ?_) | (with_reducible refine (w_ends _ (by omega) (by omega) _ _ _ (by first | assumption | exact NB.drew (by assumption))).mono ?_) | (with_reducible refine (w_sa _ (by omega) (by omega) _ _ _ (by first | assumption | exact NB.drew (by assumption))).mono ?_) | (with_reducible refine (w_ims _ (by omega) (by omega) _ _ _ (by first | assumption | exact NB.drew (by assumption))).mono ?_)); rintro e w1 ⟨a1, rfl, ha1, hz1, k1⟩; (try (obtain ⟨c10, c11, c12, c13, c14⟩ := k1.c5))) | (go_at_call 13; (with_reducible refine (one_any _ (by omega) (by omega) _ _ _ (by first | assumption | exact NB.drew (by assumption))).mono ?_); rintro e w2 ⟨a2, rfl, ha2, hz2, k2⟩; (try (obtain ⟨c20, c21, c22, c23, c24⟩ := k2.c5))) | (go_at_call 34; (with_reducible refine (block_any _ _ _ _ _ (by omega) (by omega) _ _ _ (by first | assumption | exact NB.drew (by assumption))).mono ?_); rintro e w3 ⟨a3, rfl, ha3, hz3, k3⟩))
    all_goals first
      | (exfalso; (try simp only [ByteArray.size_append, size_mk, List.length_cons, List.length_nil] at *); omega)
      | (go_ret; exact ⟨_, rfl, by simp [extendedL, *] <;> (intros; omega), by (try simp only [ByteArray.size_append, size_mk, List.length_cons, List.length_nil]); omega, _, by assumption⟩)
set_option maxRecDepth 100000 in
set_option maxHeartbeats 4000000 in
theorem extended_13 (y p q : Int) (hy : 0 ≤ y ∧ y < 8) (hp : 0 ≤ p ∧ p < 4) (hq : 0 ≤ q ∧ q < 2) : HeldS 14 #[.agg #[.int .i64 1, .int .i64 y, .int .i64 3, .int .i64 p, .int .i64 q]] (extendedL 1 y 3 p q) 40 := heldS' fun W hW => by
  have k0 := (NB.start hW).alloc #[.int .i64 1, .int .i64 y, .int .i64 3, .int .i64 p, .int .i64 q] 30
  rcases (by omega : q = 0 ∨ q = 1) with rfl | rfl
  all_goals
    go_enter Tryz.func14, Tryz.ntmps14
    go_wp2_with (first | (go_at_call 32; (first | (with_reducible refine (w_ones _ (by omega) (by omega) _ _ _ (by first | assumption | exact NB.drew (by assumption))).mono ?_) | (with_reducible refine (w_pairs _ (by omega) (by omega) _ _ _ (by first | assumption | exact NB.drew (by assumption))).mono ?_) | (with_reducible refine (w_pushed _ (by omega) (by omega) _ _ _ (by first | assumption | exact NB.drew (by assumption))).mono ?_) | (with_reducible refine (w_conds _ (by omega) (by omega) _ _ _ (by first | assumption | exact NB.drew (by assumption))).mono ?_) | (with_reducible refine (w_turns _ (by omega) (by omega) _ _ _ (by first | assumption | exact NB.drew (by assumption))).mono ?_) | (with_reducible refine (w_there _ (by omega) (by omega) _ _ _ (by first | assumption | exact NB.drew (by assumption))).mono ?_) | (with_reducible refine (w_what _ (by omega) (by omega) _ _ _ (by first | assumption | exact NB.drew (by assumption))).mono ?_) | (with_reducible refine (w_rots _ (by omega) (by omega) _ _ _ (by first | assumption | exact NB.drew (by assumption))).mono ?_) | (with_reducible refine (w_brs _ (by omega) (by omega) _ _ _ (by first | assumption | exact NB.drew (by assumption))).mono ?_) | (with_reducible refine (w_blk _ (by omega) (by omega) _ _ _ (by first | assumption | exact NB.drew (by assumption))).mono ?_) | (with_reducible refine (w_ends _ (by omega) (by omega) _ _ _ (by first | assumption | exact NB.drew (by assumption))).mono ?_) | (with_reducible refine (w_sa _ (by omega) (by omega) _ _ _ (by first | assumption | exact NB.drew (by assumption))).mono ?_) | (with_reducible refine (w_ims _ (by omega) (by omega) _ _ _ (by first | assumption | exact NB.drew (by assumption))).mono ?_)); rintro e w1 ⟨a1, rfl, ha1, hz1, k1⟩; (try (obtain ⟨c10, c11, c12, c13, c14⟩ := k1.c5))) | (go_at_call 13; (with_reducible refine (one_any _ (by omega) (by omega) _ _ _ (by first | assumption | exact NB.drew (by assumption))).mono ?_); rintro e w2 ⟨a2, rfl, ha2, hz2, k2⟩; (try (obtain ⟨c20, c21, c22, c23, c24⟩ := k2.c5))) | (go_at_call 34; (with_reducible refine (block_any _ _ _ _ _ (by omega) (by omega) _ _ _ (by first | assumption | exact NB.drew (by assumption))).mono ?_); rintro e w3 ⟨a3, rfl, ha3, hz3, k3⟩))
    all_goals first
      | (exfalso; (try simp only [ByteArray.size_append, size_mk, List.length_cons, List.length_nil] at *); omega)
      | (go_ret; exact ⟨_, rfl, by simp [extendedL, *] <;> (intros; omega), by (try simp only [ByteArray.size_append, size_mk, List.length_cons, List.length_nil]); omega, _, by assumption⟩)
end Nm
end Go.Proofs.YtnhgmdfmhmkpgaaGreatDoor
