/- What instructions are called (layer 11): plain. No conditions but those stated. -/
import Derived.Test.YtnhgmdfmhmkpgaaGreatDoorNm3
import Derived.RegionTactic
import Derived.LoopTactic
import Derived.Deep.RegionHeld3
import Derived.Deep.DeepCutAuto
import Derived.Lib.Hide
namespace Go.Proofs.YtnhgmdfmhmkpgaaGreatDoor
open Go.RowKit
open Kit
set_option linter.unusedSimpArgs false
set_option linter.unusedVariables false
namespace Nm
def plainL (x y z p q : Int) : Str := if x = 0 then lowL y z p q else if x = 1 ∧ y = 6 ∧ z = 6 then [72, 65, 76, 84] else if x = 1 then [76, 68, 32] ++ (wd t_ones y ++ ([44] ++ wd t_ones z)) else if x = 2 then sumL y (wd t_ones z) else highL y z p q
set_option maxRecDepth 100000 in
set_option maxHeartbeats 4000000 in
theorem plain_0 (y z p q : Int) (hy : 0 ≤ y ∧ y < 8) (hz : 0 ≤ z ∧ z < 8) (hp : 0 ≤ p ∧ p < 4) (hq : 0 ≤ q ∧ q < 2) : HeldS 11 #[.agg #[.int .i64 0, .int .i64 y, .int .i64 z, .int .i64 p, .int .i64 q]] (plainL 0 y z p q) 40 := heldS' fun W hW => by
  have k0 := (NB.start hW).alloc #[.int .i64 0, .int .i64 y, .int .i64 z, .int .i64 p, .int .i64 q] 30
  all_goals
    go_enter Tryz.func11, Tryz.ntmps11
    go_wp2_with (first | (go_at_call 29; (with_reducible refine (low_any _ _ _ _ _ hy hz hp hq _ _ _ (by first | assumption | exact NB.drew (by assumption))).mono ?_); rintro e w1 ⟨a1, rfl, ha1, hz1, k1⟩; (try (obtain ⟨c10, c11, c12, c13, c14⟩ := k1.c5))) | (go_at_call 31; (with_reducible refine (high_any _ _ _ _ _ hy hz hp hq _ _ _ (by first | assumption | exact NB.drew (by assumption))).mono ?_); rintro e w2 ⟨a2, rfl, ha2, hz2, k2⟩; (try (obtain ⟨c20, c21, c22, c23, c24⟩ := k2.c5))) | (go_at_call 13; (with_reducible refine (one_any _ (by omega) (by omega) _ _ _ (by first | assumption | exact NB.drew (by assumption))).mono ?_); rintro e w3 ⟨a3, rfl, ha3, hz3, k3⟩; (try (obtain ⟨c30, c31, c32, c33, c34⟩ := k3.c5))) | (go_at_call 30; (with_reducible refine (sum_any _ (by omega) _ 8 (by first | assumption | decide) (by omega) _ _ _ (by first | assumption | exact NB.drew (by assumption))).mono ?_); rintro e w4 ⟨a4, rfl, ha4, hz4, k4⟩; (try (obtain ⟨c40, c41, c42, c43, c44⟩ := k4.c5))))
    all_goals first
      | (exfalso; (try simp only [ByteArray.size_append, size_mk, List.length_cons, List.length_nil] at *); omega)
      | (go_ret; exact ⟨_, rfl, by simp [plainL, sumL, *] <;> (intros; omega), by (try simp only [ByteArray.size_append, size_mk, List.length_cons, List.length_nil]); omega, _, by assumption⟩)
set_option maxRecDepth 100000 in
set_option maxHeartbeats 4000000 in
theorem plain_1a (p q : Int)  : HeldS 11 #[.agg #[.int .i64 1, .int .i64 6, .int .i64 6, .int .i64 p, .int .i64 q]] (plainL 1 6 6 p q) 40 := heldS' fun W hW => by
  have k0 := (NB.start hW).alloc #[.int .i64 1, .int .i64 6, .int .i64 6, .int .i64 p, .int .i64 q] 30
  all_goals
    go_enter Tryz.func11, Tryz.ntmps11
    go_wp2_with (first | (go_at_call 29; (with_reducible refine (low_any _ _ _ _ _ hy hz hp hq _ _ _ (by first | assumption | exact NB.drew (by assumption))).mono ?_); rintro e w1 ⟨a1, rfl, ha1, hz1, k1⟩; (try (obtain ⟨c10, c11, c12, c13, c14⟩ := k1.c5))) | (go_at_call 31; (with_reducible refine (high_any _ _ _ _ _ hy hz hp hq _ _ _ (by first | assumption | exact NB.drew (by assumption))).mono ?_); rintro e w2 ⟨a2, rfl, ha2, hz2, k2⟩; (try (obtain ⟨c20, c21, c22, c23, c24⟩ := k2.c5))) | (go_at_call 13; (with_reducible refine (one_any _ (by omega) (by omega) _ _ _ (by first | assumption | exact NB.drew (by assumption))).mono ?_); rintro e w3 ⟨a3, rfl, ha3, hz3, k3⟩; (try (obtain ⟨c30, c31, c32, c33, c34⟩ := k3.c5))) | (go_at_call 30; (with_reducible refine (sum_any _ (by omega) _ 8 (by first | assumption | decide) (by omega) _ _ _ (by first | assumption | exact NB.drew (by assumption))).mono ?_); rintro e w4 ⟨a4, rfl, ha4, hz4, k4⟩; (try (obtain ⟨c40, c41, c42, c43, c44⟩ := k4.c5))))
    all_goals first
      | (exfalso; (try simp only [ByteArray.size_append, size_mk, List.length_cons, List.length_nil] at *); omega)
      | (go_ret; exact ⟨_, rfl, by simp [plainL, sumL, *] <;> (intros; omega), by (try simp only [ByteArray.size_append, size_mk, List.length_cons, List.length_nil]); omega, _, by assumption⟩)
set_option maxRecDepth 100000 in
set_option maxHeartbeats 4000000 in
theorem plain_1b (z p q : Int) (hz : 0 ≤ z ∧ z < 8) (h6 : z ≠ 6) : HeldS 11 #[.agg #[.int .i64 1, .int .i64 6, .int .i64 z, .int .i64 p, .int .i64 q]] (plainL 1 6 z p q) 40 := heldS' fun W hW => by
  have k0 := (NB.start hW).alloc #[.int .i64 1, .int .i64 6, .int .i64 z, .int .i64 p, .int .i64 q] 30
  have t1 : (z == 6) = false := beq_eq_false_iff_ne.2 h6
  all_goals
    go_enter Tryz.func11, Tryz.ntmps11
    go_upto_region 6 with fail
    obtain ⟨c0, c1, c2, c3, c4⟩ := k0.c5
    generalize W.alloc (.cells #[.int .i64 1, .int .i64 6, .int .i64 z, .int .i64 p, .int .i64 q] 30) = W1 at *
    go_region_with (first | (go_at_call 29; (with_reducible refine (low_any _ _ _ _ _ hy hz hp hq _ _ _ (by first | assumption | exact NB.drew (by assumption))).mono ?_); rintro e w1 ⟨a1, rfl, ha1, hz1, k1⟩; (try (obtain ⟨c10, c11, c12, c13, c14⟩ := k1.c5))) | (go_at_call 31; (with_reducible refine (high_any _ _ _ _ _ hy hz hp hq _ _ _ (by first | assumption | exact NB.drew (by assumption))).mono ?_); rintro e w2 ⟨a2, rfl, ha2, hz2, k2⟩; (try (obtain ⟨c20, c21, c22, c23, c24⟩ := k2.c5))) | (go_at_call 13; (with_reducible refine (one_any _ (by omega) (by omega) _ _ _ (by first | assumption | exact NB.drew (by assumption))).mono ?_); rintro e w3 ⟨a3, rfl, ha3, hz3, k3⟩; (try (obtain ⟨c30, c31, c32, c33, c34⟩ := k3.c5))) | (go_at_call 30; (with_reducible refine (sum_any _ (by omega) _ 8 (by first | assumption | decide) (by omega) _ _ _ (by first | assumption | exact NB.drew (by assumption))).mono ?_); rintro e w4 ⟨a4, rfl, ha4, hz4, k4⟩; (try (obtain ⟨c40, c41, c42, c43, c44⟩ := k4.c5))))
    all_goals go_wp2_with fail
    all_goals first
      | (exfalso; (try simp only [ByteArray.size_append, size_mk, List.length_cons, List.length_nil] at *); omega)
      | (go_ret; exact ⟨_, rfl, by simp [plainL, sumL, *] <;> (intros; omega), by (try simp only [ByteArray.size_append, size_mk, List.length_cons, List.length_nil]); omega, _, by assumption⟩)
set_option maxRecDepth 100000 in
set_option maxHeartbeats 4000000 in
theorem plain_1c (y z p q : Int) (hy : 0 ≤ y ∧ y < 8) (hz : 0 ≤ z ∧ z < 8) (h6 : y ≠ 6) : HeldS 11 #[.agg #[.int .i64 1, .int .i64 y, .int .i64 z, .int .i64 p, .int .i64 q]] (plainL 1 y z p q) 40 := heldS' fun W hW => by
  have k0 := (NB.start hW).alloc #[.int .i64 1, .int .i64 y, .int .i64 z, .int .i64 p, .int .i64 q] 30
  have t1 : (y == 6) = false := beq_eq_false_iff_ne.2 h6
  all_goals
    go_enter Tryz.func11, Tryz.ntmps11
    go_upto_region 6 with fail
    obtain ⟨c0, c1, c2, c3, c4⟩ := k0.c5
    generalize W.alloc (.cells #[.int .i64 1, .int .i64 y, .int .i64 z, .int .i64 p, .int .i64 q] 30) = W1 at *
    go_region_with (first | (go_at_call 29; (with_reducible refine (low_any _ _ _ _ _ hy hz hp hq _ _ _ (by first | assumption | exact NB.drew (by assumption))).mono ?_); rintro e w1 ⟨a1, rfl, ha1, hz1, k1⟩; (try (obtain ⟨c10, c11, c12, c13, c14⟩ := k1.c5))) | (go_at_call 31; (with_reducible refine (high_any _ _ _ _ _ hy hz hp hq _ _ _ (by first | assumption | exact NB.drew (by assumption))).mono ?_); rintro e w2 ⟨a2, rfl, ha2, hz2, k2⟩; (try (obtain ⟨c20, c21, c22, c23, c24⟩ := k2.c5))) | (go_at_call 13; (with_reducible refine (one_any _ (by omega) (by omega) _ _ _ (by first | assumption | exact NB.drew (by assumption))).mono ?_); rintro e w3 ⟨a3, rfl, ha3, hz3, k3⟩; (try (obtain ⟨c30, c31, c32, c33, c34⟩ := k3.c5))) | (go_at_call 30; (with_reducible refine (sum_any _ (by omega) _ 8 (by first | assumption | decide) (by omega) _ _ _ (by first | assumption | exact NB.drew (by assumption))).mono ?_); rintro e w4 ⟨a4, rfl, ha4, hz4, k4⟩; (try (obtain ⟨c40, c41, c42, c43, c44⟩ := k4.c5))))
    all_goals go_wp2_with fail
    all_goals first
      | (exfalso; (try simp only [ByteArray.size_append, size_mk, List.length_cons, List.length_nil] at *); omega)
      | (go_ret; exact ⟨_, rfl, by simp [plainL, sumL, *] <;> (intros; omega), by (try simp only [ByteArray.size_append, size_mk, List.length_cons, List.length_nil]); omega, _, by assumption⟩)
set_option maxRecDepth 100000 in
set_option maxHeartbeats 4000000 in
theorem plain_2 (y z p q : Int) (hy : 0 ≤ y ∧ y < 8) (hz : 0 ≤ z ∧ z < 8) : HeldS 11 #[.agg #[.int .i64 2, .int .i64 y, .int .i64 z, .int .i64 p, .int .i64 q]] (plainL 2 y z p q) 40 := heldS' fun W hW => by
  have k0 := (NB.start hW).alloc #[.int .i64 2, .int .i64 y, .int .i64 z, .int .i64 p, .int .i64 q] 30
  all_goals
    go_enter Tryz.func11, Tryz.ntmps11
    go_upto_region 8 with fail
    obtain ⟨c0, c1, c2, c3, c4⟩ := k0.c5
    generalize W.alloc (.cells #[.int .i64 2, .int .i64 y, .int .i64 z, .int .i64 p, .int .i64 q] 30) = W1 at *
    go_region_with (first | (go_at_call 29; (with_reducible refine (low_any _ _ _ _ _ hy hz hp hq _ _ _ (by first | assumption | exact NB.drew (by assumption))).mono ?_); rintro e w1 ⟨a1, rfl, ha1, hz1, k1⟩; (try (obtain ⟨c10, c11, c12, c13, c14⟩ := k1.c5))) | (go_at_call 31; (with_reducible refine (high_any _ _ _ _ _ hy hz hp hq _ _ _ (by first | assumption | exact NB.drew (by assumption))).mono ?_); rintro e w2 ⟨a2, rfl, ha2, hz2, k2⟩; (try (obtain ⟨c20, c21, c22, c23, c24⟩ := k2.c5))) | (go_at_call 13; (with_reducible refine (one_any _ (by omega) (by omega) _ _ _ (by first | assumption | exact NB.drew (by assumption))).mono ?_); rintro e w3 ⟨a3, rfl, ha3, hz3, k3⟩; (try (obtain ⟨c30, c31, c32, c33, c34⟩ := k3.c5))) | (go_at_call 30; (with_reducible refine (sum_any _ (by omega) _ 8 (by first | assumption | decide) (by omega) _ _ _ (by first | assumption | exact NB.drew (by assumption))).mono ?_); rintro e w4 ⟨a4, rfl, ha4, hz4, k4⟩; (try (obtain ⟨c40, c41, c42, c43, c44⟩ := k4.c5))))
    all_goals go_wp2_with fail
    all_goals first
      | (exfalso; (try simp only [ByteArray.size_append, size_mk, List.length_cons, List.length_nil] at *); omega)
      | (go_ret; exact ⟨_, rfl, by simp [plainL, sumL, *] <;> (intros; omega), by (try simp only [ByteArray.size_append, size_mk, List.length_cons, List.length_nil]); omega, _, by assumption⟩)
set_option maxRecDepth 100000 in
set_option maxHeartbeats 4000000 in
theorem plain_3 (y z p q : Int) (hy : 0 ≤ y ∧ y < 8) (hz : 0 ≤ z ∧ z < 8) (hp : 0 ≤ p ∧ p < 4) (hq : 0 ≤ q ∧ q < 2) : HeldS 11 #[.agg #[.int .i64 3, .int .i64 y, .int .i64 z, .int .i64 p, .int .i64 q]] (plainL 3 y z p q) 40 := heldS' fun W hW => by
  have k0 := (NB.start hW).alloc #[.int .i64 3, .int .i64 y, .int .i64 z, .int .i64 p, .int .i64 q] 30
  all_goals
    go_enter Tryz.func11, Tryz.ntmps11
    go_wp2_with (first | (go_at_call 29; (with_reducible refine (low_any _ _ _ _ _ hy hz hp hq _ _ _ (by first | assumption | exact NB.drew (by assumption))).mono ?_); rintro e w1 ⟨a1, rfl, ha1, hz1, k1⟩; (try (obtain ⟨c10, c11, c12, c13, c14⟩ := k1.c5))) | (go_at_call 31; (with_reducible refine (high_any _ _ _ _ _ hy hz hp hq _ _ _ (by first | assumption | exact NB.drew (by assumption))).mono ?_); rintro e w2 ⟨a2, rfl, ha2, hz2, k2⟩; (try (obtain ⟨c20, c21, c22, c23, c24⟩ := k2.c5))) | (go_at_call 13; (with_reducible refine (one_any _ (by omega) (by omega) _ _ _ (by first | assumption | exact NB.drew (by assumption))).mono ?_); rintro e w3 ⟨a3, rfl, ha3, hz3, k3⟩; (try (obtain ⟨c30, c31, c32, c33, c34⟩ := k3.c5))) | (go_at_call 30; (with_reducible refine (sum_any _ (by omega) _ 8 (by first | assumption | decide) (by omega) _ _ _ (by first | assumption | exact NB.drew (by assumption))).mono ?_); rintro e w4 ⟨a4, rfl, ha4, hz4, k4⟩; (try (obtain ⟨c40, c41, c42, c43, c44⟩ := k4.c5))))
    all_goals first
      | (exfalso; (try simp only [ByteArray.size_append, size_mk, List.length_cons, List.length_nil] at *); omega)
      | (go_ret; exact ⟨_, rfl, by simp [plainL, sumL, *] <;> (intros; omega), by (try simp only [ByteArray.size_append, size_mk, List.length_cons, List.length_nil]); omega, _, by assumption⟩)
theorem plain_any (x y z p q : Int) (hx : 0 ≤ x ∧ x < 4) (hy : 0 ≤ y ∧ y < 8) (hz : 0 ≤ z ∧ z < 8) (hp : 0 ≤ p ∧ p < 4) (hq : 0 ≤ q ∧ q < 2) : HeldS 11 #[.agg #[.int .i64 x, .int .i64 y, .int .i64 z, .int .i64 p, .int .i64 q]] (plainL x y z p q) 40 := by
  rcases (by omega : x = 0 ∨ x = 1 ∨ x = 2 ∨ x = 3) with rfl | rfl | rfl | rfl
  · exact plain_0 y z p q hy hz hp hq
  · by_cases h : y = 6
    · subst h
      by_cases h' : z = 6
      · subst h'; exact plain_1a p q
      · exact plain_1b z p q hz h'
    · exact plain_1c y z p q hy hz h
  · exact plain_2 y z p q hy hz
  · exact plain_3 y z p q hy hz hp hq
end Nm
end Go.Proofs.YtnhgmdfmhmkpgaaGreatDoor
