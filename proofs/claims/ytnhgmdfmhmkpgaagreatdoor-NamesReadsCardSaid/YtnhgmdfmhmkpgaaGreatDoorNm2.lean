/- What instructions are called (layer 11): low. No conditions but those stated. -/
import Derived.Test.YtnhgmdfmhmkpgaaGreatDoorNm
import Derived.RegionTactic
import Derived.LoopTactic
import Derived.Deep.RegionHeld3
import Derived.Deep.DeepCutAuto
import Derived.Lib.Hide
namespace Go.Proofs.YtnhgmdfmhmkpgaaGreatDoor
open Go.RowKit
open Kit
set_option linter.unusedSimpArgs false
set_option linter.unusedVariables false
namespace Nm
attribute [local simp] ix2_0 ix2_1 ix4_0 ix4_1 ix4_2 ix4_3 ix8_0 ix8_1 ix8_2 ix8_3 ix8_4 ix8_5 ix8_6 ix8_7 wrp0 wrp1 wrp2 wrp3 wrp4 wrp5 wrp6 wrp7 wrp8 wrp9
def t_sums : List Str := [[65, 68, 68, 32, 65, 44], [65, 68, 67, 32, 65, 44], [83, 85, 66, 32], [83, 66, 67, 32, 65, 44], [65, 78, 68, 32], [88, 79, 82, 32], [79, 82, 32], [67, 80, 32]]
def t_l0 : List Str := [[78, 79, 80], [69, 88, 32, 65, 70, 44, 65, 70, 39], [68, 74, 78, 90, 32, 101], [74, 82, 32, 101]]
def t_h1 : List Str := [[82, 69, 84], [69, 88, 88], [74, 80, 32, 40, 72, 76, 41], [76, 68, 32, 83, 80, 44, 72, 76]]
def t_h3 : List Str := [[74, 80, 32, 110, 110], [67, 66], [79, 85, 84, 32, 40, 110, 41, 44, 65], [73, 78, 32, 65, 44, 40, 110, 41], [69, 88, 32, 40, 83, 80, 41, 44, 72, 76], [69, 88, 32, 68, 69, 44, 72, 76], [68, 73], [69, 73]]
def t_h5 : List Str := [[67, 65, 76, 76, 32, 110, 110], [68, 68], [69, 68], [70, 68]]
def t_e7 : List Str := [[76, 68, 32, 73, 44, 65], [76, 68, 32, 82, 44, 65], [76, 68, 32, 65, 44, 73], [76, 68, 32, 65, 44, 82], [82, 82, 68], [82, 76, 68], [78, 79, 80], [78, 79, 80]]
def sumL (n : Int) (s : Str) : Str := wd t_sums n ++ s
def lowL (y z p q : Int) : Str :=
  if z = 0 then (if 3 < y then [74, 82, 32] ++ (wd t_conds (y - 4) ++ [44, 101]) else wd t_l0 y) else
  if z = 1 then (if q = 0 then [76, 68, 32] ++ (wd t_pairs p ++ [44, 110, 110]) else [65, 68, 68, 32, 72, 76, 44] ++ wd t_pairs p) else
  if z = 2 then (if q = 0 then [76, 68, 32] ++ (wd t_there p ++ ([44] ++ wd t_what p)) else [76, 68, 32] ++ (wd t_what p ++ ([44] ++ wd t_there p))) else
  if z = 3 then (if q = 0 then [73, 78, 67, 32] else [68, 69, 67, 32]) ++ wd t_pairs p else
  if z = 4 then [73, 78, 67, 32] ++ wd t_ones y else
  if z = 5 then [68, 69, 67, 32] ++ wd t_ones y else
  if z = 6 then [76, 68, 32] ++ (wd t_ones y ++ [44, 110]) else wd t_rots y
set_option maxRecDepth 100000 in
set_option maxHeartbeats 4000000 in
theorem sum_any (n : Int) (hn : 0 ≤ n ∧ n < 8) (s : ByteArray) (m : Nat) (hs : s.size ≤ m) (hm : m ≤ 1000) : HeldS 30 #[.int .i64 n, .string s] (sumL n s.data.toList) (8 + m) := heldS' fun W hW => by
  have k0 := NB.start hW
  rcases (by omega : n = 0 ∨ n = 1 ∨ n = 2 ∨ n = 3 ∨ n = 4 ∨ n = 5 ∨ n = 6 ∨ n = 7) with rfl | rfl | rfl | rfl | rfl | rfl | rfl | rfl
  all_goals
    go_enter Tryz.func30, Tryz.ntmps30
    go_wp2
    all_goals first | (exfalso; omega) | skip
    go_ret
    exact ⟨_, rfl, by simp [sumL, wd, t_sums], by (try simp only [ByteArray.size_append, size_mk, List.length_cons, List.length_nil]); omega, _, k0⟩
set_option maxRecDepth 100000 in
set_option maxHeartbeats 4000000 in
theorem low_0 (x y p q : Int) (hy : 0 ≤ y ∧ y < 8) (hp : 0 ≤ p ∧ p < 4) (hq : 0 ≤ q ∧ q < 2) : HeldS 29 #[.agg #[.int .i64 x, .int .i64 y, .int .i64 0, .int .i64 p, .int .i64 q]] (lowL y 0 p q) 40 := heldS' fun W hW => by
  have k0 := (NB.start hW).alloc #[.int .i64 x, .int .i64 y, .int .i64 0, .int .i64 p, .int .i64 q] 30
  rcases (by omega : y = 0 ∨ y = 1 ∨ y = 2 ∨ y = 3 ∨ y = 4 ∨ y = 5 ∨ y = 6 ∨ y = 7) with rfl | rfl | rfl | rfl | rfl | rfl | rfl | rfl
  all_goals
    go_enter Tryz.func29, Tryz.ntmps29
    go_wp2_with (first | (go_at_call 32; (first | (with_reducible refine (w_ones _ (by omega) (by omega) _ _ _ (by first | assumption | exact NB.drew (by assumption))).mono ?_) | (with_reducible refine (w_pairs _ (by omega) (by omega) _ _ _ (by first | assumption | exact NB.drew (by assumption))).mono ?_) | (with_reducible refine (w_pushed _ (by omega) (by omega) _ _ _ (by first | assumption | exact NB.drew (by assumption))).mono ?_) | (with_reducible refine (w_conds _ (by omega) (by omega) _ _ _ (by first | assumption | exact NB.drew (by assumption))).mono ?_) | (with_reducible refine (w_turns _ (by omega) (by omega) _ _ _ (by first | assumption | exact NB.drew (by assumption))).mono ?_) | (with_reducible refine (w_there _ (by omega) (by omega) _ _ _ (by first | assumption | exact NB.drew (by assumption))).mono ?_) | (with_reducible refine (w_what _ (by omega) (by omega) _ _ _ (by first | assumption | exact NB.drew (by assumption))).mono ?_) | (with_reducible refine (w_rots _ (by omega) (by omega) _ _ _ (by first | assumption | exact NB.drew (by assumption))).mono ?_) | (with_reducible refine (w_brs _ (by omega) (by omega) _ _ _ (by first | assumption | exact NB.drew (by assumption))).mono ?_) | (with_reducible refine (w_blk _ (by omega) (by omega) _ _ _ (by first | assumption | exact NB.drew (by assumption))).mono ?_) | (with_reducible refine (w_ends _ (by omega) (by omega) _ _ _ (by first | assumption | exact NB.drew (by assumption))).mono ?_) | (with_reducible refine (w_sa _ (by omega) (by omega) _ _ _ (by first | assumption | exact NB.drew (by assumption))).mono ?_) | (with_reducible refine (w_ims _ (by omega) (by omega) _ _ _ (by first | assumption | exact NB.drew (by assumption))).mono ?_)); rintro e w1 ⟨a1, rfl, ha1, hz1, k1⟩; (try (obtain ⟨c10, c11, c12, c13, c14⟩ := k1.c5))) | (go_at_call 13; (with_reducible refine (one_any _ (by omega) (by omega) _ _ _ (by first | assumption | exact NB.drew (by assumption))).mono ?_); rintro e w2 ⟨a2, rfl, ha2, hz2, k2⟩; (try (obtain ⟨c20, c21, c22, c23, c24⟩ := k2.c5))))
    all_goals first
      | (exfalso; (try simp only [ByteArray.size_append, size_mk, List.length_cons, List.length_nil] at *); omega)
      | (go_ret; exact ⟨_, rfl, by simp [lowL, wd, t_l0, *] <;> (intros; omega), by (try simp only [ByteArray.size_append, size_mk, List.length_cons, List.length_nil]); omega, _, by assumption⟩)
set_option maxRecDepth 100000 in
set_option maxHeartbeats 4000000 in
theorem low_1 (x y p q : Int) (hy : 0 ≤ y ∧ y < 8) (hp : 0 ≤ p ∧ p < 4) (hq : 0 ≤ q ∧ q < 2) : HeldS 29 #[.agg #[.int .i64 x, .int .i64 y, .int .i64 1, .int .i64 p, .int .i64 q]] (lowL y 1 p q) 40 := heldS' fun W hW => by
  have k0 := (NB.start hW).alloc #[.int .i64 x, .int .i64 y, .int .i64 1, .int .i64 p, .int .i64 q] 30
  rcases (by omega : q = 0 ∨ q = 1) with rfl | rfl
  all_goals
    go_enter Tryz.func29, Tryz.ntmps29
    go_wp2_with (first | (go_at_call 32; (first | (with_reducible refine (w_ones _ (by omega) (by omega) _ _ _ (by first | assumption | exact NB.drew (by assumption))).mono ?_) | (with_reducible refine (w_pairs _ (by omega) (by omega) _ _ _ (by first | assumption | exact NB.drew (by assumption))).mono ?_) | (with_reducible refine (w_pushed _ (by omega) (by omega) _ _ _ (by first | assumption | exact NB.drew (by assumption))).mono ?_) | (with_reducible refine (w_conds _ (by omega) (by omega) _ _ _ (by first | assumption | exact NB.drew (by assumption))).mono ?_) | (with_reducible refine (w_turns _ (by omega) (by omega) _ _ _ (by first | assumption | exact NB.drew (by assumption))).mono ?_) | (with_reducible refine (w_there _ (by omega) (by omega) _ _ _ (by first | assumption | exact NB.drew (by assumption))).mono ?_) | (with_reducible refine (w_what _ (by omega) (by omega) _ _ _ (by first | assumption | exact NB.drew (by assumption))).mono ?_) | (with_reducible refine (w_rots _ (by omega) (by omega) _ _ _ (by first | assumption | exact NB.drew (by assumption))).mono ?_) | (with_reducible refine (w_brs _ (by omega) (by omega) _ _ _ (by first | assumption | exact NB.drew (by assumption))).mono ?_) | (with_reducible refine (w_blk _ (by omega) (by omega) _ _ _ (by first | assumption | exact NB.drew (by assumption))).mono ?_) | (with_reducible refine (w_ends _ (by omega) (by omega) _ _ _ (by first | assumption | exact NB.drew (by assumption))).mono ?_) | (with_reducible refine (w_sa _ (by omega) (by omega) _ _ _ (by first | assumption | exact NB.drew (by assumption))).mono ?_) | (with_reducible refine (w_ims _ (by omega) (by omega) _ _ _ (by first | assumption | exact NB.drew (by assumption))).mono ?_)); rintro e w1 ⟨a1, rfl, ha1, hz1, k1⟩; (try (obtain ⟨c10, c11, c12, c13, c14⟩ := k1.c5))) | (go_at_call 13; (with_reducible refine (one_any _ (by omega) (by omega) _ _ _ (by first | assumption | exact NB.drew (by assumption))).mono ?_); rintro e w2 ⟨a2, rfl, ha2, hz2, k2⟩; (try (obtain ⟨c20, c21, c22, c23, c24⟩ := k2.c5))))
    all_goals first
      | (exfalso; (try simp only [ByteArray.size_append, size_mk, List.length_cons, List.length_nil] at *); omega)
      | (go_ret; exact ⟨_, rfl, by simp [lowL, wd, t_l0, *] <;> (intros; omega), by (try simp only [ByteArray.size_append, size_mk, List.length_cons, List.length_nil]); omega, _, by assumption⟩)
set_option maxRecDepth 100000 in
set_option maxHeartbeats 4000000 in
theorem low_2 (x y p q : Int) (hy : 0 ≤ y ∧ y < 8) (hp : 0 ≤ p ∧ p < 4) (hq : 0 ≤ q ∧ q < 2) : HeldS 29 #[.agg #[.int .i64 x, .int .i64 y, .int .i64 2, .int .i64 p, .int .i64 q]] (lowL y 2 p q) 40 := heldS' fun W hW => by
  have k0 := (NB.start hW).alloc #[.int .i64 x, .int .i64 y, .int .i64 2, .int .i64 p, .int .i64 q] 30
  rcases (by omega : q = 0 ∨ q = 1) with rfl | rfl
  all_goals
    go_enter Tryz.func29, Tryz.ntmps29
    go_wp2_with (first | (go_at_call 32; (first | (with_reducible refine (w_ones _ (by omega) (by omega) _ _ _ (by first | assumption | exact NB.drew (by assumption))).mono ?_) | (with_reducible refine (w_pairs _ (by omega) (by omega) _ _ _ (by first | assumption | exact NB.drew (by assumption))).mono ?_) | (with_reducible refine (w_pushed _ (by omega) (by omega) _ _ _ (by first | assumption | exact NB.drew (by assumption))).mono ?_) | (with_reducible refine (w_conds _ (by omega) (by omega) _ _ _ (by first | assumption | exact NB.drew (by assumption))).mono ?_) | (with_reducible refine (w_turns _ (by omega) (by omega) _ _ _ (by first | assumption | exact NB.drew (by assumption))).mono ?_) | (with_reducible refine (w_there _ (by omega) (by omega) _ _ _ (by first | assumption | exact NB.drew (by assumption))).mono ?_) | (with_reducible refine (w_what _ (by omega) (by omega) _ _ _ (by first | assumption | exact NB.drew (by assumption))).mono ?_) | (with_reducible refine (w_rots _ (by omega) (by omega) _ _ _ (by first | assumption | exact NB.drew (by assumption))).mono ?_) | (with_reducible refine (w_brs _ (by omega) (by omega) _ _ _ (by first | assumption | exact NB.drew (by assumption))).mono ?_) | (with_reducible refine (w_blk _ (by omega) (by omega) _ _ _ (by first | assumption | exact NB.drew (by assumption))).mono ?_) | (with_reducible refine (w_ends _ (by omega) (by omega) _ _ _ (by first | assumption | exact NB.drew (by assumption))).mono ?_) | (with_reducible refine (w_sa _ (by omega) (by omega) _ _ _ (by first | assumption | exact NB.drew (by assumption))).mono ?_) | (with_reducible refine (w_ims _ (by omega) (by omega) _ _ _ (by first | assumption | exact NB.drew (by assumption))).mono ?_)); rintro e w1 ⟨a1, rfl, ha1, hz1, k1⟩; (try (obtain ⟨c10, c11, c12, c13, c14⟩ := k1.c5))) | (go_at_call 13; (with_reducible refine (one_any _ (by omega) (by omega) _ _ _ (by first | assumption | exact NB.drew (by assumption))).mono ?_); rintro e w2 ⟨a2, rfl, ha2, hz2, k2⟩; (try (obtain ⟨c20, c21, c22, c23, c24⟩ := k2.c5))))
    all_goals first
      | (exfalso; (try simp only [ByteArray.size_append, size_mk, List.length_cons, List.length_nil] at *); omega)
      | (go_ret; exact ⟨_, rfl, by simp [lowL, wd, t_l0, *] <;> (intros; omega), by (try simp only [ByteArray.size_append, size_mk, List.length_cons, List.length_nil]); omega, _, by assumption⟩)
set_option maxRecDepth 100000 in
set_option maxHeartbeats 4000000 in
theorem low_3 (x y p q : Int) (hy : 0 ≤ y ∧ y < 8) (hp : 0 ≤ p ∧ p < 4) (hq : 0 ≤ q ∧ q < 2) : HeldS 29 #[.agg #[.int .i64 x, .int .i64 y, .int .i64 3, .int .i64 p, .int .i64 q]] (lowL y 3 p q) 40 := heldS' fun W hW => by
  have k0 := (NB.start hW).alloc #[.int .i64 x, .int .i64 y, .int .i64 3, .int .i64 p, .int .i64 q] 30
  rcases (by omega : q = 0 ∨ q = 1) with rfl | rfl
  all_goals
    go_enter Tryz.func29, Tryz.ntmps29
    go_wp2_with (first | (go_at_call 32; (first | (with_reducible refine (w_ones _ (by omega) (by omega) _ _ _ (by first | assumption | exact NB.drew (by assumption))).mono ?_) | (with_reducible refine (w_pairs _ (by omega) (by omega) _ _ _ (by first | assumption | exact NB.drew (by assumption))).mono ?_) | (with_reducible refine (w_pushed _ (by omega) (by omega) _ _ _ (by first | assumption | exact NB.drew (by assumption))).mono ?_) | (with_reducible refine (w_conds _ (by omega) (by omega) _ _ _ (by first | assumption | exact NB.drew (by assumption))).mono ?_) | (with_reducible refine (w_turns _ (by omega) (by omega) _ _ _ (by first | assumption | exact NB.drew (by assumption))).mono ?_) | (with_reducible refine (w_there _ (by omega) (by omega) _ _ _ (by first | assumption | exact NB.drew (by assumption))).mono ?_) | (with_reducible refine (w_what _ (by omega) (by omega) _ _ _ (by first | assumption | exact NB.drew (by assumption))).mono ?_) | (with_reducible refine (w_rots _ (by omega) (by omega) _ _ _ (by first | assumption | exact NB.drew (by assumption))).mono ?_) | (with_reducible refine (w_brs _ (by omega) (by omega) _ _ _ (by first | assumption | exact NB.drew (by assumption))).mono ?_) | (with_reducible refine (w_blk _ (by omega) (by omega) _ _ _ (by first | assumption | exact NB.drew (by assumption))).mono ?_) | (with_reducible refine (w_ends _ (by omega) (by omega) _ _ _ (by first | assumption | exact NB.drew (by assumption))).mono ?_) | (with_reducible refine (w_sa _ (by omega) (by omega) _ _ _ (by first | assumption | exact NB.drew (by assumption))).mono ?_) | (with_reducible refine (w_ims _ (by omega) (by omega) _ _ _ (by first | assumption | exact NB.drew (by assumption))).mono ?_)); rintro e w1 ⟨a1, rfl, ha1, hz1, k1⟩; (try (obtain ⟨c10, c11, c12, c13, c14⟩ := k1.c5))) | (go_at_call 13; (with_reducible refine (one_any _ (by omega) (by omega) _ _ _ (by first | assumption | exact NB.drew (by assumption))).mono ?_); rintro e w2 ⟨a2, rfl, ha2, hz2, k2⟩; (try (obtain ⟨c20, c21, c22, c23, c24⟩ := k2.c5))))
    all_goals first
      | (exfalso; (try simp only [ByteArray.size_append, size_mk, List.length_cons, List.length_nil] at *); omega)
      | (go_ret; exact ⟨_, rfl, by simp [lowL, wd, t_l0, *] <;> (intros; omega), by (try simp only [ByteArray.size_append, size_mk, List.length_cons, List.length_nil]); omega, _, by assumption⟩)
set_option maxRecDepth 100000 in
set_option maxHeartbeats 4000000 in
theorem low_4 (x y p q : Int) (hy : 0 ≤ y ∧ y < 8) (hp : 0 ≤ p ∧ p < 4) (hq : 0 ≤ q ∧ q < 2) : HeldS 29 #[.agg #[.int .i64 x, .int .i64 y, .int .i64 4, .int .i64 p, .int .i64 q]] (lowL y 4 p q) 40 := heldS' fun W hW => by
  have k0 := (NB.start hW).alloc #[.int .i64 x, .int .i64 y, .int .i64 4, .int .i64 p, .int .i64 q] 30
  skip
  all_goals
    go_enter Tryz.func29, Tryz.ntmps29
    go_wp2_with (first | (go_at_call 32; (first | (with_reducible refine (w_ones _ (by omega) (by omega) _ _ _ (by first | assumption | exact NB.drew (by assumption))).mono ?_) | (with_reducible refine (w_pairs _ (by omega) (by omega) _ _ _ (by first | assumption | exact NB.drew (by assumption))).mono ?_) | (with_reducible refine (w_pushed _ (by omega) (by omega) _ _ _ (by first | assumption | exact NB.drew (by assumption))).mono ?_) | (with_reducible refine (w_conds _ (by omega) (by omega) _ _ _ (by first | assumption | exact NB.drew (by assumption))).mono ?_) | (with_reducible refine (w_turns _ (by omega) (by omega) _ _ _ (by first | assumption | exact NB.drew (by assumption))).mono ?_) | (with_reducible refine (w_there _ (by omega) (by omega) _ _ _ (by first | assumption | exact NB.drew (by assumption))).mono ?_) | (with_reducible refine (w_what _ (by omega) (by omega) _ _ _ (by first | assumption | exact NB.drew (by assumption))).mono ?_) | (with_reducible refine (w_rots _ (by omega) (by omega) _ _ _ (by first | assumption | exact NB.drew (by assumption))).mono ?_) | (with_reducible refine (w_brs _ (by omega) (by omega) _ _ _ (by first | assumption | exact NB.drew (by assumption))).mono ?_) | (with_reducible refine (w_blk _ (by omega) (by omega) _ _ _ (by first | assumption | exact NB.drew (by assumption))).mono ?_) | (with_reducible refine (w_ends _ (by omega) (by omega) _ _ _ (by first | assumption | exact NB.drew (by assumption))).mono ?_) | (with_reducible refine (w_sa _ (by omega) (by omega) _ _ _ (by first | assumption | exact NB.drew (by assumption))).mono ?_) | (with_reducible refine (w_ims _ (by omega) (by omega) _ _ _ (by first | assumption | exact NB.drew (by assumption))).mono ?_)); rintro e w1 ⟨a1, rfl, ha1, hz1, k1⟩; (try (obtain ⟨c10, c11, c12, c13, c14⟩ := k1.c5))) | (go_at_call 13; (with_reducible refine (one_any _ (by omega) (by omega) _ _ _ (by first | assumption | exact NB.drew (by assumption))).mono ?_); rintro e w2 ⟨a2, rfl, ha2, hz2, k2⟩; (try (obtain ⟨c20, c21, c22, c23, c24⟩ := k2.c5))))
    all_goals first
      | (exfalso; (try simp only [ByteArray.size_append, size_mk, List.length_cons, List.length_nil] at *); omega)
      | (go_ret; exact ⟨_, rfl, by simp [lowL, wd, t_l0, *] <;> (intros; omega), by (try simp only [ByteArray.size_append, size_mk, List.length_cons, List.length_nil]); omega, _, by assumption⟩)
set_option maxRecDepth 100000 in
set_option maxHeartbeats 4000000 in
theorem low_5 (x y p q : Int) (hy : 0 ≤ y ∧ y < 8) (hp : 0 ≤ p ∧ p < 4) (hq : 0 ≤ q ∧ q < 2) : HeldS 29 #[.agg #[.int .i64 x, .int .i64 y, .int .i64 5, .int .i64 p, .int .i64 q]] (lowL y 5 p q) 40 := heldS' fun W hW => by
  have k0 := (NB.start hW).alloc #[.int .i64 x, .int .i64 y, .int .i64 5, .int .i64 p, .int .i64 q] 30
  skip
  all_goals
    go_enter Tryz.func29, Tryz.ntmps29
    go_wp2_with (first | (go_at_call 32; (first | (with_reducible refine (w_ones _ (by omega) (by omega) _ _ _ (by first | assumption | exact NB.drew (by assumption))).mono ?_) | (with_reducible refine (w_pairs _ (by omega) (by omega) _ _ _ (by first | assumption | exact NB.drew (by assumption))).mono ?_) | (with_reducible refine (w_pushed _ (by omega) (by omega) _ _ _ (by first | assumption | exact NB.drew (by assumption))).mono ?_) | (with_reducible refine (w_conds _ (by omega) (by omega) _ _ _ (by first | assumption | exact NB.drew (by assumption))).mono ?_) | (with_reducible refine (w_turns _ (by omega) (by omega) _ _ _ (by first | assumption | exact NB.drew (by assumption))).mono ?_) | (with_reducible refine (w_there _ (by omega) (by omega) _ _ _ (by first | assumption | exact NB.drew (by assumption))).mono ?_) | (with_reducible refine (w_what _ (by omega) (by omega) _ _ _ (by first | assumption | exact NB.drew (by assumption))).mono ?_) | (with_reducible refine (w_rots _ (by omega) (by omega) _ _ _ (by first | assumption | exact NB.drew (by assumption))).mono ?_) | (with_reducible refine (w_brs _ (by omega) (by omega) _ _ _ (by first | assumption | exact NB.drew (by assumption))).mono ?_) | (with_reducible refine (w_blk _ (by omega) (by omega) _ _ _ (by first | assumption | exact NB.drew (by assumption))).mono ?_) | (with_reducible refine (w_ends _ (by omega) (by omega) _ _ _ (by first | assumption | exact NB.drew (by assumption))).mono ?_) | (with_reducible refine (w_sa _ (by omega) (by omega) _ _ _ (by first | assumption | exact NB.drew (by assumption))).mono ?_) | (with_reducible refine (w_ims _ (by omega) (by omega) _ _ _ (by first | assumption | exact NB.drew (by assumption))).mono ?_)); rintro e w1 ⟨a1, rfl, ha1, hz1, k1⟩; (try (obtain ⟨c10, c11, c12, c13, c14⟩ := k1.c5))) | (go_at_call 13; (with_reducible refine (one_any _ (by omega) (by omega) _ _ _ (by first | assumption | exact NB.drew (by assumption))).mono ?_); rintro e w2 ⟨a2, rfl, ha2, hz2, k2⟩; (try (obtain ⟨c20, c21, c22, c23, c24⟩ := k2.c5))))
    all_goals first
      | (exfalso; (try simp only [ByteArray.size_append, size_mk, List.length_cons, List.length_nil] at *); omega)
      | (go_ret; exact ⟨_, rfl, by simp [lowL, wd, t_l0, *] <;> (intros; omega), by (try simp only [ByteArray.size_append, size_mk, List.length_cons, List.length_nil]); omega, _, by assumption⟩)
set_option maxRecDepth 100000 in
set_option maxHeartbeats 4000000 in
theorem low_6 (x y p q : Int) (hy : 0 ≤ y ∧ y < 8) (hp : 0 ≤ p ∧ p < 4) (hq : 0 ≤ q ∧ q < 2) : HeldS 29 #[.agg #[.int .i64 x, .int .i64 y, .int .i64 6, .int .i64 p, .int .i64 q]] (lowL y 6 p q) 40 := heldS' fun W hW => by
  have k0 := (NB.start hW).alloc #[.int .i64 x, .int .i64 y, .int .i64 6, .int .i64 p, .int .i64 q] 30
  skip
  all_goals
    go_enter Tryz.func29, Tryz.ntmps29
    go_wp2_with (first | (go_at_call 32; (first | (with_reducible refine (w_ones _ (by omega) (by omega) _ _ _ (by first | assumption | exact NB.drew (by assumption))).mono ?_) | (with_reducible refine (w_pairs _ (by omega) (by omega) _ _ _ (by first | assumption | exact NB.drew (by assumption))).mono ?_) | (with_reducible refine (w_pushed _ (by omega) (by omega) _ _ _ (by first | assumption | exact NB.drew (by assumption))).mono ?_) | (with_reducible refine (w_conds _ (by omega) (by omega) _ _ _ (by first | assumption | exact NB.drew (by assumption))).mono ?_) | (with_reducible refine (w_turns _ (by omega) (by omega) _ _ _ (by first | assumption | exact NB.drew (by assumption))).mono ?_) | (with_reducible refine (w_there _ (by omega) (by omega) _ _ _ (by first | assumption | exact NB.drew (by assumption))).mono ?_) | (with_reducible refine (w_what _ (by omega) (by omega) _ _ _ (by first | assumption | exact NB.drew (by assumption))).mono ?_) | (with_reducible refine (w_rots _ (by omega) (by omega) _ _ _ (by first | assumption | exact NB.drew (by assumption))).mono ?_) | (with_reducible refine (w_brs _ (by omega) (by omega) _ _ _ (by first | assumption | exact NB.drew (by assumption))).mono ?_) | (with_reducible refine (w_blk _ (by omega) (by omega) _ _ _ (by first | assumption | exact NB.drew (by assumption))).mono ?_) | (with_reducible refine (w_ends _ (by omega) (by omega) _ _ _ (by first | assumption | exact NB.drew (by assumption))).mono ?_) | (with_reducible refine (w_sa _ (by omega) (by omega) _ _ _ (by first | assumption | exact NB.drew (by assumption))).mono ?_) | (with_reducible refine (w_ims _ (by omega) (by omega) _ _ _ (by first | assumption | exact NB.drew (by assumption))).mono ?_)); rintro e w1 ⟨a1, rfl, ha1, hz1, k1⟩; (try (obtain ⟨c10, c11, c12, c13, c14⟩ := k1.c5))) | (go_at_call 13; (with_reducible refine (one_any _ (by omega) (by omega) _ _ _ (by first | assumption | exact NB.drew (by assumption))).mono ?_); rintro e w2 ⟨a2, rfl, ha2, hz2, k2⟩; (try (obtain ⟨c20, c21, c22, c23, c24⟩ := k2.c5))))
    all_goals first
      | (exfalso; (try simp only [ByteArray.size_append, size_mk, List.length_cons, List.length_nil] at *); omega)
      | (go_ret; exact ⟨_, rfl, by simp [lowL, wd, t_l0, *] <;> (intros; omega), by (try simp only [ByteArray.size_append, size_mk, List.length_cons, List.length_nil]); omega, _, by assumption⟩)
set_option maxRecDepth 100000 in
set_option maxHeartbeats 4000000 in
theorem low_7 (x y p q : Int) (hy : 0 ≤ y ∧ y < 8) (hp : 0 ≤ p ∧ p < 4) (hq : 0 ≤ q ∧ q < 2) : HeldS 29 #[.agg #[.int .i64 x, .int .i64 y, .int .i64 7, .int .i64 p, .int .i64 q]] (lowL y 7 p q) 40 := heldS' fun W hW => by
  have k0 := (NB.start hW).alloc #[.int .i64 x, .int .i64 y, .int .i64 7, .int .i64 p, .int .i64 q] 30
  skip
  all_goals
    go_enter Tryz.func29, Tryz.ntmps29
    go_wp2_with (first | (go_at_call 32; (first | (with_reducible refine (w_ones _ (by omega) (by omega) _ _ _ (by first | assumption | exact NB.drew (by assumption))).mono ?_) | (with_reducible refine (w_pairs _ (by omega) (by omega) _ _ _ (by first | assumption | exact NB.drew (by assumption))).mono ?_) | (with_reducible refine (w_pushed _ (by omega) (by omega) _ _ _ (by first | assumption | exact NB.drew (by assumption))).mono ?_) | (with_reducible refine (w_conds _ (by omega) (by omega) _ _ _ (by first | assumption | exact NB.drew (by assumption))).mono ?_) | (with_reducible refine (w_turns _ (by omega) (by omega) _ _ _ (by first | assumption | exact NB.drew (by assumption))).mono ?_) | (with_reducible refine (w_there _ (by omega) (by omega) _ _ _ (by first | assumption | exact NB.drew (by assumption))).mono ?_) | (with_reducible refine (w_what _ (by omega) (by omega) _ _ _ (by first | assumption | exact NB.drew (by assumption))).mono ?_) | (with_reducible refine (w_rots _ (by omega) (by omega) _ _ _ (by first | assumption | exact NB.drew (by assumption))).mono ?_) | (with_reducible refine (w_brs _ (by omega) (by omega) _ _ _ (by first | assumption | exact NB.drew (by assumption))).mono ?_) | (with_reducible refine (w_blk _ (by omega) (by omega) _ _ _ (by first | assumption | exact NB.drew (by assumption))).mono ?_) | (with_reducible refine (w_ends _ (by omega) (by omega) _ _ _ (by first | assumption | exact NB.drew (by assumption))).mono ?_) | (with_reducible refine (w_sa _ (by omega) (by omega) _ _ _ (by first | assumption | exact NB.drew (by assumption))).mono ?_) | (with_reducible refine (w_ims _ (by omega) (by omega) _ _ _ (by first | assumption | exact NB.drew (by assumption))).mono ?_)); rintro e w1 ⟨a1, rfl, ha1, hz1, k1⟩; (try (obtain ⟨c10, c11, c12, c13, c14⟩ := k1.c5))) | (go_at_call 13; (with_reducible refine (one_any _ (by omega) (by omega) _ _ _ (by first | assumption | exact NB.drew (by assumption))).mono ?_); rintro e w2 ⟨a2, rfl, ha2, hz2, k2⟩; (try (obtain ⟨c20, c21, c22, c23, c24⟩ := k2.c5))))
    all_goals first
      | (exfalso; (try simp only [ByteArray.size_append, size_mk, List.length_cons, List.length_nil] at *); omega)
      | (go_ret; exact ⟨_, rfl, by simp [lowL, wd, t_l0, *] <;> (intros; omega), by (try simp only [ByteArray.size_append, size_mk, List.length_cons, List.length_nil]); omega, _, by assumption⟩)
theorem low_any (x y z p q : Int) (hy : 0 ≤ y ∧ y < 8) (hz : 0 ≤ z ∧ z < 8) (hp : 0 ≤ p ∧ p < 4) (hq : 0 ≤ q ∧ q < 2) : HeldS 29 #[.agg #[.int .i64 x, .int .i64 y, .int .i64 z, .int .i64 p, .int .i64 q]] (lowL y z p q) 40 := by
  rcases (by omega : z = 0 ∨ z = 1 ∨ z = 2 ∨ z = 3 ∨ z = 4 ∨ z = 5 ∨ z = 6 ∨ z = 7) with rfl | rfl | rfl | rfl | rfl | rfl | rfl | rfl
  · exact low_0 x y p q hy hp hq
  · exact low_1 x y p q hy hp hq
  · exact low_2 x y p q hy hp hq
  · exact low_3 x y p q hy hp hq
  · exact low_4 x y p q hy hp hq
  · exact low_5 x y p q hy hp hq
  · exact low_6 x y p q hy hp hq
  · exact low_7 x y p q hy hp hq
end Nm
end Go.Proofs.YtnhgmdfmhmkpgaaGreatDoor
