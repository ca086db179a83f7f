/- What instructions are called (layer 11): Pattern. No conditions but those stated. -/
import Derived.Test.YtnhgmdfmhmkpgaaGreatDoorNm6
import Derived.Test.YtnhgmdfmhmkpgaaGreatDoorNm4e
import Derived.Test.YtnhgmdfmhmkpgaaGreatDoorNmC
import Derived.RegionTactic
import Derived.LoopTactic
import Derived.Deep.RegionHeld3
import Derived.Deep.DeepCutAuto
import Derived.Lib.Hide
namespace Go.Proofs.YtnhgmdfmhmkpgaaGreatDoor
open Go.RowKit
open Kit
set_option linter.unusedSimpArgs false
set_option linter.unusedVariables false
namespace Nm
attribute [local simp] ix2_0 ix2_1 ix4_0 ix4_1 ix4_2 ix4_3 ix8_0 ix8_1 ix8_2 ix8_3 ix8_4 ix8_5 ix8_6 ix8_7 wrp0 wrp1 wrp2 wrp3 wrp4 wrp5 wrp6 wrp7 wrp8 wrp9
def plO (o : Nat) : Str := plainL (xO o) (yO o) (zO o) (pO o) (qO o)
def patL (pg : Int) (o : Nat) : Str :=
  if pg = 0 then plO o else if pg = 1 then bitsL (xO o) (yO o) (wd t_ones (zO o)) else if pg = 2 then extendedL (xO o) (yO o) (zO o) (pO o) (qO o) else
  if pg = 3 then indexL (plO o) [73, 88] else if pg = 4 then indexL (plO o) [73, 89] else
  if pg = 5 ∨ pg = 6 then (if xO o = 1 ∨ zO o = 6 then bitsL (xO o) (yO o) ([40] ++ ((if pg = 5 then [73, 88] else [73, 89]) ++ [43, 100, 41])) else bitsL (xO o) (yO o) ([40] ++ ((if pg = 5 then [73, 88] else [73, 89]) ++ [43, 100, 41])) ++ ([44] ++ wd t_ones (zO o))) else []
set_option maxRecDepth 100000 in
set_option maxHeartbeats 4000000 in
theorem pat_0 (pg : Int) (o : Nat) (ho : o < 256)  : HeldS 6 #[.int .i64 0, .int .u8 (o : Nat)] (patL 0 o) 5000 := heldS' fun W hW => by
  have hx : 0 ≤ xO o ∧ xO o < 4 := by unfold xO; omega
  have hy : 0 ≤ yO o ∧ yO o < 8 := by unfold yO; omega
  have hz : 0 ≤ zO o ∧ zO o < 8 := by unfold zO; omega
  have hp : 0 ≤ pO o ∧ pO o < 4 := by unfold pO; omega
  have hq : 0 ≤ qO o ∧ qO o < 2 := by unfold qO; omega
  go_enter Tryz.func6, Tryz.ntmps6
  go_upto_region 2 with (go_at_call 10; with_reducible refine (cut_any o ho _ _ _ (NB.start hW)).mono ?_; rintro e w1 ⟨rfl, k1⟩)
  have k2 := k1.alloc #[.int .i64 (xO o), .int .i64 (yO o), .int .i64 (zO o), .int .i64 (pO o), .int .i64 (qO o)] 30
  obtain ⟨c0, c1, c2, c3, c4⟩ := k2.c5
  generalize w1.alloc (.cells #[.int .i64 (xO o), .int .i64 (yO o), .int .i64 (zO o), .int .i64 (pO o), .int .i64 (qO o)] 30) = W2 at *
  generalize w1.heap.size = gb at *
  have hR : patL 0 o = patL 0 o := rfl
  conv at hR => rhs; unfold patL plO
  have HR := Lib.hid hR
  clear hR k1
  generalize xO o = x at *
  generalize yO o = y at *
  generalize zO o = z at *
  generalize pO o = p at *
  generalize qO o = q at *
  go_wp2_with (go_at_call 11; (with_reducible refine (plain_any _ _ _ _ _ hx hy hz hp hq _ _ _ (by first | assumption | exact NB.drew (by assumption))).mono ?_); rintro e w3 ⟨a3, rfl, ha3, hz3, k3⟩; (obtain ⟨c30, c31, c32, c33, c34⟩ := k3.c5))
  all_goals first
    | (exfalso; (try simp only [ByteArray.size_append, size_mk, List.length_cons, List.length_nil] at *); omega)
    | (go_ret; exact ⟨_, rfl, by rw [HR.out]; simp [*], by (try simp only [ByteArray.size_append, size_mk, List.length_cons, List.length_nil]); omega, _, by assumption⟩)
set_option maxRecDepth 100000 in
set_option maxHeartbeats 4000000 in
theorem pat_2 (pg : Int) (o : Nat) (ho : o < 256)  : HeldS 6 #[.int .i64 2, .int .u8 (o : Nat)] (patL 2 o) 5000 := heldS' fun W hW => by
  have hx : 0 ≤ xO o ∧ xO o < 4 := by unfold xO; omega
  have hy : 0 ≤ yO o ∧ yO o < 8 := by unfold yO; omega
  have hz : 0 ≤ zO o ∧ zO o < 8 := by unfold zO; omega
  have hp : 0 ≤ pO o ∧ pO o < 4 := by unfold pO; omega
  have hq : 0 ≤ qO o ∧ qO o < 2 := by unfold qO; omega
  go_enter Tryz.func6, Tryz.ntmps6
  go_upto_region 2 with (go_at_call 10; with_reducible refine (cut_any o ho _ _ _ (NB.start hW)).mono ?_; rintro e w1 ⟨rfl, k1⟩)
  have k2 := k1.alloc #[.int .i64 (xO o), .int .i64 (yO o), .int .i64 (zO o), .int .i64 (pO o), .int .i64 (qO o)] 30
  obtain ⟨c0, c1, c2, c3, c4⟩ := k2.c5
  generalize w1.alloc (.cells #[.int .i64 (xO o), .int .i64 (yO o), .int .i64 (zO o), .int .i64 (pO o), .int .i64 (qO o)] 30) = W2 at *
  generalize w1.heap.size = gb at *
  have hR : patL 2 o = patL 2 o := rfl
  conv at hR => rhs; unfold patL plO
  have HR := Lib.hid hR
  clear hR k1
  generalize xO o = x at *
  generalize yO o = y at *
  generalize zO o = z at *
  generalize pO o = p at *
  generalize qO o = q at *
  go_wp2_with (go_at_call 14; (with_reducible refine (extended_any _ _ _ _ _ hx hy hz hp hq _ _ _ (by first | assumption | exact NB.drew (by assumption))).mono ?_); rintro e w3 ⟨a3, rfl, ha3, hz3, k3⟩; (obtain ⟨c30, c31, c32, c33, c34⟩ := k3.c5))
  all_goals first
    | (exfalso; (try simp only [ByteArray.size_append, size_mk, List.length_cons, List.length_nil] at *); omega)
    | (go_ret; exact ⟨_, rfl, by rw [HR.out]; simp [*], by (try simp only [ByteArray.size_append, size_mk, List.length_cons, List.length_nil]); omega, _, by assumption⟩)
set_option maxRecDepth 100000 in
set_option maxHeartbeats 4000000 in
theorem pat_3 (pg : Int) (o : Nat) (ho : o < 256)  : HeldS 6 #[.int .i64 3, .int .u8 (o : Nat)] (patL 3 o) 5000 := heldS' fun W hW => by
  have hx : 0 ≤ xO o ∧ xO o < 4 := by unfold xO; omega
  have hy : 0 ≤ yO o ∧ yO o < 8 := by unfold yO; omega
  have hz : 0 ≤ zO o ∧ zO o < 8 := by unfold zO; omega
  have hp : 0 ≤ pO o ∧ pO o < 4 := by unfold pO; omega
  have hq : 0 ≤ qO o ∧ qO o < 2 := by unfold qO; omega
  go_enter Tryz.func6, Tryz.ntmps6
  go_upto_region 2 with (go_at_call 10; with_reducible refine (cut_any o ho _ _ _ (NB.start hW)).mono ?_; rintro e w1 ⟨rfl, k1⟩)
  have k2 := k1.alloc #[.int .i64 (xO o), .int .i64 (yO o), .int .i64 (zO o), .int .i64 (pO o), .int .i64 (qO o)] 30
  obtain ⟨c0, c1, c2, c3, c4⟩ := k2.c5
  generalize w1.alloc (.cells #[.int .i64 (xO o), .int .i64 (yO o), .int .i64 (zO o), .int .i64 (pO o), .int .i64 (qO o)] 30) = W2 at *
  generalize w1.heap.size = gb at *
  have hR : patL 3 o = patL 3 o := rfl
  conv at hR => rhs; unfold patL plO
  have HR := Lib.hid hR
  clear hR k1
  generalize xO o = x at *
  generalize yO o = y at *
  generalize zO o = z at *
  generalize pO o = p at *
  generalize qO o = q at *
  go_wp2_with (go_at_call 15; (with_reducible refine (index_any _ _ _ _ _ hx hy hz hp hq _ (by decide) _ _ _ (by first | assumption | exact NB.drew (by assumption))).mono ?_); rintro e w3 ⟨a3, rfl, ha3, hz3, k3⟩; (obtain ⟨c30, c31, c32, c33, c34⟩ := k3.c5))
  all_goals first
    | (exfalso; (try simp only [ByteArray.size_append, size_mk, List.length_cons, List.length_nil] at *); omega)
    | (go_ret; exact ⟨_, rfl, by rw [HR.out]; simp [*], by (try simp only [ByteArray.size_append, size_mk, List.length_cons, List.length_nil]); omega, _, by assumption⟩)
set_option maxRecDepth 100000 in
set_option maxHeartbeats 4000000 in
theorem pat_4 (pg : Int) (o : Nat) (ho : o < 256)  : HeldS 6 #[.int .i64 4, .int .u8 (o : Nat)] (patL 4 o) 5000 := heldS' fun W hW => by
  have hx : 0 ≤ xO o ∧ xO o < 4 := by unfold xO; omega
  have hy : 0 ≤ yO o ∧ yO o < 8 := by unfold yO; omega
  have hz : 0 ≤ zO o ∧ zO o < 8 := by unfold zO; omega
  have hp : 0 ≤ pO o ∧ pO o < 4 := by unfold pO; omega
  have hq : 0 ≤ qO o ∧ qO o < 2 := by unfold qO; omega
  go_enter Tryz.func6, Tryz.ntmps6
  go_upto_region 2 with (go_at_call 10; with_reducible refine (cut_any o ho _ _ _ (NB.start hW)).mono ?_; rintro e w1 ⟨rfl, k1⟩)
  have k2 := k1.alloc #[.int .i64 (xO o), .int .i64 (yO o), .int .i64 (zO o), .int .i64 (pO o), .int .i64 (qO o)] 30
  obtain ⟨c0, c1, c2, c3, c4⟩ := k2.c5
  generalize w1.alloc (.cells #[.int .i64 (xO o), .int .i64 (yO o), .int .i64 (zO o), .int .i64 (pO o), .int .i64 (qO o)] 30) = W2 at *
  generalize w1.heap.size = gb at *
  have hR : patL 4 o = patL 4 o := rfl
  conv at hR => rhs; unfold patL plO
  have HR := Lib.hid hR
  clear hR k1
  generalize xO o = x at *
  generalize yO o = y at *
  generalize zO o = z at *
  generalize pO o = p at *
  generalize qO o = q at *
  go_wp2_with (go_at_call 15; (with_reducible refine (index_any _ _ _ _ _ hx hy hz hp hq _ (by decide) _ _ _ (by first | assumption | exact NB.drew (by assumption))).mono ?_); rintro e w3 ⟨a3, rfl, ha3, hz3, k3⟩; (obtain ⟨c30, c31, c32, c33, c34⟩ := k3.c5))
  all_goals first
    | (exfalso; (try simp only [ByteArray.size_append, size_mk, List.length_cons, List.length_nil] at *); omega)
    | (go_ret; exact ⟨_, rfl, by rw [HR.out]; simp [*], by (try simp only [ByteArray.size_append, size_mk, List.length_cons, List.length_nil]); omega, _, by assumption⟩)
set_option maxRecDepth 100000 in
set_option maxHeartbeats 4000000 in
theorem pat_1 (pg : Int) (o : Nat) (ho : o < 256)  : HeldS 6 #[.int .i64 1, .int .u8 (o : Nat)] (patL 1 o) 5000 := heldS' fun W hW => by
  have hx : 0 ≤ xO o ∧ xO o < 4 := by unfold xO; omega
  have hy : 0 ≤ yO o ∧ yO o < 8 := by unfold yO; omega
  have hz : 0 ≤ zO o ∧ zO o < 8 := by unfold zO; omega
  have hp : 0 ≤ pO o ∧ pO o < 4 := by unfold pO; omega
  have hq : 0 ≤ qO o ∧ qO o < 2 := by unfold qO; omega
  go_enter Tryz.func6, Tryz.ntmps6
  go_upto_region 2 with (go_at_call 10; with_reducible refine (cut_any o ho _ _ _ (NB.start hW)).mono ?_; rintro e w1 ⟨rfl, k1⟩)
  have k2 := k1.alloc #[.int .i64 (xO o), .int .i64 (yO o), .int .i64 (zO o), .int .i64 (pO o), .int .i64 (qO o)] 30
  obtain ⟨c0, c1, c2, c3, c4⟩ := k2.c5
  generalize w1.alloc (.cells #[.int .i64 (xO o), .int .i64 (yO o), .int .i64 (zO o), .int .i64 (pO o), .int .i64 (qO o)] 30) = W2 at *
  generalize w1.heap.size = gb at *
  have hR : patL 1 o = patL 1 o := rfl
  conv at hR => rhs; unfold patL plO
  have HR := Lib.hid hR
  clear hR k1
  generalize xO o = x at *
  generalize yO o = y at *
  generalize zO o = z at *
  generalize pO o = p at *
  generalize qO o = q at *
  go_upto_region 6 with fail
  go_region_with (first | (go_at_call 13; (with_reducible refine (one_any _ (by omega) (by omega) _ _ _ (by first | assumption | exact NB.drew (by assumption))).mono ?_); rintro e w3 ⟨a3, rfl, ha3, hz3, k3⟩; (obtain ⟨c30, c31, c32, c33, c34⟩ := k3.c5)) | (go_at_call 12; (with_reducible refine (bits_any _ _ _ _ _ hx hy _ 8 (by assumption) (by omega) _ _ _ (by first | assumption | exact NB.drew (by assumption))).mono ?_); rintro e w4 ⟨a4, rfl, ha4, hz4, k4⟩; (obtain ⟨c40, c41, c42, c43, c44⟩ := k4.c5)))
  all_goals go_wp2_with fail
  all_goals first
    | (exfalso; (try simp only [ByteArray.size_append, size_mk, List.length_cons, List.length_nil] at *); omega)
    | (go_ret; exact ⟨_, rfl, by rw [HR.out]; simp [*], by (try simp only [ByteArray.size_append, size_mk, List.length_cons, List.length_nil]); omega, _, by assumption⟩)
set_option maxRecDepth 100000 in
set_option maxHeartbeats 4000000 in
theorem pat_5a (pg : Int) (o : Nat) (ho : o < 256) (h1 : xO o = 1) : HeldS 6 #[.int .i64 5, .int .u8 (o : Nat)] (patL 5 o) 5000 := heldS' fun W hW => by
  have hx : 0 ≤ xO o ∧ xO o < 4 := by unfold xO; omega
  have hy : 0 ≤ yO o ∧ yO o < 8 := by unfold yO; omega
  have hz : 0 ≤ zO o ∧ zO o < 8 := by unfold zO; omega
  have hp : 0 ≤ pO o ∧ pO o < 4 := by unfold pO; omega
  have hq : 0 ≤ qO o ∧ qO o < 2 := by unfold qO; omega
  have u1 : (xO o == 1) = true := beq_iff_eq.2 h1
  have H1 := Lib.hid h1
  clear h1
  go_enter Tryz.func6, Tryz.ntmps6
  go_upto_region 2 with (go_at_call 10; with_reducible refine (cut_any o ho _ _ _ (NB.start hW)).mono ?_; rintro e w1 ⟨rfl, k1⟩)
  have k2 := k1.alloc #[.int .i64 (xO o), .int .i64 (yO o), .int .i64 (zO o), .int .i64 (pO o), .int .i64 (qO o)] 30
  obtain ⟨c0, c1, c2, c3, c4⟩ := k2.c5
  generalize w1.alloc (.cells #[.int .i64 (xO o), .int .i64 (yO o), .int .i64 (zO o), .int .i64 (pO o), .int .i64 (qO o)] 30) = W2 at *
  generalize w1.heap.size = gb at *
  have hR : patL 5 o = patL 5 o := rfl
  conv at hR => rhs; unfold patL plO
  have HR := Lib.hid hR
  clear hR k1
  generalize xO o = x at *
  generalize yO o = y at *
  generalize zO o = z at *
  generalize pO o = p at *
  generalize qO o = q at *
  go_upto_region 15 with fail
  go_region_with (go_at_call 12; (with_reducible refine (bits_any _ _ _ _ _ hx hy _ 12 (by decide) (by omega) _ _ _ (by first | assumption | exact NB.drew (by assumption))).mono ?_); rintro e w3 ⟨a3, rfl, ha3, hz3, k3⟩; (obtain ⟨c30, c31, c32, c33, c34⟩ := k3.c5))
  all_goals go_wp2_with (go_at_call 13; (with_reducible refine (one_any _ (by omega) (by omega) _ _ _ (by first | assumption | exact NB.drew (by assumption))).mono ?_); rintro e w4 ⟨a4, rfl, ha4, hz4, k4⟩; (obtain ⟨c40, c41, c42, c43, c44⟩ := k4.c5))
  all_goals first
    | (exfalso; (try simp only [ByteArray.size_append, size_mk, List.length_cons, List.length_nil] at *); omega)
    | (go_ret; exact ⟨_, rfl, by have h1 := H1.out; rw [HR.out]; simp [*], by (try simp only [ByteArray.size_append, size_mk, List.length_cons, List.length_nil]); omega, _, by assumption⟩)
set_option maxRecDepth 100000 in
set_option maxHeartbeats 4000000 in
theorem pat_5b (pg : Int) (o : Nat) (ho : o < 256) (h1 : ¬ xO o = 1) (h2 : zO o = 6) : HeldS 6 #[.int .i64 5, .int .u8 (o : Nat)] (patL 5 o) 5000 := heldS' fun W hW => by
  have hx : 0 ≤ xO o ∧ xO o < 4 := by unfold xO; omega
  have hy : 0 ≤ yO o ∧ yO o < 8 := by unfold yO; omega
  have hz : 0 ≤ zO o ∧ zO o < 8 := by unfold zO; omega
  have hp : 0 ≤ pO o ∧ pO o < 4 := by unfold pO; omega
  have hq : 0 ≤ qO o ∧ qO o < 2 := by unfold qO; omega
  have u1 : (xO o == 1) = false := beq_eq_false_iff_ne.2 h1
  have u2 : (zO o == 6) = true := beq_iff_eq.2 h2
  have H1 := Lib.hid h1
  clear h1
  have H2 := Lib.hid h2
  clear h2
  go_enter Tryz.func6, Tryz.ntmps6
  go_upto_region 2 with (go_at_call 10; with_reducible refine (cut_any o ho _ _ _ (NB.start hW)).mono ?_; rintro e w1 ⟨rfl, k1⟩)
  have k2 := k1.alloc #[.int .i64 (xO o), .int .i64 (yO o), .int .i64 (zO o), .int .i64 (pO o), .int .i64 (qO o)] 30
  obtain ⟨c0, c1, c2, c3, c4⟩ := k2.c5
  generalize w1.alloc (.cells #[.int .i64 (xO o), .int .i64 (yO o), .int .i64 (zO o), .int .i64 (pO o), .int .i64 (qO o)] 30) = W2 at *
  generalize w1.heap.size = gb at *
  have hR : patL 5 o = patL 5 o := rfl
  conv at hR => rhs; unfold patL plO
  have HR := Lib.hid hR
  clear hR k1
  generalize xO o = x at *
  generalize yO o = y at *
  generalize zO o = z at *
  generalize pO o = p at *
  generalize qO o = q at *
  go_upto_region 15 with fail
  go_region_with (go_at_call 12; (with_reducible refine (bits_any _ _ _ _ _ hx hy _ 12 (by decide) (by omega) _ _ _ (by first | assumption | exact NB.drew (by assumption))).mono ?_); rintro e w3 ⟨a3, rfl, ha3, hz3, k3⟩; (obtain ⟨c30, c31, c32, c33, c34⟩ := k3.c5))
  all_goals go_wp2_with (go_at_call 13; (with_reducible refine (one_any _ (by omega) (by omega) _ _ _ (by first | assumption | exact NB.drew (by assumption))).mono ?_); rintro e w4 ⟨a4, rfl, ha4, hz4, k4⟩; (obtain ⟨c40, c41, c42, c43, c44⟩ := k4.c5))
  all_goals first
    | (exfalso; (try simp only [ByteArray.size_append, size_mk, List.length_cons, List.length_nil] at *); omega)
    | (go_ret; exact ⟨_, rfl, by have h1 := H1.out; have h2 := H2.out; rw [HR.out]; simp [*], by (try simp only [ByteArray.size_append, size_mk, List.length_cons, List.length_nil]); omega, _, by assumption⟩)
set_option maxRecDepth 100000 in
set_option maxHeartbeats 4000000 in
theorem pat_5c (pg : Int) (o : Nat) (ho : o < 256) (h1 : ¬ xO o = 1) (h2 : ¬ zO o = 6) : HeldS 6 #[.int .i64 5, .int .u8 (o : Nat)] (patL 5 o) 5000 := heldS' fun W hW => by
  have hx : 0 ≤ xO o ∧ xO o < 4 := by unfold xO; omega
  have hy : 0 ≤ yO o ∧ yO o < 8 := by unfold yO; omega
  have hz : 0 ≤ zO o ∧ zO o < 8 := by unfold zO; omega
  have hp : 0 ≤ pO o ∧ pO o < 4 := by unfold pO; omega
  have hq : 0 ≤ qO o ∧ qO o < 2 := by unfold qO; omega
  have u1 : (xO o == 1) = false := beq_eq_false_iff_ne.2 h1
  have u2 : (zO o == 6) = false := beq_eq_false_iff_ne.2 h2
  have H1 := Lib.hid h1
  clear h1
  have H2 := Lib.hid h2
  clear h2
  go_enter Tryz.func6, Tryz.ntmps6
  go_upto_region 2 with (go_at_call 10; with_reducible refine (cut_any o ho _ _ _ (NB.start hW)).mono ?_; rintro e w1 ⟨rfl, k1⟩)
  have k2 := k1.alloc #[.int .i64 (xO o), .int .i64 (yO o), .int .i64 (zO o), .int .i64 (pO o), .int .i64 (qO o)] 30
  obtain ⟨c0, c1, c2, c3, c4⟩ := k2.c5
  generalize w1.alloc (.cells #[.int .i64 (xO o), .int .i64 (yO o), .int .i64 (zO o), .int .i64 (pO o), .int .i64 (qO o)] 30) = W2 at *
  generalize w1.heap.size = gb at *
  have hR : patL 5 o = patL 5 o := rfl
  conv at hR => rhs; unfold patL plO
  have HR := Lib.hid hR
  clear hR k1
  generalize xO o = x at *
  generalize yO o = y at *
  generalize zO o = z at *
  generalize pO o = p at *
  generalize qO o = q at *
  go_upto_region 15 with fail
  go_region_with (go_at_call 12; (with_reducible refine (bits_any _ _ _ _ _ hx hy _ 12 (by decide) (by omega) _ _ _ (by first | assumption | exact NB.drew (by assumption))).mono ?_); rintro e w3 ⟨a3, rfl, ha3, hz3, k3⟩; (obtain ⟨c30, c31, c32, c33, c34⟩ := k3.c5))
  all_goals go_wp2_with (go_at_call 13; (with_reducible refine (one_any _ (by omega) (by omega) _ _ _ (by first | assumption | exact NB.drew (by assumption))).mono ?_); rintro e w4 ⟨a4, rfl, ha4, hz4, k4⟩; (obtain ⟨c40, c41, c42, c43, c44⟩ := k4.c5))
  all_goals first
    | (exfalso; (try simp only [ByteArray.size_append, size_mk, List.length_cons, List.length_nil] at *); omega)
    | (go_ret; exact ⟨_, rfl, by have h1 := H1.out; have h2 := H2.out; rw [HR.out]; simp [*], by (try simp only [ByteArray.size_append, size_mk, List.length_cons, List.length_nil]); omega, _, by assumption⟩)
set_option maxRecDepth 100000 in
set_option maxHeartbeats 4000000 in
theorem pat_6a (pg : Int) (o : Nat) (ho : o < 256) (h1 : xO o = 1) : HeldS 6 #[.int .i64 6, .int .u8 (o : Nat)] (patL 6 o) 5000 := heldS' fun W hW => by
  have hx : 0 ≤ xO o ∧ xO o < 4 := by unfold xO; omega
  have hy : 0 ≤ yO o ∧ yO o < 8 := by unfold yO; omega
  have hz : 0 ≤ zO o ∧ zO o < 8 := by unfold zO; omega
  have hp : 0 ≤ pO o ∧ pO o < 4 := by unfold pO; omega
  have hq : 0 ≤ qO o ∧ qO o < 2 := by unfold qO; omega
  have u1 : (xO o == 1) = true := beq_iff_eq.2 h1
  have H1 := Lib.hid h1
  clear h1
  go_enter Tryz.func6, Tryz.ntmps6
  go_upto_region 2 with (go_at_call 10; with_reducible refine (cut_any o ho _ _ _ (NB.start hW)).mono ?_; rintro e w1 ⟨rfl, k1⟩)
  have k2 := k1.alloc #[.int .i64 (xO o), .int .i64 (yO o), .int .i64 (zO o), .int .i64 (pO o), .int .i64 (qO o)] 30
  obtain ⟨c0, c1, c2, c3, c4⟩ := k2.c5
  generalize w1.alloc (.cells #[.int .i64 (xO o), .int .i64 (yO o), .int .i64 (zO o), .int .i64 (pO o), .int .i64 (qO o)] 30) = W2 at *
  generalize w1.heap.size = gb at *
  have hR : patL 6 o = patL 6 o := rfl
  conv at hR => rhs; unfold patL plO
  have HR := Lib.hid hR
  clear hR k1
  generalize xO o = x at *
  generalize yO o = y at *
  generalize zO o = z at *
  generalize pO o = p at *
  generalize qO o = q at *
  go_upto_region 15 with fail
  go_region_with (go_at_call 12; (with_reducible refine (bits_any _ _ _ _ _ hx hy _ 12 (by decide) (by omega) _ _ _ (by first | assumption | exact NB.drew (by assumption))).mono ?_); rintro e w3 ⟨a3, rfl, ha3, hz3, k3⟩; (obtain ⟨c30, c31, c32, c33, c34⟩ := k3.c5))
  all_goals go_wp2_with (go_at_call 13; (with_reducible refine (one_any _ (by omega) (by omega) _ _ _ (by first | assumption | exact NB.drew (by assumption))).mono ?_); rintro e w4 ⟨a4, rfl, ha4, hz4, k4⟩; (obtain ⟨c40, c41, c42, c43, c44⟩ := k4.c5))
  all_goals first
    | (exfalso; (try simp only [ByteArray.size_append, size_mk, List.length_cons, List.length_nil] at *); omega)
    | (go_ret; exact ⟨_, rfl, by have h1 := H1.out; rw [HR.out]; simp [*], by (try simp only [ByteArray.size_append, size_mk, List.length_cons, List.length_nil]); omega, _, by assumption⟩)
set_option maxRecDepth 100000 in
set_option maxHeartbeats 4000000 in
theorem pat_6b (pg : Int) (o : Nat) (ho : o < 256) (h1 : ¬ xO o = 1) (h2 : zO o = 6) : HeldS 6 #[.int .i64 6, .int .u8 (o : Nat)] (patL 6 o) 5000 := heldS' fun W hW => by
  have hx : 0 ≤ xO o ∧ xO o < 4 := by unfold xO; omega
  have hy : 0 ≤ yO o ∧ yO o < 8 := by unfold yO; omega
  have hz : 0 ≤ zO o ∧ zO o < 8 := by unfold zO; omega
  have hp : 0 ≤ pO o ∧ pO o < 4 := by unfold pO; omega
  have hq : 0 ≤ qO o ∧ qO o < 2 := by unfold qO; omega
  have u1 : (xO o == 1) = false := beq_eq_false_iff_ne.2 h1
  have u2 : (zO o == 6) = true := beq_iff_eq.2 h2
  have H1 := Lib.hid h1
  clear h1
  have H2 := Lib.hid h2
  clear h2
  go_enter Tryz.func6, Tryz.ntmps6
  go_upto_region 2 with (go_at_call 10; with_reducible refine (cut_any o ho _ _ _ (NB.start hW)).mono ?_; rintro e w1 ⟨rfl, k1⟩)
  have k2 := k1.alloc #[.int .i64 (xO o), .int .i64 (yO o), .int .i64 (zO o), .int .i64 (pO o), .int .i64 (qO o)] 30
  obtain ⟨c0, c1, c2, c3, c4⟩ := k2.c5
  generalize w1.alloc (.cells #[.int .i64 (xO o), .int .i64 (yO o), .int .i64 (zO o), .int .i64 (pO o), .int .i64 (qO o)] 30) = W2 at *
  generalize w1.heap.size = gb at *
  have hR : patL 6 o = patL 6 o := rfl
  conv at hR => rhs; unfold patL plO
  have HR := Lib.hid hR
  clear hR k1
  generalize xO o = x at *
  generalize yO o = y at *
  generalize zO o = z at *
  generalize pO o = p at *
  generalize qO o = q at *
  go_upto_region 15 with fail
  go_region_with (go_at_call 12; (with_reducible refine (bits_any _ _ _ _ _ hx hy _ 12 (by decide) (by omega) _ _ _ (by first | assumption | exact NB.drew (by assumption))).mono ?_); rintro e w3 ⟨a3, rfl, ha3, hz3, k3⟩; (obtain ⟨c30, c31, c32, c33, c34⟩ := k3.c5))
  all_goals go_wp2_with (go_at_call 13; (with_reducible refine (one_any _ (by omega) (by omega) _ _ _ (by first | assumption | exact NB.drew (by assumption))).mono ?_); rintro e w4 ⟨a4, rfl, ha4, hz4, k4⟩; (obtain ⟨c40, c41, c42, c43, c44⟩ := k4.c5))
  all_goals first
    | (exfalso; (try simp only [ByteArray.size_append, size_mk, List.length_cons, List.length_nil] at *); omega)
    | (go_ret; exact ⟨_, rfl, by have h1 := H1.out; have h2 := H2.out; rw [HR.out]; simp [*], by (try simp only [ByteArray.size_append, size_mk, List.length_cons, List.length_nil]); omega, _, by assumption⟩)
set_option maxRecDepth 100000 in
set_option maxHeartbeats 4000000 in
theorem pat_6c (pg : Int) (o : Nat) (ho : o < 256) (h1 : ¬ xO o = 1) (h2 : ¬ zO o = 6) : HeldS 6 #[.int .i64 6, .int .u8 (o : Nat)] (patL 6 o) 5000 := heldS' fun W hW => by
  have hx : 0 ≤ xO o ∧ xO o < 4 := by unfold xO; omega
  have hy : 0 ≤ yO o ∧ yO o < 8 := by unfold yO; omega
  have hz : 0 ≤ zO o ∧ zO o < 8 := by unfold zO; omega
  have hp : 0 ≤ pO o ∧ pO o < 4 := by unfold pO; omega
  have hq : 0 ≤ qO o ∧ qO o < 2 := by unfold qO; omega
  have u1 : (xO o == 1) = false := beq_eq_false_iff_ne.2 h1
  have u2 : (zO o == 6) = false := beq_eq_false_iff_ne.2 h2
  have H1 := Lib.hid h1
  clear h1
  have H2 := Lib.hid h2
  clear h2
  go_enter Tryz.func6, Tryz.ntmps6
  go_upto_region 2 with (go_at_call 10; with_reducible refine (cut_any o ho _ _ _ (NB.start hW)).mono ?_; rintro e w1 ⟨rfl, k1⟩)
  have k2 := k1.alloc #[.int .i64 (xO o), .int .i64 (yO o), .int .i64 (zO o), .int .i64 (pO o), .int .i64 (qO o)] 30
  obtain ⟨c0, c1, c2, c3, c4⟩ := k2.c5
  generalize w1.alloc (.cells #[.int .i64 (xO o), .int .i64 (yO o), .int .i64 (zO o), .int .i64 (pO o), .int .i64 (qO o)] 30) = W2 at *
  generalize w1.heap.size = gb at *
  have hR : patL 6 o = patL 6 o := rfl
  conv at hR => rhs; unfold patL plO
  have HR := Lib.hid hR
  clear hR k1
  generalize xO o = x at *
  generalize yO o = y at *
  generalize zO o = z at *
  generalize pO o = p at *
  generalize qO o = q at *
  go_upto_region 15 with fail
  go_region_with (go_at_call 12; (with_reducible refine (bits_any _ _ _ _ _ hx hy _ 12 (by decide) (by omega) _ _ _ (by first | assumption | exact NB.drew (by assumption))).mono ?_); rintro e w3 ⟨a3, rfl, ha3, hz3, k3⟩; (obtain ⟨c30, c31, c32, c33, c34⟩ := k3.c5))
  all_goals go_wp2_with (go_at_call 13; (with_reducible refine (one_any _ (by omega) (by omega) _ _ _ (by first | assumption | exact NB.drew (by assumption))).mono ?_); rintro e w4 ⟨a4, rfl, ha4, hz4, k4⟩; (obtain ⟨c40, c41, c42, c43, c44⟩ := k4.c5))
  all_goals first
    | (exfalso; (try simp only [ByteArray.size_append, size_mk, List.length_cons, List.length_nil] at *); omega)
    | (go_ret; exact ⟨_, rfl, by have h1 := H1.out; have h2 := H2.out; rw [HR.out]; simp [*], by (try simp only [ByteArray.size_append, size_mk, List.length_cons, List.length_nil]); omega, _, by assumption⟩)
set_option maxRecDepth 100000 in
set_option maxHeartbeats 4000000 in
theorem pat_n (pg : Int) (o : Nat) (ho : o < 256) (hn : ¬ (0 ≤ pg ∧ pg ≤ 6)) : HeldS 6 #[.int .i64 pg, .int .u8 (o : Nat)] (patL pg o) 5000 := heldS' fun W hW => by
  have hx : 0 ≤ xO o ∧ xO o < 4 := by unfold xO; omega
  have hy : 0 ≤ yO o ∧ yO o < 8 := by unfold yO; omega
  have hz : 0 ≤ zO o ∧ zO o < 8 := by unfold zO; omega
  have hp : 0 ≤ pO o ∧ pO o < 4 := by unfold pO; omega
  have hq : 0 ≤ qO o ∧ qO o < 2 := by unfold qO; omega
  have u0 : (pg == 0) = false := beq_eq_false_iff_ne.2 (by omega)
  have u1 : (pg == 1) = false := beq_eq_false_iff_ne.2 (by omega)
  have u2 : (pg == 2) = false := beq_eq_false_iff_ne.2 (by omega)
  have u3 : (pg == 3) = false := beq_eq_false_iff_ne.2 (by omega)
  have u4 : (pg == 4) = false := beq_eq_false_iff_ne.2 (by omega)
  have u5 : (pg == 5) = false := beq_eq_false_iff_ne.2 (by omega)
  have u6 : (pg == 6) = false := beq_eq_false_iff_ne.2 (by omega)
  go_enter Tryz.func6, Tryz.ntmps6
  go_upto_region 2 with (go_at_call 10; with_reducible refine (cut_any o ho _ _ _ (NB.start hW)).mono ?_; rintro e w1 ⟨rfl, k1⟩)
  have k2 := k1.alloc #[.int .i64 (xO o), .int .i64 (yO o), .int .i64 (zO o), .int .i64 (pO o), .int .i64 (qO o)] 30
  obtain ⟨c0, c1, c2, c3, c4⟩ := k2.c5
  generalize w1.alloc (.cells #[.int .i64 (xO o), .int .i64 (yO o), .int .i64 (zO o), .int .i64 (pO o), .int .i64 (qO o)] 30) = W2 at *
  generalize w1.heap.size = gb at *
  have hR : patL pg o = patL pg o := rfl
  conv at hR => rhs; unfold patL plO
  have HR := Lib.hid hR
  clear hR k1
  generalize xO o = x at *
  generalize yO o = y at *
  generalize zO o = z at *
  generalize pO o = p at *
  generalize qO o = q at *
  go_wp2_with fail
  all_goals first
    | (exfalso; (try simp only [ByteArray.size_append, size_mk, List.length_cons, List.length_nil] at *); omega)
    | (go_ret; exact ⟨_, rfl, by rw [HR.out]; rw [if_neg (by omega), if_neg (by omega), if_neg (by omega), if_neg (by omega), if_neg (by omega), if_neg (by omega)]; try rfl, by (try simp only [ByteArray.size_append, size_mk, List.length_cons, List.length_nil]); omega, _, by assumption⟩)
theorem pattern_any (pg : Int) (o : Nat) (ho : o < 256) : HeldS 6 #[.int .i64 pg, .int .u8 (o : Nat)] (patL pg o) 5000 := by
  by_cases hn : 0 ≤ pg ∧ pg ≤ 6
  · rcases (by omega : pg = 0 ∨ pg = 1 ∨ pg = 2 ∨ pg = 3 ∨ pg = 4 ∨ pg = 5 ∨ pg = 6) with rfl | rfl | rfl | rfl | rfl | rfl | rfl
    · exact pat_0 0 o ho
    · exact pat_1 0 o ho
    · exact pat_2 0 o ho
    · exact pat_3 0 o ho
    · exact pat_4 0 o ho
    · by_cases h1 : xO o = 1
      · exact pat_5a 0 o ho h1
      · by_cases h2 : zO o = 6
        · exact pat_5b 0 o ho h1 h2
        · exact pat_5c 0 o ho h1 h2
    · by_cases h1 : xO o = 1
      · exact pat_6a 0 o ho h1
      · by_cases h2 : zO o = 6
        · exact pat_6b 0 o ho h1 h2
        · exact pat_6c 0 o ho h1 h2
  · exact pat_n pg o ho hn
end Nm
end Go.Proofs.YtnhgmdfmhmkpgaaGreatDoor
