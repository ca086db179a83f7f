/- What instructions are called (layer 11): the reference's Pattern. No conditions but those stated. -/
import Derived.Test.YtnhgmdfmhmkpgaaGreatDoorNmR7
import Derived.Test.YtnhgmdfmhmkpgaaGreatDoorNmR4
import Derived.Test.YtnhgmdfmhmkpgaaGreatDoorNmR3
import Derived.RegionTactic
import Derived.LoopTactic
import Derived.Deep.RegionHeld3
import Derived.Deep.DeepCutAuto
import Derived.Lib.Hide
namespace Go.Proofs.YtnhgmdfmhmkpgaaGreatDoor
open Go.RowKit
open Kit
set_option linter.unusedSimpArgs false
set_option linter.unusedVariables false
namespace Nm
attribute [local simp] ix2_0 ix2_1
/-- What stands between the brackets. -/
def rix (pg : Int) : Str := if pg = 5 then [73, 88] else [73, 89]
def rpatL (pg : Int) (o : Nat) : Str :=
  if pg = 0 then rplainL o else if pg = 1 then rbitsL o (t_ones.getD (o % 8) []) else if pg = 2 then rextL o else
  if pg = 3 then rindexL (rplainL o) [73, 88] else if pg = 4 then rindexL (rplainL o) [73, 89] else
  if pg = 5 ∨ pg = 6 then (if o / 64 = 1 ∨ o % 8 = 6 then rbitsL o ([40] ++ (rix pg ++ [43, 100, 41])) else rbitsL o ([40] ++ (rix pg ++ [43, 100, 41])) ++ ([44] ++ t_ones.getD (o % 8) [])) else []
set_option maxRecDepth 100000 in
set_option maxHeartbeats 4000000 in
theorem rpat_0 (o : Nat) (ho : o < 256) : HeldS 7 #[.int .i64 0, .int .u8 (o : Nat)] (rpatL 0 o) 5000 := heldS fun W hW => by
  have k0 := NB.start hW
  have hC := rplain_any o ho
  rw [show rpatL 0 o = rplainL o from rfl]
  generalize rplainL o = X at *
  have HC := Lib.hid hC
  clear hC
  go_enter Tryz.func7, Tryz.ntmps7
  go_wp2_with (go_at_call 16; with_reducible refine (HC.out _ _ _ k0).mono ?_; rintro e w1 ⟨a1, rfl, ha1, hz1, k1⟩)
  all_goals first
    | (exfalso; (try simp only [ByteArray.size_append, size_mk, bs_size, List.length_cons, List.length_nil] at *); omega)
    | (go_ret; exact ⟨_, rfl, by simp [*], by (try simp only [ByteArray.size_append, size_mk, bs_size, List.length_cons, List.length_nil]); omega, (by assumption : NB _ _ _).bel⟩)
set_option maxRecDepth 100000 in
set_option maxHeartbeats 4000000 in
theorem rpat_2 (o : Nat) (ho : o < 256) : HeldS 7 #[.int .i64 2, .int .u8 (o : Nat)] (rpatL 2 o) 5000 := heldS fun W hW => by
  have k0 := NB.start hW
  have hC := rext_any o ho
  rw [show rpatL 2 o = rextL o from rfl]
  generalize rextL o = X at *
  have HC := Lib.hid hC
  clear hC
  go_enter Tryz.func7, Tryz.ntmps7
  go_wp2_with (go_at_call 19; with_reducible refine (HC.out _ _ _ k0).mono ?_; rintro e w1 ⟨a1, rfl, ha1, hz1, k1⟩)
  all_goals first
    | (exfalso; (try simp only [ByteArray.size_append, size_mk, bs_size, List.length_cons, List.length_nil] at *); omega)
    | (go_ret; exact ⟨_, rfl, by simp [*], by (try simp only [ByteArray.size_append, size_mk, bs_size, List.length_cons, List.length_nil]); omega, (by assumption : NB _ _ _).bel⟩)
set_option maxRecDepth 100000 in
set_option maxHeartbeats 4000000 in
theorem rpat_3 (o : Nat) (ho : o < 256) : HeldS 7 #[.int .i64 3, .int .u8 (o : Nat)] (rpatL 3 o) 5000 := heldS fun W hW => by
  have k0 := NB.start hW
  have hC := rindexed o ho { data := #[73, 88] } rfl
  rw [show rpatL 3 o = rindexL (rplainL o) [73, 88] from rfl]
  rw [show ({ data := #[73, 88] } : ByteArray).data.toList = [73, 88] from rfl] at hC
  generalize rindexL (rplainL o) [73, 88] = X at *
  have HC := Lib.hid hC
  clear hC
  go_enter Tryz.func7, Tryz.ntmps7
  go_wp2_with (go_at_call 20; with_reducible refine (HC.out _ _ _ k0).mono ?_; rintro e w1 ⟨a1, rfl, ha1, hz1, k1⟩)
  all_goals first
    | (exfalso; (try simp only [ByteArray.size_append, size_mk, bs_size, List.length_cons, List.length_nil] at *); omega)
    | (go_ret; exact ⟨_, rfl, by simp [*], by (try simp only [ByteArray.size_append, size_mk, bs_size, List.length_cons, List.length_nil]); omega, (by assumption : NB _ _ _).bel⟩)
set_option maxRecDepth 100000 in
set_option maxHeartbeats 4000000 in
theorem rpat_4 (o : Nat) (ho : o < 256) : HeldS 7 #[.int .i64 4, .int .u8 (o : Nat)] (rpatL 4 o) 5000 := heldS fun W hW => by
  have k0 := NB.start hW
  have hC := rindexed o ho { data := #[73, 89] } rfl
  rw [show rpatL 4 o = rindexL (rplainL o) [73, 89] from rfl]
  rw [show ({ data := #[73, 89] } : ByteArray).data.toList = [73, 89] from rfl] at hC
  generalize rindexL (rplainL o) [73, 89] = X at *
  have HC := Lib.hid hC
  clear hC
  go_enter Tryz.func7, Tryz.ntmps7
  go_wp2_with (go_at_call 20; with_reducible refine (HC.out _ _ _ k0).mono ?_; rintro e w1 ⟨a1, rfl, ha1, hz1, k1⟩)
  all_goals first
    | (exfalso; (try simp only [ByteArray.size_append, size_mk, bs_size, List.length_cons, List.length_nil] at *); omega)
    | (go_ret; exact ⟨_, rfl, by simp [*], by (try simp only [ByteArray.size_append, size_mk, bs_size, List.length_cons, List.length_nil]); omega, (by assumption : NB _ _ _).bel⟩)
set_option maxRecDepth 100000 in
set_option maxHeartbeats 4000000 in
theorem rpat_1 (o : Nat) (ho : o < 256) : HeldS 7 #[.int .i64 1, .int .u8 (o : Nat)] (rpatL 1 o) 5000 := heldS fun W hW => by
  have k0 := NB.start hW
  obtain ⟨c, hc⟩ : ∃ c, o % 8 = c := ⟨_, rfl⟩
  have c0 : c < 8 := by omega
  have m2 : (0 : Int) ≤ (c : Int) := by omega
  have m3 : (c : Int) < 8 := by omega
  have e2 : Int.tmod (o : Int) 8 = (c : Int) := by rw [Int.tmod_eq_emod_of_nonneg (by omega)]; omega
  have e2' : (o : Int) % 8 = (c : Int) := by omega
  have hy := getD_some (xs := t_ones) (n := 8) rfl c0
  have hl2 := getD_len (xs := t_ones) 8 (by decide +kernel) c
  have hR : rpatL 1 o = rbitsL o (t_ones.getD c []) := by rw [← hc]; rfl
  rw [hR]
  have hC : ∀ s : ByteArray, s.size ≤ 20 → HeldS 17 #[.int .u8 (o : Nat), .string s] (rbitsL o s.data.toList) 40 := fun s hs => rbits_any o ho s hs
  generalize hY : t_ones.getD c [] = Y at *
  have HC := Lib.hid hC
  clear hY hR hc hC
  go_enter Tryz.func7, Tryz.ntmps7
  go_wp2_with (first | (go_at_call 18; (refine (l_ones _ _ _ (by first | assumption | exact NB.drew (by assumption))).mono ?_); rintro e w2 ⟨g2, p2, u2, rfl, k2, l2, q2⟩; (have d2c := (cell_of _ _ c k2.h0).trans (q2 c Y hy))) | (go_at_call 17; (refine (HC.out (bs Y) (by rw [bs_size]; omega) _ _ _ (by first | assumption | exact NB.drew (by assumption))).mono ?_); rintro e w3 ⟨a3, rfl, ha3, hz3, k3⟩))
  all_goals first
    | (exfalso; (try simp only [ByteArray.size_append, size_mk, bs_size, List.length_cons, List.length_nil] at *); omega)
    | (go_ret; exact ⟨_, rfl, by simp [*, bs], by (try simp only [ByteArray.size_append, size_mk, bs_size, List.length_cons, List.length_nil]); omega, (by assumption : NB _ _ _).bel⟩)
set_option maxRecDepth 100000 in
set_option maxHeartbeats 4000000 in
theorem rpat_5a (o : Nat) (ho : o < 256) (h1 : o / 64 = 1) : HeldS 7 #[.int .i64 5, .int .u8 (o : Nat)] (rpatL 5 o) 5000 := heldS fun W hW => by
  have k0 := NB.start hW
  obtain ⟨c, hc⟩ : ∃ c, o % 8 = c := ⟨_, rfl⟩
  have c0 : c < 8 := by omega
  have m2 : (0 : Int) ≤ (c : Int) := by omega
  have m3 : (c : Int) < 8 := by omega
  have e2 : Int.tmod (o : Int) 8 = (c : Int) := by rw [Int.tmod_eq_emod_of_nonneg (by omega)]; omega
  have e2' : (o : Int) % 8 = (c : Int) := by omega
  have hy := getD_some (xs := t_ones) (n := 8) rfl c0
  have hl2 := getD_len (xs := t_ones) 8 (by decide +kernel) c
  obtain ⟨a, ha⟩ : ∃ a, o / 64 = a := ⟨_, rfl⟩
  have e1 : (o : Int) / 64 = (a : Int) := by omega
  have e1' : IntKind.u8.wrap (a : Int) = (a : Int) := w8 a (by omega)
  have u1 : ((a : Int) == 1) = true := beq_iff_eq.2 (by omega)
  have u1b : ((a : Int) != 1) = false := by simp only [bne, u1]; rfl
  have hR : rpatL 5 o = rbitsL o [40, 73, 88, 43, 100, 41] := by unfold rpatL; rw [if_neg (by omega), if_neg (by omega), if_neg (by omega), if_neg (by omega), if_neg (by omega), if_pos (by omega), if_pos (by omega)]; rfl
  rw [hR]
  have hC := rbits_any o ho { data := #[40, 73, 88, 43, 100, 41] } (by decide)
  rw [show ({ data := #[40, 73, 88, 43, 100, 41] } : ByteArray).data.toList = [40, 73, 88, 43, 100, 41] from rfl] at hC
  generalize rbitsL o [40, 73, 88, 43, 100, 41] = R at *
  generalize hY : t_ones.getD c [] = Y at *
  have HC := Lib.hid hC
  clear hY hR hc hC ha h1
  go_enter Tryz.func7, Tryz.ntmps7
  go_upto_region 15 with (go_at_call 17; (refine (HC.out _ _ _ (by first | assumption | exact NB.drew (by assumption))).mono ?_); rintro e w3 ⟨a3, rfl, ha3, hz3, k3⟩)
  all_goals go_wp2_with (go_at_call 18; (refine (l_ones _ _ _ (by first | assumption | exact NB.drew (by assumption))).mono ?_); rintro e w2 ⟨g2, p2, u2, rfl, k2, l2, q2⟩; (have d2c := (cell_of _ _ c k2.h0).trans (q2 c Y hy)))
  all_goals first
    | (exfalso; (try simp only [ByteArray.size_append, size_mk, bs_size, List.length_cons, List.length_nil] at *); omega)
    | (go_ret; exact ⟨_, rfl, by simp [*, bs], by (try simp only [ByteArray.size_append, size_mk, bs_size, List.length_cons, List.length_nil]); omega, (by assumption : NB _ _ _).bel⟩)
set_option maxRecDepth 100000 in
set_option maxHeartbeats 4000000 in
theorem rpat_5b (o : Nat) (ho : o < 256) (h1 : ¬ o / 64 = 1) (h2 : o % 8 = 6) : HeldS 7 #[.int .i64 5, .int .u8 (o : Nat)] (rpatL 5 o) 5000 := heldS fun W hW => by
  have k0 := NB.start hW
  obtain ⟨c, hc⟩ : ∃ c, o % 8 = c := ⟨_, rfl⟩
  have c0 : c < 8 := by omega
  have m2 : (0 : Int) ≤ (c : Int) := by omega
  have m3 : (c : Int) < 8 := by omega
  have e2 : Int.tmod (o : Int) 8 = (c : Int) := by rw [Int.tmod_eq_emod_of_nonneg (by omega)]; omega
  have e2' : (o : Int) % 8 = (c : Int) := by omega
  have hy := getD_some (xs := t_ones) (n := 8) rfl c0
  have hl2 := getD_len (xs := t_ones) 8 (by decide +kernel) c
  obtain ⟨a, ha⟩ : ∃ a, o / 64 = a := ⟨_, rfl⟩
  have e1 : (o : Int) / 64 = (a : Int) := by omega
  have e1' : IntKind.u8.wrap (a : Int) = (a : Int) := w8 a (by omega)
  have u1 : ((a : Int) == 1) = false := beq_eq_false_iff_ne.2 (by omega)
  have u1b : ((a : Int) != 1) = true := by simp only [bne, u1]; rfl
  have u2 : ((c : Int) == 6) = true := beq_iff_eq.2 (by omega)
  have u2b : ((c : Int) != 6) = false := by simp only [bne, u2]; rfl
  have hR : rpatL 5 o = rbitsL o [40, 73, 88, 43, 100, 41] := by unfold rpatL; rw [if_neg (by omega), if_neg (by omega), if_neg (by omega), if_neg (by omega), if_neg (by omega), if_pos (by omega), if_pos (by omega)]; rfl
  rw [hR]
  have hC := rbits_any o ho { data := #[40, 73, 88, 43, 100, 41] } (by decide)
  rw [show ({ data := #[40, 73, 88, 43, 100, 41] } : ByteArray).data.toList = [40, 73, 88, 43, 100, 41] from rfl] at hC
  generalize rbitsL o [40, 73, 88, 43, 100, 41] = R at *
  generalize hY : t_ones.getD c [] = Y at *
  have HC := Lib.hid hC
  clear hY hR hc hC ha h1 h2
  go_enter Tryz.func7, Tryz.ntmps7
  go_upto_region 15 with (go_at_call 17; (refine (HC.out _ _ _ (by first | assumption | exact NB.drew (by assumption))).mono ?_); rintro e w3 ⟨a3, rfl, ha3, hz3, k3⟩)
  all_goals go_wp2_with (go_at_call 18; (refine (l_ones _ _ _ (by first | assumption | exact NB.drew (by assumption))).mono ?_); rintro e w2 ⟨g2, p2, u2, rfl, k2, l2, q2⟩; (have d2c := (cell_of _ _ c k2.h0).trans (q2 c Y hy)))
  all_goals first
    | (exfalso; (try simp only [ByteArray.size_append, size_mk, bs_size, List.length_cons, List.length_nil] at *); omega)
    | (go_ret; exact ⟨_, rfl, by simp [*, bs], by (try simp only [ByteArray.size_append, size_mk, bs_size, List.length_cons, List.length_nil]); omega, (by assumption : NB _ _ _).bel⟩)
set_option maxRecDepth 100000 in
set_option maxHeartbeats 4000000 in
theorem rpat_5c (o : Nat) (ho : o < 256) (h1 : ¬ o / 64 = 1) (h2 : ¬ o % 8 = 6) : HeldS 7 #[.int .i64 5, .int .u8 (o : Nat)] (rpatL 5 o) 5000 := heldS fun W hW => by
  have k0 := NB.start hW
  obtain ⟨c, hc⟩ : ∃ c, o % 8 = c := ⟨_, rfl⟩
  have c0 : c < 8 := by omega
  have m2 : (0 : Int) ≤ (c : Int) := by omega
  have m3 : (c : Int) < 8 := by omega
  have e2 : Int.tmod (o : Int) 8 = (c : Int) := by rw [Int.tmod_eq_emod_of_nonneg (by omega)]; omega
  have e2' : (o : Int) % 8 = (c : Int) := by omega
  have hy := getD_some (xs := t_ones) (n := 8) rfl c0
  have hl2 := getD_len (xs := t_ones) 8 (by decide +kernel) c
  obtain ⟨a, ha⟩ : ∃ a, o / 64 = a := ⟨_, rfl⟩
  have e1 : (o : Int) / 64 = (a : Int) := by omega
  have e1' : IntKind.u8.wrap (a : Int) = (a : Int) := w8 a (by omega)
  have u1 : ((a : Int) == 1) = false := beq_eq_false_iff_ne.2 (by omega)
  have u1b : ((a : Int) != 1) = true := by simp only [bne, u1]; rfl
  have u2 : ((c : Int) == 6) = false := beq_eq_false_iff_ne.2 (by omega)
  have u2b : ((c : Int) != 6) = true := by simp only [bne, u2]; rfl
  have hR : rpatL 5 o = rbitsL o [40, 73, 88, 43, 100, 41] ++ ([44] ++ t_ones.getD c []) := by rw [← hc]; unfold rpatL; rw [if_neg (by omega), if_neg (by omega), if_neg (by omega), if_neg (by omega), if_neg (by omega), if_pos (by omega), if_neg (by omega)]; rfl
  rw [hR]
  have hC := rbits_any o ho { data := #[40, 73, 88, 43, 100, 41] } (by decide)
  rw [show ({ data := #[40, 73, 88, 43, 100, 41] } : ByteArray).data.toList = [40, 73, 88, 43, 100, 41] from rfl] at hC
  generalize rbitsL o [40, 73, 88, 43, 100, 41] = R at *
  generalize hY : t_ones.getD c [] = Y at *
  have HC := Lib.hid hC
  clear hY hR hc hC ha h1 h2
  go_enter Tryz.func7, Tryz.ntmps7
  go_upto_region 15 with (go_at_call 17; (refine (HC.out _ _ _ (by first | assumption | exact NB.drew (by assumption))).mono ?_); rintro e w3 ⟨a3, rfl, ha3, hz3, k3⟩)
  all_goals go_wp2_with (go_at_call 18; (refine (l_ones _ _ _ (by first | assumption | exact NB.drew (by assumption))).mono ?_); rintro e w2 ⟨g2, p2, u2, rfl, k2, l2, q2⟩; (have d2c := (cell_of _ _ c k2.h0).trans (q2 c Y hy)))
  all_goals first
    | (exfalso; (try simp only [ByteArray.size_append, size_mk, bs_size, List.length_cons, List.length_nil] at *); omega)
    | (go_ret; exact ⟨_, rfl, by simp [*, bs], by (try simp only [ByteArray.size_append, size_mk, bs_size, List.length_cons, List.length_nil]); omega, (by assumption : NB _ _ _).bel⟩)
set_option maxRecDepth 100000 in
set_option maxHeartbeats 4000000 in
theorem rpat_6a (o : Nat) (ho : o < 256) (h1 : o / 64 = 1) : HeldS 7 #[.int .i64 6, .int .u8 (o : Nat)] (rpatL 6 o) 5000 := heldS fun W hW => by
  have k0 := NB.start hW
  obtain ⟨c, hc⟩ : ∃ c, o % 8 = c := ⟨_, rfl⟩
  have c0 : c < 8 := by omega
  have m2 : (0 : Int) ≤ (c : Int) := by omega
  have m3 : (c : Int) < 8 := by omega
  have e2 : Int.tmod (o : Int) 8 = (c : Int) := by rw [Int.tmod_eq_emod_of_nonneg (by omega)]; omega
  have e2' : (o : Int) % 8 = (c : Int) := by omega
  have hy := getD_some (xs := t_ones) (n := 8) rfl c0
  have hl2 := getD_len (xs := t_ones) 8 (by decide +kernel) c
  obtain ⟨a, ha⟩ : ∃ a, o / 64 = a := ⟨_, rfl⟩
  have e1 : (o : Int) / 64 = (a : Int) := by omega
  have e1' : IntKind.u8.wrap (a : Int) = (a : Int) := w8 a (by omega)
  have u1 : ((a : Int) == 1) = true := beq_iff_eq.2 (by omega)
  have u1b : ((a : Int) != 1) = false := by simp only [bne, u1]; rfl
  have hR : rpatL 6 o = rbitsL o [40, 73, 89, 43, 100, 41] := by unfold rpatL; rw [if_neg (by omega), if_neg (by omega), if_neg (by omega), if_neg (by omega), if_neg (by omega), if_pos (by omega), if_pos (by omega)]; rfl
  rw [hR]
  have hC := rbits_any o ho { data := #[40, 73, 89, 43, 100, 41] } (by decide)
  rw [show ({ data := #[40, 73, 89, 43, 100, 41] } : ByteArray).data.toList = [40, 73, 89, 43, 100, 41] from rfl] at hC
  generalize rbitsL o [40, 73, 89, 43, 100, 41] = R at *
  generalize hY : t_ones.getD c [] = Y at *
  have HC := Lib.hid hC
  clear hY hR hc hC ha h1
  go_enter Tryz.func7, Tryz.ntmps7
  go_upto_region 15 with (go_at_call 17; (refine (HC.out _ _ _ (by first | assumption | exact NB.drew (by assumption))).mono ?_); rintro e w3 ⟨a3, rfl, ha3, hz3, k3⟩)
  all_goals go_wp2_with (go_at_call 18; (refine (l_ones _ _ _ (by first | assumption | exact NB.drew (by assumption))).mono ?_); rintro e w2 ⟨g2, p2, u2, rfl, k2, l2, q2⟩; (have d2c := (cell_of _ _ c k2.h0).trans (q2 c Y hy)))
  all_goals first
    | (exfalso; (try simp only [ByteArray.size_append, size_mk, bs_size, List.length_cons, List.length_nil] at *); omega)
    | (go_ret; exact ⟨_, rfl, by simp [*, bs], by (try simp only [ByteArray.size_append, size_mk, bs_size, List.length_cons, List.length_nil]); omega, (by assumption : NB _ _ _).bel⟩)
set_option maxRecDepth 100000 in
set_option maxHeartbeats 4000000 in
theorem rpat_6b (o : Nat) (ho : o < 256) (h1 : ¬ o / 64 = 1) (h2 : o % 8 = 6) : HeldS 7 #[.int .i64 6, .int .u8 (o : Nat)] (rpatL 6 o) 5000 := heldS fun W hW => by
  have k0 := NB.start hW
  obtain ⟨c, hc⟩ : ∃ c, o % 8 = c := ⟨_, rfl⟩
  have c0 : c < 8 := by omega
  have m2 : (0 : Int) ≤ (c : Int) := by omega
  have m3 : (c : Int) < 8 := by omega
  have e2 : Int.tmod (o : Int) 8 = (c : Int) := by rw [Int.tmod_eq_emod_of_nonneg (by omega)]; omega
  have e2' : (o : Int) % 8 = (c : Int) := by omega
  have hy := getD_some (xs := t_ones) (n := 8) rfl c0
  have hl2 := getD_len (xs := t_ones) 8 (by decide +kernel) c
  obtain ⟨a, ha⟩ : ∃ a, o / 64 = a := ⟨_, rfl⟩
  have e1 : (o : Int) / 64 = (a : Int) := by omega
  have e1' : IntKind.u8.wrap (a : Int) = (a : Int) := w8 a (by omega)
  have u1 : ((a : Int) == 1) = false := beq_eq_false_iff_ne.2 (by omega)
  have u1b : ((a : Int) != 1) = true := by simp only [bne, u1]; rfl
  have u2 : ((c : Int) == 6) = true := beq_iff_eq.2 (by omega)
  have u2b : ((c : Int) != 6) = false := by simp only [bne, u2]; rfl
  have hR : rpatL 6 o = rbitsL o [40, 73, 89, 43, 100, 41] := by unfold rpatL; rw [if_neg (by omega), if_neg (by omega), if_neg (by omega), if_neg (by omega), if_neg (by omega), if_pos (by omega), if_pos (by omega)]; rfl
  rw [hR]
  have hC := rbits_any o ho { data := #[40, 73, 89, 43, 100, 41] } (by decide)
  rw [show ({ data := #[40, 73, 89, 43, 100, 41] } : ByteArray).data.toList = [40, 73, 89, 43, 100, 41] from rfl] at hC
  generalize rbitsL o [40, 73, 89, 43, 100, 41] = R at *
  generalize hY : t_ones.getD c [] = Y at *
  have HC := Lib.hid hC
  clear hY hR hc hC ha h1 h2
  go_enter Tryz.func7, Tryz.ntmps7
  go_upto_region 15 with (go_at_call 17; (refine (HC.out _ _ _ (by first | assumption | exact NB.drew (by assumption))).mono ?_); rintro e w3 ⟨a3, rfl, ha3, hz3, k3⟩)
  all_goals go_wp2_with (go_at_call 18; (refine (l_ones _ _ _ (by first | assumption | exact NB.drew (by assumption))).mono ?_); rintro e w2 ⟨g2, p2, u2, rfl, k2, l2, q2⟩; (have d2c := (cell_of _ _ c k2.h0).trans (q2 c Y hy)))
  all_goals first
    | (exfalso; (try simp only [ByteArray.size_append, size_mk, bs_size, List.length_cons, List.length_nil] at *); omega)
    | (go_ret; exact ⟨_, rfl, by simp [*, bs], by (try simp only [ByteArray.size_append, size_mk, bs_size, List.length_cons, List.length_nil]); omega, (by assumption : NB _ _ _).bel⟩)
set_option maxRecDepth 100000 in
set_option maxHeartbeats 4000000 in
theorem rpat_6c (o : Nat) (ho : o < 256) (h1 : ¬ o / 64 = 1) (h2 : ¬ o % 8 = 6) : HeldS 7 #[.int .i64 6, .int .u8 (o : Nat)] (rpatL 6 o) 5000 := heldS fun W hW => by
  have k0 := NB.start hW
  obtain ⟨c, hc⟩ : ∃ c, o % 8 = c := ⟨_, rfl⟩
  have c0 : c < 8 := by omega
  have m2 : (0 : Int) ≤ (c : Int) := by omega
  have m3 : (c : Int) < 8 := by omega
  have e2 : Int.tmod (o : Int) 8 = (c : Int) := by rw [Int.tmod_eq_emod_of_nonneg (by omega)]; omega
  have e2' : (o : Int) % 8 = (c : Int) := by omega
  have hy := getD_some (xs := t_ones) (n := 8) rfl c0
  have hl2 := getD_len (xs := t_ones) 8 (by decide +kernel) c
  obtain ⟨a, ha⟩ : ∃ a, o / 64 = a := ⟨_, rfl⟩
  have e1 : (o : Int) / 64 = (a : Int) := by omega
  have e1' : IntKind.u8.wrap (a : Int) = (a : Int) := w8 a (by omega)
  have u1 : ((a : Int) == 1) = false := beq_eq_false_iff_ne.2 (by omega)
  have u1b : ((a : Int) != 1) = true := by simp only [bne, u1]; rfl
  have u2 : ((c : Int) == 6) = false := beq_eq_false_iff_ne.2 (by omega)
  have u2b : ((c : Int) != 6) = true := by simp only [bne, u2]; rfl
  have hR : rpatL 6 o = rbitsL o [40, 73, 89, 43, 100, 41] ++ ([44] ++ t_ones.getD c []) := by rw [← hc]; unfold rpatL; rw [if_neg (by omega), if_neg (by omega), if_neg (by omega), if_neg (by omega), if_neg (by omega), if_pos (by omega), if_neg (by omega)]; rfl
  rw [hR]
  have hC := rbits_any o ho { data := #[40, 73, 89, 43, 100, 41] } (by decide)
  rw [show ({ data := #[40, 73, 89, 43, 100, 41] } : ByteArray).data.toList = [40, 73, 89, 43, 100, 41] from rfl] at hC
  generalize rbitsL o [40, 73, 89, 43, 100, 41] = R at *
  generalize hY : t_ones.getD c [] = Y at *
  have HC := Lib.hid hC
  clear hY hR hc hC ha h1 h2
  go_enter Tryz.func7, Tryz.ntmps7
  go_upto_region 15 with (go_at_call 17; (refine (HC.out _ _ _ (by first | assumption | exact NB.drew (by assumption))).mono ?_); rintro e w3 ⟨a3, rfl, ha3, hz3, k3⟩)
  all_goals go_wp2_with (go_at_call 18; (refine (l_ones _ _ _ (by first | assumption | exact NB.drew (by assumption))).mono ?_); rintro e w2 ⟨g2, p2, u2, rfl, k2, l2, q2⟩; (have d2c := (cell_of _ _ c k2.h0).trans (q2 c Y hy)))
  all_goals first
    | (exfalso; (try simp only [ByteArray.size_append, size_mk, bs_size, List.length_cons, List.length_nil] at *); omega)
    | (go_ret; exact ⟨_, rfl, by simp [*, bs], by (try simp only [ByteArray.size_append, size_mk, bs_size, List.length_cons, List.length_nil]); omega, (by assumption : NB _ _ _).bel⟩)
set_option maxRecDepth 100000 in
set_option maxHeartbeats 4000000 in
theorem rpat_n (pg : Int) (o : Nat) (ho : o < 256) (hn : ¬ (0 ≤ pg ∧ pg ≤ 6)) : HeldS 7 #[.int .i64 pg, .int .u8 (o : Nat)] (rpatL pg o) 5000 := heldS fun W hW => by
  have k0 := NB.start hW
  have u0 : (pg == 0) = false := beq_eq_false_iff_ne.2 (by omega)
  have u1 : (pg == 1) = false := beq_eq_false_iff_ne.2 (by omega)
  have u2 : (pg == 2) = false := beq_eq_false_iff_ne.2 (by omega)
  have u3 : (pg == 3) = false := beq_eq_false_iff_ne.2 (by omega)
  have u4 : (pg == 4) = false := beq_eq_false_iff_ne.2 (by omega)
  have u5 : (pg == 5) = false := beq_eq_false_iff_ne.2 (by omega)
  have u6 : (pg == 6) = false := beq_eq_false_iff_ne.2 (by omega)
  have hR : rpatL pg o = [] := by unfold rpatL; rw [if_neg (by omega), if_neg (by omega), if_neg (by omega), if_neg (by omega), if_neg (by omega), if_neg (by omega)]
  rw [hR]
  go_enter Tryz.func7, Tryz.ntmps7
  go_wp2_with fail
  go_ret
  exact ⟨_, rfl, rfl, by decide, k0.bel⟩
theorem rpat_any (pg : Int) (o : Nat) (ho : o < 256) : HeldS 7 #[.int .i64 pg, .int .u8 (o : Nat)] (rpatL pg o) 5000 := by
  by_cases hn : 0 ≤ pg ∧ pg ≤ 6
  · rcases (by omega : pg = 0 ∨ pg = 1 ∨ pg = 2 ∨ pg = 3 ∨ pg = 4 ∨ pg = 5 ∨ pg = 6) with rfl | rfl | rfl | rfl | rfl | rfl | rfl
    · exact rpat_0 o ho
    · exact rpat_1 o ho
    · exact rpat_2 o ho
    · exact rpat_3 o ho
    · exact rpat_4 o ho
    · by_cases h1 : o / 64 = 1
      · exact rpat_5a o ho h1
      · by_cases h2 : o % 8 = 6
        · exact rpat_5b o ho h1 h2
        · exact rpat_5c o ho h1 h2
    · by_cases h1 : o / 64 = 1
      · exact rpat_6a o ho h1
      · by_cases h2 : o % 8 = 6
        · exact rpat_6b o ho h1 h2
        · exact rpat_6c o ho h1 h2
  · exact rpat_n pg o ho hn
end Nm
end Go.Proofs.YtnhgmdfmhmkpgaaGreatDoor
