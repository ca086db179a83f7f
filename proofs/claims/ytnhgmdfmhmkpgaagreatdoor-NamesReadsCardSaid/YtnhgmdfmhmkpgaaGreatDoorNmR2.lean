/- What instructions are called (layer 11): the reference: plain. No conditions but those stated. -/
import Derived.Test.YtnhgmdfmhmkpgaaGreatDoorNmR1
import Derived.Test.YtnhgmdfmhmkpgaaGreatDoorNm2
import Derived.RegionTactic
import Derived.LoopTactic
import Derived.Deep.RegionHeld3
import Derived.Deep.DeepCutAuto
import Derived.Lib.Hide
namespace Go.Proofs.YtnhgmdfmhmkpgaaGreatDoor
open Go.RowKit
open Kit
set_option linter.unusedSimpArgs false
set_option linter.unusedVariables false
namespace Nm
def rplainL (o : Nat) : Str := if o < 64 then t_first.getD o [] else if o = 118 then [72, 65, 76, 84] else if o < 128 then [76, 68, 32] ++ (t_ones.getD (o / 8 % 8) [] ++ ([44] ++ t_ones.getD (o % 8) [])) else if o < 192 then t_sums.getD (o / 8 % 8) [] ++ t_ones.getD (o % 8) [] else t_last.getD (o - 192) []
def t_sums2 : List Str := t_sums
theorem getD_some {xs : List Str} {n j : Nat} (hn : xs.length = n) (hj : j < n) : xs[j]? = some (xs.getD j []) := by
  subst hn
  rw [List.getD_eq_getElem?_getD, List.getElem?_eq_getElem hj]; rfl
theorem getD_len {xs : List Str} (m : Nat) (h : (xs.all fun x => decide (x.length ≤ m)) = true) (j : Nat) : (xs.getD j []).length ≤ m := by
  rw [List.getD_eq_getElem?_getD]
  cases e : xs[j]? with
  | none => simp
  | some x => exact of_decide_eq_true (List.all_eq_true.1 h x (List.mem_of_getElem? e))
theorem cell_at {w : World} {L : List (Nat × Array Value × TypeId)} {W : World} {g : Nat} {cur : Array Value} {t : TypeId} (k : NB w L W) (hm : (g, cur, t) ∈ L) {j : Nat} {v : Value} (h : cur[j]? = some v) : W.cell? ⟨g, j, none⟩ = some v := (cell_of _ _ j (k.get g cur t hm)).trans h
set_option maxRecDepth 100000 in
set_option maxHeartbeats 4000000 in
theorem rplain_0 (o : Nat) (ho : o < 64) : HeldS 16 #[.int .u8 (o : Nat)] (rplainL o) 40 := heldS fun W hW => by
  have k0 := NB.start hW
  have n0 : (0 : Int) ≤ (o : Int) := by omega
  have n1 : (o : Int) < 64 := by omega
  have n2 : o < 64 := ho
  have hx := getD_some (xs := t_first) (n := 64) rfl ho
  have hl := getD_len (xs := t_first) 20 (by decide +kernel) o
  generalize hX : t_first.getD o [] = X at *
  go_enter Tryz.func16, Tryz.ntmps16
  go_wp2_with (go_at_call 41; (refine (l_first _ _ _ (by first | assumption | exact NB.drew (by assumption))).mono ?_); rintro e w1 ⟨g1, p1, u1, rfl, k1, l1, q1⟩; (have d1 := (cell_of _ _ o k1.h0).trans (q1 o X hx)))
  all_goals first
    | (exfalso; (try simp only [ByteArray.size_append, size_mk, bs_size, List.length_cons, List.length_nil] at *); omega)
    | (go_ret; exact ⟨_, rfl, by simp [bs, rplainL, *] <;> (intros; omega), by (try simp only [ByteArray.size_append, size_mk, bs_size, List.length_cons, List.length_nil]); omega, (by assumption : NB _ _ _).bel⟩)
set_option maxRecDepth 100000 in
set_option maxHeartbeats 4000000 in
theorem rplain_2 (o : Nat) (h1 : 64 ≤ o) (h2 : o < 128) (h3 : o ≠ 118) : HeldS 16 #[.int .u8 (o : Nat)] (rplainL o) 40 := heldS fun W hW => by
  have k0 := NB.start hW
  have f1 : ¬ o < 64 := by omega
  have f1' : decide (o < 64) = false := decide_eq_false f1
  have f2 : ((o : Int) == 118) = false := beq_eq_false_iff_ne.2 (by omega)
  obtain ⟨a, ha⟩ : ∃ a, o / 8 % 8 = a := ⟨_, rfl⟩
  obtain ⟨c, hc⟩ : ∃ c, o % 8 = c := ⟨_, rfl⟩
  have a0 : a < 8 := by omega
  have c0 : c < 8 := by omega
  have m0 : (0 : Int) ≤ (a : Int) := by omega
  have m1 : (a : Int) < 8 := by omega
  have m2 : (0 : Int) ≤ (c : Int) := by omega
  have m3 : (c : Int) < 8 := by omega
  have e1 : Int.tmod (IntKind.u8.wrap ((o : Int) / 8)) 8 = (a : Int) := by rw [show (o : Int) / 8 = ((o / 8 : Nat) : Int) from rfl, w8 (o / 8) (by omega), Int.tmod_eq_emod_of_nonneg (by omega)]; omega
  have e2 : Int.tmod (o : Int) 8 = (c : Int) := by rw [Int.tmod_eq_emod_of_nonneg (by omega)]; omega
  have f3 : o < 128 := h2
  have f3' : (o : Int) < 128 := by omega
  have hx := getD_some (xs := t_ones) (n := 8) rfl a0
  have hy := getD_some (xs := t_ones) (n := 8) rfl c0
  have hl := getD_len (xs := t_ones) 8 (by decide +kernel) a
  have hl2 := getD_len (xs := t_ones) 8 (by decide +kernel) c
  have hR : rplainL o = [76, 68, 32] ++ (t_ones.getD a [] ++ ([44] ++ t_ones.getD c [])) := by rw [← ha, ← hc]; unfold rplainL; rw [if_neg f1, if_neg h3, if_pos h2]
  rw [hR]
  generalize hX : t_ones.getD a [] = X at *
  generalize hY : t_ones.getD c [] = Y at *
  have HX := Lib.hid hX
  clear hX hY hR ha hc h1 h2 h3
  have z1 : ¬ 9223372036854775807 < 3 + (bs X).size := by rw [bs_size]; omega
  have z2 : ¬ 9223372036854775807 < 3 + (bs X).size + 1 := by rw [bs_size]; omega
  have z3 : ¬ 9223372036854775807 < 3 + (bs X).size + 1 + (bs Y).size := by rw [bs_size, bs_size]; omega
  go_enter Tryz.func16, Tryz.ntmps16
  go_upto_region 6 with fail
  go_region_with (first | (go_at_call 18; (refine (l_ones _ _ _ (by first | assumption | exact NB.drew (by assumption))).mono ?_); rintro e w2 ⟨g2, p2, u2, rfl, k2, l2, q2⟩; (have d2a := (cell_of _ _ a k2.h0).trans (q2 a X hx)); (have d2c := (cell_of _ _ c k2.h0).trans (q2 c Y hy)); (have d2o := (cell_of _ _ a k2.h1).trans (q1 a X hx))) | (go_at_call 18; (refine (l_ones _ _ _ (by first | assumption | exact NB.drew (by assumption))).mono ?_); rintro e w1 ⟨g1, p1, u1, rfl, k1, l1, q1⟩; (have d1a := (cell_of _ _ a k1.h0).trans (q1 a X hx)); (have d1c := (cell_of _ _ c k1.h0).trans (q1 c Y hy))))
  all_goals go_wp2_with fail
  all_goals first
    | (exfalso; (try simp only [ByteArray.size_append, size_mk, bs_size, List.length_cons, List.length_nil] at *); omega)
    | (go_ret; exact ⟨_, rfl, by simp [bs, rplainL, *] <;> (intros; omega), by (try simp only [ByteArray.size_append, size_mk, bs_size, List.length_cons, List.length_nil]); omega, (by assumption : NB _ _ _).bel⟩)
set_option maxRecDepth 100000 in
set_option maxHeartbeats 4000000 in
theorem l_sums : HeldL 42 #[.string { data := #[65, 68, 68, 32, 65, 44, 124, 65, 68, 67, 32, 65, 44, 124, 83, 85, 66, 32, 124, 83, 66, 67, 32, 65, 44, 124, 65, 78, 68, 32, 124, 88, 79, 82, 32, 124, 79, 82, 32, 124, 67, 80, 32] }, .int .u8 124] 8 t_sums := split_l { data := #[65, 68, 68, 32, 65, 44, 124, 65, 68, 67, 32, 65, 44, 124, 83, 85, 66, 32, 124, 83, 66, 67, 32, 65, 44, 124, 65, 78, 68, 32, 124, 88, 79, 82, 32, 124, 79, 82, 32, 124, 67, 80, 32] } 124 (by decide) t_sums 8 (by decide +kernel) rfl (by omega)
set_option maxRecDepth 100000 in
set_option maxHeartbeats 4000000 in
theorem rplain_1 : HeldS 16 #[.int .u8 118] (rplainL 118) 40 := heldS fun W hW => by
  have k0 := NB.start hW
  go_enter Tryz.func16, Tryz.ntmps16
  go_wp2_with fail
  all_goals first
    | (exfalso; (try simp only [ByteArray.size_append, size_mk, bs_size, List.length_cons, List.length_nil] at *); omega)
    | (go_ret; exact ⟨_, rfl, by simp [bs, rplainL, *] <;> (intros; omega), by (try simp only [ByteArray.size_append, size_mk, bs_size, List.length_cons, List.length_nil]); omega, (by assumption : NB _ _ _).bel⟩)
set_option maxRecDepth 100000 in
set_option maxHeartbeats 4000000 in
theorem rplain_3 (o : Nat) (h1 : 128 ≤ o) (h2 : o < 192) : HeldS 16 #[.int .u8 (o : Nat)] (rplainL o) 40 := heldS fun W hW => by
  have k0 := NB.start hW
  have f1 : ¬ o < 64 := by omega
  have f1' : decide (o < 64) = false := decide_eq_false f1
  have f2 : ((o : Int) == 118) = false := beq_eq_false_iff_ne.2 (by omega)
  obtain ⟨a, ha⟩ : ∃ a, o / 8 % 8 = a := ⟨_, rfl⟩
  obtain ⟨c, hc⟩ : ∃ c, o % 8 = c := ⟨_, rfl⟩
  have a0 : a < 8 := by omega
  have c0 : c < 8 := by omega
  have m0 : (0 : Int) ≤ (a : Int) := by omega
  have m1 : (a : Int) < 8 := by omega
  have m2 : (0 : Int) ≤ (c : Int) := by omega
  have m3 : (c : Int) < 8 := by omega
  have e1 : Int.tmod (IntKind.u8.wrap ((o : Int) / 8)) 8 = (a : Int) := by rw [show (o : Int) / 8 = ((o / 8 : Nat) : Int) from rfl, w8 (o / 8) (by omega), Int.tmod_eq_emod_of_nonneg (by omega)]; omega
  have e2 : Int.tmod (o : Int) 8 = (c : Int) := by rw [Int.tmod_eq_emod_of_nonneg (by omega)]; omega
  have f3 : ¬ o < 128 := by omega
  have f3' : ¬ (o : Int) < 128 := by omega
  have f4 : o < 192 := h2
  have f4' : (o : Int) < 192 := by omega
  have hx := getD_some (xs := t_sums) (n := 8) rfl a0
  have hx0 := getD_some (xs := t_ones) (n := 8) rfl a0
  have hy := getD_some (xs := t_ones) (n := 8) rfl c0
  have hl := getD_len (xs := t_sums) 8 (by decide +kernel) a
  have hl2 := getD_len (xs := t_ones) 8 (by decide +kernel) c
  have hR : rplainL o = t_sums.getD a [] ++ t_ones.getD c [] := by rw [← ha, ← hc]; unfold rplainL; rw [if_neg f1, if_neg (by omega), if_neg f3, if_pos h2]
  rw [hR]
  generalize hX : t_sums.getD a [] = X at *
  generalize hY : t_ones.getD c [] = Y at *
  clear hX hY hR ha hc h1 h2 hx0
  have z3 : ¬ 9223372036854775807 < (bs X).size + (bs Y).size := by rw [bs_size, bs_size]; omega
  go_enter Tryz.func16, Tryz.ntmps16
  go_upto_region 8 with fail
  go_region_with (first | (go_at_call 18; (refine (l_ones _ _ _ (by first | assumption | exact NB.drew (by assumption))).mono ?_); rintro e w2 ⟨g2, p2, u2, rfl, k2, l2, q2⟩; (have d2c := (cell_of _ _ c k2.h0).trans (q2 c Y hy)); (have d2o := (cell_of _ _ a k2.h1).trans (q1 a X hx))) | (go_at_call 42; (refine (l_sums _ _ _ (by first | assumption | exact NB.drew (by assumption))).mono ?_); rintro e w1 ⟨g1, p1, u1, rfl, k1, l1, q1⟩; (have d1a := (cell_of _ _ a k1.h0).trans (q1 a X hx))))
  all_goals go_wp2_with fail
  all_goals first
    | (exfalso; (try simp only [ByteArray.size_append, size_mk, bs_size, List.length_cons, List.length_nil] at *); omega)
    | (go_ret; exact ⟨_, rfl, by simp [bs, rplainL, *] <;> (intros; omega), by (try simp only [ByteArray.size_append, size_mk, bs_size, List.length_cons, List.length_nil]); omega, (by assumption : NB _ _ _).bel⟩)
set_option maxRecDepth 100000 in
set_option maxHeartbeats 4000000 in
theorem rplain_4 (o : Nat) (h1 : 192 ≤ o) (h2 : o < 256) : HeldS 16 #[.int .u8 (o : Nat)] (rplainL o) 40 := heldS fun W hW => by
  have k0 := NB.start hW
  have f1 : ¬ o < 64 := by omega
  have f1' : ¬ (o : Int) < 64 := by omega
  have f2 : ((o : Int) == 118) = false := beq_eq_false_iff_ne.2 (by omega)
  have f3 : ¬ o < 128 := by omega
  have f3' : ¬ (o : Int) < 128 := by omega
  have f4 : ¬ o < 192 := by omega
  have f4' : ¬ (o : Int) < 192 := by omega
  obtain ⟨a, ha⟩ : ∃ a, o - 192 = a := ⟨_, rfl⟩
  have e1 : IntKind.u8.wrap ((o : Int) - 192) = (a : Int) := by rw [show (o : Int) - 192 = ((a : Nat) : Int) by omega, w8 a (by omega)]
  have a0 : a < 64 := by omega
  have m0 : (0 : Int) ≤ (a : Int) := by omega
  have m1 : (a : Int) < 64 := by omega
  have hx := getD_some (xs := t_last) (n := 64) rfl a0
  have hl := getD_len (xs := t_last) 20 (by decide +kernel) a
  have hR : rplainL o = t_last.getD a [] := by rw [← ha]; unfold rplainL; rw [if_neg f1, if_neg (by omega), if_neg f3, if_neg f4]
  rw [hR]
  generalize hX : t_last.getD a [] = X at *
  clear hX hR ha h1 h2
  go_enter Tryz.func16, Tryz.ntmps16
  go_wp2_with (go_at_call 43; (refine (l_last _ _ _ (by first | assumption | exact NB.drew (by assumption))).mono ?_); rintro e w1 ⟨g1, p1, u1, rfl, k1, l1, q1⟩; (have d1 := (cell_of _ _ a k1.h0).trans (q1 a X hx)))
  all_goals first
    | (exfalso; (try simp only [ByteArray.size_append, size_mk, bs_size, List.length_cons, List.length_nil] at *); omega)
    | (go_ret; exact ⟨_, rfl, by simp [bs, rplainL, *] <;> (intros; omega), by (try simp only [ByteArray.size_append, size_mk, bs_size, List.length_cons, List.length_nil]); omega, (by assumption : NB _ _ _).bel⟩)
theorem rplain_any (o : Nat) (ho : o < 256) : HeldS 16 #[.int .u8 (o : Nat)] (rplainL o) 40 := by
  by_cases h1 : o < 64
  · exact rplain_0 o h1
  by_cases h2 : o = 118
  · subst h2; exact rplain_1
  by_cases h3 : o < 128
  · exact rplain_2 o (by omega) h3 h2
  by_cases h4 : o < 192
  · exact rplain_3 o (by omega) h4
  · exact rplain_4 o (by omega) ho
end Nm
end Go.Proofs.YtnhgmdfmhmkpgaaGreatDoor
