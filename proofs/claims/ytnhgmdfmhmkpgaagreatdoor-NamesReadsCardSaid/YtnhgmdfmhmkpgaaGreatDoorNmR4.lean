/- What instructions are called (layer 11): the reference: extended. No conditions but those stated. -/
import Derived.Test.YtnhgmdfmhmkpgaaGreatDoorNmR2
import Derived.RegionTactic
import Derived.LoopTactic
import Derived.Deep.RegionHeld3
import Derived.Deep.DeepCutAuto
import Derived.Lib.Hide
namespace Go.Proofs.YtnhgmdfmhmkpgaaGreatDoor
open Go.RowKit
open Kit
set_option linter.unusedSimpArgs false
set_option linter.unusedVariables false
namespace Nm
def t_rblk : List Str := [[76, 68, 73], [67, 80, 73], [73, 78, 73], [79, 85, 84, 73], [76, 68, 68], [67, 80, 68], [73, 78, 68], [79, 85, 84, 68], [76, 68, 73, 82], [67, 80, 73, 82], [73, 78, 73, 82], [79, 84, 73, 82], [76, 68, 68, 82], [67, 80, 68, 82], [73, 78, 68, 82], [79, 84, 68, 82]]
def rextL (o : Nat) : Str := if 64 ≤ o ∧ o < 128 then t_ext.getD (o - 64) [] else if 160 ≤ o ∧ o < 192 ∧ o % 8 < 4 then t_rblk.getD ((o - 160) / 8 * 4 + o % 8) [] else [78, 79, 80]
theorem l_rblk : HeldL 42 #[.string { data := #[76, 68, 73, 124, 67, 80, 73, 124, 73, 78, 73, 124, 79, 85, 84, 73, 124, 76, 68, 68, 124, 67, 80, 68, 124, 73, 78, 68, 124, 79, 85, 84, 68, 124, 76, 68, 73, 82, 124, 67, 80, 73, 82, 124, 73, 78, 73, 82, 124, 79, 84, 73, 82, 124, 76, 68, 68, 82, 124, 67, 80, 68, 82, 124, 73, 78, 68, 82, 124, 79, 84, 68, 82] }, .int .u8 124] 16 t_rblk := split_l { data := #[76, 68, 73, 124, 67, 80, 73, 124, 73, 78, 73, 124, 79, 85, 84, 73, 124, 76, 68, 68, 124, 67, 80, 68, 124, 73, 78, 68, 124, 79, 85, 84, 68, 124, 76, 68, 73, 82, 124, 67, 80, 73, 82, 124, 73, 78, 73, 82, 124, 79, 84, 73, 82, 124, 76, 68, 68, 82, 124, 67, 80, 68, 82, 124, 73, 78, 68, 82, 124, 79, 84, 68, 82] } 124 (by decide) t_rblk 16 (by decide +kernel) rfl (by omega)
set_option maxRecDepth 100000 in
set_option maxHeartbeats 4000000 in
theorem rext_0 (o : Nat) (h1 : 64 ≤ o) (h2 : o < 128) : HeldS 19 #[.int .u8 (o : Nat)] (rextL o) 40 := heldS fun W hW => by
  have k0 := NB.start hW
  have f1 : (64 : Int) ≤ (o : Int) := by omega
  have f2 : (o : Int) < 128 := by omega
  obtain ⟨a, ha⟩ : ∃ a, o - 64 = a := ⟨_, rfl⟩
  have e1 : IntKind.u8.wrap ((o : Int) - 64) = (a : Int) := by rw [show (o : Int) - 64 = ((a : Nat) : Int) by omega, w8 a (by omega)]
  have a0 : a < 64 := by omega
  have m0 : (0 : Int) ≤ (a : Int) := by omega
  have m1 : (a : Int) < 64 := by omega
  have hx := getD_some (xs := t_ext) (n := 64) rfl a0
  have hl := getD_len (xs := t_ext) 20 (by decide +kernel) a
  have hR : rextL o = t_ext.getD a [] := by rw [← ha]; unfold rextL; rw [if_pos ⟨h1, h2⟩]
  rw [hR]
  generalize hX : t_ext.getD a [] = X at *
  clear hX hR ha
  go_enter Tryz.func19, Tryz.ntmps19
  go_wp2_with (go_at_call 44; (refine (l_ext _ _ _ (by first | assumption | exact NB.drew (by assumption))).mono ?_); rintro e w1 ⟨g1, p1, u1, rfl, k1, l1, q1⟩; (have d1 := (cell_of _ _ a k1.h0).trans (q1 a X hx)))
  all_goals first
    | (exfalso; (try simp only [ByteArray.size_append, size_mk, bs_size, List.length_cons, List.length_nil] at *); omega)
    | (go_ret; exact ⟨_, rfl, by simp [bs, rextL, *] <;> (intros; omega), by (try simp only [ByteArray.size_append, size_mk, bs_size, List.length_cons, List.length_nil]); omega, (by assumption : NB _ _ _).bel⟩)
set_option maxRecDepth 100000 in
set_option maxHeartbeats 4000000 in
theorem rext_1 (o : Nat) (h1 : 160 ≤ o) (h2 : o < 192) (h3 : o % 8 < 4) : HeldS 19 #[.int .u8 (o : Nat)] (rextL o) 40 := heldS fun W hW => by
  have k0 := NB.start hW
  have f1 : (64 : Int) ≤ (o : Int) := by omega
  have f2 : ¬ (o : Int) < 128 := by omega
  have f2' : ¬ o < 128 := by omega
  have f3 : (160 : Int) ≤ (o : Int) := by omega
  have f4 : (o : Int) < 192 := by omega
  have f5 : (o : Int) % 8 < 4 := by omega
  obtain ⟨b, hb⟩ : ∃ b, o - 160 = b := ⟨_, rfl⟩
  obtain ⟨a, ha⟩ : ∃ a, (o - 160) / 8 * 4 + o % 8 = a := ⟨_, rfl⟩
  have e1 : IntKind.u8.wrap ((o : Int) - 160) = (b : Int) := by rw [show (o : Int) - 160 = ((b : Nat) : Int) by omega, w8 b (by omega)]
  have a0 : a < 16 := by omega
  have e2 : IntKind.u8.wrap ((b : Int) / 8 * 4) = (b : Int) / 8 * 4 := by rw [show (b : Int) / 8 * 4 = ((b / 8 * 4 : Nat) : Int) from rfl, w8 _ (by omega)]
  have e3 : IntKind.u8.wrap ((b : Int) / 8 * 4 + (o : Int) % 8) = (a : Int) := by rw [show (b : Int) / 8 * 4 + (o : Int) % 8 = ((a : Nat) : Int) by omega, w8 a (by omega)]
  have e4 : (b : Int) / 8 * 4 + (o : Int) % 8 = (a : Int) := by omega
  have m0 : (0 : Int) ≤ (a : Int) := by omega
  have m1 : (a : Int) < 16 := by omega
  have hx := getD_some (xs := t_rblk) (n := 16) rfl a0
  have hl := getD_len (xs := t_rblk) 20 (by decide +kernel) a
  have hR : rextL o = t_rblk.getD a [] := by rw [← ha]; unfold rextL; rw [if_neg (by omega), if_pos ⟨h1, h2, h3⟩]
  rw [hR]
  generalize hX : t_rblk.getD a [] = X at *
  clear hX hR ha
  go_enter Tryz.func19, Tryz.ntmps19
  go_wp2_with (go_at_call 42; (refine (l_rblk _ _ _ (by first | assumption | exact NB.drew (by assumption))).mono ?_); rintro e w1 ⟨g1, p1, u1, rfl, k1, l1, q1⟩; (have d1 := (cell_of _ _ a k1.h0).trans (q1 a X hx)))
  all_goals first
    | (exfalso; (try simp only [ByteArray.size_append, size_mk, bs_size, List.length_cons, List.length_nil] at *); omega)
    | (go_ret; exact ⟨_, rfl, by simp [bs, rextL, *] <;> (intros; omega), by (try simp only [ByteArray.size_append, size_mk, bs_size, List.length_cons, List.length_nil]); omega, (by assumption : NB _ _ _).bel⟩)
set_option maxRecDepth 100000 in
set_option maxHeartbeats 4000000 in
theorem rext_2 (o : Nat) (h : o < 64) : HeldS 19 #[.int .u8 (o : Nat)] (rextL o) 40 := heldS fun W hW => by
  have k0 := NB.start hW
  have f1 : ¬ (64 : Int) ≤ (o : Int) := by omega
  have f1' : ¬ 64 ≤ o := by omega
  have f3 : ¬ (160 : Int) ≤ (o : Int) := by omega
  have f3' : ¬ 160 ≤ o := by omega
  have hR : rextL o = [78, 79, 80] := by unfold rextL; rw [if_neg (by omega), if_neg (by omega)]
  rw [hR]
  go_enter Tryz.func19, Tryz.ntmps19
  go_wp2_with fail
  all_goals first
    | (exfalso; (try simp only [ByteArray.size_append, size_mk, bs_size, List.length_cons, List.length_nil] at *); omega)
    | (go_ret; exact ⟨_, rfl, by simp [bs, rextL, *] <;> (intros; omega), by (try simp only [ByteArray.size_append, size_mk, bs_size, List.length_cons, List.length_nil]); omega, (by assumption : NB _ _ _).bel⟩)
set_option maxRecDepth 100000 in
set_option maxHeartbeats 4000000 in
theorem rext_3 (o : Nat) (h : 128 ≤ o ∧ o < 160) : HeldS 19 #[.int .u8 (o : Nat)] (rextL o) 40 := heldS fun W hW => by
  have k0 := NB.start hW
  have f1 : (64 : Int) ≤ (o : Int) := by omega
  have f2 : ¬ (o : Int) < 128 := by omega
  have f2' : ¬ o < 128 := by omega
  have f3 : ¬ (160 : Int) ≤ (o : Int) := by omega
  have f3' : ¬ 160 ≤ o := by omega
  have hR : rextL o = [78, 79, 80] := by unfold rextL; rw [if_neg (by omega), if_neg (by omega)]
  rw [hR]
  go_enter Tryz.func19, Tryz.ntmps19
  go_wp2_with fail
  all_goals first
    | (exfalso; (try simp only [ByteArray.size_append, size_mk, bs_size, List.length_cons, List.length_nil] at *); omega)
    | (go_ret; exact ⟨_, rfl, by simp [bs, rextL, *] <;> (intros; omega), by (try simp only [ByteArray.size_append, size_mk, bs_size, List.length_cons, List.length_nil]); omega, (by assumption : NB _ _ _).bel⟩)
set_option maxRecDepth 100000 in
set_option maxHeartbeats 4000000 in
theorem rext_4 (o : Nat) (h : 192 ≤ o) : HeldS 19 #[.int .u8 (o : Nat)] (rextL o) 40 := heldS fun W hW => by
  have k0 := NB.start hW
  have f1 : (64 : Int) ≤ (o : Int) := by omega
  have f2 : ¬ (o : Int) < 128 := by omega
  have f2' : ¬ o < 128 := by omega
  have f3 : (160 : Int) ≤ (o : Int) := by omega
  have f4 : ¬ (o : Int) < 192 := by omega
  have f4' : ¬ o < 192 := by omega
  have hR : rextL o = [78, 79, 80] := by unfold rextL; rw [if_neg (by omega), if_neg (by omega)]
  rw [hR]
  go_enter Tryz.func19, Tryz.ntmps19
  go_wp2_with fail
  all_goals first
    | (exfalso; (try simp only [ByteArray.size_append, size_mk, bs_size, List.length_cons, List.length_nil] at *); omega)
    | (go_ret; exact ⟨_, rfl, by simp [bs, rextL, *] <;> (intros; omega), by (try simp only [ByteArray.size_append, size_mk, bs_size, List.length_cons, List.length_nil]); omega, (by assumption : NB _ _ _).bel⟩)
set_option maxRecDepth 100000 in
set_option maxHeartbeats 4000000 in
theorem rext_5 (o : Nat) (h : 160 ≤ o ∧ o < 192 ∧ 4 ≤ o % 8) : HeldS 19 #[.int .u8 (o : Nat)] (rextL o) 40 := heldS fun W hW => by
  have k0 := NB.start hW
  have f1 : (64 : Int) ≤ (o : Int) := by omega
  have f2 : ¬ (o : Int) < 128 := by omega
  have f2' : ¬ o < 128 := by omega
  have f3 : (160 : Int) ≤ (o : Int) := by omega
  have f4 : (o : Int) < 192 := by omega
  have f5 : ¬ (o : Int) % 8 < 4 := by omega
  have f5' : ¬ o % 8 < 4 := by omega
  have hR : rextL o = [78, 79, 80] := by unfold rextL; rw [if_neg (by omega), if_neg (by omega)]
  rw [hR]
  go_enter Tryz.func19, Tryz.ntmps19
  go_wp2_with fail
  all_goals first
    | (exfalso; (try simp only [ByteArray.size_append, size_mk, bs_size, List.length_cons, List.length_nil] at *); omega)
    | (go_ret; exact ⟨_, rfl, by simp [bs, rextL, *] <;> (intros; omega), by (try simp only [ByteArray.size_append, size_mk, bs_size, List.length_cons, List.length_nil]); omega, (by assumption : NB _ _ _).bel⟩)
theorem rext_any (o : Nat) (ho : o < 256) : HeldS 19 #[.int .u8 (o : Nat)] (rextL o) 40 := by
  by_cases h1 : o < 64
  · exact rext_2 o h1
  by_cases h2 : o < 128
  · exact rext_0 o (by omega) h2
  by_cases h3 : o < 160
  · exact rext_3 o ⟨by omega, h3⟩
  by_cases h4 : o < 192
  · by_cases h5 : o % 8 < 4
    · exact rext_1 o (by omega) h4 h5
    · exact rext_5 o ⟨by omega, h4, by omega⟩
  · exact rext_4 o (by omega)
end Nm
end Go.Proofs.YtnhgmdfmhmkpgaaGreatDoor
