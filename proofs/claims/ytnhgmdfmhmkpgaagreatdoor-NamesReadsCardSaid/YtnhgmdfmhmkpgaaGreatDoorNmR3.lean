/- What instructions are called (layer 11): the reference: bits. No conditions but those stated. -/
import Derived.Test.YtnhgmdfmhmkpgaaGreatDoorNmR2
import Derived.RegionTactic
import Derived.LoopTactic
import Derived.Deep.RegionHeld3
import Derived.Deep.DeepCutAuto
import Derived.Lib.Hide
namespace Go.Proofs.YtnhgmdfmhmkpgaaGreatDoor
open Go.RowKit
open Kit
set_option linter.unusedSimpArgs false
set_option linter.unusedVariables false
namespace Nm
def t_rturns : List Str := [[82, 76, 67], [82, 82, 67], [82, 76], [82, 82], [83, 76, 65], [83, 82, 65], [83, 76, 76], [83, 82, 76]]
def t_rbrs : List Str := [[], [66, 73, 84, 32], [82, 69, 83, 32], [83, 69, 84, 32]]
def rbitsL (o : Nat) (s : Str) : Str := if o < 64 then t_rturns.getD (o / 8) [] ++ ([32] ++ s) else t_rbrs.getD (o / 64) [] ++ (UInt8.ofNat (48 + o / 8 % 8) :: ([44] ++ s))
theorem dig8 (a : Nat) (h : a < 8) : ({ data := #[48, 49, 50, 51, 52, 53, 54, 55] } : ByteArray).extract a (a + 1) = bs [UInt8.ofNat (48 + a)] := by
  have e := Lib.extract_data { data := #[48, 49, 50, 51, 52, 53, 54, 55] } a (a + 1)
  apply bs_of
  rw [e, Nat.add_sub_cancel_left]
  have : ∀ a : Fin 8, ((ByteArray.data { data := #[48, 49, 50, 51, 52, 53, 54, 55] }).toList.drop a.val).take 1 = [UInt8.ofNat (48 + a.val)] := by decide +kernel
  exact this ⟨a, h⟩
theorem l_rturns : HeldL 42 #[.string { data := #[82, 76, 67, 124, 82, 82, 67, 124, 82, 76, 124, 82, 82, 124, 83, 76, 65, 124, 83, 82, 65, 124, 83, 76, 76, 124, 83, 82, 76] }, .int .u8 124] 8 t_rturns := split_l { data := #[82, 76, 67, 124, 82, 82, 67, 124, 82, 76, 124, 82, 82, 124, 83, 76, 65, 124, 83, 82, 65, 124, 83, 76, 76, 124, 83, 82, 76] } 124 (by decide) t_rturns 8 (by decide +kernel) rfl (by omega)
theorem l_rbrs : HeldL 42 #[.string { data := #[124, 66, 73, 84, 32, 124, 82, 69, 83, 32, 124, 83, 69, 84, 32] }, .int .u8 124] 4 t_rbrs := split_l { data := #[124, 66, 73, 84, 32, 124, 82, 69, 83, 32, 124, 83, 69, 84, 32] } 124 (by decide) t_rbrs 4 (by decide +kernel) rfl (by omega)
set_option maxRecDepth 100000 in
set_option maxHeartbeats 4000000 in
theorem rbits_0 (o : Nat) (ho : o < 64) (s : ByteArray) (hs : s.size ≤ 20) : HeldS 17 #[.int .u8 (o : Nat), .string s] (rbitsL o s.data.toList) 40 := heldS fun W hW => by
  have k0 := NB.start hW
  have f1 : (o : Int) < 64 := by omega
  have f1' : o < 64 := ho
  obtain ⟨a, ha⟩ : ∃ a, o / 8 = a := ⟨_, rfl⟩
  have a0 : a < 8 := by omega
  have e1 : (o : Int) / 8 = (a : Int) := by omega
  have e2 : IntKind.u8.wrap (a : Int) = (a : Int) := w8 a (by omega)
  have m0 : (0 : Int) ≤ (a : Int) := by omega
  have m1 : (a : Int) < 8 := by omega
  have hx := getD_some (xs := t_rturns) (n := 8) rfl a0
  have hl := getD_len (xs := t_rturns) 8 (by decide +kernel) a
  have hR : rbitsL o s.data.toList = t_rturns.getD a [] ++ ([32] ++ s.data.toList) := by rw [← ha]; unfold rbitsL; rw [if_pos ho]
  rw [hR]
  generalize hX : t_rturns.getD a [] = X at *
  clear hX hR ha
  go_enter Tryz.func17, Tryz.ntmps17
  go_wp2_with (go_at_call 42; (refine (l_rturns _ _ _ (by first | assumption | exact NB.drew (by assumption))).mono ?_); rintro e w1 ⟨g1, p1, u1, rfl, k1, l1, q1⟩; (have d1 := (cell_of _ _ a k1.h0).trans (q1 a X hx)))
  all_goals first
    | (exfalso; (try simp only [ByteArray.size_append, size_mk, bs_size, List.length_cons, List.length_nil] at *); omega)
    | (go_ret; exact ⟨_, rfl, by simp [bs, rbitsL, *] <;> (intros; omega), by (try simp only [ByteArray.size_append, size_mk, bs_size, List.length_cons, List.length_nil]); omega, (by assumption : NB _ _ _).bel⟩)
set_option maxRecDepth 100000 in
set_option maxHeartbeats 4000000 in
theorem rbits_1 (o : Nat) (h1 : 64 ≤ o) (h2 : o < 256) (s : ByteArray) (hs : s.size ≤ 20) : HeldS 17 #[.int .u8 (o : Nat), .string s] (rbitsL o s.data.toList) 40 := heldS fun W hW => by
  have k0 := NB.start hW
  have f1 : ¬ (o : Int) < 64 := by omega
  have f1' : ¬ o < 64 := by omega
  obtain ⟨u, hu⟩ : ∃ u, o / 64 = u := ⟨_, rfl⟩
  obtain ⟨a, ha⟩ : ∃ a, o / 8 % 8 = a := ⟨_, rfl⟩
  have u0 : u < 4 := by omega
  have a0 : a < 8 := by omega
  have e1 : IntKind.u8.wrap ((o : Int) / 64) = (u : Int) := by rw [show (o : Int) / 64 = ((o / 64 : Nat) : Int) from rfl, w8 (o / 64) (by omega), hu]
  have e2 : Int.tmod (IntKind.u8.wrap ((o : Int) / 8)) 8 = (a : Int) := by rw [show (o : Int) / 8 = ((o / 8 : Nat) : Int) from rfl, w8 (o / 8) (by omega), Int.tmod_eq_emod_of_nonneg (by omega)]; omega
  have e3 : IntKind.u8.wrap ((a : Int) + 1) = (a : Int) + 1 := by rw [show (a : Int) + 1 = ((a + 1 : Nat) : Int) from rfl, w8 (a + 1) (by omega)]
  have m0 : (0 : Int) ≤ (u : Int) := by omega
  have m1 : (u : Int) < 4 := by omega
  have m2 : (0 : Int) ≤ (a : Int) := by omega
  have m3 : (a : Int) ≤ (a : Int) + 1 := by omega
  have m4 : (a : Int) + 1 ≤ 8 := by omega
  have hd8 := dig8 a a0
  have hx := getD_some (xs := t_rbrs) (n := 4) rfl u0
  have hl := getD_len (xs := t_rbrs) 8 (by decide +kernel) u
  have hR : rbitsL o s.data.toList = t_rbrs.getD u [] ++ (UInt8.ofNat (48 + a) :: ([44] ++ s.data.toList)) := by rw [← ha, ← hu]; unfold rbitsL; rw [if_neg f1']
  rw [hR]
  generalize hX : t_rbrs.getD u [] = X at *
  have hs1 : (bs [UInt8.ofNat (48 + a)]).size = 1 := rfl
  have z1 : ¬ 9223372036854775807 < (bs X).size + (bs [UInt8.ofNat (48 + a)]).size := by rw [bs_size, bs_size]; simp; omega
  have z2 : ¬ 9223372036854775807 < (bs X).size + (bs [UInt8.ofNat (48 + a)]).size + 1 := by rw [bs_size, bs_size]; simp; omega
  have z3 : ¬ 9223372036854775807 < (bs X).size + (bs [UInt8.ofNat (48 + a)]).size + 1 + s.size := by rw [bs_size, bs_size]; simp; omega
  clear hX hR ha hu h1 h2
  generalize hD : bs [UInt8.ofNat (48 + a)] = D at *
  have HD := Lib.hid hD
  clear hD
  go_enter Tryz.func17, Tryz.ntmps17
  go_upto_region 3 with fail
  go_region_with (go_at_call 42; (refine (l_rbrs _ _ _ (by first | assumption | exact NB.drew (by assumption))).mono ?_); rintro e w1 ⟨g1, p1, u1, rfl, k1, l1, q1⟩; (have d1 := (cell_of _ _ u k1.h0).trans (q1 u X hx)))
  all_goals go_wp2_with fail
  all_goals first
    | (exfalso; (try simp only [ByteArray.size_append, size_mk, bs_size, List.length_cons, List.length_nil] at *); omega)
    | (go_ret; exact ⟨_, rfl, by rw [← HD.out]; simp [bs, *], by (try simp only [ByteArray.size_append, size_mk, bs_size, List.length_cons, List.length_nil]); omega, (by assumption : NB _ _ _).bel⟩)
theorem rbits_any (o : Nat) (ho : o < 256) (s : ByteArray) (hs : s.size ≤ 20) : HeldS 17 #[.int .u8 (o : Nat), .string s] (rbitsL o s.data.toList) 40 := by
  by_cases h : o < 64
  · exact rbits_0 o h s hs
  · exact rbits_1 o (by omega) ho s hs
end Nm
end Go.Proofs.YtnhgmdfmhmkpgaaGreatDoor
