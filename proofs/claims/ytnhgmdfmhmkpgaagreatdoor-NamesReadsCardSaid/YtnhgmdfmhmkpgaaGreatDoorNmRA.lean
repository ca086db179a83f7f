/- What instructions are called (layer 11): the reference: numbers. No conditions but those stated. -/
import Derived.Test.YtnhgmdfmhmkpgaaGreatDoorNmR3
import Derived.RegionTactic
import Derived.LoopTactic
import Derived.Deep.RegionHeld3
import Derived.Deep.DeepCutAuto
import Derived.Lib.Hide
namespace Go.Proofs.YtnhgmdfmhmkpgaaGreatDoor
open Go.RowKit
open Kit
set_option linter.unusedSimpArgs false
set_option linter.unusedVariables false
namespace Nm
def dgt (a : Nat) : UInt8 := UInt8.ofNat (48 + a)
def hxd (a : Nat) : UInt8 := if a < 10 then UInt8.ofNat (48 + a) else UInt8.ofNat (55 + a)
theorem dig10 (a : Nat) (h : a < 10) : ({ data := #[48, 49, 50, 51, 52, 53, 54, 55, 56, 57] } : ByteArray).extract a (a + 1) = bs [dgt a] := by
  have e := Lib.extract_data { data := #[48, 49, 50, 51, 52, 53, 54, 55, 56, 57] } a (a + 1)
  apply bs_of
  rw [e, Nat.add_sub_cancel_left]
  have : ∀ a : Fin 10, ((ByteArray.data { data := #[48, 49, 50, 51, 52, 53, 54, 55, 56, 57] }).toList.drop a.val).take 1 = [dgt a.val] := by decide +kernel
  exact this ⟨a, h⟩
theorem dig16 (a : Nat) (h : a < 16) : ({ data := #[48, 49, 50, 51, 52, 53, 54, 55, 56, 57, 65, 66, 67, 68, 69, 70] } : ByteArray).extract a (a + 1) = bs [hxd a] := by
  have e := Lib.extract_data { data := #[48, 49, 50, 51, 52, 53, 54, 55, 56, 57, 65, 66, 67, 68, 69, 70] } a (a + 1)
  apply bs_of
  rw [e, Nat.add_sub_cancel_left]
  have : ∀ a : Fin 16, ((ByteArray.data { data := #[48, 49, 50, 51, 52, 53, 54, 55, 56, 57, 65, 66, 67, 68, 69, 70] }).toList.drop a.val).take 1 = [hxd a.val] := by decide +kernel
  exact this ⟨a, h⟩
def decL (n : Nat) : Str := if n < 10 then [dgt n] else if n < 100 then [dgt (n / 10), dgt (n % 10)] else [dgt (n / 100), dgt (n / 10 % 10), dgt (n % 10)]
def rsgnL (v : Nat) : Str := if 128 ≤ v then 45 :: decL (256 - v) else 43 :: decL v
def rhexL (v : Nat) : Str := [hxd (v / 16), hxd (v % 16)]
set_option maxRecDepth 100000 in
set_option maxHeartbeats 4000000 in
theorem dec_1 (n : Nat) (h : n < 10) : HeldS 47 #[.int .i64 (n : Nat)] (decL n) 1 := heldS fun W hW => by
  have k0 := NB.start hW
  have hd := dig10 n h
  have i1 : (n : Int) < 10 := by omega
  have m2 : (0 : Int) ≤ (n : Int) := by omega
  have m3 : (n : Int) ≤ (n : Int) + 1 := by omega
  have m4 : (n : Int) + 1 ≤ 10 := by omega
  have hR : decL n = [dgt n] := by unfold decL; rw [if_pos h]
  rw [hR]
  generalize hX : bs [dgt n] = X at *
  have hz : X.size = 1 := by rw [← hX]; rfl
  have HX := Lib.hid hX
  have HZ := Lib.hid hz
  clear hX hR hz
  go_enter Tryz.func47, Tryz.ntmps47
  go_wp2_with fail
  go_ret
  exact ⟨_, rfl, by simp [*, ← HX.out, bs], by (first | (have := HZ.out; simp [*]; done) | (have := HZ.out; simp only [*]; omega)), k0.bel⟩
set_option maxRecDepth 100000 in
set_option maxHeartbeats 4000000 in
theorem dec_2 (n : Nat) (h0 : 10 ≤ n) (h : n < 100) : HeldS 47 #[.int .i64 (n : Nat)] (decL n) 2 := heldS fun W hW => by
  have k0 := NB.start hW
  obtain ⟨a, ha⟩ : ∃ a, n / 10 = a := ⟨_, rfl⟩
  obtain ⟨c, hc⟩ : ∃ c, n % 10 = c := ⟨_, rfl⟩
  have H1 := dec_1 (n / 10) (by omega)
  have H2 := dec_1 (n % 10) (by omega)
  have hR : decL n = decL (n / 10) ++ decL (n % 10) := by
    unfold decL
    rw [if_neg (by omega), if_pos h, if_pos (by omega), if_pos (by omega)]; rfl
  rw [hR]
  rw [ha] at H1 ⊢
  rw [hc] at H2 ⊢
  have i1 : ¬ (n : Int) < 10 := by omega
  have e1 : (n : Int) / 10 = (a : Int) := by omega
  have e1t : Int.tdiv (n : Int) 10 = (a : Int) := by rw [Int.tdiv_eq_ediv_of_nonneg (by omega)]; omega
  have e2 : Int.tmod (n : Int) 10 = (c : Int) := by rw [Int.tmod_eq_emod_of_nonneg (by omega)]; omega
  have e2e : (n : Int) % 10 = (c : Int) := by omega
  generalize decL a = A at *
  generalize decL c = C at *
  have HC1 := Lib.hid H1
  have HC2 := Lib.hid H2
  clear H1 H2 hR ha hc
  go_enter Tryz.func47, Tryz.ntmps47
  go_wp2_with (first
    | (go_at_call 47; with_reducible refine (HC1.out _ _ _ k0).mono ?_; rintro e w1 ⟨a1, rfl, ha1, hz1, k1⟩)
    | (go_at_call 47; with_reducible refine (HC2.out _ _ _ k1).mono ?_; rintro e w2 ⟨a2, rfl, ha2, hz2, k2⟩))
  all_goals first
    | (exfalso; (try simp only [ByteArray.size_append, size_mk, bs_size, List.length_cons, List.length_nil] at *); omega)
    | (go_ret; exact ⟨_, rfl, by simp [*], by (try simp only [ByteArray.size_append]); omega, k2.bel⟩)
set_option maxRecDepth 100000 in
set_option maxHeartbeats 4000000 in
theorem dec_3 (n : Nat) (h0 : 100 ≤ n) (h : n < 1000) : HeldS 47 #[.int .i64 (n : Nat)] (decL n) 3 := heldS fun W hW => by
  have k0 := NB.start hW
  obtain ⟨a, ha⟩ : ∃ a, n / 10 = a := ⟨_, rfl⟩
  obtain ⟨c, hc⟩ : ∃ c, n % 10 = c := ⟨_, rfl⟩
  have H1 := dec_2 (n / 10) (by omega) (by omega)
  have H2 := dec_1 (n % 10) (by omega)
  have hR : decL n = decL (n / 10) ++ decL (n % 10) := by
    unfold decL
    rw [if_neg (by omega), if_neg (by omega), if_neg (by omega), if_pos (by omega), if_pos (by omega), Nat.div_div_eq_div_mul]; rfl
  rw [hR]
  rw [ha] at H1 ⊢
  rw [hc] at H2 ⊢
  have i1 : ¬ (n : Int) < 10 := by omega
  have e1 : (n : Int) / 10 = (a : Int) := by omega
  have e1t : Int.tdiv (n : Int) 10 = (a : Int) := by rw [Int.tdiv_eq_ediv_of_nonneg (by omega)]; omega
  have e2 : Int.tmod (n : Int) 10 = (c : Int) := by rw [Int.tmod_eq_emod_of_nonneg (by omega)]; omega
  have e2e : (n : Int) % 10 = (c : Int) := by omega
  generalize decL a = A at *
  generalize decL c = C at *
  have HC1 := Lib.hid H1
  have HC2 := Lib.hid H2
  clear H1 H2 hR ha hc
  go_enter Tryz.func47, Tryz.ntmps47
  go_wp2_with (first
    | (go_at_call 47; with_reducible refine (HC1.out _ _ _ k0).mono ?_; rintro e w1 ⟨a1, rfl, ha1, hz1, k1⟩)
    | (go_at_call 47; with_reducible refine (HC2.out _ _ _ k1).mono ?_; rintro e w2 ⟨a2, rfl, ha2, hz2, k2⟩))
  all_goals first
    | (exfalso; (try simp only [ByteArray.size_append, size_mk, bs_size, List.length_cons, List.length_nil] at *); omega)
    | (go_ret; exact ⟨_, rfl, by simp [*], by (try simp only [ByteArray.size_append]); omega, k2.bel⟩)
theorem dec_any (n : Nat) (h : n < 1000) : HeldS 47 #[.int .i64 (n : Nat)] (decL n) 6 := by
  have wk : ∀ {X : Str}, HeldS 47 #[.int .i64 (n : Nat)] X 6 → HeldS 47 #[.int .i64 (n : Nat)] X 6 := fun h => h
  by_cases h1 : n < 10
  · exact fun w L W k => (dec_1 n h1 w L W k).mono fun e w' ⟨a, p, q, r, t⟩ => ⟨a, p, q, by omega, t⟩
  by_cases h2 : n < 100
  · exact fun w L W k => (dec_2 n (by omega) h2 w L W k).mono fun e w' ⟨a, p, q, r, t⟩ => ⟨a, p, q, by omega, t⟩
  · exact fun w L W k => (dec_3 n (by omega) h w L W k).mono fun e w' ⟨a, p, q, r, t⟩ => ⟨a, p, q, by omega, t⟩
set_option maxRecDepth 100000 in
set_option maxHeartbeats 4000000 in
theorem rsigned_lo (v : Nat) (h : v < 128) : HeldS 27 #[.int .u8 (v : Nat)] (rsgnL v) 10 := heldS fun W hW => by
  have k0 := NB.start hW
  obtain ⟨a, ha⟩ : ∃ a, v = a := ⟨_, rfl⟩
  have H1 := dec_any a (by omega)
  have hR : rsgnL v = 43 :: decL a := by unfold rsgnL; rw [if_neg (by omega), ← ha]
  rw [hR]
  have i1 : ¬ (128 : Int) ≤ (v : Int) := by omega
  have e1 : (v : Int) = (a : Int) := by omega
  generalize decL a = A at *
  have HC1 := Lib.hid H1
  clear H1 hR ha
  go_enter Tryz.func27, Tryz.ntmps27
  go_wp2_with (go_at_call 47; refine (HC1.out _ _ _ k0).mono ?_; rintro e w1 ⟨a1, rfl, ha1, hz1, k1⟩)
  all_goals first
    | (exfalso; (try simp only [ByteArray.size_append, size_mk, bs_size, List.length_cons, List.length_nil] at *); omega)
    | (go_ret; exact ⟨_, rfl, by simp [*], by (try simp only [ByteArray.size_append, size_mk, List.length_cons, List.length_nil]); omega, k1.bel⟩)
set_option maxRecDepth 100000 in
set_option maxHeartbeats 4000000 in
theorem rsigned_hi (v : Nat) (h0 : 128 ≤ v) (h : v < 256) : HeldS 27 #[.int .u8 (v : Nat)] (rsgnL v) 10 := heldS fun W hW => by
  have k0 := NB.start hW
  obtain ⟨a, ha⟩ : ∃ a, 256 - v = a := ⟨_, rfl⟩
  have H1 := dec_any a (by omega)
  have hR : rsgnL v = 45 :: decL a := by unfold rsgnL; rw [if_pos h0, ← ha]
  rw [hR]
  have i1 : (128 : Int) ≤ (v : Int) := by omega
  have e1 : (256 : Int) - (v : Int) = (a : Int) := by omega
  generalize decL a = A at *
  have HC1 := Lib.hid H1
  clear H1 hR ha
  go_enter Tryz.func27, Tryz.ntmps27
  go_wp2_with (go_at_call 47; refine (HC1.out _ _ _ k0).mono ?_; rintro e w1 ⟨a1, rfl, ha1, hz1, k1⟩)
  all_goals first
    | (exfalso; (try simp only [ByteArray.size_append, size_mk, bs_size, List.length_cons, List.length_nil] at *); omega)
    | (go_ret; exact ⟨_, rfl, by simp [*], by (try simp only [ByteArray.size_append, size_mk, List.length_cons, List.length_nil]); omega, k1.bel⟩)
theorem rsigned_any (v : Nat) (hv : v < 256) : HeldS 27 #[.int .u8 (v : Nat)] (rsgnL v) 10 := by
  by_cases h : v < 128
  · exact rsigned_lo v h
  · exact rsigned_hi v (by omega) hv
end Nm
end Go.Proofs.YtnhgmdfmhmkpgaaGreatDoor
