/- What instructions are called (layer 11): hex, signed. No conditions but those stated. -/
import Derived.Test.YtnhgmdfmhmkpgaaGreatDoorNmF
import Derived.Test.YtnhgmdfmhmkpgaaGreatDoorNm3
import Derived.RegionTactic
import Derived.LoopTactic
import Derived.Deep.RegionHeld3
import Derived.Deep.DeepCutAuto
import Derived.Lib.Hide
namespace Go.Proofs.YtnhgmdfmhmkpgaaGreatDoor
open Go.RowKit
open Kit
set_option linter.unusedSimpArgs false
set_option linter.unusedVariables false
namespace Nm
theorem dgc_lt : ∀ k : Fin 16, (dgc k.val).toNat < 128 := by decide +kernel
theorem hx_asc : ∀ (n v : Nat), v < 16 ^ (n + 1) → ∀ x ∈ hx n v, x.toNat < 128
  | 0, v, h, x, hx' => by
    rw [hx, List.mem_singleton] at hx'
    subst hx'
    exact dgc_lt ⟨v, by simpa using h⟩
  | n + 1, v, h, x, hx' => by
    rw [hx] at hx'
    split at hx'
    · rw [List.mem_singleton] at hx'
      subst hx'
      exact dgc_lt ⟨v, by assumption⟩
    · rcases List.mem_append.1 hx' with h' | h'
      · exact hx_asc n (v / 16) (by rw [Nat.pow_succ] at h; omega) x h'
      · rw [List.mem_singleton] at h'
        subst h'
        exact dgc_lt ⟨v % 16, by omega⟩
theorem hx_len : ∀ (k n v : Nat), v < 16 ^ (k + 1) → (hx n v).length ≤ k + 1
  | k, 0, v, _ => by simp [hx]
  | 0, n + 1, v, h => by rw [hx, if_pos (by simpa using h)]; simp
  | k + 1, n + 1, v, h => by
    rw [hx]
    split
    · simp
    · have := hx_len k n (v / 16) (by rw [Nat.pow_succ] at h; omega)
      rw [List.length_append, List.length_singleton]; omega
theorem size_rep (c : Nat) : (ByteArray.mk (Array.replicate c 48)).size = c := by show (Array.replicate c (48 : UInt8)).size = c; simp
def hexL (n d : Nat) : Str := 36 :: (List.replicate (d - (Lib.toUpperA (hx 3 n)).length) 48 ++ Lib.toUpperA (hx 3 n))
theorem up_len (l : Str) : (Lib.toUpperA l).length = l.length := by unfold Lib.toUpperA; rw [List.length_map]
theorem repeat_one (c : Nat) : Lib.repeatL [48] c = List.replicate c 48 := by
  induction c with
  | zero => rfl
  | succ c ih => simp [Lib.repeatL] at ih ⊢; simp [List.replicate_succ, ih]
set_option maxRecDepth 100000 in
set_option maxHeartbeats 4000000 in
theorem hex_any (n d : Nat) (hn : n < 65536) (hd : d ≤ 10) (hl : (hx 3 n).length ≤ d) : HeldS 46 #[.int .i64 (n : Nat), .int .i64 (d : Nat)] (hexL n d) 20 := heldS fun W hW => by
  have hA := hx_asc 3 n (by omega)
  have hx4 : (hx 3 n).length ≤ 4 := hx_len 3 3 n (by omega)
  have hF := sfmt n hn W hW
  have hR : hexL n d = 36 :: (List.replicate (d - (Lib.toUpperA (hx 3 n)).length) 48 ++ Lib.toUpperA (hx 3 n)) := rfl
  have hul := up_len (hx 3 n)
  have k0 := NB.start hW
  go_enter Tryz.func46, Tryz.ntmps46
  go_upto_region 2 with (first
    | (go_at_call 59; with_reducible refine hF.mono ?_; rintro e w1 ⟨a1, rfl, ha1, b1⟩; (have k1 := k0.below b1))
    | (go_at_call 58; refine (Tryz.strings_ToUpper_ascii a1 w1 (by rw [Lib.size_eq, ha1]; omega) (fun j x hx' => hA x (by rw [ha1] at hx'; exact List.mem_of_getElem? hx'))).mono ?_; rintro e w2 ⟨rfl, b2⟩; (have k2 := k1.below b2)))
  obtain ⟨u, hu⟩ : ∃ u : ByteArray, (⟨(Lib.toUpperA (hx 3 n)).toArray⟩ : ByteArray) = u := ⟨_, rfl⟩
  have hud : u.data.toList = Lib.toUpperA (hx 3 n) := by rw [← hu]
  have hus : u.size = (hx 3 n).length := by rw [Lib.size_eq, hud, hul]
  rw [hu]
  rw [← hud] at hR
  have hlu : u.data.toList.length = u.size := (Lib.size_eq u).symm
  rw [hlu] at hR
  obtain ⟨c, hc⟩ : ∃ c, d - u.size = c := ⟨_, rfl⟩
  have c0 : (d : Int) - (u.size : Int) = (c : Int) := by omega
  rw [hc] at hR
  have hP := Tryz.strings_Repeat ({ data := #[48] } : ByteArray) c
  rw [show (({ data := #[48] } : ByteArray)).data.toList = [48] from rfl, repeat_one] at hP
  have HR := Lib.hid hR
  have HP := Lib.hid hP
  have us4 : u.size ≤ 4 := by omega
  have usd : u.size ≤ d := by omega
  clear hR hP hu hud ha1 hA hF hus hlu hul
  go_wp2_with (go_at_call 60; with_reducible refine (HP.out w2 (by omega) (by rw [show (({ data := #[48] } : ByteArray)).size = 1 from rfl]; omega)).mono ?_; rintro e w3 ⟨rfl, b3⟩; (have k3 := k2.below b3))
  all_goals first | (exfalso; (try simp only [ByteArray.size_append, size_rep, size_mk, List.length_cons, List.length_nil, List.length_replicate] at *); omega) | skip
  go_ret
  exact ⟨_, rfl, by rw [HR.out]; simp, by (try simp only [ByteArray.size_append, size_rep, size_mk, List.length_cons, List.length_nil, List.length_replicate]); omega, k3.bel⟩
def sgnL (v : Nat) : Str := if 128 ≤ v then itoaL ((v : Int) - 256) else 43 :: itoaL (v : Int)
set_option maxRecDepth 100000 in
set_option maxHeartbeats 4000000 in
theorem signed_any (v : Nat) (hv : v < 256) : HeldS 45 #[.int .u8 (v : Nat)] (sgnL v) 5 := heldS' fun W hW => by
  have k0 := NB.start hW
  by_cases h : 128 ≤ v
  · obtain ⟨t, ht⟩ : ∃ t : Int, (v : Int) - 256 = t := ⟨_, rfl⟩
    have f1 : IntKind.i8.wrap (v : Int) = t := by rw [i8_wrap]; omega
    have f3 : t < 0 := by omega
    have f4 : IntKind.i64.wrap t = t := by rw [IntKind.wrap_i64]; omega
    have hR : sgnL v = itoaL t := by unfold sgnL; rw [if_pos h, ht]
    have hI := itoa_any t (by omega) (by omega)
    have HI := Lib.hid hI
    have HR := Lib.hid hR
    clear hI hR ht h hv
    go_enter Tryz.func45, Tryz.ntmps45
    go_wp2_with (go_at_call 33; with_reducible refine (HI.out _ _ _ k0).mono ?_; rintro e w1 ⟨a1, rfl, ha1, hz1, k1⟩)
    go_ret
    exact ⟨_, rfl, by rw [HR.out]; exact ha1, by omega, _, k1⟩
  · obtain ⟨t, ht⟩ : ∃ t : Int, (v : Int) = t := ⟨_, rfl⟩
    have f1 : IntKind.i8.wrap (v : Int) = (v : Int) := by rw [i8_wrap]; omega
    have f3 : ¬ (v : Int) < 0 := by omega
    have f4 : IntKind.i64.wrap (v : Int) = (v : Int) := by rw [IntKind.wrap_i64]; omega
    have hR : sgnL v = 43 :: itoaL (v : Int) := by unfold sgnL; rw [if_neg h]
    have hI := itoa_any (v : Int) (by omega) (by omega)
    have HI := Lib.hid hI
    have HR := Lib.hid hR
    clear hI hR h hv ht
    go_enter Tryz.func45, Tryz.ntmps45
    go_wp2_with (go_at_call 33; with_reducible refine (HI.out _ _ _ k0).mono ?_; rintro e w1 ⟨a1, rfl, ha1, hz1, k1⟩)
    all_goals first | (exfalso; (try simp only [ByteArray.size_append, size_mk, List.length_cons, List.length_nil] at *); omega) | skip
    go_ret
    exact ⟨_, rfl, by rw [HR.out]; simp [ha1], by (try simp only [ByteArray.size_append, size_mk, List.length_cons, List.length_nil]); omega, _, k1⟩
end Nm
end Go.Proofs.YtnhgmdfmhmkpgaaGreatDoor
