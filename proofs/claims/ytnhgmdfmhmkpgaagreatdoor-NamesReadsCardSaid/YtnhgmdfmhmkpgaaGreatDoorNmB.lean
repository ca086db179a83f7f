/- What instructions are called (layer 11): fill. No conditions but those stated. -/
import Derived.Test.YtnhgmdfmhmkpgaaGreatDoorNmA
import Derived.RegionTactic
import Derived.LoopTactic
import Derived.Deep.RegionHeld3
import Derived.Deep.DeepCutAuto
import Derived.Lib.Hide
namespace Go.Proofs.YtnhgmdfmhmkpgaaGreatDoor
open Go.RowKit
open Kit
set_option linter.unusedSimpArgs false
set_option linter.unusedVariables false
namespace Nm
set_option maxRecDepth 100000 in
set_option maxHeartbeats 4000000 in
theorem fill_A (w : World) (v : Value) (zs : List UInt8) (hB : BytesOf w v zs) (a : Nat) (ha : a ≤ 4) (sb : Nat) (hsb : w.heap.size ≤ sb) (hw : GV w) (P : ByteArray) (hP : P.size ≤ 45) (d : Nat) (hd : d < 256) (tk : Bool) (hq : Lib.contains P.data.toList [43, 100] = false) (W : World) (k : NB w [(sb, #[v, .int .i64 (a : Nat)], 42)] W) : Calls Tryz.prog 22 #[.pointer (some ⟨sb, 0, none⟩), .string P, .int .u8 (d : Nat), .bool tk] W fun e w' => ∃ (s : ByteArray) (n : Nat), e = .returned (.tuple #[.string s, .int .i64 (n : Nat)]) ∧ (s.data.toList, n) = fillL P.data.toList d tk (byt zs) a ∧ s.size ≤ 100 ∧ NB w [] w' := by
  have b0 : byt zs a < 256 := (zs.getD a 0).toNat_lt
  have b1 : byt zs (a + 1) < 256 := (zs.getD (a + 1) 0).toNat_lt
  have b2 : byt zs (a + 1 + 1) < 256 := (zs.getD (a + 1 + 1) 0).toNat_lt
  have HV0 := Lib.hid (nx w v zs hB sb hsb hw a (by omega) (a : Int) ((a : Int) + 1) rfl rfl)
  have HV1 := Lib.hid (nx w v zs hB sb hsb hw (a + 1) (by omega) ((a : Int) + 1) ((a : Int) + 1 + 1) rfl rfl)
  have HV2 := Lib.hid (nx w v zs hB sb hsb hw (a + 1 + 1) (by omega) ((a : Int) + 1 + 1) ((a : Int) + 1 + 1 + 1) rfl rfl)
  have hc0 := contains_any P { data := #[43, 100] } (by omega)
  rw [show ({ data := #[43, 100] } : ByteArray).data.toList = [43, 100] from rfl, hq] at hc0
  have HC0 := Lib.hid hc0
  have hst : st1 P.data.toList d tk (byt zs) a = (P.data.toList, a) := by unfold st1; rw [hq]; rfl
  have hF : fillL P.data.toList d tk (byt zs) a = st2 (P.data.toList) (byt zs) (a) := by unfold fillL; rw [hst]
  clear hc0 hst hq
  obtain ⟨Q, hQ⟩ : ∃ Q, P.data.toList = Q := ⟨_, rfl⟩
  rw [hQ] at hF
  have HQ := Lib.hid hQ
  have hPQ : P.data.toList = Q := hQ
  have hH := hex_any (256 * byt zs (a + 1) + byt zs (a)) 4 (by omega) (by omega) (hx_len 3 3 _ (by omega))
  have hH4 : HeldS 46 #[.int .i64 (256 * (byt zs (a + 1) : Int) + (byt zs (a) : Int)), .int .i64 4] (hexL (256 * byt zs (a + 1) + byt zs (a)) 4) 20 := hH
  have hH' := hex_any (byt zs (a)) 2 (by omega) (by omega) (hx_len 1 3 _ (by omega))
  have hH2 : HeldS 46 #[.int .i64 (byt zs (a) : Int), .int .i64 2] (hexL (byt zs (a)) 2) 20 := hH'
  have HH4 := Lib.hid hH4
  have HH2 := Lib.hid hH2
  have wr1 : IntKind.i64.wrap (256 * (byt zs (a + 1) : Int)) = 256 * (byt zs (a + 1) : Int) := by rw [IntKind.wrap_i64]; omega
  have wr2 : IntKind.i64.wrap (256 * (byt zs (a + 1) : Int) + (byt zs (a) : Int)) = 256 * (byt zs (a + 1) : Int) + (byt zs (a) : Int) := by rw [IntKind.wrap_i64]; omega
  clear hH hH4 hH' hH2 hQ
  have hcon : ∀ (lit : ByteArray) (c : Bool), Lib.contains Q lit.data.toList = c → ∀ s : ByteArray, s.data.toList = Q → s.size ≤ 60 → Held 35 #[.string s, .string lit] (.bool c) := fun lit c hc s hs hz => by
    have := contains_any s lit (by omega)
    rw [hs, hc] at this
    exact this
  cases q1 : Lib.contains Q [110, 110]
  case' true =>
    have HCn := Lib.hid (hcon { data := #[110, 110] } true q1)
    have hR : st2 Q (byt zs) (a) = (Lib.replace Q [110, 110] (hexL (256 * byt zs (a + 1) + byt zs (a)) 4) 1, a + 2) := by unfold st2; rw [q1]; rfl
    have HC1 := HCn; have HC2 := HCn
  case' false =>
    have HCn := Lib.hid (hcon { data := #[110, 110] } false q1)
    cases q2 : Lib.contains Q [110]
    case' true =>
      have HC1 := Lib.hid (hcon { data := #[110] } true q2)
      have hR : st2 Q (byt zs) (a) = (Lib.replace Q [110] (hexL (byt zs (a)) 2) 1, a + 1) := by unfold st2; rw [q1, q2]; rfl
      have HC2 := HC1
    case' false =>
      have HC1 := Lib.hid (hcon { data := #[110] } false q2)
      cases q3 : Lib.contains Q [101]
      case' true =>
        have HC2 := Lib.hid (hcon { data := #[101] } true q3)
        have hR : st2 Q (byt zs) (a) = (Lib.replace Q [101] (sgnL (byt zs (a))) 1, a + 1) := by unfold st2; rw [q1, q2, q3]; rfl
      case' false =>
        have HC2 := Lib.hid (hcon { data := #[101] } false q3)
        have hR : st2 Q (byt zs) (a) = (Q, a) := by unfold st2; rw [q1, q2, q3]; rfl
  all_goals
    rw [hR] at hF
    have HF := Lib.hid hF
    clear hF hR hcon
    generalize byt zs (a + 1 + 1) = x2 at *
    generalize byt zs (a + 1) = x1 at *
    generalize byt zs a = x0 at *
    go_enter Tryz.func22, Tryz.ntmps22
    go_upto_region 12 with (first | (go_at_call 35; (with_reducible refine (HC0.out _ _ _ (by assumption)).mono ?_); rintro e w1 ⟨rfl, k1⟩) | (go_at_call 35; (with_reducible refine (HCn.out _ (by first | assumption | (rw [← HQ.out, har, hss]; done) | (rw [← HQ.out, har, hss]; rfl)) (by omega) _ _ _ (by assumption)).mono ?_); rintro e wc ⟨rfl, kc⟩) | (go_at_call 35; (with_reducible refine (HC1.out _ (by first | assumption | (rw [← HQ.out, har, hss]; done) | (rw [← HQ.out, har, hss]; rfl)) (by omega) _ _ _ (by assumption)).mono ?_); rintro e wc ⟨rfl, kc⟩) | (go_at_call 35; (with_reducible refine (HC2.out _ (by first | assumption | (rw [← HQ.out, har, hss]; done) | (rw [← HQ.out, har, hss]; rfl)) (by omega) _ _ _ (by assumption)).mono ?_); rintro e wc ⟨rfl, kc⟩) | (go_at_call 21; (with_reducible refine (HV0.out _ (by assumption)).mono ?_); rintro e wn0 ⟨rfl, kn0⟩) | (go_at_call 21; (with_reducible refine (HV1.out _ (by assumption)).mono ?_); rintro e wn1 ⟨rfl, kn1⟩) | (go_at_call 21; (with_reducible refine (HV2.out _ (by assumption)).mono ?_); rintro e wn2 ⟨rfl, kn2⟩) | (go_at_call 45; (with_reducible refine (signed_any _ (by omega) _ _ _ (by assumption)).mono ?_); rintro e ws ⟨ss, rfl, hss, hzs, ks⟩) | (go_at_call 46; (with_reducible refine (HH4.out _ _ _ (by assumption)).mono ?_); rintro e wh4 ⟨ah4, rfl, hah4, hzh4, kh4⟩) | (go_at_call 46; (with_reducible refine (HH2.out _ _ _ (by assumption)).mono ?_); rintro e wh2 ⟨ah2, rfl, hah2, hzh2, kh2⟩) | (go_at_call 36; (with_reducible refine (replace1 _ _ _ (by decide) (by omega) (by omega) _ _ _ (by assumption)).mono ?_); rintro e wr ⟨ar, rfl, har, hzr, kr⟩))
  all_goals first
    | (have CC := (cell_of _ _ 1 kr.h0).trans rfl; go_region; all_goals (go_wp2_with fail; go_ret2; (first | (exact ⟨_, a + 2, by rfl, by (first | rw [HF.out] | (rw [hPQ, HF.out])) <;> exact Prod.ext (by (have hq1 := HQ.out); simp_all; done) rfl, by (try simp only [ByteArray.size_append, size_mk, List.length_cons, List.length_nil]); omega, NB.sub (by first | assumption | exact NB.drew (by assumption)) (by simp)⟩) | (exact ⟨_, a + 1, by rfl, by (first | rw [HF.out] | (rw [hPQ, HF.out])) <;> exact Prod.ext (by (have hq1 := HQ.out); simp_all; done) rfl, by (try simp only [ByteArray.size_append, size_mk, List.length_cons, List.length_nil]); omega, NB.sub (by first | assumption | exact NB.drew (by assumption)) (by simp)⟩) | (exact ⟨_, a, by rfl, by (first | rw [HF.out] | (rw [hPQ, HF.out])) <;> exact Prod.ext (by (have hq1 := HQ.out); simp_all; done) rfl, by (try simp only [ByteArray.size_append, size_mk, List.length_cons, List.length_nil]); omega, NB.sub (by first | assumption | exact NB.drew (by assumption)) (by simp)⟩))))
    | (have CC := (cell_of _ _ 1 kc.h0).trans rfl; go_region; all_goals (go_wp2_with fail; go_ret2; (first | (exact ⟨_, a + 2, by rfl, by (first | rw [HF.out] | (rw [hPQ, HF.out])) <;> exact Prod.ext (by (have hq1 := HQ.out); simp_all; done) rfl, by (try simp only [ByteArray.size_append, size_mk, List.length_cons, List.length_nil]); omega, NB.sub (by first | assumption | exact NB.drew (by assumption)) (by simp)⟩) | (exact ⟨_, a + 1, by rfl, by (first | rw [HF.out] | (rw [hPQ, HF.out])) <;> exact Prod.ext (by (have hq1 := HQ.out); simp_all; done) rfl, by (try simp only [ByteArray.size_append, size_mk, List.length_cons, List.length_nil]); omega, NB.sub (by first | assumption | exact NB.drew (by assumption)) (by simp)⟩) | (exact ⟨_, a, by rfl, by (first | rw [HF.out] | (rw [hPQ, HF.out])) <;> exact Prod.ext (by (have hq1 := HQ.out); simp_all; done) rfl, by (try simp only [ByteArray.size_append, size_mk, List.length_cons, List.length_nil]); omega, NB.sub (by first | assumption | exact NB.drew (by assumption)) (by simp)⟩))))
set_option maxRecDepth 100000 in
set_option maxHeartbeats 4000000 in
theorem fill_B (w : World) (v : Value) (zs : List UInt8) (hB : BytesOf w v zs) (a : Nat) (ha : a ≤ 4) (sb : Nat) (hsb : w.heap.size ≤ sb) (hw : GV w) (P : ByteArray) (hP : P.size ≤ 45) (d : Nat) (hd : d < 256)  (hq : Lib.contains P.data.toList [43, 100] = true) (W : World) (k : NB w [(sb, #[v, .int .i64 (a : Nat)], 42)] W) : Calls Tryz.prog 22 #[.pointer (some ⟨sb, 0, none⟩), .string P, .int .u8 (d : Nat), .bool true] W fun e w' => ∃ (s : ByteArray) (n : Nat), e = .returned (.tuple #[.string s, .int .i64 (n : Nat)]) ∧ (s.data.toList, n) = fillL P.data.toList d true (byt zs) a ∧ s.size ≤ 100 ∧ NB w [] w' := by
  have b0 : byt zs a < 256 := (zs.getD a 0).toNat_lt
  have b1 : byt zs (a + 1) < 256 := (zs.getD (a + 1) 0).toNat_lt
  have b2 : byt zs (a + 1 + 1) < 256 := (zs.getD (a + 1 + 1) 0).toNat_lt
  have HV0 := Lib.hid (nx w v zs hB sb hsb hw a (by omega) (a : Int) ((a : Int) + 1) rfl rfl)
  have HV1 := Lib.hid (nx w v zs hB sb hsb hw (a + 1) (by omega) ((a : Int) + 1) ((a : Int) + 1 + 1) rfl rfl)
  have HV2 := Lib.hid (nx w v zs hB sb hsb hw (a + 1 + 1) (by omega) ((a : Int) + 1 + 1) ((a : Int) + 1 + 1 + 1) rfl rfl)
  have hc0 := contains_any P { data := #[43, 100] } (by omega)
  rw [show ({ data := #[43, 100] } : ByteArray).data.toList = [43, 100] from rfl, hq] at hc0
  have HC0 := Lib.hid hc0
  have hst : st1 P.data.toList d true (byt zs) a = (Lib.replace P.data.toList [43, 100] (sgnL d) 1, a) := by unfold st1; rw [hq]; rfl
  have hF : fillL P.data.toList d true (byt zs) a = st2 (Lib.replace P.data.toList [43, 100] (sgnL d) 1) (byt zs) (a) := by unfold fillL; rw [hst]
  clear hc0 hst hq
  obtain ⟨Q, hQ⟩ : ∃ Q, Lib.replace P.data.toList [43, 100] (sgnL d) 1 = Q := ⟨_, rfl⟩
  rw [hQ] at hF
  have HQ := Lib.hid hQ
  skip
  have hH := hex_any (256 * byt zs (a + 1) + byt zs (a)) 4 (by omega) (by omega) (hx_len 3 3 _ (by omega))
  have hH4 : HeldS 46 #[.int .i64 (256 * (byt zs (a + 1) : Int) + (byt zs (a) : Int)), .int .i64 4] (hexL (256 * byt zs (a + 1) + byt zs (a)) 4) 20 := hH
  have hH' := hex_any (byt zs (a)) 2 (by omega) (by omega) (hx_len 1 3 _ (by omega))
  have hH2 : HeldS 46 #[.int .i64 (byt zs (a) : Int), .int .i64 2] (hexL (byt zs (a)) 2) 20 := hH'
  have HH4 := Lib.hid hH4
  have HH2 := Lib.hid hH2
  have wr1 : IntKind.i64.wrap (256 * (byt zs (a + 1) : Int)) = 256 * (byt zs (a + 1) : Int) := by rw [IntKind.wrap_i64]; omega
  have wr2 : IntKind.i64.wrap (256 * (byt zs (a + 1) : Int) + (byt zs (a) : Int)) = 256 * (byt zs (a + 1) : Int) + (byt zs (a) : Int) := by rw [IntKind.wrap_i64]; omega
  clear hH hH4 hH' hH2 hQ
  have hcon : ∀ (lit : ByteArray) (c : Bool), Lib.contains Q lit.data.toList = c → ∀ s : ByteArray, s.data.toList = Q → s.size ≤ 60 → Held 35 #[.string s, .string lit] (.bool c) := fun lit c hc s hs hz => by
    have := contains_any s lit (by omega)
    rw [hs, hc] at this
    exact this
  cases q1 : Lib.contains Q [110, 110]
  case' true =>
    have HCn := Lib.hid (hcon { data := #[110, 110] } true q1)
    have hR : st2 Q (byt zs) (a) = (Lib.replace Q [110, 110] (hexL (256 * byt zs (a + 1) + byt zs (a)) 4) 1, a + 2) := by unfold st2; rw [q1]; rfl
    have HC1 := HCn; have HC2 := HCn
  case' false =>
    have HCn := Lib.hid (hcon { data := #[110, 110] } false q1)
    cases q2 : Lib.contains Q [110]
    case' true =>
      have HC1 := Lib.hid (hcon { data := #[110] } true q2)
      have hR : st2 Q (byt zs) (a) = (Lib.replace Q [110] (hexL (byt zs (a)) 2) 1, a + 1) := by unfold st2; rw [q1, q2]; rfl
      have HC2 := HC1
    case' false =>
      have HC1 := Lib.hid (hcon { data := #[110] } false q2)
      cases q3 : Lib.contains Q [101]
      case' true =>
        have HC2 := Lib.hid (hcon { data := #[101] } true q3)
        have hR : st2 Q (byt zs) (a) = (Lib.replace Q [101] (sgnL (byt zs (a))) 1, a + 1) := by unfold st2; rw [q1, q2, q3]; rfl
      case' false =>
        have HC2 := Lib.hid (hcon { data := #[101] } false q3)
        have hR : st2 Q (byt zs) (a) = (Q, a) := by unfold st2; rw [q1, q2, q3]; rfl
  all_goals
    rw [hR] at hF
    have HF := Lib.hid hF
    clear hF hR hcon
    generalize byt zs (a + 1 + 1) = x2 at *
    generalize byt zs (a + 1) = x1 at *
    generalize byt zs a = x0 at *
    go_enter Tryz.func22, Tryz.ntmps22
    go_upto_region 12 with (first | (go_at_call 35; (with_reducible refine (HC0.out _ _ _ (by assumption)).mono ?_); rintro e w1 ⟨rfl, k1⟩) | (go_at_call 35; (with_reducible refine (HCn.out _ (by first | assumption | (rw [← HQ.out, har, hss]; done) | (rw [← HQ.out, har, hss]; rfl)) (by omega) _ _ _ (by assumption)).mono ?_); rintro e wc ⟨rfl, kc⟩) | (go_at_call 35; (with_reducible refine (HC1.out _ (by first | assumption | (rw [← HQ.out, har, hss]; done) | (rw [← HQ.out, har, hss]; rfl)) (by omega) _ _ _ (by assumption)).mono ?_); rintro e wc ⟨rfl, kc⟩) | (go_at_call 35; (with_reducible refine (HC2.out _ (by first | assumption | (rw [← HQ.out, har, hss]; done) | (rw [← HQ.out, har, hss]; rfl)) (by omega) _ _ _ (by assumption)).mono ?_); rintro e wc ⟨rfl, kc⟩) | (go_at_call 21; (with_reducible refine (HV0.out _ (by assumption)).mono ?_); rintro e wn0 ⟨rfl, kn0⟩) | (go_at_call 21; (with_reducible refine (HV1.out _ (by assumption)).mono ?_); rintro e wn1 ⟨rfl, kn1⟩) | (go_at_call 21; (with_reducible refine (HV2.out _ (by assumption)).mono ?_); rintro e wn2 ⟨rfl, kn2⟩) | (go_at_call 45; (with_reducible refine (signed_any _ (by omega) _ _ _ (by assumption)).mono ?_); rintro e ws ⟨ss, rfl, hss, hzs, ks⟩) | (go_at_call 46; (with_reducible refine (HH4.out _ _ _ (by assumption)).mono ?_); rintro e wh4 ⟨ah4, rfl, hah4, hzh4, kh4⟩) | (go_at_call 46; (with_reducible refine (HH2.out _ _ _ (by assumption)).mono ?_); rintro e wh2 ⟨ah2, rfl, hah2, hzh2, kh2⟩) | (go_at_call 36; (with_reducible refine (replace1 _ _ _ (by decide) (by omega) (by omega) _ _ _ (by assumption)).mono ?_); rintro e wr ⟨ar, rfl, har, hzr, kr⟩))
  all_goals first
    | (have CC := (cell_of _ _ 1 kr.h0).trans rfl; go_region; all_goals (go_wp2_with fail; go_ret2; (first | (exact ⟨_, a + 2, by rfl, by (first | rw [HF.out] | (rw [hPQ, HF.out])) <;> exact Prod.ext (by (have hq1 := HQ.out); simp_all; done) rfl, by (try simp only [ByteArray.size_append, size_mk, List.length_cons, List.length_nil]); omega, NB.sub (by first | assumption | exact NB.drew (by assumption)) (by simp)⟩) | (exact ⟨_, a + 1, by rfl, by (first | rw [HF.out] | (rw [hPQ, HF.out])) <;> exact Prod.ext (by (have hq1 := HQ.out); simp_all; done) rfl, by (try simp only [ByteArray.size_append, size_mk, List.length_cons, List.length_nil]); omega, NB.sub (by first | assumption | exact NB.drew (by assumption)) (by simp)⟩) | (exact ⟨_, a, by rfl, by (first | rw [HF.out] | (rw [hPQ, HF.out])) <;> exact Prod.ext (by (have hq1 := HQ.out); simp_all; done) rfl, by (try simp only [ByteArray.size_append, size_mk, List.length_cons, List.length_nil]); omega, NB.sub (by first | assumption | exact NB.drew (by assumption)) (by simp)⟩))))
    | (have CC := (cell_of _ _ 1 kc.h0).trans rfl; go_region; all_goals (go_wp2_with fail; go_ret2; (first | (exact ⟨_, a + 2, by rfl, by (first | rw [HF.out] | (rw [hPQ, HF.out])) <;> exact Prod.ext (by (have hq1 := HQ.out); simp_all; done) rfl, by (try simp only [ByteArray.size_append, size_mk, List.length_cons, List.length_nil]); omega, NB.sub (by first | assumption | exact NB.drew (by assumption)) (by simp)⟩) | (exact ⟨_, a + 1, by rfl, by (first | rw [HF.out] | (rw [hPQ, HF.out])) <;> exact Prod.ext (by (have hq1 := HQ.out); simp_all; done) rfl, by (try simp only [ByteArray.size_append, size_mk, List.length_cons, List.length_nil]); omega, NB.sub (by first | assumption | exact NB.drew (by assumption)) (by simp)⟩) | (exact ⟨_, a, by rfl, by (first | rw [HF.out] | (rw [hPQ, HF.out])) <;> exact Prod.ext (by (have hq1 := HQ.out); simp_all; done) rfl, by (try simp only [ByteArray.size_append, size_mk, List.length_cons, List.length_nil]); omega, NB.sub (by first | assumption | exact NB.drew (by assumption)) (by simp)⟩))))
set_option maxRecDepth 100000 in
set_option maxHeartbeats 4000000 in
theorem fill_C (w : World) (v : Value) (zs : List UInt8) (hB : BytesOf w v zs) (a : Nat) (ha : a ≤ 4) (sb : Nat) (hsb : w.heap.size ≤ sb) (hw : GV w) (P : ByteArray) (hP : P.size ≤ 45) (d : Nat) (hd : d < 256)  (hq : Lib.contains P.data.toList [43, 100] = true) (W : World) (k : NB w [(sb, #[v, .int .i64 (a : Nat)], 42)] W) : Calls Tryz.prog 22 #[.pointer (some ⟨sb, 0, none⟩), .string P, .int .u8 (d : Nat), .bool false] W fun e w' => ∃ (s : ByteArray) (n : Nat), e = .returned (.tuple #[.string s, .int .i64 (n : Nat)]) ∧ (s.data.toList, n) = fillL P.data.toList d false (byt zs) a ∧ s.size ≤ 100 ∧ NB w [] w' := by
  have b0 : byt zs a < 256 := (zs.getD a 0).toNat_lt
  have b1 : byt zs (a + 1) < 256 := (zs.getD (a + 1) 0).toNat_lt
  have b2 : byt zs (a + 1 + 1) < 256 := (zs.getD (a + 1 + 1) 0).toNat_lt
  have HV0 := Lib.hid (nx w v zs hB sb hsb hw a (by omega) (a : Int) ((a : Int) + 1) rfl rfl)
  have HV1 := Lib.hid (nx w v zs hB sb hsb hw (a + 1) (by omega) ((a : Int) + 1) ((a : Int) + 1 + 1) rfl rfl)
  have HV2 := Lib.hid (nx w v zs hB sb hsb hw (a + 1 + 1) (by omega) ((a : Int) + 1 + 1) ((a : Int) + 1 + 1 + 1) rfl rfl)
  have hc0 := contains_any P { data := #[43, 100] } (by omega)
  rw [show ({ data := #[43, 100] } : ByteArray).data.toList = [43, 100] from rfl, hq] at hc0
  have HC0 := Lib.hid hc0
  have hst : st1 P.data.toList d false (byt zs) a = (Lib.replace P.data.toList [43, 100] (sgnL (byt zs a)) 1, a + 1) := by unfold st1; rw [hq]; rfl
  have hF : fillL P.data.toList d false (byt zs) a = st2 (Lib.replace P.data.toList [43, 100] (sgnL (byt zs a)) 1) (byt zs) (a + 1) := by unfold fillL; rw [hst]
  clear hc0 hst hq
  obtain ⟨Q, hQ⟩ : ∃ Q, Lib.replace P.data.toList [43, 100] (sgnL (byt zs a)) 1 = Q := ⟨_, rfl⟩
  rw [hQ] at hF
  have HQ := Lib.hid hQ
  skip
  have hH := hex_any (256 * byt zs (a + 1 + 1) + byt zs (a + 1)) 4 (by omega) (by omega) (hx_len 3 3 _ (by omega))
  have hH4 : HeldS 46 #[.int .i64 (256 * (byt zs (a + 1 + 1) : Int) + (byt zs (a + 1) : Int)), .int .i64 4] (hexL (256 * byt zs (a + 1 + 1) + byt zs (a + 1)) 4) 20 := hH
  have hH' := hex_any (byt zs (a + 1)) 2 (by omega) (by omega) (hx_len 1 3 _ (by omega))
  have hH2 : HeldS 46 #[.int .i64 (byt zs (a + 1) : Int), .int .i64 2] (hexL (byt zs (a + 1)) 2) 20 := hH'
  have HH4 := Lib.hid hH4
  have HH2 := Lib.hid hH2
  have wr1 : IntKind.i64.wrap (256 * (byt zs (a + 1 + 1) : Int)) = 256 * (byt zs (a + 1 + 1) : Int) := by rw [IntKind.wrap_i64]; omega
  have wr2 : IntKind.i64.wrap (256 * (byt zs (a + 1 + 1) : Int) + (byt zs (a + 1) : Int)) = 256 * (byt zs (a + 1 + 1) : Int) + (byt zs (a + 1) : Int) := by rw [IntKind.wrap_i64]; omega
  clear hH hH4 hH' hH2 hQ
  have hcon : ∀ (lit : ByteArray) (c : Bool), Lib.contains Q lit.data.toList = c → ∀ s : ByteArray, s.data.toList = Q → s.size ≤ 60 → Held 35 #[.string s, .string lit] (.bool c) := fun lit c hc s hs hz => by
    have := contains_any s lit (by omega)
    rw [hs, hc] at this
    exact this
  cases q1 : Lib.contains Q [110, 110]
  case' true =>
    have HCn := Lib.hid (hcon { data := #[110, 110] } true q1)
    have hR : st2 Q (byt zs) (a + 1) = (Lib.replace Q [110, 110] (hexL (256 * byt zs (a + 1 + 1) + byt zs (a + 1)) 4) 1, a + 1 + 2) := by unfold st2; rw [q1]; rfl
    have HC1 := HCn; have HC2 := HCn
  case' false =>
    have HCn := Lib.hid (hcon { data := #[110, 110] } false q1)
    cases q2 : Lib.contains Q [110]
    case' true =>
      have HC1 := Lib.hid (hcon { data := #[110] } true q2)
      have hR : st2 Q (byt zs) (a + 1) = (Lib.replace Q [110] (hexL (byt zs (a + 1)) 2) 1, a + 1 + 1) := by unfold st2; rw [q1, q2]; rfl
      have HC2 := HC1
    case' false =>
      have HC1 := Lib.hid (hcon { data := #[110] } false q2)
      cases q3 : Lib.contains Q [101]
      case' true =>
        have HC2 := Lib.hid (hcon { data := #[101] } true q3)
        have hR : st2 Q (byt zs) (a + 1) = (Lib.replace Q [101] (sgnL (byt zs (a + 1))) 1, a + 1 + 1) := by unfold st2; rw [q1, q2, q3]; rfl
      case' false =>
        have HC2 := Lib.hid (hcon { data := #[101] } false q3)
        have hR : st2 Q (byt zs) (a + 1) = (Q, a + 1) := by unfold st2; rw [q1, q2, q3]; rfl
  all_goals
    rw [hR] at hF
    have HF := Lib.hid hF
    clear hF hR hcon
    generalize byt zs (a + 1 + 1) = x2 at *
    generalize byt zs (a + 1) = x1 at *
    generalize byt zs a = x0 at *
    go_enter Tryz.func22, Tryz.ntmps22
    go_upto_region 12 with (first | (go_at_call 35; (with_reducible refine (HC0.out _ _ _ (by assumption)).mono ?_); rintro e w1 ⟨rfl, k1⟩) | (go_at_call 35; (with_reducible refine (HCn.out _ (by first | assumption | (rw [← HQ.out, har, hss]; done) | (rw [← HQ.out, har, hss]; rfl)) (by omega) _ _ _ (by assumption)).mono ?_); rintro e wc ⟨rfl, kc⟩) | (go_at_call 35; (with_reducible refine (HC1.out _ (by first | assumption | (rw [← HQ.out, har, hss]; done) | (rw [← HQ.out, har, hss]; rfl)) (by omega) _ _ _ (by assumption)).mono ?_); rintro e wc ⟨rfl, kc⟩) | (go_at_call 35; (with_reducible refine (HC2.out _ (by first | assumption | (rw [← HQ.out, har, hss]; done) | (rw [← HQ.out, har, hss]; rfl)) (by omega) _ _ _ (by assumption)).mono ?_); rintro e wc ⟨rfl, kc⟩) | (go_at_call 21; (with_reducible refine (HV0.out _ (by assumption)).mono ?_); rintro e wn0 ⟨rfl, kn0⟩) | (go_at_call 21; (with_reducible refine (HV1.out _ (by assumption)).mono ?_); rintro e wn1 ⟨rfl, kn1⟩) | (go_at_call 21; (with_reducible refine (HV2.out _ (by assumption)).mono ?_); rintro e wn2 ⟨rfl, kn2⟩) | (go_at_call 45; (with_reducible refine (signed_any _ (by omega) _ _ _ (by assumption)).mono ?_); rintro e ws ⟨ss, rfl, hss, hzs, ks⟩) | (go_at_call 46; (with_reducible refine (HH4.out _ _ _ (by assumption)).mono ?_); rintro e wh4 ⟨ah4, rfl, hah4, hzh4, kh4⟩) | (go_at_call 46; (with_reducible refine (HH2.out _ _ _ (by assumption)).mono ?_); rintro e wh2 ⟨ah2, rfl, hah2, hzh2, kh2⟩) | (go_at_call 36; (with_reducible refine (replace1 _ _ _ (by decide) (by omega) (by omega) _ _ _ (by assumption)).mono ?_); rintro e wr ⟨ar, rfl, har, hzr, kr⟩))
  all_goals first
    | (have CC := (cell_of _ _ 1 kr.h0).trans rfl; go_region; all_goals (go_wp2_with fail; go_ret2; (first | (exact ⟨_, a + 1 + 2, by rfl, by (first | rw [HF.out] | (rw [hPQ, HF.out])) <;> exact Prod.ext (by (have hq1 := HQ.out); simp_all; done) rfl, by (try simp only [ByteArray.size_append, size_mk, List.length_cons, List.length_nil]); omega, NB.sub (by first | assumption | exact NB.drew (by assumption)) (by simp)⟩) | (exact ⟨_, a + 1 + 1, by rfl, by (first | rw [HF.out] | (rw [hPQ, HF.out])) <;> exact Prod.ext (by (have hq1 := HQ.out); simp_all; done) rfl, by (try simp only [ByteArray.size_append, size_mk, List.length_cons, List.length_nil]); omega, NB.sub (by first | assumption | exact NB.drew (by assumption)) (by simp)⟩) | (exact ⟨_, a + 1, by rfl, by (first | rw [HF.out] | (rw [hPQ, HF.out])) <;> exact Prod.ext (by (have hq1 := HQ.out); simp_all; done) rfl, by (try simp only [ByteArray.size_append, size_mk, List.length_cons, List.length_nil]); omega, NB.sub (by first | assumption | exact NB.drew (by assumption)) (by simp)⟩))))
    | (have CC := (cell_of _ _ 1 kc.h0).trans rfl; go_region; all_goals (go_wp2_with fail; go_ret2; (first | (exact ⟨_, a + 1 + 2, by rfl, by (first | rw [HF.out] | (rw [hPQ, HF.out])) <;> exact Prod.ext (by (have hq1 := HQ.out); simp_all; done) rfl, by (try simp only [ByteArray.size_append, size_mk, List.length_cons, List.length_nil]); omega, NB.sub (by first | assumption | exact NB.drew (by assumption)) (by simp)⟩) | (exact ⟨_, a + 1 + 1, by rfl, by (first | rw [HF.out] | (rw [hPQ, HF.out])) <;> exact Prod.ext (by (have hq1 := HQ.out); simp_all; done) rfl, by (try simp only [ByteArray.size_append, size_mk, List.length_cons, List.length_nil]); omega, NB.sub (by first | assumption | exact NB.drew (by assumption)) (by simp)⟩) | (exact ⟨_, a + 1, by rfl, by (first | rw [HF.out] | (rw [hPQ, HF.out])) <;> exact Prod.ext (by (have hq1 := HQ.out); simp_all; done) rfl, by (try simp only [ByteArray.size_append, size_mk, List.length_cons, List.length_nil]); omega, NB.sub (by first | assumption | exact NB.drew (by assumption)) (by simp)⟩))))
theorem fill_any (w : World) (v : Value) (zs : List UInt8) (hB : BytesOf w v zs) (a : Nat) (ha : a ≤ 4) (sb : Nat) (hsb : w.heap.size ≤ sb) (hw : GV w) (P : ByteArray) (hP : P.size ≤ 45) (d : Nat) (hd : d < 256) (tk : Bool) (W : World) (k : NB w [(sb, #[v, .int .i64 (a : Nat)], 42)] W) : Calls Tryz.prog 22 #[.pointer (some ⟨sb, 0, none⟩), .string P, .int .u8 (d : Nat), .bool tk] W fun e w' => ∃ (s : ByteArray) (n : Nat), e = .returned (.tuple #[.string s, .int .i64 (n : Nat)]) ∧ (s.data.toList, n) = fillL P.data.toList d tk (byt zs) a ∧ s.size ≤ 100 ∧ NB w [] w' := by
  cases hq : Lib.contains P.data.toList [43, 100]
  · exact fill_A w v zs hB a ha sb hsb hw P hP d hd tk hq W k
  · cases tk
    · exact fill_C w v zs hB a ha sb hsb hw P hP d hd hq W k
    · exact fill_B w v zs hB a ha sb hsb hw P hP d hd hq W k
end Nm
end Go.Proofs.YtnhgmdfmhmkpgaaGreatDoor
