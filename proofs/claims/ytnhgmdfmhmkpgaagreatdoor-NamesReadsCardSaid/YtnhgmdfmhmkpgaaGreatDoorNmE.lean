/- What instructions are called (layer 11): Name. No conditions but those stated. -/
import Derived.Test.YtnhgmdfmhmkpgaaGreatDoorNmD
import Derived.RegionTactic
import Derived.LoopTactic
import Derived.Deep.RegionHeld3
import Derived.Deep.DeepCutAuto
import Derived.Lib.Hide
namespace Go.Proofs.YtnhgmdfmhmkpgaaGreatDoor
open Go.RowKit
open Kit
set_option linter.unusedSimpArgs false
set_option linter.unusedVariables false
namespace Nm
set_option maxRecDepth 100000 in
set_option maxHeartbeats 4000000 in
theorem name_a (zs : List UInt8) (v : Value) (w : World) (hw : GV w) (hB : BytesOf w v zs) (h : byt zs 0 = 203) : Calls Tryz.prog 8 #[v] w fun e w' => ∃ (s : ByteArray) (n : Nat), e = .returned (.tuple #[.string s, .int .i64 (n : Nat)]) ∧ (s.data.toList, n) = nameL (byt zs) ∧ s.size ≤ 5000 ∧ NB w [] w' := by
  obtain ⟨p, cap, rfl, -⟩ := id hB
  obtain ⟨sb, hsb'⟩ : ∃ sb, w.heap.size = sb := ⟨_, rfl⟩
  have hsb : w.heap.size ≤ sb := by omega
  have k0 := (NB.start hw).alloc #[.slice p zs.length cap, .int .i64 0] 42
  rw [hsb'] at k0
  have b0 := byt_lt zs 0
  have b1 := byt_lt zs 1
  have HV0 := Lib.hid (nx w _ zs hB sb hsb hw 0 (by omega) 0 1 rfl rfl)
  have HV1 := Lib.hid (nx w _ zs hB sb hsb hw 1 (by omega) 1 2 rfl rfl)
  have hR : nameL (byt zs) = fillL (patL 1 (byt zs 1)) 0 false (byt zs) 2 := by unfold nameL; rw [if_pos h]
  have HR := Lib.hid hR
  have t203 : ((byt zs 0 : Int) == 203) = true := by rw [h]; decide
  have t237 : ((byt zs 0 : Int) == 237) = false := by rw [h]; decide
  have t253 : ((byt zs 0 : Int) == 253) = false := by rw [h]; decide
  have t221 : ((byt zs 0 : Int) == 221) = false := by rw [h]; decide
  clear h
  clear hR
  generalize hx0 : byt zs 0 = x0 at *
  generalize hx1 : byt zs 1 = x1 at *
  clear hx0 hx1
  go_enter Tryz.func8, Tryz.ntmps8
  go_upto_region 2 with fail
  have HSB := Lib.hid hsb'
  generalize w.alloc (.cells #[.slice p zs.length cap, .int .i64 0] 42) = W1 at *
  clear hsb'
  go_wp2_with (first | (go_at_call 21; (with_reducible refine (HV0.out _ (by assumption)).mono ?_); rintro e wn0 ⟨rfl, kn0⟩) | (go_at_call 21; (with_reducible refine (HV1.out _ (by assumption)).mono ?_); rintro e wn1 ⟨rfl, kn1⟩) | (go_at_call 6; (with_reducible refine (pattern_any _ _ (by omega) _ _ _ (by assumption)).mono ?_); rintro e wp ⟨pa, rfl, hpa, hzp, kp⟩; (have hps : pa.size ≤ 45 := by (rw [Lib.size_eq, hpa]; exact pat_len _ _ (by omega)))) | (go_at_call 22; (refine (fill_any w _ zs hB 2 (by omega) sb hsb hw pa hps 0 (by omega) false _ kp).mono ?_); rintro e wf ⟨fs, fn, rfl, hfs, hfz, kf⟩))
  go_ret2
  exact ⟨_, fn, rfl, by rw [HR.out, hfs, hpa], by omega, kf⟩
set_option maxRecDepth 100000 in
set_option maxHeartbeats 4000000 in
theorem name_b (zs : List UInt8) (v : Value) (w : World) (hw : GV w) (hB : BytesOf w v zs) (h : byt zs 0 = 237) : Calls Tryz.prog 8 #[v] w fun e w' => ∃ (s : ByteArray) (n : Nat), e = .returned (.tuple #[.string s, .int .i64 (n : Nat)]) ∧ (s.data.toList, n) = nameL (byt zs) ∧ s.size ≤ 5000 ∧ NB w [] w' := by
  obtain ⟨p, cap, rfl, -⟩ := id hB
  obtain ⟨sb, hsb'⟩ : ∃ sb, w.heap.size = sb := ⟨_, rfl⟩
  have hsb : w.heap.size ≤ sb := by omega
  have k0 := (NB.start hw).alloc #[.slice p zs.length cap, .int .i64 0] 42
  rw [hsb'] at k0
  have b0 := byt_lt zs 0
  have b1 := byt_lt zs 1
  have HV0 := Lib.hid (nx w _ zs hB sb hsb hw 0 (by omega) 0 1 rfl rfl)
  have HV1 := Lib.hid (nx w _ zs hB sb hsb hw 1 (by omega) 1 2 rfl rfl)
  have hR : nameL (byt zs) = fillL (patL 2 (byt zs 1)) 0 false (byt zs) 2 := by unfold nameL; rw [if_neg (by omega), if_pos h]
  have HR := Lib.hid hR
  have t203 : ((byt zs 0 : Int) == 203) = false := by rw [h]; decide
  have t237 : ((byt zs 0 : Int) == 237) = true := by rw [h]; decide
  have t253 : ((byt zs 0 : Int) == 253) = false := by rw [h]; decide
  have t221 : ((byt zs 0 : Int) == 221) = false := by rw [h]; decide
  clear h
  clear hR
  generalize hx0 : byt zs 0 = x0 at *
  generalize hx1 : byt zs 1 = x1 at *
  clear hx0 hx1
  go_enter Tryz.func8, Tryz.ntmps8
  go_upto_region 2 with fail
  have HSB := Lib.hid hsb'
  generalize w.alloc (.cells #[.slice p zs.length cap, .int .i64 0] 42) = W1 at *
  clear hsb'
  go_wp2_with (first | (go_at_call 21; (with_reducible refine (HV0.out _ (by assumption)).mono ?_); rintro e wn0 ⟨rfl, kn0⟩) | (go_at_call 21; (with_reducible refine (HV1.out _ (by assumption)).mono ?_); rintro e wn1 ⟨rfl, kn1⟩) | (go_at_call 6; (with_reducible refine (pattern_any _ _ (by omega) _ _ _ (by assumption)).mono ?_); rintro e wp ⟨pa, rfl, hpa, hzp, kp⟩; (have hps : pa.size ≤ 45 := by (rw [Lib.size_eq, hpa]; exact pat_len _ _ (by omega)))) | (go_at_call 22; (refine (fill_any w _ zs hB 2 (by omega) sb hsb hw pa hps 0 (by omega) false _ kp).mono ?_); rintro e wf ⟨fs, fn, rfl, hfs, hfz, kf⟩))
  go_ret2
  exact ⟨_, fn, rfl, by rw [HR.out, hfs, hpa], by omega, kf⟩
set_option maxRecDepth 100000 in
set_option maxHeartbeats 4000000 in
theorem name_c (zs : List UInt8) (v : Value) (w : World) (hw : GV w) (hB : BytesOf w v zs) (h : byt zs 0 = 253) : Calls Tryz.prog 8 #[v] w fun e w' => ∃ (s : ByteArray) (n : Nat), e = .returned (.tuple #[.string s, .int .i64 (n : Nat)]) ∧ (s.data.toList, n) = nameL (byt zs) ∧ s.size ≤ 5000 ∧ NB w [] w' := by
  obtain ⟨p, cap, rfl, -⟩ := id hB
  obtain ⟨sb, hsb'⟩ : ∃ sb, w.heap.size = sb := ⟨_, rfl⟩
  have hsb : w.heap.size ≤ sb := by omega
  have k0 := (NB.start hw).alloc #[.slice p zs.length cap, .int .i64 0] 42
  rw [hsb'] at k0
  have b0 := byt_lt zs 0
  have b1 := byt_lt zs 1
  have HV0 := Lib.hid (nx w _ zs hB sb hsb hw 0 (by omega) 0 1 rfl rfl)
  have HV1 := Lib.hid (nx w _ zs hB sb hsb hw 1 (by omega) 1 2 rfl rfl)
  have hR : nameL (byt zs) = prefL 253 4 6 (byt zs) := by unfold nameL; rw [if_neg (by omega), if_neg (by omega), if_pos h]
  have HR := Lib.hid hR
  have t203 : ((byt zs 0 : Int) == 203) = false := by rw [h]; decide
  have t237 : ((byt zs 0 : Int) == 237) = false := by rw [h]; decide
  have t253 : ((byt zs 0 : Int) == 253) = true := by rw [h]; decide
  have t221 : ((byt zs 0 : Int) == 221) = false := by rw [h]; decide
  clear hR
  have HV0 := Lib.hid (show ∀ W, NB w [(sb, #[.slice p zs.length cap, .int .i64 0], 42)] W → Calls Tryz.prog 21 #[.pointer (some ⟨sb, 0, none⟩)] W fun e w' => e = .returned (.int .u8 253) ∧ NB w [(sb, #[.slice p zs.length cap, .int .i64 1], 42)] w' from by have := HV0.out; rw [h] at this; exact this)
  clear t203 t237 t253 t221 h
  generalize hx1 : byt zs 1 = x1 at *
  clear hx1
  go_enter Tryz.func8, Tryz.ntmps8
  go_upto_region 2 with fail
  have HSB := Lib.hid hsb'
  generalize w.alloc (.cells #[.slice p zs.length cap, .int .i64 0] 42) = W1 at *
  clear hsb'
  go_wp2_with (first | (go_at_call 21; (with_reducible refine (HV0.out _ (by assumption)).mono ?_); rintro e wn0 ⟨rfl, kn0⟩) | (go_at_call 21; (with_reducible refine (HV1.out _ (by assumption)).mono ?_); rintro e wn1 ⟨rfl, kn1⟩) | (go_at_call 6; (with_reducible refine (pattern_any _ _ (by omega) _ _ _ (by assumption)).mono ?_); rintro e wp ⟨pa, rfl, hpa, hzp, kp⟩; (have hps : pa.size ≤ 45 := by (rw [Lib.size_eq, hpa]; exact pat_len _ _ (by omega)))) | (go_at_call 23; (refine (pref_any w _ zs hB sb hsb hw 253 (by omega) 4 6 _ (by assumption)).mono ?_); rintro e wf ⟨fs, fn, rfl, hfs, hfz, kf⟩))
  go_ret2
  exact ⟨_, fn, rfl, by rw [HR.out, hfs], by omega, kf⟩
set_option maxRecDepth 100000 in
set_option maxHeartbeats 4000000 in
theorem name_d (zs : List UInt8) (v : Value) (w : World) (hw : GV w) (hB : BytesOf w v zs) (h : byt zs 0 = 221) : Calls Tryz.prog 8 #[v] w fun e w' => ∃ (s : ByteArray) (n : Nat), e = .returned (.tuple #[.string s, .int .i64 (n : Nat)]) ∧ (s.data.toList, n) = nameL (byt zs) ∧ s.size ≤ 5000 ∧ NB w [] w' := by
  obtain ⟨p, cap, rfl, -⟩ := id hB
  obtain ⟨sb, hsb'⟩ : ∃ sb, w.heap.size = sb := ⟨_, rfl⟩
  have hsb : w.heap.size ≤ sb := by omega
  have k0 := (NB.start hw).alloc #[.slice p zs.length cap, .int .i64 0] 42
  rw [hsb'] at k0
  have b0 := byt_lt zs 0
  have b1 := byt_lt zs 1
  have HV0 := Lib.hid (nx w _ zs hB sb hsb hw 0 (by omega) 0 1 rfl rfl)
  have HV1 := Lib.hid (nx w _ zs hB sb hsb hw 1 (by omega) 1 2 rfl rfl)
  have hR : nameL (byt zs) = prefL 221 3 5 (byt zs) := by unfold nameL; rw [if_neg (by omega), if_neg (by omega), if_neg (by omega), if_pos h]
  have HR := Lib.hid hR
  have t203 : ((byt zs 0 : Int) == 203) = false := by rw [h]; decide
  have t237 : ((byt zs 0 : Int) == 237) = false := by rw [h]; decide
  have t253 : ((byt zs 0 : Int) == 253) = false := by rw [h]; decide
  have t221 : ((byt zs 0 : Int) == 221) = true := by rw [h]; decide
  clear hR
  have HV0 := Lib.hid (show ∀ W, NB w [(sb, #[.slice p zs.length cap, .int .i64 0], 42)] W → Calls Tryz.prog 21 #[.pointer (some ⟨sb, 0, none⟩)] W fun e w' => e = .returned (.int .u8 221) ∧ NB w [(sb, #[.slice p zs.length cap, .int .i64 1], 42)] w' from by have := HV0.out; rw [h] at this; exact this)
  clear t203 t237 t253 t221 h
  generalize hx1 : byt zs 1 = x1 at *
  clear hx1
  go_enter Tryz.func8, Tryz.ntmps8
  go_upto_region 2 with fail
  have HSB := Lib.hid hsb'
  generalize w.alloc (.cells #[.slice p zs.length cap, .int .i64 0] 42) = W1 at *
  clear hsb'
  go_wp2_with (first | (go_at_call 21; (with_reducible refine (HV0.out _ (by assumption)).mono ?_); rintro e wn0 ⟨rfl, kn0⟩) | (go_at_call 21; (with_reducible refine (HV1.out _ (by assumption)).mono ?_); rintro e wn1 ⟨rfl, kn1⟩) | (go_at_call 6; (with_reducible refine (pattern_any _ _ (by omega) _ _ _ (by assumption)).mono ?_); rintro e wp ⟨pa, rfl, hpa, hzp, kp⟩; (have hps : pa.size ≤ 45 := by (rw [Lib.size_eq, hpa]; exact pat_len _ _ (by omega)))) | (go_at_call 23; (refine (pref_any w _ zs hB sb hsb hw 221 (by omega) 3 5 _ (by assumption)).mono ?_); rintro e wf ⟨fs, fn, rfl, hfs, hfz, kf⟩))
  go_ret2
  exact ⟨_, fn, rfl, by rw [HR.out, hfs], by omega, kf⟩
set_option maxRecDepth 100000 in
set_option maxHeartbeats 4000000 in
theorem name_e (zs : List UInt8) (v : Value) (w : World) (hw : GV w) (hB : BytesOf w v zs) (h : ¬ (byt zs 0 = 203 ∨ byt zs 0 = 237 ∨ byt zs 0 = 253 ∨ byt zs 0 = 221)) : Calls Tryz.prog 8 #[v] w fun e w' => ∃ (s : ByteArray) (n : Nat), e = .returned (.tuple #[.string s, .int .i64 (n : Nat)]) ∧ (s.data.toList, n) = nameL (byt zs) ∧ s.size ≤ 5000 ∧ NB w [] w' := by
  obtain ⟨p, cap, rfl, -⟩ := id hB
  obtain ⟨sb, hsb'⟩ : ∃ sb, w.heap.size = sb := ⟨_, rfl⟩
  have hsb : w.heap.size ≤ sb := by omega
  have k0 := (NB.start hw).alloc #[.slice p zs.length cap, .int .i64 0] 42
  rw [hsb'] at k0
  have b0 := byt_lt zs 0
  have b1 := byt_lt zs 1
  have HV0 := Lib.hid (nx w _ zs hB sb hsb hw 0 (by omega) 0 1 rfl rfl)
  have HV1 := Lib.hid (nx w _ zs hB sb hsb hw 1 (by omega) 1 2 rfl rfl)
  have hR : nameL (byt zs) = fillL (patL 0 (byt zs 0)) 0 false (byt zs) 1 := by unfold nameL; rw [if_neg (by omega), if_neg (by omega), if_neg (by omega), if_neg (by omega)]
  have HR := Lib.hid hR
  have t203 : ((byt zs 0 : Int) == 203) = false := beq_eq_false_iff_ne.2 (by omega)
  have t237 : ((byt zs 0 : Int) == 237) = false := beq_eq_false_iff_ne.2 (by omega)
  have t253 : ((byt zs 0 : Int) == 253) = false := beq_eq_false_iff_ne.2 (by omega)
  have t221 : ((byt zs 0 : Int) == 221) = false := beq_eq_false_iff_ne.2 (by omega)
  clear h
  clear hR
  generalize hx0 : byt zs 0 = x0 at *
  generalize hx1 : byt zs 1 = x1 at *
  clear hx0 hx1
  go_enter Tryz.func8, Tryz.ntmps8
  go_upto_region 2 with fail
  have HSB := Lib.hid hsb'
  generalize w.alloc (.cells #[.slice p zs.length cap, .int .i64 0] 42) = W1 at *
  clear hsb'
  go_wp2_with (first | (go_at_call 21; (with_reducible refine (HV0.out _ (by assumption)).mono ?_); rintro e wn0 ⟨rfl, kn0⟩) | (go_at_call 21; (with_reducible refine (HV1.out _ (by assumption)).mono ?_); rintro e wn1 ⟨rfl, kn1⟩) | (go_at_call 6; (with_reducible refine (pattern_any _ _ (by omega) _ _ _ (by assumption)).mono ?_); rintro e wp ⟨pa, rfl, hpa, hzp, kp⟩; (have hps : pa.size ≤ 45 := by (rw [Lib.size_eq, hpa]; exact pat_len _ _ (by omega)))) | (go_at_call 22; (refine (fill_any w _ zs hB 1 (by omega) sb hsb hw pa hps 0 (by omega) false _ kp).mono ?_); rintro e wf ⟨fs, fn, rfl, hfs, hfz, kf⟩))
  go_ret2
  exact ⟨_, fn, rfl, by rw [HR.out, hfs, hpa], by omega, kf⟩
theorem name_any (zs : List UInt8) (v : Value) (w : World) (hw : GV w) (hB : BytesOf w v zs) : Calls Tryz.prog 8 #[v] w fun e w' => ∃ (s : ByteArray) (n : Nat), e = .returned (.tuple #[.string s, .int .i64 (n : Nat)]) ∧ (s.data.toList, n) = nameL (byt zs) ∧ s.size ≤ 5000 ∧ NB w [] w' := by
  by_cases h1 : byt zs 0 = 203
  · exact name_a zs v w hw hB h1
  by_cases h2 : byt zs 0 = 237
  · exact name_b zs v w hw hB h2
  by_cases h3 : byt zs 0 = 253
  · exact name_c zs v w hw hB h3
  by_cases h4 : byt zs 0 = 221
  · exact name_d zs v w hw hB h4
  · exact name_e zs v w hw hB (by omega)
end Nm
end Go.Proofs.YtnhgmdfmhmkpgaaGreatDoor
