/- What instructions are called (layer 11): prefixed. No conditions but those stated. -/
import Derived.Test.YtnhgmdfmhmkpgaaGreatDoorNmB
import Derived.Test.YtnhgmdfmhmkpgaaGreatDoorNmP0
import Derived.RegionTactic
import Derived.LoopTactic
import Derived.Deep.RegionHeld3
import Derived.Deep.DeepCutAuto
import Derived.Lib.Hide
namespace Go.Proofs.YtnhgmdfmhmkpgaaGreatDoor
open Go.RowKit
open Kit
set_option linter.unusedSimpArgs false
set_option linter.unusedVariables false
namespace Nm
def prefL (x : Nat) (pg dbl : Int) (f : Nat → Nat) : Str × Nat :=
  if f 1 = 221 ∨ f 1 = 237 ∨ f 1 = 253 then (patL 0 x, 1) else if f 1 = 203 then fillL (patL dbl (f 3)) (f 2) true f 4 else fillL (patL pg (f 1)) 0 false f 2
def nameL (f : Nat → Nat) : Str × Nat :=
  if f 0 = 203 then fillL (patL 1 (f 1)) 0 false f 2 else if f 0 = 237 then fillL (patL 2 (f 1)) 0 false f 2 else
  if f 0 = 253 then prefL 253 4 6 f else if f 0 = 221 then prefL 221 3 5 f else fillL (patL 0 (f 0)) 0 false f 1
theorem byt_lt (zs : List UInt8) (k : Nat) : byt zs k < 256 := (zs.getD k 0).toNat_lt
set_option maxRecDepth 100000 in
set_option maxHeartbeats 4000000 in
theorem pref_a (w : World) (v : Value) (zs : List UInt8) (hB : BytesOf w v zs) (sb : Nat) (hsb : w.heap.size ≤ sb) (hw : GV w) (x : Nat) (hx : x < 256) (pg dbl : Int) (h : byt zs 1 = 221) (W : World) (k : NB w [(sb, #[v, .int .i64 1], 42)] W) : Calls Tryz.prog 23 #[.pointer (some ⟨sb, 0, none⟩), .int .u8 (x : Nat), .int .i64 pg, .int .i64 dbl] W fun e w' => ∃ (s : ByteArray) (n : Nat), e = .returned (.tuple #[.string s, .int .i64 (n : Nat)]) ∧ (s.data.toList, n) = prefL x pg dbl (byt zs) ∧ s.size ≤ 5000 ∧ NB w [] w' := by
  have b1 := byt_lt zs 1
  have b2 := byt_lt zs 2
  have b3 := byt_lt zs 3
  have HV1 := Lib.hid (nx w v zs hB sb hsb hw 1 (by omega) 1 2 rfl rfl)
  have HV2 := Lib.hid (nx w v zs hB sb hsb hw 2 (by omega) 2 3 rfl rfl)
  have HV3 := Lib.hid (nx w v zs hB sb hsb hw 3 (by omega) 3 4 rfl rfl)
  have hR : prefL x pg dbl (byt zs) = (patL 0 x, 1) := by unfold prefL; rw [if_pos (by omega)]
  have HR := Lib.hid hR
  have t221 : ((byt zs 1 : Int) == 221) = true := by rw [h]; decide
  have t237 : ((byt zs 1 : Int) == 237) = false := by rw [h]; decide
  have t253 : ((byt zs 1 : Int) == 253) = false := by rw [h]; decide
  clear h
  clear hR
  generalize hx1 : byt zs 1 = x1 at *
  generalize hx2 : byt zs 2 = x2 at *
  generalize hx3 : byt zs 3 = x3 at *
  clear hx1 hx2 hx3
  skip
  go_enter Tryz.func23, Tryz.ntmps23
  go_wp2_with (first | (go_at_call 21; (with_reducible refine (HV1.out _ (by assumption)).mono ?_); rintro e wn1 ⟨rfl, kn1⟩) | (go_at_call 21; (with_reducible refine (HV2.out _ (by assumption)).mono ?_); rintro e wn2 ⟨rfl, kn2⟩) | (go_at_call 21; (with_reducible refine (HV3.out _ (by assumption)).mono ?_); rintro e wn3 ⟨rfl, kn3⟩) | (go_at_call 6; (with_reducible refine (pattern_any _ _ (by omega) _ _ _ (by assumption)).mono ?_); rintro e wp ⟨pa, rfl, hpa, hzp, kp⟩; (have hps : pa.size ≤ 45 := by (rw [Lib.size_eq, hpa]; exact pat_len _ _ (by omega)))))
  go_ret2
  exact ⟨_, 1, rfl, by rw [HR.out, hpa], hzp, kp.sub (by simp)⟩
set_option maxRecDepth 100000 in
set_option maxHeartbeats 4000000 in
theorem pref_b (w : World) (v : Value) (zs : List UInt8) (hB : BytesOf w v zs) (sb : Nat) (hsb : w.heap.size ≤ sb) (hw : GV w) (x : Nat) (hx : x < 256) (pg dbl : Int) (h : byt zs 1 = 237) (W : World) (k : NB w [(sb, #[v, .int .i64 1], 42)] W) : Calls Tryz.prog 23 #[.pointer (some ⟨sb, 0, none⟩), .int .u8 (x : Nat), .int .i64 pg, .int .i64 dbl] W fun e w' => ∃ (s : ByteArray) (n : Nat), e = .returned (.tuple #[.string s, .int .i64 (n : Nat)]) ∧ (s.data.toList, n) = prefL x pg dbl (byt zs) ∧ s.size ≤ 5000 ∧ NB w [] w' := by
  have b1 := byt_lt zs 1
  have b2 := byt_lt zs 2
  have b3 := byt_lt zs 3
  have HV1 := Lib.hid (nx w v zs hB sb hsb hw 1 (by omega) 1 2 rfl rfl)
  have HV2 := Lib.hid (nx w v zs hB sb hsb hw 2 (by omega) 2 3 rfl rfl)
  have HV3 := Lib.hid (nx w v zs hB sb hsb hw 3 (by omega) 3 4 rfl rfl)
  have hR : prefL x pg dbl (byt zs) = (patL 0 x, 1) := by unfold prefL; rw [if_pos (by omega)]
  have HR := Lib.hid hR
  have t221 : ((byt zs 1 : Int) == 221) = false := by rw [h]; decide
  have t237 : ((byt zs 1 : Int) == 237) = true := by rw [h]; decide
  have t253 : ((byt zs 1 : Int) == 253) = false := by rw [h]; decide
  clear h
  clear hR
  generalize hx1 : byt zs 1 = x1 at *
  generalize hx2 : byt zs 2 = x2 at *
  generalize hx3 : byt zs 3 = x3 at *
  clear hx1 hx2 hx3
  skip
  go_enter Tryz.func23, Tryz.ntmps23
  go_wp2_with (first | (go_at_call 21; (with_reducible refine (HV1.out _ (by assumption)).mono ?_); rintro e wn1 ⟨rfl, kn1⟩) | (go_at_call 21; (with_reducible refine (HV2.out _ (by assumption)).mono ?_); rintro e wn2 ⟨rfl, kn2⟩) | (go_at_call 21; (with_reducible refine (HV3.out _ (by assumption)).mono ?_); rintro e wn3 ⟨rfl, kn3⟩) | (go_at_call 6; (with_reducible refine (pattern_any _ _ (by omega) _ _ _ (by assumption)).mono ?_); rintro e wp ⟨pa, rfl, hpa, hzp, kp⟩; (have hps : pa.size ≤ 45 := by (rw [Lib.size_eq, hpa]; exact pat_len _ _ (by omega)))))
  go_ret2
  exact ⟨_, 1, rfl, by rw [HR.out, hpa], hzp, kp.sub (by simp)⟩
set_option maxRecDepth 100000 in
set_option maxHeartbeats 4000000 in
theorem pref_c (w : World) (v : Value) (zs : List UInt8) (hB : BytesOf w v zs) (sb : Nat) (hsb : w.heap.size ≤ sb) (hw : GV w) (x : Nat) (hx : x < 256) (pg dbl : Int) (h : byt zs 1 = 253) (W : World) (k : NB w [(sb, #[v, .int .i64 1], 42)] W) : Calls Tryz.prog 23 #[.pointer (some ⟨sb, 0, none⟩), .int .u8 (x : Nat), .int .i64 pg, .int .i64 dbl] W fun e w' => ∃ (s : ByteArray) (n : Nat), e = .returned (.tuple #[.string s, .int .i64 (n : Nat)]) ∧ (s.data.toList, n) = prefL x pg dbl (byt zs) ∧ s.size ≤ 5000 ∧ NB w [] w' := by
  have b1 := byt_lt zs 1
  have b2 := byt_lt zs 2
  have b3 := byt_lt zs 3
  have HV1 := Lib.hid (nx w v zs hB sb hsb hw 1 (by omega) 1 2 rfl rfl)
  have HV2 := Lib.hid (nx w v zs hB sb hsb hw 2 (by omega) 2 3 rfl rfl)
  have HV3 := Lib.hid (nx w v zs hB sb hsb hw 3 (by omega) 3 4 rfl rfl)
  have hR : prefL x pg dbl (byt zs) = (patL 0 x, 1) := by unfold prefL; rw [if_pos (by omega)]
  have HR := Lib.hid hR
  have t221 : ((byt zs 1 : Int) == 221) = false := by rw [h]; decide
  have t237 : ((byt zs 1 : Int) == 237) = false := by rw [h]; decide
  have t253 : ((byt zs 1 : Int) == 253) = true := by rw [h]; decide
  clear h
  clear hR
  generalize hx1 : byt zs 1 = x1 at *
  generalize hx2 : byt zs 2 = x2 at *
  generalize hx3 : byt zs 3 = x3 at *
  clear hx1 hx2 hx3
  skip
  go_enter Tryz.func23, Tryz.ntmps23
  go_wp2_with (first | (go_at_call 21; (with_reducible refine (HV1.out _ (by assumption)).mono ?_); rintro e wn1 ⟨rfl, kn1⟩) | (go_at_call 21; (with_reducible refine (HV2.out _ (by assumption)).mono ?_); rintro e wn2 ⟨rfl, kn2⟩) | (go_at_call 21; (with_reducible refine (HV3.out _ (by assumption)).mono ?_); rintro e wn3 ⟨rfl, kn3⟩) | (go_at_call 6; (with_reducible refine (pattern_any _ _ (by omega) _ _ _ (by assumption)).mono ?_); rintro e wp ⟨pa, rfl, hpa, hzp, kp⟩; (have hps : pa.size ≤ 45 := by (rw [Lib.size_eq, hpa]; exact pat_len _ _ (by omega)))))
  go_ret2
  exact ⟨_, 1, rfl, by rw [HR.out, hpa], hzp, kp.sub (by simp)⟩
set_option maxRecDepth 100000 in
set_option maxHeartbeats 4000000 in
theorem pref_d (w : World) (v : Value) (zs : List UInt8) (hB : BytesOf w v zs) (sb : Nat) (hsb : w.heap.size ≤ sb) (hw : GV w) (x : Nat) (hx : x < 256) (pg dbl : Int) (h : byt zs 1 = 203) (W : World) (k : NB w [(sb, #[v, .int .i64 1], 42)] W) : Calls Tryz.prog 23 #[.pointer (some ⟨sb, 0, none⟩), .int .u8 (x : Nat), .int .i64 pg, .int .i64 dbl] W fun e w' => ∃ (s : ByteArray) (n : Nat), e = .returned (.tuple #[.string s, .int .i64 (n : Nat)]) ∧ (s.data.toList, n) = prefL x pg dbl (byt zs) ∧ s.size ≤ 5000 ∧ NB w [] w' := by
  have b1 := byt_lt zs 1
  have b2 := byt_lt zs 2
  have b3 := byt_lt zs 3
  have HV1 := Lib.hid (nx w v zs hB sb hsb hw 1 (by omega) 1 2 rfl rfl)
  have HV2 := Lib.hid (nx w v zs hB sb hsb hw 2 (by omega) 2 3 rfl rfl)
  have HV3 := Lib.hid (nx w v zs hB sb hsb hw 3 (by omega) 3 4 rfl rfl)
  have hR : prefL x pg dbl (byt zs) = fillL (patL dbl (byt zs 3)) (byt zs 2) true (byt zs) 4 := by unfold prefL; rw [if_neg (by omega), if_pos h]
  have HR := Lib.hid hR
  have t221 : ((byt zs 1 : Int) == 221) = false := by rw [h]; decide
  have t237 : ((byt zs 1 : Int) == 237) = false := by rw [h]; decide
  have t253 : ((byt zs 1 : Int) == 253) = false := by rw [h]; decide
  have t203 : ((byt zs 1 : Int) == 203) = true := by rw [h]; decide
  clear h
  clear hR
  generalize hx1 : byt zs 1 = x1 at *
  generalize hx2 : byt zs 2 = x2 at *
  generalize hx3 : byt zs 3 = x3 at *
  clear hx1 hx2 hx3
  skip
  go_enter Tryz.func23, Tryz.ntmps23
  go_wp2_with (first | (go_at_call 21; (with_reducible refine (HV1.out _ (by assumption)).mono ?_); rintro e wn1 ⟨rfl, kn1⟩) | (go_at_call 21; (with_reducible refine (HV2.out _ (by assumption)).mono ?_); rintro e wn2 ⟨rfl, kn2⟩) | (go_at_call 21; (with_reducible refine (HV3.out _ (by assumption)).mono ?_); rintro e wn3 ⟨rfl, kn3⟩) | (go_at_call 6; (with_reducible refine (pattern_any _ _ (by omega) _ _ _ (by assumption)).mono ?_); rintro e wp ⟨pa, rfl, hpa, hzp, kp⟩; (have hps : pa.size ≤ 45 := by (rw [Lib.size_eq, hpa]; exact pat_len _ _ (by omega)))) | (go_at_call 22; (refine (fill_any w v zs hB 4 (by omega) sb hsb hw pa hps x2 (by omega) true _ kp).mono ?_); rintro e wf ⟨fs, fn, rfl, hfs, hfz, kf⟩))
  go_ret2
  exact ⟨_, fn, rfl, by rw [HR.out, hfs, hpa], by omega, kf⟩
set_option maxRecDepth 100000 in
set_option maxHeartbeats 4000000 in
theorem pref_e (w : World) (v : Value) (zs : List UInt8) (hB : BytesOf w v zs) (sb : Nat) (hsb : w.heap.size ≤ sb) (hw : GV w) (x : Nat) (hx : x < 256) (pg dbl : Int) (h : ¬ (byt zs 1 = 221 ∨ byt zs 1 = 237 ∨ byt zs 1 = 253)) (h2 : ¬ byt zs 1 = 203) (W : World) (k : NB w [(sb, #[v, .int .i64 1], 42)] W) : Calls Tryz.prog 23 #[.pointer (some ⟨sb, 0, none⟩), .int .u8 (x : Nat), .int .i64 pg, .int .i64 dbl] W fun e w' => ∃ (s : ByteArray) (n : Nat), e = .returned (.tuple #[.string s, .int .i64 (n : Nat)]) ∧ (s.data.toList, n) = prefL x pg dbl (byt zs) ∧ s.size ≤ 5000 ∧ NB w [] w' := by
  have b1 := byt_lt zs 1
  have b2 := byt_lt zs 2
  have b3 := byt_lt zs 3
  have HV1 := Lib.hid (nx w v zs hB sb hsb hw 1 (by omega) 1 2 rfl rfl)
  have HV2 := Lib.hid (nx w v zs hB sb hsb hw 2 (by omega) 2 3 rfl rfl)
  have HV3 := Lib.hid (nx w v zs hB sb hsb hw 3 (by omega) 3 4 rfl rfl)
  have hR : prefL x pg dbl (byt zs) = fillL (patL pg (byt zs 1)) 0 false (byt zs) 2 := by unfold prefL; rw [if_neg h, if_neg h2]
  have HR := Lib.hid hR
  have t221 : ((byt zs 1 : Int) == 221) = false := beq_eq_false_iff_ne.2 (by omega)
  have t237 : ((byt zs 1 : Int) == 237) = false := beq_eq_false_iff_ne.2 (by omega)
  have t253 : ((byt zs 1 : Int) == 253) = false := beq_eq_false_iff_ne.2 (by omega)
  have t203 : ((byt zs 1 : Int) == 203) = false := beq_eq_false_iff_ne.2 (by omega)
  clear h h2
  clear hR
  generalize hx1 : byt zs 1 = x1 at *
  generalize hx2 : byt zs 2 = x2 at *
  generalize hx3 : byt zs 3 = x3 at *
  clear hx1 hx2 hx3
  skip
  go_enter Tryz.func23, Tryz.ntmps23
  go_wp2_with (first | (go_at_call 21; (with_reducible refine (HV1.out _ (by assumption)).mono ?_); rintro e wn1 ⟨rfl, kn1⟩) | (go_at_call 21; (with_reducible refine (HV2.out _ (by assumption)).mono ?_); rintro e wn2 ⟨rfl, kn2⟩) | (go_at_call 21; (with_reducible refine (HV3.out _ (by assumption)).mono ?_); rintro e wn3 ⟨rfl, kn3⟩) | (go_at_call 6; (with_reducible refine (pattern_any _ _ (by omega) _ _ _ (by assumption)).mono ?_); rintro e wp ⟨pa, rfl, hpa, hzp, kp⟩; (have hps : pa.size ≤ 45 := by (rw [Lib.size_eq, hpa]; exact pat_len _ _ (by omega)))) | (go_at_call 22; (refine (fill_any w v zs hB 2 (by omega) sb hsb hw pa hps 0 (by omega) false _ kp).mono ?_); rintro e wf ⟨fs, fn, rfl, hfs, hfz, kf⟩))
  go_ret2
  exact ⟨_, fn, rfl, by rw [HR.out, hfs, hpa], by omega, kf⟩
theorem pref_any (w : World) (v : Value) (zs : List UInt8) (hB : BytesOf w v zs) (sb : Nat) (hsb : w.heap.size ≤ sb) (hw : GV w) (x : Nat) (hx : x < 256) (pg dbl : Int) (W : World) (k : NB w [(sb, #[v, .int .i64 1], 42)] W) : Calls Tryz.prog 23 #[.pointer (some ⟨sb, 0, none⟩), .int .u8 (x : Nat), .int .i64 pg, .int .i64 dbl] W fun e w' => ∃ (s : ByteArray) (n : Nat), e = .returned (.tuple #[.string s, .int .i64 (n : Nat)]) ∧ (s.data.toList, n) = prefL x pg dbl (byt zs) ∧ s.size ≤ 5000 ∧ NB w [] w' := by
  by_cases h1 : byt zs 1 = 221
  · exact pref_a w v zs hB sb hsb hw x hx pg dbl h1 W k
  by_cases h2 : byt zs 1 = 237
  · exact pref_b w v zs hB sb hsb hw x hx pg dbl h2 W k
  by_cases h3 : byt zs 1 = 253
  · exact pref_c w v zs hB sb hsb hw x hx pg dbl h3 W k
  by_cases h4 : byt zs 1 = 203
  · exact pref_d w v zs hB sb hsb hw x hx pg dbl h4 W k
  · exact pref_e w v zs hB sb hsb hw x hx pg dbl (by omega) h4 W k
end Nm
end Go.Proofs.YtnhgmdfmhmkpgaaGreatDoor
