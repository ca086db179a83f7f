/- What instructions are called (layer 11): unlike bytes have unlike names: the walk. No conditions but those stated. -/
import Derived.Test.YtnhgmdfmhmkpgaaDoorNmM
import Derived.Test.YtnhgmdfmhmkpgaaDoorNmQ
import Derived.Test.YtnhgmdfmhmkpgaaDoorNmW
import Derived.RegionTactic
import Derived.LoopTactic
import Derived.Deep.RegionHeld3
import Derived.Deep.DeepCutAuto
import Derived.Lib.Hide
namespace Go.Proofs.YtnhgmdfmhmkpgaaDoor
open Go.RowKit
open Kit
set_option linter.unusedSimpArgs false
set_option linter.unusedVariables false
namespace Nm
theorem u8_nat {x : Int} (h : (Lit.int .u8 x).wf = true) : ∃ n : Nat, x = n ∧ n < 256 := by
  have : 0 ≤ x ∧ x < 256 := by
    simp [Lit.wf, IntKind.min, IntKind.max, IntKind.signed, IntKind.bits] at h
    omega
  exact ⟨x.toNat, by omega, by omega⟩
set_option maxRecDepth 100000 in
set_option maxHeartbeats 4000000 in
theorem differ_0 (a b : Nat) (ha : a < 256) (hb : b < 256) : Held 5 #[.int .i64 0, .int .u8 (a : Nat), .int .u8 (b : Nat)] (.bool true) := held' fun W hW => by
  have k0 := NB.start hW
  have HA := Lib.hid alive_any
  have H1 := Lib.hid (pattern_any 0 a ha)
  have H2 := Lib.hid (pattern_any 0 b hb)
  have HnA := Lib.hid (some_of some0 ha)
  have HnB := Lib.hid (some_of some0 hb)
  have HD := Lib.hid (diff_of diff0 ha hb)
  generalize patL 0 a = A at *
  generalize patL 0 b = B at *
  go_enter Tryd.func5, Tryd.ntmps5
  go_wp2_with (first
    | (go_at_call 7; with_reducible refine (HA.out _ _ _ k0).mono ?_; rintro e w5 ⟨rfl, k5⟩)
    | (go_at_call 8; with_reducible refine (H1.out _ _ _ k5).mono ?_; rintro e w6 ⟨p, rfl, hp, hz6, k6⟩; (have tp : (p.toList == []) = false := by (rw [Lib.toList_data, hp]; simpa using HnA.out)); (have hp := Lib.hid hp))
    | (go_at_call 8; with_reducible refine (H2.out _ _ _ k6).mono ?_; rintro e w7 ⟨q, rfl, hq, hz7, k7⟩; (have tq : (q.toList == []) = false := by (rw [Lib.toList_data, hq]; simpa using HnB.out)); (have hq := Lib.hid hq)))
  all_goals go_ret
  all_goals refine ⟨?_, ⟨k7.1, fun p hp => (by cases hp), k7.2.2⟩⟩
  all_goals refine congrArg (fun x => Ending.returned (.bool x)) (a₂ := true) ?_
  all_goals have hE := HD.out
  by_cases h : a = b
  · simp [Lib.toList_data, hp.out, hq.out, h, hE.2 h]
  · have h' : A ≠ B := fun e => h (hE.1 e)
    have h'' : ((a : Int) == (b : Int)) = false := by simpa using fun e => h (by omega)
    simp [Lib.toList_data, hp.out, hq.out, h', h'']
set_option maxRecDepth 100000 in
set_option maxHeartbeats 4000000 in
theorem differ_1 (a b : Nat) (ha : a < 256) (hb : b < 256) : Held 5 #[.int .i64 1, .int .u8 (a : Nat), .int .u8 (b : Nat)] (.bool true) := held' fun W hW => by
  have k0 := NB.start hW
  have HA := Lib.hid alive_any
  have H1 := Lib.hid (pattern_any 1 a ha)
  have H2 := Lib.hid (pattern_any 1 b hb)
  have HnA := Lib.hid (some_of some1 ha)
  have HnB := Lib.hid (some_of some1 hb)
  have HD := Lib.hid (diff_of diff1 ha hb)
  generalize patL 1 a = A at *
  generalize patL 1 b = B at *
  go_enter Tryd.func5, Tryd.ntmps5
  go_wp2_with (first
    | (go_at_call 7; with_reducible refine (HA.out _ _ _ k0).mono ?_; rintro e w5 ⟨rfl, k5⟩)
    | (go_at_call 8; with_reducible refine (H1.out _ _ _ k5).mono ?_; rintro e w6 ⟨p, rfl, hp, hz6, k6⟩; (have tp : (p.toList == []) = false := by (rw [Lib.toList_data, hp]; simpa using HnA.out)); (have hp := Lib.hid hp))
    | (go_at_call 8; with_reducible refine (H2.out _ _ _ k6).mono ?_; rintro e w7 ⟨q, rfl, hq, hz7, k7⟩; (have tq : (q.toList == []) = false := by (rw [Lib.toList_data, hq]; simpa using HnB.out)); (have hq := Lib.hid hq)))
  all_goals go_ret
  all_goals refine ⟨?_, ⟨k7.1, fun p hp => (by cases hp), k7.2.2⟩⟩
  all_goals refine congrArg (fun x => Ending.returned (.bool x)) (a₂ := true) ?_
  all_goals have hE := HD.out
  by_cases h : a = b
  · simp [Lib.toList_data, hp.out, hq.out, h, hE.2 h]
  · have h' : A ≠ B := fun e => h (hE.1 e)
    have h'' : ((a : Int) == (b : Int)) = false := by simpa using fun e => h (by omega)
    simp [Lib.toList_data, hp.out, hq.out, h', h'']
set_option maxRecDepth 100000 in
set_option maxHeartbeats 4000000 in
theorem differ_2y (a b : Nat) (ha : a < 256) (hb : b < 256) (hab : a = b) : Held 5 #[.int .i64 2, .int .u8 (a : Nat), .int .u8 (b : Nat)] (.bool true) := held' fun W hW => by
  have k0 := NB.start hW
  have HA := Lib.hid alive_any
  have H1 := Lib.hid (pattern_any 2 a ha)
  have H2 := Lib.hid (pattern_any 2 b hb)
  have HnA := Lib.hid (some_of some2 ha)
  have HnB := Lib.hid (some_of some2 hb)
  have HD := Lib.hid (congrArg (patL 2) hab)
  have ne : ((a : Int) != (b : Int)) = false := by simp [hab]
  clear hab
  generalize patL 2 a = A at *
  generalize patL 2 b = B at *
  go_enter Tryd.func5, Tryd.ntmps5
  go_wp2_with (first
    | (go_at_call 7; with_reducible refine (HA.out _ _ _ k0).mono ?_; rintro e w5 ⟨rfl, k5⟩)
    | (go_at_call 8; with_reducible refine (H1.out _ _ _ k5).mono ?_; rintro e w6 ⟨p, rfl, hp, hz6, k6⟩; (have tp : (p.toList == []) = false := by (rw [Lib.toList_data, hp]; simpa using HnA.out)); (have hp := Lib.hid hp))
    | (go_at_call 8; with_reducible refine (H2.out _ _ _ k6).mono ?_; rintro e w7 ⟨q, rfl, hq, hz7, k7⟩; (have tq : (q.toList == []) = false := by (rw [Lib.toList_data, hq]; simpa using HnB.out)); (have te : (p.toList == q.toList) = true := by (rw [Lib.toList_data, Lib.toList_data, hp.out, hq]; simpa using HD.out)); (have hq := Lib.hid hq)))
  go_ret
  exact ⟨by simp, ⟨k7.1, fun p hp => (by cases hp), k7.2.2⟩⟩
set_option maxRecDepth 100000 in
set_option maxHeartbeats 4000000 in
theorem differ_2n (a b : Nat) (ha : a < 256) (hb : b < 256) (hab : a ≠ b) : Held 5 #[.int .i64 2, .int .u8 (a : Nat), .int .u8 (b : Nat)] (.bool true) := held' fun W hW => by
  have k0 := NB.start hW
  have HA := Lib.hid alive_any
  have H1 := Lib.hid (pattern_any 2 a ha)
  have H2 := Lib.hid (pattern_any 2 b hb)
  have HnA := Lib.hid (some_of some2 ha)
  have HnB := Lib.hid (some_of some2 hb)
  have ne : ((a : Int) != (b : Int)) = true := by simpa using fun e => hab (by omega)
  clear hab
  generalize patL 2 a = A at *
  generalize patL 2 b = B at *
  go_enter Tryd.func5, Tryd.ntmps5
  go_wp2_with (first
    | (go_at_call 7; with_reducible refine (HA.out _ _ _ k0).mono ?_; rintro e w5 ⟨rfl, k5⟩)
    | (go_at_call 8; with_reducible refine (H1.out _ _ _ k5).mono ?_; rintro e w6 ⟨p, rfl, hp, hz6, k6⟩; (have tp : (p.toList == []) = false := by (rw [Lib.toList_data, hp]; simpa using HnA.out)); (have hp := Lib.hid hp))
    | (go_at_call 8; with_reducible refine (H2.out _ _ _ k6).mono ?_; rintro e w7 ⟨q, rfl, hq, hz7, k7⟩; (have tq : (q.toList == []) = false := by (rw [Lib.toList_data, hq]; simpa using HnB.out)); (have hq := Lib.hid hq)))
  go_ret
  exact ⟨by simp, ⟨k7.1, fun p hp => (by cases hp), k7.2.2⟩⟩
set_option maxRecDepth 100000 in
set_option maxHeartbeats 4000000 in
theorem differ_3y (a b : Nat) (ha : a < 256) (hb : b < 256) (hab : a = b) : Held 5 #[.int .i64 3, .int .u8 (a : Nat), .int .u8 (b : Nat)] (.bool true) := held' fun W hW => by
  have k0 := NB.start hW
  have HA := Lib.hid alive_any
  have H1 := Lib.hid (pattern_any 3 a ha)
  have H2 := Lib.hid (pattern_any 3 b hb)
  have HnA := Lib.hid (some_of some3 ha)
  have HnB := Lib.hid (some_of some3 hb)
  have HD := Lib.hid (congrArg (patL 3) hab)
  have ne : ((a : Int) != (b : Int)) = false := by simp [hab]
  clear hab
  generalize patL 3 a = A at *
  generalize patL 3 b = B at *
  go_enter Tryd.func5, Tryd.ntmps5
  go_wp2_with (first
    | (go_at_call 7; with_reducible refine (HA.out _ _ _ k0).mono ?_; rintro e w5 ⟨rfl, k5⟩)
    | (go_at_call 8; with_reducible refine (H1.out _ _ _ k5).mono ?_; rintro e w6 ⟨p, rfl, hp, hz6, k6⟩; (have tp : (p.toList == []) = false := by (rw [Lib.toList_data, hp]; simpa using HnA.out)); (have hp := Lib.hid hp))
    | (go_at_call 8; with_reducible refine (H2.out _ _ _ k6).mono ?_; rintro e w7 ⟨q, rfl, hq, hz7, k7⟩; (have tq : (q.toList == []) = false := by (rw [Lib.toList_data, hq]; simpa using HnB.out)); (have te : (p.toList == q.toList) = true := by (rw [Lib.toList_data, Lib.toList_data, hp.out, hq]; simpa using HD.out)); (have hq := Lib.hid hq)))
  go_ret
  exact ⟨by simp, ⟨k7.1, fun p hp => (by cases hp), k7.2.2⟩⟩
set_option maxRecDepth 100000 in
set_option maxHeartbeats 4000000 in
theorem differ_3n (a b : Nat) (ha : a < 256) (hb : b < 256) (hab : a ≠ b) : Held 5 #[.int .i64 3, .int .u8 (a : Nat), .int .u8 (b : Nat)] (.bool true) := held' fun W hW => by
  have k0 := NB.start hW
  have HA := Lib.hid alive_any
  have H1 := Lib.hid (pattern_any 3 a ha)
  have H2 := Lib.hid (pattern_any 3 b hb)
  have HnA := Lib.hid (some_of some3 ha)
  have HnB := Lib.hid (some_of some3 hb)
  have ne : ((a : Int) != (b : Int)) = true := by simpa using fun e => hab (by omega)
  clear hab
  generalize patL 3 a = A at *
  generalize patL 3 b = B at *
  go_enter Tryd.func5, Tryd.ntmps5
  go_wp2_with (first
    | (go_at_call 7; with_reducible refine (HA.out _ _ _ k0).mono ?_; rintro e w5 ⟨rfl, k5⟩)
    | (go_at_call 8; with_reducible refine (H1.out _ _ _ k5).mono ?_; rintro e w6 ⟨p, rfl, hp, hz6, k6⟩; (have tp : (p.toList == []) = false := by (rw [Lib.toList_data, hp]; simpa using HnA.out)); (have hp := Lib.hid hp))
    | (go_at_call 8; with_reducible refine (H2.out _ _ _ k6).mono ?_; rintro e w7 ⟨q, rfl, hq, hz7, k7⟩; (have tq : (q.toList == []) = false := by (rw [Lib.toList_data, hq]; simpa using HnB.out)); (have hq := Lib.hid hq)))
  go_ret
  exact ⟨by simp, ⟨k7.1, fun p hp => (by cases hp), k7.2.2⟩⟩
set_option maxRecDepth 100000 in
set_option maxHeartbeats 4000000 in
theorem differ_4y (a b : Nat) (ha : a < 256) (hb : b < 256) (hab : a = b) : Held 5 #[.int .i64 4, .int .u8 (a : Nat), .int .u8 (b : Nat)] (.bool true) := held' fun W hW => by
  have k0 := NB.start hW
  have HA := Lib.hid alive_any
  have H1 := Lib.hid (pattern_any 4 a ha)
  have H2 := Lib.hid (pattern_any 4 b hb)
  have HnA := Lib.hid (some_of some4 ha)
  have HnB := Lib.hid (some_of some4 hb)
  have HD := Lib.hid (congrArg (patL 4) hab)
  have ne : ((a : Int) != (b : Int)) = false := by simp [hab]
  clear hab
  generalize patL 4 a = A at *
  generalize patL 4 b = B at *
  go_enter Tryd.func5, Tryd.ntmps5
  go_wp2_with (first
    | (go_at_call 7; with_reducible refine (HA.out _ _ _ k0).mono ?_; rintro e w5 ⟨rfl, k5⟩)
    | (go_at_call 8; with_reducible refine (H1.out _ _ _ k5).mono ?_; rintro e w6 ⟨p, rfl, hp, hz6, k6⟩; (have tp : (p.toList == []) = false := by (rw [Lib.toList_data, hp]; simpa using HnA.out)); (have hp := Lib.hid hp))
    | (go_at_call 8; with_reducible refine (H2.out _ _ _ k6).mono ?_; rintro e w7 ⟨q, rfl, hq, hz7, k7⟩; (have tq : (q.toList == []) = false := by (rw [Lib.toList_data, hq]; simpa using HnB.out)); (have te : (p.toList == q.toList) = true := by (rw [Lib.toList_data, Lib.toList_data, hp.out, hq]; simpa using HD.out)); (have hq := Lib.hid hq)))
  go_ret
  exact ⟨by simp, ⟨k7.1, fun p hp => (by cases hp), k7.2.2⟩⟩
set_option maxRecDepth 100000 in
set_option maxHeartbeats 4000000 in
theorem differ_4n (a b : Nat) (ha : a < 256) (hb : b < 256) (hab : a ≠ b) : Held 5 #[.int .i64 4, .int .u8 (a : Nat), .int .u8 (b : Nat)] (.bool true) := held' fun W hW => by
  have k0 := NB.start hW
  have HA := Lib.hid alive_any
  have H1 := Lib.hid (pattern_any 4 a ha)
  have H2 := Lib.hid (pattern_any 4 b hb)
  have HnA := Lib.hid (some_of some4 ha)
  have HnB := Lib.hid (some_of some4 hb)
  have ne : ((a : Int) != (b : Int)) = true := by simpa using fun e => hab (by omega)
  clear hab
  generalize patL 4 a = A at *
  generalize patL 4 b = B at *
  go_enter Tryd.func5, Tryd.ntmps5
  go_wp2_with (first
    | (go_at_call 7; with_reducible refine (HA.out _ _ _ k0).mono ?_; rintro e w5 ⟨rfl, k5⟩)
    | (go_at_call 8; with_reducible refine (H1.out _ _ _ k5).mono ?_; rintro e w6 ⟨p, rfl, hp, hz6, k6⟩; (have tp : (p.toList == []) = false := by (rw [Lib.toList_data, hp]; simpa using HnA.out)); (have hp := Lib.hid hp))
    | (go_at_call 8; with_reducible refine (H2.out _ _ _ k6).mono ?_; rintro e w7 ⟨q, rfl, hq, hz7, k7⟩; (have tq : (q.toList == []) = false := by (rw [Lib.toList_data, hq]; simpa using HnB.out)); (have hq := Lib.hid hq)))
  go_ret
  exact ⟨by simp, ⟨k7.1, fun p hp => (by cases hp), k7.2.2⟩⟩
set_option maxRecDepth 100000 in
set_option maxHeartbeats 4000000 in
theorem differ_5a (a b : Nat) (ha : a < 256) (hb : b < 256) (hab : a = b) : Held 5 #[.int .i64 5, .int .u8 (a : Nat), .int .u8 (b : Nat)] (.bool true) := held' fun W hW => by
  have k0 := NB.start hW
  have HA := Lib.hid alive_any
  have H1 := Lib.hid (pattern_any 5 a ha)
  have H2 := Lib.hid (pattern_any 5 b hb)
  have HnA := Lib.hid (some_of some5 ha)
  have HnB := Lib.hid (some_of some5 hb)
  have HD := Lib.hid (diff5_of diff5 same5 ha hb)
  have ne : ((a : Int) == (b : Int)) = true := by simp [hab]
  have Hab := Lib.hid hab
  clear hab
  generalize patL 5 a = A at *
  generalize patL 5 b = B at *
  go_enter Tryd.func5, Tryd.ntmps5
  go_wp2_with (first
    | (go_at_call 7; with_reducible refine (HA.out _ _ _ k0).mono ?_; rintro e w5 ⟨rfl, k5⟩)
    | (go_at_call 8; with_reducible refine (H1.out _ _ _ k5).mono ?_; rintro e w6 ⟨p, rfl, hp, hz6, k6⟩; (have tp : (p.toList == []) = false := by (rw [Lib.toList_data, hp]; simpa using HnA.out)); (have hp := Lib.hid hp))
    | (go_at_call 8; with_reducible refine (H2.out _ _ _ k6).mono ?_; rintro e w7 ⟨q, rfl, hq, hz7, k7⟩; (have tq : (q.toList == []) = false := by (rw [Lib.toList_data, hq]; simpa using HnB.out)); (have hq := Lib.hid hq)))
  all_goals go_ret
  all_goals refine ⟨?_, ⟨k7.1, fun p hp => (by cases hp), k7.2.2⟩⟩
  all_goals refine congrArg (fun x => Ending.returned (.bool x)) (a₂ := true) ?_
  all_goals have hE := HD.out
  all_goals have hab := Hab.out
  all_goals first
    | (have h' : A = B := hE.2 (by omega)
       simp [Lib.toList_data, hp.out, hq.out, h', ne])
    | (have h' : A ≠ B := fun e => absurd (hE.1 e) (by omega)
       simp [Lib.toList_data, hp.out, hq.out, h', ne]; done)
    | (have h64 : a / 64 = 1 := by omega
       by_cases h8 : a / 8 = b / 8
       · have h' : A = B := hE.2 (Or.inr ⟨h64, h8⟩)
         have e8 : ((a : Int) / 8 == (b : Int) / 8) = true := by simp only [beq_iff_eq]; omega
         simp [Lib.toList_data, hp.out, hq.out, h', ne, e8]
       · have h' : A ≠ B := fun e => absurd (hE.1 e) (by omega)
         have e8 : ((a : Int) / 8 == (b : Int) / 8) = false := by simp only [beq_eq_false_iff_ne]; omega
         simp [Lib.toList_data, hp.out, hq.out, h', ne, e8])
set_option maxRecDepth 100000 in
set_option maxHeartbeats 4000000 in
theorem differ_5b (a b : Nat) (ha : a < 256) (hb : b < 256) (hab : a ≠ b) : Held 5 #[.int .i64 5, .int .u8 (a : Nat), .int .u8 (b : Nat)] (.bool true) := held' fun W hW => by
  have k0 := NB.start hW
  have HA := Lib.hid alive_any
  have H1 := Lib.hid (pattern_any 5 a ha)
  have H2 := Lib.hid (pattern_any 5 b hb)
  have HnA := Lib.hid (some_of some5 ha)
  have HnB := Lib.hid (some_of some5 hb)
  have HD := Lib.hid (diff5_of diff5 same5 ha hb)
  have ne : ((a : Int) == (b : Int)) = false := by simpa using fun e => hab (by omega)
  have Hab := Lib.hid hab
  clear hab
  generalize patL 5 a = A at *
  generalize patL 5 b = B at *
  go_enter Tryd.func5, Tryd.ntmps5
  go_wp2_with (first
    | (go_at_call 7; with_reducible refine (HA.out _ _ _ k0).mono ?_; rintro e w5 ⟨rfl, k5⟩)
    | (go_at_call 8; with_reducible refine (H1.out _ _ _ k5).mono ?_; rintro e w6 ⟨p, rfl, hp, hz6, k6⟩; (have tp : (p.toList == []) = false := by (rw [Lib.toList_data, hp]; simpa using HnA.out)); (have hp := Lib.hid hp))
    | (go_at_call 8; with_reducible refine (H2.out _ _ _ k6).mono ?_; rintro e w7 ⟨q, rfl, hq, hz7, k7⟩; (have tq : (q.toList == []) = false := by (rw [Lib.toList_data, hq]; simpa using HnB.out)); (have hq := Lib.hid hq)))
  all_goals go_ret
  all_goals refine ⟨?_, ⟨k7.1, fun p hp => (by cases hp), k7.2.2⟩⟩
  all_goals refine congrArg (fun x => Ending.returned (.bool x)) (a₂ := true) ?_
  all_goals have hE := HD.out
  all_goals have hab := Hab.out
  all_goals first
    | (have h' : A = B := hE.2 (by omega)
       simp [Lib.toList_data, hp.out, hq.out, h', ne])
    | (have h' : A ≠ B := fun e => absurd (hE.1 e) (by omega)
       simp [Lib.toList_data, hp.out, hq.out, h', ne]; done)
    | (have h64 : a / 64 = 1 := by omega
       by_cases h8 : a / 8 = b / 8
       · have h' : A = B := hE.2 (Or.inr ⟨h64, h8⟩)
         have e8 : ((a : Int) / 8 == (b : Int) / 8) = true := by simp only [beq_iff_eq]; omega
         simp [Lib.toList_data, hp.out, hq.out, h', ne, e8]
       · have h' : A ≠ B := fun e => absurd (hE.1 e) (by omega)
         have e8 : ((a : Int) / 8 == (b : Int) / 8) = false := by simp only [beq_eq_false_iff_ne]; omega
         simp [Lib.toList_data, hp.out, hq.out, h', ne, e8])
set_option maxRecDepth 100000 in
set_option maxHeartbeats 4000000 in
theorem differ_6a (a b : Nat) (ha : a < 256) (hb : b < 256) (hab : a = b) : Held 5 #[.int .i64 6, .int .u8 (a : Nat), .int .u8 (b : Nat)] (.bool true) := held' fun W hW => by
  have k0 := NB.start hW
  have HA := Lib.hid alive_any
  have H1 := Lib.hid (pattern_any 6 a ha)
  have H2 := Lib.hid (pattern_any 6 b hb)
  have HnA := Lib.hid (some_of some6 ha)
  have HnB := Lib.hid (some_of some6 hb)
  have HD := Lib.hid (diff5_of diff6 same6 ha hb)
  have ne : ((a : Int) == (b : Int)) = true := by simp [hab]
  have Hab := Lib.hid hab
  clear hab
  generalize patL 6 a = A at *
  generalize patL 6 b = B at *
  go_enter Tryd.func5, Tryd.ntmps5
  go_wp2_with (first
    | (go_at_call 7; with_reducible refine (HA.out _ _ _ k0).mono ?_; rintro e w5 ⟨rfl, k5⟩)
    | (go_at_call 8; with_reducible refine (H1.out _ _ _ k5).mono ?_; rintro e w6 ⟨p, rfl, hp, hz6, k6⟩; (have tp : (p.toList == []) = false := by (rw [Lib.toList_data, hp]; simpa using HnA.out)); (have hp := Lib.hid hp))
    | (go_at_call 8; with_reducible refine (H2.out _ _ _ k6).mono ?_; rintro e w7 ⟨q, rfl, hq, hz7, k7⟩; (have tq : (q.toList == []) = false := by (rw [Lib.toList_data, hq]; simpa using HnB.out)); (have hq := Lib.hid hq)))
  all_goals go_ret
  all_goals refine ⟨?_, ⟨k7.1, fun p hp => (by cases hp), k7.2.2⟩⟩
  all_goals refine congrArg (fun x => Ending.returned (.bool x)) (a₂ := true) ?_
  all_goals have hE := HD.out
  all_goals have hab := Hab.out
  all_goals first
    | (have h' : A = B := hE.2 (by omega)
       simp [Lib.toList_data, hp.out, hq.out, h', ne])
    | (have h' : A ≠ B := fun e => absurd (hE.1 e) (by omega)
       simp [Lib.toList_data, hp.out, hq.out, h', ne]; done)
    | (have h64 : a / 64 = 1 := by omega
       by_cases h8 : a / 8 = b / 8
       · have h' : A = B := hE.2 (Or.inr ⟨h64, h8⟩)
         have e8 : ((a : Int) / 8 == (b : Int) / 8) = true := by simp only [beq_iff_eq]; omega
         simp [Lib.toList_data, hp.out, hq.out, h', ne, e8]
       · have h' : A ≠ B := fun e => absurd (hE.1 e) (by omega)
         have e8 : ((a : Int) / 8 == (b : Int) / 8) = false := by simp only [beq_eq_false_iff_ne]; omega
         simp [Lib.toList_data, hp.out, hq.out, h', ne, e8])
set_option maxRecDepth 100000 in
set_option maxHeartbeats 4000000 in
theorem differ_6b (a b : Nat) (ha : a < 256) (hb : b < 256) (hab : a ≠ b) : Held 5 #[.int .i64 6, .int .u8 (a : Nat), .int .u8 (b : Nat)] (.bool true) := held' fun W hW => by
  have k0 := NB.start hW
  have HA := Lib.hid alive_any
  have H1 := Lib.hid (pattern_any 6 a ha)
  have H2 := Lib.hid (pattern_any 6 b hb)
  have HnA := Lib.hid (some_of some6 ha)
  have HnB := Lib.hid (some_of some6 hb)
  have HD := Lib.hid (diff5_of diff6 same6 ha hb)
  have ne : ((a : Int) == (b : Int)) = false := by simpa using fun e => hab (by omega)
  have Hab := Lib.hid hab
  clear hab
  generalize patL 6 a = A at *
  generalize patL 6 b = B at *
  go_enter Tryd.func5, Tryd.ntmps5
  go_wp2_with (first
    | (go_at_call 7; with_reducible refine (HA.out _ _ _ k0).mono ?_; rintro e w5 ⟨rfl, k5⟩)
    | (go_at_call 8; with_reducible refine (H1.out _ _ _ k5).mono ?_; rintro e w6 ⟨p, rfl, hp, hz6, k6⟩; (have tp : (p.toList == []) = false := by (rw [Lib.toList_data, hp]; simpa using HnA.out)); (have hp := Lib.hid hp))
    | (go_at_call 8; with_reducible refine (H2.out _ _ _ k6).mono ?_; rintro e w7 ⟨q, rfl, hq, hz7, k7⟩; (have tq : (q.toList == []) = false := by (rw [Lib.toList_data, hq]; simpa using HnB.out)); (have hq := Lib.hid hq)))
  all_goals go_ret
  all_goals refine ⟨?_, ⟨k7.1, fun p hp => (by cases hp), k7.2.2⟩⟩
  all_goals refine congrArg (fun x => Ending.returned (.bool x)) (a₂ := true) ?_
  all_goals have hE := HD.out
  all_goals have hab := Hab.out
  all_goals first
    | (have h' : A = B := hE.2 (by omega)
       simp [Lib.toList_data, hp.out, hq.out, h', ne])
    | (have h' : A ≠ B := fun e => absurd (hE.1 e) (by omega)
       simp [Lib.toList_data, hp.out, hq.out, h', ne]; done)
    | (have h64 : a / 64 = 1 := by omega
       by_cases h8 : a / 8 = b / 8
       · have h' : A = B := hE.2 (Or.inr ⟨h64, h8⟩)
         have e8 : ((a : Int) / 8 == (b : Int) / 8) = true := by simp only [beq_iff_eq]; omega
         simp [Lib.toList_data, hp.out, hq.out, h', ne, e8]
       · have h' : A ≠ B := fun e => absurd (hE.1 e) (by omega)
         have e8 : ((a : Int) / 8 == (b : Int) / 8) = false := by simp only [beq_eq_false_iff_ne]; omega
         simp [Lib.toList_data, hp.out, hq.out, h', ne, e8])
set_option maxRecDepth 100000 in
set_option maxHeartbeats 4000000 in
theorem differ_lo (pg : Int) (a b : Nat) (ha : a < 256) (hb : b < 256) (h0 : pg < 0) : Held 5 #[.int .i64 pg, .int .u8 (a : Nat), .int .u8 (b : Nat)] (.bool true) := held' fun W hW => by
  have k0 := NB.start hW
  have HA := Lib.hid alive_any
  have H1 := Lib.hid (pattern_any pg a ha)
  have H2 := Lib.hid (pattern_any pg b hb)
  have h : pg < 0 ∨ 6 < pg := Or.inl h0
  have HnA := Lib.hid (no_pat pg h a)
  have HnB := Lib.hid (no_pat pg h b)
  clear h
  generalize patL pg a = A at *
  generalize patL pg b = B at *
  go_enter Tryd.func5, Tryd.ntmps5
  go_wp2_with (first
    | (go_at_call 7; with_reducible refine (HA.out _ _ _ k0).mono ?_; rintro e w5 ⟨rfl, k5⟩)
    | (go_at_call 8; with_reducible refine (H1.out _ _ _ k5).mono ?_; rintro e w6 ⟨p, rfl, hp, hz6, k6⟩; (have tp : (p.toList == []) = true := by (rw [Lib.toList_data, hp]; simp [HnA.out])); (have hp := Lib.hid hp))
    | (go_at_call 8; with_reducible refine (H2.out _ _ _ k6).mono ?_; rintro e w7 ⟨q, rfl, hq, hz7, k7⟩; (have tq : (q.toList == []) = true := by (rw [Lib.toList_data, hq]; simp [HnB.out])); (have hq := Lib.hid hq)))
  go_ret
  exact ⟨by simp, ⟨k7.1, fun p hp => (by cases hp), k7.2.2⟩⟩
set_option maxRecDepth 100000 in
set_option maxHeartbeats 4000000 in
theorem differ_hi (pg : Int) (a b : Nat) (ha : a < 256) (hb : b < 256) (h0 : 6 < pg) : Held 5 #[.int .i64 pg, .int .u8 (a : Nat), .int .u8 (b : Nat)] (.bool true) := held' fun W hW => by
  have k0 := NB.start hW
  have HA := Lib.hid alive_any
  have H1 := Lib.hid (pattern_any pg a ha)
  have H2 := Lib.hid (pattern_any pg b hb)
  have h : pg < 0 ∨ 6 < pg := Or.inr h0
  have h1 : ¬ pg < 0 := by omega
  have HnA := Lib.hid (no_pat pg h a)
  have HnB := Lib.hid (no_pat pg h b)
  clear h
  generalize patL pg a = A at *
  generalize patL pg b = B at *
  go_enter Tryd.func5, Tryd.ntmps5
  go_wp2_with (first
    | (go_at_call 7; with_reducible refine (HA.out _ _ _ k0).mono ?_; rintro e w5 ⟨rfl, k5⟩)
    | (go_at_call 8; with_reducible refine (H1.out _ _ _ k5).mono ?_; rintro e w6 ⟨p, rfl, hp, hz6, k6⟩; (have tp : (p.toList == []) = true := by (rw [Lib.toList_data, hp]; simp [HnA.out])); (have hp := Lib.hid hp))
    | (go_at_call 8; with_reducible refine (H2.out _ _ _ k6).mono ?_; rintro e w7 ⟨q, rfl, hq, hz7, k7⟩; (have tq : (q.toList == []) = true := by (rw [Lib.toList_data, hq]; simp [HnB.out])); (have hq := Lib.hid hq)))
  go_ret
  exact ⟨by simp, ⟨k7.1, fun p hp => (by cases hp), k7.2.2⟩⟩
theorem namesDiffer_walk (pg : Int) (x y : Int) (wx : (Lit.int .u8 x).wf = true) (wy : (Lit.int .u8 y).wf = true) (w : World) (hw : GV w) : Calls Tryd.prog 5 #[.int .i64 pg, .int .u8 x, .int .u8 y] w fun e w' => e = .returned (.bool true) ∧ Below w.heap.size w w' := by
  obtain ⟨a, rfl, ha⟩ := u8_nat wx
  obtain ⟨b, rfl, hb⟩ := u8_nat wy
  have main : Held 5 #[.int .i64 pg, .int .u8 (a : Nat), .int .u8 (b : Nat)] (.bool true) := by
    by_cases h0 : pg < 0
    · exact differ_lo pg a b ha hb h0
    by_cases h6 : 6 < pg
    · exact differ_hi pg a b ha hb h6
    rcases (by omega : pg = 0 ∨ pg = 1 ∨ pg = 2 ∨ pg = 3 ∨ pg = 4 ∨ pg = 5 ∨ pg = 6) with rfl | rfl | rfl | rfl | rfl | rfl | rfl
    · exact differ_0 a b ha hb
    · exact differ_1 a b ha hb
    all_goals by_cases hab : a = b
    · exact differ_2y a b ha hb hab
    · exact differ_2n a b ha hb hab
    · exact differ_3y a b ha hb hab
    · exact differ_3n a b ha hb hab
    · exact differ_4y a b ha hb hab
    · exact differ_4n a b ha hb hab
    · exact differ_5a a b ha hb hab
    · exact differ_5b a b ha hb hab
    · exact differ_6a a b ha hb hab
    · exact differ_6b a b ha hb hab
  exact (main w [] w (NB.start hw)).mono fun e w' ⟨h1, h2⟩ => ⟨h1, h2.2.2⟩
end Nm
end Go.Proofs.YtnhgmdfmhmkpgaaDoor
