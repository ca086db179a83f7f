/- What instructions are called (layer 11): the reference: Page. No conditions but those stated. -/
import Derived.Test.YtnhgmdfmhmkpgaaGreatDoorNmZ
import Derived.RegionTactic
import Derived.LoopTactic
import Derived.Deep.RegionHeld3
import Derived.Deep.DeepCutAuto
import Derived.Lib.Hide
namespace Go.Proofs.YtnhgmdfmhmkpgaaGreatDoor
open Go.RowKit
open Kit
set_option linter.unusedSimpArgs false
set_option linter.unusedVariables false
namespace Nm
theorem at_zero (zs : List UInt8) (k : Nat) (hk : k < 4) : (zs ++ [0, 0, 0, 0])[k]? = some (zs.getD k 0) := by
  by_cases h : k < zs.length
  · rw [List.getElem?_append_left h, List.getD_eq_getElem?_getD, List.getElem?_eq_getElem h]; rfl
  · rw [List.getElem?_append_right (by omega), List.getD_eq_getElem?_getD, List.getElem?_eq_none (l := zs) (by omega)]
    obtain ⟨j, hj⟩ : ∃ j, k - zs.length = j := ⟨_, rfl⟩
    rw [hj]
    match j, (by omega : j < 4) with
    | 0, _ => rfl
    | 1, _ => rfl
    | 2, _ => rfl
    | 3, _ => rfl
/-- The page, and where its byte lies. -/
def pageL (f : Nat → Nat) : Int × Nat :=
  if f 0 = 203 then (1, 1) else if f 0 = 237 then (2, 1) else
  if f 0 = 221 ∨ f 0 = 253 then (if f 1 = 221 ∨ f 1 = 237 ∨ f 1 = 253 then (-1, 0) else if f 1 = 203 then ((if f 0 = 253 then 4 else 3) + 2, 3) else ((if f 0 = 253 then 4 else 3), 1)) else (0, 0)
set_option maxRecDepth 100000 in
set_option maxHeartbeats 4000000 in
theorem rpage_203 (zs : List UInt8) (v : Value) (W : World) (hG : GV W) (hs : SrcOf W v zs) (hl : zs.length ≤ 40) (h0 : byt zs 0 = 203) :
    Calls Tryz.prog 24 #[v] W fun e w' => e = .returned (.tuple #[.int .i64 (1), .int .i64 1]) ∧ Below W.heap.size W w' := by
  have HV := Lib.hid hs
  have HL := Lib.hid hl
  clear hs hl
  have b0 := Below.refl W.heap.size W
  go_enter Tryz.func24, Tryz.ntmps24
  have c2 := b0.alloc b0.size (.cells #[] 5)
  go_upto_region 1 with fail
  go_wp2_with (at_builtin; refine app_any W _ c2 rfl _ _ rfl _ [] rfl (own_start W W b0) _ zs rfl (HV.out.below c2) (by have := HL.out; simp; omega) ?_)
  intro v3 w3 o3 b3
  have c3 := b3.alloc b3.size (.cells #[.int .u8 0, .int .u8 0, .int .u8 0, .int .u8 0] 5)
  go_wp2_with (at_builtin; refine app_any W _ c3 rfl _ _ rfl _ zs rfl (o3.below ((Below.refl _ _).alloc (Nat.le_refl _) _)) _ [0, 0, 0, 0] rfl (SrcOf.zeros w3) (by have := HL.out; simp; omega) ?_)
  intro v4 w4 o4 b4
  obtain ⟨p, cap, rfl, hl4, hc4⟩ := o4.bytes (by have := HL.out; simp; omega)
  obtain ⟨gb, go, rfl, hgb, hcell⟩ := hc4 (by simp)
  have d0 : w4.cell? ⟨gb, go, none⟩ = some (.int .u8 203) := by
    have h := hcell 0 _ (at_zero zs 0 (by omega))
    rw [Nat.add_zero] at h
    rw [h]; show some (Value.int .u8 ((byt zs 0 : Nat) : Int)) = _; rw [h0]; rfl
  have d1 : w4.cell? ⟨gb, go + 1, none⟩ = some (.int .u8 (byt zs 1 : Nat)) := by
    rw [hcell 1 _ (at_zero zs 1 (by omega))]; rfl
  obtain ⟨m, hm⟩ : ∃ m, (zs ++ [0, 0, 0, 0]).length = m := ⟨_, rfl⟩
  have m1 : 0 < m := by rw [← hm]; simp
  have m2 : 1 < m := by rw [← hm, List.length_append]; simp only [List.length_cons, List.length_nil]; omega
  rw [hm]
  clear hcell hm hc4 hl4 o4 o3
  go_wp2_with fail
  go_ret2
  exact ⟨by simp, b4⟩
set_option maxRecDepth 100000 in
set_option maxHeartbeats 4000000 in
theorem rpage_237 (zs : List UInt8) (v : Value) (W : World) (hG : GV W) (hs : SrcOf W v zs) (hl : zs.length ≤ 40) (h0 : byt zs 0 = 237) :
    Calls Tryz.prog 24 #[v] W fun e w' => e = .returned (.tuple #[.int .i64 (2), .int .i64 1]) ∧ Below W.heap.size W w' := by
  have HV := Lib.hid hs
  have HL := Lib.hid hl
  clear hs hl
  have b0 := Below.refl W.heap.size W
  go_enter Tryz.func24, Tryz.ntmps24
  have c2 := b0.alloc b0.size (.cells #[] 5)
  go_upto_region 1 with fail
  go_wp2_with (at_builtin; refine app_any W _ c2 rfl _ _ rfl _ [] rfl (own_start W W b0) _ zs rfl (HV.out.below c2) (by have := HL.out; simp; omega) ?_)
  intro v3 w3 o3 b3
  have c3 := b3.alloc b3.size (.cells #[.int .u8 0, .int .u8 0, .int .u8 0, .int .u8 0] 5)
  go_wp2_with (at_builtin; refine app_any W _ c3 rfl _ _ rfl _ zs rfl (o3.below ((Below.refl _ _).alloc (Nat.le_refl _) _)) _ [0, 0, 0, 0] rfl (SrcOf.zeros w3) (by have := HL.out; simp; omega) ?_)
  intro v4 w4 o4 b4
  obtain ⟨p, cap, rfl, hl4, hc4⟩ := o4.bytes (by have := HL.out; simp; omega)
  obtain ⟨gb, go, rfl, hgb, hcell⟩ := hc4 (by simp)
  have d0 : w4.cell? ⟨gb, go, none⟩ = some (.int .u8 237) := by
    have h := hcell 0 _ (at_zero zs 0 (by omega))
    rw [Nat.add_zero] at h
    rw [h]; show some (Value.int .u8 ((byt zs 0 : Nat) : Int)) = _; rw [h0]; rfl
  have d1 : w4.cell? ⟨gb, go + 1, none⟩ = some (.int .u8 (byt zs 1 : Nat)) := by
    rw [hcell 1 _ (at_zero zs 1 (by omega))]; rfl
  obtain ⟨m, hm⟩ : ∃ m, (zs ++ [0, 0, 0, 0]).length = m := ⟨_, rfl⟩
  have m1 : 0 < m := by rw [← hm]; simp
  have m2 : 1 < m := by rw [← hm, List.length_append]; simp only [List.length_cons, List.length_nil]; omega
  rw [hm]
  clear hcell hm hc4 hl4 o4 o3
  go_wp2_with fail
  go_ret2
  exact ⟨by simp, b4⟩
set_option maxRecDepth 100000 in
set_option maxHeartbeats 4000000 in
theorem rpage_221_221 (zs : List UInt8) (v : Value) (W : World) (hG : GV W) (hs : SrcOf W v zs) (hl : zs.length ≤ 40) (h0 : byt zs 0 = 221) (h1 : byt zs 1 = 221) :
    Calls Tryz.prog 24 #[v] W fun e w' => e = .returned (.tuple #[.int .i64 (-1), .int .i64 0]) ∧ Below W.heap.size W w' := by
  have HV := Lib.hid hs
  have HL := Lib.hid hl
  clear hs hl
  have b0 := Below.refl W.heap.size W
  go_enter Tryz.func24, Tryz.ntmps24
  have c2 := b0.alloc b0.size (.cells #[] 5)
  go_upto_region 1 with fail
  go_wp2_with (at_builtin; refine app_any W _ c2 rfl _ _ rfl _ [] rfl (own_start W W b0) _ zs rfl (HV.out.below c2) (by have := HL.out; simp; omega) ?_)
  intro v3 w3 o3 b3
  have c3 := b3.alloc b3.size (.cells #[.int .u8 0, .int .u8 0, .int .u8 0, .int .u8 0] 5)
  go_wp2_with (at_builtin; refine app_any W _ c3 rfl _ _ rfl _ zs rfl (o3.below ((Below.refl _ _).alloc (Nat.le_refl _) _)) _ [0, 0, 0, 0] rfl (SrcOf.zeros w3) (by have := HL.out; simp; omega) ?_)
  intro v4 w4 o4 b4
  obtain ⟨p, cap, rfl, hl4, hc4⟩ := o4.bytes (by have := HL.out; simp; omega)
  obtain ⟨gb, go, rfl, hgb, hcell⟩ := hc4 (by simp)
  have d0 : w4.cell? ⟨gb, go, none⟩ = some (.int .u8 221) := by
    have h := hcell 0 _ (at_zero zs 0 (by omega))
    rw [Nat.add_zero] at h
    rw [h]; show some (Value.int .u8 ((byt zs 0 : Nat) : Int)) = _; rw [h0]; rfl
  have d1 : w4.cell? ⟨gb, go + 1, none⟩ = some (.int .u8 221) := by
    rw [hcell 1 _ (at_zero zs 1 (by omega))]; show some (Value.int .u8 ((byt zs 1 : Nat) : Int)) = _; rw [h1]; rfl
  obtain ⟨m, hm⟩ : ∃ m, (zs ++ [0, 0, 0, 0]).length = m := ⟨_, rfl⟩
  have m1 : 0 < m := by rw [← hm]; simp
  have m2 : 1 < m := by rw [← hm, List.length_append]; simp only [List.length_cons, List.length_nil]; omega
  rw [hm]
  clear hcell hm hc4 hl4 o4 o3
  go_wp2_with fail
  go_ret2
  exact ⟨by simp, b4⟩
set_option maxRecDepth 100000 in
set_option maxHeartbeats 4000000 in
theorem rpage_221_237 (zs : List UInt8) (v : Value) (W : World) (hG : GV W) (hs : SrcOf W v zs) (hl : zs.length ≤ 40) (h0 : byt zs 0 = 221) (h1 : byt zs 1 = 237) :
    Calls Tryz.prog 24 #[v] W fun e w' => e = .returned (.tuple #[.int .i64 (-1), .int .i64 0]) ∧ Below W.heap.size W w' := by
  have HV := Lib.hid hs
  have HL := Lib.hid hl
  clear hs hl
  have b0 := Below.refl W.heap.size W
  go_enter Tryz.func24, Tryz.ntmps24
  have c2 := b0.alloc b0.size (.cells #[] 5)
  go_upto_region 1 with fail
  go_wp2_with (at_builtin; refine app_any W _ c2 rfl _ _ rfl _ [] rfl (own_start W W b0) _ zs rfl (HV.out.below c2) (by have := HL.out; simp; omega) ?_)
  intro v3 w3 o3 b3
  have c3 := b3.alloc b3.size (.cells #[.int .u8 0, .int .u8 0, .int .u8 0, .int .u8 0] 5)
  go_wp2_with (at_builtin; refine app_any W _ c3 rfl _ _ rfl _ zs rfl (o3.below ((Below.refl _ _).alloc (Nat.le_refl _) _)) _ [0, 0, 0, 0] rfl (SrcOf.zeros w3) (by have := HL.out; simp; omega) ?_)
  intro v4 w4 o4 b4
  obtain ⟨p, cap, rfl, hl4, hc4⟩ := o4.bytes (by have := HL.out; simp; omega)
  obtain ⟨gb, go, rfl, hgb, hcell⟩ := hc4 (by simp)
  have d0 : w4.cell? ⟨gb, go, none⟩ = some (.int .u8 221) := by
    have h := hcell 0 _ (at_zero zs 0 (by omega))
    rw [Nat.add_zero] at h
    rw [h]; show some (Value.int .u8 ((byt zs 0 : Nat) : Int)) = _; rw [h0]; rfl
  have d1 : w4.cell? ⟨gb, go + 1, none⟩ = some (.int .u8 237) := by
    rw [hcell 1 _ (at_zero zs 1 (by omega))]; show some (Value.int .u8 ((byt zs 1 : Nat) : Int)) = _; rw [h1]; rfl
  obtain ⟨m, hm⟩ : ∃ m, (zs ++ [0, 0, 0, 0]).length = m := ⟨_, rfl⟩
  have m1 : 0 < m := by rw [← hm]; simp
  have m2 : 1 < m := by rw [← hm, List.length_append]; simp only [List.length_cons, List.length_nil]; omega
  rw [hm]
  clear hcell hm hc4 hl4 o4 o3
  go_wp2_with fail
  go_ret2
  exact ⟨by simp, b4⟩
set_option maxRecDepth 100000 in
set_option maxHeartbeats 4000000 in
theorem rpage_221_253 (zs : List UInt8) (v : Value) (W : World) (hG : GV W) (hs : SrcOf W v zs) (hl : zs.length ≤ 40) (h0 : byt zs 0 = 221) (h1 : byt zs 1 = 253) :
    Calls Tryz.prog 24 #[v] W fun e w' => e = .returned (.tuple #[.int .i64 (-1), .int .i64 0]) ∧ Below W.heap.size W w' := by
  have HV := Lib.hid hs
  have HL := Lib.hid hl
  clear hs hl
  have b0 := Below.refl W.heap.size W
  go_enter Tryz.func24, Tryz.ntmps24
  have c2 := b0.alloc b0.size (.cells #[] 5)
  go_upto_region 1 with fail
  go_wp2_with (at_builtin; refine app_any W _ c2 rfl _ _ rfl _ [] rfl (own_start W W b0) _ zs rfl (HV.out.below c2) (by have := HL.out; simp; omega) ?_)
  intro v3 w3 o3 b3
  have c3 := b3.alloc b3.size (.cells #[.int .u8 0, .int .u8 0, .int .u8 0, .int .u8 0] 5)
  go_wp2_with (at_builtin; refine app_any W _ c3 rfl _ _ rfl _ zs rfl (o3.below ((Below.refl _ _).alloc (Nat.le_refl _) _)) _ [0, 0, 0, 0] rfl (SrcOf.zeros w3) (by have := HL.out; simp; omega) ?_)
  intro v4 w4 o4 b4
  obtain ⟨p, cap, rfl, hl4, hc4⟩ := o4.bytes (by have := HL.out; simp; omega)
  obtain ⟨gb, go, rfl, hgb, hcell⟩ := hc4 (by simp)
  have d0 : w4.cell? ⟨gb, go, none⟩ = some (.int .u8 221) := by
    have h := hcell 0 _ (at_zero zs 0 (by omega))
    rw [Nat.add_zero] at h
    rw [h]; show some (Value.int .u8 ((byt zs 0 : Nat) : Int)) = _; rw [h0]; rfl
  have d1 : w4.cell? ⟨gb, go + 1, none⟩ = some (.int .u8 253) := by
    rw [hcell 1 _ (at_zero zs 1 (by omega))]; show some (Value.int .u8 ((byt zs 1 : Nat) : Int)) = _; rw [h1]; rfl
  obtain ⟨m, hm⟩ : ∃ m, (zs ++ [0, 0, 0, 0]).length = m := ⟨_, rfl⟩
  have m1 : 0 < m := by rw [← hm]; simp
  have m2 : 1 < m := by rw [← hm, List.length_append]; simp only [List.length_cons, List.length_nil]; omega
  rw [hm]
  clear hcell hm hc4 hl4 o4 o3
  go_wp2_with fail
  go_ret2
  exact ⟨by simp, b4⟩
set_option maxRecDepth 100000 in
set_option maxHeartbeats 4000000 in
theorem rpage_221_203 (zs : List UInt8) (v : Value) (W : World) (hG : GV W) (hs : SrcOf W v zs) (hl : zs.length ≤ 40) (h0 : byt zs 0 = 221) (h1 : byt zs 1 = 203) :
    Calls Tryz.prog 24 #[v] W fun e w' => e = .returned (.tuple #[.int .i64 (5), .int .i64 3]) ∧ Below W.heap.size W w' := by
  have HV := Lib.hid hs
  have HL := Lib.hid hl
  clear hs hl
  have b0 := Below.refl W.heap.size W
  go_enter Tryz.func24, Tryz.ntmps24
  have c2 := b0.alloc b0.size (.cells #[] 5)
  go_upto_region 1 with fail
  go_wp2_with (at_builtin; refine app_any W _ c2 rfl _ _ rfl _ [] rfl (own_start W W b0) _ zs rfl (HV.out.below c2) (by have := HL.out; simp; omega) ?_)
  intro v3 w3 o3 b3
  have c3 := b3.alloc b3.size (.cells #[.int .u8 0, .int .u8 0, .int .u8 0, .int .u8 0] 5)
  go_wp2_with (at_builtin; refine app_any W _ c3 rfl _ _ rfl _ zs rfl (o3.below ((Below.refl _ _).alloc (Nat.le_refl _) _)) _ [0, 0, 0, 0] rfl (SrcOf.zeros w3) (by have := HL.out; simp; omega) ?_)
  intro v4 w4 o4 b4
  obtain ⟨p, cap, rfl, hl4, hc4⟩ := o4.bytes (by have := HL.out; simp; omega)
  obtain ⟨gb, go, rfl, hgb, hcell⟩ := hc4 (by simp)
  have d0 : w4.cell? ⟨gb, go, none⟩ = some (.int .u8 221) := by
    have h := hcell 0 _ (at_zero zs 0 (by omega))
    rw [Nat.add_zero] at h
    rw [h]; show some (Value.int .u8 ((byt zs 0 : Nat) : Int)) = _; rw [h0]; rfl
  have d1 : w4.cell? ⟨gb, go + 1, none⟩ = some (.int .u8 203) := by
    rw [hcell 1 _ (at_zero zs 1 (by omega))]; show some (Value.int .u8 ((byt zs 1 : Nat) : Int)) = _; rw [h1]; rfl
  obtain ⟨m, hm⟩ : ∃ m, (zs ++ [0, 0, 0, 0]).length = m := ⟨_, rfl⟩
  have m1 : 0 < m := by rw [← hm]; simp
  have m2 : 1 < m := by rw [← hm, List.length_append]; simp only [List.length_cons, List.length_nil]; omega
  rw [hm]
  clear hcell hm hc4 hl4 o4 o3
  go_wp2_with fail
  go_ret2
  exact ⟨by simp, b4⟩
set_option maxRecDepth 100000 in
set_option maxHeartbeats 4000000 in
theorem rpage_221_n (zs : List UInt8) (v : Value) (W : World) (hG : GV W) (hs : SrcOf W v zs) (hl : zs.length ≤ 40) (h0 : byt zs 0 = 221) (h1 : ¬ (byt zs 1 = 221 ∨ byt zs 1 = 237 ∨ byt zs 1 = 253)) (h2 : byt zs 1 ≠ 203) :
    Calls Tryz.prog 24 #[v] W fun e w' => e = .returned (.tuple #[.int .i64 (3), .int .i64 1]) ∧ Below W.heap.size W w' := by
  have HV := Lib.hid hs
  have HL := Lib.hid hl
  clear hs hl
  have b0 := Below.refl W.heap.size W
  go_enter Tryz.func24, Tryz.ntmps24
  have c2 := b0.alloc b0.size (.cells #[] 5)
  go_upto_region 1 with fail
  go_wp2_with (at_builtin; refine app_any W _ c2 rfl _ _ rfl _ [] rfl (own_start W W b0) _ zs rfl (HV.out.below c2) (by have := HL.out; simp; omega) ?_)
  intro v3 w3 o3 b3
  have c3 := b3.alloc b3.size (.cells #[.int .u8 0, .int .u8 0, .int .u8 0, .int .u8 0] 5)
  go_wp2_with (at_builtin; refine app_any W _ c3 rfl _ _ rfl _ zs rfl (o3.below ((Below.refl _ _).alloc (Nat.le_refl _) _)) _ [0, 0, 0, 0] rfl (SrcOf.zeros w3) (by have := HL.out; simp; omega) ?_)
  intro v4 w4 o4 b4
  obtain ⟨p, cap, rfl, hl4, hc4⟩ := o4.bytes (by have := HL.out; simp; omega)
  obtain ⟨gb, go, rfl, hgb, hcell⟩ := hc4 (by simp)
  have d0 : w4.cell? ⟨gb, go, none⟩ = some (.int .u8 221) := by
    have h := hcell 0 _ (at_zero zs 0 (by omega))
    rw [Nat.add_zero] at h
    rw [h]; show some (Value.int .u8 ((byt zs 0 : Nat) : Int)) = _; rw [h0]; rfl
  have d1 : w4.cell? ⟨gb, go + 1, none⟩ = some (.int .u8 (byt zs 1 : Nat)) := by
    rw [hcell 1 _ (at_zero zs 1 (by omega))]; rfl
  obtain ⟨m, hm⟩ : ∃ m, (zs ++ [0, 0, 0, 0]).length = m := ⟨_, rfl⟩
  have m1 : 0 < m := by rw [← hm]; simp
  have m2 : 1 < m := by rw [← hm, List.length_append]; simp only [List.length_cons, List.length_nil]; omega
  rw [hm]
  have n1_221 : (((byt zs 1 : Nat) : Int) == 221) = false := beq_eq_false_iff_ne.2 (by omega)
  have n1_237 : (((byt zs 1 : Nat) : Int) == 237) = false := beq_eq_false_iff_ne.2 (by omega)
  have n1_253 : (((byt zs 1 : Nat) : Int) == 253) = false := beq_eq_false_iff_ne.2 (by omega)
  have n1_203 : (((byt zs 1 : Nat) : Int) == 203) = false := beq_eq_false_iff_ne.2 (by omega)
  clear hcell hm hc4 hl4 o4 o3
  go_wp2_with fail
  go_ret2
  exact ⟨by simp, b4⟩
set_option maxRecDepth 100000 in
set_option maxHeartbeats 4000000 in
theorem rpage_253_221 (zs : List UInt8) (v : Value) (W : World) (hG : GV W) (hs : SrcOf W v zs) (hl : zs.length ≤ 40) (h0 : byt zs 0 = 253) (h1 : byt zs 1 = 221) :
    Calls Tryz.prog 24 #[v] W fun e w' => e = .returned (.tuple #[.int .i64 (-1), .int .i64 0]) ∧ Below W.heap.size W w' := by
  have HV := Lib.hid hs
  have HL := Lib.hid hl
  clear hs hl
  have b0 := Below.refl W.heap.size W
  go_enter Tryz.func24, Tryz.ntmps24
  have c2 := b0.alloc b0.size (.cells #[] 5)
  go_upto_region 1 with fail
  go_wp2_with (at_builtin; refine app_any W _ c2 rfl _ _ rfl _ [] rfl (own_start W W b0) _ zs rfl (HV.out.below c2) (by have := HL.out; simp; omega) ?_)
  intro v3 w3 o3 b3
  have c3 := b3.alloc b3.size (.cells #[.int .u8 0, .int .u8 0, .int .u8 0, .int .u8 0] 5)
  go_wp2_with (at_builtin; refine app_any W _ c3 rfl _ _ rfl _ zs rfl (o3.below ((Below.refl _ _).alloc (Nat.le_refl _) _)) _ [0, 0, 0, 0] rfl (SrcOf.zeros w3) (by have := HL.out; simp; omega) ?_)
  intro v4 w4 o4 b4
  obtain ⟨p, cap, rfl, hl4, hc4⟩ := o4.bytes (by have := HL.out; simp; omega)
  obtain ⟨gb, go, rfl, hgb, hcell⟩ := hc4 (by simp)
  have d0 : w4.cell? ⟨gb, go, none⟩ = some (.int .u8 253) := by
    have h := hcell 0 _ (at_zero zs 0 (by omega))
    rw [Nat.add_zero] at h
    rw [h]; show some (Value.int .u8 ((byt zs 0 : Nat) : Int)) = _; rw [h0]; rfl
  have d1 : w4.cell? ⟨gb, go + 1, none⟩ = some (.int .u8 221) := by
    rw [hcell 1 _ (at_zero zs 1 (by omega))]; show some (Value.int .u8 ((byt zs 1 : Nat) : Int)) = _; rw [h1]; rfl
  obtain ⟨m, hm⟩ : ∃ m, (zs ++ [0, 0, 0, 0]).length = m := ⟨_, rfl⟩
  have m1 : 0 < m := by rw [← hm]; simp
  have m2 : 1 < m := by rw [← hm, List.length_append]; simp only [List.length_cons, List.length_nil]; omega
  rw [hm]
  clear hcell hm hc4 hl4 o4 o3
  go_wp2_with fail
  go_ret2
  exact ⟨by simp, b4⟩
set_option maxRecDepth 100000 in
set_option maxHeartbeats 4000000 in
theorem rpage_253_237 (zs : List UInt8) (v : Value) (W : World) (hG : GV W) (hs : SrcOf W v zs) (hl : zs.length ≤ 40) (h0 : byt zs 0 = 253) (h1 : byt zs 1 = 237) :
    Calls Tryz.prog 24 #[v] W fun e w' => e = .returned (.tuple #[.int .i64 (-1), .int .i64 0]) ∧ Below W.heap.size W w' := by
  have HV := Lib.hid hs
  have HL := Lib.hid hl
  clear hs hl
  have b0 := Below.refl W.heap.size W
  go_enter Tryz.func24, Tryz.ntmps24
  have c2 := b0.alloc b0.size (.cells #[] 5)
  go_upto_region 1 with fail
  go_wp2_with (at_builtin; refine app_any W _ c2 rfl _ _ rfl _ [] rfl (own_start W W b0) _ zs rfl (HV.out.below c2) (by have := HL.out; simp; omega) ?_)
  intro v3 w3 o3 b3
  have c3 := b3.alloc b3.size (.cells #[.int .u8 0, .int .u8 0, .int .u8 0, .int .u8 0] 5)
  go_wp2_with (at_builtin; refine app_any W _ c3 rfl _ _ rfl _ zs rfl (o3.below ((Below.refl _ _).alloc (Nat.le_refl _) _)) _ [0, 0, 0, 0] rfl (SrcOf.zeros w3) (by have := HL.out; simp; omega) ?_)
  intro v4 w4 o4 b4
  obtain ⟨p, cap, rfl, hl4, hc4⟩ := o4.bytes (by have := HL.out; simp; omega)
  obtain ⟨gb, go, rfl, hgb, hcell⟩ := hc4 (by simp)
  have d0 : w4.cell? ⟨gb, go, none⟩ = some (.int .u8 253) := by
    have h := hcell 0 _ (at_zero zs 0 (by omega))
    rw [Nat.add_zero] at h
    rw [h]; show some (Value.int .u8 ((byt zs 0 : Nat) : Int)) = _; rw [h0]; rfl
  have d1 : w4.cell? ⟨gb, go + 1, none⟩ = some (.int .u8 237) := by
    rw [hcell 1 _ (at_zero zs 1 (by omega))]; show some (Value.int .u8 ((byt zs 1 : Nat) : Int)) = _; rw [h1]; rfl
  obtain ⟨m, hm⟩ : ∃ m, (zs ++ [0, 0, 0, 0]).length = m := ⟨_, rfl⟩
  have m1 : 0 < m := by rw [← hm]; simp
  have m2 : 1 < m := by rw [← hm, List.length_append]; simp only [List.length_cons, List.length_nil]; omega
  rw [hm]
  clear hcell hm hc4 hl4 o4 o3
  go_wp2_with fail
  go_ret2
  exact ⟨by simp, b4⟩
set_option maxRecDepth 100000 in
set_option maxHeartbeats 4000000 in
theorem rpage_253_253 (zs : List UInt8) (v : Value) (W : World) (hG : GV W) (hs : SrcOf W v zs) (hl : zs.length ≤ 40) (h0 : byt zs 0 = 253) (h1 : byt zs 1 = 253) :
    Calls Tryz.prog 24 #[v] W fun e w' => e = .returned (.tuple #[.int .i64 (-1), .int .i64 0]) ∧ Below W.heap.size W w' := by
  have HV := Lib.hid hs
  have HL := Lib.hid hl
  clear hs hl
  have b0 := Below.refl W.heap.size W
  go_enter Tryz.func24, Tryz.ntmps24
  have c2 := b0.alloc b0.size (.cells #[] 5)
  go_upto_region 1 with fail
  go_wp2_with (at_builtin; refine app_any W _ c2 rfl _ _ rfl _ [] rfl (own_start W W b0) _ zs rfl (HV.out.below c2) (by have := HL.out; simp; omega) ?_)
  intro v3 w3 o3 b3
  have c3 := b3.alloc b3.size (.cells #[.int .u8 0, .int .u8 0, .int .u8 0, .int .u8 0] 5)
  go_wp2_with (at_builtin; refine app_any W _ c3 rfl _ _ rfl _ zs rfl (o3.below ((Below.refl _ _).alloc (Nat.le_refl _) _)) _ [0, 0, 0, 0] rfl (SrcOf.zeros w3) (by have := HL.out; simp; omega) ?_)
  intro v4 w4 o4 b4
  obtain ⟨p, cap, rfl, hl4, hc4⟩ := o4.bytes (by have := HL.out; simp; omega)
  obtain ⟨gb, go, rfl, hgb, hcell⟩ := hc4 (by simp)
  have d0 : w4.cell? ⟨gb, go, none⟩ = some (.int .u8 253) := by
    have h := hcell 0 _ (at_zero zs 0 (by omega))
    rw [Nat.add_zero] at h
    rw [h]; show some (Value.int .u8 ((byt zs 0 : Nat) : Int)) = _; rw [h0]; rfl
  have d1 : w4.cell? ⟨gb, go + 1, none⟩ = some (.int .u8 253) := by
    rw [hcell 1 _ (at_zero zs 1 (by omega))]; show some (Value.int .u8 ((byt zs 1 : Nat) : Int)) = _; rw [h1]; rfl
  obtain ⟨m, hm⟩ : ∃ m, (zs ++ [0, 0, 0, 0]).length = m := ⟨_, rfl⟩
  have m1 : 0 < m := by rw [← hm]; simp
  have m2 : 1 < m := by rw [← hm, List.length_append]; simp only [List.length_cons, List.length_nil]; omega
  rw [hm]
  clear hcell hm hc4 hl4 o4 o3
  go_wp2_with fail
  go_ret2
  exact ⟨by simp, b4⟩
set_option maxRecDepth 100000 in
set_option maxHeartbeats 4000000 in
theorem rpage_253_203 (zs : List UInt8) (v : Value) (W : World) (hG : GV W) (hs : SrcOf W v zs) (hl : zs.length ≤ 40) (h0 : byt zs 0 = 253) (h1 : byt zs 1 = 203) :
    Calls Tryz.prog 24 #[v] W fun e w' => e = .returned (.tuple #[.int .i64 (6), .int .i64 3]) ∧ Below W.heap.size W w' := by
  have HV := Lib.hid hs
  have HL := Lib.hid hl
  clear hs hl
  have b0 := Below.refl W.heap.size W
  go_enter Tryz.func24, Tryz.ntmps24
  have c2 := b0.alloc b0.size (.cells #[] 5)
  go_upto_region 1 with fail
  go_wp2_with (at_builtin; refine app_any W _ c2 rfl _ _ rfl _ [] rfl (own_start W W b0) _ zs rfl (HV.out.below c2) (by have := HL.out; simp; omega) ?_)
  intro v3 w3 o3 b3
  have c3 := b3.alloc b3.size (.cells #[.int .u8 0, .int .u8 0, .int .u8 0, .int .u8 0] 5)
  go_wp2_with (at_builtin; refine app_any W _ c3 rfl _ _ rfl _ zs rfl (o3.below ((Below.refl _ _).alloc (Nat.le_refl _) _)) _ [0, 0, 0, 0] rfl (SrcOf.zeros w3) (by have := HL.out; simp; omega) ?_)
  intro v4 w4 o4 b4
  obtain ⟨p, cap, rfl, hl4, hc4⟩ := o4.bytes (by have := HL.out; simp; omega)
  obtain ⟨gb, go, rfl, hgb, hcell⟩ := hc4 (by simp)
  have d0 : w4.cell? ⟨gb, go, none⟩ = some (.int .u8 253) := by
    have h := hcell 0 _ (at_zero zs 0 (by omega))
    rw [Nat.add_zero] at h
    rw [h]; show some (Value.int .u8 ((byt zs 0 : Nat) : Int)) = _; rw [h0]; rfl
  have d1 : w4.cell? ⟨gb, go + 1, none⟩ = some (.int .u8 203) := by
    rw [hcell 1 _ (at_zero zs 1 (by omega))]; show some (Value.int .u8 ((byt zs 1 : Nat) : Int)) = _; rw [h1]; rfl
  obtain ⟨m, hm⟩ : ∃ m, (zs ++ [0, 0, 0, 0]).length = m := ⟨_, rfl⟩
  have m1 : 0 < m := by rw [← hm]; simp
  have m2 : 1 < m := by rw [← hm, List.length_append]; simp only [List.length_cons, List.length_nil]; omega
  rw [hm]
  clear hcell hm hc4 hl4 o4 o3
  go_wp2_with fail
  go_ret2
  exact ⟨by simp, b4⟩
set_option maxRecDepth 100000 in
set_option maxHeartbeats 4000000 in
theorem rpage_253_n (zs : List UInt8) (v : Value) (W : World) (hG : GV W) (hs : SrcOf W v zs) (hl : zs.length ≤ 40) (h0 : byt zs 0 = 253) (h1 : ¬ (byt zs 1 = 221 ∨ byt zs 1 = 237 ∨ byt zs 1 = 253)) (h2 : byt zs 1 ≠ 203) :
    Calls Tryz.prog 24 #[v] W fun e w' => e = .returned (.tuple #[.int .i64 (4), .int .i64 1]) ∧ Below W.heap.size W w' := by
  have HV := Lib.hid hs
  have HL := Lib.hid hl
  clear hs hl
  have b0 := Below.refl W.heap.size W
  go_enter Tryz.func24, Tryz.ntmps24
  have c2 := b0.alloc b0.size (.cells #[] 5)
  go_upto_region 1 with fail
  go_wp2_with (at_builtin; refine app_any W _ c2 rfl _ _ rfl _ [] rfl (own_start W W b0) _ zs rfl (HV.out.below c2) (by have := HL.out; simp; omega) ?_)
  intro v3 w3 o3 b3
  have c3 := b3.alloc b3.size (.cells #[.int .u8 0, .int .u8 0, .int .u8 0, .int .u8 0] 5)
  go_wp2_with (at_builtin; refine app_any W _ c3 rfl _ _ rfl _ zs rfl (o3.below ((Below.refl _ _).alloc (Nat.le_refl _) _)) _ [0, 0, 0, 0] rfl (SrcOf.zeros w3) (by have := HL.out; simp; omega) ?_)
  intro v4 w4 o4 b4
  obtain ⟨p, cap, rfl, hl4, hc4⟩ := o4.bytes (by have := HL.out; simp; omega)
  obtain ⟨gb, go, rfl, hgb, hcell⟩ := hc4 (by simp)
  have d0 : w4.cell? ⟨gb, go, none⟩ = some (.int .u8 253) := by
    have h := hcell 0 _ (at_zero zs 0 (by omega))
    rw [Nat.add_zero] at h
    rw [h]; show some (Value.int .u8 ((byt zs 0 : Nat) : Int)) = _; rw [h0]; rfl
  have d1 : w4.cell? ⟨gb, go + 1, none⟩ = some (.int .u8 (byt zs 1 : Nat)) := by
    rw [hcell 1 _ (at_zero zs 1 (by omega))]; rfl
  obtain ⟨m, hm⟩ : ∃ m, (zs ++ [0, 0, 0, 0]).length = m := ⟨_, rfl⟩
  have m1 : 0 < m := by rw [← hm]; simp
  have m2 : 1 < m := by rw [← hm, List.length_append]; simp only [List.length_cons, List.length_nil]; omega
  rw [hm]
  have n1_221 : (((byt zs 1 : Nat) : Int) == 221) = false := beq_eq_false_iff_ne.2 (by omega)
  have n1_237 : (((byt zs 1 : Nat) : Int) == 237) = false := beq_eq_false_iff_ne.2 (by omega)
  have n1_253 : (((byt zs 1 : Nat) : Int) == 253) = false := beq_eq_false_iff_ne.2 (by omega)
  have n1_203 : (((byt zs 1 : Nat) : Int) == 203) = false := beq_eq_false_iff_ne.2 (by omega)
  clear hcell hm hc4 hl4 o4 o3
  go_wp2_with fail
  go_ret2
  exact ⟨by simp, b4⟩
set_option maxRecDepth 100000 in
set_option maxHeartbeats 4000000 in
theorem rpage_n (zs : List UInt8) (v : Value) (W : World) (hG : GV W) (hs : SrcOf W v zs) (hl : zs.length ≤ 40) (h0 : ¬ (byt zs 0 = 221 ∨ byt zs 0 = 253)) (h1 : byt zs 0 ≠ 203) (h2 : byt zs 0 ≠ 237) :
    Calls Tryz.prog 24 #[v] W fun e w' => e = .returned (.tuple #[.int .i64 (0), .int .i64 0]) ∧ Below W.heap.size W w' := by
  have HV := Lib.hid hs
  have HL := Lib.hid hl
  clear hs hl
  have b0 := Below.refl W.heap.size W
  go_enter Tryz.func24, Tryz.ntmps24
  have c2 := b0.alloc b0.size (.cells #[] 5)
  go_upto_region 1 with fail
  go_wp2_with (at_builtin; refine app_any W _ c2 rfl _ _ rfl _ [] rfl (own_start W W b0) _ zs rfl (HV.out.below c2) (by have := HL.out; simp; omega) ?_)
  intro v3 w3 o3 b3
  have c3 := b3.alloc b3.size (.cells #[.int .u8 0, .int .u8 0, .int .u8 0, .int .u8 0] 5)
  go_wp2_with (at_builtin; refine app_any W _ c3 rfl _ _ rfl _ zs rfl (o3.below ((Below.refl _ _).alloc (Nat.le_refl _) _)) _ [0, 0, 0, 0] rfl (SrcOf.zeros w3) (by have := HL.out; simp; omega) ?_)
  intro v4 w4 o4 b4
  obtain ⟨p, cap, rfl, hl4, hc4⟩ := o4.bytes (by have := HL.out; simp; omega)
  obtain ⟨gb, go, rfl, hgb, hcell⟩ := hc4 (by simp)
  have d0 : w4.cell? ⟨gb, go, none⟩ = some (.int .u8 (byt zs 0 : Nat)) := by
    have h := hcell 0 _ (at_zero zs 0 (by omega))
    rw [Nat.add_zero] at h
    rw [h]; rfl
  have d1 : w4.cell? ⟨gb, go + 1, none⟩ = some (.int .u8 (byt zs 1 : Nat)) := by
    rw [hcell 1 _ (at_zero zs 1 (by omega))]; rfl
  obtain ⟨m, hm⟩ : ∃ m, (zs ++ [0, 0, 0, 0]).length = m := ⟨_, rfl⟩
  have m1 : 0 < m := by rw [← hm]; simp
  have m2 : 1 < m := by rw [← hm, List.length_append]; simp only [List.length_cons, List.length_nil]; omega
  rw [hm]
  have n0_203 : (((byt zs 0 : Nat) : Int) == 203) = false := beq_eq_false_iff_ne.2 (by omega)
  have n0_237 : (((byt zs 0 : Nat) : Int) == 237) = false := beq_eq_false_iff_ne.2 (by omega)
  have n0_221 : (((byt zs 0 : Nat) : Int) == 221) = false := beq_eq_false_iff_ne.2 (by omega)
  have n0_253 : (((byt zs 0 : Nat) : Int) == 253) = false := beq_eq_false_iff_ne.2 (by omega)
  clear hcell hm hc4 hl4 o4 o3
  go_wp2_with fail
  go_ret2
  exact ⟨by simp, b4⟩
theorem rpage_any (zs : List UInt8) (v : Value) (W : World) (hG : GV W) (hs : SrcOf W v zs) (hl : zs.length ≤ 40) :
    Calls Tryz.prog 24 #[v] W fun e w' => e = .returned (.tuple #[.int .i64 (pageL (byt zs)).1, .int .i64 ((pageL (byt zs)).2 : Nat)]) ∧ Below W.heap.size W w' := by
  unfold pageL
  by_cases h1 : byt zs 0 = 203
  · rw [if_pos h1]; exact rpage_203 zs v W hG hs hl h1
  rw [if_neg h1]
  by_cases h2 : byt zs 0 = 237
  · rw [if_pos h2]; exact rpage_237 zs v W hG hs hl h2
  rw [if_neg h2]
  by_cases h3 : byt zs 0 = 221 ∨ byt zs 0 = 253
  · rw [if_pos h3]
    by_cases h4 : byt zs 1 = 221 ∨ byt zs 1 = 237 ∨ byt zs 1 = 253
    · rw [if_pos h4]
      rcases h3 with h3 | h3 <;> rcases h4 with h4 | h4 | h4
      · exact rpage_221_221 zs v W hG hs hl h3 h4
      · exact rpage_221_237 zs v W hG hs hl h3 h4
      · exact rpage_221_253 zs v W hG hs hl h3 h4
      · exact rpage_253_221 zs v W hG hs hl h3 h4
      · exact rpage_253_237 zs v W hG hs hl h3 h4
      · exact rpage_253_253 zs v W hG hs hl h3 h4
    · rw [if_neg h4]
      by_cases h5 : byt zs 1 = 203
      · rw [if_pos h5]
        rcases h3 with h3 | h3
        · rw [if_neg (by omega)]; exact rpage_221_203 zs v W hG hs hl h3 h5
        · rw [if_pos h3]; exact rpage_253_203 zs v W hG hs hl h3 h5
      · rw [if_neg h5]
        rcases h3 with h3 | h3
        · rw [if_neg (by omega)]; exact rpage_221_n zs v W hG hs hl h3 h4 h5
        · rw [if_pos h3]; exact rpage_253_n zs v W hG hs hl h3 h4 h5
  · rw [if_neg h3]; exact rpage_n zs v W hG hs hl h3 h1 h2
end Nm
end Go.Proofs.YtnhgmdfmhmkpgaaGreatDoor
