/- What instructions are called (layer 11): the scanner. No conditions but those stated. -/
import Derived.Test.YtnhgmdfmhmkpgaaGreatDoorNm
import Derived.RegionTactic
import Derived.LoopTactic
import Derived.Deep.RegionHeld3
import Derived.Deep.DeepCutAuto
import Derived.Lib.Hide
namespace Go.Proofs.YtnhgmdfmhmkpgaaGreatDoor
open Go.RowKit
open Kit
set_option linter.unusedSimpArgs false
set_option linter.unusedVariables false
namespace Nm
/-- A slice of bytes that can be read. -/
def BytesOf (w : World) (v : Value) (zs : List UInt8) : Prop := ∃ p cap, v = .slice p zs.length cap ∧ zs.length ≤ 1000 ∧ (zs ≠ [] → ∃ b o, p = some ⟨b, o, none⟩ ∧ b < w.heap.size ∧ ∀ (i : Nat) (x : UInt8), zs[i]? = some x → w.cell? ⟨b, o + i, none⟩ = some (.int .u8 x.toNat))
theorem BytesOf.below {w w' : World} {v : Value} {zs : List UInt8} (h : BytesOf w v zs) (hb : Below w.heap.size w w') : BytesOf w' v zs := by
  obtain ⟨p, cap, rfl, hl, hc⟩ := h
  refine ⟨p, cap, rfl, hl, fun hz => ?_⟩
  obtain ⟨b, o, rfl, hbl, hcell⟩ := hc hz
  exact ⟨b, o, rfl, Nat.lt_of_lt_of_le hbl hb.size, fun i x hx => by rw [hb.cell (p := ⟨b, o + i, none⟩) hbl]; exact hcell i x hx⟩
/-- The scanner's block. -/
def NS (w : World) (sb : Nat) (v : Value) (a : Nat) (W : World) : Prop := NB w [(sb, #[v, .int .i64 (a : Nat)], 42)] W
set_option maxRecDepth 100000 in
set_option maxHeartbeats 4000000 in
theorem next_any (w : World) (v : Value) (zs : List UInt8) (hB : BytesOf w v zs) (a : Nat) (ha : a ≤ 10) (sb : Nat) (hsb : w.heap.size ≤ sb) (hw : GV w) (W : World) (k : NS w sb v a W) : Calls Tryz.prog 21 #[.pointer (some ⟨sb, 0, none⟩)] W fun e w' => e = .returned (.int .u8 (zs.getD a 0).toNat) ∧ NS w sb v (a + 1) w' := by
  unfold NS at k ⊢
  obtain ⟨p, cap, rfl, hl, hc⟩ := hB
  have c0 := (cell_of _ _ 0 k.h0).trans rfl
  have c1 := (cell_of _ _ 1 k.h0).trans rfl
  have f1 := free_of _ _ 1 k.h0
  have n1 : IntKind.i64.wrap ((a : Int) + 1) = (a : Int) + 1 := by rw [IntKind.wrap_i64]; omega
  have k2 : NB w [(sb, #[.slice p zs.length cap, .int .i64 ((a : Int) + 1)], 42)] (W.setCell ⟨sb, 1, none⟩ (.int .i64 ((a : Int) + 1))) := k.set sb 1 _ #[.slice p zs.length cap, .int .i64 (a : Nat)] 42 (by simp) hsb hw _ rfl _ (fun p hp => .inl (by simpa using hp))
  go_enter Tryz.func21, Tryz.ntmps21
  go_upto_region 2 with fail
  generalize W.setCell ⟨sb, 1, none⟩ (.int .i64 ((a : Int) + 1)) = W2 at *
  have d0 : W2.cell? ⟨sb, 0, none⟩ = some (.slice p zs.length cap) := (cell_of _ _ 0 k2.h0).trans rfl
  have d1 : W2.cell? ⟨sb, 1, none⟩ = some (.int .i64 ((a : Int) + 1)) := (cell_of _ _ 1 k2.h0).trans rfl
  clear c0 c1 f1 k
  by_cases h : a < zs.length
  · have t1 : decide ((zs.length : Int) < (a : Int) + 1) = false := decide_eq_false (by omega)
    have t1' : ¬ (zs.length : Int) < (a : Int) + 1 := by omega
    obtain ⟨b, o, rfl, hbl, hcell⟩ := hc (fun e => by rw [e] at h; simp at h)
    have hx : zs[a]? = some (zs.getD a 0) := by rw [List.getD_eq_getElem?_getD, List.getElem?_eq_getElem h]; rfl
    have hcc := hcell a _ hx
    have e1 : W2.cell? ⟨b, o + a, none⟩ = some (.int .u8 (zs.getD a 0).toNat) := by rw [k2.bel.cell (p := ⟨b, o + a, none⟩) hbl]; exact hcc
    have m0 : (0 : Int) ≤ (a : Int) := by omega
    have m1 : (a : Int) < (zs.length : Int) := by omega
    have m2 : IntKind.i64.wrap ((a : Int) + 1 - 1) = (a : Int) := by rw [IntKind.wrap_i64]; omega
    have m3 : IntKind.i64.wrap (a : Int) = (a : Int) := by rw [IntKind.wrap_i64]; omega
    have HX := Lib.hid (rfl : zs.getD a 0 = zs.getD a 0)
    clear HX
    obtain ⟨x, hxE⟩ : ∃ x, zs.getD a 0 = x := ⟨_, rfl⟩
    rw [hxE] at e1
    have HX := Lib.hid hxE
    clear hc hcell hx hcc hl hxE
    go_region
    all_goals go_wp2_with fail
    all_goals go_region
    all_goals
      go_wp2_with fail
      go_ret
      exact ⟨by rw [HX.out]; rfl, by first | exact k2.drew.drew | exact k2.drew | exact k2⟩
  · have t1 : decide ((zs.length : Int) < (a : Int) + 1) = true := decide_eq_true (by omega)
    have t1' : (zs.length : Int) < (a : Int) + 1 := by omega
    have hx : zs.getD a 0 = 0 := by rw [List.getD_eq_getElem?_getD, List.getElem?_eq_none (by omega)]; rfl
    have HX := Lib.hid hx
    clear hx hc
    go_region
    all_goals
      go_wp2_with fail
      go_ret
      exact ⟨by rw [HX.out]; rfl, by first | exact k2.drew | exact k2⟩
end Nm
end Go.Proofs.YtnhgmdfmhmkpgaaGreatDoor
