/- What instructions are called (layer 11): the reference: replace. No conditions but those stated. -/
import Derived.Test.YtnhgmdfmhmkpgaaGreatDoorNm
import Derived.RegionTactic
import Derived.LoopTactic
import Derived.Deep.RegionHeld3
import Derived.Deep.DeepCutAuto
import Derived.Lib.Hide
namespace Go.Proofs.YtnhgmdfmhmkpgaaGreatDoor
open Go.RowKit
open Kit
set_option linter.unusedSimpArgs false
set_option linter.unusedVariables false
namespace Nm
/-- All that is so is replaced. -/
def RA (old new s : Str) : Str := Lib.replaceK old new (Lib.count s old) s
theorem ra_nil (old new : Str) (h : old ≠ []) : RA old new [] = [] := by
  unfold RA
  have : Lib.index [] old = -1 := by unfold Lib.index; cases old <;> simp_all
  rw [Lib.count_miss this]; rfl
theorem ra_hit (old new : Str) (h : old ≠ []) (c : UInt8) (t : Str) (hp : old.isPrefixOf (c :: t) = true) : RA old new (c :: t) = new ++ RA old new ((c :: t).drop old.length) := by
  have hi : Lib.index (c :: t) old = ((0 : Nat) : Int) := by unfold Lib.index; rw [if_pos hp]; rfl
  unfold RA
  rw [Lib.count_hit h hi, Nat.zero_add, Nat.add_comm, Lib.replaceK_hit _ _ _ _ 0 hi]
  simp
theorem ra_miss (old new : Str) (h : old ≠ []) (c : UInt8) (t : Str) (hp : old.isPrefixOf (c :: t) = false) : RA old new (c :: t) = c :: RA old new t := by
  have hd : Lib.index (c :: t) old = if Lib.index t old == -1 then -1 else Lib.index t old + 1 := by rw [Lib.index, if_neg (by rw [hp]; simp)]
  unfold RA
  by_cases hm : Lib.index t old = -1
  · have h2 : Lib.index (c :: t) old = -1 := by rw [hd, hm]; rfl
    rw [Lib.count_miss hm, Lib.count_miss h2]; rfl
  · obtain ⟨j, hj⟩ : ∃ j : Nat, Lib.index t old = j := ⟨(Lib.index t old).toNat, by have := Lib.index_ge t old; omega⟩
    have h2 : Lib.index (c :: t) old = ((j + 1 : Nat) : Int) := by
      rw [hd, hj]
      have : (((j : Nat) : Int) == -1) = false := beq_eq_false_iff_ne.2 (by omega)
      rw [this]; simp
    have e1 := Lib.count_hit h hj
    have e2 := Lib.count_hit h h2
    have e3 : (c :: t).drop (j + 1 + old.length) = t.drop (j + old.length) := by rw [show j + 1 + old.length = (j + old.length) + 1 by omega]; rfl
    rw [e3] at e2
    rw [e1, e2, Nat.add_comm 1, Lib.replaceK_hit _ _ _ _ _ hj, Lib.replaceK_hit _ _ _ _ _ h2, e3]
    simp
theorem pre_take (old l : Str) (h : old.length ≤ l.length) : (l.take old.length == old) = old.isPrefixOf l := by
  rw [Bool.eq_iff_iff, beq_iff_eq, List.isPrefixOf_iff_prefix, List.prefix_iff_eq_take]
  exact ⟨fun e => e.symm, fun e => e.symm⟩
theorem pre_long (old l : Str) (h : l.length < old.length) : old.isPrefixOf l = false := by
  rw [Bool.eq_false_iff]
  intro e
  have := (List.isPrefixOf_iff_prefix.1 e).length_le
  omega
set_option maxRecDepth 100000 in
set_option maxHeartbeats 4000000 in
theorem rreplace (s old new : ByteArray) (hs : s.size ≤ 60) (ho : 1 ≤ old.size) (ho2 : old.size ≤ 20) (hn : new.size ≤ 20) : HeldS 26 #[.string s, .string old, .string new] (RA old.data.toList new.data.toList s.data.toList) 2000 := heldS fun W hW => by
  have hlen : s.data.toList.length = s.size := (Lib.size_eq s).symm
  have hleno : old.data.toList.length = old.size := (Lib.size_eq old).symm
  have hne : old.data.toList ≠ [] := fun e => by rw [e] at hleno; simp at hleno; omega
  generalize hR : RA old.data.toList new.data.toList s.data.toList = R
  have HR := Lib.hid hR
  clear hR
  go_enter Tryz.func26, Tryz.ntmps26
  go_wp2_with fail
  go_loopw [7, 8] (fun s7 s8 wr => wr = W ∧ ∃ (i : Nat) (p : ByteArray), i ≤ s.size ∧ s8 = .int .i64 i ∧ s7 = .string p ∧ p.size ≤ 20 * i ∧ Hid (p.data.toList ++ RA old.data.toList new.data.toList (s.data.toList.drop i) = R)) (fun _ s8 _ => s.size - (intOf s8).toNat)
  case atStart => exact ⟨rfl, 0, ⟨#[]⟩, by omega, rfl, rfl, Nat.le_refl _, HR⟩
  case round =>
    obtain ⟨rfl, i, p, hi, rfl, rfl, hp, HI2⟩ := hrel
    clear HR
    by_cases hlt : i < s.size
    case pos =>
      have n0 : (0 : Int) ≤ (i : Int) := by omega
      have n1 : (i : Int) < (s.size : Int) := by omega
      have n2 : (i : Int) + 1 ≤ (s.size : Int) := by omega
      have n3 : (i : Int) ≤ (i : Int) + 1 := by omega
      have n4 : (i : Int) ≤ (i : Int) + (old.size : Int) := by omega
      have wr1 : IntKind.i64.wrap ((i : Int) + (old.size : Int)) = (i : Int) + (old.size : Int) := by rw [IntKind.wrap_i64]; omega
      have hdr : s.data.toList.drop i = (s[i]'hlt) :: s.data.toList.drop (i + 1) := Lib.drop_at (Lib.data_getElem? s i hlt)
      have hcomp : i + old.size ≤ s.size → ((s.extract i (i + old.size)).toList == old.toList) = old.data.toList.isPrefixOf (s.data.toList.drop i) := fun hle => by
        rw [Lib.toList_data, Lib.toList_data, Lib.extract_data, Nat.add_sub_cancel_left, ← hleno]
        exact pre_take _ _ (by rw [List.length_drop]; omega)
      by_cases hc : old.data.toList.isPrefixOf (s.data.toList.drop i) = true
      case pos =>
        have hle : i + old.size ≤ s.size := by
          rcases Nat.lt_or_ge s.size (i + old.size) with h' | h'
          · rw [pre_long _ _ (by rw [List.length_drop]; omega)] at hc; cases hc
          · exact h'
        have t0 : (i : Int) + (old.size : Int) ≤ (s.size : Int) := by omega
        have t1 := (hcomp hle).trans hc
        have hs2 := HI2.out
        rw [hdr, ra_hit _ _ hne _ _ (by rw [← hdr]; exact hc), ← hdr, List.drop_drop, hleno] at hs2
        have HS2 := Lib.hid hs2
        have HN := Lib.hid hne
        clear hs2 hdr HI2 hcomp hc hne
        go_wp2_with fail
        all_goals first | (exfalso; simp only [ByteArray.size_append] at *; omega) | skip
        go_roundw
        case rel => exact ⟨by first | rfl | trivial, i + old.size, p ++ new, by omega, by go_num, rfl, by rw [ByteArray.size_append]; omega, Lib.hid (by have := HS2.out; simpa using this)⟩
        case measure => simp [intOf] <;> omega
      case neg =>
        have hcf : old.data.toList.isPrefixOf (s.data.toList.drop i) = false := Bool.eq_false_iff.2 hc
        have hs2 := HI2.out
        rw [hdr, ra_miss _ _ hne _ _ (by rw [← hdr]; exact hcf)] at hs2
        have hpe : p.data.toList ++ [s[i]'hlt] = (p ++ s.extract i (i + 1)).data.toList := by
          have e1 := Lib.extract_data s i (i + 1)
          rw [hdr] at e1
          simp only [ByteArray.data_append, Array.toList_append, e1, Nat.add_sub_cancel_left, List.take_succ_cons, List.take_zero]
        have hes : (s.extract i (i + 1)).size = 1 := by simp [ByteArray.size_extract]; omega
        have HPE := Lib.hid hpe
        have HS2 := Lib.hid hs2
        have HDN := Lib.hid hne
        by_cases hle : i + old.size ≤ s.size
        case pos =>
          have t0 : (i : Int) + (old.size : Int) ≤ (s.size : Int) := by omega
          have t1 := (hcomp hle).trans hcf
          clear hs2 hdr HI2 hcomp hc hcf hpe hne
          go_wp2_with fail
          all_goals first | (exfalso; simp only [ByteArray.size_append, ByteArray.size_extract] at *; omega) | skip
          go_roundw
          case rel => exact ⟨by first | rfl | trivial, i + 1, p ++ s.extract i (i + 1), by omega, by go_num, rfl, by rw [ByteArray.size_append, hes]; omega, Lib.hid (by rw [← HPE.out]; have := HS2.out; simpa using this)⟩
          case measure => simp [intOf] <;> omega
        case neg =>
          have t0 : ¬ (i : Int) + (old.size : Int) ≤ (s.size : Int) := by omega
          have t0' : decide ((i : Int) + (old.size : Int) ≤ (s.size : Int)) = false := decide_eq_false t0
          clear hs2 hdr HI2 hcomp hc hcf hpe hne
          go_wp2_with fail
          all_goals first | (exfalso; simp only [ByteArray.size_append, ByteArray.size_extract] at *; omega) | skip
          go_roundw
          case rel => exact ⟨by first | rfl | trivial, i + 1, p ++ s.extract i (i + 1), by omega, by go_num, rfl, by rw [ByteArray.size_append, hes]; omega, Lib.hid (by rw [← HPE.out]; have := HS2.out; simpa using this)⟩
          case measure => simp [intOf] <;> omega
    case neg =>
      have he : i = s.size := by omega
      subst he
      have hs2 := HI2.out
      rw [List.drop_of_length_le (by omega), ra_nil _ _ hne, List.append_nil] at hs2
      clear HI2
      go_wp2_with fail
      go_ret
      exact ⟨_, rfl, hs2, by omega, Below.refl _ _⟩
end Nm
end Go.Proofs.YtnhgmdfmhmkpgaaGreatDoor
