/- What instructions are called (layer 11): the reference: Has. No conditions but those stated. -/
import Derived.Test.YtnhgmdfmhmkpgaaGreatDoorNmR5
import Derived.RegionTactic
import Derived.LoopTactic
import Derived.Deep.RegionHeld3
import Derived.Deep.DeepCutAuto
import Derived.Lib.Hide
namespace Go.Proofs.YtnhgmdfmhmkpgaaGreatDoor
open Go.RowKit
open Kit
set_option linter.unusedSimpArgs false
set_option linter.unusedVariables false
namespace Nm
theorem ra_le (old : Str) (h : old ≠ []) : ∀ (n : Nat) (l : Str), l.length ≤ n → (RA old [] l).length ≤ l.length ∧ (Lib.contains l old = true → (RA old [] l).length < l.length)
  | n, [], _ => by
    have hi : Lib.index [] old = -1 := by unfold Lib.index; cases old <;> simp_all
    rw [ra_nil _ _ h]
    refine ⟨Nat.le_refl _, fun e => ?_⟩
    unfold Lib.contains at e
    rw [hi] at e
    cases e
  | 0, c :: t, hl => by simp at hl
  | n + 1, c :: t, hl => by
    have hl' : t.length ≤ n := by simpa using hl
    by_cases hp : old.isPrefixOf (c :: t) = true
    · rw [ra_hit _ _ h _ _ hp]
      have ho : 1 ≤ old.length := by cases old with
        | nil => exact absurd rfl h
        | cons _ _ => simp
      have := (ra_le old h n ((c :: t).drop old.length) (by simp; omega)).1
      have hd : ((c :: t).drop old.length).length < (c :: t).length := by simp; omega
      simp only [List.nil_append]
      exact ⟨by omega, fun _ => by omega⟩
    · have hp' : old.isPrefixOf (c :: t) = false := Bool.eq_false_iff.2 hp
      rw [ra_miss _ _ h _ _ hp']
      obtain ⟨h1, h2⟩ := ra_le old h n t hl'
      refine ⟨by simp; exact h1, fun e => ?_⟩
      have : Lib.contains t old = true := by
        unfold Lib.contains at e ⊢
        rw [Lib.index, if_neg hp] at e
        by_cases hm : (Lib.index t old == -1) = true
        · rw [if_pos hm] at e; cases e
        · have := Lib.index_ge t old
          have hm2 : Lib.index t old ≠ -1 := fun e => hm (by rw [e]; rfl)
          exact decide_eq_true (by omega)
      have := h2 this
      simp; exact this
theorem ra_has (old s : Str) (h : old ≠ []) : (RA old [] s == s) = !(Lib.contains s old) := by
  cases hc : Lib.contains s old
  · have hi : Lib.index s old = -1 := by
      unfold Lib.contains at hc
      have := of_decide_eq_false hc
      have := Lib.index_ge s old
      omega
    unfold RA
    rw [Lib.count_miss hi]
    simp [Lib.replaceK]
  · have := (ra_le old h _ s (Nat.le_refl _)).2 hc
    rw [Bool.not_true, beq_eq_false_iff_ne]
    intro e
    rw [e] at this
    omega
set_option maxRecDepth 100000 in
set_option maxHeartbeats 4000000 in
theorem has_any (s old : ByteArray) (hs : s.size ≤ 60) (ho : 1 ≤ old.size) (ho2 : old.size ≤ 20) : Held 25 #[.string s, .string old] (.bool (Lib.contains s.data.toList old.data.toList)) := held' fun W hW => by
  have k0 := NB.start hW
  have hleno : old.data.toList.length = old.size := (Lib.size_eq old).symm
  have hne : old.data.toList ≠ [] := fun e => by rw [e] at hleno; simp at hleno; omega
  have hq := ra_has old.data.toList s.data.toList hne
  generalize Lib.contains s.data.toList old.data.toList = C at *
  have HQ := Lib.hid hq
  clear hq hne
  go_enter Tryz.func25, Tryz.ntmps25
  go_wp2_with (go_at_call 26; refine (rreplace s old ⟨#[]⟩ hs ho ho2 (Nat.zero_le _) _ _ _ k0).mono ?_; rintro e w1 ⟨a1, rfl, ha1, hz1, k1⟩; (have t1 : (a1.toList == s.toList) = !C := by (rw [Lib.toList_data, Lib.toList_data, ha1]; exact HQ.out)))
  go_ret
  exact ⟨by simp, k1⟩
end Nm
end Go.Proofs.YtnhgmdfmhmkpgaaGreatDoor
