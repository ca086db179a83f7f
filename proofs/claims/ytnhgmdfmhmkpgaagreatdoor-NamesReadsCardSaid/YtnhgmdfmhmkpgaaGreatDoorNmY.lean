/- What instructions are called (layer 11): what stands behind an instruction does not matter. No conditions but those stated. -/
import Derived.Test.YtnhgmdfmhmkpgaaGreatDoorNmD
namespace Go.Proofs.YtnhgmdfmhmkpgaaGreatDoor
open Go.RowKit
set_option linter.unusedSimpArgs false
set_option linter.unusedVariables false
namespace Nm
theorem st1_ge (P : Str) (d : Nat) (tk : Bool) (f : Nat → Nat) (a : Nat) : a ≤ (st1 P d tk f a).2 := by
  unfold st1; split <;> (try split) <;> simp
theorem st2_ge (P : Str) (f : Nat → Nat) (a : Nat) : a ≤ (st2 P f a).2 := by
  unfold st2; repeat' split
  all_goals simp
theorem st1_loc (P : Str) (d : Nat) (tk : Bool) (f g : Nat → Nat) (a : Nat) (h : ∀ k, k < (st1 P d tk f a).2 → f k = g k) : st1 P d tk g a = st1 P d tk f a := by
  unfold st1 at h ⊢
  by_cases c1 : Lib.contains P [43, 100] = true
  · rw [if_pos c1] at h ⊢
    rw [if_pos c1]
    by_cases c2 : tk = true
    · rw [if_pos c2, if_pos c2]
    · rw [if_neg c2] at h ⊢
      rw [if_neg c2, h a (by simp)]
  · rw [if_neg c1, if_neg c1]
theorem st2_loc (P : Str) (f g : Nat → Nat) (a : Nat) (h : ∀ k, k < (st2 P f a).2 → f k = g k) : st2 P g a = st2 P f a := by
  unfold st2 at h ⊢
  by_cases c1 : Lib.contains P [110, 110] = true
  · rw [if_pos c1] at h ⊢
    rw [if_pos c1, h a (by simp), h (a + 1) (by simp)]
  · rw [if_neg c1] at h ⊢
    rw [if_neg c1]
    by_cases c2 : Lib.contains P [110] = true
    · rw [if_pos c2] at h ⊢
      rw [if_pos c2, h a (by simp)]
    · rw [if_neg c2] at h ⊢
      rw [if_neg c2]
      by_cases c3 : Lib.contains P [101] = true
      · rw [if_pos c3] at h ⊢
        rw [if_pos c3, h a (by simp)]
      · rw [if_neg c3, if_neg c3]
theorem fillL_ge (P : Str) (d : Nat) (tk : Bool) (f : Nat → Nat) (a : Nat) : a ≤ (fillL P d tk f a).2 := Nat.le_trans (st1_ge P d tk f a) (st2_ge _ _ _)
theorem fillL_loc (P : Str) (d : Nat) (tk : Bool) (f g : Nat → Nat) (a : Nat) (h : ∀ k, k < (fillL P d tk f a).2 → f k = g k) : fillL P d tk g a = fillL P d tk f a := by
  have e1 := st1_loc P d tk f g a (fun k hk => h k (Nat.lt_of_lt_of_le hk (st2_ge _ _ _)))
  unfold fillL
  rw [e1]
  exact st2_loc _ f g _ h
theorem prefL_ge (x : Nat) (pg dbl : Int) (f : Nat → Nat) : 1 ≤ (prefL x pg dbl f).2 := by
  unfold prefL
  split
  · simp
  · split
    · exact Nat.le_trans (by omega) (fillL_ge _ _ _ _ _)
    · exact Nat.le_trans (by omega) (fillL_ge _ _ _ _ _)
theorem prefL_loc (x : Nat) (pg dbl : Int) (f g : Nat → Nat) (hn : (prefL x pg dbl f).2 ≠ 1) (h : ∀ k, k < (prefL x pg dbl f).2 → f k = g k) : prefL x pg dbl g = prefL x pg dbl f := by
  unfold prefL at h hn ⊢
  by_cases c1 : f 1 = 221 ∨ f 1 = 237 ∨ f 1 = 253
  · rw [if_pos c1] at hn; exact absurd rfl hn
  · rw [if_neg c1] at h
    have e1 : f 1 = g 1 := by
      refine h 1 ?_
      split
      · exact Nat.lt_of_lt_of_le (by omega) (fillL_ge _ _ _ _ _)
      · exact Nat.lt_of_lt_of_le (by omega) (fillL_ge _ _ _ _ _)
    rw [← e1, if_neg c1, if_neg c1]
    by_cases c2 : f 1 = 203
    · rw [if_pos c2] at h ⊢
      have l := fillL_ge (patL dbl (f 3)) (f 2) true f 4
      rw [if_pos c2, ← h 2 (by omega), ← h 3 (by omega)]
      exact fillL_loc _ _ _ f g _ h
    · rw [if_neg c2] at h ⊢
      rw [if_neg c2]
      exact fillL_loc _ _ _ f g _ h
theorem nameL_ge (f : Nat → Nat) : 1 ≤ (nameL f).2 := by
  unfold nameL
  repeat' split
  · exact Nat.le_trans (by omega) (fillL_ge _ _ _ _ _)
  · exact Nat.le_trans (by omega) (fillL_ge _ _ _ _ _)
  · exact prefL_ge _ _ _ _
  · exact prefL_ge _ _ _ _
  · exact fillL_ge _ _ _ _ _
theorem nameL_loc (f g : Nat → Nat) (hn : ¬ ((nameL f).2 = 1 ∧ (f 0 = 221 ∨ f 0 = 253))) (h : ∀ k, k < (nameL f).2 → f k = g k) : nameL g = nameL f := by
  have e0 : f 0 = g 0 := h 0 (nameL_ge f)
  unfold nameL at h hn ⊢
  rw [← e0]
  by_cases c1 : f 0 = 203
  · rw [if_pos c1] at h ⊢
    have l := fillL_ge (patL 1 (f 1)) 0 false f 2
    rw [if_pos c1, ← h 1 (by omega)]
    exact fillL_loc _ _ _ f g _ h
  rw [if_neg c1] at h hn ⊢
  rw [if_neg c1]
  by_cases c2 : f 0 = 237
  · rw [if_pos c2] at h ⊢
    have l := fillL_ge (patL 2 (f 1)) 0 false f 2
    rw [if_pos c2, ← h 1 (by omega)]
    exact fillL_loc _ _ _ f g _ h
  rw [if_neg c2] at h hn ⊢
  rw [if_neg c2]
  by_cases c3 : f 0 = 253
  · rw [if_pos c3] at h hn ⊢
    rw [if_pos c3]
    exact prefL_loc _ _ _ f g (fun e => hn ⟨e, Or.inr c3⟩) h
  rw [if_neg c3] at h hn ⊢
  rw [if_neg c3]
  by_cases c4 : f 0 = 221
  · rw [if_pos c4] at h hn ⊢
    rw [if_pos c4]
    exact prefL_loc _ _ _ f g (fun e => hn ⟨e, Or.inl c4⟩) h
  rw [if_neg c4] at h ⊢
  rw [if_neg c4]
  exact fillL_loc _ _ _ f g _ h
theorem byt_zeros (zs : List UInt8) : byt (zs ++ [0, 0, 0, 0]) = byt zs := by
  funext k
  unfold byt
  by_cases h : k < zs.length
  · simp [List.getD_eq_getElem?_getD, List.getElem?_append_left h]
  · rw [List.getD_eq_getElem?_getD, List.getD_eq_getElem?_getD, List.getElem?_append_right (by omega), List.getElem?_eq_none (l := zs) (by omega)]
    match k - zs.length with
    | 0 => rfl
    | 1 => rfl
    | 2 => rfl
    | 3 => rfl
    | (n + 4) => rfl
theorem ends_law (zs ys : List UInt8) (n : Nat) (hn : (nameL (byt zs)).2 = n) (hl : n ≤ zs.length) (ha : ¬ (n = 1 ∧ (byt zs 0 = 221 ∨ byt zs 0 = 253))) : nameL (byt (zs.take n ++ ys)) = nameL (byt zs) := by
  refine nameL_loc _ _ (by rw [hn]; exact ha) fun k hk => ?_
  rw [hn] at hk
  unfold byt
  rw [List.getD_eq_getElem?_getD, List.getD_eq_getElem?_getD, List.getElem?_append_left (by simp; omega), List.getElem?_take_of_lt hk]
end Nm
end Go.Proofs.YtnhgmdfmhmkpgaaGreatDoor
