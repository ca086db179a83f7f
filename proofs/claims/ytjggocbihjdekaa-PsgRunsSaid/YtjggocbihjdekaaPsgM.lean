/- A chip of three tones and a noise (layer 5): what the program's functions do, part 22. No conditions but that numbers are of their kinds. -/
import Derived.Test.YtjggocbihjdekaaPsgY
import Derived.Test.YtjggocbihjdekaaPsgS
import Derived.Test.YtjggocbihjdekaaPsg3
import Derived.Test.YtjggocbihjdekaaPsg2
import Derived.RegionTactic
import Derived.LoopTactic
import Derived.Deep.RegionHeld3
import Derived.Lib.Hide
namespace Go.Proofs.Ytjggocbihjdekaa
open Go.RowKit
open Kit
set_option linter.unusedSimpArgs false
set_option linter.unusedVariables false
attribute [local simp] blkAt_alloc blkNew_cells putRow_cells blkAt_drew BlkN.set BlkOne.setInt BlkOne.setBool blkPut_alloc blkPut_drew blkAt_blkPut_other size_blkPut nq2 nq3 nq4 nq5 nq6 nq7 nq8
namespace Psg
attribute [local simp ↓] sl_in ss_in vs_in
attribute [local simp] sl_run ss_run vs_run
open ToneM NoiseM
/-- A right sound, in numbers. -/
structure OK (f : Nat → Int) : Prop where
  sb : SB f
  hp : ∀ k, k < 3 → 0 ≤ f (3 * k) ∧ f (3 * k) < 1024
  hc : ∀ k, k < 3 → 0 ≤ f (3 * k + 1) ∧ f (3 * k + 1) < 1024
  n10 : 0 ≤ f 10 ∧ f 10 ≤ 64
  n9 : f 9 < 8
  n12 : f 12 ≠ 0
  q : ∀ k, 13 ≤ k → k ≤ 16 → f k ≤ 15
  hl : f 17 < 8
theorem t3e (f : Nat → Int) : tonesOk f 3 = (((true && Tone.tR (f 0) (f 1)) && Tone.tR (f 3) (f 4)) && Tone.tR (f 6) (f 7)) := rfl
theorem q4e (f : Nat → Int) : quietOk f 4 = ((((true && decide (f 13 ≤ 15)) && decide (f 14 ≤ 15)) && decide (f 15 ≤ 15)) && decide (f 16 ≤ 15)) := rfl
theorem ok_right (f : Nat → Int) (h : OK f) : rightV f = true := by
  have a := h.hp 0 (by omega); have b := h.hp 1 (by omega); have c := h.hp 2 (by omega)
  have a' := h.hc 0 (by omega); have b' := h.hc 1 (by omega); have c' := h.hc 2 (by omega)
  have q0 := h.q 13 (by omega) (by omega); have q1 := h.q 14 (by omega) (by omega)
  have q2 := h.q 15 (by omega) (by omega); have q3 := h.q 16 (by omega) (by omega)
  have n10 := h.n10; have n9 := h.n9; have n12 := h.n12; have hl := h.hl
  simp only [Nat.reduceMul, Nat.reduceAdd] at a b c a' b' c'
  have t3 : tonesOk f 3 = true := by
    rw [t3e]; simp only [Tone.tR, Bool.and_eq_true, decide_eq_true_eq, Bool.true_and]
    simp only [a, b, c, a', b', c', and_self]
  have qo : quietOk f 4 = true := by
    rw [q4e]; simp only [Bool.and_eq_true, decide_eq_true_eq, Bool.true_and]
    simp only [q0, q1, q2, q3, and_self]
  have no : Noise.nR (f 9) (f 10) (f 12) = true := by
    simp only [Noise.nR, Bool.and_eq_true, decide_eq_true_eq]
    exact ⟨⟨⟨n9, n10.1⟩, n10.2⟩, n12⟩
  unfold rightV
  rw [t3, qo, no, decide_eq_true (show f 17 ≤ 7 by omega)]
  rfl
theorem ok_of (f : Nat → Int) (sb : SB f) (h : rightV f = true) : OK f := by
  unfold rightV at h
  simp only [Bool.and_eq_true, decide_eq_true_eq] at h
  obtain ⟨⟨ht, hq⟩, hn, hl⟩ := h
  rw [t3e] at ht; rw [q4e] at hq
  simp only [Tone.tR, Bool.and_eq_true, decide_eq_true_eq, Bool.true_and] at ht
  simp only [Bool.and_eq_true, decide_eq_true_eq, Bool.true_and] at hq
  simp only [Noise.nR, Bool.and_eq_true, decide_eq_true_eq] at hn
  obtain ⟨⟨t0, t1⟩, t2⟩ := ht
  obtain ⟨⟨⟨q0, q1⟩, q2⟩, q3⟩ := hq
  obtain ⟨⟨⟨n9, n10⟩, n10'⟩, n12⟩ := hn
  refine ⟨sb, fun k hk => ?_, fun k hk => ?_, ⟨n10, n10'⟩, n9, n12, fun k h1 h2 => ?_, by omega⟩
  · rcases (by omega : k = 0 ∨ k = 1 ∨ k = 2) with rfl | rfl | rfl
    · exact ⟨t0.1.1.1, t0.1.1.2⟩
    · exact ⟨t1.1.1.1, t1.1.1.2⟩
    · exact ⟨t2.1.1.1, t2.1.1.2⟩
  · rcases (by omega : k = 0 ∨ k = 1 ∨ k = 2) with rfl | rfl | rfl
    · exact ⟨t0.1.2, t0.2⟩
    · exact ⟨t1.1.2, t1.2⟩
    · exact ⟨t2.1.2, t2.2⟩
  · rcases (by omega : k = 13 ∨ k = 14 ∨ k = 15 ∨ k = 16) with rfl | rfl | rfl | rfl
    · exact q0
    · exact q1
    · exact q2
    · exact q3
def QQ (g : Nat → Int) : Prop := g 9 < 8 ∧ g 12 ≠ 0 ∧ ∀ k, 13 ≤ k → k ≤ 16 → g k ≤ 15
theorem q_upd (g : Nat → Int) (k : Nat) (x : Int) (h : QQ g) (h9 : k = 9 → x < 8) (h12 : k = 12 → x ≠ 0) (hq : 13 ≤ k → k ≤ 16 → x ≤ 15) : QQ (upd g k x) := by
  refine ⟨?_, ?_, fun j h1 h2 => ?_⟩
  · unfold upd; split
    · rename_i e; exact h9 e.symm
    · exact h.1
  · unfold upd; split
    · rename_i e; exact h12 e.symm
    · exact h.2.1
  · unfold upd; split
    · rename_i e; subst e; exact hq h1 h2
    · exact h.2.2 j h1 h2
theorem q_write (f : Nat → Int) (v : Int) (h : QQ f) : QQ (wF f v) := by
  unfold wF
  split
  · unfold wH
    repeat' split
    all_goals repeat (first | exact h | refine q_upd _ _ _ ?_ (by omega) (by omega) (by omega))
  · unfold wL
    repeat' split
    all_goals repeat (first | exact h | refine q_upd _ _ _ ?_ (by omega) (by omega) (by omega))
theorem ok_write (f : Nat → Int) (h : OK f) (v : Int) (v0 : 0 ≤ v) (v1 : v < 256) : OK (wF f v) := by
  have g := wg_any f h.sb h.hp h.hl v v0 v1
  have q := q_write f v ⟨h.n9, h.n12, h.q⟩
  obtain ⟨s1, s2, s4, s5, s7, s8, s10, s11⟩ := g.same
  refine ⟨g.sb, g.hp, fun k hk => ?_, by rw [s10]; exact h.n10, q.1, q.2.1, q.2.2, g.hl.2⟩
  have hc := h.hc k hk
  rcases (by omega : k = 0 ∨ k = 1 ∨ k = 2) with rfl | rfl | rfl
  · rw [show wF f v (3 * 0 + 1) = f 1 from s1]; exact hc
  · rw [show wF f v (3 * 1 + 1) = f 4 from s4]; exact hc
  · rw [show wF f v (3 * 2 + 1) = f 7 from s7]; exact hc
theorem stC_bd2 (p c : Int) (hp : 0 ≤ p ∧ p < 1024) (hc : 0 ≤ c ∧ c < 1024) : 0 ≤ stC p c ∧ stC p c < 1024 := by
  unfold stC; split
  · omega
  · split <;> omega
theorem ok_tu (f : Nat → Int) (k : Nat) (hk : k < 3) (h : OK f) : OK (tuF f k) := by
  have a := stC_bd2 _ _ (h.hp k hk) (h.hc k hk)
  have e : ∀ j, j ≠ 3 * k + 1 → j ≠ 3 * k + 2 → tuF f k j = f j := fun j h1 h2 => by unfold tuF; rw [upd_other _ _ _ _ h2, upd_other _ _ _ _ h1]
  have e1 : tuF f k (3 * k + 1) = stC (f (3 * k)) (f (3 * k + 1)) := by unfold tuF; rw [upd_other _ _ _ _ (by omega), upd_same]
  refine ⟨⟨?_, ?_, fun j h1 h2 => ?_, fun j hj => ?_⟩, fun i hi => ?_, fun i hi => ?_, ?_, ?_, ?_, fun j h1 h2 => ?_, ?_⟩
  · rw [e 9 (by omega) (by omega)]; exact h.sb.1
  · rw [e 12 (by omega) (by omega)]; exact h.sb.2.1
  · rw [e j (by omega) (by omega)]; exact h.sb.2.2.1 j h1 h2
  · by_cases hj1 : j = 3 * k + 1
    · subst hj1; rw [e1]; omega
    · rw [e j hj1 (by omega)]; exact h.sb.2.2.2 j hj
  · rw [e (3 * i) (by omega) (by omega)]; exact h.hp i hi
  · by_cases hik : i = k
    · subst hik; rw [e1]; exact a
    · rw [e (3 * i + 1) (by omega) (by omega)]; exact h.hc i hi
  · rw [e 10 (by omega) (by omega)]; exact h.n10
  · rw [e 9 (by omega) (by omega)]; exact h.n9
  · rw [e 12 (by omega) (by omega)]; exact h.n12
  · rw [e j (by omega) (by omega)]; exact h.q j h1 h2
  · rw [e 17 (by omega) (by omega)]; exact h.hl
theorem ok_nu (f : Nat → Int) (t : Bool) (h : OK f) : OK (nuF f t) := by
  have e : ∀ j, j ≠ 10 → j ≠ 11 → j ≠ 12 → nuF f t j = f j := fun j h1 h2 h3 => by unfold nuF; rw [upd_other _ _ _ _ h3, upd_other _ _ _ _ h2, upd_other _ _ _ _ h1]
  have e10 : nuF f t 10 = ((nC ((f 9).toNat % 4) (f 10).toNat : Nat) : Int) := by unfold nuF; rw [upd_other _ _ _ _ (by omega), upd_other _ _ _ _ (by omega), upd_same]
  have e12 : nuF f t 12 = ((nS (f 9).toNat (f 10).toNat (f 12).toNat t (f 11 == 1) : Nat) : Int) := by unfold nuF; rw [upd_same]
  have n10 := h.n10
  have b10 := nC_le ((f 9).toNat % 4) (f 10).toNat (by omega) (by omega)
  have s12 := h.sb.2.1
  have n12 := h.n12
  have b12 := nS_bd (f 9).toNat (f 10).toNat (f 12).toNat t (f 11 == 1) (by omega) (by omega)
  refine ⟨⟨?_, ?_, fun j h1 h2 => ?_, fun j hj => ?_⟩, fun i hi => ?_, fun i hi => ?_, ?_, ?_, ?_, fun j h1 h2 => ?_, ?_⟩
  · rw [e 9 (by omega) (by omega) (by omega)]; exact h.sb.1
  · rw [e12]; omega
  · rw [e j (by omega) (by omega) (by omega)]; exact h.sb.2.2.1 j h1 h2
  · by_cases hj1 : j = 10
    · subst hj1; rw [e10]; omega
    · rw [e j hj1 (by omega) (by omega)]; exact h.sb.2.2.2 j hj
  · rw [e (3 * i) (by omega) (by omega) (by omega)]; exact h.hp i hi
  · rw [e (3 * i + 1) (by omega) (by omega) (by omega)]; exact h.hc i hi
  · rw [e10]; omega
  · rw [e 9 (by omega) (by omega) (by omega)]; exact h.n9
  · rw [e12]; omega
  · rw [e j (by omega) (by omega) (by omega)]; exact h.q j h1 h2
  · rw [e 17 (by omega) (by omega) (by omega)]; exact h.hl
theorem ok_step (f : Nat → Int) (h : OK f) : OK (stF f) := ok_nu _ _ (ok_tu _ 2 (by omega) (ok_tu _ 1 (by omega) (ok_tu _ 0 (by omega) h)))
theorem ok_it (f : Nat → Int) (h : OK f) (n : Nat) : OK (Nat.rec f (fun _ r => stF r) n) := by
  induction n with
  | zero => exact h
  | succ n ih => exact ok_step _ ih
theorem ok_sample (f : Nat → Int) : 0 ≤ pS f 4 ∧ pS f 4 ≤ 32764 := by have := pS_bd f 4; omega
end Psg
end Go.Proofs.Ytjggocbihjdekaa
