/- A tone, step by step (layer 3), in plain numbers: what one step does, what so many steps do. No conditions but those of the lemmas. -/
import Derived.Lib.Hide
namespace Go.Proofs.Ytjggocbihjdekaa
namespace ToneM
set_option linter.unusedVariables false
def stC (p c : Int) : Int := if 2 ≤ c then c - 1 else if p < 2 then 1 else p
def stO (p c : Int) (o : Bool) : Bool := if 2 ≤ c then o else if p < 2 then true else !o
def stT (p c : Int) : Bool := if 2 ≤ c then false else if p < 2 then false else true
def fi (c : Int) : Int := if c < 1 then 1 else c
def pe (p : Int) : Int := if p < 1 then 1 else p
def rnC (p c n : Int) : Int := if n < fi c then (if n < 0 then c else c - n) else pe p - (n - fi c) % pe p
def rnO (p c : Int) (o : Bool) (n : Int) : Bool := if n < fi c then o else if p < 2 then true else if (n - fi c) / pe p % 2 = 1 then o else !o
def rnM (p c n : Int) : Int := if n < fi c then 0 else if p < 2 then 0 else (n - fi c) / pe p + 1
theorem fi_pos (c : Int) : 1 ≤ fi c := by unfold fi; split <;> omega
theorem pe_pos (p : Int) : 1 ≤ pe p := by unfold pe; split <;> omega
/-- One more, in rounds of P. -/
theorem next (n P : Int) (hP : 1 ≤ P) (hn : 0 ≤ n) : (n % P < P - 1 ∧ (n + 1) % P = n % P + 1 ∧ (n + 1) / P = n / P) ∨ (n % P = P - 1 ∧ (n + 1) % P = 0 ∧ (n + 1) / P = n / P + 1) := by
  have e := Int.mul_ediv_add_emod n P
  have r0 := Int.emod_nonneg n (show P ≠ 0 by omega)
  have r1 := Int.emod_lt_of_pos n (show 0 < P by omega)
  by_cases h : n % P < P - 1
  · left
    have e2 : n + 1 = (n % P + 1) + P * (n / P) := by omega
    refine ⟨h, ?_, ?_⟩
    · rw [e2, Int.add_mul_emod_self_left]; exact Int.emod_eq_of_lt (by omega) (by omega)
    · rw [e2, Int.add_mul_ediv_left _ _ (by omega), Int.ediv_eq_zero_of_lt (by omega) (by omega)]; omega
  · right
    have h' : n % P = P - 1 := by omega
    have e2 : n + 1 = 0 + P * (n / P + 1) := by rw [Int.mul_add]; omega
    refine ⟨h', ?_, ?_⟩
    · rw [e2, Int.add_mul_emod_self_left]; rfl
    · rw [e2, Int.add_mul_ediv_left _ _ (by omega)]; simp
theorem st_rn (p c n : Int) (o : Bool) (hn : 0 ≤ n) : stC p (rnC p c n) = rnC p c (n + 1) ∧ stO p (rnC p c n) (rnO p c o n) = rnO p c o (n + 1) ∧ rnM p c (n + 1) = rnM p c n + cond (stT p (rnC p c n)) 1 0 := by
  have hf := fi_pos c
  have hp := pe_pos p
  have hfc : c < 1 ∧ fi c = 1 ∨ 1 ≤ c ∧ fi c = c := by unfold fi; split <;> omega
  have hpp : p < 1 ∧ pe p = 1 ∨ 1 ≤ p ∧ pe p = p := by unfold pe; split <;> omega
  unfold rnC rnO rnM
  generalize fi c = f at *
  generalize pe p = P at *
  by_cases h1 : n < f
  · rw [if_pos h1, if_pos h1, if_pos h1, if_neg (show ¬ n < 0 by omega)]
    by_cases h2 : n + 1 < f
    · rw [if_pos h2, if_pos h2, if_pos h2, if_neg (show ¬ n + 1 < 0 by omega)]
      have hc : 2 ≤ c - n := by omega
      unfold stC stO stT
      rw [if_pos hc, if_pos hc, if_pos hc]
      exact ⟨by omega, rfl, rfl⟩
    · rw [if_neg h2, if_neg h2, if_neg h2]
      have hc : ¬ 2 ≤ c - n := by omega
      have e0 : n + 1 - f = 0 := by omega
      rw [e0, Int.zero_emod, Int.zero_ediv]
      unfold stC stO stT
      rw [if_neg hc, if_neg hc, if_neg hc]
      by_cases h3 : p < 2
      · rw [if_pos h3, if_pos h3, if_pos h3, if_pos h3, if_pos h3]
        exact ⟨by omega, rfl, rfl⟩
      · rw [if_neg h3, if_neg h3, if_neg h3, if_neg h3, if_neg h3]
        exact ⟨by omega, rfl, rfl⟩
  · have h2 : ¬ n + 1 < f := by omega
    rw [if_neg h1, if_neg h1, if_neg h1, if_neg h2, if_neg h2, if_neg h2]
    have hx := next (n - f) P hp (by omega)
    rw [show n + 1 - f = n - f + 1 by omega]
    have r0 := Int.emod_nonneg (n - f) (show P ≠ 0 by omega)
    have q0 : 0 ≤ (n - f) / P := Int.ediv_nonneg (by omega) (by omega)
    generalize (n - f) % P = r at *
    generalize (n - f + 1) % P = r' at *
    generalize (n - f) / P = q at *
    generalize (n - f + 1) / P = q' at *
    unfold stC stO stT
    rcases hx with ⟨ha, hb, hc⟩ | ⟨ha, hb, hc⟩
    · have hk : 2 ≤ P - r := by omega
      rw [if_pos hk, if_pos hk, if_pos hk, hc]
      refine ⟨by omega, rfl, ?_⟩
      by_cases h3 : p < 2
      · rw [if_pos h3]; rfl
      · rw [if_neg h3]; simp
    · have hk : ¬ 2 ≤ P - r := by omega
      rw [if_neg hk, if_neg hk, if_neg hk]
      by_cases h3 : p < 2
      · rw [if_pos h3, if_pos h3, if_pos h3]
        refine ⟨by omega, ?_, ?_⟩ <;> simp [h3]
      · rw [if_neg h3, if_neg h3, if_neg h3, if_neg h3, hc]
        refine ⟨by omega, ?_, by simp [h3]⟩
        by_cases h4 : q % 2 = 1
        · rw [if_pos h4, if_neg (show ¬ (q + 1) % 2 = 1 by omega)]
        · rw [if_neg h4, if_pos (show (q + 1) % 2 = 1 by omega), Bool.not_not]
theorem rn_zero (p c n : Int) (o : Bool) (hc : 0 ≤ c) (hn : n ≤ 0) : rnC p c n = c ∧ rnO p c o n = o ∧ rnM p c n = 0 := by
  have hf := fi_pos c
  unfold rnC rnO rnM
  rw [if_pos (show n < fi c by omega), if_pos (show n < fi c by omega), if_pos (show n < fi c by omega)]
  refine ⟨?_, rfl, rfl⟩
  split <;> omega
theorem rn_bd (p c n : Int) (hp0 : 0 ≤ p) (hp1 : p < 1024) (hc0 : 0 ≤ c) (hc1 : c < 1024) : 0 ≤ rnC p c n ∧ rnC p c n < 1024 := by
  have hf : fi c = c ∨ fi c = 1 ∧ c < 1 := by unfold fi; split <;> omega
  have hpp : p < 1 ∧ pe p = 1 ∨ 1 ≤ p ∧ pe p = p := by unfold pe; split <;> omega
  unfold rnC
  by_cases h : n < fi c
  · rw [if_pos h]; split <;> omega
  · rw [if_neg h]
    have r0 := Int.emod_nonneg (n - fi c) (show pe p ≠ 0 by omega)
    have r1 := Int.emod_lt_of_pos (n - fi c) (show 0 < pe p by omega)
    omega
theorem st_bd (p c : Int) (hp0 : 0 ≤ p) (hp1 : p < 1024) (hc0 : 0 ≤ c) (hc1 : c < 1024) : 0 ≤ stC p c ∧ stC p c < 1024 := by
  unfold stC; split
  · omega
  · split <;> omega
/-- It is turned about behind just so many steps, not before. -/
theorem until_at (p c : Int) (o : Bool) (hp : 2 ≤ p) (n : Int) (hn : n = fi c) : rnM p c (n - 1) = 0 ∧ rnM p c n = 1 ∧ rnO p c o n = !o := by
  subst hn
  unfold rnM rnO
  rw [if_pos (by omega), if_neg (by omega), if_neg (by omega), if_neg (by omega), if_neg (by omega)]
  simp
theorem until_never (p c n : Int) (hp : p < 2) : rnM p c n = 0 := by
  unfold rnM; rw [if_pos hp]; split <;> rfl
theorem beats (p c : Int) (o : Bool) (hp : 2 ≤ p) (hc0 : 1 ≤ c) (hc1 : c ≤ p) : rnM p c p = 1 ∧ rnM p c (2 * p) = 2 ∧ rnC p c p = c ∧ rnC p c (2 * p) = c ∧ rnO p c o p = !o ∧ rnO p c o (2 * p) = o := by
  have hf : fi c = c := by unfold fi; split <;> omega
  have hP : pe p = p := by unfold pe; split <;> omega
  have m1 : (p - c) % p = p - c := Int.emod_eq_of_lt (by omega) (by omega)
  have d1 : (p - c) / p = 0 := Int.ediv_eq_zero_of_lt (by omega) (by omega)
  have e2 : 2 * p - c = (p - c) + p * 1 := by omega
  have m2 : (2 * p - c) % p = p - c := by rw [e2, Int.add_mul_emod_self_left]; exact m1
  have d2 : (2 * p - c) / p = 1 := by rw [e2, Int.add_mul_ediv_left _ _ (by omega), d1]; rfl
  unfold rnM rnC rnO
  rw [hf, hP, m1, d1, m2, d2]
  have a : ¬ p < c := by omega
  have b : ¬ 2 * p < c := by omega
  have d : ¬ p < 2 := by omega
  rw [if_neg a, if_neg a, if_neg a, if_neg b, if_neg b, if_neg b, if_neg d, if_neg d, if_neg d, if_neg d]
  refine ⟨rfl, rfl, by omega, by omega, by simp, by simp⟩
end ToneM
end Go.Proofs.Ytjggocbihjdekaa
