/- A tone (layer 3): what the program's functions do. No conditions but that numbers are of their kinds. -/
import Derived.Test.YtbnpilbnkofgiaaKit
import Derived.Test.YtbnpilbnkofgiaaToneM
import Derived.Deep.QuietTactic
import Derived.BigQuiet
import Derived.RegionTactic
namespace Go.Proofs.Ytbnpilbnkofgiaa
open Go.RowKit
open Kit ToneM
set_option linter.unusedSimpArgs false
set_option linter.unusedVariables false
namespace Tone
theorem bcell {W w1 : World} {B : Nat} (hb : Below B W w1) : (∀ b o, b < B → w1.cell? ⟨b, o, none⟩ = W.cell? ⟨b, o, none⟩) ∧ (∀ b o, b < B → w1.frozen? ⟨b, o, none⟩ = W.frozen? ⟨b, o, none⟩) :=
  ⟨fun b o h => hb.cell (p := ⟨b, o, none⟩) h, fun b o h => hb.frozen (p := ⟨b, o, none⟩) h⟩
def tR (p c : Int) : Bool := decide (0 ≤ p) && decide (p < 1024) && decide (0 ≤ c) && decide (c < 1024)
theorem tR_bd {p c : Int} (h : tR p c = true) : 0 ≤ p ∧ p < 1024 ∧ 0 ≤ c ∧ c < 1024 := by
  simp only [tR, Bool.and_eq_true, decide_eq_true_eq] at h
  exact ⟨h.1.1.1, h.1.1.2, h.1.2, h.2⟩
theorem tR_of {p c : Int} (h1 : 0 ≤ p) (h2 : p < 1024) (h3 : 0 ≤ c) (h4 : c < 1024) : tR p c = true := by simp [tR, h1, h2, h3, h4]
theorem tR_no {p c : Int} (h : ¬ (0 ≤ p ∧ p < 1024 ∧ 0 ≤ c ∧ c < 1024)) : tR p c = false := by
  rw [← Bool.not_eq_true]; exact fun g => h (tR_bd g)
theorem tn {p c c' : Int} {o o' b b' : Bool} (h1 : c = c') (h2 : o = o') (h3 : b = b') : Ending.returned (.tuple #[.agg #[.int .i64 p, .int .i64 c, .bool o], .bool b]) = .returned (.tuple #[.agg #[.int .i64 p, .int .i64 c', .bool o'], .bool b']) := by rw [h1, h2, h3]
theorem tm {p c c' m m' : Int} {o o' : Bool} (h1 : c = c') (h2 : o = o') (h3 : m = m') : Ending.returned (.tuple #[.agg #[.int .i64 p, .int .i64 c, .bool o], .int .i64 m]) = .returned (.tuple #[.agg #[.int .i64 p, .int .i64 c', .bool o'], .int .i64 m']) := by rw [h1, h2, h3]
theorem st_a (p c : Int) (o : Bool) (h : 2 ≤ c) : c - 1 = stC p c ∧ o = stO p c o ∧ false = stT p c := by unfold stC stO stT; rw [if_pos h, if_pos h, if_pos h]; exact ⟨rfl, rfl, rfl⟩
theorem st_b (p c : Int) (o : Bool) (h : ¬ 2 ≤ c) (h2 : p < 2) : 1 = stC p c ∧ true = stO p c o ∧ false = stT p c := by unfold stC stO stT; rw [if_neg h, if_neg h, if_neg h, if_pos h2, if_pos h2, if_pos h2]; exact ⟨rfl, rfl, rfl⟩
theorem st_c (p c : Int) (o : Bool) (h : ¬ 2 ≤ c) (h2 : ¬ p < 2) : p = stC p c ∧ (!o) = stO p c o ∧ true = stT p c := by unfold stC stO stT; rw [if_neg h, if_neg h, if_neg h, if_neg h2, if_neg h2, if_neg h2]; exact ⟨rfl, rfl, rfl⟩
theorem right_any (p c : Int) (o : Bool) (w : World) : Calls Try.prog 8 #[.agg #[.int .i64 p, .int .i64 c, .bool o]] w fun e w' => e = .returned (.bool (tR p c)) ∧ ∃ o1, w' = w.alloc o1 := by
  obtain ⟨r, hr⟩ : ∃ r, tR p c = r := ⟨_, rfl⟩
  have HR := Lib.hid hr
  rw [hr]
  clear hr
  by_cases h1 : 0 ≤ p
  · by_cases h2 : p < 1024
    · by_cases h3 : 0 ≤ c
      · by_cases h4 : c < 1024
        · have h2' : p ≤ 1023 := by omega
          have h4' : c ≤ 1023 := by omega
          go_enter Try.func8, Try.ntmps8
          go_wp2
          go_ret
          exact ⟨ret_bool (by rw [← HR.out, tR_of h1 h2 h3 h4]), _, rfl⟩
        · have h2' : p ≤ 1023 := by omega
          have h4' : 1024 ≤ c := by omega
          have d4 : decide (c ≤ 1023) = false := by simp; omega
          go_enter Try.func8, Try.ntmps8
          go_wp2
          go_ret
          exact ⟨ret_bool (by rw [← HR.out, tR_no (by omega)]), _, rfl⟩
      · have h2' : p ≤ 1023 := by omega
        have h3' : c < 0 := by omega
        have d3 : decide (0 ≤ c) = false := by simp; omega
        go_enter Try.func8, Try.ntmps8
        go_wp2
        go_ret
        exact ⟨ret_bool (by rw [← HR.out, tR_no (by omega)]), _, rfl⟩
    · have h2' : 1024 ≤ p := by omega
      have d2 : decide (p ≤ 1023) = false := by simp; omega
      go_enter Try.func8, Try.ntmps8
      go_wp2
      go_ret
      exact ⟨ret_bool (by rw [← HR.out, tR_no (by omega)]), _, rfl⟩
  · have h1' : p < 0 := by omega
    have d1 : decide (0 ≤ p) = false := by simp; omega
    go_enter Try.func8, Try.ntmps8
    go_wp2
    go_ret
    exact ⟨ret_bool (by rw [← HR.out, tR_no (by omega)]), _, rfl⟩
theorem step_any (p c : Int) (o : Bool) (hc : -9223372036854775808 ≤ c) (hc' : c ≤ 9223372036854775807) (w : World) :
    Calls Try.prog 11 #[.agg #[.int .i64 p, .int .i64 c, .bool o]] w fun e w' =>
      e = .returned (.tuple #[.agg #[.int .i64 p, .int .i64 (stC p c), .bool (stO p c o)], .bool (stT p c)]) ∧ ∃ o1 o2, w' = (w.alloc o1).alloc o2 := by
  by_cases hA : 2 ≤ c
  · obtain ⟨s1, s2, s3⟩ := st_a p c o hA
    have S1 := Lib.hid s1
    have S2 := Lib.hid s2
    have S3 := Lib.hid s3
    clear s1 s2 s3
    go_enter Try.func11, Try.ntmps11
    go_wp2
    go_returns
    exact ⟨tn S1.out S2.out S3.out, _, _, rfl⟩
  · by_cases hB : p < 2
    · obtain ⟨s1, s2, s3⟩ := st_b p c o hA hB
      have S1 := Lib.hid s1
      have S2 := Lib.hid s2
      have S3 := Lib.hid s3
      clear s1 s2 s3
      go_enter Try.func11, Try.ntmps11
      go_wp2
      all_goals
        go_returns
        exact ⟨tn (by rw [← S1.out]; try omega) S2.out S3.out, _, _, rfl⟩
    · obtain ⟨s1, s2, s3⟩ := st_c p c o hA hB
      have S1 := Lib.hid s1
      have S2 := Lib.hid s2
      have S3 := Lib.hid s3
      clear s1 s2 s3
      go_enter Try.func11, Try.ntmps11
      go_wp2
      all_goals
        go_returns
        exact ⟨tn (by rw [← S1.out]) S2.out S3.out, _, _, rfl⟩
def unV (p c : Int) : Int := if p < 2 then 0 else fi c
theorem until_any (p c : Int) (o : Bool) (w : World) : Calls Try.prog 9 #[.agg #[.int .i64 p, .int .i64 c, .bool o]] w fun e w' => e = .returned (.int .i64 (unV p c)) ∧ ∃ o1, w' = w.alloc o1 := by
  go_enter Try.func9, Try.ntmps9
  go_wp2
  all_goals
    go_ret
    refine ⟨ret_int ?_, _, rfl⟩
    unfold unV fi
    repeat' split
    all_goals omega
set_option maxHeartbeats 2000000 in
theorem run_any (p c n : Int) (o : Bool) (hp0 : 0 ≤ p) (hp1 : p < 1024) (hc0 : 0 ≤ c) (hc1 : c < 1024) (hn0 : -9223372036854775808 ≤ n) (hn1 : n ≤ 9223372036854775807) (w : World) :
    Calls Try.prog 13 #[.agg #[.int .i64 p, .int .i64 c, .bool o], .int .i64 n] w fun e w' =>
      e = .returned (.tuple #[.agg #[.int .i64 p, .int .i64 (rnC p c n), .bool (rnO p c o n)], .int .i64 (rnM p c n)]) ∧ Below w.heap.size w w' := by
  obtain ⟨C, hC⟩ : ∃ C, rnC p c n = C := ⟨_, rfl⟩
  obtain ⟨O, hO⟩ : ∃ O, rnO p c o n = O := ⟨_, rfl⟩
  obtain ⟨M, hM⟩ : ∃ M, rnM p c n = M := ⟨_, rfl⟩
  rw [hC, hO, hM]
  unfold rnC at hC
  unfold rnO at hO
  unfold rnM at hM
  obtain ⟨f, hf⟩ : ∃ f, fi c = f := ⟨_, rfl⟩
  obtain ⟨P, hP⟩ : ∃ P, pe p = P := ⟨_, rfl⟩
  rw [hf, hP] at hC hO hM
  by_cases h1 : n < f
  · rw [if_pos h1] at hC hO hM
    have HC := Lib.hid hC
    have HO := Lib.hid hO
    have HM := Lib.hid hM
    clear hC hO hM hP
    by_cases hc2 : c < 1
    · have hc3 : c = 0 := by omega
      have hf1 : f = 1 := by rw [← hf]; unfold fi; rw [if_pos hc2]
      subst hf1 hc3
      clear hf
      go_enter Try.func13, Try.ntmps13
      go_wp2
      all_goals
        go_returns
        refine ⟨tm ?_ HO.out HM.out, by go_grown⟩
        rw [← HC.out]
        split <;> omega
    · have hf1 : f = c := by rw [← hf]; unfold fi; rw [if_neg hc2]
      subst hf1
      clear hf
      go_enter Try.func13, Try.ntmps13
      go_wp2
      all_goals
        go_returns
        refine ⟨tm ?_ HO.out HM.out, by go_grown⟩
        rw [← HC.out]
        split <;> omega
  · rw [if_neg h1] at hC hO hM
    have s0 : stC p 0 = P ∧ stO p 0 o = (if p < 2 then true else !o) ∧ stT p 0 = !decide (p < 2) := by
      rw [← hP]
      by_cases h : p < 2
      · obtain ⟨a1, a2, a3⟩ := st_b p 0 o (by decide) h
        rw [← a1, ← a2, ← a3, if_pos h]
        refine ⟨?_, rfl, by simp [h]⟩
        unfold pe
        split <;> omega
      · obtain ⟨a1, a2, a3⟩ := st_c p 0 o (by decide) h
        rw [← a1, ← a2, ← a3, if_neg h]
        refine ⟨?_, rfl, by simp [h]⟩
        unfold pe
        rw [if_neg (show ¬ p < 1 by omega)]
    obtain ⟨sC, sO, sT⟩ := s0
    have hf0 : 1 ≤ f := by rw [← hf]; exact fi_pos c
    have hf2 : f ≤ 1024 := by rw [← hf]; unfold fi; split <;> omega
    have hn2 : f ≤ n := by omega
    have hfd : c < 1 ∧ f = 1 ∨ 1 ≤ c ∧ f = c := by rw [← hf]; unfold fi; split <;> omega
    have hPd : p < 1 ∧ P = 1 ∨ 1 ≤ p ∧ P = p := by rw [← hP]; unfold pe; split <;> omega
    have hP1 : 1 ≤ P := by omega
    have r0 := Int.emod_nonneg (n - f) (show P ≠ 0 by omega)
    have r1 := Int.emod_lt_of_pos (n - f) (show 0 < P by omega)
    have q0 : 0 ≤ (n - f) / P := Int.ediv_nonneg (by omega) (by omega)
    have q1 : (n - f) / P ≤ n - f := Int.ediv_le_self _ (by omega)
    clear hf hP
    by_cases h2 : p < 2
    · rw [if_pos h2] at hO hM sO
      rw [show (!decide (p < 2)) = false by simp [h2]] at sT
      have hPp : P = 1 := by omega
      rw [hPp] at sC hC
      have hst := fun W => step_any p 0 o (by decide) (by decide) W
      rw [sC, sO, sT] at hst
      have HST := Lib.hid hst
      have HC := Lib.hid (show (1 : Int) = C by omega)
      have HO := Lib.hid hO
      have HM := Lib.hid hM
      clear hC hO hM sC sO sT hPd hst hPp r0 r1 q0 q1 hP1
      rcases hfd with ⟨hfd, rfl⟩ | ⟨hfd, rfl⟩
      all_goals
        rcases (by omega : p = 0 ∨ p = 1) with rfl | rfl
        all_goals
          go_enter Try.func13, Try.ntmps13
          go_wp2_with (go_at_call 11; with_reducible refine (HST.out _).mono ?_; rintro e w1 ⟨rfl, o1, o2, rfl⟩)
          all_goals
            go_region
            all_goals go_wp2
            all_goals
              go_returns
              exact ⟨tm (by rw [← HC.out]; try omega) HO.out HM.out, by go_grown⟩
    · rw [if_neg h2] at hO hM sO
      rw [show (!decide (p < 2)) = true by simp; omega] at sT
      have hPp : p = P := by omega
      subst hPp
      have hst := fun W => step_any p 0 o (by decide) (by decide) W
      rw [sC, sO, sT] at hst
      have HST := Lib.hid hst
      have HC := Lib.hid hC
      have HO := Lib.hid hO
      have HM := Lib.hid hM
      have hp2 : 2 ≤ p := by omega
      clear hC hO hM sC sO sT hPd h2 hst
      rcases hfd with ⟨hfd, rfl⟩ | ⟨hfd, rfl⟩
      all_goals
        go_enter Try.func13, Try.ntmps13
        go_wp2_with (go_at_call 11; with_reducible refine (HST.out _).mono ?_; rintro e w1 ⟨rfl, o1, o2, rfl⟩)
        all_goals
          go_region
          all_goals go_wp2
          all_goals
            go_returns
            exact ⟨tm HC.out (by rw [← HO.out]; simp_all) HM.out, by go_grown⟩
end Tone
end Go.Proofs.Ytbnpilbnkofgiaa
