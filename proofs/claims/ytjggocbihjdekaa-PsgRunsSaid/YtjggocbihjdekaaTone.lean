/- A tone (layer 3): what the program's functions do. No conditions but that numbers are of their kinds. -/
import Derived.Test.YtjggocbihjdekaaKit
import Derived.Test.YtjggocbihjdekaaToneM
import Derived.Deep.QuietTactic
import Derived.BigQuiet
import Derived.RegionTactic
namespace Go.Proofs.Ytjggocbihjdekaa
open Go.RowKit
open Kit ToneM
set_option linter.unusedSimpArgs false
set_option linter.unusedVariables false
namespace Tone
theorem bcell {W w1 : World} {B : Nat} (hb : Below B W w1) : (∀ b o, b < B → w1.cell? ⟨b, o, none⟩ = W.cell? ⟨b, o, none⟩) ∧ (∀ b o, b < B → w1.frozen? ⟨b, o, none⟩ = W.frozen? ⟨b, o, none⟩) :=
  ⟨fun b o h => hb.cell (p := ⟨b, o, none⟩) h, fun b o h => hb.frozen (p := ⟨b, o, none⟩) h⟩
def tR (p c : Int) : Bool := decide (0 ≤ p) && decide (p < 1024) && decide (0 ≤ c) && decide (c < 1024)
theorem tR_bd {p c : Int} (h : tR p c = true) : 0 ≤ p ∧ p < 1024 ∧ 0 ≤ c ∧ c < 1024 := by
  simp only [tR, Bool.and_eq_true, decide_eq_true_eq] at h
  exact ⟨h.1.1.1, h.1.1.2, h.1.2, h.2⟩
theorem tR_of {p c : Int} (h1 : 0 ≤ p) (h2 : p < 1024) (h3 : 0 ≤ c) (h4 : c < 1024) : tR p c = true := by simp [tR, h1, h2, h3, h4]
theorem tR_no {p c : Int} (h : ¬ (0 ≤ p ∧ p < 1024 ∧ 0 ≤ c ∧ c < 1024)) : tR p c = false := by
  rw [← Bool.not_eq_true]; exact fun g => h (tR_bd g)
theorem tn {p c c' : Int} {o o' b b' : Bool} (h1 : c = c') (h2 : o = o') (h3 : b = b') : Ending.returned (.tuple #[.agg #[.int .i64 p, .int .i64 c, .bool o], .bool b]) = .returned (.tuple #[.agg #[.int .i64 p, .int .i64 c', .bool o'], .bool b']) := by rw [h1, h2, h3]
theorem tm {p c c' m m' : Int} {o o' : Bool} (h1 : c = c') (h2 : o = o') (h3 : m = m') : Ending.returned (.tuple #[.agg #[.int .i64 p, .int .i64 c, .bool o], .int .i64 m]) = .returned (.tuple #[.agg #[.int .i64 p, .int .i64 c', .bool o'], .int .i64 m']) := by rw [h1, h2, h3]
theorem st_a (p c : Int) (o : Bool) (h : 2 ≤ c) : c - 1 = stC p c ∧ o = stO p c o ∧ false = stT p c := by unfold stC stO stT; rw [if_pos h, if_pos h, if_pos h]; exact ⟨rfl, rfl, rfl⟩
theorem st_b (p c : Int) (o : Bool) (h : ¬ 2 ≤ c) (h2 : p < 2) : 1 = stC p c ∧ true = stO p c o ∧ false = stT p c := by unfold stC stO stT; rw [if_neg h, if_neg h, if_neg h, if_pos h2, if_pos h2, if_pos h2]; exact ⟨rfl, rfl, rfl⟩
theorem st_c (p c : Int) (o : Bool) (h : ¬ 2 ≤ c) (h2 : ¬ p < 2) : p = stC p c ∧ (!o) = stO p c o ∧ true = stT p c := by unfold stC stO stT; rw [if_neg h, if_neg h, if_neg h, if_neg h2, if_neg h2, if_neg h2]; exact ⟨rfl, rfl, rfl⟩
theorem right_any (p c : Int) (o : Bool) (w : World) : Calls Try.prog 23 #[.agg #[.int .i64 p, .int .i64 c, .bool o]] w fun e w' => e = .returned (.bool (tR p c)) ∧ ∃ o1, w' = w.alloc o1 := by
  obtain ⟨r, hr⟩ : ∃ r, tR p c = r := ⟨_, rfl⟩
  have HR := Lib.hid hr
  rw [hr]
  clear hr
  by_cases h1 : 0 ≤ p
  · by_cases h2 : p < 1024
    · by_cases h3 : 0 ≤ c
      · by_cases h4 : c < 1024
        · have h2' : p ≤ 1023 := by omega
          have h4' : c ≤ 1023 := by omega
          go_enter Try.func23, Try.ntmps23
          go_wp2
          go_ret
          exact ⟨ret_bool (by rw [← HR.out, tR_of h1 h2 h3 h4]), _, rfl⟩
        · have h2' : p ≤ 1023 := by omega
          have h4' : 1024 ≤ c := by omega
          have d4 : decide (c ≤ 1023) = false := by simp; omega
          go_enter Try.func23, Try.ntmps23
          go_wp2
          go_ret
          exact ⟨ret_bool (by rw [← HR.out, tR_no (by omega)]), _, rfl⟩
      · have h2' : p ≤ 1023 := by omega
        have h3' : c < 0 := by omega
        have d3 : decide (0 ≤ c) = false := by simp; omega
        go_enter Try.func23, Try.ntmps23
        go_wp2
        go_ret
        exact ⟨ret_bool (by rw [← HR.out, tR_no (by omega)]), _, rfl⟩
    · have h2' : 1024 ≤ p := by omega
      have d2 : decide (p ≤ 1023) = false := by simp; omega
      go_enter Try.func23, Try.ntmps23
      go_wp2
      go_ret
      exact ⟨ret_bool (by rw [← HR.out, tR_no (by omega)]), _, rfl⟩
  · have h1' : p < 0 := by omega
    have d1 : decide (0 ≤ p) = false := by simp; omega
    go_enter Try.func23, Try.ntmps23
    go_wp2
    go_ret
    exact ⟨ret_bool (by rw [← HR.out, tR_no (by omega)]), _, rfl⟩
theorem step_any (p c : Int) (o : Bool) (hc : -9223372036854775808 ≤ c) (hc' : c ≤ 9223372036854775807) (w : World) :
    Calls Try.prog 28 #[.agg #[.int .i64 p, .int .i64 c, .bool o]] w fun e w' =>
      e = .returned (.tuple #[.agg #[.int .i64 p, .int .i64 (stC p c), .bool (stO p c o)], .bool (stT p c)]) ∧ ∃ o1 o2, w' = (w.alloc o1).alloc o2 := by
  by_cases hA : 2 ≤ c
  · obtain ⟨s1, s2, s3⟩ := st_a p c o hA
    have S1 := Lib.hid s1
    have S2 := Lib.hid s2
    have S3 := Lib.hid s3
    clear s1 s2 s3
    go_enter Try.func28, Try.ntmps28
    go_wp2
    go_returns
    exact ⟨tn S1.out S2.out S3.out, _, _, rfl⟩
  · by_cases hB : p < 2
    · obtain ⟨s1, s2, s3⟩ := st_b p c o hA hB
      have S1 := Lib.hid s1
      have S2 := Lib.hid s2
      have S3 := Lib.hid s3
      clear s1 s2 s3
      go_enter Try.func28, Try.ntmps28
      go_wp2
      all_goals
        go_returns
        exact ⟨tn (by rw [← S1.out]; try omega) S2.out S3.out, _, _, rfl⟩
    · obtain ⟨s1, s2, s3⟩ := st_c p c o hA hB
      have S1 := Lib.hid s1
      have S2 := Lib.hid s2
      have S3 := Lib.hid s3
      clear s1 s2 s3
      go_enter Try.func28, Try.ntmps28
      go_wp2
      all_goals
        go_returns
        exact ⟨tn (by rw [← S1.out]) S2.out S3.out, _, _, rfl⟩
def unV (p c : Int) : Int := if p < 2 then 0 else fi c
end Tone
end Go.Proofs.Ytjggocbihjdekaa
