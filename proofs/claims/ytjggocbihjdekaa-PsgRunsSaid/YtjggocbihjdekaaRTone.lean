/- A tone (layer 3): what the reference's functions do. No conditions but that numbers are of their kinds. -/
import Derived.Test.YtjggocbihjdekaaTone
import Derived.LoopTactic
namespace Go.Proofs.Ytjggocbihjdekaa
open Go.RowKit
open Kit ToneM Tone
set_option linter.unusedSimpArgs false
set_option linter.unusedVariables false
namespace RTone
theorem right_any (p c : Int) (o : Bool) (w : World) : Calls Try.prog 27 #[.agg #[.int .i64 p, .int .i64 c, .bool o]] w fun e w' => e = .returned (.bool (tR p c)) ∧ ∃ o1, w' = w.alloc o1 := by
  obtain ⟨r, hr⟩ : ∃ r, tR p c = r := ⟨_, rfl⟩
  have HR := Lib.hid hr
  rw [hr]
  clear hr
  by_cases h1 : 0 ≤ p
  · by_cases h2 : p < 1024
    · by_cases h3 : 0 ≤ c
      · by_cases h4 : c < 1024
        · have h2' : p < 1024 := by omega
          have h4' : c < 1024 := by omega
          go_enter Try.func27, Try.ntmps27
          go_wp2
          go_ret
          exact ⟨ret_bool (by rw [← HR.out, tR_of h1 h2 h3 h4]), _, rfl⟩
        · have h2' : p < 1024 := by omega
          have h4' : 1024 ≤ c := by omega
          have d4 : decide (c < 1024) = false := by simp; omega
          go_enter Try.func27, Try.ntmps27
          go_wp2
          go_ret
          exact ⟨ret_bool (by rw [← HR.out, tR_no (by omega)]), _, rfl⟩
      · have h2' : p < 1024 := by omega
        have h3' : c < 0 := by omega
        have d3 : decide (0 ≤ c) = false := by simp; omega
        go_enter Try.func27, Try.ntmps27
        go_wp2
        go_ret
        exact ⟨ret_bool (by rw [← HR.out, tR_no (by omega)]), _, rfl⟩
    · have h2' : 1024 ≤ p := by omega
      have d2 : decide (p < 1024) = false := by simp; omega
      go_enter Try.func27, Try.ntmps27
      go_wp2
      go_ret
      exact ⟨ret_bool (by rw [← HR.out, tR_no (by omega)]), _, rfl⟩
  · have h1' : p < 0 := by omega
    have d1 : decide (0 ≤ p) = false := by simp; omega
    go_enter Try.func27, Try.ntmps27
    go_wp2
    go_ret
    exact ⟨ret_bool (by rw [← HR.out, tR_no (by omega)]), _, rfl⟩
theorem step_any (p c : Int) (o : Bool) (hp : 0 ≤ p) (hc : -9223372036854775808 ≤ c) (hc' : c ≤ 9223372036854775807) (w : World) :
    Calls Try.prog 30 #[.agg #[.int .i64 p, .int .i64 c, .bool o]] w fun e w' =>
      e = .returned (.tuple #[.agg #[.int .i64 p, .int .i64 (stC p c), .bool (stO p c o)], .bool (stT p c)]) ∧ ∃ o1 o2, w' = (w.alloc o1).alloc o2 := by
  by_cases hA : 2 ≤ c
  · obtain ⟨s1, s2, s3⟩ := st_a p c o hA
    have S1 := Lib.hid s1
    have S2 := Lib.hid s2
    have S3 := Lib.hid s3
    clear s1 s2 s3
    go_enter Try.func30, Try.ntmps30
    go_wp2
    go_returns
    exact ⟨tn S1.out S2.out S3.out, _, _, rfl⟩
  · by_cases hB : p < 2
    · obtain ⟨s1, s2, s3⟩ := st_b p c o hA hB
      have S1 := Lib.hid s1
      have S2 := Lib.hid s2
      have S3 := Lib.hid s3
      clear s1 s2 s3
      rcases (by omega : p = 0 ∨ p = 1) with rfl | rfl
      all_goals
        go_enter Try.func30, Try.ntmps30
        go_wp2
        go_returns
        exact ⟨tn S1.out S2.out S3.out, _, _, rfl⟩
    · obtain ⟨s1, s2, s3⟩ := st_c p c o hA hB
      have S1 := Lib.hid s1
      have S2 := Lib.hid s2
      have S3 := Lib.hid s3
      clear s1 s2 s3
      have d0 : (p == 0) = false := by simp; omega
      have d1 : (p == 1) = false := by simp; omega
      go_enter Try.func30, Try.ntmps30
      go_wp2
      go_returns
      exact ⟨tn S1.out S2.out S3.out, _, _, rfl⟩
end RTone
end Go.Proofs.Ytjggocbihjdekaa
