/- A tone (layer 3): what the reference's functions do. No conditions but that numbers are of their kinds. -/
import Derived.Test.YtbnpilbnkofgiaaTone
import Derived.LoopTactic
namespace Go.Proofs.Ytbnpilbnkofgiaa
open Go.RowKit
open Kit ToneM Tone
set_option linter.unusedSimpArgs false
set_option linter.unusedVariables false
namespace RTone
theorem right_any (p c : Int) (o : Bool) (w : World) : Calls Try.prog 10 #[.agg #[.int .i64 p, .int .i64 c, .bool o]] w fun e w' => e = .returned (.bool (tR p c)) ∧ ∃ o1, w' = w.alloc o1 := by
  obtain ⟨r, hr⟩ : ∃ r, tR p c = r := ⟨_, rfl⟩
  have HR := Lib.hid hr
  rw [hr]
  clear hr
  by_cases h1 : 0 ≤ p
  · by_cases h2 : p < 1024
    · by_cases h3 : 0 ≤ c
      · by_cases h4 : c < 1024
        · have h2' : p < 1024 := by omega
          have h4' : c < 1024 := by omega
          go_enter Try.func10, Try.ntmps10
          go_wp2
          go_ret
          exact ⟨ret_bool (by rw [← HR.out, tR_of h1 h2 h3 h4]), _, rfl⟩
        · have h2' : p < 1024 := by omega
          have h4' : 1024 ≤ c := by omega
          have d4 : decide (c < 1024) = false := by simp; omega
          go_enter Try.func10, Try.ntmps10
          go_wp2
          go_ret
          exact ⟨ret_bool (by rw [← HR.out, tR_no (by omega)]), _, rfl⟩
      · have h2' : p < 1024 := by omega
        have h3' : c < 0 := by omega
        have d3 : decide (0 ≤ c) = false := by simp; omega
        go_enter Try.func10, Try.ntmps10
        go_wp2
        go_ret
        exact ⟨ret_bool (by rw [← HR.out, tR_no (by omega)]), _, rfl⟩
    · have h2' : 1024 ≤ p := by omega
      have d2 : decide (p < 1024) = false := by simp; omega
      go_enter Try.func10, Try.ntmps10
      go_wp2
      go_ret
      exact ⟨ret_bool (by rw [← HR.out, tR_no (by omega)]), _, rfl⟩
  · have h1' : p < 0 := by omega
    have d1 : decide (0 ≤ p) = false := by simp; omega
    go_enter Try.func10, Try.ntmps10
    go_wp2
    go_ret
    exact ⟨ret_bool (by rw [← HR.out, tR_no (by omega)]), _, rfl⟩
theorem step_any (p c : Int) (o : Bool) (hp : 0 ≤ p) (hc : -9223372036854775808 ≤ c) (hc' : c ≤ 9223372036854775807) (w : World) :
    Calls Try.prog 12 #[.agg #[.int .i64 p, .int .i64 c, .bool o]] w fun e w' =>
      e = .returned (.tuple #[.agg #[.int .i64 p, .int .i64 (stC p c), .bool (stO p c o)], .bool (stT p c)]) ∧ ∃ o1 o2, w' = (w.alloc o1).alloc o2 := by
  by_cases hA : 2 ≤ c
  · obtain ⟨s1, s2, s3⟩ := st_a p c o hA
    have S1 := Lib.hid s1
    have S2 := Lib.hid s2
    have S3 := Lib.hid s3
    clear s1 s2 s3
    go_enter Try.func12, Try.ntmps12
    go_wp2
    go_returns
    exact ⟨tn S1.out S2.out S3.out, _, _, rfl⟩
  · by_cases hB : p < 2
    · obtain ⟨s1, s2, s3⟩ := st_b p c o hA hB
      have S1 := Lib.hid s1
      have S2 := Lib.hid s2
      have S3 := Lib.hid s3
      clear s1 s2 s3
      rcases (by omega : p = 0 ∨ p = 1) with rfl | rfl
      all_goals
        go_enter Try.func12, Try.ntmps12
        go_wp2
        go_returns
        exact ⟨tn S1.out S2.out S3.out, _, _, rfl⟩
    · obtain ⟨s1, s2, s3⟩ := st_c p c o hA hB
      have S1 := Lib.hid s1
      have S2 := Lib.hid s2
      have S3 := Lib.hid s3
      clear s1 s2 s3
      have d0 : (p == 0) = false := by simp; omega
      have d1 : (p == 1) = false := by simp; omega
      go_enter Try.func12, Try.ntmps12
      go_wp2
      go_returns
      exact ⟨tn S1.out S2.out S3.out, _, _, rfl⟩
/-- A tone lies in block H from 0 on; the block may be written. -/
def toneAt (w : World) (H : Nat) (p c : Int) (o : Bool) : Prop :=
  w.cell? ⟨H, 0, none⟩ = some (.int .i64 p) ∧ w.cell? ⟨H, 1, none⟩ = some (.int .i64 c) ∧ w.cell? ⟨H, 2, none⟩ = some (.bool o) ∧ w.frozen? ⟨H, 0, none⟩ = false ∧ w.frozen? ⟨H, 1, none⟩ = false ∧ w.frozen? ⟨H, 2, none⟩ = false
def RunRel (w : World) (p c n : Int) (o : Bool) (m i : Value) (wr : World) : Prop :=
  ∃ k : Nat, ((k : Int) ≤ n ∨ k = 0) ∧ i = .int .i64 k ∧ m = .int .i64 (rnM p c k) ∧ toneAt wr w.heap.size p (rnC p c k) (rnO p c o k) ∧ toneAt wr (w.heap.size + 1) 0 0 false ∧ Below w.heap.size w wr ∧ w.heap.size + 1 < wr.heap.size
theorem rnM_bd (p c : Int) (k : Nat) (hc : 0 ≤ c) (n : Int) (hk : (k : Int) ≤ n ∨ k = 0) (hn : n ≤ 100000) : 0 ≤ rnM p c k ∧ rnM p c k ≤ 100001 := by
  have h1 := fi_pos c
  have h2 := pe_pos p
  unfold rnM
  split
  · omega
  · split
    · omega
    · have a := Int.ediv_nonneg (show 0 ≤ (k : Int) - fi c by omega) (show 0 ≤ pe p by omega)
      have b := Int.ediv_le_self (pe p) (show 0 ≤ (k : Int) - fi c by omega)
      omega
theorem sz2 {H S : Nat} (h : H + 1 < S) : H < S ∧ H < S + 1 ∧ H < S + 1 + 1 ∧ H < S + 1 + 1 + 1 ∧ H + 1 < S + 1 ∧ H + 1 < S + 1 + 1 := by omega
set_option maxHeartbeats 2000000 in
theorem run_any (p c n : Int) (o : Bool) (hp0 : 0 ≤ p) (hp1 : p < 1024) (hc0 : 0 ≤ c) (hc1 : c < 1024) (hn0 : -9223372036854775808 ≤ n) (hn1 : n ≤ 100000) (w : World) :
    Calls Try.prog 14 #[.agg #[.int .i64 p, .int .i64 c, .bool o], .int .i64 n] w fun e w' =>
      e = .returned (.tuple #[.agg #[.int .i64 p, .int .i64 (rnC p c n), .bool (rnO p c o n)], .int .i64 (rnM p c n)]) ∧ Below w.heap.size w w' := by
  obtain ⟨z1, z2, z3⟩ := rn_zero p c 0 o hc0 (by decide)
  have Z1 := Lib.hid z1
  have Z2 := Lib.hid z2
  have Z3 := Lib.hid z3
  clear z1 z2 z3
  go_enter Try.func14, Try.ntmps14
  go_wp2
  go_loopw [6, 7] (fun m i wr => RunRel w p c n o m i wr) (fun _ i _ => (n - intOf i).toNat)
  case atStart =>
    refine ⟨0, Or.inr rfl, rfl, ?_, ⟨?_, ?_, ?_, ?_, ?_, ?_⟩, ⟨?_, ?_, ?_, ?_, ?_, ?_⟩, ?_, ?_⟩
    · rw [show ((0 : Nat) : Int) = 0 from rfl, Z3.out]
    · go_simp
    · rw [show ((0 : Nat) : Int) = 0 from rfl, Z1.out]; go_simp
    · rw [show ((0 : Nat) : Int) = 0 from rfl, Z2.out]; go_simp
    all_goals first | (go_simp; done) | go_grown
  case round =>
    obtain ⟨k, hk, rfl, rfl, ⟨c0, c1, c2, f0, f1, f2⟩, ⟨r0, r1, r2, g0, g1, g2⟩, hb, hz⟩ := hrel
    obtain ⟨y1, y2, y3, y4, y5, y6⟩ := sz2 hz
    obtain ⟨m0, m1⟩ := rnM_bd p c k hc0 n hk hn1
    obtain ⟨C0, C1⟩ := rn_bd p c k hp0 hp1 hc0 hc1
    obtain ⟨s1, s2, s3⟩ := st_rn p c k o (by omega)
    obtain ⟨C, hC⟩ : ∃ C, rnC p c k = C := ⟨_, rfl⟩
    obtain ⟨O, hO⟩ : ∃ O, rnO p c o k = O := ⟨_, rfl⟩
    obtain ⟨M, hM⟩ : ∃ M, rnM p c k = M := ⟨_, rfl⟩
    rw [hC] at c1 C0 C1 s1 s2 s3
    rw [hO] at c2 s2
    rw [hM] at m0 m1 s3
    rw [hM]
    have HC := Lib.hid hC
    have HO := Lib.hid hO
    have HM := Lib.hid hM
    clear hC hO hM
    by_cases hlt : (k : Int) < n
    · have hst := fun W => step_any p C O hp0 (by omega) (by omega) W
      rw [s1, s2] at hst
      rw [show ((k : Int) + 1) = ((k + 1 : Nat) : Int) from rfl] at hst s3
      cases hT : stT p C
      all_goals
        rw [hT] at hst s3
        simp only [cond_true, cond_false] at s3
        have HST := Lib.hid hst
        have S3 := Lib.hid s3
        have HT := Lib.hid hT
        clear hst s3 s1 s2 hT
        go_wp2_with (go_at_call 12; with_reducible refine (HST.out _).mono ?_; rintro e w1 ⟨rfl, o1, o2, rfl⟩)
        go_roundw
        case rel =>
          refine ⟨k + 1, Or.inl (by omega), by go_num, ?_, ⟨?_, ?_, ?_, ?_, ?_, ?_⟩, ⟨?_, ?_, ?_, ?_, ?_, ?_⟩, ?_, ?_⟩
          · rw [S3.out]; try go_num
          all_goals first | (go_simp; done) | go_grown
        case measure => simp [intOf]; omega
    · have hkn : (k : Int) = n ∨ k = 0 ∧ n ≤ 0 := by omega
      have e1 : C = rnC p c n ∧ O = rnO p c o n ∧ M = rnM p c n := by
        rw [← HC.out, ← HO.out, ← HM.out]
        rcases hkn with hkn | ⟨hkn, hn⟩
        · rw [hkn]; exact ⟨rfl, rfl, rfl⟩
        · subst hkn
          obtain ⟨a1, a2, a3⟩ := rn_zero p c n o hc0 hn
          rw [a1, a2, a3]
          exact ⟨Z1.out, Z2.out, Z3.out⟩
      obtain ⟨e1, e2, e3⟩ := e1
      have E1 := Lib.hid e1
      have E2 := Lib.hid e2
      have E3 := Lib.hid e3
      clear e1 e2 e3 s1 s2 s3
      go_wp2
      exact bodyPost_ret (v := .tuple #[.agg #[.int .i64 p, .int .i64 C, .bool O], .int .i64 M]) (by simp [results, Try.results14, go_sem, r0, r1, r2]) rfl ⟨tm E1.out E2.out E3.out, by go_grown⟩
end RTone
end Go.Proofs.Ytbnpilbnkofgiaa
