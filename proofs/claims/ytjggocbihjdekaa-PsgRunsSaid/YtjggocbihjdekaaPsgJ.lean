/- A chip of three tones and a noise (layer 5): what the program's functions do, part 19. No conditions but that numbers are of their kinds. -/
import Derived.Test.YtjggocbihjdekaaPsg4
import Derived.RegionTactic
import Derived.LoopTactic
import Derived.Deep.RegionHeld3
import Derived.Lib.Hide
namespace Go.Proofs.Ytjggocbihjdekaa
open Go.RowKit
open Kit
set_option linter.unusedSimpArgs false
set_option linter.unusedVariables false
attribute [local simp] blkAt_alloc blkNew_cells putRow_cells blkAt_drew BlkN.set BlkOne.setInt BlkOne.setBool blkPut_alloc blkPut_drew blkAt_blkPut_other size_blkPut nq2 nq3 nq4 nq5 nq6 nq7 nq8
namespace Psg
attribute [local simp ↓] sl_in ss_in vs_in
attribute [local simp] sl_run ss_run vs_run
set_option maxRecDepth 100000 in
set_option maxHeartbeats 4000000 in
theorem rvolume_any (q : Int) (q0 : 0 ≤ q) (q1 : q < 256) (w : World) : Calls Try.prog 32 #[.int .u8 q] w fun e w' => e = .returned (.int .i64 (volV q)) ∧ w = w' := by
  have h5 : VT[(q % 16).toNat]? = some (.int .i64 (volV q)) := by
    unfold volV
    have e : (q % 16).toNat < 16 := by omega
    generalize (q % 16).toNat = k at *
    rcases (by omega : k = 0 ∨ k = 1 ∨ k = 2 ∨ k = 3 ∨ k = 4 ∨ k = 5 ∨ k = 6 ∨ k = 7 ∨ k = 8 ∨ k = 9 ∨ k = 10 ∨ k = 11 ∨ k = 12 ∨ k = 13 ∨ k = 14 ∨ k = 15) with rfl | rfl | rfl | rfl | rfl | rfl | rfl | rfl | rfl | rfl | rfl | rfl | rfl | rfl | rfl | rfl <;> rfl
  have h6 : 0 ≤ q % 16 := by omega
  have h7 : q % 16 < 16 := by omega
  have hix : ∀ w0, Sem.run Try.prog (Instr.index 53 (.agg VT) (.int .u8 (q % 16))) w0 = .ok (.int .i64 (volV q)) w0 := fun w0 => index_run Try.underlying53 Try.underlying3 rfl (by kernel_rfl) _ _ _ _ h6 h7 h5 w0
  obtain ⟨V, hV⟩ : ∃ V, VT = V := ⟨_, rfl⟩
  rw [hV] at hix
  have h8 : VT.setIfInBounds 15 (.int .i64 0) = VT := by rfl
  rw [hV] at h8
  unfold VT at hV
  clear h5
  go_enter Try.func32, Try.ntmps32
  go_wp2_with fail
  go_ret
  exact ⟨rfl, rfl⟩
set_option maxRecDepth 100000 in
set_option maxHeartbeats 4000000 in
theorem rsample_any (f : Nat → Int) (h : SB f) (w : World) : Calls Try.prog 19 #[.agg (S f)] w fun e w' => e = .returned (.int .i64 (pS f 4)) ∧ Below w.heap.size w w' := by
  have c0 := S_get f 0 (by omega)
  change (S f)[0]? = some (.int .i64 (f 0)) at c0
  have c1 := S_get f 1 (by omega)
  change (S f)[1]? = some (.int .i64 (f 1)) at c1
  have c2 := S_get f 2 (by omega)
  change (S f)[2]? = some (.bool (f 2 == 1)) at c2
  have c3 := S_get f 3 (by omega)
  change (S f)[3]? = some (.int .i64 (f 3)) at c3
  have c4 := S_get f 4 (by omega)
  change (S f)[4]? = some (.int .i64 (f 4)) at c4
  have c5 := S_get f 5 (by omega)
  change (S f)[5]? = some (.bool (f 5 == 1)) at c5
  have c6 := S_get f 6 (by omega)
  change (S f)[6]? = some (.int .i64 (f 6)) at c6
  have c7 := S_get f 7 (by omega)
  change (S f)[7]? = some (.int .i64 (f 7)) at c7
  have c8 := S_get f 8 (by omega)
  change (S f)[8]? = some (.bool (f 8 == 1)) at c8
  have c9 := S_get f 9 (by omega)
  change (S f)[9]? = some (.int .u8 (f 9)) at c9
  have c10 := S_get f 10 (by omega)
  change (S f)[10]? = some (.int .i64 (f 10)) at c10
  have c11 := S_get f 11 (by omega)
  change (S f)[11]? = some (.bool (f 11 == 1)) at c11
  have c12 := S_get f 12 (by omega)
  change (S f)[12]? = some (.int .u16 (f 12)) at c12
  have c13 := S_get f 13 (by omega)
  change (S f)[13]? = some (.int .u8 (f 13)) at c13
  have c14 := S_get f 14 (by omega)
  change (S f)[14]? = some (.int .u8 (f 14)) at c14
  have c15 := S_get f 15 (by omega)
  change (S f)[15]? = some (.int .u8 (f 15)) at c15
  have c16 := S_get f 16 (by omega)
  change (S f)[16]? = some (.int .u8 (f 16)) at c16
  have c17 := S_get f 17 (by omega)
  change (S f)[17]? = some (.int .u8 (f 17)) at c17
  have hix : ∀ k : Nat, k < 3 → ∀ w0, Sem.run Try.prog (Instr.index 24 (.agg #[.int .i64 (f 0), .int .i64 (f 1), .bool (f 2 == 1), .int .i64 (f 3), .int .i64 (f 4), .bool (f 5 == 1), .int .i64 (f 6), .int .i64 (f 7), .bool (f 8 == 1)]) (.int .i64 k)) w0 = .ok (.agg #[.int .i64 (f (3 * k)), .int .i64 (f (3 * k + 1)), .bool (f (3 * k + 2) == 1)]) w0 := fun k hk w0 => index_row (m := 3) Try.underlying24 Try.underlying23 rfl (by kernel_rfl) _ _ _ _ (by omega) (by omega) (by
    rcases (by omega : k = 0 ∨ k = 1 ∨ k = 2) with rfl | rfl | rfl <;> rfl) w0
  have hvol := fun (k : Nat) (hk : k < 4) => rvolume_any (f (13 + k)) (h.2.2.1 _ (by omega) (by omega)).1 (h.2.2.1 _ (by omega) (by omega)).2
  have hcell : ∀ k : Nat, k < 4 → (S f)[13 + k]? = some (.int .u8 (f (13 + k))) := fun k hk => by rw [S_get _ _ (by omega)]; unfold sv; rw [if_neg (by omega), if_pos (by omega)]
  have n12 := h.2.1.1
  have HIX := Lib.hid hix
  have HVOL := Lib.hid hvol
  have HC := Lib.hid hcell
  have HC12 := Lib.hid c12
  clear hix hvol hcell h
  generalize hA : S f = A at *
  clear hA
  go_enter Try.func19, Try.ntmps19
  go_wp2_with fail
  clear c0 c1 c2 c3 c4 c5 c6 c7 c8 c9 c10 c11 c12 c13 c14 c15 c16 c17
  go_loopw [3, 8] (fun o i wr => ∃ k : Nat, k ≤ 3 ∧ i = .int .i64 k ∧ o = .int .i64 (pS f k) ∧ HS w A wr) (fun _ i _ => (3 - intOf i).toNat)
  case atStart => exact ⟨0, by omega, rfl, rfl, (by repeat (first | (refine heap_at _ _ _ ?_; first | (simp; done) | (simp; omega; done)) | (refine (heap_past _ _ _ ?_).trans ?_; focus (first | (simp; done) | (simp; omega; done))) | (refine (heap_drew _ _).trans ?_))), by go_grown⟩
  case round =>
    obtain ⟨k, hk, rfl, rfl, hT⟩ := hrel
    have rl := heap_lt hT.1
    have rn : ¬ (w.heap.size = wr.heap.size) := by omega
    by_cases hlt : k < 3
    case pos =>
      have hix := HIX.out k hlt
      have hc := (cell_of _ _ (13 + k) hT.1).trans (HC.out k (by omega))
      have hv := HVOL.out k (by omega)
      have pb := pS_bd f k
      have vb := volV_bd (f (13 + k))
      have n0 : (0 : Int) ≤ (k : Int) := by omega
      have n1 : (k : Int) < 3 := by omega
      have hs : pS f (k + 1) = pS f k + term f k := rfl
      unfold term wordV at hs
      rw [if_pos hlt] at hs
      have HV := Lib.hid hv
      clear hv
      cases hw : (f (3 * k + 2) == 1)
      · rw [hw] at hix hs
        simp only [Bool.false_eq_true, if_false, Int.add_zero] at hs
        have HS2 := Lib.hid hs
        clear hs hw
        go_wp2_with fail
        go_roundw
        case rel => exact ⟨k + 1, by omega, by go_num, by rw [HS2.out], hT.below ((Below.refl _ _).alloc (Nat.le_refl _) _)⟩
        case measure => simp [intOf] <;> omega
      · rw [hw] at hix hs
        simp only [if_true] at hs
        have HS2 := Lib.hid hs
        clear hs hw
        go_wp2_with (go_at_call 32; with_reducible refine (HV.out _).mono ?_; rintro e w' ⟨rfl, rfl⟩)
        go_roundw
        case rel => exact ⟨k + 1, by omega, by go_num, by rw [HS2.out], hT.below ((Below.refl _ _).alloc (Nat.le_refl _) _)⟩
        case measure => simp [intOf] <;> omega
    case neg =>
    have hk3 : k = 3 := by omega
    subst hk3
    have d12 := (cell_of _ _ 12 hT.1).trans HC12.out
    have d16 := (cell_of _ _ 16 hT.1).trans (HC.out 3 (by omega))
    have hv := HVOL.out 3 (by omega)
    have pb := pS_bd f 3
    have vb := volV_bd (f (13 + 3))
    have hs : pS f 4 = pS f 3 + term f 3 := rfl
    unfold term wordV at hs
    rw [if_neg (show ¬ (3 < 3) by omega)] at hs
    have m0 : 0 ≤ f 12 % 2 := by omega
    simp only [Nat.reduceAdd] at d16 hv vb hs
    have HV := Lib.hid hv
    clear hv
    cases hw : (f 12 % 2 == 1)
    · rw [hw] at hs
      simp only [Bool.false_eq_true, if_false, Int.add_zero] at hs
      have HS2 := Lib.hid hs
      clear hs
      go_wp2_with fail
      go_ret
      exact ⟨by rw [HS2.out]; rfl, hT.2⟩
    · rw [hw] at hs
      simp only [if_true] at hs
      have HS2 := Lib.hid hs
      clear hs
      go_wp2_with (go_at_call 32; with_reducible refine (HV.out _).mono ?_; rintro e w' ⟨rfl, rfl⟩)
      go_ret
      exact ⟨by rw [HS2.out]; rfl, hT.2⟩
end Psg
end Go.Proofs.Ytjggocbihjdekaa
