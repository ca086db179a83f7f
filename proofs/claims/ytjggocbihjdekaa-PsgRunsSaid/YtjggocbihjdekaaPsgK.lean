/- A chip of three tones and a noise (layer 5): what the program's functions do, part 20. No conditions but that numbers are of their kinds. -/
import Derived.Test.YtjggocbihjdekaaPsg3
import Derived.Test.YtjggocbihjdekaaRTone
import Derived.Test.YtjggocbihjdekaaRNoise
import Derived.RegionTactic
import Derived.LoopTactic
import Derived.Deep.RegionHeld3
import Derived.Lib.Hide
namespace Go.Proofs.Ytjggocbihjdekaa
open Go.RowKit
open Kit
set_option linter.unusedSimpArgs false
set_option linter.unusedVariables false
attribute [local simp] blkAt_alloc blkNew_cells putRow_cells blkAt_drew BlkN.set BlkOne.setInt BlkOne.setBool blkPut_alloc blkPut_drew blkAt_blkPut_other size_blkPut nq2 nq3 nq4 nq5 nq6 nq7 nq8
namespace Psg
attribute [local simp ↓] sl_in ss_in vs_in
attribute [local simp] sl_run ss_run vs_run
set_option maxRecDepth 100000 in
set_option maxHeartbeats 4000000 in
theorem rright_any (f : Nat → Int) (h : SB f) (w : World) : Calls Try.prog 15 #[.agg (S f)] w fun e w' => e = .returned (.bool (rightV f)) ∧ Below w.heap.size w w' := by
  have c0 := S_get f 0 (by omega)
  change (S f)[0]? = some (.int .i64 (f 0)) at c0
  have c1 := S_get f 1 (by omega)
  change (S f)[1]? = some (.int .i64 (f 1)) at c1
  have c2 := S_get f 2 (by omega)
  change (S f)[2]? = some (.bool (f 2 == 1)) at c2
  have c3 := S_get f 3 (by omega)
  change (S f)[3]? = some (.int .i64 (f 3)) at c3
  have c4 := S_get f 4 (by omega)
  change (S f)[4]? = some (.int .i64 (f 4)) at c4
  have c5 := S_get f 5 (by omega)
  change (S f)[5]? = some (.bool (f 5 == 1)) at c5
  have c6 := S_get f 6 (by omega)
  change (S f)[6]? = some (.int .i64 (f 6)) at c6
  have c7 := S_get f 7 (by omega)
  change (S f)[7]? = some (.int .i64 (f 7)) at c7
  have c8 := S_get f 8 (by omega)
  change (S f)[8]? = some (.bool (f 8 == 1)) at c8
  have c9 := S_get f 9 (by omega)
  change (S f)[9]? = some (.int .u8 (f 9)) at c9
  have c10 := S_get f 10 (by omega)
  change (S f)[10]? = some (.int .i64 (f 10)) at c10
  have c11 := S_get f 11 (by omega)
  change (S f)[11]? = some (.bool (f 11 == 1)) at c11
  have c12 := S_get f 12 (by omega)
  change (S f)[12]? = some (.int .u16 (f 12)) at c12
  have c13 := S_get f 13 (by omega)
  change (S f)[13]? = some (.int .u8 (f 13)) at c13
  have c14 := S_get f 14 (by omega)
  change (S f)[14]? = some (.int .u8 (f 14)) at c14
  have c15 := S_get f 15 (by omega)
  change (S f)[15]? = some (.int .u8 (f 15)) at c15
  have c16 := S_get f 16 (by omega)
  change (S f)[16]? = some (.int .u8 (f 16)) at c16
  have c17 := S_get f 17 (by omega)
  change (S f)[17]? = some (.int .u8 (f 17)) at c17
  have hix : ∀ k : Nat, k < 3 → ∀ w0, Sem.run Try.prog (Instr.index 24 (.agg #[.int .i64 (f 0), .int .i64 (f 1), .bool (f 2 == 1), .int .i64 (f 3), .int .i64 (f 4), .bool (f 5 == 1), .int .i64 (f 6), .int .i64 (f 7), .bool (f 8 == 1)]) (.int .i64 k)) w0 = .ok (.agg #[.int .i64 (f (3 * k)), .int .i64 (f (3 * k + 1)), .bool (f (3 * k + 2) == 1)]) w0 := fun k hk w0 => index_row (m := 3) Try.underlying24 Try.underlying23 rfl (by kernel_rfl) _ _ _ _ (by omega) (by omega) (by
    rcases (by omega : k = 0 ∨ k = 1 ∨ k = 2) with rfl | rfl | rfl <;> rfl) w0
  have hix2 : ∀ k : Nat, k < 4 → ∀ w0, Sem.run Try.prog (Instr.index 28 (.agg #[.int .u8 (f 13), .int .u8 (f 14), .int .u8 (f 15), .int .u8 (f 16)]) (.int .i64 k)) w0 = .ok (.int .u8 (f (13 + k))) w0 := fun k hk w0 => index_run Try.underlying28 Try.underlying5 rfl (by kernel_rfl) _ _ _ _ (by omega) (by omega) (by
    rcases (by omega : k = 0 ∨ k = 1 ∨ k = 2 ∨ k = 3) with rfl | rfl | rfl | rfl <;> rfl) w0
  have htr := fun (k : Nat) W => RTone.right_any (f (3 * k)) (f (3 * k + 1)) (f (3 * k + 2) == 1) W
  have hnr := fun W => RNoise.right_any (f 9) (f 10) (f 12) (f 11 == 1) h.2.1.1 W
  obtain ⟨bs, hbs⟩ : ∃ bs, (decide (f 17 < 8) && Noise.nR (f 9) (f 10) (f 12)) = bs := ⟨_, rfl⟩
  have hres : rightV f = (bs && tonesOk f 3 && quietOk f 4) := by
    rw [← hbs]; unfold rightV
    rw [show decide (f 17 ≤ 7) = decide (f 17 < 8) by rw [Bool.eq_iff_iff]; simp; omega]
    cases tonesOk f 3 <;> cases quietOk f 4 <;> cases Noise.nR (f 9) (f 10) (f 12) <;> cases decide (f 17 < 8) <;> rfl
  have HRES := Lib.hid hres
  have HIX := Lib.hid hix
  have HIX2 := Lib.hid hix2
  have HTR := Lib.hid htr
  have HC := Lib.hid (And.intro c13 (And.intro c14 (And.intro c15 c16)))
  clear hix hix2 htr hres h
  generalize hA : S f = A at *
  clear hA
  have start : ∃ b : Bool, bs = b := ⟨_, rfl⟩
  clear start
  cases hn : Noise.nR (f 9) (f 10) (f 12)
  all_goals
    rw [hn] at hnr hbs
    have HN2 := Lib.hid hnr
    clear hnr
    by_cases hl : f 17 < 8
    all_goals
      have hl' : decide (f 17 < 8) = decide (f 17 < 8) := rfl
      first | rw [decide_eq_true hl] at hbs | rw [decide_eq_false hl] at hbs
      simp only [Bool.and_true, Bool.and_false, Bool.true_and, Bool.false_and] at hbs
      have HBS := Lib.hid hbs
      clear hl' hbs
      go_enter Try.func15, Try.ntmps15
      go_wp2_with (go_at_call 26; with_reducible refine (HN2.out _).mono ?_; rintro e wn ⟨rfl, o1, rfl⟩)
      clear c0 c1 c2 c3 c4 c5 c6 c7 c8 c9 c10 c11 c12 c13 c14 c15 c16 c17
      go_loopw [3, 18] (fun t i wr => ∃ k : Nat, k ≤ 3 ∧ i = .int .i64 k ∧ t = .bool (bs && tonesOk f k) ∧ HS w A wr) (fun _ i _ => (3 - intOf i).toNat)
      case atStart => exact ⟨0, by omega, rfl, by rw [← HBS.out]; rfl, (by repeat (first | (refine heap_at _ _ _ ?_; first | (simp; done) | (simp; omega; done)) | (refine (heap_past _ _ _ ?_).trans ?_; focus (first | (simp; done) | (simp; omega; done))) | (refine (heap_drew _ _).trans ?_))), by go_grown⟩
      case round =>
        obtain ⟨k, hk, rfl, htt, hT⟩ := hrel
        have hsk : (bs && tonesOk f (k + 1)) = ((bs && tonesOk f k) && Tone.tR (f (3 * k)) (f (3 * k + 1))) := by show (bs && (tonesOk f k && _)) = _; rw [Bool.and_assoc]
        have HSK := Lib.hid hsk
        clear hsk
        by_cases hlt : k < 3
        case pos =>
          have hix := HIX.out k hlt
          have n0 : (0 : Int) ≤ (k : Int) := by omega
          have n1 : (k : Int) < 3 := by omega
          cases hb : (bs && tonesOk f k)
          · rw [hb] at htt
            subst htt
            have HB := Lib.hid hb
            clear hb
            go_wp2_with fail
            go_roundw
            case rel => exact ⟨k + 1, by omega, by go_num, by rw [HSK.out, HB.out]; rfl, hT.below ((Below.refl _ _).alloc (Nat.le_refl _) _)⟩
            case measure => simp [intOf] <;> omega
          · rw [hb] at htt
            subst htt
            have htr := HTR.out k
            have HB := Lib.hid hb
            clear hb
            cases hr : Tone.tR (f (3 * k)) (f (3 * k + 1))
            all_goals
              rw [hr] at htr
              have HTK := Lib.hid htr
              have HRR := Lib.hid hr
              clear htr hr
              go_wp2_with (go_at_call 27; with_reducible refine (HTK.out _).mono ?_; rintro e w' ⟨rfl, o5, rfl⟩)
              go_roundw
              case rel => exact ⟨k + 1, by omega, by go_num, by rw [HSK.out, HB.out, HRR.out]; rfl, hT.below (((Below.refl _ _).alloc (Nat.le_refl _) _).alloc (by simp) _)⟩
              case measure => simp [intOf] <;> omega
        case neg =>
        have hk3 : k = 3 := by omega
        subst hk3
        obtain ⟨x13, x14, x15, x16⟩ := HC.out
        have c13w := (cell_of _ _ 13 hT.1).trans x13
        have c14w := (cell_of _ _ 14 hT.1).trans x14
        have c15w := (cell_of _ _ 15 hT.1).trans x15
        have c16w := (cell_of _ _ 16 hT.1).trans x16
        clear x13 x14 x15 x16
        subst htt
        generalize hb3 : (bs && tonesOk f 3) = b3 at *
        have HB3 := Lib.hid hb3
        clear hb3
        go_wp2_with fail
        go_loopw [3, 29] (fun t i wr => ∃ k : Nat, k ≤ 4 ∧ i = .int .i64 k ∧ t = .bool (b3 && quietOk f k) ∧ HS w A wr) (fun _ i _ => (4 - intOf i).toNat)
        case atStart => exact ⟨0, by omega, rfl, by show Value.bool b3 = .bool (b3 && true); rw [Bool.and_true], hT⟩
        case round =>
          obtain ⟨k, hk, rfl, htt, hT2⟩ := hrel
          clear c13w c14w c15w c16w
          have hsk : (b3 && quietOk f (k + 1)) = ((b3 && quietOk f k) && decide (f (13 + k) ≤ 15)) := by show (b3 && (quietOk f k && _)) = _; rw [Bool.and_assoc]
          have HSK2 := Lib.hid hsk
          clear hsk
          by_cases hlt : k < 4
          case pos =>
            have hix := HIX2.out k hlt
            have n0 : (0 : Int) ≤ (k : Int) := by omega
            have n1 : (k : Int) < 4 := by omega
            cases hb : (b3 && quietOk f k)
            · rw [hb] at htt
              subst htt
              have HB := Lib.hid hb
              clear hb
              go_wp2_with fail
              go_roundw
              case rel => exact ⟨k + 1, by omega, by go_num, by rw [HSK2.out, HB.out]; rfl, hT2⟩
              case measure => simp [intOf] <;> omega
            · rw [hb] at htt
              subst htt
              have HB := Lib.hid hb
              clear hb
              by_cases hq : f (13 + k) < 16
              · go_wp2_with fail
                go_roundw
                case rel => exact ⟨k + 1, by omega, by go_num, by rw [HSK2.out, HB.out, decide_eq_true (show f (13 + k) ≤ 15 by omega)]; rfl, hT2⟩
                case measure => simp [intOf] <;> omega
              · go_wp2_with fail
                go_roundw
                case rel => exact ⟨k + 1, by omega, by go_num, by rw [HSK2.out, HB.out, decide_eq_false (show ¬ f (13 + k) ≤ 15 by omega)]; rfl, hT2⟩
                case measure => simp [intOf] <;> omega
          case neg =>
          have hk4 : k = 4 := by omega
          subst hk4
          subst htt
          generalize hb4 : (b3 && quietOk f 4) = b4 at *
          have HB4 := Lib.hid hb4
          clear hb4
          go_wp2_with fail
          go_ret
          exact ⟨by rw [HRES.out]; rfl, hT2.2⟩
end Psg
end Go.Proofs.Ytjggocbihjdekaa
