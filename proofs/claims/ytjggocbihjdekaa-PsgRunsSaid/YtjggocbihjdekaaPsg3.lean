/- A chip of three tones and a noise (layer 5): what the program's functions do, part 3. No conditions but that numbers are of their kinds. -/
import Derived.Test.YtjggocbihjdekaaPsg2
import Derived.RegionTactic
import Derived.LoopTactic
import Derived.Deep.RegionHeld3
import Derived.Lib.Hide
namespace Go.Proofs.Ytjggocbihjdekaa
open Go.RowKit
open Kit
set_option linter.unusedSimpArgs false
set_option linter.unusedVariables false
attribute [local simp] blkAt_alloc blkNew_cells putRow_cells blkAt_drew BlkN.set BlkOne.setInt BlkOne.setBool blkPut_alloc blkPut_drew blkAt_blkPut_other size_blkPut nq2 nq3 nq4 nq5 nq6 nq7 nq8
namespace Psg
attribute [local simp ↓] sl_in ss_in vs_in
attribute [local simp] sl_run ss_run vs_run
theorem index_row {P : Program} {t e : TypeId} {n m : Nat} {d : TypeDesc} (h : P.underlying t = some (.array n e)) (hd : P.underlying e = some d) (hp : (match d with | .struct _ | .array _ _ => true | _ => false) = true)
    (hs : (P.info? e).map (·.size) = some m) (cs : Array Value) (k : IntKind) (i : Int) (vs : Array Value) (h0 : 0 ≤ i) (h1 : i < n) (hv : cs.extract (i.toNat * m) (i.toNat * m + m) = vs) (w : World) :
    Sem.run P (Instr.index t (.agg cs) (.int k i)) w = .ok (.agg vs) w := by
  cases hq : P.info? e with
  | none => simp [hq] at hs
  | some i0 =>
    have hs' : i0.size = m := by simpa [hq] using hs
    have ha : (Go.isAgg e).run P w = .ok true w := by
      unfold Go.isAgg
      rw [Sem.run_bind, run_underlying hd w]
      cases d <;> simp_all
    simp [Instr.index, run_underlying h, asIntOf, part, sizeOf, typeInfo, hq, hs', h0, h1, ha, hv]
def tonesOk (f : Nat → Int) (k : Nat) : Bool := Nat.rec true (fun i r => r && Tone.tR (f (3 * i)) (f (3 * i + 1))) k
def quietOk (f : Nat → Int) (k : Nat) : Bool := Nat.rec true (fun i r => r && decide (f (13 + i) ≤ 15)) k
def rightV (f : Nat → Int) : Bool := tonesOk f 3 && quietOk f 4 && (Noise.nR (f 9) (f 10) (f 12) && decide (f 17 ≤ 7))
theorem tones_stop (f : Nat → Int) (k : Nat) (h : tonesOk f k = false) : ∀ n, tonesOk f (k + n) = false
  | 0 => h
  | n + 1 => by show (tonesOk f (k + n) && _) = false; rw [tones_stop f k h n]; rfl
theorem quiet_stop (f : Nat → Int) (k : Nat) (h : quietOk f k = false) : ∀ n, quietOk f (k + n) = false
  | 0 => h
  | n + 1 => by show (quietOk f (k + n) && _) = false; rw [quiet_stop f k h n]; rfl
set_option maxRecDepth 100000 in
set_option maxHeartbeats 4000000 in
theorem right_any (f : Nat → Int) (w : World) : Calls Try.prog 11 #[.agg (S f)] w fun e w' => e = .returned (.bool (rightV f)) ∧ Below w.heap.size w w' := by
  have c0 := S_get f 0 (by omega)
  change (S f)[0]? = some (.int .i64 (f 0)) at c0
  have c1 := S_get f 1 (by omega)
  change (S f)[1]? = some (.int .i64 (f 1)) at c1
  have c2 := S_get f 2 (by omega)
  change (S f)[2]? = some (.bool (f 2 == 1)) at c2
  have c3 := S_get f 3 (by omega)
  change (S f)[3]? = some (.int .i64 (f 3)) at c3
  have c4 := S_get f 4 (by omega)
  change (S f)[4]? = some (.int .i64 (f 4)) at c4
  have c5 := S_get f 5 (by omega)
  change (S f)[5]? = some (.bool (f 5 == 1)) at c5
  have c6 := S_get f 6 (by omega)
  change (S f)[6]? = some (.int .i64 (f 6)) at c6
  have c7 := S_get f 7 (by omega)
  change (S f)[7]? = some (.int .i64 (f 7)) at c7
  have c8 := S_get f 8 (by omega)
  change (S f)[8]? = some (.bool (f 8 == 1)) at c8
  have c9 := S_get f 9 (by omega)
  change (S f)[9]? = some (.int .u8 (f 9)) at c9
  have c10 := S_get f 10 (by omega)
  change (S f)[10]? = some (.int .i64 (f 10)) at c10
  have c11 := S_get f 11 (by omega)
  change (S f)[11]? = some (.bool (f 11 == 1)) at c11
  have c12 := S_get f 12 (by omega)
  change (S f)[12]? = some (.int .u16 (f 12)) at c12
  have c13 := S_get f 13 (by omega)
  change (S f)[13]? = some (.int .u8 (f 13)) at c13
  have c14 := S_get f 14 (by omega)
  change (S f)[14]? = some (.int .u8 (f 14)) at c14
  have c15 := S_get f 15 (by omega)
  change (S f)[15]? = some (.int .u8 (f 15)) at c15
  have c16 := S_get f 16 (by omega)
  change (S f)[16]? = some (.int .u8 (f 16)) at c16
  have c17 := S_get f 17 (by omega)
  change (S f)[17]? = some (.int .u8 (f 17)) at c17
  have hix : ∀ k : Nat, k < 3 → ∀ w0, Sem.run Try.prog (Instr.index 24 (.agg #[.int .i64 (f 0), .int .i64 (f 1), .bool (f 2 == 1), .int .i64 (f 3), .int .i64 (f 4), .bool (f 5 == 1), .int .i64 (f 6), .int .i64 (f 7), .bool (f 8 == 1)]) (.int .i64 k)) w0 = .ok (.agg #[.int .i64 (f (3 * k)), .int .i64 (f (3 * k + 1)), .bool (f (3 * k + 2) == 1)]) w0 := fun k hk w0 => index_row (m := 3) Try.underlying24 Try.underlying23 rfl (by kernel_rfl) _ _ _ _ (by omega) (by omega) (by
    rcases (by omega : k = 0 ∨ k = 1 ∨ k = 2) with rfl | rfl | rfl <;> rfl) w0
  have hix2 : ∀ k : Nat, k < 4 → ∀ w0, Sem.run Try.prog (Instr.index 28 (.agg #[.int .u8 (f 13), .int .u8 (f 14), .int .u8 (f 15), .int .u8 (f 16)]) (.int .i64 k)) w0 = .ok (.int .u8 (f (13 + k))) w0 := fun k hk w0 => index_run Try.underlying28 Try.underlying5 rfl (by kernel_rfl) _ _ _ _ (by omega) (by omega) (by
    rcases (by omega : k = 0 ∨ k = 1 ∨ k = 2 ∨ k = 3) with rfl | rfl | rfl | rfl <;> rfl) w0
  have htr := fun (k : Nat) W => Tone.right_any (f (3 * k)) (f (3 * k + 1)) (f (3 * k + 2) == 1) W
  have hnr := fun W => Noise.right_any (f 9) (f 10) (f 12) (f 11 == 1) W
  have HIX := Lib.hid hix
  have HIX2 := Lib.hid hix2
  have HTR := Lib.hid htr
  have HNR := Lib.hid hnr
  clear hix hix2 htr hnr
  generalize hA : S f = A at *
  clear hA
  unfold rightV
  go_enter Try.func11, Try.ntmps11
  go_wp2_with fail
  go_loopw [9] (fun i wr => ∃ k : Nat, k ≤ 3 ∧ i = .int .i64 k ∧ tonesOk f k = true ∧ HS w A wr) (fun i _ => (3 - intOf i).toNat)
  case atStart => exact ⟨0, by omega, rfl, rfl, (by repeat (first | (refine heap_at _ _ _ ?_; first | (simp; done) | (simp; omega; done)) | (refine (heap_past _ _ _ ?_).trans ?_; focus (first | (simp; done) | (simp; omega; done))) | (refine (heap_drew _ _).trans ?_))), by go_grown⟩
  case round =>
    obtain ⟨k, hk, rfl, hok, hT⟩ := hrel
    by_cases hlt : k < 3
    case pos =>
      have hix := HIX.out k hlt
      have htr := HTR.out k
      have n0 : (0 : Int) ≤ (k : Int) := by omega
      have n1 : (k : Int) < 3 := by omega
      have hs : tonesOk f (k + 1) = (tonesOk f k && Tone.tR (f (3 * k)) (f (3 * k + 1))) := rfl
      rw [hok, Bool.true_and] at hs
      cases hr : Tone.tR (f (3 * k)) (f (3 * k + 1))
      · rw [hr] at htr hs
        have HTK := Lib.hid htr
        have hfalse : tonesOk f 3 = false := by
          have := tones_stop f (k + 1) hs (2 - k)
          rwa [show k + 1 + (2 - k) = 3 by omega] at this
        clear htr hs
        go_wp2_with (go_at_call 23; with_reducible refine (HTK.out _).mono ?_; rintro e w' ⟨rfl, o5, rfl⟩)
        go_ret
        exact ⟨ret_bool (by first | rfl | (rw [hfalse]; simp; done) | (simp [hfalse]; done)), ((hT.2.alloc hT.2.size _).alloc (by simp; have := hT.2.size; omega) _)⟩
      · rw [hr] at htr hs
        have HTK := Lib.hid htr
        have HSS := Lib.hid hs
        clear htr hs
        go_wp2_with (go_at_call 23; with_reducible refine (HTK.out _).mono ?_; rintro e w' ⟨rfl, o5, rfl⟩)
        go_roundw
        case rel => exact ⟨k + 1, by omega, by go_num, HSS.out, hT.below (((Below.refl _ _).alloc (Nat.le_refl _) _).alloc (by simp) _)⟩
        case measure => simp [intOf] <;> omega
    case neg =>
    have hk3 : k = 3 := by omega
    subst hk3
    have c9w := (cell_of _ _ 9 hT.1).trans c9
    have c10w := (cell_of _ _ 10 hT.1).trans c10
    have c11w := (cell_of _ _ 11 hT.1).trans c11
    have c12w := (cell_of _ _ 12 hT.1).trans c12
    have c13w := (cell_of _ _ 13 hT.1).trans c13
    have c14w := (cell_of _ _ 14 hT.1).trans c14
    have c15w := (cell_of _ _ 15 hT.1).trans c15
    have c16w := (cell_of _ _ 16 hT.1).trans c16
    have c17w := (cell_of _ _ 17 hT.1).trans c17
    go_wp2_with fail
    go_loopw [18] (fun i wr => ∃ k : Nat, k ≤ 4 ∧ i = .int .i64 k ∧ quietOk f k = true ∧ HS w A wr) (fun i _ => (4 - intOf i).toNat)
    case atStart => exact ⟨0, by omega, rfl, rfl, hT⟩
    case round =>
      obtain ⟨k, hk, rfl, hok2, hT2⟩ := hrel
      clear c9w c10w c11w c12w c13w c14w c15w c16w c17w
      by_cases hlt : k < 4
      case pos =>
        have hix := HIX2.out k hlt
        have n0 : (0 : Int) ≤ (k : Int) := by omega
        have n1 : (k : Int) < 4 := by omega
        have hs : quietOk f (k + 1) = (quietOk f k && decide (f (13 + k) ≤ 15)) := rfl
        rw [hok2, Bool.true_and] at hs
        by_cases hq : f (13 + k) ≤ 15
        · rw [decide_eq_true hq] at hs
          have q1 : ¬ 15 < f (13 + k) := by omega
          have HSS := Lib.hid hs
          clear hs
          go_wp2_with fail
          go_roundw
          case rel => exact ⟨k + 1, by omega, by go_num, HSS.out, hT2⟩
          case measure => simp [intOf] <;> omega
        · rw [decide_eq_false hq] at hs
          have q1 : 15 < f (13 + k) := by omega
          have hfalse : quietOk f 4 = false := by
            have := quiet_stop f (k + 1) hs (3 - k)
            rwa [show k + 1 + (3 - k) = 4 by omega] at this
          clear hs
          go_wp2_with fail
          go_ret
          exact ⟨ret_bool (by first | rfl | (rw [hfalse]; simp; done) | (simp [hfalse]; done)), hT2.2⟩
      case neg =>
      have hk4 : k = 4 := by omega
      subst hk4
      have c9w := (cell_of _ _ 9 hT2.1).trans c9
      have c10w := (cell_of _ _ 10 hT2.1).trans c10
      have c11w := (cell_of _ _ 11 hT2.1).trans c11
      have c12w := (cell_of _ _ 12 hT2.1).trans c12
      have c17w := (cell_of _ _ 17 hT2.1).trans c17
      have hl := heap_lt hT2.1
      cases hn : Noise.nR (f 9) (f 10) (f 12)
      all_goals
        have hnr := HNR.out
        rw [hn] at hnr
        have HN2 := Lib.hid hnr
        clear hnr
        go_wp2_with (go_at_call 24; with_reducible refine (HN2.out _).mono ?_; rintro e w' ⟨rfl, o5, rfl⟩)
        go_ret
        exact ⟨ret_bool (by first | rfl | (simp [hok, hok2, hn]; done) | (simp [hn]; done)), hT2.2.alloc hT2.2.size _⟩
end Psg
end Go.Proofs.Ytjggocbihjdekaa
