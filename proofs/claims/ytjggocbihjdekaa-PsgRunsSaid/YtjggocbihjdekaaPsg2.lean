/- A chip of three tones and a noise (layer 5): what the program's functions do, part 2. No conditions but that numbers are of their kinds. -/
import Derived.Test.YtjggocbihjdekaaPsg
import Derived.RegionTactic
import Derived.LoopTactic
import Derived.Deep.RegionHeld3
import Derived.Lib.Hide
namespace Go.Proofs.Ytjggocbihjdekaa
open Go.RowKit
open Kit
set_option linter.unusedSimpArgs false
set_option linter.unusedVariables false
attribute [local simp] blkAt_alloc blkNew_cells putRow_cells blkAt_drew BlkN.set BlkOne.setInt BlkOne.setBool blkPut_alloc blkPut_drew blkAt_blkPut_other size_blkPut nq2 nq3 nq4 nq5 nq6 nq7 nq8
namespace Psg
attribute [local simp ↓] sl_in ss_in vs_in
attribute [local simp] sl_run ss_run vs_run
/-- A sound's numbers are of their kinds. -/
def SB (f : Nat → Int) : Prop := (0 ≤ f 9 ∧ f 9 < 256) ∧ (0 ≤ f 12 ∧ f 12 < 65536) ∧ (∀ j, 13 ≤ j → j < 18 → 0 ≤ f j ∧ f j < 256) ∧ (∀ j, j = 0 ∨ j = 1 ∨ j = 3 ∨ j = 4 ∨ j = 6 ∨ j = 7 ∨ j = 10 → -9223372036854775808 ≤ f j ∧ f j ≤ 9223372036854775807)
def wordV (f : Nat → Int) (k : Nat) : Bool := if k < 3 then f (3 * k + 2) == 1 else f 12 % 2 == 1
def term (f : Nat → Int) (k : Nat) : Int := if wordV f k then volV (f (13 + k)) else 0
def pS (f : Nat → Int) (k : Nat) : Int := Nat.rec 0 (fun i r => r + term f i) k
theorem volV_bd (q : Int) : 0 ≤ volV q ∧ volV q ≤ 8191 := by
  unfold volV
  have e : (q % 16).toNat < 16 := by omega
  generalize (q % 16).toNat = k at *
  rcases (by omega : k = 0 ∨ k = 1 ∨ k = 2 ∨ k = 3 ∨ k = 4 ∨ k = 5 ∨ k = 6 ∨ k = 7 ∨ k = 8 ∨ k = 9 ∨ k = 10 ∨ k = 11 ∨ k = 12 ∨ k = 13 ∨ k = 14 ∨ k = 15) with rfl | rfl | rfl | rfl | rfl | rfl | rfl | rfl | rfl | rfl | rfl | rfl | rfl | rfl | rfl | rfl <;> decide
theorem term_bd (f : Nat → Int) (k : Nat) : 0 ≤ term f k ∧ term f k ≤ 8191 := by
  unfold term; split; exact volV_bd _; omega
theorem pS_bd (f : Nat → Int) (k : Nat) : 0 ≤ pS f k ∧ pS f k ≤ 8191 * k := by
  induction k with
  | zero => exact ⟨Int.le_refl 0, Int.le_refl 0⟩
  | succ k ih => 
    have := term_bd f k
    show 0 ≤ pS f k + term f k ∧ pS f k + term f k ≤ 8191 * ((k + 1 : Nat) : Int)
    omega
def HS (w : World) (A : Array Value) (W : World) : Prop := W.heap[w.heap.size]? = some (.cells A 30) ∧ Below w.heap.size w W
theorem HS.below {w : World} {A : Array Value} {W W' : World} (h : HS w A W) (hb : Below W.heap.size W W') : HS w A W' := ⟨(hb.block _ (heap_lt h.1)).trans h.1, h.2.trans (hb.mono h.2.size)⟩
set_option maxRecDepth 100000 in
set_option maxHeartbeats 4000000 in
theorem sample_any (f : Nat → Int) (h : SB f) (w : World) : Calls Try.prog 12 #[.agg (S f)] w fun e w' => e = .returned (.int .i64 (pS f 4)) ∧ Below w.heap.size w w' := by
  have c0 := S_get f 0 (by omega)
  change (S f)[0]? = some (.int .i64 (f 0)) at c0
  have c1 := S_get f 1 (by omega)
  change (S f)[1]? = some (.int .i64 (f 1)) at c1
  have c2 := S_get f 2 (by omega)
  change (S f)[2]? = some (.bool (f 2 == 1)) at c2
  have c3 := S_get f 3 (by omega)
  change (S f)[3]? = some (.int .i64 (f 3)) at c3
  have c4 := S_get f 4 (by omega)
  change (S f)[4]? = some (.int .i64 (f 4)) at c4
  have c5 := S_get f 5 (by omega)
  change (S f)[5]? = some (.bool (f 5 == 1)) at c5
  have c6 := S_get f 6 (by omega)
  change (S f)[6]? = some (.int .i64 (f 6)) at c6
  have c7 := S_get f 7 (by omega)
  change (S f)[7]? = some (.int .i64 (f 7)) at c7
  have c8 := S_get f 8 (by omega)
  change (S f)[8]? = some (.bool (f 8 == 1)) at c8
  have c9 := S_get f 9 (by omega)
  change (S f)[9]? = some (.int .u8 (f 9)) at c9
  have c10 := S_get f 10 (by omega)
  change (S f)[10]? = some (.int .i64 (f 10)) at c10
  have c11 := S_get f 11 (by omega)
  change (S f)[11]? = some (.bool (f 11 == 1)) at c11
  have c12 := S_get f 12 (by omega)
  change (S f)[12]? = some (.int .u16 (f 12)) at c12
  have c13 := S_get f 13 (by omega)
  change (S f)[13]? = some (.int .u8 (f 13)) at c13
  have c14 := S_get f 14 (by omega)
  change (S f)[14]? = some (.int .u8 (f 14)) at c14
  have c15 := S_get f 15 (by omega)
  change (S f)[15]? = some (.int .u8 (f 15)) at c15
  have c16 := S_get f 16 (by omega)
  change (S f)[16]? = some (.int .u8 (f 16)) at c16
  have c17 := S_get f 17 (by omega)
  change (S f)[17]? = some (.int .u8 (f 17)) at c17
  have sA : BlkN (S f) 18 := S_size f
  have hno : ∀ W, Calls Try.prog 25 #[.agg #[.int .u8 (f 9), .int .i64 (f 10), .bool (f 11 == 1), .int .u16 (f 12)]] W fun e w' => e = .returned (.bool (f 12 % 2 == 1)) ∧ ∃ o1, w' = W.alloc o1 := by
    obtain ⟨x, hx⟩ := Int.eq_ofNat_of_zero_le h.2.1.1
    have hx2 := h.2.1.2
    rw [hx] at hx2 ⊢
    intro W
    have t := Noise.out_any (f 9) (f 10) x (f 11 == 1) (by omega) W
    have e : ((x : Int) % 2 == 1) = (x % 2 == 1) := by rw [Bool.eq_iff_iff]; simp; omega
    rw [e]; exact t
  have hvol := fun (k : Nat) (hk : k < 4) W => volume_any (f (13 + k)) (h.2.2.1 _ (by omega) (by omega)).1 (h.2.2.1 _ (by omega) (by omega)).2 W
  have hix : ∀ k : Nat, k < 4 → ∀ w0, Sem.run Try.prog (Instr.index 52 (.agg #[.bool (f 2 == 1), .bool (f 5 == 1), .bool (f 8 == 1), .bool (f 12 % 2 == 1)]) (.int .i64 k)) w0 = .ok (.bool (wordV f k)) w0 := fun k hk w0 => index_run Try.underlying52 Try.underlying4 rfl (by kernel_rfl) _ _ _ _ (by omega) (by omega) (by
    rcases (by omega : k = 0 ∨ k = 1 ∨ k = 2 ∨ k = 3) with rfl | rfl | rfl | rfl <;> rfl) w0
  have hcell : ∀ k : Nat, k < 4 → (S f)[13 + k]? = some (.int .u8 (f (13 + k))) := fun k hk => by rw [S_get _ _ (by omega)]; unfold sv; rw [if_neg (by omega), if_pos (by omega)]
  have HNO := Lib.hid hno
  have HVOL := Lib.hid hvol
  have HIX := Lib.hid hix
  have HC := Lib.hid hcell
  clear hno hvol hix hcell
  generalize hA : S f = A at *
  clear hA h
  go_enter Try.func12, Try.ntmps12
  go_wp2_with fail
  go_region_held3 (fun W => W.cell? ⟨w.heap.size, 2, none⟩ = some (.bool (f 2 == 1)) ∧ W.cell? ⟨w.heap.size, 5, none⟩ = some (.bool (f 5 == 1)) ∧ W.cell? ⟨w.heap.size, 8, none⟩ = some (.bool (f 8 == 1)) ∧ W.cell? ⟨w.heap.size, 9, none⟩ = some (.int .u8 (f 9)) ∧ W.cell? ⟨w.heap.size, 10, none⟩ = some (.int .i64 (f 10)) ∧ W.cell? ⟨w.heap.size, 11, none⟩ = some (.bool (f 11 == 1)) ∧ W.cell? ⟨w.heap.size, 12, none⟩ = some (.int .u16 (f 12))) (first | assumption | go_keep | (exact ⟨by first | assumption | go_keep, by first | assumption | go_keep, by first | assumption | go_keep, by first | assumption | go_keep, by first | assumption | go_keep, by first | assumption | go_keep, by first | assumption | go_keep⟩)) ((go_at_call 25; with_reducible refine (HNO.out _).mono ?_; rintro e w' ⟨rfl, o1, rfl⟩))
  all_goals
    go_wp2_with fail
    go_loopw [4, 24] (fun sm i wr => ∃ k : Nat, k ≤ 4 ∧ i = .int .i64 k ∧ sm = .int .i64 (pS f k) ∧ HS w A wr) (fun _ i _ => (4 - intOf i).toNat)
    case atStart => exact ⟨0, by omega, rfl, rfl, (by repeat (first | (refine heap_at _ _ _ ?_; first | (simp; done) | (simp; omega; done)) | (refine (heap_past _ _ _ ?_).trans ?_; focus (first | (simp; done) | (simp; omega; done))) | (refine (heap_drew _ _).trans ?_))), by go_grown⟩
    case round =>
      obtain ⟨k, hk, rfl, rfl, hT⟩ := hrel
      by_cases hlt : k < 4
      case neg =>
        have hk4 : k = 4 := by omega
        subst hk4
        go_wp2_with fail
        go_ret
        exact ⟨rfl, hT.2⟩
      case pos =>
      have hix := HIX.out k hlt
      have hvol := HVOL.out k hlt
      have hcell : _ := (cell_of _ _ (13 + k) hT.1).trans (HC.out k hlt)
      have pb := pS_bd f k
      have vb := volV_bd (f (13 + k))
      have n0 : (0 : Int) ≤ (k : Int) := by omega
      have n1 : (k : Int) < 4 := by omega
      have wr1 : IntKind.i64.wrap (pS f k + volV (f (13 + k))) = pS f k + volV (f (13 + k)) := by rw [IntKind.wrap_i64]; omega
      have hs : pS f (k + 1) = pS f k + term f k := rfl
      unfold term at hs
      cases hw : wordV f k
      · rw [hw] at hix hs
        simp only [Bool.false_eq_true, if_false, Int.add_zero] at hs
        clear hvol wr1
        go_wp2_with fail
        go_roundw
        case rel => exact ⟨k + 1, by omega, by go_num, by rw [hs], hT⟩
        case measure => simp [intOf] <;> omega
      · rw [hw] at hix hs
        simp only [if_true] at hs
        generalize volV (f (13 + k)) = vv at *
        generalize pS f k = pp at *
        have hp2 : pS f (k + 1) = pp + vv := hs
        have HV := Lib.hid hvol
        have HS2 := Lib.hid hp2
        clear hvol hs hp2
        go_wp2_with (go_at_call 13; with_reducible refine (HV.out _).mono ?_; rintro e w' ⟨rfl, o5, rfl⟩)
        go_roundw
        case rel => exact ⟨k + 1, by omega, by go_num, by rw [HS2.out], hT.below ((Below.refl _ _).alloc (Nat.le_refl _) _)⟩
        case measure => simp [intOf] <;> omega
end Psg
end Go.Proofs.Ytjggocbihjdekaa
