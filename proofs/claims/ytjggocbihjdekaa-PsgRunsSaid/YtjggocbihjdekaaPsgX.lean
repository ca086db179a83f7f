/- A chip of three tones and a noise (layer 5): what the program's functions do, part 8. No conditions but that numbers are of their kinds. -/
import Derived.Test.YtjggocbihjdekaaPsgW
import Derived.RegionTactic
import Derived.LoopTactic
import Derived.Deep.RegionHeld3
import Derived.Lib.Hide
namespace Go.Proofs.Ytjggocbihjdekaa
open Go.RowKit
open Kit
set_option linter.unusedSimpArgs false
set_option linter.unusedVariables false
attribute [local simp] blkAt_alloc blkNew_cells putRow_cells blkAt_drew BlkN.set BlkOne.setInt BlkOne.setBool blkPut_alloc blkPut_drew blkAt_blkPut_other size_blkPut nq2 nq3 nq4 nq5 nq6 nq7 nq8
namespace Psg
attribute [local simp ↓] sl_in ss_in vs_in
attribute [local simp] sl_run ss_run vs_run
def wH (f : Nat → Int) (v l : Int) : Nat → Int := if l = 0 then upd (upd f 17 0) 0 (f 0 / 16 * 16 + v % 16) else if l = 1 then upd (upd f 17 1) 13 (v % 16) else if l = 2 then upd (upd f 17 2) 3 (f 3 / 16 * 16 + v % 16) else if l = 3 then upd (upd f 17 3) 14 (v % 16) else if l = 4 then upd (upd f 17 4) 6 (f 6 / 16 * 16 + v % 16) else if l = 5 then upd (upd f 17 5) 15 (v % 16) else if l = 6 then upd (upd (upd (upd (upd f 17 6) 9 (v % 8)) 10 (f 10)) 11 (f 11)) 12 32768 else upd (upd f 17 7) 16 (v % 16)
def wL (f : Nat → Int) (v l : Int) : Nat → Int := if l = 0 then upd f 0 (f 0 % 16 + v % 64 * 16) else if l = 1 then upd f 13 (v % 16) else if l = 2 then upd f 3 (f 3 % 16 + v % 64 * 16) else if l = 3 then upd f 14 (v % 16) else if l = 4 then upd f 6 (f 6 % 16 + v % 64 * 16) else if l = 5 then upd f 15 (v % 16) else if l = 6 then upd (upd (upd (upd f 9 (v % 8)) 10 (f 10)) 11 (f 11)) 12 32768 else upd f 16 (v % 16)
/-- The sound behind a byte. -/
def wF (f : Nat → Int) (v : Int) : Nat → Int := if 128 ≤ v then wH f v (v / 16 % 8) else wL f v (f 17)
theorem write_any (f : Nat → Int) (h : SB f) (hp : ∀ k, k < 3 → 0 ≤ f (3 * k) ∧ f (3 * k) < 1024) (hl : f 17 < 8) (v : Int) (v0 : 0 ≤ v) (v1 : v < 256) (w : World) : Calls Try.prog 14 #[.agg (S f), .int .u8 v] w fun e w' => e = .returned (.agg (S (wF f v))) ∧ Below w.heap.size w w' := by
  have l0 := (h.2.2.1 17 (by omega) (by omega)).1
  unfold wF
  by_cases hv : 128 ≤ v
  · rw [if_pos hv]
    rcases (by omega : v / 16 % 8 = 0 ∨ v / 16 % 8 = 1 ∨ v / 16 % 8 = 2 ∨ v / 16 % 8 = 3 ∨ v / 16 % 8 = 4 ∨ v / 16 % 8 = 5 ∨ v / 16 % 8 = 6 ∨ v / 16 % 8 = 7) with e | e | e | e | e | e | e | e
    · rw [e]; exact write_h0 f h hp v v0 v1 hv e w
    · rw [e]; exact write_h1 f h hp v v0 v1 hv e w
    · rw [e]; exact write_h2 f h hp v v0 v1 hv e w
    · rw [e]; exact write_h3 f h hp v v0 v1 hv e w
    · rw [e]; exact write_h4 f h hp v v0 v1 hv e w
    · rw [e]; exact write_h5 f h hp v v0 v1 hv e w
    · rw [e]; exact write_h6 f h hp v v0 v1 hv e w
    · rw [e]; exact write_h7 f h hp v v0 v1 hv e w
  · rw [if_neg hv]
    rcases (by omega : f 17 = 0 ∨ f 17 = 1 ∨ f 17 = 2 ∨ f 17 = 3 ∨ f 17 = 4 ∨ f 17 = 5 ∨ f 17 = 6 ∨ f 17 = 7) with e | e | e | e | e | e | e | e
    · rw [e]; exact write_l0 f h hp v v0 v1 (by omega) e w
    · rw [e]; exact write_l1 f h hp v v0 v1 (by omega) e w
    · rw [e]; exact write_l2 f h hp v v0 v1 (by omega) e w
    · rw [e]; exact write_l3 f h hp v v0 v1 (by omega) e w
    · rw [e]; exact write_l4 f h hp v v0 v1 (by omega) e w
    · rw [e]; exact write_l5 f h hp v v0 v1 (by omega) e w
    · rw [e]; exact write_l6 f h hp v v0 v1 (by omega) e w
    · rw [e]; exact write_l7 f h hp v v0 v1 (by omega) e w
end Psg
end Go.Proofs.Ytjggocbihjdekaa
