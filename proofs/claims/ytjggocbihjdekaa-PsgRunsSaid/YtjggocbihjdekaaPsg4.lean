/- A chip of three tones and a noise (layer 5): what the program's functions do, part 4. No conditions but that numbers are of their kinds. -/
import Derived.Test.YtjggocbihjdekaaPsg3
import Derived.RegionTactic
import Derived.LoopTactic
import Derived.Deep.RegionHeld3
import Derived.Lib.Hide
namespace Go.Proofs.Ytjggocbihjdekaa
open Go.RowKit
open Kit
set_option linter.unusedSimpArgs false
set_option linter.unusedVariables false
attribute [local simp] blkAt_alloc blkNew_cells putRow_cells blkAt_drew BlkN.set BlkOne.setInt BlkOne.setBool blkPut_alloc blkPut_drew blkAt_blkPut_other size_blkPut nq2 nq3 nq4 nq5 nq6 nq7 nq8
namespace Psg
attribute [local simp ↓] sl_in ss_in vs_in
attribute [local simp] sl_run ss_run vs_run
def newF (j : Nat) : Int := if j = 12 then 32768 else if 13 ≤ j ∧ j < 17 then 15 else 0
theorem newS : S newF = #[.int .i64 0, .int .i64 0, .bool false, .int .i64 0, .int .i64 0, .bool false, .int .i64 0, .int .i64 0, .bool false, .int .u8 0, .int .i64 0, .bool false, .int .u16 32768, .int .u8 15, .int .u8 15, .int .u8 15, .int .u8 15, .int .u8 0] := by rfl
theorem zeroS : S (fun _ => 0) = Z18 := by rfl
set_option maxRecDepth 100000 in
set_option maxHeartbeats 4000000 in
theorem new_any (w : World) : Calls Try.prog 8 #[] w fun e w' => e = .returned (.agg (S newF)) ∧ Below w.heap.size w w' := by
  have sA : BlkN (S newF) 18 := S_size _
  have oA : BlkOne (S newF) := S_one _
  have zn := zN
  have hA := newS
  have hs := fun W => Noise.set_any 0 0 0 0 false (by omega) (by omega) W
  rw [newS] at sA oA
  unfold Z18 at zn
  go_enter Try.func8, Try.ntmps8
  go_wp2_with (go_at_call 22; with_reducible refine (hs _).mono ?_; rintro e w' ⟨rfl, o1, o2, rfl⟩)
  exact bodyPost_ret (v := .agg _) (results_cell_row rfl _ _ (w.heap.size) 30 _ (0, 0) _ rfl (by repeat (first | (refine heap_at _ _ _ ?_; first | (simp; done) | (simp; omega; done)) | (refine (heap_past _ _ _ ?_).trans ?_; focus (first | (simp; done) | (simp; omega; done))) | (refine (heap_drew _ _).trans ?_))) Try.underlying30 rfl (iS (by first | assumption | (simp [*]; done)))) rfl ⟨by rw [← hA], by go_grown⟩
set_option maxRecDepth 100000 in
set_option maxHeartbeats 4000000 in
theorem rnew_any (w : World) : Calls Try.prog 10 #[] w fun e w' => e = .returned (.agg (S newF)) ∧ Below w.heap.size w w' := by
  have sA : BlkN (S newF) 18 := S_size _
  have oA : BlkOne (S newF) := S_one _
  have zn := zN
  have hA := newS
  rw [newS] at sA oA
  unfold Z18 at zn
  go_enter Try.func10, Try.ntmps10
  go_wp2_with fail
  exact bodyPost_ret (v := .agg _) (results_cell_row rfl _ _ (w.heap.size) 30 _ (0, 0) _ rfl (by repeat (first | (refine heap_at _ _ _ ?_; first | (simp; done) | (simp; omega; done)) | (refine (heap_past _ _ _ ?_).trans ?_; focus (first | (simp; done) | (simp; omega; done))) | (refine (heap_drew _ _).trans ?_))) Try.underlying30 rfl (iS (by first | assumption | (simp [*]; done)))) rfl ⟨by rw [← hA], by go_grown⟩
def w1F : Nat → Int := upd (upd newF 17 1) 13 0
def w2F : Nat → Int := upd (upd w1F 17 5) 15 15
def w3F : Nat → Int := upd w2F 2 1
theorem he1 : ((S newF).setIfInBounds 17 (.int .u8 1)).setIfInBounds 13 (.int .u8 0) = S w1F := by rw [S_set newF 17 1 _ (by rfl), S_set (upd newF 17 1) 13 0 _ (by rfl)]; rfl
theorem he2 : ((S w1F).setIfInBounds 17 (.int .u8 5)).setIfInBounds 15 (.int .u8 15) = S w2F := by rw [S_set w1F 17 5 _ (by rfl), S_set (upd w1F 17 5) 15 15 _ (by rfl)]; rfl
theorem he3 : (S w2F).setIfInBounds 2 (.bool true) = S w3F := by rw [S_set w2F 2 1 _ (by rfl)]; rfl
set_option maxRecDepth 100000 in
set_option maxHeartbeats 4000000 in
theorem write1_any (w : World) : Calls Try.prog 14 #[.agg (S newF), .int .u8 144] w fun e w' => e = .returned (.agg (S w1F)) ∧ Below w.heap.size w w' := by
  have sA : BlkN (S newF) 18 := S_size _
  have oA : BlkOne (S newF) := S_one _
  have zn := zN
  have c17 := S_get newF 17 (by omega)
  change (S newF)[17]? = some (.int .u8 0) at c17
  have c13 := S_get newF 13 (by omega)
  change (S newF)[13]? = some (.int .u8 15) at c13
  have c15 := S_get newF 15 (by omega)
  change (S newF)[15]? = some (.int .u8 15) at c15
  unfold Z18 at zn
  have he : ((S newF).setIfInBounds 17 (.int .u8 1)).setIfInBounds 13 (.int .u8 0) = S w1F := he1
  have sD : BlkN (S w1F) 18 := S_size _
  have oD : BlkOne (S w1F) := S_one _
  have hs17 : ∀ v, ((S newF).setIfInBounds 17 v)[17]? = some v := fun v => by rw [Array.getElem?_setIfInBounds]; simp [S_size]
  have b0 : Go.bits .and .u8 144 128 = 128 := by decide
  have b1 : Go.bits .and .u8 9 7 = 1 := by decide
  have b2 : Go.bits .and .u8 0 3 = 0 := by decide
  have b3 : Go.bits .and .u8 1 1 = 1 := by decide
  have b4 : Go.bits .and .u8 144 15 = 0 := by decide
  generalize hA : S newF = A at *
  clear hA
  go_enter Try.func14, Try.ntmps14
  go_wp2_with fail
  exact bodyPost_ret (v := .agg _) (results_cell_row rfl _ _ (w.heap.size + 1) 30 _ (0, 0) _ rfl (by repeat (first | (refine heap_at _ _ _ ?_; first | (simp; done) | (simp; omega; done)) | (refine (heap_past _ _ _ ?_).trans ?_; focus (first | (simp; done) | (simp; omega; done))) | (refine (heap_drew _ _).trans ?_))) Try.underlying30 rfl (iS (by first | assumption | (simp [*]; done)))) rfl ⟨by first | rfl | rw [← he], by go_grown⟩
set_option maxRecDepth 100000 in
set_option maxHeartbeats 4000000 in
theorem write2_any (w : World) : Calls Try.prog 14 #[.agg (S w1F), .int .u8 223] w fun e w' => e = .returned (.agg (S w2F)) ∧ Below w.heap.size w w' := by
  have sA : BlkN (S w1F) 18 := S_size _
  have oA : BlkOne (S w1F) := S_one _
  have zn := zN
  have c17 := S_get w1F 17 (by omega)
  change (S w1F)[17]? = some (.int .u8 1) at c17
  have c13 := S_get w1F 13 (by omega)
  change (S w1F)[13]? = some (.int .u8 0) at c13
  have c15 := S_get w1F 15 (by omega)
  change (S w1F)[15]? = some (.int .u8 15) at c15
  unfold Z18 at zn
  have he : ((S w1F).setIfInBounds 17 (.int .u8 5)).setIfInBounds 15 (.int .u8 15) = S w2F := he2
  have sD : BlkN (S w2F) 18 := S_size _
  have oD : BlkOne (S w2F) := S_one _
  have hs17 : ∀ v, ((S w1F).setIfInBounds 17 v)[17]? = some v := fun v => by rw [Array.getElem?_setIfInBounds]; simp [S_size]
  have b0 : Go.bits .and .u8 223 128 = 128 := by decide
  have b1 : Go.bits .and .u8 13 7 = 5 := by decide
  have b2 : Go.bits .and .u8 2 3 = 2 := by decide
  have b3 : Go.bits .and .u8 5 1 = 1 := by decide
  have b4 : Go.bits .and .u8 223 15 = 15 := by decide
  generalize hA : S w1F = A at *
  clear hA
  go_enter Try.func14, Try.ntmps14
  go_wp2_with fail
  exact bodyPost_ret (v := .agg _) (results_cell_row rfl _ _ (w.heap.size + 1) 30 _ (0, 0) _ rfl (by repeat (first | (refine heap_at _ _ _ ?_; first | (simp; done) | (simp; omega; done)) | (refine (heap_past _ _ _ ?_).trans ?_; focus (first | (simp; done) | (simp; omega; done))) | (refine (heap_drew _ _).trans ?_))) Try.underlying30 rfl (iS (by first | assumption | (simp [*]; done)))) rfl ⟨by first | rfl | rw [← he], by go_grown⟩
set_option maxRecDepth 100000 in
set_option maxHeartbeats 4000000 in
theorem alive_any (w : World) : Calls Try.prog 9 #[] w fun e w' => e = .returned (.bool true) ∧ Below w.heap.size w w' := by
  have g3 : SB w3F := ⟨by decide, by decide, fun j a b => by
    rcases (by omega : j = 13 ∨ j = 14 ∨ j = 15 ∨ j = 16 ∨ j = 17) with rfl | rfl | rfl | rfl | rfl <;> decide, fun j a => by
    rcases a with rfl | rfl | rfl | rfl | rfl | rfl | rfl <;> decide⟩
  have hs := fun W => sample_any w3F g3 W
  rw [show pS w3F 4 = 8191 by decide] at hs
  have hv := fun W => volume_any 1 (by omega) (by omega) W
  rw [show volV 1 = 6507 by decide] at hv
  have c2 := S_get w2F 2 (by omega)
  change (S w2F)[2]? = some (.bool false) at c2
  have c13 := S_get w3F 13 (by omega)
  change (S w3F)[13]? = some (.int .u8 0) at c13
  have c14 := S_get w3F 14 (by omega)
  change (S w3F)[14]? = some (.int .u8 15) at c14
  have c15 := S_get w3F 15 (by omega)
  change (S w3F)[15]? = some (.int .u8 15) at c15
  have c16 := S_get w3F 16 (by omega)
  change (S w3F)[16]? = some (.int .u8 15) at c16
  have he := he3
  have s2 : BlkN (S w2F) 18 := S_size _
  have o2 : BlkOne (S w2F) := S_one _
  have s3 : BlkN (S w3F) 18 := S_size _
  have hq : ∀ w0, (Op.equalIn 10000 28 (.agg #[.int .u8 0, .int .u8 15, .int .u8 15, .int .u8 15]) (.agg #[.int .u8 0, .int .u8 15, .int .u8 15, .int .u8 15])).run Try.prog w0 = .ok true w0 := fun w0 => Kit.eq_self 6 6 28 (List.replicate 4 (some .u8)) (by kernel_rfl) (by kernel_rfl) (by decide) (by kernel_rfl) #[.int .u8 0, .int .u8 15, .int .u8 15, .int .u8 15] ⟨⟨0, rfl, by decide⟩, ⟨15, rfl, by decide⟩, ⟨15, rfl, by decide⟩, ⟨15, rfl, by decide⟩, trivial⟩ (by kernel_rfl) w0
  have zn := zN
  unfold Z18 at zn
  have hn := new_any
  have h1 := write1_any
  have h2 := write2_any
  generalize S newF = A0 at *
  generalize S w1F = A1 at *
  generalize S w2F = A2 at *
  generalize S w3F = A3 at *
  have HN := Lib.hid hn
  have H1 := Lib.hid h1
  have H2 := Lib.hid h2
  have HSA := Lib.hid hs
  have HV := Lib.hid hv
  clear hn h1 h2 hs hv g3
  go_enter Try.func9, Try.ntmps9
  go_wp2_with fail
  refine (HN.out _).mono ?_
  rintro e wa ⟨rfl, ba⟩
  go_wp2_with fail
  refine (H1.out _).mono ?_
  rintro e wb ⟨rfl, bb⟩
  go_wp2_with fail
  refine (H2.out _).mono ?_
  rintro e wc ⟨rfl, bc⟩
  have b0 : Below w.heap.size w wc := (ba.trans (bb.mono ba.size)).trans (bc.mono (Nat.le_trans ba.size bb.size))
  clear ba bb bc
  go_wp2_with fail
  refine (HSA.out _).mono ?_
  rintro e wd ⟨rfl, bd⟩
  have b1 : Below w.heap.size w wd := (b0.alloc b0.size _).trans (bd.mono (by simp; have := b0.size; omega))
  clear bd b0
  go_wp2_with fail
  refine (HV.out _).mono ?_
  rintro e w' ⟨rfl, o, rfl⟩
  go_wp2_with fail
  go_ret
  exact ⟨ret_bool (by simp), b1.alloc b1.size _⟩
end Psg
end Go.Proofs.Ytjggocbihjdekaa
