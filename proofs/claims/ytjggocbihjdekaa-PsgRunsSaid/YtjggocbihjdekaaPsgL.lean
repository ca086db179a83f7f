/- A chip of three tones and a noise (layer 5): what the program's functions do, part 21. No conditions but that numbers are of their kinds. -/
import Derived.Test.YtjggocbihjdekaaPsgX
import Derived.RegionTactic
import Derived.LoopTactic
import Derived.Deep.RegionHeld3
import Derived.Lib.Hide
namespace Go.Proofs.Ytjggocbihjdekaa
open Go.RowKit
open Kit
set_option linter.unusedSimpArgs false
set_option linter.unusedVariables false
attribute [local simp] blkAt_alloc blkNew_cells putRow_cells blkAt_drew BlkN.set BlkOne.setInt BlkOne.setBool blkPut_alloc blkPut_drew blkAt_blkPut_other size_blkPut nq2 nq3 nq4 nq5 nq6 nq7 nq8
namespace Psg
attribute [local simp ↓] sl_in ss_in vs_in
attribute [local simp] sl_run ss_run vs_run
theorem upd_keep9 (g f : Nat → Int) (v : Int) (h10 : g 10 = f 10) (h11 : g 11 = f 11) : upd (upd (upd (upd g 9 (v % 8)) 10 (f 10)) 11 (f 11)) 12 32768 = upd (upd g 9 (v % 8)) 12 32768 := by
  funext j
  unfold upd
  by_cases e12 : j = 12
  · simp [e12]
  · by_cases e11 : j = 11
    · simp [e11, h11]
    · by_cases e10 : j = 10
      · simp [e10, h10]
      · simp [e12, e11, e10]
set_option maxRecDepth 100000 in
set_option maxHeartbeats 4000000 in
theorem rwrite_h0 (f : Nat → Int) (h : SB f) (hp : ∀ k, k < 3 → 0 ≤ f (3 * k) ∧ f (3 * k) < 1024) (v : Int) (v0 : 0 ≤ v) (v1 : v < 256) (hv : 128 ≤ v) (hl : v / 16 % 8 = 0) (w : World) : Calls Try.prog 16 #[.agg (S f), .int .u8 v] w fun e w' => e = .returned (.agg (S (upd (upd f 17 0) 0 (f 0 / 16 * 16 + v % 16)))) ∧ Below w.heap.size w w' := by
  have c0 := S_get f 0 (by omega)
  change (S f)[0]? = some (.int .i64 (f 0)) at c0
  have c1 := S_get f 1 (by omega)
  change (S f)[1]? = some (.int .i64 (f 1)) at c1
  have c2 := S_get f 2 (by omega)
  change (S f)[2]? = some (.bool (f 2 == 1)) at c2
  have c3 := S_get f 3 (by omega)
  change (S f)[3]? = some (.int .i64 (f 3)) at c3
  have c4 := S_get f 4 (by omega)
  change (S f)[4]? = some (.int .i64 (f 4)) at c4
  have c5 := S_get f 5 (by omega)
  change (S f)[5]? = some (.bool (f 5 == 1)) at c5
  have c6 := S_get f 6 (by omega)
  change (S f)[6]? = some (.int .i64 (f 6)) at c6
  have c7 := S_get f 7 (by omega)
  change (S f)[7]? = some (.int .i64 (f 7)) at c7
  have c8 := S_get f 8 (by omega)
  change (S f)[8]? = some (.bool (f 8 == 1)) at c8
  have c9 := S_get f 9 (by omega)
  change (S f)[9]? = some (.int .u8 (f 9)) at c9
  have c10 := S_get f 10 (by omega)
  change (S f)[10]? = some (.int .i64 (f 10)) at c10
  have c11 := S_get f 11 (by omega)
  change (S f)[11]? = some (.bool (f 11 == 1)) at c11
  have c12 := S_get f 12 (by omega)
  change (S f)[12]? = some (.int .u16 (f 12)) at c12
  have c13 := S_get f 13 (by omega)
  change (S f)[13]? = some (.int .u8 (f 13)) at c13
  have c14 := S_get f 14 (by omega)
  change (S f)[14]? = some (.int .u8 (f 14)) at c14
  have c15 := S_get f 15 (by omega)
  change (S f)[15]? = some (.int .u8 (f 15)) at c15
  have c16 := S_get f 16 (by omega)
  change (S f)[16]? = some (.int .u8 (f 16)) at c16
  have c17 := S_get f 17 (by omega)
  change (S f)[17]? = some (.int .u8 (f 17)) at c17
  have sA : BlkN (S f) 18 := S_size _
  have oA : BlkOne (S f) := S_one _
  have zn := zN
  unfold Z18 at zn
  have hs17 : ∀ x, ((S f).setIfInBounds 17 x)[17]? = some x := fun x => by rw [Array.getElem?_setIfInBounds]; simp [S_size]
  have o2 : ∀ (k1 k2 : Nat) (i1 i2 : IntKind) (x y : Int), BlkOne (((S f).setIfInBounds k1 (.int i1 x)).setIfInBounds k2 (.int i2 y)) := fun _ _ _ _ _ _ => (oA.setInt _ _ _).setInt _ _ _
  have o3 : ∀ (k1 k2 k3 : Nat) (i1 i2 i3 : IntKind) (x y z : Int), BlkOne ((((S f).setIfInBounds k1 (.int i1 x)).setIfInBounds k2 (.int i2 y)).setIfInBounds k3 (.int i3 z)) := fun _ _ _ _ _ _ _ _ _ => ((oA.setInt _ _ _).setInt _ _ _).setInt _ _ _
  have pp := hp 0 (by omega)
  simp only [Nat.reduceMul] at pp
  have hk : ∀ x, ((S f).setIfInBounds 17 x)[0]? = some (.int .i64 (f 0)) := fun x => by rw [Array.getElem?_setIfInBounds]; simp [c0]
  have pa : 0 ≤ f 0 := pp.1
  have pb : f 0 < 1024 := pp.2
  clear pp
  generalize hA : S f = A at *
  have HA := Lib.hid hA
  clear hA
  have HH := Lib.hid h
  clear h hp
  go_enter Try.func16, Try.ntmps16
  go_wp2_with fail
  exact bodyPost_ret (v := .agg _) (results_cell_row rfl _ _ (w.heap.size + 1) 30 _ (0, 0) _ rfl (by repeat (first | (refine heap_at _ _ _ ?_; first | (simp; done) | (simp; omega; done)) | (refine (heap_past _ _ _ ?_).trans ?_; focus (first | (simp; done) | (simp; omega; done))) | (refine (heap_drew _ _).trans ?_))) Try.underlying30 rfl (iS (by first | exact sA | (simp only [BlkN.set]; exact sA)))) rfl ⟨by rw [← HA.out]; rw [S_set f 17 0 _ (sv8 _ _ _ (by omega) (by omega)), S_set _ 0 (f 0 / 16 * 16 + v % 16) _ (sv64 _ _ _ (by omega))], by go_grown⟩
set_option maxRecDepth 100000 in
set_option maxHeartbeats 4000000 in
theorem rwrite_h1 (f : Nat → Int) (h : SB f) (hp : ∀ k, k < 3 → 0 ≤ f (3 * k) ∧ f (3 * k) < 1024) (v : Int) (v0 : 0 ≤ v) (v1 : v < 256) (hv : 128 ≤ v) (hl : v / 16 % 8 = 1) (w : World) : Calls Try.prog 16 #[.agg (S f), .int .u8 v] w fun e w' => e = .returned (.agg (S (upd (upd f 17 1) 13 (v % 16)))) ∧ Below w.heap.size w w' := by
  have c0 := S_get f 0 (by omega)
  change (S f)[0]? = some (.int .i64 (f 0)) at c0
  have c1 := S_get f 1 (by omega)
  change (S f)[1]? = some (.int .i64 (f 1)) at c1
  have c2 := S_get f 2 (by omega)
  change (S f)[2]? = some (.bool (f 2 == 1)) at c2
  have c3 := S_get f 3 (by omega)
  change (S f)[3]? = some (.int .i64 (f 3)) at c3
  have c4 := S_get f 4 (by omega)
  change (S f)[4]? = some (.int .i64 (f 4)) at c4
  have c5 := S_get f 5 (by omega)
  change (S f)[5]? = some (.bool (f 5 == 1)) at c5
  have c6 := S_get f 6 (by omega)
  change (S f)[6]? = some (.int .i64 (f 6)) at c6
  have c7 := S_get f 7 (by omega)
  change (S f)[7]? = some (.int .i64 (f 7)) at c7
  have c8 := S_get f 8 (by omega)
  change (S f)[8]? = some (.bool (f 8 == 1)) at c8
  have c9 := S_get f 9 (by omega)
  change (S f)[9]? = some (.int .u8 (f 9)) at c9
  have c10 := S_get f 10 (by omega)
  change (S f)[10]? = some (.int .i64 (f 10)) at c10
  have c11 := S_get f 11 (by omega)
  change (S f)[11]? = some (.bool (f 11 == 1)) at c11
  have c12 := S_get f 12 (by omega)
  change (S f)[12]? = some (.int .u16 (f 12)) at c12
  have c13 := S_get f 13 (by omega)
  change (S f)[13]? = some (.int .u8 (f 13)) at c13
  have c14 := S_get f 14 (by omega)
  change (S f)[14]? = some (.int .u8 (f 14)) at c14
  have c15 := S_get f 15 (by omega)
  change (S f)[15]? = some (.int .u8 (f 15)) at c15
  have c16 := S_get f 16 (by omega)
  change (S f)[16]? = some (.int .u8 (f 16)) at c16
  have c17 := S_get f 17 (by omega)
  change (S f)[17]? = some (.int .u8 (f 17)) at c17
  have sA : BlkN (S f) 18 := S_size _
  have oA : BlkOne (S f) := S_one _
  have zn := zN
  unfold Z18 at zn
  have hs17 : ∀ x, ((S f).setIfInBounds 17 x)[17]? = some x := fun x => by rw [Array.getElem?_setIfInBounds]; simp [S_size]
  have o2 : ∀ (k1 k2 : Nat) (i1 i2 : IntKind) (x y : Int), BlkOne (((S f).setIfInBounds k1 (.int i1 x)).setIfInBounds k2 (.int i2 y)) := fun _ _ _ _ _ _ => (oA.setInt _ _ _).setInt _ _ _
  have o3 : ∀ (k1 k2 k3 : Nat) (i1 i2 i3 : IntKind) (x y z : Int), BlkOne ((((S f).setIfInBounds k1 (.int i1 x)).setIfInBounds k2 (.int i2 y)).setIfInBounds k3 (.int i3 z)) := fun _ _ _ _ _ _ _ _ _ => ((oA.setInt _ _ _).setInt _ _ _).setInt _ _ _
  generalize hA : S f = A at *
  have HA := Lib.hid hA
  clear hA
  have HH := Lib.hid h
  clear h hp
  go_enter Try.func16, Try.ntmps16
  go_wp2_with fail
  exact bodyPost_ret (v := .agg _) (results_cell_row rfl _ _ (w.heap.size + 1) 30 _ (0, 0) _ rfl (by repeat (first | (refine heap_at _ _ _ ?_; first | (simp; done) | (simp; omega; done)) | (refine (heap_past _ _ _ ?_).trans ?_; focus (first | (simp; done) | (simp; omega; done))) | (refine (heap_drew _ _).trans ?_))) Try.underlying30 rfl (iS (by first | exact sA | (simp only [BlkN.set]; exact sA)))) rfl ⟨by rw [← HA.out]; rw [S_set f 17 1 _ (sv8 _ _ _ (by omega) (by omega)), S_set _ 13 (v % 16) _ (sv8 _ _ _ (by omega) (by omega))], by go_grown⟩
set_option maxRecDepth 100000 in
set_option maxHeartbeats 4000000 in
theorem rwrite_h2 (f : Nat → Int) (h : SB f) (hp : ∀ k, k < 3 → 0 ≤ f (3 * k) ∧ f (3 * k) < 1024) (v : Int) (v0 : 0 ≤ v) (v1 : v < 256) (hv : 128 ≤ v) (hl : v / 16 % 8 = 2) (w : World) : Calls Try.prog 16 #[.agg (S f), .int .u8 v] w fun e w' => e = .returned (.agg (S (upd (upd f 17 2) 3 (f 3 / 16 * 16 + v % 16)))) ∧ Below w.heap.size w w' := by
  have c0 := S_get f 0 (by omega)
  change (S f)[0]? = some (.int .i64 (f 0)) at c0
  have c1 := S_get f 1 (by omega)
  change (S f)[1]? = some (.int .i64 (f 1)) at c1
  have c2 := S_get f 2 (by omega)
  change (S f)[2]? = some (.bool (f 2 == 1)) at c2
  have c3 := S_get f 3 (by omega)
  change (S f)[3]? = some (.int .i64 (f 3)) at c3
  have c4 := S_get f 4 (by omega)
  change (S f)[4]? = some (.int .i64 (f 4)) at c4
  have c5 := S_get f 5 (by omega)
  change (S f)[5]? = some (.bool (f 5 == 1)) at c5
  have c6 := S_get f 6 (by omega)
  change (S f)[6]? = some (.int .i64 (f 6)) at c6
  have c7 := S_get f 7 (by omega)
  change (S f)[7]? = some (.int .i64 (f 7)) at c7
  have c8 := S_get f 8 (by omega)
  change (S f)[8]? = some (.bool (f 8 == 1)) at c8
  have c9 := S_get f 9 (by omega)
  change (S f)[9]? = some (.int .u8 (f 9)) at c9
  have c10 := S_get f 10 (by omega)
  change (S f)[10]? = some (.int .i64 (f 10)) at c10
  have c11 := S_get f 11 (by omega)
  change (S f)[11]? = some (.bool (f 11 == 1)) at c11
  have c12 := S_get f 12 (by omega)
  change (S f)[12]? = some (.int .u16 (f 12)) at c12
  have c13 := S_get f 13 (by omega)
  change (S f)[13]? = some (.int .u8 (f 13)) at c13
  have c14 := S_get f 14 (by omega)
  change (S f)[14]? = some (.int .u8 (f 14)) at c14
  have c15 := S_get f 15 (by omega)
  change (S f)[15]? = some (.int .u8 (f 15)) at c15
  have c16 := S_get f 16 (by omega)
  change (S f)[16]? = some (.int .u8 (f 16)) at c16
  have c17 := S_get f 17 (by omega)
  change (S f)[17]? = some (.int .u8 (f 17)) at c17
  have sA : BlkN (S f) 18 := S_size _
  have oA : BlkOne (S f) := S_one _
  have zn := zN
  unfold Z18 at zn
  have hs17 : ∀ x, ((S f).setIfInBounds 17 x)[17]? = some x := fun x => by rw [Array.getElem?_setIfInBounds]; simp [S_size]
  have o2 : ∀ (k1 k2 : Nat) (i1 i2 : IntKind) (x y : Int), BlkOne (((S f).setIfInBounds k1 (.int i1 x)).setIfInBounds k2 (.int i2 y)) := fun _ _ _ _ _ _ => (oA.setInt _ _ _).setInt _ _ _
  have o3 : ∀ (k1 k2 k3 : Nat) (i1 i2 i3 : IntKind) (x y z : Int), BlkOne ((((S f).setIfInBounds k1 (.int i1 x)).setIfInBounds k2 (.int i2 y)).setIfInBounds k3 (.int i3 z)) := fun _ _ _ _ _ _ _ _ _ => ((oA.setInt _ _ _).setInt _ _ _).setInt _ _ _
  have pp := hp 1 (by omega)
  simp only [Nat.reduceMul] at pp
  have hk : ∀ x, ((S f).setIfInBounds 17 x)[3]? = some (.int .i64 (f 3)) := fun x => by rw [Array.getElem?_setIfInBounds]; simp [c3]
  have pa : 0 ≤ f 3 := pp.1
  have pb : f 3 < 1024 := pp.2
  clear pp
  generalize hA : S f = A at *
  have HA := Lib.hid hA
  clear hA
  have HH := Lib.hid h
  clear h hp
  go_enter Try.func16, Try.ntmps16
  go_wp2_with fail
  exact bodyPost_ret (v := .agg _) (results_cell_row rfl _ _ (w.heap.size + 1) 30 _ (0, 0) _ rfl (by repeat (first | (refine heap_at _ _ _ ?_; first | (simp; done) | (simp; omega; done)) | (refine (heap_past _ _ _ ?_).trans ?_; focus (first | (simp; done) | (simp; omega; done))) | (refine (heap_drew _ _).trans ?_))) Try.underlying30 rfl (iS (by first | exact sA | (simp only [BlkN.set]; exact sA)))) rfl ⟨by rw [← HA.out]; rw [S_set f 17 2 _ (sv8 _ _ _ (by omega) (by omega)), S_set _ 3 (f 3 / 16 * 16 + v % 16) _ (sv64 _ _ _ (by omega))], by go_grown⟩
set_option maxRecDepth 100000 in
set_option maxHeartbeats 4000000 in
theorem rwrite_h3 (f : Nat → Int) (h : SB f) (hp : ∀ k, k < 3 → 0 ≤ f (3 * k) ∧ f (3 * k) < 1024) (v : Int) (v0 : 0 ≤ v) (v1 : v < 256) (hv : 128 ≤ v) (hl : v / 16 % 8 = 3) (w : World) : Calls Try.prog 16 #[.agg (S f), .int .u8 v] w fun e w' => e = .returned (.agg (S (upd (upd f 17 3) 14 (v % 16)))) ∧ Below w.heap.size w w' := by
  have c0 := S_get f 0 (by omega)
  change (S f)[0]? = some (.int .i64 (f 0)) at c0
  have c1 := S_get f 1 (by omega)
  change (S f)[1]? = some (.int .i64 (f 1)) at c1
  have c2 := S_get f 2 (by omega)
  change (S f)[2]? = some (.bool (f 2 == 1)) at c2
  have c3 := S_get f 3 (by omega)
  change (S f)[3]? = some (.int .i64 (f 3)) at c3
  have c4 := S_get f 4 (by omega)
  change (S f)[4]? = some (.int .i64 (f 4)) at c4
  have c5 := S_get f 5 (by omega)
  change (S f)[5]? = some (.bool (f 5 == 1)) at c5
  have c6 := S_get f 6 (by omega)
  change (S f)[6]? = some (.int .i64 (f 6)) at c6
  have c7 := S_get f 7 (by omega)
  change (S f)[7]? = some (.int .i64 (f 7)) at c7
  have c8 := S_get f 8 (by omega)
  change (S f)[8]? = some (.bool (f 8 == 1)) at c8
  have c9 := S_get f 9 (by omega)
  change (S f)[9]? = some (.int .u8 (f 9)) at c9
  have c10 := S_get f 10 (by omega)
  change (S f)[10]? = some (.int .i64 (f 10)) at c10
  have c11 := S_get f 11 (by omega)
  change (S f)[11]? = some (.bool (f 11 == 1)) at c11
  have c12 := S_get f 12 (by omega)
  change (S f)[12]? = some (.int .u16 (f 12)) at c12
  have c13 := S_get f 13 (by omega)
  change (S f)[13]? = some (.int .u8 (f 13)) at c13
  have c14 := S_get f 14 (by omega)
  change (S f)[14]? = some (.int .u8 (f 14)) at c14
  have c15 := S_get f 15 (by omega)
  change (S f)[15]? = some (.int .u8 (f 15)) at c15
  have c16 := S_get f 16 (by omega)
  change (S f)[16]? = some (.int .u8 (f 16)) at c16
  have c17 := S_get f 17 (by omega)
  change (S f)[17]? = some (.int .u8 (f 17)) at c17
  have sA : BlkN (S f) 18 := S_size _
  have oA : BlkOne (S f) := S_one _
  have zn := zN
  unfold Z18 at zn
  have hs17 : ∀ x, ((S f).setIfInBounds 17 x)[17]? = some x := fun x => by rw [Array.getElem?_setIfInBounds]; simp [S_size]
  have o2 : ∀ (k1 k2 : Nat) (i1 i2 : IntKind) (x y : Int), BlkOne (((S f).setIfInBounds k1 (.int i1 x)).setIfInBounds k2 (.int i2 y)) := fun _ _ _ _ _ _ => (oA.setInt _ _ _).setInt _ _ _
  have o3 : ∀ (k1 k2 k3 : Nat) (i1 i2 i3 : IntKind) (x y z : Int), BlkOne ((((S f).setIfInBounds k1 (.int i1 x)).setIfInBounds k2 (.int i2 y)).setIfInBounds k3 (.int i3 z)) := fun _ _ _ _ _ _ _ _ _ => ((oA.setInt _ _ _).setInt _ _ _).setInt _ _ _
  generalize hA : S f = A at *
  have HA := Lib.hid hA
  clear hA
  have HH := Lib.hid h
  clear h hp
  go_enter Try.func16, Try.ntmps16
  go_wp2_with fail
  exact bodyPost_ret (v := .agg _) (results_cell_row rfl _ _ (w.heap.size + 1) 30 _ (0, 0) _ rfl (by repeat (first | (refine heap_at _ _ _ ?_; first | (simp; done) | (simp; omega; done)) | (refine (heap_past _ _ _ ?_).trans ?_; focus (first | (simp; done) | (simp; omega; done))) | (refine (heap_drew _ _).trans ?_))) Try.underlying30 rfl (iS (by first | exact sA | (simp only [BlkN.set]; exact sA)))) rfl ⟨by rw [← HA.out]; rw [S_set f 17 3 _ (sv8 _ _ _ (by omega) (by omega)), S_set _ 14 (v % 16) _ (sv8 _ _ _ (by omega) (by omega))], by go_grown⟩
set_option maxRecDepth 100000 in
set_option maxHeartbeats 4000000 in
theorem rwrite_h4 (f : Nat → Int) (h : SB f) (hp : ∀ k, k < 3 → 0 ≤ f (3 * k) ∧ f (3 * k) < 1024) (v : Int) (v0 : 0 ≤ v) (v1 : v < 256) (hv : 128 ≤ v) (hl : v / 16 % 8 = 4) (w : World) : Calls Try.prog 16 #[.agg (S f), .int .u8 v] w fun e w' => e = .returned (.agg (S (upd (upd f 17 4) 6 (f 6 / 16 * 16 + v % 16)))) ∧ Below w.heap.size w w' := by
  have c0 := S_get f 0 (by omega)
  change (S f)[0]? = some (.int .i64 (f 0)) at c0
  have c1 := S_get f 1 (by omega)
  change (S f)[1]? = some (.int .i64 (f 1)) at c1
  have c2 := S_get f 2 (by omega)
  change (S f)[2]? = some (.bool (f 2 == 1)) at c2
  have c3 := S_get f 3 (by omega)
  change (S f)[3]? = some (.int .i64 (f 3)) at c3
  have c4 := S_get f 4 (by omega)
  change (S f)[4]? = some (.int .i64 (f 4)) at c4
  have c5 := S_get f 5 (by omega)
  change (S f)[5]? = some (.bool (f 5 == 1)) at c5
  have c6 := S_get f 6 (by omega)
  change (S f)[6]? = some (.int .i64 (f 6)) at c6
  have c7 := S_get f 7 (by omega)
  change (S f)[7]? = some (.int .i64 (f 7)) at c7
  have c8 := S_get f 8 (by omega)
  change (S f)[8]? = some (.bool (f 8 == 1)) at c8
  have c9 := S_get f 9 (by omega)
  change (S f)[9]? = some (.int .u8 (f 9)) at c9
  have c10 := S_get f 10 (by omega)
  change (S f)[10]? = some (.int .i64 (f 10)) at c10
  have c11 := S_get f 11 (by omega)
  change (S f)[11]? = some (.bool (f 11 == 1)) at c11
  have c12 := S_get f 12 (by omega)
  change (S f)[12]? = some (.int .u16 (f 12)) at c12
  have c13 := S_get f 13 (by omega)
  change (S f)[13]? = some (.int .u8 (f 13)) at c13
  have c14 := S_get f 14 (by omega)
  change (S f)[14]? = some (.int .u8 (f 14)) at c14
  have c15 := S_get f 15 (by omega)
  change (S f)[15]? = some (.int .u8 (f 15)) at c15
  have c16 := S_get f 16 (by omega)
  change (S f)[16]? = some (.int .u8 (f 16)) at c16
  have c17 := S_get f 17 (by omega)
  change (S f)[17]? = some (.int .u8 (f 17)) at c17
  have sA : BlkN (S f) 18 := S_size _
  have oA : BlkOne (S f) := S_one _
  have zn := zN
  unfold Z18 at zn
  have hs17 : ∀ x, ((S f).setIfInBounds 17 x)[17]? = some x := fun x => by rw [Array.getElem?_setIfInBounds]; simp [S_size]
  have o2 : ∀ (k1 k2 : Nat) (i1 i2 : IntKind) (x y : Int), BlkOne (((S f).setIfInBounds k1 (.int i1 x)).setIfInBounds k2 (.int i2 y)) := fun _ _ _ _ _ _ => (oA.setInt _ _ _).setInt _ _ _
  have o3 : ∀ (k1 k2 k3 : Nat) (i1 i2 i3 : IntKind) (x y z : Int), BlkOne ((((S f).setIfInBounds k1 (.int i1 x)).setIfInBounds k2 (.int i2 y)).setIfInBounds k3 (.int i3 z)) := fun _ _ _ _ _ _ _ _ _ => ((oA.setInt _ _ _).setInt _ _ _).setInt _ _ _
  have pp := hp 2 (by omega)
  simp only [Nat.reduceMul] at pp
  have hk : ∀ x, ((S f).setIfInBounds 17 x)[6]? = some (.int .i64 (f 6)) := fun x => by rw [Array.getElem?_setIfInBounds]; simp [c6]
  have pa : 0 ≤ f 6 := pp.1
  have pb : f 6 < 1024 := pp.2
  clear pp
  generalize hA : S f = A at *
  have HA := Lib.hid hA
  clear hA
  have HH := Lib.hid h
  clear h hp
  go_enter Try.func16, Try.ntmps16
  go_wp2_with fail
  exact bodyPost_ret (v := .agg _) (results_cell_row rfl _ _ (w.heap.size + 1) 30 _ (0, 0) _ rfl (by repeat (first | (refine heap_at _ _ _ ?_; first | (simp; done) | (simp; omega; done)) | (refine (heap_past _ _ _ ?_).trans ?_; focus (first | (simp; done) | (simp; omega; done))) | (refine (heap_drew _ _).trans ?_))) Try.underlying30 rfl (iS (by first | exact sA | (simp only [BlkN.set]; exact sA)))) rfl ⟨by rw [← HA.out]; rw [S_set f 17 4 _ (sv8 _ _ _ (by omega) (by omega)), S_set _ 6 (f 6 / 16 * 16 + v % 16) _ (sv64 _ _ _ (by omega))], by go_grown⟩
set_option maxRecDepth 100000 in
set_option maxHeartbeats 4000000 in
theorem rwrite_h5 (f : Nat → Int) (h : SB f) (hp : ∀ k, k < 3 → 0 ≤ f (3 * k) ∧ f (3 * k) < 1024) (v : Int) (v0 : 0 ≤ v) (v1 : v < 256) (hv : 128 ≤ v) (hl : v / 16 % 8 = 5) (w : World) : Calls Try.prog 16 #[.agg (S f), .int .u8 v] w fun e w' => e = .returned (.agg (S (upd (upd f 17 5) 15 (v % 16)))) ∧ Below w.heap.size w w' := by
  have c0 := S_get f 0 (by omega)
  change (S f)[0]? = some (.int .i64 (f 0)) at c0
  have c1 := S_get f 1 (by omega)
  change (S f)[1]? = some (.int .i64 (f 1)) at c1
  have c2 := S_get f 2 (by omega)
  change (S f)[2]? = some (.bool (f 2 == 1)) at c2
  have c3 := S_get f 3 (by omega)
  change (S f)[3]? = some (.int .i64 (f 3)) at c3
  have c4 := S_get f 4 (by omega)
  change (S f)[4]? = some (.int .i64 (f 4)) at c4
  have c5 := S_get f 5 (by omega)
  change (S f)[5]? = some (.bool (f 5 == 1)) at c5
  have c6 := S_get f 6 (by omega)
  change (S f)[6]? = some (.int .i64 (f 6)) at c6
  have c7 := S_get f 7 (by omega)
  change (S f)[7]? = some (.int .i64 (f 7)) at c7
  have c8 := S_get f 8 (by omega)
  change (S f)[8]? = some (.bool (f 8 == 1)) at c8
  have c9 := S_get f 9 (by omega)
  change (S f)[9]? = some (.int .u8 (f 9)) at c9
  have c10 := S_get f 10 (by omega)
  change (S f)[10]? = some (.int .i64 (f 10)) at c10
  have c11 := S_get f 11 (by omega)
  change (S f)[11]? = some (.bool (f 11 == 1)) at c11
  have c12 := S_get f 12 (by omega)
  change (S f)[12]? = some (.int .u16 (f 12)) at c12
  have c13 := S_get f 13 (by omega)
  change (S f)[13]? = some (.int .u8 (f 13)) at c13
  have c14 := S_get f 14 (by omega)
  change (S f)[14]? = some (.int .u8 (f 14)) at c14
  have c15 := S_get f 15 (by omega)
  change (S f)[15]? = some (.int .u8 (f 15)) at c15
  have c16 := S_get f 16 (by omega)
  change (S f)[16]? = some (.int .u8 (f 16)) at c16
  have c17 := S_get f 17 (by omega)
  change (S f)[17]? = some (.int .u8 (f 17)) at c17
  have sA : BlkN (S f) 18 := S_size _
  have oA : BlkOne (S f) := S_one _
  have zn := zN
  unfold Z18 at zn
  have hs17 : ∀ x, ((S f).setIfInBounds 17 x)[17]? = some x := fun x => by rw [Array.getElem?_setIfInBounds]; simp [S_size]
  have o2 : ∀ (k1 k2 : Nat) (i1 i2 : IntKind) (x y : Int), BlkOne (((S f).setIfInBounds k1 (.int i1 x)).setIfInBounds k2 (.int i2 y)) := fun _ _ _ _ _ _ => (oA.setInt _ _ _).setInt _ _ _
  have o3 : ∀ (k1 k2 k3 : Nat) (i1 i2 i3 : IntKind) (x y z : Int), BlkOne ((((S f).setIfInBounds k1 (.int i1 x)).setIfInBounds k2 (.int i2 y)).setIfInBounds k3 (.int i3 z)) := fun _ _ _ _ _ _ _ _ _ => ((oA.setInt _ _ _).setInt _ _ _).setInt _ _ _
  generalize hA : S f = A at *
  have HA := Lib.hid hA
  clear hA
  have HH := Lib.hid h
  clear h hp
  go_enter Try.func16, Try.ntmps16
  go_wp2_with fail
  exact bodyPost_ret (v := .agg _) (results_cell_row rfl _ _ (w.heap.size + 1) 30 _ (0, 0) _ rfl (by repeat (first | (refine heap_at _ _ _ ?_; first | (simp; done) | (simp; omega; done)) | (refine (heap_past _ _ _ ?_).trans ?_; focus (first | (simp; done) | (simp; omega; done))) | (refine (heap_drew _ _).trans ?_))) Try.underlying30 rfl (iS (by first | exact sA | (simp only [BlkN.set]; exact sA)))) rfl ⟨by rw [← HA.out]; rw [S_set f 17 5 _ (sv8 _ _ _ (by omega) (by omega)), S_set _ 15 (v % 16) _ (sv8 _ _ _ (by omega) (by omega))], by go_grown⟩
set_option maxRecDepth 100000 in
set_option maxHeartbeats 4000000 in
theorem rwrite_h6 (f : Nat → Int) (h : SB f) (hp : ∀ k, k < 3 → 0 ≤ f (3 * k) ∧ f (3 * k) < 1024) (v : Int) (v0 : 0 ≤ v) (v1 : v < 256) (hv : 128 ≤ v) (hl : v / 16 % 8 = 6) (w : World) : Calls Try.prog 16 #[.agg (S f), .int .u8 v] w fun e w' => e = .returned (.agg (S (upd (upd (upd (upd (upd f 17 6) 9 (v % 8)) 10 (f 10)) 11 (f 11)) 12 32768))) ∧ Below w.heap.size w w' := by
  have c0 := S_get f 0 (by omega)
  change (S f)[0]? = some (.int .i64 (f 0)) at c0
  have c1 := S_get f 1 (by omega)
  change (S f)[1]? = some (.int .i64 (f 1)) at c1
  have c2 := S_get f 2 (by omega)
  change (S f)[2]? = some (.bool (f 2 == 1)) at c2
  have c3 := S_get f 3 (by omega)
  change (S f)[3]? = some (.int .i64 (f 3)) at c3
  have c4 := S_get f 4 (by omega)
  change (S f)[4]? = some (.int .i64 (f 4)) at c4
  have c5 := S_get f 5 (by omega)
  change (S f)[5]? = some (.bool (f 5 == 1)) at c5
  have c6 := S_get f 6 (by omega)
  change (S f)[6]? = some (.int .i64 (f 6)) at c6
  have c7 := S_get f 7 (by omega)
  change (S f)[7]? = some (.int .i64 (f 7)) at c7
  have c8 := S_get f 8 (by omega)
  change (S f)[8]? = some (.bool (f 8 == 1)) at c8
  have c9 := S_get f 9 (by omega)
  change (S f)[9]? = some (.int .u8 (f 9)) at c9
  have c10 := S_get f 10 (by omega)
  change (S f)[10]? = some (.int .i64 (f 10)) at c10
  have c11 := S_get f 11 (by omega)
  change (S f)[11]? = some (.bool (f 11 == 1)) at c11
  have c12 := S_get f 12 (by omega)
  change (S f)[12]? = some (.int .u16 (f 12)) at c12
  have c13 := S_get f 13 (by omega)
  change (S f)[13]? = some (.int .u8 (f 13)) at c13
  have c14 := S_get f 14 (by omega)
  change (S f)[14]? = some (.int .u8 (f 14)) at c14
  have c15 := S_get f 15 (by omega)
  change (S f)[15]? = some (.int .u8 (f 15)) at c15
  have c16 := S_get f 16 (by omega)
  change (S f)[16]? = some (.int .u8 (f 16)) at c16
  have c17 := S_get f 17 (by omega)
  change (S f)[17]? = some (.int .u8 (f 17)) at c17
  have sA : BlkN (S f) 18 := S_size _
  have oA : BlkOne (S f) := S_one _
  have zn := zN
  unfold Z18 at zn
  have hs17 : ∀ x, ((S f).setIfInBounds 17 x)[17]? = some x := fun x => by rw [Array.getElem?_setIfInBounds]; simp [S_size]
  have o2 : ∀ (k1 k2 : Nat) (i1 i2 : IntKind) (x y : Int), BlkOne (((S f).setIfInBounds k1 (.int i1 x)).setIfInBounds k2 (.int i2 y)) := fun _ _ _ _ _ _ => (oA.setInt _ _ _).setInt _ _ _
  have o3 : ∀ (k1 k2 k3 : Nat) (i1 i2 i3 : IntKind) (x y z : Int), BlkOne ((((S f).setIfInBounds k1 (.int i1 x)).setIfInBounds k2 (.int i2 y)).setIfInBounds k3 (.int i3 z)) := fun _ _ _ _ _ _ _ _ _ => ((oA.setInt _ _ _).setInt _ _ _).setInt _ _ _
  generalize hA : S f = A at *
  have HA := Lib.hid hA
  clear hA
  have HH := Lib.hid h
  clear h hp
  go_enter Try.func16, Try.ntmps16
  go_wp2_with fail
  exact bodyPost_ret (v := .agg _) (results_cell_row rfl _ _ (w.heap.size + 1) 30 _ (0, 0) _ rfl (by repeat (first | (refine heap_at _ _ _ ?_; first | (simp; done) | (simp; omega; done)) | (refine (heap_past _ _ _ ?_).trans ?_; focus (first | (simp; done) | (simp; omega; done))) | (refine (heap_drew _ _).trans ?_))) Try.underlying30 rfl (iS (by first | exact sA | (simp only [BlkN.set]; exact sA)))) rfl ⟨by rw [← HA.out]; rw [upd_keep9 (upd f 17 6) f v rfl rfl]; rw [S_set f 17 6 _ (sv8 _ _ _ (by omega) (by omega)), S_set _ 9 (v % 8) _ (sv8 _ _ _ (by omega) (by omega)), S_set _ 12 32768 _ (sv16 _ _)], by go_grown⟩
set_option maxRecDepth 100000 in
set_option maxHeartbeats 4000000 in
theorem rwrite_h7 (f : Nat → Int) (h : SB f) (hp : ∀ k, k < 3 → 0 ≤ f (3 * k) ∧ f (3 * k) < 1024) (v : Int) (v0 : 0 ≤ v) (v1 : v < 256) (hv : 128 ≤ v) (hl : v / 16 % 8 = 7) (w : World) : Calls Try.prog 16 #[.agg (S f), .int .u8 v] w fun e w' => e = .returned (.agg (S (upd (upd f 17 7) 16 (v % 16)))) ∧ Below w.heap.size w w' := by
  have c0 := S_get f 0 (by omega)
  change (S f)[0]? = some (.int .i64 (f 0)) at c0
  have c1 := S_get f 1 (by omega)
  change (S f)[1]? = some (.int .i64 (f 1)) at c1
  have c2 := S_get f 2 (by omega)
  change (S f)[2]? = some (.bool (f 2 == 1)) at c2
  have c3 := S_get f 3 (by omega)
  change (S f)[3]? = some (.int .i64 (f 3)) at c3
  have c4 := S_get f 4 (by omega)
  change (S f)[4]? = some (.int .i64 (f 4)) at c4
  have c5 := S_get f 5 (by omega)
  change (S f)[5]? = some (.bool (f 5 == 1)) at c5
  have c6 := S_get f 6 (by omega)
  change (S f)[6]? = some (.int .i64 (f 6)) at c6
  have c7 := S_get f 7 (by omega)
  change (S f)[7]? = some (.int .i64 (f 7)) at c7
  have c8 := S_get f 8 (by omega)
  change (S f)[8]? = some (.bool (f 8 == 1)) at c8
  have c9 := S_get f 9 (by omega)
  change (S f)[9]? = some (.int .u8 (f 9)) at c9
  have c10 := S_get f 10 (by omega)
  change (S f)[10]? = some (.int .i64 (f 10)) at c10
  have c11 := S_get f 11 (by omega)
  change (S f)[11]? = some (.bool (f 11 == 1)) at c11
  have c12 := S_get f 12 (by omega)
  change (S f)[12]? = some (.int .u16 (f 12)) at c12
  have c13 := S_get f 13 (by omega)
  change (S f)[13]? = some (.int .u8 (f 13)) at c13
  have c14 := S_get f 14 (by omega)
  change (S f)[14]? = some (.int .u8 (f 14)) at c14
  have c15 := S_get f 15 (by omega)
  change (S f)[15]? = some (.int .u8 (f 15)) at c15
  have c16 := S_get f 16 (by omega)
  change (S f)[16]? = some (.int .u8 (f 16)) at c16
  have c17 := S_get f 17 (by omega)
  change (S f)[17]? = some (.int .u8 (f 17)) at c17
  have sA : BlkN (S f) 18 := S_size _
  have oA : BlkOne (S f) := S_one _
  have zn := zN
  unfold Z18 at zn
  have hs17 : ∀ x, ((S f).setIfInBounds 17 x)[17]? = some x := fun x => by rw [Array.getElem?_setIfInBounds]; simp [S_size]
  have o2 : ∀ (k1 k2 : Nat) (i1 i2 : IntKind) (x y : Int), BlkOne (((S f).setIfInBounds k1 (.int i1 x)).setIfInBounds k2 (.int i2 y)) := fun _ _ _ _ _ _ => (oA.setInt _ _ _).setInt _ _ _
  have o3 : ∀ (k1 k2 k3 : Nat) (i1 i2 i3 : IntKind) (x y z : Int), BlkOne ((((S f).setIfInBounds k1 (.int i1 x)).setIfInBounds k2 (.int i2 y)).setIfInBounds k3 (.int i3 z)) := fun _ _ _ _ _ _ _ _ _ => ((oA.setInt _ _ _).setInt _ _ _).setInt _ _ _
  generalize hA : S f = A at *
  have HA := Lib.hid hA
  clear hA
  have HH := Lib.hid h
  clear h hp
  go_enter Try.func16, Try.ntmps16
  go_wp2_with fail
  exact bodyPost_ret (v := .agg _) (results_cell_row rfl _ _ (w.heap.size + 1) 30 _ (0, 0) _ rfl (by repeat (first | (refine heap_at _ _ _ ?_; first | (simp; done) | (simp; omega; done)) | (refine (heap_past _ _ _ ?_).trans ?_; focus (first | (simp; done) | (simp; omega; done))) | (refine (heap_drew _ _).trans ?_))) Try.underlying30 rfl (iS (by first | exact sA | (simp only [BlkN.set]; exact sA)))) rfl ⟨by rw [← HA.out]; rw [S_set f 17 7 _ (sv8 _ _ _ (by omega) (by omega)), S_set _ 16 (v % 16) _ (sv8 _ _ _ (by omega) (by omega))], by go_grown⟩
set_option maxRecDepth 100000 in
set_option maxHeartbeats 4000000 in
theorem rwrite_l0 (f : Nat → Int) (h : SB f) (hp : ∀ k, k < 3 → 0 ≤ f (3 * k) ∧ f (3 * k) < 1024) (v : Int) (v0 : 0 ≤ v) (v1 : v < 256) (hv : v < 128) (hl : f 17 = 0) (w : World) : Calls Try.prog 16 #[.agg (S f), .int .u8 v] w fun e w' => e = .returned (.agg (S (upd f 0 (f 0 % 16 + v % 64 * 16)))) ∧ Below w.heap.size w w' := by
  have c0 := S_get f 0 (by omega)
  change (S f)[0]? = some (.int .i64 (f 0)) at c0
  have c1 := S_get f 1 (by omega)
  change (S f)[1]? = some (.int .i64 (f 1)) at c1
  have c2 := S_get f 2 (by omega)
  change (S f)[2]? = some (.bool (f 2 == 1)) at c2
  have c3 := S_get f 3 (by omega)
  change (S f)[3]? = some (.int .i64 (f 3)) at c3
  have c4 := S_get f 4 (by omega)
  change (S f)[4]? = some (.int .i64 (f 4)) at c4
  have c5 := S_get f 5 (by omega)
  change (S f)[5]? = some (.bool (f 5 == 1)) at c5
  have c6 := S_get f 6 (by omega)
  change (S f)[6]? = some (.int .i64 (f 6)) at c6
  have c7 := S_get f 7 (by omega)
  change (S f)[7]? = some (.int .i64 (f 7)) at c7
  have c8 := S_get f 8 (by omega)
  change (S f)[8]? = some (.bool (f 8 == 1)) at c8
  have c9 := S_get f 9 (by omega)
  change (S f)[9]? = some (.int .u8 (f 9)) at c9
  have c10 := S_get f 10 (by omega)
  change (S f)[10]? = some (.int .i64 (f 10)) at c10
  have c11 := S_get f 11 (by omega)
  change (S f)[11]? = some (.bool (f 11 == 1)) at c11
  have c12 := S_get f 12 (by omega)
  change (S f)[12]? = some (.int .u16 (f 12)) at c12
  have c13 := S_get f 13 (by omega)
  change (S f)[13]? = some (.int .u8 (f 13)) at c13
  have c14 := S_get f 14 (by omega)
  change (S f)[14]? = some (.int .u8 (f 14)) at c14
  have c15 := S_get f 15 (by omega)
  change (S f)[15]? = some (.int .u8 (f 15)) at c15
  have c16 := S_get f 16 (by omega)
  change (S f)[16]? = some (.int .u8 (f 16)) at c16
  have c17 := S_get f 17 (by omega)
  change (S f)[17]? = some (.int .u8 (f 17)) at c17
  rw [hl] at c17
  have sA : BlkN (S f) 18 := S_size _
  have oA : BlkOne (S f) := S_one _
  have zn := zN
  unfold Z18 at zn
  have hs17 : ∀ x, ((S f).setIfInBounds 17 x)[17]? = some x := fun x => by rw [Array.getElem?_setIfInBounds]; simp [S_size]
  have o2 : ∀ (k1 k2 : Nat) (i1 i2 : IntKind) (x y : Int), BlkOne (((S f).setIfInBounds k1 (.int i1 x)).setIfInBounds k2 (.int i2 y)) := fun _ _ _ _ _ _ => (oA.setInt _ _ _).setInt _ _ _
  have o3 : ∀ (k1 k2 k3 : Nat) (i1 i2 i3 : IntKind) (x y z : Int), BlkOne ((((S f).setIfInBounds k1 (.int i1 x)).setIfInBounds k2 (.int i2 y)).setIfInBounds k3 (.int i3 z)) := fun _ _ _ _ _ _ _ _ _ => ((oA.setInt _ _ _).setInt _ _ _).setInt _ _ _
  have pp := hp 0 (by omega)
  simp only [Nat.reduceMul] at pp
  have pa : 0 ≤ f 0 := pp.1
  have pb : f 0 < 1024 := pp.2
  clear pp
  generalize hA : S f = A at *
  have HA := Lib.hid hA
  clear hA
  have HH := Lib.hid h
  clear h hp
  go_enter Try.func16, Try.ntmps16
  go_wp2_with fail
  exact bodyPost_ret (v := .agg _) (results_cell_row rfl _ _ (w.heap.size + 1) 30 _ (0, 0) _ rfl (by repeat (first | (refine heap_at _ _ _ ?_; first | (simp; done) | (simp; omega; done)) | (refine (heap_past _ _ _ ?_).trans ?_; focus (first | (simp; done) | (simp; omega; done))) | (refine (heap_drew _ _).trans ?_))) Try.underlying30 rfl (iS (by first | exact sA | (simp only [BlkN.set]; exact sA)))) rfl ⟨by rw [← HA.out]; rw [S_set _ 0 (f 0 % 16 + v % 64 * 16) _ (sv64 _ _ _ (by omega))], by go_grown⟩
set_option maxRecDepth 100000 in
set_option maxHeartbeats 4000000 in
theorem rwrite_l1 (f : Nat → Int) (h : SB f) (hp : ∀ k, k < 3 → 0 ≤ f (3 * k) ∧ f (3 * k) < 1024) (v : Int) (v0 : 0 ≤ v) (v1 : v < 256) (hv : v < 128) (hl : f 17 = 1) (w : World) : Calls Try.prog 16 #[.agg (S f), .int .u8 v] w fun e w' => e = .returned (.agg (S (upd f 13 (v % 16)))) ∧ Below w.heap.size w w' := by
  have c0 := S_get f 0 (by omega)
  change (S f)[0]? = some (.int .i64 (f 0)) at c0
  have c1 := S_get f 1 (by omega)
  change (S f)[1]? = some (.int .i64 (f 1)) at c1
  have c2 := S_get f 2 (by omega)
  change (S f)[2]? = some (.bool (f 2 == 1)) at c2
  have c3 := S_get f 3 (by omega)
  change (S f)[3]? = some (.int .i64 (f 3)) at c3
  have c4 := S_get f 4 (by omega)
  change (S f)[4]? = some (.int .i64 (f 4)) at c4
  have c5 := S_get f 5 (by omega)
  change (S f)[5]? = some (.bool (f 5 == 1)) at c5
  have c6 := S_get f 6 (by omega)
  change (S f)[6]? = some (.int .i64 (f 6)) at c6
  have c7 := S_get f 7 (by omega)
  change (S f)[7]? = some (.int .i64 (f 7)) at c7
  have c8 := S_get f 8 (by omega)
  change (S f)[8]? = some (.bool (f 8 == 1)) at c8
  have c9 := S_get f 9 (by omega)
  change (S f)[9]? = some (.int .u8 (f 9)) at c9
  have c10 := S_get f 10 (by omega)
  change (S f)[10]? = some (.int .i64 (f 10)) at c10
  have c11 := S_get f 11 (by omega)
  change (S f)[11]? = some (.bool (f 11 == 1)) at c11
  have c12 := S_get f 12 (by omega)
  change (S f)[12]? = some (.int .u16 (f 12)) at c12
  have c13 := S_get f 13 (by omega)
  change (S f)[13]? = some (.int .u8 (f 13)) at c13
  have c14 := S_get f 14 (by omega)
  change (S f)[14]? = some (.int .u8 (f 14)) at c14
  have c15 := S_get f 15 (by omega)
  change (S f)[15]? = some (.int .u8 (f 15)) at c15
  have c16 := S_get f 16 (by omega)
  change (S f)[16]? = some (.int .u8 (f 16)) at c16
  have c17 := S_get f 17 (by omega)
  change (S f)[17]? = some (.int .u8 (f 17)) at c17
  rw [hl] at c17
  have sA : BlkN (S f) 18 := S_size _
  have oA : BlkOne (S f) := S_one _
  have zn := zN
  unfold Z18 at zn
  have hs17 : ∀ x, ((S f).setIfInBounds 17 x)[17]? = some x := fun x => by rw [Array.getElem?_setIfInBounds]; simp [S_size]
  have o2 : ∀ (k1 k2 : Nat) (i1 i2 : IntKind) (x y : Int), BlkOne (((S f).setIfInBounds k1 (.int i1 x)).setIfInBounds k2 (.int i2 y)) := fun _ _ _ _ _ _ => (oA.setInt _ _ _).setInt _ _ _
  have o3 : ∀ (k1 k2 k3 : Nat) (i1 i2 i3 : IntKind) (x y z : Int), BlkOne ((((S f).setIfInBounds k1 (.int i1 x)).setIfInBounds k2 (.int i2 y)).setIfInBounds k3 (.int i3 z)) := fun _ _ _ _ _ _ _ _ _ => ((oA.setInt _ _ _).setInt _ _ _).setInt _ _ _
  generalize hA : S f = A at *
  have HA := Lib.hid hA
  clear hA
  have HH := Lib.hid h
  clear h hp
  go_enter Try.func16, Try.ntmps16
  go_wp2_with fail
  exact bodyPost_ret (v := .agg _) (results_cell_row rfl _ _ (w.heap.size + 1) 30 _ (0, 0) _ rfl (by repeat (first | (refine heap_at _ _ _ ?_; first | (simp; done) | (simp; omega; done)) | (refine (heap_past _ _ _ ?_).trans ?_; focus (first | (simp; done) | (simp; omega; done))) | (refine (heap_drew _ _).trans ?_))) Try.underlying30 rfl (iS (by first | exact sA | (simp only [BlkN.set]; exact sA)))) rfl ⟨by rw [← HA.out]; rw [S_set _ 13 (v % 16) _ (sv8 _ _ _ (by omega) (by omega))], by go_grown⟩
set_option maxRecDepth 100000 in
set_option maxHeartbeats 4000000 in
theorem rwrite_l2 (f : Nat → Int) (h : SB f) (hp : ∀ k, k < 3 → 0 ≤ f (3 * k) ∧ f (3 * k) < 1024) (v : Int) (v0 : 0 ≤ v) (v1 : v < 256) (hv : v < 128) (hl : f 17 = 2) (w : World) : Calls Try.prog 16 #[.agg (S f), .int .u8 v] w fun e w' => e = .returned (.agg (S (upd f 3 (f 3 % 16 + v % 64 * 16)))) ∧ Below w.heap.size w w' := by
  have c0 := S_get f 0 (by omega)
  change (S f)[0]? = some (.int .i64 (f 0)) at c0
  have c1 := S_get f 1 (by omega)
  change (S f)[1]? = some (.int .i64 (f 1)) at c1
  have c2 := S_get f 2 (by omega)
  change (S f)[2]? = some (.bool (f 2 == 1)) at c2
  have c3 := S_get f 3 (by omega)
  change (S f)[3]? = some (.int .i64 (f 3)) at c3
  have c4 := S_get f 4 (by omega)
  change (S f)[4]? = some (.int .i64 (f 4)) at c4
  have c5 := S_get f 5 (by omega)
  change (S f)[5]? = some (.bool (f 5 == 1)) at c5
  have c6 := S_get f 6 (by omega)
  change (S f)[6]? = some (.int .i64 (f 6)) at c6
  have c7 := S_get f 7 (by omega)
  change (S f)[7]? = some (.int .i64 (f 7)) at c7
  have c8 := S_get f 8 (by omega)
  change (S f)[8]? = some (.bool (f 8 == 1)) at c8
  have c9 := S_get f 9 (by omega)
  change (S f)[9]? = some (.int .u8 (f 9)) at c9
  have c10 := S_get f 10 (by omega)
  change (S f)[10]? = some (.int .i64 (f 10)) at c10
  have c11 := S_get f 11 (by omega)
  change (S f)[11]? = some (.bool (f 11 == 1)) at c11
  have c12 := S_get f 12 (by omega)
  change (S f)[12]? = some (.int .u16 (f 12)) at c12
  have c13 := S_get f 13 (by omega)
  change (S f)[13]? = some (.int .u8 (f 13)) at c13
  have c14 := S_get f 14 (by omega)
  change (S f)[14]? = some (.int .u8 (f 14)) at c14
  have c15 := S_get f 15 (by omega)
  change (S f)[15]? = some (.int .u8 (f 15)) at c15
  have c16 := S_get f 16 (by omega)
  change (S f)[16]? = some (.int .u8 (f 16)) at c16
  have c17 := S_get f 17 (by omega)
  change (S f)[17]? = some (.int .u8 (f 17)) at c17
  rw [hl] at c17
  have sA : BlkN (S f) 18 := S_size _
  have oA : BlkOne (S f) := S_one _
  have zn := zN
  unfold Z18 at zn
  have hs17 : ∀ x, ((S f).setIfInBounds 17 x)[17]? = some x := fun x => by rw [Array.getElem?_setIfInBounds]; simp [S_size]
  have o2 : ∀ (k1 k2 : Nat) (i1 i2 : IntKind) (x y : Int), BlkOne (((S f).setIfInBounds k1 (.int i1 x)).setIfInBounds k2 (.int i2 y)) := fun _ _ _ _ _ _ => (oA.setInt _ _ _).setInt _ _ _
  have o3 : ∀ (k1 k2 k3 : Nat) (i1 i2 i3 : IntKind) (x y z : Int), BlkOne ((((S f).setIfInBounds k1 (.int i1 x)).setIfInBounds k2 (.int i2 y)).setIfInBounds k3 (.int i3 z)) := fun _ _ _ _ _ _ _ _ _ => ((oA.setInt _ _ _).setInt _ _ _).setInt _ _ _
  have pp := hp 1 (by omega)
  simp only [Nat.reduceMul] at pp
  have pa : 0 ≤ f 3 := pp.1
  have pb : f 3 < 1024 := pp.2
  clear pp
  generalize hA : S f = A at *
  have HA := Lib.hid hA
  clear hA
  have HH := Lib.hid h
  clear h hp
  go_enter Try.func16, Try.ntmps16
  go_wp2_with fail
  exact bodyPost_ret (v := .agg _) (results_cell_row rfl _ _ (w.heap.size + 1) 30 _ (0, 0) _ rfl (by repeat (first | (refine heap_at _ _ _ ?_; first | (simp; done) | (simp; omega; done)) | (refine (heap_past _ _ _ ?_).trans ?_; focus (first | (simp; done) | (simp; omega; done))) | (refine (heap_drew _ _).trans ?_))) Try.underlying30 rfl (iS (by first | exact sA | (simp only [BlkN.set]; exact sA)))) rfl ⟨by rw [← HA.out]; rw [S_set _ 3 (f 3 % 16 + v % 64 * 16) _ (sv64 _ _ _ (by omega))], by go_grown⟩
set_option maxRecDepth 100000 in
set_option maxHeartbeats 4000000 in
theorem rwrite_l3 (f : Nat → Int) (h : SB f) (hp : ∀ k, k < 3 → 0 ≤ f (3 * k) ∧ f (3 * k) < 1024) (v : Int) (v0 : 0 ≤ v) (v1 : v < 256) (hv : v < 128) (hl : f 17 = 3) (w : World) : Calls Try.prog 16 #[.agg (S f), .int .u8 v] w fun e w' => e = .returned (.agg (S (upd f 14 (v % 16)))) ∧ Below w.heap.size w w' := by
  have c0 := S_get f 0 (by omega)
  change (S f)[0]? = some (.int .i64 (f 0)) at c0
  have c1 := S_get f 1 (by omega)
  change (S f)[1]? = some (.int .i64 (f 1)) at c1
  have c2 := S_get f 2 (by omega)
  change (S f)[2]? = some (.bool (f 2 == 1)) at c2
  have c3 := S_get f 3 (by omega)
  change (S f)[3]? = some (.int .i64 (f 3)) at c3
  have c4 := S_get f 4 (by omega)
  change (S f)[4]? = some (.int .i64 (f 4)) at c4
  have c5 := S_get f 5 (by omega)
  change (S f)[5]? = some (.bool (f 5 == 1)) at c5
  have c6 := S_get f 6 (by omega)
  change (S f)[6]? = some (.int .i64 (f 6)) at c6
  have c7 := S_get f 7 (by omega)
  change (S f)[7]? = some (.int .i64 (f 7)) at c7
  have c8 := S_get f 8 (by omega)
  change (S f)[8]? = some (.bool (f 8 == 1)) at c8
  have c9 := S_get f 9 (by omega)
  change (S f)[9]? = some (.int .u8 (f 9)) at c9
  have c10 := S_get f 10 (by omega)
  change (S f)[10]? = some (.int .i64 (f 10)) at c10
  have c11 := S_get f 11 (by omega)
  change (S f)[11]? = some (.bool (f 11 == 1)) at c11
  have c12 := S_get f 12 (by omega)
  change (S f)[12]? = some (.int .u16 (f 12)) at c12
  have c13 := S_get f 13 (by omega)
  change (S f)[13]? = some (.int .u8 (f 13)) at c13
  have c14 := S_get f 14 (by omega)
  change (S f)[14]? = some (.int .u8 (f 14)) at c14
  have c15 := S_get f 15 (by omega)
  change (S f)[15]? = some (.int .u8 (f 15)) at c15
  have c16 := S_get f 16 (by omega)
  change (S f)[16]? = some (.int .u8 (f 16)) at c16
  have c17 := S_get f 17 (by omega)
  change (S f)[17]? = some (.int .u8 (f 17)) at c17
  rw [hl] at c17
  have sA : BlkN (S f) 18 := S_size _
  have oA : BlkOne (S f) := S_one _
  have zn := zN
  unfold Z18 at zn
  have hs17 : ∀ x, ((S f).setIfInBounds 17 x)[17]? = some x := fun x => by rw [Array.getElem?_setIfInBounds]; simp [S_size]
  have o2 : ∀ (k1 k2 : Nat) (i1 i2 : IntKind) (x y : Int), BlkOne (((S f).setIfInBounds k1 (.int i1 x)).setIfInBounds k2 (.int i2 y)) := fun _ _ _ _ _ _ => (oA.setInt _ _ _).setInt _ _ _
  have o3 : ∀ (k1 k2 k3 : Nat) (i1 i2 i3 : IntKind) (x y z : Int), BlkOne ((((S f).setIfInBounds k1 (.int i1 x)).setIfInBounds k2 (.int i2 y)).setIfInBounds k3 (.int i3 z)) := fun _ _ _ _ _ _ _ _ _ => ((oA.setInt _ _ _).setInt _ _ _).setInt _ _ _
  generalize hA : S f = A at *
  have HA := Lib.hid hA
  clear hA
  have HH := Lib.hid h
  clear h hp
  go_enter Try.func16, Try.ntmps16
  go_wp2_with fail
  exact bodyPost_ret (v := .agg _) (results_cell_row rfl _ _ (w.heap.size + 1) 30 _ (0, 0) _ rfl (by repeat (first | (refine heap_at _ _ _ ?_; first | (simp; done) | (simp; omega; done)) | (refine (heap_past _ _ _ ?_).trans ?_; focus (first | (simp; done) | (simp; omega; done))) | (refine (heap_drew _ _).trans ?_))) Try.underlying30 rfl (iS (by first | exact sA | (simp only [BlkN.set]; exact sA)))) rfl ⟨by rw [← HA.out]; rw [S_set _ 14 (v % 16) _ (sv8 _ _ _ (by omega) (by omega))], by go_grown⟩
set_option maxRecDepth 100000 in
set_option maxHeartbeats 4000000 in
theorem rwrite_l4 (f : Nat → Int) (h : SB f) (hp : ∀ k, k < 3 → 0 ≤ f (3 * k) ∧ f (3 * k) < 1024) (v : Int) (v0 : 0 ≤ v) (v1 : v < 256) (hv : v < 128) (hl : f 17 = 4) (w : World) : Calls Try.prog 16 #[.agg (S f), .int .u8 v] w fun e w' => e = .returned (.agg (S (upd f 6 (f 6 % 16 + v % 64 * 16)))) ∧ Below w.heap.size w w' := by
  have c0 := S_get f 0 (by omega)
  change (S f)[0]? = some (.int .i64 (f 0)) at c0
  have c1 := S_get f 1 (by omega)
  change (S f)[1]? = some (.int .i64 (f 1)) at c1
  have c2 := S_get f 2 (by omega)
  change (S f)[2]? = some (.bool (f 2 == 1)) at c2
  have c3 := S_get f 3 (by omega)
  change (S f)[3]? = some (.int .i64 (f 3)) at c3
  have c4 := S_get f 4 (by omega)
  change (S f)[4]? = some (.int .i64 (f 4)) at c4
  have c5 := S_get f 5 (by omega)
  change (S f)[5]? = some (.bool (f 5 == 1)) at c5
  have c6 := S_get f 6 (by omega)
  change (S f)[6]? = some (.int .i64 (f 6)) at c6
  have c7 := S_get f 7 (by omega)
  change (S f)[7]? = some (.int .i64 (f 7)) at c7
  have c8 := S_get f 8 (by omega)
  change (S f)[8]? = some (.bool (f 8 == 1)) at c8
  have c9 := S_get f 9 (by omega)
  change (S f)[9]? = some (.int .u8 (f 9)) at c9
  have c10 := S_get f 10 (by omega)
  change (S f)[10]? = some (.int .i64 (f 10)) at c10
  have c11 := S_get f 11 (by omega)
  change (S f)[11]? = some (.bool (f 11 == 1)) at c11
  have c12 := S_get f 12 (by omega)
  change (S f)[12]? = some (.int .u16 (f 12)) at c12
  have c13 := S_get f 13 (by omega)
  change (S f)[13]? = some (.int .u8 (f 13)) at c13
  have c14 := S_get f 14 (by omega)
  change (S f)[14]? = some (.int .u8 (f 14)) at c14
  have c15 := S_get f 15 (by omega)
  change (S f)[15]? = some (.int .u8 (f 15)) at c15
  have c16 := S_get f 16 (by omega)
  change (S f)[16]? = some (.int .u8 (f 16)) at c16
  have c17 := S_get f 17 (by omega)
  change (S f)[17]? = some (.int .u8 (f 17)) at c17
  rw [hl] at c17
  have sA : BlkN (S f) 18 := S_size _
  have oA : BlkOne (S f) := S_one _
  have zn := zN
  unfold Z18 at zn
  have hs17 : ∀ x, ((S f).setIfInBounds 17 x)[17]? = some x := fun x => by rw [Array.getElem?_setIfInBounds]; simp [S_size]
  have o2 : ∀ (k1 k2 : Nat) (i1 i2 : IntKind) (x y : Int), BlkOne (((S f).setIfInBounds k1 (.int i1 x)).setIfInBounds k2 (.int i2 y)) := fun _ _ _ _ _ _ => (oA.setInt _ _ _).setInt _ _ _
  have o3 : ∀ (k1 k2 k3 : Nat) (i1 i2 i3 : IntKind) (x y z : Int), BlkOne ((((S f).setIfInBounds k1 (.int i1 x)).setIfInBounds k2 (.int i2 y)).setIfInBounds k3 (.int i3 z)) := fun _ _ _ _ _ _ _ _ _ => ((oA.setInt _ _ _).setInt _ _ _).setInt _ _ _
  have pp := hp 2 (by omega)
  simp only [Nat.reduceMul] at pp
  have pa : 0 ≤ f 6 := pp.1
  have pb : f 6 < 1024 := pp.2
  clear pp
  generalize hA : S f = A at *
  have HA := Lib.hid hA
  clear hA
  have HH := Lib.hid h
  clear h hp
  go_enter Try.func16, Try.ntmps16
  go_wp2_with fail
  exact bodyPost_ret (v := .agg _) (results_cell_row rfl _ _ (w.heap.size + 1) 30 _ (0, 0) _ rfl (by repeat (first | (refine heap_at _ _ _ ?_; first | (simp; done) | (simp; omega; done)) | (refine (heap_past _ _ _ ?_).trans ?_; focus (first | (simp; done) | (simp; omega; done))) | (refine (heap_drew _ _).trans ?_))) Try.underlying30 rfl (iS (by first | exact sA | (simp only [BlkN.set]; exact sA)))) rfl ⟨by rw [← HA.out]; rw [S_set _ 6 (f 6 % 16 + v % 64 * 16) _ (sv64 _ _ _ (by omega))], by go_grown⟩
set_option maxRecDepth 100000 in
set_option maxHeartbeats 4000000 in
theorem rwrite_l5 (f : Nat → Int) (h : SB f) (hp : ∀ k, k < 3 → 0 ≤ f (3 * k) ∧ f (3 * k) < 1024) (v : Int) (v0 : 0 ≤ v) (v1 : v < 256) (hv : v < 128) (hl : f 17 = 5) (w : World) : Calls Try.prog 16 #[.agg (S f), .int .u8 v] w fun e w' => e = .returned (.agg (S (upd f 15 (v % 16)))) ∧ Below w.heap.size w w' := by
  have c0 := S_get f 0 (by omega)
  change (S f)[0]? = some (.int .i64 (f 0)) at c0
  have c1 := S_get f 1 (by omega)
  change (S f)[1]? = some (.int .i64 (f 1)) at c1
  have c2 := S_get f 2 (by omega)
  change (S f)[2]? = some (.bool (f 2 == 1)) at c2
  have c3 := S_get f 3 (by omega)
  change (S f)[3]? = some (.int .i64 (f 3)) at c3
  have c4 := S_get f 4 (by omega)
  change (S f)[4]? = some (.int .i64 (f 4)) at c4
  have c5 := S_get f 5 (by omega)
  change (S f)[5]? = some (.bool (f 5 == 1)) at c5
  have c6 := S_get f 6 (by omega)
  change (S f)[6]? = some (.int .i64 (f 6)) at c6
  have c7 := S_get f 7 (by omega)
  change (S f)[7]? = some (.int .i64 (f 7)) at c7
  have c8 := S_get f 8 (by omega)
  change (S f)[8]? = some (.bool (f 8 == 1)) at c8
  have c9 := S_get f 9 (by omega)
  change (S f)[9]? = some (.int .u8 (f 9)) at c9
  have c10 := S_get f 10 (by omega)
  change (S f)[10]? = some (.int .i64 (f 10)) at c10
  have c11 := S_get f 11 (by omega)
  change (S f)[11]? = some (.bool (f 11 == 1)) at c11
  have c12 := S_get f 12 (by omega)
  change (S f)[12]? = some (.int .u16 (f 12)) at c12
  have c13 := S_get f 13 (by omega)
  change (S f)[13]? = some (.int .u8 (f 13)) at c13
  have c14 := S_get f 14 (by omega)
  change (S f)[14]? = some (.int .u8 (f 14)) at c14
  have c15 := S_get f 15 (by omega)
  change (S f)[15]? = some (.int .u8 (f 15)) at c15
  have c16 := S_get f 16 (by omega)
  change (S f)[16]? = some (.int .u8 (f 16)) at c16
  have c17 := S_get f 17 (by omega)
  change (S f)[17]? = some (.int .u8 (f 17)) at c17
  rw [hl] at c17
  have sA : BlkN (S f) 18 := S_size _
  have oA : BlkOne (S f) := S_one _
  have zn := zN
  unfold Z18 at zn
  have hs17 : ∀ x, ((S f).setIfInBounds 17 x)[17]? = some x := fun x => by rw [Array.getElem?_setIfInBounds]; simp [S_size]
  have o2 : ∀ (k1 k2 : Nat) (i1 i2 : IntKind) (x y : Int), BlkOne (((S f).setIfInBounds k1 (.int i1 x)).setIfInBounds k2 (.int i2 y)) := fun _ _ _ _ _ _ => (oA.setInt _ _ _).setInt _ _ _
  have o3 : ∀ (k1 k2 k3 : Nat) (i1 i2 i3 : IntKind) (x y z : Int), BlkOne ((((S f).setIfInBounds k1 (.int i1 x)).setIfInBounds k2 (.int i2 y)).setIfInBounds k3 (.int i3 z)) := fun _ _ _ _ _ _ _ _ _ => ((oA.setInt _ _ _).setInt _ _ _).setInt _ _ _
  generalize hA : S f = A at *
  have HA := Lib.hid hA
  clear hA
  have HH := Lib.hid h
  clear h hp
  go_enter Try.func16, Try.ntmps16
  go_wp2_with fail
  exact bodyPost_ret (v := .agg _) (results_cell_row rfl _ _ (w.heap.size + 1) 30 _ (0, 0) _ rfl (by repeat (first | (refine heap_at _ _ _ ?_; first | (simp; done) | (simp; omega; done)) | (refine (heap_past _ _ _ ?_).trans ?_; focus (first | (simp; done) | (simp; omega; done))) | (refine (heap_drew _ _).trans ?_))) Try.underlying30 rfl (iS (by first | exact sA | (simp only [BlkN.set]; exact sA)))) rfl ⟨by rw [← HA.out]; rw [S_set _ 15 (v % 16) _ (sv8 _ _ _ (by omega) (by omega))], by go_grown⟩
set_option maxRecDepth 100000 in
set_option maxHeartbeats 4000000 in
theorem rwrite_l6 (f : Nat → Int) (h : SB f) (hp : ∀ k, k < 3 → 0 ≤ f (3 * k) ∧ f (3 * k) < 1024) (v : Int) (v0 : 0 ≤ v) (v1 : v < 256) (hv : v < 128) (hl : f 17 = 6) (w : World) : Calls Try.prog 16 #[.agg (S f), .int .u8 v] w fun e w' => e = .returned (.agg (S (upd (upd (upd (upd f 9 (v % 8)) 10 (f 10)) 11 (f 11)) 12 32768))) ∧ Below w.heap.size w w' := by
  have c0 := S_get f 0 (by omega)
  change (S f)[0]? = some (.int .i64 (f 0)) at c0
  have c1 := S_get f 1 (by omega)
  change (S f)[1]? = some (.int .i64 (f 1)) at c1
  have c2 := S_get f 2 (by omega)
  change (S f)[2]? = some (.bool (f 2 == 1)) at c2
  have c3 := S_get f 3 (by omega)
  change (S f)[3]? = some (.int .i64 (f 3)) at c3
  have c4 := S_get f 4 (by omega)
  change (S f)[4]? = some (.int .i64 (f 4)) at c4
  have c5 := S_get f 5 (by omega)
  change (S f)[5]? = some (.bool (f 5 == 1)) at c5
  have c6 := S_get f 6 (by omega)
  change (S f)[6]? = some (.int .i64 (f 6)) at c6
  have c7 := S_get f 7 (by omega)
  change (S f)[7]? = some (.int .i64 (f 7)) at c7
  have c8 := S_get f 8 (by omega)
  change (S f)[8]? = some (.bool (f 8 == 1)) at c8
  have c9 := S_get f 9 (by omega)
  change (S f)[9]? = some (.int .u8 (f 9)) at c9
  have c10 := S_get f 10 (by omega)
  change (S f)[10]? = some (.int .i64 (f 10)) at c10
  have c11 := S_get f 11 (by omega)
  change (S f)[11]? = some (.bool (f 11 == 1)) at c11
  have c12 := S_get f 12 (by omega)
  change (S f)[12]? = some (.int .u16 (f 12)) at c12
  have c13 := S_get f 13 (by omega)
  change (S f)[13]? = some (.int .u8 (f 13)) at c13
  have c14 := S_get f 14 (by omega)
  change (S f)[14]? = some (.int .u8 (f 14)) at c14
  have c15 := S_get f 15 (by omega)
  change (S f)[15]? = some (.int .u8 (f 15)) at c15
  have c16 := S_get f 16 (by omega)
  change (S f)[16]? = some (.int .u8 (f 16)) at c16
  have c17 := S_get f 17 (by omega)
  change (S f)[17]? = some (.int .u8 (f 17)) at c17
  rw [hl] at c17
  have sA : BlkN (S f) 18 := S_size _
  have oA : BlkOne (S f) := S_one _
  have zn := zN
  unfold Z18 at zn
  have hs17 : ∀ x, ((S f).setIfInBounds 17 x)[17]? = some x := fun x => by rw [Array.getElem?_setIfInBounds]; simp [S_size]
  have o2 : ∀ (k1 k2 : Nat) (i1 i2 : IntKind) (x y : Int), BlkOne (((S f).setIfInBounds k1 (.int i1 x)).setIfInBounds k2 (.int i2 y)) := fun _ _ _ _ _ _ => (oA.setInt _ _ _).setInt _ _ _
  have o3 : ∀ (k1 k2 k3 : Nat) (i1 i2 i3 : IntKind) (x y z : Int), BlkOne ((((S f).setIfInBounds k1 (.int i1 x)).setIfInBounds k2 (.int i2 y)).setIfInBounds k3 (.int i3 z)) := fun _ _ _ _ _ _ _ _ _ => ((oA.setInt _ _ _).setInt _ _ _).setInt _ _ _
  generalize hA : S f = A at *
  have HA := Lib.hid hA
  clear hA
  have HH := Lib.hid h
  clear h hp
  go_enter Try.func16, Try.ntmps16
  go_wp2_with fail
  exact bodyPost_ret (v := .agg _) (results_cell_row rfl _ _ (w.heap.size + 1) 30 _ (0, 0) _ rfl (by repeat (first | (refine heap_at _ _ _ ?_; first | (simp; done) | (simp; omega; done)) | (refine (heap_past _ _ _ ?_).trans ?_; focus (first | (simp; done) | (simp; omega; done))) | (refine (heap_drew _ _).trans ?_))) Try.underlying30 rfl (iS (by first | exact sA | (simp only [BlkN.set]; exact sA)))) rfl ⟨by rw [← HA.out]; rw [upd_keep9 f f v rfl rfl]; rw [S_set _ 9 (v % 8) _ (sv8 _ _ _ (by omega) (by omega)), S_set _ 12 32768 _ (sv16 _ _)], by go_grown⟩
set_option maxRecDepth 100000 in
set_option maxHeartbeats 4000000 in
theorem rwrite_l7 (f : Nat → Int) (h : SB f) (hp : ∀ k, k < 3 → 0 ≤ f (3 * k) ∧ f (3 * k) < 1024) (v : Int) (v0 : 0 ≤ v) (v1 : v < 256) (hv : v < 128) (hl : f 17 = 7) (w : World) : Calls Try.prog 16 #[.agg (S f), .int .u8 v] w fun e w' => e = .returned (.agg (S (upd f 16 (v % 16)))) ∧ Below w.heap.size w w' := by
  have c0 := S_get f 0 (by omega)
  change (S f)[0]? = some (.int .i64 (f 0)) at c0
  have c1 := S_get f 1 (by omega)
  change (S f)[1]? = some (.int .i64 (f 1)) at c1
  have c2 := S_get f 2 (by omega)
  change (S f)[2]? = some (.bool (f 2 == 1)) at c2
  have c3 := S_get f 3 (by omega)
  change (S f)[3]? = some (.int .i64 (f 3)) at c3
  have c4 := S_get f 4 (by omega)
  change (S f)[4]? = some (.int .i64 (f 4)) at c4
  have c5 := S_get f 5 (by omega)
  change (S f)[5]? = some (.bool (f 5 == 1)) at c5
  have c6 := S_get f 6 (by omega)
  change (S f)[6]? = some (.int .i64 (f 6)) at c6
  have c7 := S_get f 7 (by omega)
  change (S f)[7]? = some (.int .i64 (f 7)) at c7
  have c8 := S_get f 8 (by omega)
  change (S f)[8]? = some (.bool (f 8 == 1)) at c8
  have c9 := S_get f 9 (by omega)
  change (S f)[9]? = some (.int .u8 (f 9)) at c9
  have c10 := S_get f 10 (by omega)
  change (S f)[10]? = some (.int .i64 (f 10)) at c10
  have c11 := S_get f 11 (by omega)
  change (S f)[11]? = some (.bool (f 11 == 1)) at c11
  have c12 := S_get f 12 (by omega)
  change (S f)[12]? = some (.int .u16 (f 12)) at c12
  have c13 := S_get f 13 (by omega)
  change (S f)[13]? = some (.int .u8 (f 13)) at c13
  have c14 := S_get f 14 (by omega)
  change (S f)[14]? = some (.int .u8 (f 14)) at c14
  have c15 := S_get f 15 (by omega)
  change (S f)[15]? = some (.int .u8 (f 15)) at c15
  have c16 := S_get f 16 (by omega)
  change (S f)[16]? = some (.int .u8 (f 16)) at c16
  have c17 := S_get f 17 (by omega)
  change (S f)[17]? = some (.int .u8 (f 17)) at c17
  rw [hl] at c17
  have sA : BlkN (S f) 18 := S_size _
  have oA : BlkOne (S f) := S_one _
  have zn := zN
  unfold Z18 at zn
  have hs17 : ∀ x, ((S f).setIfInBounds 17 x)[17]? = some x := fun x => by rw [Array.getElem?_setIfInBounds]; simp [S_size]
  have o2 : ∀ (k1 k2 : Nat) (i1 i2 : IntKind) (x y : Int), BlkOne (((S f).setIfInBounds k1 (.int i1 x)).setIfInBounds k2 (.int i2 y)) := fun _ _ _ _ _ _ => (oA.setInt _ _ _).setInt _ _ _
  have o3 : ∀ (k1 k2 k3 : Nat) (i1 i2 i3 : IntKind) (x y z : Int), BlkOne ((((S f).setIfInBounds k1 (.int i1 x)).setIfInBounds k2 (.int i2 y)).setIfInBounds k3 (.int i3 z)) := fun _ _ _ _ _ _ _ _ _ => ((oA.setInt _ _ _).setInt _ _ _).setInt _ _ _
  generalize hA : S f = A at *
  have HA := Lib.hid hA
  clear hA
  have HH := Lib.hid h
  clear h hp
  go_enter Try.func16, Try.ntmps16
  go_wp2_with fail
  exact bodyPost_ret (v := .agg _) (results_cell_row rfl _ _ (w.heap.size + 1) 30 _ (0, 0) _ rfl (by repeat (first | (refine heap_at _ _ _ ?_; first | (simp; done) | (simp; omega; done)) | (refine (heap_past _ _ _ ?_).trans ?_; focus (first | (simp; done) | (simp; omega; done))) | (refine (heap_drew _ _).trans ?_))) Try.underlying30 rfl (iS (by first | exact sA | (simp only [BlkN.set]; exact sA)))) rfl ⟨by rw [← HA.out]; rw [S_set _ 16 (v % 16) _ (sv8 _ _ _ (by omega) (by omega))], by go_grown⟩
theorem rwrite_any (f : Nat → Int) (h : SB f) (hp : ∀ k, k < 3 → 0 ≤ f (3 * k) ∧ f (3 * k) < 1024) (hl : f 17 < 8) (v : Int) (v0 : 0 ≤ v) (v1 : v < 256) (w : World) : Calls Try.prog 16 #[.agg (S f), .int .u8 v] w fun e w' => e = .returned (.agg (S (wF f v))) ∧ Below w.heap.size w w' := by
  have l0 := (h.2.2.1 17 (by omega) (by omega)).1
  unfold wF
  by_cases hv : 128 ≤ v
  · rw [if_pos hv]
    rcases (by omega : v / 16 % 8 = 0 ∨ v / 16 % 8 = 1 ∨ v / 16 % 8 = 2 ∨ v / 16 % 8 = 3 ∨ v / 16 % 8 = 4 ∨ v / 16 % 8 = 5 ∨ v / 16 % 8 = 6 ∨ v / 16 % 8 = 7) with e | e | e | e | e | e | e | e
    · rw [e]; exact rwrite_h0 f h hp v v0 v1 hv e w
    · rw [e]; exact rwrite_h1 f h hp v v0 v1 hv e w
    · rw [e]; exact rwrite_h2 f h hp v v0 v1 hv e w
    · rw [e]; exact rwrite_h3 f h hp v v0 v1 hv e w
    · rw [e]; exact rwrite_h4 f h hp v v0 v1 hv e w
    · rw [e]; exact rwrite_h5 f h hp v v0 v1 hv e w
    · rw [e]; exact rwrite_h6 f h hp v v0 v1 hv e w
    · rw [e]; exact rwrite_h7 f h hp v v0 v1 hv e w
  · rw [if_neg hv]
    rcases (by omega : f 17 = 0 ∨ f 17 = 1 ∨ f 17 = 2 ∨ f 17 = 3 ∨ f 17 = 4 ∨ f 17 = 5 ∨ f 17 = 6 ∨ f 17 = 7) with e | e | e | e | e | e | e | e
    · rw [e]; exact rwrite_l0 f h hp v v0 v1 (by omega) e w
    · rw [e]; exact rwrite_l1 f h hp v v0 v1 (by omega) e w
    · rw [e]; exact rwrite_l2 f h hp v v0 v1 (by omega) e w
    · rw [e]; exact rwrite_l3 f h hp v v0 v1 (by omega) e w
    · rw [e]; exact rwrite_l4 f h hp v v0 v1 (by omega) e w
    · rw [e]; exact rwrite_l5 f h hp v v0 v1 (by omega) e w
    · rw [e]; exact rwrite_l6 f h hp v v0 v1 (by omega) e w
    · rw [e]; exact rwrite_l7 f h hp v v0 v1 (by omega) e w
end Psg
end Go.Proofs.Ytjggocbihjdekaa
