/- A line of the ground of a picture (layer 17): what the program's and the reference's functions do, part 7. No conditions but that numbers are of their kinds and slices are slices. -/
import Derived.Test.YtpjgcbbpfpcjeaaBack6
import Derived.RegionTactic
import Derived.LoopTactic
import Derived.Deep.RegionHeld3
import Derived.Lib.Hide
namespace Go.Proofs.Ytpjgcbbpfpcjeaa
open Go.RowKit
open Kit Tile TileR
set_option linter.unusedSimpArgs false
set_option linter.unusedVariables false
attribute [local simp] blkAt_alloc blkNew_cells putRow_cells blkAt_drew BlkN.set BlkOne.setInt BlkOne.setBool blkPut_alloc blkPut_drew blkAt_blkPut_other size_blkPut nq2 nq3 nq4 nq5 nq6 nq7 nq8
namespace Back
attribute [local simp ↓] rl_in
attribute [local simp] rl_run
attribute [local simp ↓] gl_in gs_in ds_in ag_in
attribute [local simp] gl_run gs_run ds_run ag_run
open TileB
/-- The image's block and the registers'. -/
def IM (w : World) (I A : Array Value) (W : World) : Prop := W.heap[w.heap.size]? = some (.cells I 33) ∧ W.heap[w.heap.size + 1]? = some (.cells A 24) ∧ Below w.heap.size w W
theorem IM.below {w : World} {I A : Array Value} {W W' : World} (h : IM w I A W) (hb : Below W.heap.size W W') : IM w I A W' := ⟨(hb.block _ (heap_lt h.1)).trans h.1, (hb.block _ (heap_lt h.2.1)).trans h.2.1, h.2.2.trans (hb.mono h.2.2.size)⟩
/-- The registers' block, a line's block, and the memory. -/
def LN (w : World) (A : Array Value) (gb : Nat) (GG : Array Value) (v : Value) (zs : List Int) (W : World) : Prop := W.heap[w.heap.size + 1]? = some (.cells A 24) ∧ W.heap[gb]? = some (.cells GG 29) ∧ Bytes W v zs ∧ Below w.heap.size w W
theorem LN.below {w : World} {A GG : Array Value} {gb : Nat} {v : Value} {zs : List Int} {W W' : World} (h : LN w A gb GG v zs W) (hb : Below W.heap.size W W') : LN w A gb GG v zs W' := ⟨(hb.block _ (heap_lt h.1)).trans h.1, (hb.block _ (heap_lt h.2.1)).trans h.2.1, h.2.2.1.below hb, h.2.2.2.trans (hb.mono h.2.2.2.size)⟩
set_option maxRecDepth 100000 in
set_option maxHeartbeats 4000000 in
theorem lines_all (v1 v2 : Value) (z1 z2 : List Int) (m a : Int) (r : Nat → Int) (h : RB r) (line : Int) (a0' : -9223372036854775808 ≤ a) (a1' : a ≤ 9223372036854775807) (w : World) (hs1 : IntsOf w v1 .u8 z1) (hs2 : IntsOf w v2 .u8 z2) : Calls Try.prog 4 #[.agg #[v1, v2, .int .i64 m, .int .i64 a], .agg (R r), .int .i64 line] w fun e w' => e = .returned (.bool true) ∧ Below w.heap.size w w' := by
  have hB := fun (n2 : z2.length ≤ 300) (W : World) (q : Below w.heap.size w W) => build_any v1 v2 m a z1 z2 W a0' a1' n2 (Bytes.below hs1 q) (Bytes.below hs2 q)
  have hal := fun I => heldP (T := IM w I (R r)) (fun W W' h b => h.below b) alive_any
  have hline := fun v zs W hW => line_any r h v zs line W hW
  have hdot := fun v zs (k : Nat) (hk : k < 256) W hW => rdotL r h v zs line k hk W hW
  have sA : BlkN (R r) 11 := R_size _
  have zN := z512N
  have zO := z512O
  have gN : ∀ zs, BlkN (G (cL zs r line) (fL zs r line)) 512 := fun zs => O_size _ _ _
  have gO : ∀ zs, BlkOne (G (cL zs r line) (fL zs r line)) := fun zs => O_one _ _ _
  have HB := Lib.hid hB
  have HAL := Lib.hid (hal #[v1, v2, .int .i64 m, .int .i64 a])
  have HLINE := Lib.hid hline
  have HDOT := Lib.hid hdot
  clear hB hal hline hdot a0' a1' h
  obtain ⟨p1, c1, rfl, hl1, hm1, -, -⟩ := hs1
  obtain ⟨p2, c2, rfl, hl2, hm2, -, -⟩ := hs2
  unfold maxLen at hm1 hm2
  generalize R r = A at *
  by_cases n1 : z1.length ≤ 300
  case neg =>
    have t1 : decide (300 < z1.length) = true := decide_eq_true (by omega)
    have t1' : 300 < z1.length := by omega
    go_enter Try.func4, Try.ntmps4
    go_wp2_with (go_at_call 9; (with_reducible refine (HAL.out _ ?_).mono ?_); (exact ⟨(by repeat (first | (refine heap_at _ _ _ ?_; first | (simp; done) | (simp; omega; done)) | (refine (heap_past _ _ _ ?_).trans ?_; focus (first | (simp; done) | (simp; omega; done))) | (refine (heap_drew _ _).trans ?_))), (by repeat (first | (refine heap_at _ _ _ ?_; first | (simp; done) | (simp; omega; done)) | (refine (heap_past _ _ _ ?_).trans ?_; focus (first | (simp; done) | (simp; omega; done))) | (refine (heap_drew _ _).trans ?_))), by go_grown⟩); rintro e w1 ⟨rfl, k1⟩; (have a0 : w1.cell? ⟨w.heap.size, 0, none⟩ = some (.slice p1 z1.length c1) := (cell_of _ _ 0 k1.1).trans rfl); (have a1 : w1.cell? ⟨w.heap.size, 1, none⟩ = some (.slice p2 z2.length c2) := (cell_of _ _ 1 k1.1).trans rfl); (have a2 : w1.cell? ⟨w.heap.size, 2, none⟩ = some (.int .i64 m) := (cell_of _ _ 2 k1.1).trans rfl); (have a3 : w1.cell? ⟨w.heap.size, 3, none⟩ = some (.int .i64 a) := (cell_of _ _ 3 k1.1).trans rfl))
    go_ret
    exact ⟨ret_bool (by simp), k1.2.2⟩
  have t1 : decide (300 < z1.length) = false := decide_eq_false (by omega)
  have t1' : ¬ 300 < z1.length := by omega
  by_cases n2 : z2.length ≤ 300
  case neg =>
    have t2 : decide (300 < z2.length) = true := decide_eq_true (by omega)
    have t2' : 300 < z2.length := by omega
    go_enter Try.func4, Try.ntmps4
    go_wp2_with (go_at_call 9; (with_reducible refine (HAL.out _ ?_).mono ?_); (exact ⟨(by repeat (first | (refine heap_at _ _ _ ?_; first | (simp; done) | (simp; omega; done)) | (refine (heap_past _ _ _ ?_).trans ?_; focus (first | (simp; done) | (simp; omega; done))) | (refine (heap_drew _ _).trans ?_))), (by repeat (first | (refine heap_at _ _ _ ?_; first | (simp; done) | (simp; omega; done)) | (refine (heap_past _ _ _ ?_).trans ?_; focus (first | (simp; done) | (simp; omega; done))) | (refine (heap_drew _ _).trans ?_))), by go_grown⟩); rintro e w1 ⟨rfl, k1⟩; (have a0 : w1.cell? ⟨w.heap.size, 0, none⟩ = some (.slice p1 z1.length c1) := (cell_of _ _ 0 k1.1).trans rfl); (have a1 : w1.cell? ⟨w.heap.size, 1, none⟩ = some (.slice p2 z2.length c2) := (cell_of _ _ 1 k1.1).trans rfl); (have a2 : w1.cell? ⟨w.heap.size, 2, none⟩ = some (.int .i64 m) := (cell_of _ _ 2 k1.1).trans rfl); (have a3 : w1.cell? ⟨w.heap.size, 3, none⟩ = some (.int .i64 a) := (cell_of _ _ 3 k1.1).trans rfl))
    go_ret
    exact ⟨ret_bool (by simp), k1.2.2⟩
  have t2 : decide (300 < z2.length) = false := decide_eq_false (by omega)
  have t2' : ¬ 300 < z2.length := by omega
  go_enter Try.func4, Try.ntmps4
  go_wp2_with (first | (go_at_call 9; (with_reducible refine (HAL.out _ ?_).mono ?_); (exact ⟨(by repeat (first | (refine heap_at _ _ _ ?_; first | (simp; done) | (simp; omega; done)) | (refine (heap_past _ _ _ ?_).trans ?_; focus (first | (simp; done) | (simp; omega; done))) | (refine (heap_drew _ _).trans ?_))), (by repeat (first | (refine heap_at _ _ _ ?_; first | (simp; done) | (simp; omega; done)) | (refine (heap_past _ _ _ ?_).trans ?_; focus (first | (simp; done) | (simp; omega; done))) | (refine (heap_drew _ _).trans ?_))), by go_grown⟩); rintro e w1 ⟨rfl, k1⟩; (have a0 : w1.cell? ⟨w.heap.size, 0, none⟩ = some (.slice p1 z1.length c1) := (cell_of _ _ 0 k1.1).trans rfl); (have a1 : w1.cell? ⟨w.heap.size, 1, none⟩ = some (.slice p2 z2.length c2) := (cell_of _ _ 1 k1.1).trans rfl); (have a2 : w1.cell? ⟨w.heap.size, 2, none⟩ = some (.int .i64 m) := (cell_of _ _ 2 k1.1).trans rfl); (have a3 : w1.cell? ⟨w.heap.size, 3, none⟩ = some (.int .i64 a) := (cell_of _ _ 3 k1.1).trans rfl)) | (go_at_call 11; (with_reducible refine (HB.out n2 _ ?_).mono ?_); (exact k1.2.2); rintro e w2 ⟨g, n, zs, rfl, hz, hb2⟩; (have k2 := k1.below hb2); (have e2 := blkAt_heap k2.2.1); (clear a0 a1 a2 a3)) | (go_at_call 10; (with_reducible refine (HLINE.out _ _ _ hz).mono ?_); rintro e w3 ⟨rfl, hb3⟩; (have gN' := gN zs); (have gO' := gO zs)))
  have k3 : LN w A w3.heap.size (G (cL zs r line) (fL zs r line)) (.slice (some ⟨g, 0, none⟩) n n) zs (w3.alloc (.cells (G (cL zs r line) (fL zs r line)) 29)) := by
    have q := k2.below hb3
    have e := (hz.below hb3).alloc (.cells (G (cL zs r line) (fL zs r line)) 29)
    exact ⟨(heap_past _ _ _ (heap_lt q.2.1)).trans q.2.1, heap_at _ _ _ rfl, e, q.2.2.alloc q.2.2.size _⟩
  have hgc := fun k hk => G_c (cL zs r line) (fL zs r line) k hk
  have hgf := fun k hk => G_f (cL zs r line) (fL zs r line) k hk
  have hbd := fun k => cL_bd zs r line k
  have hdot := fun k hk W hW => HDOT.out (.slice (some ⟨g, 0, none⟩) n n) zs k hk W hW
  generalize G (cL zs r line) (fL zs r line) = GG at *
  generalize w3.alloc (.cells GG 29) = w4 at *
  generalize w3.heap.size = gb at *
  have HGC := Lib.hid hgc
  have HGF := Lib.hid hgf
  have HBD := Lib.hid hbd
  have HD := Lib.hid hdot
  clear hgc hgf hbd hdot hz hb2 hb3 k2 e2 gN gO k1
  go_loopw [9] (fun i wr => ∃ k : Nat, k ≤ 256 ∧ i = .int .i64 k ∧ LN w A gb GG (.slice (some ⟨g, 0, none⟩) n n) zs wr) (fun i _ => (256 - intOf i).toNat)
  case atStart => exact ⟨0, by omega, rfl, k3⟩
  case round =>
    obtain ⟨k, hk, rfl, kr⟩ := hrel
    clear k3
    by_cases hlt : k < 256
    case neg =>
      have hk4 : k = 256 := by omega
      subst hk4
      go_wp2_with fail
      go_ret
      exact ⟨ret_bool (by simp), kr.2.2.2⟩
    case pos =>
    have n0 : (0 : Int) ≤ (k : Int) := by omega
    have n1' : (k : Int) < 256 := by omega
    have hd := HD.out k hlt
    have gc := HGC.out k hlt
    have gf := HGF.out k hlt
    obtain ⟨b0, b1⟩ := HBD.out k
    generalize cL zs r line k = c at *
    generalize fL zs r line k = f at *
    have GC := Lib.hid gc
    have GF := Lib.hid gf
    have HD2 := Lib.hid hd
    clear hd gc gf
    have kA := blkAt_heap kr.1
    have b2 : ¬ 31 < c := by omega
    have ky := kr.2.2.1
    go_wp2_with (go_at_call 12; (with_reducible refine (HD2.out _ ky).mono ?_); rintro e w5 ⟨rfl, hb5⟩; (have k5 := kr.below hb5); (have gc5 := (cell_of _ _ k k5.2.1).trans GC.out); (have gf5 := (cell_of _ _ (256 + k) k5.2.1).trans GF.out))
    go_roundw
    case rel => exact ⟨k + 1, by omega, by go_num, k5⟩
    case measure => simp [intOf] <;> omega
theorem backLines_walk (v1 v2 : Value) (z1 z2 : List Int) (m a : Int) (a1_0 : Int) (a1_1 : Int) (a1_2 : Int) (a1_3 : Int) (a1_4 : Int) (a1_5 : Int) (a1_6 : Int) (a1_7 : Int) (a1_8 : Int) (a1_9 : Int) (a1_10 : Int) (a2 : Int) (w0_2 : (Lit.int .i64 m).wf = true) (w0_3 : (Lit.int .i64 a).wf = true) (w1_0 : (Lit.int .u8 a1_0).wf = true) (w1_1 : (Lit.int .u8 a1_1).wf = true) (w1_2 : (Lit.int .u8 a1_2).wf = true) (w1_3 : (Lit.int .u8 a1_3).wf = true) (w1_4 : (Lit.int .u8 a1_4).wf = true) (w1_5 : (Lit.int .u8 a1_5).wf = true) (w1_6 : (Lit.int .u8 a1_6).wf = true) (w1_7 : (Lit.int .u8 a1_7).wf = true) (w1_8 : (Lit.int .u8 a1_8).wf = true) (w1_9 : (Lit.int .u8 a1_9).wf = true) (w1_10 : (Lit.int .u8 a1_10).wf = true) (w2 : (Lit.int .i64 a2).wf = true) (w : World) (hs1 : IntsOf w v1 .u8 z1) (hs2 : IntsOf w v2 .u8 z2) : Calls Try.prog 4 #[.agg #[v1, v2, .int .i64 m, .int .i64 a], .agg #[.int .u8 a1_0, .int .u8 a1_1, .int .u8 a1_2, .int .u8 a1_3, .int .u8 a1_4, .int .u8 a1_5, .int .u8 a1_6, .int .u8 a1_7, .int .u8 a1_8, .int .u8 a1_9, .int .u8 a1_10], .int .i64 a2] w fun e w' => e = .returned (.bool true) ∧ Below w.heap.size w w' := by
  rw [show (#[.int .u8 a1_0, .int .u8 a1_1, .int .u8 a1_2, .int .u8 a1_3, .int .u8 a1_4, .int .u8 a1_5, .int .u8 a1_6, .int .u8 a1_7, .int .u8 a1_8, .int .u8 a1_9, .int .u8 a1_10] : Array Value) = R (fOf [a1_0, a1_1, a1_2, a1_3, a1_4, a1_5, a1_6, a1_7, a1_8, a1_9, a1_10]) from rfl]
  exact lines_all v1 v2 z1 z2 m a _ (regs_rb a1_0 a1_1 a1_2 a1_3 a1_4 a1_5 a1_6 a1_7 a1_8 a1_9 a1_10 w1_0 w1_1 w1_2 w1_3 w1_4 w1_5 w1_6 w1_7 w1_8 w1_9 w1_10) a2 (wf_i64 w0_3).1 (wf_i64 w0_3).2 w hs1 hs2
end Back
end Go.Proofs.Ytpjgcbbpfpcjeaa
