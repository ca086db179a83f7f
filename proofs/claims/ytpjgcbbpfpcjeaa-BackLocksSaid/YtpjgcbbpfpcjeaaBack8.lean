/- A line of the ground of a picture (layer 17): what the program's and the reference's functions do, part 8. No conditions but that numbers are of their kinds and slices are slices. -/
import Derived.Test.YtpjgcbbpfpcjeaaBack6
import Derived.Test.YtpjgcbbpfpcjeaaBackC
import Derived.RegionTactic
import Derived.LoopTactic
import Derived.Deep.RegionHeld3
import Derived.Lib.Hide
namespace Go.Proofs.Ytpjgcbbpfpcjeaa
open Go.RowKit
open Kit Tile TileR
set_option linter.unusedSimpArgs false
set_option linter.unusedVariables false
attribute [local simp] blkAt_alloc blkNew_cells putRow_cells blkAt_drew BlkN.set BlkOne.setInt BlkOne.setBool blkPut_alloc blkPut_drew blkAt_blkPut_other size_blkPut nq2 nq3 nq4 nq5 nq6 nq7 nq8
namespace Back
attribute [local simp ↓] rl_in
attribute [local simp] rl_run
attribute [local simp ↓] gl_in gs_in ds_in ag_in
attribute [local simp] gl_run gs_run ds_run ag_run
open TileB
/-- Blocks that are held whole. -/
def BL (w : World) (L : List (Nat × Array Value × TypeId)) (W : World) : Prop := (∀ p ∈ L, W.heap[p.1]? = some (.cells p.2.1 p.2.2)) ∧ Below w.heap.size w W
theorem BL.get {w : World} {L : List (Nat × Array Value × TypeId)} {W : World} (h : BL w L W) (b : Nat) (A : Array Value) (t : TypeId) (hm : (b, A, t) ∈ L) : W.heap[b]? = some (.cells A t) := h.1 _ hm
theorem BL.below {w : World} {L : List (Nat × Array Value × TypeId)} {W W' : World} (h : BL w L W) (hb : Below W.heap.size W W') : BL w L W' := ⟨fun p hp => (hb.block _ (heap_lt (h.1 p hp))).trans (h.1 p hp), h.2.trans (hb.mono h.2.size)⟩
theorem BL.drew {w : World} {L : List (Nat × Array Value × TypeId)} {W : World} (h : BL w L W) : BL w L W.drew := ⟨h.1, h.2.drew⟩
theorem BL.sub {w : World} {L L' : List (Nat × Array Value × TypeId)} {W : World} (h : BL w L W) (hs : ∀ p ∈ L', p ∈ L) : BL w L' W := ⟨fun p hp => h.1 p (hs p hp), h.2⟩
theorem BL.alloc {w : World} {L : List (Nat × Array Value × TypeId)} {W : World} (h : BL w L W) (A : Array Value) (t : TypeId) : BL w ((W.heap.size, A, t) :: L) (W.alloc (.cells A t)) := by
  refine ⟨fun p hp => ?_, h.2.alloc h.2.size _⟩
  rcases List.mem_cons.1 hp with rfl | hp
  · exact heap_at _ _ _ rfl
  · exact (heap_past _ _ _ (heap_lt (h.1 p hp))).trans (h.1 p hp)
theorem BL.set {w : World} {L : List (Nat × Array Value × TypeId)} {W : World} (h : BL w L W) (b k : Nat) (v : Value) (A : Array Value) (t : TypeId) (hm : (b, A, t) ∈ L) (hb : w.heap.size ≤ b) (A' : Array Value) (hA : A.setIfInBounds k v = A') (L' : List (Nat × Array Value × TypeId)) (hL : ∀ p ∈ L', p = (b, A', t) ∨ (p ∈ L ∧ p.1 ≠ b)) : BL w L' (W.setCell ⟨b, k, none⟩ v) := by
  refine ⟨fun p hp => ?_, h.2.setCell (by simpa using hb) _⟩
  rcases hL p hp with rfl | ⟨hp, hn⟩
  · rw [← hA]; exact heap_set_same _ _ _ _ (h.1 _ hm)
  · exact (heap_set_other _ _ _ _ _ hn).trans (h.1 p hp)
theorem BL.put {w : World} {L : List (Nat × Array Value × TypeId)} {W : World} (h : BL w L W) (b : Nat) (A A' : Array Value) (t : TypeId) (hm : (b, A, t) ∈ L) (hb : w.heap.size ≤ b) (L' : List (Nat × Array Value × TypeId)) (hL : ∀ p ∈ L', p = (b, A', t) ∨ (p ∈ L ∧ p.1 ≠ b)) : BL w L' (blkPut W b A') := by
  refine ⟨fun p hp => ?_, below_blkPut h.2 hb _⟩
  rcases hL p hp with rfl | ⟨hp, hn⟩
  · exact heap_blkPut_same (h.1 _ hm) _
  · exact (heap_blkPut_other _ _ _ _ hn).trans (h.1 p hp)
theorem bytes_other {w w' : World} {g n : Nat} {zs : List Int} (h : Bytes w (.slice (some ⟨g, 0, none⟩) n n) zs) (hb : ∀ j, w'.cell? ⟨g, j, none⟩ = w.cell? ⟨g, j, none⟩) (hs : w.heap.size ≤ w'.heap.size) : Bytes w' (.slice (some ⟨g, 0, none⟩) n n) zs := by
  obtain ⟨p, cap, e, hl, hm, hc, hw⟩ := h
  refine ⟨p, cap, e, hl, hm, fun h0 => ?_, hw⟩
  obtain ⟨b, o, rfl, hbl, hcell⟩ := hc h0
  injection e with e1 e2 e3
  injection e1 with e1
  injection e1 with e1 e4
  subst e1
  exact ⟨g, o, rfl, Nat.lt_of_lt_of_le hbl hs, fun i hi => by rw [hb]; exact hcell i hi⟩
theorem bytes_set {w : World} {g n : Nat} {zs : List Int} (h : Bytes w (.slice (some ⟨g, 0, none⟩) n n) zs) (b k : Nat) (v : Value) (hn : b ≠ g) : Bytes (w.setCell ⟨b, k, none⟩ v) (.slice (some ⟨g, 0, none⟩) n n) zs :=
  bytes_other h (fun j => World.cell?_setCell_other w _ _ _ (by simp <;> omega)) (by simp)
theorem bytes_put {w : World} {g n : Nat} {zs : List Int} (h : Bytes w (.slice (some ⟨g, 0, none⟩) n n) zs) (b : Nat) (A : Array Value) (hn : b ≠ g) : Bytes (blkPut w b A) (.slice (some ⟨g, 0, none⟩) n n) zs :=
  bytes_other h (fun j => by simp only [World.cell?]; rw [heap_blkPut_other _ _ _ _ (fun e => hn e.symm)]) (by rw [size_blkPut]; exact Nat.le_refl _)
/-- Blocks, and the memory beside them. -/
def BM (w : World) (L : List (Nat × Array Value × TypeId)) (g n : Nat) (zs : List Int) (W : World) : Prop := BL w L W ∧ Bytes W (.slice (some ⟨g, 0, none⟩) n n) zs
theorem BM.below {w : World} {L : List (Nat × Array Value × TypeId)} {g n : Nat} {zs : List Int} {W W' : World} (h : BM w L g n zs W) (hb : Below W.heap.size W W') : BM w L g n zs W' := ⟨h.1.below hb, h.2.below hb⟩
theorem BM.drew {w : World} {L : List (Nat × Array Value × TypeId)} {g n : Nat} {zs : List Int} {W : World} (h : BM w L g n zs W) : BM w L g n zs W.drew := ⟨h.1.drew, h.2.drew⟩
theorem base_congr (r r' : Nat → Int) (zs : List Int) (h : r' 2 = r 2) (ro co : Int) : colI zs r' ro co = colI zs r ro co ∧ frontI zs r' ro co = frontI zs r ro co := by
  have hb : baseV r' = baseV r := by unfold baseV; rw [h]
  unfold colI frontI dotI hwV tnV
  rw [hb]; exact ⟨rfl, rfl⟩
theorem dots_congr (r r' : Nat → Int) (zs : List Int) (h : r' 2 = r 2) (line line' : Int) (j j' : Nat) (hl : 0 ≤ line ∧ line < 192) (hl' : 0 ≤ line' ∧ line' < 192) (hr : rowV r' line' j' = rowV r line j) (hc : colV r' line' j' = colV r line j) : cL zs r' line' j' = cL zs r line j ∧ fL zs r' line' j' = fL zs r line j := by
  unfold cL fL
  rw [if_pos hl, if_pos hl', if_pos hl, if_pos hl']
  unfold cF fF
  rw [hr, hc]
  exact base_congr r r' zs h _ _
theorem upd_same (f : Nat → Int) (k : Nat) (x : Int) : upd f k x k = x := by unfold upd; rw [if_pos rfl]
theorem upd_other (f : Nat → Int) (k j : Nat) (x : Int) (h : j ≠ k) : upd f k x j = f j := by unfold upd; rw [if_neg h]
theorem upd_rb {r : Nat → Int} (h : RB r) (k : Nat) (x : Int) (x0 : 0 ≤ x) (x1 : x < 256) : RB (upd r k x) := fun j hj => by
  unfold upd; split
  · exact ⟨x0, x1⟩
  · exact h j hj
theorem scroll_across (r : Nat → Int) (zs : List Int) (h0 : r 0 = 0) (b : Int) (b0 : 0 ≤ b) (b1 : b < 256) (k : Nat) (hk : k < 256) : cL zs (upd r 8 ((r 8 + b) % 256)) 20 (((k : Int) + b) % 256).toNat = cL zs r 20 k ∧ fL zs (upd r 8 ((r 8 + b) % 256)) 20 (((k : Int) + b) % 256).toNat = fL zs r 20 k := by
  refine dots_congr r _ zs (upd_other _ _ _ _ (by omega)) 20 20 k _ (by omega) (by omega) ?_ ?_
  · unfold rowV; rw [upd_other _ _ _ _ (by omega), upd_other _ _ _ _ (by omega), h0, if_neg (by simp), if_neg (by simp)]
  · unfold colV; rw [upd_other _ _ _ _ (by omega), upd_same, if_neg (by omega), if_neg (by omega), Int.toNat_of_nonneg (by omega)]; omega
theorem scroll_down (r : Nat → Int) (zs : List Int) (h0 : r 0 = 0) (n : Int) (n0 : 0 ≤ n) (n1 : n < 100) : G (cL zs (upd r 9 (r 9 + n)) 20) (fL zs (upd r 9 (r 9 + n)) 20) = G (cL zs r (20 + n)) (fL zs r (20 + n)) := by
  refine G_congr _ _ _ _ fun j hj => dots_congr r _ zs (upd_other _ _ _ _ (by omega)) (20 + n) 20 j j (by omega) (by omega) ?_ ?_
  · unfold rowV; rw [upd_other _ _ _ _ (by omega), upd_same, h0, if_neg (by simp), if_neg (by simp)]; congr 1; omega
  · unfold colV; rw [upd_other _ _ _ _ (by omega), upd_other _ _ _ _ (by omega), if_neg (by omega), if_neg (by omega)]
end Back
end Go.Proofs.Ytpjgcbbpfpcjeaa
