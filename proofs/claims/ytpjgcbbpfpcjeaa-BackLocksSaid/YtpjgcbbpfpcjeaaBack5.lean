/- A line of the ground of a picture (layer 17): what the program's and the reference's functions do, part 5. No conditions but that numbers are of their kinds and slices are slices. -/
import Derived.Test.YtpjgcbbpfpcjeaaBack4
import Derived.Test.YtpjgcbbpfpcjeaaBackB
import Derived.Test.YtpjgcbbpfpcjeaaKit2
import Derived.RegionTactic
import Derived.LoopTactic
import Derived.Deep.RegionHeld3
import Derived.Lib.Hide
namespace Go.Proofs.Ytpjgcbbpfpcjeaa
open Go.RowKit
open Kit Tile TileR
set_option linter.unusedSimpArgs false
set_option linter.unusedVariables false
attribute [local simp] blkAt_alloc blkNew_cells putRow_cells blkAt_drew BlkN.set BlkOne.setInt BlkOne.setBool blkPut_alloc blkPut_drew blkAt_blkPut_other size_blkPut nq2 nq3 nq4 nq5 nq6 nq7 nq8
namespace Back
attribute [local simp ↓] rl_in
attribute [local simp] rl_run
attribute [local simp ↓] gl_in gs_in ds_in ag_in
attribute [local simp] gl_run gs_run ds_run ag_run
open TileB
def cL (zs : List Int) (r : Nat → Int) (line : Int) (j : Nat) : Int := if 0 ≤ line ∧ line < 192 then cF zs r line j else 0
def fL (zs : List Int) (r : Nat → Int) (line : Int) (j : Nat) : Bool := if 0 ≤ line ∧ line < 192 then fF zs r line j else false
theorem G_zero : G (fun _ => 0) (fun _ => false) = Z512 := by
  unfold G; rw [← O_zero (fun _ => 0) (fun _ => false)]
  exact row_congr _ _ _ fun j _ => by unfold gv; simp
set_option maxRecDepth 100000 in
set_option maxHeartbeats 4000000 in
theorem line_no (r : Nat → Int) (v : Value) (line : Int) (h : line < 0 ∨ 192 ≤ line) (w : World) : Calls Try.prog 10 #[v, .agg (R r), .int .i64 line] w fun e w' => e = .returned (.agg Z512) ∧ Below w.heap.size w w' := by
  have zN := z512N
  have zO := z512O
  have ne1 : ¬ (w.heap.size + 1 + 1 = w.heap.size + 1) := by omega
  generalize R r = A at *

  rcases h with h | h
  · go_enter Try.func10, Try.ntmps10
    go_wp2_with fail
    exact bodyPost_ret (v := .agg _) (results_cell_row rfl _ _ (w.heap.size + 1) 29 _ (0, 0) _ rfl (by repeat (first | (refine heap_at _ _ _ ?_; first | (simp; done) | (simp; omega; done)) | (refine (heap_past _ _ _ ?_).trans ?_; focus (first | (simp; done) | (simp; omega; done))) | (refine (heap_drew _ _).trans ?_))) Try.underlying29 rfl (by rw [show Z512.size = 512 from zN]; exact i512)) rfl ⟨rfl, by go_grown⟩
  · have h1 : ¬ line < 0 := by omega
    go_enter Try.func10, Try.ntmps10
    go_wp2_with fail
    exact bodyPost_ret (v := .agg _) (results_cell_row rfl _ _ (w.heap.size + 1) 29 _ (0, 0) _ rfl (by repeat (first | (refine heap_at _ _ _ ?_; first | (simp; done) | (simp; omega; done)) | (refine (heap_past _ _ _ ?_).trans ?_; focus (first | (simp; done) | (simp; omega; done))) | (refine (heap_drew _ _).trans ?_))) Try.underlying29 rfl (by rw [show Z512.size = 512 from zN]; exact i512)) rfl ⟨rfl, by go_grown⟩
theorem line_any (r : Nat → Int) (h : RB r) (v : Value) (zs : List Int) (line : Int) (w : World) (hs : Bytes w v zs) : Calls Try.prog 10 #[v, .agg (R r), .int .i64 line] w fun e w' => e = .returned (.agg (G (cL zs r line) (fL zs r line))) ∧ Below w.heap.size w w' := by
  by_cases hl : 0 ≤ line ∧ line < 192
  · have e : G (cL zs r line) (fL zs r line) = G (cF zs r line) (fF zs r line) := G_congr _ _ _ _ fun j _ => by unfold cL fL; rw [if_pos hl, if_pos hl]; exact ⟨rfl, rfl⟩
    rw [e]; exact line_yes r h v zs line hl.1 hl.2 w hs
  · have e : G (cL zs r line) (fL zs r line) = Z512 := by
      rw [← G_zero]
      exact G_congr _ _ _ _ fun j _ => by unfold cL fL; rw [if_neg hl, if_neg hl]; exact ⟨rfl, rfl⟩
    rw [e]; exact line_no r v line (by omega) w
theorem arr_made {w' : World} {g n : Nat} {base : Nat} (h : w'.ownsRow base 5 1 (.slice (some ⟨g, 0, none⟩) n n) n (madeCells (Value.cells (.int .u8 0)) (n * 1)).toList) : Arr w' g n (fun _ => .int .u8 0) := by
  intro j hj
  refine ⟨?_, h.frozenAt j⟩
  rw [h.cellAt j (by omega)]
  simp [madeCells, Value.cells, Nat.mod_one, hj]
def ZS : List Int := List.replicate 64 255
theorem zs_get (j : Nat) (hj : j < 64) : ZS.getD j 0 = 255 := by
  have h : allB 64 (fun j => decide (ZS.getD j 0 = 255)) = true := by decide +kernel
  simpa using allB_at h hj
theorem bytes_zs {w : World} {g : Nat} (h : Arr w g 64 (fun j => .int .u8 255)) : Bytes w (.slice (some ⟨g, 0, none⟩) 64 64) ZS :=
  ⟨some ⟨g, 0, none⟩, 64, rfl, by decide, by decide, fun _ => ⟨g, 0, rfl, h.lt (by omega), fun i hi => by rw [Nat.zero_add, zs_get i hi]; exact h.cell i hi⟩, by decide⟩
def rA (j : Nat) : Int := if j = 8 then 1 else 0
def rC (j : Nat) : Int := if j = 2 then 14 else 0
theorem rA_b : RB rA := fun j _ => by unfold rA; split <;> omega
theorem rC_b : RB rC := fun j _ => by unfold rC; split <;> omega
theorem rA_e : R rA = #[.int .u8 0, .int .u8 0, .int .u8 0, .int .u8 0, .int .u8 0, .int .u8 0, .int .u8 0, .int .u8 0, .int .u8 1, .int .u8 0, .int .u8 0] := by rfl
theorem rC_e : R rC = #[.int .u8 0, .int .u8 0, .int .u8 14, .int .u8 0, .int .u8 0, .int .u8 0, .int .u8 0, .int .u8 0, .int .u8 0, .int .u8 0, .int .u8 0] := by rfl
theorem g_0 : cF ZS rC 0 0 = 15 := by decide +kernel
theorem g_255 : cF ZS rC 0 255 = 15 := by decide +kernel
theorem g_f : fF ZS rC 0 0 = false := by decide +kernel
set_option maxRecDepth 100000 in
set_option maxHeartbeats 4000000 in
theorem alive_any (w : World) : Calls Try.prog 9 #[] w fun e w' => e = .returned (.bool true) ∧ Below w.heap.size w w' := by
  obtain ⟨i0, hi, hz0, hz1, hz2⟩ := info_parts info8
  have hsrc := source_yes rA rA_b 5 0 (by omega) (by omega) (by omega) (by omega)
  rw [rA_e, show colV rA 5 0 = 255 by decide, show rowV rA 5 0 = 5 by decide] at hsrc
  have hline := fun v W hW => line_yes rC rC_b v ZS 0 (by omega) (by omega) W hW
  rw [rC_e] at hline
  have g0 := G_c (cF ZS rC 0) (fF ZS rC 0) 0 (by omega)
  have g1 := G_c (cF ZS rC 0) (fF ZS rC 0) 255 (by omega)
  have g2 := G_f (cF ZS rC 0) (fF ZS rC 0) 0 (by omega)
  rw [g_0] at g0
  rw [g_255] at g1
  rw [g_f] at g2
  have gN : BlkN (G (cF ZS rC 0) (fF ZS rC 0)) 512 := O_size _ _ _
  have gO : BlkOne (G (cF ZS rC 0) (fF ZS rC 0)) := O_one _ _ _
  have zN := z512N
  generalize G (cF ZS rC 0) (fF ZS rC 0) = GG at *
  have HSRC := Lib.hid hsrc
  have HLINE := Lib.hid hline
  clear hsrc hline
  go_enter Try.func9, Try.ntmps9
  go_wp2_with fail
  refine (HSRC.out _).mono ?_
  rintro e wa ⟨rfl, ba⟩
  go_wp2_with (at_make; refine wpList_make_full _ rfl _ _ 31 rfl (wa.heap.size) 5 i0 (.int .u8 0) 1 Try.underlying31 hi hz0 hz1 .i64 .i64 _ _ 64 rfl rfl (by omega) (by omega) (by rw [hz2]; omega) (by unfold maxLen; omega) (by simp) ?_; intro w1 hown hgrow; have hA := arr_made hown; have hgs := own_lt hown; have q1 : Below wa.heap.size wa w1 := (Below.refl _ _).grown hgrow (by simp) (fun k hk => by cases hk); (have HA := Lib.hid hA); clear hown hgrow hA)
  have q2 : Below w.heap.size w w1 := ba.trans (q1.mono ba.size)
  have hgw := ba.size
  have hA0 : Hid (Arr w1 wa.heap.size 64 (fun j => .int .u8 (if j < 0 then 255 else 0))) := Lib.hid (HA.out.same _ fun j _ => by rw [if_neg (Nat.not_lt_zero j)])
  clear q1 ba hi hz0 hz1 hz2 HA
  generalize wa.heap.size = g at *
  go_loopw [14] (fun i wr => ∃ k : Nat, k ≤ 64 ∧ i = .int .i64 k ∧ Arr wr g 64 (fun j => .int .u8 (if j < k then 255 else 0)) ∧ Below w.heap.size w wr) (fun i _ => (64 - intOf i).toNat)
  case atStart => exact ⟨0, by omega, rfl, hA0.out, q2⟩
  case round =>
    obtain ⟨k, hk, rfl, hA, hB⟩ := hrel
    clear hA0 q2
    by_cases hlt : k < 64
    case pos =>
      have cq := hA.cell k hlt
      have fq := hA.free k hlt
      simp only [Nat.lt_irrefl, if_false] at cq
      have n0 : (0 : Int) ≤ (k : Int) := by omega
      have n1 : (k : Int) < 64 := by omega
      have HA := Lib.hid hA
      clear hA
      go_wp2_with fail
      go_roundw
      case rel => exact ⟨k + 1, by omega, by go_num, HA.out.set k _ hlt _ (fun j hj => by
        by_cases e : j = k
        · rw [if_pos e, if_pos (by omega)]
        · rw [if_neg e]
          by_cases e2 : j < k
          · rw [if_pos e2, if_pos (by omega)]
          · rw [if_neg e2, if_neg (by omega)]), hB.setCell (by simpa using hgw) _⟩
      case measure => simp [intOf] <;> omega
    case neg =>
    have hk4 : k = 64 := by omega
    subst hk4
    have hby : Bytes wr (.slice (some ⟨g, 0, none⟩) 64 64) ZS := bytes_zs (hA.same _ fun j hj => by rw [if_pos hj])
    clear hA hk hlt
    go_wp2_with (go_at_call 10; (with_reducible refine (HLINE.out _ _ hby).mono ?_); rintro e wl ⟨rfl, bl⟩)
    go_ret
    exact ⟨ret_bool (by simp), (hB.trans (bl.mono hB.size)).alloc (Nat.le_trans hB.size bl.size) _⟩
end Back
end Go.Proofs.Ytpjgcbbpfpcjeaa
