/- A line of the ground of a picture (layer 17): what the program's and the reference's functions do, part 6. No conditions but that numbers are of their kinds and slices are slices. -/
import Derived.Test.YtpjgcbbpfpcjeaaBack5
import Derived.RegionTactic
import Derived.LoopTactic
import Derived.Deep.RegionHeld3
import Derived.Lib.Hide
namespace Go.Proofs.Ytpjgcbbpfpcjeaa
open Go.RowKit
open Kit Tile TileR
set_option linter.unusedSimpArgs false
set_option linter.unusedVariables false
attribute [local simp] blkAt_alloc blkNew_cells putRow_cells blkAt_drew BlkN.set BlkOne.setInt BlkOne.setBool blkPut_alloc blkPut_drew blkAt_blkPut_other size_blkPut nq2 nq3 nq4 nq5 nq6 nq7 nq8
namespace Back
attribute [local simp ↓] rl_in
attribute [local simp] rl_run
attribute [local simp ↓] gl_in gs_in ds_in ag_in
attribute [local simp] gl_run gs_run ds_run ag_run
open TileB
theorem rdotL (r : Nat → Int) (h : RB r) (v : Value) (zs : List Int) (line : Int) (k : Nat) (hk : k < 256) (w : World) (hs : Bytes w v zs) : Calls Try.prog 12 #[v, .agg (R r), .int .i64 line, .int .i64 k] w fun e w' => e = .returned (.tuple #[.int .u8 (cL zs r line k), .bool (fL zs r line k)]) ∧ Below w.heap.size w w' := by
  unfold cL fL
  by_cases hl : 0 ≤ line ∧ line < 192
  · rw [if_pos hl, if_pos hl]; exact rdot_yes r h v zs line k hl.1 hl.2 (by omega) (by omega) w hs
  · rw [if_neg hl, if_neg hl]; exact rdot_no r v line k (by omega) w
theorem cL_bd (zs : List Int) (r : Nat → Int) (line : Int) (k : Nat) : 0 ≤ cL zs r line k ∧ cL zs r line k ≤ 31 := by
  unfold cL
  split
  · unfold cF colI
    have h1 : 0 ≤ dotI zs r (rowV r line k) (colV r line k) ∧ dotI zs r (rowV r line k) (colV r line k) < 16 := dotV_bd _ _ _ _
    omega
  · omega
theorem u8_wf {z : Int} (h : 0 ≤ z ∧ z < 256) : (Lit.int .u8 z).wf = true := by simp [Lit.wf, IntKind.min, IntKind.max, IntKind.signed, IntKind.bits]; omega
theorem leaves_gen (k : Option IntKind) (f : Nat → Value) (rest : List (Option IntKind)) (vs : List Value) (hr : leavesOk rest vs) : ∀ (n s : Nat), (∀ j, s ≤ j → j < s + n → match k with | some k => ∃ z, f j = .int k z ∧ (Lit.int k z).wf = true | none => ∃ b, f j = .bool b) → leavesOk (List.replicate n k ++ rest) ((List.range' s n).map f ++ vs)
  | 0, s, _ => by simpa using hr
  | n + 1, s, h => by
    rw [List.replicate_succ, List.range'_succ, List.map_cons, List.cons_append, List.cons_append]
    have h0 := h s (Nat.le_refl _) (by omega)
    have h1 := leaves_gen k f rest vs hr n (s + 1) (fun j a b => h j (by omega) (by omega))
    cases k with
    | none => exact ⟨h0, h1⟩
    | some k => exact ⟨h0, h1⟩
set_option maxRecDepth 100000 in
theorem leaves_G (c : Nat → Int) (f : Nat → Bool) (hc : ∀ j, 0 ≤ c j ∧ c j < 256) : leavesOk (List.replicate 256 (some .u8) ++ (List.replicate 256 none ++ [])) (G c f).toList := by
  have e : (G c f).toList = (List.range' 0 256).map (gv c f 256) ++ ((List.range' 256 256).map (gv c f 256) ++ []) := by
    unfold G O row
    rw [List.append_nil, ← List.map_append, show List.range' 0 256 ++ List.range' 256 256 = List.range' 0 512 from by rw [List.range'_append_1], ← List.range_eq_range']
    try simp
  rw [e]
  refine leaves_gen (some .u8) _ _ _ (leaves_gen none _ [] [] trivial 256 256 fun j a b => ?_) 256 0 fun j a b => ?_
  · unfold gv; rw [if_neg (by omega)]; exact ⟨_, rfl⟩
  · unfold gv; rw [if_pos (by omega), if_pos (by omega)]; exact ⟨_, rfl, u8_wf (hc j)⟩
set_option maxRecDepth 100000 in
theorem eqG (c : Nat → Int) (f : Nat → Bool) (hc : ∀ j, 0 ≤ c j ∧ c j < 256) (w : World) : (Op.equalIn 10000 29 (.agg (G c f)) (.agg (G c f))).run Try.prog w = .ok true w :=
  Kit.eq_self 6 6 29 (List.replicate 256 (some .u8) ++ (List.replicate 256 none ++ [])) (by kernel_rfl) (by kernel_rfl) (by decide) (by kernel_rfl) _ (leaves_G c f hc) (by kernel_rfl) w
def HS (w : World) (A : Array Value) (W : World) : Prop := W.heap[w.heap.size]? = some (.cells A 24) ∧ Below w.heap.size w W
theorem HS.below {w : World} {A : Array Value} {W W' : World} (h : HS w A W) (hb : Below W.heap.size W W') : HS w A W' := ⟨(hb.block _ (heap_lt h.1)).trans h.1, h.2.trans (hb.mono h.2.size)⟩
theorem wf_u8 {z : Int} (h : (Lit.int .u8 z).wf = true) : 0 ≤ z ∧ z < 256 := by
  simp [Lit.wf, IntKind.min, IntKind.max, IntKind.signed, IntKind.bits] at h; omega
theorem wf_i64 {z : Int} (h : (Lit.int .i64 z).wf = true) : -9223372036854775808 ≤ z ∧ z ≤ 9223372036854775807 := by
  simp [Lit.wf, IntKind.min, IntKind.max, IntKind.signed, IntKind.bits] at h; omega
def fOf (l : List Int) (j : Nat) : Int := l.getD j 0
theorem regs_eq (a1_0 : Int) (a1_1 : Int) (a1_2 : Int) (a1_3 : Int) (a1_4 : Int) (a1_5 : Int) (a1_6 : Int) (a1_7 : Int) (a1_8 : Int) (a1_9 : Int) (a1_10 : Int) : (#[.int .u8 a1_0, .int .u8 a1_1, .int .u8 a1_2, .int .u8 a1_3, .int .u8 a1_4, .int .u8 a1_5, .int .u8 a1_6, .int .u8 a1_7, .int .u8 a1_8, .int .u8 a1_9, .int .u8 a1_10] : Array Value) = R (fOf [a1_0, a1_1, a1_2, a1_3, a1_4, a1_5, a1_6, a1_7, a1_8, a1_9, a1_10]) := rfl
theorem regs_rb (a1_0 : Int) (a1_1 : Int) (a1_2 : Int) (a1_3 : Int) (a1_4 : Int) (a1_5 : Int) (a1_6 : Int) (a1_7 : Int) (a1_8 : Int) (a1_9 : Int) (a1_10 : Int) (w1_0 : (Lit.int .u8 a1_0).wf = true) (w1_1 : (Lit.int .u8 a1_1).wf = true) (w1_2 : (Lit.int .u8 a1_2).wf = true) (w1_3 : (Lit.int .u8 a1_3).wf = true) (w1_4 : (Lit.int .u8 a1_4).wf = true) (w1_5 : (Lit.int .u8 a1_5).wf = true) (w1_6 : (Lit.int .u8 a1_6).wf = true) (w1_7 : (Lit.int .u8 a1_7).wf = true) (w1_8 : (Lit.int .u8 a1_8).wf = true) (w1_9 : (Lit.int .u8 a1_9).wf = true) (w1_10 : (Lit.int .u8 a1_10).wf = true) : RB (fOf [a1_0, a1_1, a1_2, a1_3, a1_4, a1_5, a1_6, a1_7, a1_8, a1_9, a1_10]) := by
  intro j hj
  rcases (by omega : j = 0 ∨ j = 1 ∨ j = 2 ∨ j = 3 ∨ j = 4 ∨ j = 5 ∨ j = 6 ∨ j = 7 ∨ j = 8 ∨ j = 9 ∨ j = 10) with rfl | rfl | rfl | rfl | rfl | rfl | rfl | rfl | rfl | rfl | rfl
  · exact wf_u8 w1_0
  · exact wf_u8 w1_1
  · exact wf_u8 w1_2
  · exact wf_u8 w1_3
  · exact wf_u8 w1_4
  · exact wf_u8 w1_5
  · exact wf_u8 w1_6
  · exact wf_u8 w1_7
  · exact wf_u8 w1_8
  · exact wf_u8 w1_9
  · exact wf_u8 w1_10
set_option maxRecDepth 100000 in
set_option maxHeartbeats 4000000 in
theorem sources_all (r : Nat → Int) (h : RB r) (line x : Int) (x0 : -9223372036854775808 ≤ x) (x1 : x ≤ 9223372036854775807) (w : World) : Calls Try.prog 5 #[.agg (R r), .int .i64 line, .int .i64 x] w fun e w' => e = .returned (.bool true) ∧ Below w.heap.size w w' := by
  obtain ⟨co, ro, hs1, hs2, c0, c1, r0, r1⟩ : ∃ co ro : Int, (∀ W, Calls Try.prog 8 #[.agg (R r), .int .i64 line, .int .i64 x] W fun e w' => e = .returned (.tuple #[.int .i64 co, .int .i64 ro]) ∧ Below W.heap.size W w') ∧ (∀ W, Calls Try.prog 13 #[.agg (R r), .int .i64 line, .int .i64 x] W fun e w' => e = .returned (.tuple #[.int .i64 co, .int .i64 ro]) ∧ Below W.heap.size W w') ∧ 0 ≤ co ∧ co < 256 ∧ 0 ≤ ro ∧ ro < 224 := by
    by_cases hl : 0 ≤ line ∧ line < 192
    · exact ⟨_, _, source_yes r h line x hl.1 hl.2 x0 x1, rsource_yes r h line x hl.1 hl.2 x0 x1, (colV_bd r line x).1, (colV_bd r line x).2, (rowV_bd r line x hl.1 hl.2).1, (rowV_bd r line x hl.1 hl.2).2⟩
    · exact ⟨0, 0, source_no r line x (by omega), rsource_no r line x (by omega), by omega, by omega, by omega, by omega⟩
  have sA : BlkN (R r) 11 := R_size _
  have HAL := Lib.hid (heldP (T := HS w (R r)) (fun W W' h b => h.below b) alive_any)
  have H1 := Lib.hid (heldP (T := HS w (R r)) (fun W W' h b => h.below b) hs1)
  have H2 := Lib.hid (heldP (T := HS w (R r)) (fun W W' h b => h.below b) hs2)
  clear hs1 hs2
  generalize R r = A at *
  go_enter Try.func5, Try.ntmps5
  go_wp2_with (first | (go_at_call 9; (with_reducible refine (HAL.out _ ?_).mono ?_); (exact ⟨(by repeat (first | (refine heap_at _ _ _ ?_; first | (simp; done) | (simp; omega; done)) | (refine (heap_past _ _ _ ?_).trans ?_; focus (first | (simp; done) | (simp; omega; done))) | (refine (heap_drew _ _).trans ?_))), by go_grown⟩); rintro e w1 ⟨rfl, k1⟩; (have kb := blkAt_heap k1.1)) | (go_at_call 8; (with_reducible refine (H1.out _ ?_).mono ?_); (exact k1); rintro e w2 ⟨rfl, k2⟩; (have kc := blkAt_heap k2.1)) | (go_at_call 13; (with_reducible refine (H2.out _ ?_).mono ?_); (exact k2); rintro e w3 ⟨rfl, k3⟩))
  go_ret
  exact ⟨ret_bool (by simp), k3.2⟩
theorem backSources_walk (a0_0 : Int) (a0_1 : Int) (a0_2 : Int) (a0_3 : Int) (a0_4 : Int) (a0_5 : Int) (a0_6 : Int) (a0_7 : Int) (a0_8 : Int) (a0_9 : Int) (a0_10 : Int) (a1 a2 : Int) (w0_0 : (Lit.int .u8 a0_0).wf = true) (w0_1 : (Lit.int .u8 a0_1).wf = true) (w0_2 : (Lit.int .u8 a0_2).wf = true) (w0_3 : (Lit.int .u8 a0_3).wf = true) (w0_4 : (Lit.int .u8 a0_4).wf = true) (w0_5 : (Lit.int .u8 a0_5).wf = true) (w0_6 : (Lit.int .u8 a0_6).wf = true) (w0_7 : (Lit.int .u8 a0_7).wf = true) (w0_8 : (Lit.int .u8 a0_8).wf = true) (w0_9 : (Lit.int .u8 a0_9).wf = true) (w0_10 : (Lit.int .u8 a0_10).wf = true) (w1 : (Lit.int .i64 a1).wf = true) (w2 : (Lit.int .i64 a2).wf = true) (w : World) : Calls Try.prog 5 #[.agg #[.int .u8 a0_0, .int .u8 a0_1, .int .u8 a0_2, .int .u8 a0_3, .int .u8 a0_4, .int .u8 a0_5, .int .u8 a0_6, .int .u8 a0_7, .int .u8 a0_8, .int .u8 a0_9, .int .u8 a0_10], .int .i64 a1, .int .i64 a2] w fun e w' => e = .returned (.bool true) ∧ Below w.heap.size w w' := by
  rw [show (#[.int .u8 a0_0, .int .u8 a0_1, .int .u8 a0_2, .int .u8 a0_3, .int .u8 a0_4, .int .u8 a0_5, .int .u8 a0_6, .int .u8 a0_7, .int .u8 a0_8, .int .u8 a0_9, .int .u8 a0_10] : Array Value) = R (fOf [a0_0, a0_1, a0_2, a0_3, a0_4, a0_5, a0_6, a0_7, a0_8, a0_9, a0_10]) from rfl]
  exact sources_all _ (regs_rb a0_0 a0_1 a0_2 a0_3 a0_4 a0_5 a0_6 a0_7 a0_8 a0_9 a0_10 w0_0 w0_1 w0_2 w0_3 w0_4 w0_5 w0_6 w0_7 w0_8 w0_9 w0_10) a1 a2 (wf_i64 w2).1 (wf_i64 w2).2 w
end Back
end Go.Proofs.Ytpjgcbbpfpcjeaa
