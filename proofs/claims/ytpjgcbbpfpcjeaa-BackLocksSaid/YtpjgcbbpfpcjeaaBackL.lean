/- A line of the ground of a picture (layer 17): what the program's and the reference's functions do, part 11. No conditions but that numbers are of their kinds and slices are slices. -/
import Derived.Test.YtpjgcbbpfpcjeaaBack9
import Derived.RegionTactic
import Derived.LoopTactic
import Derived.Deep.DeepCutAuto
import Derived.Deep.CutRange
import Derived.Deep.RegionHeld3
import Derived.Lib.Hide
namespace Go.Proofs.Ytpjgcbbpfpcjeaa
open Go.RowKit
open Kit Tile TileR
set_option linter.unusedSimpArgs false
set_option linter.unusedVariables false
attribute [local simp] blkAt_alloc blkNew_cells putRow_cells blkAt_drew BlkN.set BlkOne.setInt BlkOne.setBool blkPut_alloc blkPut_drew blkAt_blkPut_other size_blkPut nq2 nq3 nq4 nq5 nq6 nq7 nq8
namespace Back
attribute [local simp ↓] rl_in
attribute [local simp] rl_run
attribute [local simp ↓] gl_in gs_in ds_in ag_in
attribute [local simp] gl_run gs_run ds_run ag_run
open TileB
attribute [local simp ↓] rs_in
attribute [local simp] rs_run
theorem o192 : ∀ v, v < 256 → v ||| 192 = v % 64 + 192 := byte_all _ _ (by decide +kernel)
theorem or192 (v : Int) (v0 : 0 ≤ v) (v1 : v < 256) : Go.bits .or .u8 v 192 = v % 64 + 192 := by
  obtain ⟨v, rfl⟩ := Int.eq_ofNat_of_zero_le v0
  simp only [Kit.and8l, Kit.or8l, Kit.xor8l, Kit.andn8l, Kit.and16l, Kit.or16l, Kit.divl, Kit.modl, Kit.addn, Kit.muln, Kit.addl, Kit.mull, Kit.lmul, Kit.ladd, Kit.and8, Kit.or8, Kit.xor8, Kit.andn8, Kit.and16, Kit.or16, Kit.xor16, Kit.wrap16, Kit.wrap8, Kit.land8, Kit.lor8, Kit.lxor8, Kit.landn8, Kit.land16, Kit.lor16, Kit.lxor16]
  rw [Nat.mod_eq_of_lt (show v < 256 by omega), show 192 % 256 = 192 from rfl, o192 v (by omega)]
  try rfl
theorem blkAt_below {X W : World} (h : Below X.heap.size X W) (b : Nat) (hb : b < X.heap.size) : blkAt W b = blkAt X b := by unfold blkAt; rw [h.block b hb]
theorem BM.allocX {w : World} {L : List (Nat × Array Value × TypeId)} {g n : Nat} {zs : List Int} {W : World} (h : BM w L g n zs W) (o : Obj) : BM w L g n zs (W.alloc o) := h.below ((Below.refl _ _).alloc (Nat.le_refl _) _)
theorem BM.allocB {w : World} {L : List (Nat × Array Value × TypeId)} {g n : Nat} {zs : List Int} {W : World} (h : BM w L g n zs W) (A : Array Value) (t : TypeId) : BM w ((W.heap.size, A, t) :: L) g n zs (W.alloc (.cells A t)) := ⟨h.1.alloc A t, h.2.alloc _⟩
theorem BM.putB {w : World} {L : List (Nat × Array Value × TypeId)} {g n : Nat} {zs : List Int} {W : World} (h : BM w L g n zs W) (b : Nat) (A A' : Array Value) (t : TypeId) (hm : (b, A, t) ∈ L) (hb : w.heap.size ≤ b) (hg : b ≠ g) (L' : List (Nat × Array Value × TypeId)) (hL : ∀ p ∈ L', p = (b, A', t) ∨ (p ∈ L ∧ p.1 ≠ b)) : BM w L' g n zs (blkPut W b A') := ⟨h.1.put b A A' t hm hb L' hL, bytes_put h.2 b A' hg⟩
theorem BM.subB {w : World} {L L' : List (Nat × Array Value × TypeId)} {g n : Nat} {zs : List Int} {W : World} (h : BM w L g n zs W) (hs : ∀ p ∈ L', p ∈ L) : BM w L' g n zs W := ⟨h.1.sub hs, h.2⟩
theorem BM.s3 {w : World} {b b' : Nat} {A A' : Array Value} {t t' : TypeId} {g n : Nat} {zs : List Int} {W : World} (h : BM w [(b, A, t), (b', A', t')] g n zs W) : W.rangeAt b 0 A.toList ∧ W.rangeAt b' 0 A'.toList ∧ BM w [(b, A, t), (b', A', t')] g n zs W :=
  ⟨fun j v hv => by rw [Nat.zero_add, cell_of _ _ j h.1.h0]; simpa using hv, fun j v hv => by rw [Nat.zero_add, cell_of _ _ j h.1.h1]; simpa using hv, h⟩
theorem lock_top (r : Nat → Int) (zs : List Int) (h : r 0 / 64 % 2 = 1) (b : Int) : G (cL zs (upd r 8 b) 7) (fL zs (upd r 8 b) 7) = G (cL zs r 7) (fL zs r 7) := by
  refine G_congr _ _ _ _ fun j hj => dots_congr r _ zs (upd_other _ _ _ _ (by omega)) 7 7 j j (by omega) (by omega) ?_ ?_
  · unfold rowV; rw [upd_other _ _ _ _ (by omega), upd_other _ _ _ _ (by omega)]
  · unfold colV; rw [upd_other _ _ _ _ (by omega), if_pos ⟨h, by omega⟩, if_pos ⟨h, by omega⟩]
theorem lock_right (r : Nat → Int) (zs : List Int) (h : r 0 / 128 = 1) (b : Int) (k : Nat) (h1 : 192 ≤ k) (h2 : k < 256) : cL zs (upd r 9 b) 90 k = cL zs r 90 k ∧ fL zs (upd r 9 b) 90 k = fL zs r 90 k := by
  refine dots_congr r _ zs (upd_other _ _ _ _ (by omega)) 90 90 k k (by omega) (by omega) ?_ ?_
  · unfold rowV; rw [upd_other _ _ _ _ (by omega), if_pos ⟨h, by omega⟩, if_pos ⟨h, by omega⟩]
  · unfold colV; rw [upd_other _ _ _ _ (by omega), upd_other _ _ _ _ (by omega)]
set_option maxRecDepth 100000 in
set_option maxHeartbeats 16000000 in
theorem locks_all (v1 v2 : Value) (z1 z2 : List Int) (m a : Int) (r : Nat → Int) (h : RB r) (b0 b1 : Int) (hb0 : 0 ≤ b0 ∧ b0 < 256) (hb1 : 0 ≤ b1 ∧ b1 < 256) (a0' : -9223372036854775808 ≤ a) (a1' : a ≤ 9223372036854775807) (w : World) (hs1 : IntsOf w v1 .u8 z1) (hs2 : IntsOf w v2 .u8 z2) : Calls Try.prog 7 #[.agg #[v1, v2, .int .i64 m, .int .i64 a], .agg (R r), .agg #[.int .u8 b0, .int .u8 b1]] w fun e w' => e = .returned (.bool true) ∧ Below w.heap.size w w' := by
  have hB := fun (n2 : z2.length ≤ 300) (W : World) (q : Below w.heap.size w W) => build_far v1 v2 m a z1 z2 W a0' a1' n2 (Bytes.below hs1 q) (Bytes.below hs2 q)
  have hal := fun L => heldP (T := BL w L) (fun W W' h b => h.below b) alive_any
  have sA : BlkN (R r) 11 := R_size _
  have oA : BlkOne (R r) := R_one _
  have HB := Lib.hid hB
  have HAL := Lib.hid (hal [(w.heap.size, #[v1, v2, .int .i64 m, .int .i64 a], 33), (w.heap.size + 1, R r, 24), (w.heap.size + 1 + 1, #[.int .u8 b0, .int .u8 b1], 39)])
  clear hB hal a0' a1'
  obtain ⟨p1, c1, rfl, hl1, hm1, -, -⟩ := hs1
  obtain ⟨p2, c2, rfl, hl2, hm2, -, -⟩ := hs2
  unfold maxLen at hm1 hm2
  by_cases n1 : z1.length ≤ 300
  case neg =>
    have t1 : decide (300 < z1.length) = true := decide_eq_true (by omega)
    have t1' : 300 < z1.length := by omega
    generalize R r = A at *
    go_enter Try.func7, Try.ntmps7
    go_wp2_with (go_at_call 9; (with_reducible refine (HAL.out _ ?_).mono ?_); (exact BL.start3 _ _ _ _ _ _ _); rintro e w1 ⟨rfl, k1⟩; (have a0 : w1.cell? ⟨w.heap.size, 0, none⟩ = some (.slice p1 z1.length c1) := (cell_of _ _ 0 k1.h0).trans rfl); (have a1 : w1.cell? ⟨w.heap.size, 1, none⟩ = some (.slice p2 z2.length c2) := (cell_of _ _ 1 k1.h0).trans rfl); (have a2 : w1.cell? ⟨w.heap.size, 2, none⟩ = some (.int .i64 m) := (cell_of _ _ 2 k1.h0).trans rfl); (have a3 : w1.cell? ⟨w.heap.size, 3, none⟩ = some (.int .i64 a) := (cell_of _ _ 3 k1.h0).trans rfl))
    go_ret
    exact ⟨ret_bool (by simp), k1.2⟩
  have t1 : decide (300 < z1.length) = false := decide_eq_false (by omega)
  have t1' : ¬ 300 < z1.length := by omega
  by_cases n2 : z2.length ≤ 300
  case neg =>
    have t2 : decide (300 < z2.length) = true := decide_eq_true (by omega)
    have t2' : 300 < z2.length := by omega
    generalize R r = A at *
    go_enter Try.func7, Try.ntmps7
    go_wp2_with (go_at_call 9; (with_reducible refine (HAL.out _ ?_).mono ?_); (exact BL.start3 _ _ _ _ _ _ _); rintro e w1 ⟨rfl, k1⟩; (have a0 : w1.cell? ⟨w.heap.size, 0, none⟩ = some (.slice p1 z1.length c1) := (cell_of _ _ 0 k1.h0).trans rfl); (have a1 : w1.cell? ⟨w.heap.size, 1, none⟩ = some (.slice p2 z2.length c2) := (cell_of _ _ 1 k1.h0).trans rfl); (have a2 : w1.cell? ⟨w.heap.size, 2, none⟩ = some (.int .i64 m) := (cell_of _ _ 2 k1.h0).trans rfl); (have a3 : w1.cell? ⟨w.heap.size, 3, none⟩ = some (.int .i64 a) := (cell_of _ _ 3 k1.h0).trans rfl))
    go_ret
    exact ⟨ret_bool (by simp), k1.2⟩
  have t2 : decide (300 < z2.length) = false := decide_eq_false (by omega)
  have t2' : ¬ 300 < z2.length := by omega
  obtain ⟨x0, x1⟩ := h 0 (by omega)
  have hor := or192 (r 0) x0 x1
  have hr0 : RB (upd r 0 (r 0 % 64 + 192)) := upd_rb h 0 _ (by omega) (by omega)
  obtain ⟨s, hs⟩ : ∃ s, upd r 0 (r 0 % 64 + 192) = s := ⟨_, rfl⟩
  have hset0 : (R r).setIfInBounds 0 (.int .u8 (r 0 % 64 + 192)) = R s := by rw [R_set, hs]
  have hs0 : s 0 = r 0 % 64 + 192 := by rw [← hs, upd_same]
  have t64 : s 0 / 64 % 2 = 1 := by omega
  have t128 : s 0 / 128 = 1 := by omega
  rw [hs] at hr0
  have hra := R_get r 0 (by omega)
  have y0 : 0 ≤ r 0 % 64 + 192 := by omega
  have y1 : r 0 % 64 + 192 < 256 := by omega
  generalize R r = A at *
  generalize r 0 % 64 + 192 = y at *
  generalize r 0 = x at *
  clear h hs hs0
  obtain ⟨hb0a, hb0b⟩ := hb0
  obtain ⟨hb1a, hb1b⟩ := hb1
  have sS : BlkN (R s) 11 := R_size _
  have oS : BlkOne (R s) := R_one _
  have hset8 : (R s).setIfInBounds 8 (.int .u8 b0) = R (upd s 8 b0) := R_set _ _ _
  have hset9 : (R s).setIfInBounds 9 (.int .u8 b1) = R (upd s 9 b1) := R_set _ _ _
  have s8 := R_get s 8 (by omega)
  have s9 := R_get s 9 (by omega)
  have HSET0 := Lib.hid hset0
  have HSET8 := Lib.hid hset8
  have HSET9 := Lib.hid hset9
  have HR0 := Lib.hid hr0
  have T64 := Lib.hid t64
  have T128 := Lib.hid t128
  have zz := z11
  have zN := z512N
  have zO := z512O
  clear hset0 hset8 hset9 hr0 t64 t128
  go_enter Try.func7, Try.ntmps7
  go_upto_region 6 with (first | (go_at_call 9; (with_reducible refine (HAL.out _ ?_).mono ?_); (exact BL.start3 _ _ _ _ _ _ _); rintro e w1 ⟨rfl, k1⟩; (have a0 : w1.cell? ⟨w.heap.size, 0, none⟩ = some (.slice p1 z1.length c1) := (cell_of _ _ 0 k1.h0).trans rfl); (have a1 : w1.cell? ⟨w.heap.size, 1, none⟩ = some (.slice p2 z2.length c2) := (cell_of _ _ 1 k1.h0).trans rfl); (have a2 : w1.cell? ⟨w.heap.size, 2, none⟩ = some (.int .i64 m) := (cell_of _ _ 2 k1.h0).trans rfl); (have a3 : w1.cell? ⟨w.heap.size, 3, none⟩ = some (.int .i64 a) := (cell_of _ _ 3 k1.h0).trans rfl)) | (go_at_call 11; (with_reducible refine (HB.out n2 _ ?_).mono ?_); (exact k1.2); rintro e w2 ⟨g, n, zs, rfl, hz, hb2, hg, hg2⟩; (have k2 := k1.below hb2); (have sz1 := heap_lt k1.h2); (have HG := Lib.hid hg); (have HG2 := Lib.hid hg2); (clear a0 a1 a2 a3 hg hg2)))
  have hg := HG.out
  have hg2 := HG2.out
  have c6 := (cell_of _ _ 0 k2.h1).trans hra
  have f6 := free_of _ _ 0 k2.h1
  have sz2 := hb2.size
  go_upto_region 7 with fail
  have k3 : BL w [(w.heap.size + 1, R s, 24), (w.heap.size + 1 + 1, #[.int .u8 b0, .int .u8 b1], 39)] (w2.setCell ⟨w.heap.size + 1, 0, none⟩ (.int .u8 y)) := k2.set _ 0 _ A 24 (by simp) (by omega) _ HSET0.out _ (by intro p hp; simp only [List.mem_cons, List.not_mem_nil, or_false] at hp; rcases hp with rfl | rfl <;> first | exact .inl rfl | exact .inr ⟨by simp, by simp <;> omega⟩)
  have hz3 := bytes_set hz (w.heap.size + 1) 0 (.int .u8 y) (by omega)
  have hg3 : g < (w2.setCell ⟨w.heap.size + 1, 0, none⟩ (.int .u8 y)).heap.size := by simpa using hg2
  have sz3 : w.heap.size + 1 + 1 < (w2.setCell ⟨w.heap.size + 1, 0, none⟩ (.int .u8 y)).heap.size := by simp; omega
  generalize w2.setCell ⟨w.heap.size + 1, 0, none⟩ (.int .u8 y) = w3 at *
  clear c6 f6 k2 hz k1 hb2
  have e7 := blkAt_heap k3.h0
  go_upto_region 8 with fail
  have k4 := k3.alloc (R s) 24
  have hz4 := hz3.alloc (.cells (R s) 24)
  have szw : w3.heap.size < (w3.alloc (.cells (R s) 24)).heap.size := by simp
  generalize w3.alloc (.cells (R s) 24) = w4 at *
  generalize w3.heap.size = mb at *
  clear e7 k3 hz3
  have c8 := (cell_of _ _ 8 k4.h0).trans s8
  have f8 := free_of _ _ 8 k4.h0
  have cb : w4.cell? ⟨w.heap.size + 1 + 1, 0, none⟩ = some (.int .u8 b0) := (cell_of _ _ 0 k4.h2).trans rfl
  go_upto_region 9 with fail
  have k5 : BL w [(mb, R (upd s 8 b0), 24), (w.heap.size + 1, R s, 24), (w.heap.size + 1 + 1, #[.int .u8 b0, .int .u8 b1], 39)] (w4.setCell ⟨mb, 8, none⟩ (.int .u8 b0)) := k4.set mb 8 _ (R s) 24 (by simp) (by omega) _ HSET8.out _ (by intro p hp; simp only [List.mem_cons, List.not_mem_nil, or_false] at hp; rcases hp with rfl | rfl | rfl <;> first | exact .inl rfl | exact .inr ⟨by simp, by simp <;> omega⟩)
  have hz5 := bytes_set hz4 mb 8 (.int .u8 b0) (by omega)
  have szx : mb < (w4.setCell ⟨mb, 8, none⟩ (.int .u8 b0)).heap.size := by simpa using szw
  generalize w4.setCell ⟨mb, 8, none⟩ (.int .u8 b0) = w5 at *
  clear c8 f8 cb k4 hz4
  have hr8 : RB (upd s 8 b0) := upd_rb HR0.out _ _ hb0a hb0b
  have hl1 := line_any _ hr8 (.slice (some ⟨g, 0, none⟩) n n) zs 7
  have hl2 := line_any s HR0.out (.slice (some ⟨g, 0, none⟩) n n) zs 7
  rw [lock_top s zs T64.out b0] at hl1
  have heq := eqG (cL zs s 7) (fL zs s 7) (fun j => ⟨(cL_bd _ _ _ j).1, by have := (cL_bd zs s 7 j).2; omega⟩)
  have sM : BlkN (R (upd s 8 b0)) 11 := R_size _
  generalize G (cL zs s 7) (fL zs s 7) = GT at *
  generalize R (upd s 8 b0) = M8 at *
  have L3 : Nat → Nat := id
  have H1 := Lib.hid (fun W (hW : BM w [(mb, M8, 24), (w.heap.size + 1, R s, 24), (w.heap.size + 1 + 1, #[.int .u8 b0, .int .u8 b1], 39)] g n zs W) => (hl1 W hW.2).mono fun e w' ⟨e1, e2⟩ => (⟨e1, hW.below e2⟩ : e = Ending.returned (.agg GT) ∧ BM w [(mb, M8, 24), (w.heap.size + 1, R s, 24), (w.heap.size + 1 + 1, #[.int .u8 b0, .int .u8 b1], 39)] g n zs w'))
  have H2 := Lib.hid (fun W (hW : BM w [(mb, M8, 24), (w.heap.size + 1, R s, 24), (w.heap.size + 1 + 1, #[.int .u8 b0, .int .u8 b1], 39)] g n zs W) => (hl2 W hW.2).mono fun e w' ⟨e1, e2⟩ => (⟨e1, hW.below e2⟩ : e = Ending.returned (.agg GT) ∧ BM w [(mb, M8, 24), (w.heap.size + 1, R s, 24), (w.heap.size + 1 + 1, #[.int .u8 b0, .int .u8 b1], 39)] g n zs w'))
  have km : BM w [(mb, M8, 24), (w.heap.size + 1, R s, 24), (w.heap.size + 1 + 1, #[.int .u8 b0, .int .u8 b1], 39)] g n zs w5 := ⟨k5, hz5⟩
  have bm1 := blkAt_heap k5.h0
  have bm2 := blkAt_heap k5.h1
  have sz5 : mb < w5.heap.size := szx
  clear hl1 hl2 hr8 k5 hz5 L3
  go_cut [40] from 34 to 40 (fun t wx => t = .bool false ∧ BM w [(mb, M8, 24), (w.heap.size + 1, R s, 24), (w.heap.size + 1 + 1, #[.int .u8 b0, .int .u8 b1], 39)] g n zs wx)
  case first =>
    go_region_with ((go_at_call 10; (first | (with_reducible refine (H1.out _ ?_).mono ?_) | (with_reducible refine (H2.out _ ?_).mono ?_)); (first | assumption | (exact BM.drew (by assumption))); rintro e w6 ⟨rfl, k6⟩; (have c1 := blkAt_heap k6.1.h0); (have c2 := blkAt_heap k6.1.h1)))
    all_goals (go_wp2_with fail; go_meet; exact ⟨rfl, by first | assumption | exact BM.drew (by assumption)⟩)
  case rest =>
    obtain ⟨rfl, kc, hzc⟩ := hcut
    clear H1 H2 heq km bm1 bm2
    have e11 := blkAt_heap kc.h1
    have e12 := blkAt_heap kc.h0
    have szc := heap_lt kc.h0
    go_upto_region 12 with fail
    have k8 : BL w [(mb, R s, 24), (w.heap.size + 1, R s, 24), (w.heap.size + 1 + 1, #[.int .u8 b0, .int .u8 b1], 39)] (blkPut wc mb (R s)) := kc.put mb M8 (R s) 24 (by simp) (by omega) _ (by intro p hp; simp only [List.mem_cons, List.not_mem_nil, or_false] at hp; rcases hp with rfl | rfl | rfl <;> first | exact .inl rfl | exact .inr ⟨by simp, by simp <;> omega⟩)
    have hz8 := bytes_put hzc mb (R s) (by omega)
    generalize blkPut wc mb (R s) = w8 at *
    clear kc hzc e11 e12
    have c12 := (cell_of _ _ 9 k8.h0).trans s9
    have f12 := free_of _ _ 9 k8.h0
    have d12 : w8.cell? ⟨w.heap.size + 1 + 1, 1, none⟩ = some (.int .u8 b1) := (cell_of _ _ 1 k8.h2).trans rfl
    go_upto_region 13 with fail
    have k9 : BL w [(mb, R (upd s 9 b1), 24), (w.heap.size + 1, R s, 24)] (w8.setCell ⟨mb, 9, none⟩ (.int .u8 b1)) := k8.set mb 9 _ (R s) 24 (by simp) (by omega) _ HSET9.out _ (by intro p hp; simp only [List.mem_cons, List.not_mem_nil, or_false] at hp; rcases hp with rfl | rfl <;> first | exact .inl rfl | exact .inr ⟨by simp, by simp <;> omega⟩)
    have hz9 := bytes_set hz8 mb 9 (.int .u8 b1) (by omega)
    generalize w8.setCell ⟨mb, 9, none⟩ (.int .u8 b1) = w9 at *
    clear c12 f12 d12 k8 hz8
    have hr9 : RB (upd s 9 b1) := upd_rb HR0.out _ _ hb1a hb1b
    have hl1 := line_any s HR0.out (.slice (some ⟨g, 0, none⟩) n n) zs 90
    have hl2 := line_any _ hr9 (.slice (some ⟨g, 0, none⟩) n n) zs 90
    have sN : BlkN (R (upd s 9 b1)) 11 := R_size _
    have gaN : BlkN (G (cL zs s 90) (fL zs s 90)) 512 := O_size _ _ _
    have gaO : BlkOne (G (cL zs s 90) (fL zs s 90)) := O_one _ _ _
    have gbN : BlkN (G (cL zs (upd s 9 b1) 90) (fL zs (upd s 9 b1) 90)) 512 := O_size _ _ _
    have gbO : BlkOne (G (cL zs (upd s 9 b1) 90) (fL zs (upd s 9 b1) 90)) := O_one _ _ _
    have HGA1 := Lib.hid (fun k hk => G_c (cL zs s 90) (fL zs s 90) k hk)
    have HGA2 := Lib.hid (fun k hk => G_f (cL zs s 90) (fL zs s 90) k hk)
    have HGB1 := Lib.hid (fun k hk => G_c (cL zs (upd s 9 b1) 90) (fL zs (upd s 9 b1) 90) k hk)
    have HGB2 := Lib.hid (fun k hk => G_f (cL zs (upd s 9 b1) 90) (fL zs (upd s 9 b1) 90) k hk)
    generalize G (cL zs s 90) (fL zs s 90) = GA at *
    generalize G (cL zs (upd s 9 b1) 90) (fL zs (upd s 9 b1) 90) = GB at *
    generalize R (upd s 9 b1) = M9 at *
    generalize R s = S0 at *
    have H1 := Lib.hid (fun W (hW : BM w [(mb, M9, 24), (w.heap.size + 1, S0, 24)] g n zs W) => (hl1 W hW.2).mono fun e w' ⟨e1, e2⟩ => (⟨e1, hW.below e2, e2⟩ : e = Ending.returned (.agg GA) ∧ BM w [(mb, M9, 24), (w.heap.size + 1, S0, 24)] g n zs w' ∧ Below W.heap.size W w'))
    have H2 := Lib.hid (fun W (hW : BM w [(mb, M9, 24), (w.heap.size + 1, S0, 24)] g n zs W) => (hl2 W hW.2).mono fun e w' ⟨e1, e2⟩ => (⟨e1, hW.below e2, e2⟩ : e = Ending.returned (.agg GB) ∧ BM w [(mb, M9, 24), (w.heap.size + 1, S0, 24)] g n zs w' ∧ Below W.heap.size W w'))
    have km : BM w [(mb, M9, 24), (w.heap.size + 1, S0, 24)] g n zs w9 := ⟨k9, hz9⟩
    have bm1 := blkAt_heap k9.h0
    have bm2 := blkAt_heap k9.h1
    have sz9 : w.heap.size ≤ w9.heap.size := k9.2.size
    have sm9 := heap_lt k9.h0
    have sr9 := heap_lt k9.h1
    have nm9 : ¬ (mb = w9.heap.size) := by omega
    have nr9 : ¬ (w.heap.size + 1 = w9.heap.size) := by omega
    have nm9' : ¬ (mb = w9.heap.size + 1) := by omega
    have nr9' : ¬ (w.heap.size + 1 = w9.heap.size + 1) := by omega
    have nz9 : ¬ (w.heap.size = w9.heap.size) := by omega
    clear hl1 hl2 hr9 k9 hz9
    have hu24 := Try.underlying24
    have hi1 : (Try.prog.info? 24).map (·.size) = some M9.toList.length := by rw [Array.length_toList, show M9.size = 11 from sN]; exact i11
    have hi2 : (Try.prog.info? 24).map (·.size) = some S0.toList.length := by rw [Array.length_toList, show S0.size = 11 from sS]; exact i11
    clear hi1 hi2 hu24 HB HAL HSET0 HSET8 HSET9 HR0 T64 zz hor t1 t1' t2 t2' n1 n2 hl1 hl2 hra sA oA s8 s9
    go_cut [9, 10] from 45 to 50 (fun p q wx => ∃ ga gb : Nat, p = .pointer (some ⟨ga, 0, none⟩) ∧ q = .pointer (some ⟨gb, 0, none⟩) ∧ wx.heap[ga]? = some (.cells GA 29) ∧ wx.heap[gb]? = some (.cells GB 29) ∧ Below w.heap.size w wx)
    case first =>
      refine wp_region_held_drew (S := (fun W => blkAt W mb = M9 ∧ blkAt W (w.heap.size + 1) = S0)) (by kernel_rfl) ⟨by go_simp, by go_simp⟩ (fun hHeld => ?_)
      refine wpAnyH_take (i := 0) (oi := { dst := some 45, op := Op.move (Operand.tmp 7), type := 31, pos := "law.go:126", after := #[], guard := none }) (v := .slice (some ⟨g, 0, none⟩) n n) rfl (by kernel_rfl) (by kernel_rfl) (by kernel_rfl) (fun _ _ _ h => h) (Or.inl ⟨by rfl, ?_⟩) (by assumption) ?_
      · intro W hSw
        obtain ⟨e1, e2⟩ := hSw
        go_simp
        try rfl
      try simp only [Act.put, List.setIfInBounds_toArray, List.set_cons_zero, List.set_cons_succ]
      refine wpAnyH_take (i := 3) (oi := { dst := some 48, op := Op.move (Operand.tmp 7), type := 31, pos := "law.go:126", after := #[], guard := none }) (v := .slice (some ⟨g, 0, none⟩) n n) rfl (by kernel_rfl) (by kernel_rfl) (by kernel_rfl) (fun _ _ _ h => h) (Or.inl ⟨by rfl, ?_⟩) (by assumption) ?_
      · intro W hSw
        obtain ⟨e1, e2⟩ := hSw
        go_simp
        try rfl
      try simp only [Act.put, List.setIfInBounds_toArray, List.set_cons_zero, List.set_cons_succ]
      refine wpAnyH_take (i := 1) (oi := { dst := some 46, op := Op.load 24 (Operand.tmp 4), type := 24, pos := "law.go:126", after := #[], guard := none }) (v := .agg S0) rfl (by kernel_rfl) (by kernel_rfl) (by kernel_rfl) (fun _ _ _ h => h) (Or.inl ⟨by rfl, ?_⟩) (by assumption) ?_
      · intro W hSw
        obtain ⟨e1, e2⟩ := hSw
        go_simp
        try rfl
      try simp only [Act.put, List.setIfInBounds_toArray, List.set_cons_zero, List.set_cons_succ]
      refine wpAnyH_take (i := 4) (oi := { dst := some 49, op := Op.load 24 (Operand.tmp 8), type := 24, pos := "law.go:126", after := #[], guard := none }) (v := .agg M9) rfl (by kernel_rfl) (by kernel_rfl) (by kernel_rfl) (fun _ _ _ h => h) (Or.inl ⟨by rfl, ?_⟩) (by assumption) ?_
      · intro W hSw
        obtain ⟨e1, e2⟩ := hSw
        go_simp
        try rfl
      try simp only [Act.put, List.setIfInBounds_toArray, List.set_cons_zero, List.set_cons_succ]
      have k0 := km.drew
      have lm0 : mb < w9.drew.heap.size := sm9
      have lr0 : w.heap.size + 1 < w9.drew.heap.size := sr9
      generalize w9.drew = w100 at *
      clear km bm1 bm2 sm9 sr9 sz9 nm9 nr9 nm9' nr9' nz9
      refine wpAnyH_ready (rs := [2, 6, 7]) (by kernel_rfl) (by simp) ?_
      refine AllReadyH.cons (o := { dst := some 47, op := Op.call { callee := Callee.value (Operand.func 10), args := #[Operand.tmp 45, Operand.tmp 46, Operand.const (Value.int IntKind.i64 90)], argTypes := #[31, 24, 3] }, type := 29, pos := "law.go:126", after := #[{ on := 0, ground := Ground.data }, { on := 1, ground := Ground.data }], guard := none }) rfl (fun K hK => ?_) ?_
      · clear hHeld
        go_simp
        go_at_call 10
        refine (H1.out _ (BM.subB k0 (by intro p hp; simp only [List.mem_cons, List.not_mem_nil, or_false] at hp; rcases hp with rfl | rfl <;> simp))).mono ?_
        rintro e w101 ⟨rfl, -, q1⟩
        have k1 := k0.below q1
        clear q1 k0
        refine hK.out _ _ ⟨blkAt_heap (k1.1.get mb M9 24 (by simp)), blkAt_heap (k1.1.get (w.heap.size + 1) S0 24 (by simp))⟩ (fun hHeld => ?_)
        clear hK K
        try simp only [Act.put, List.setIfInBounds_toArray, List.set_cons_zero, List.set_cons_succ]
        refine wpAnyH_ready (rs := [5, 6, 7]) (by kernel_rfl) (by simp) ?_
        refine AllReadyH.cons (o := { dst := some 50, op := Op.call { callee := Callee.value (Operand.func 10), args := #[Operand.tmp 48, Operand.tmp 49, Operand.const (Value.int IntKind.i64 90)], argTypes := #[31, 24, 3] }, type := 29, pos := "law.go:126", after := #[{ on := 3, ground := Ground.data }, { on := 4, ground := Ground.data }, { on := 2, ground := Ground.chain }], guard := none }) rfl (fun K hK => ?_) ?_
        · clear hHeld
          go_simp
          go_at_call 10
          refine (H2.out _ (BM.subB k1 (by intro p hp; simp only [List.mem_cons, List.not_mem_nil, or_false] at hp; rcases hp with rfl | rfl <;> simp))).mono ?_
          rintro e w102 ⟨rfl, -, q2⟩
          have k2 := k1.below q2
          clear q2 k1
          refine hK.out _ _ ⟨blkAt_heap (k2.1.get mb M9 24 (by simp)), blkAt_heap (k2.1.get (w.heap.size + 1) S0 24 (by simp))⟩ (fun hHeld => ?_)
          clear hK K
          try simp only [Act.put, List.setIfInBounds_toArray, List.set_cons_zero, List.set_cons_succ]
          refine wpAnyH_ready (rs := [6, 7]) (by kernel_rfl) (by simp) ?_
          refine AllReadyH.cons (o := { dst := some 9, op := Op.alloc 29, type := 0, pos := "law.go:126", after := #[], guard := none }) rfl (fun K hK => ?_) ?_
          · clear hHeld
            have k3 := BM.allocB k2 Z512 29
            have l3mb := heap_lt (k2.1.get (mb) M9 24 (by simp))
            have l3w := heap_lt (k2.1.get (w.heap.size + 1) S0 24 (by simp))
            go_simp
            generalize w102.alloc (.cells Z512 29) = w103 at *
            generalize w102.heap.size = ga at *
            clear k2
            refine hK.out _ _ ⟨blkAt_heap (k3.1.get mb M9 24 (by simp)), blkAt_heap (k3.1.get (w.heap.size + 1) S0 24 (by simp))⟩ (fun hHeld => ?_)
            clear hK K
            try simp only [Act.put, List.setIfInBounds_toArray, List.set_cons_zero, List.set_cons_succ]
            refine wpAnyH_ready (rs := [7]) (by kernel_rfl) (by simp) ?_
            refine AllReadyH.cons (o := { dst := some 10, op := Op.alloc 29, type := 0, pos := "law.go:126", after := #[], guard := none }) rfl (fun K hK => ?_) ?_
            · clear hHeld
              have k4 := BM.allocB k3 Z512 29
              have l4ga := heap_lt (k3.1.get (ga) Z512 29 (by simp))
              have l4mb := heap_lt (k3.1.get (mb) M9 24 (by simp))
              have l4w := heap_lt (k3.1.get (w.heap.size + 1) S0 24 (by simp))
              go_simp
              generalize w103.alloc (.cells Z512 29) = w104 at *
              generalize w103.heap.size = gb at *
              clear k3
              refine hK.out _ _ ⟨blkAt_heap (k4.1.get mb M9 24 (by simp)), blkAt_heap (k4.1.get (w.heap.size + 1) S0 24 (by simp))⟩ (fun hHeld => ?_)
              clear hK K
              try simp only [Act.put, List.setIfInBounds_toArray, List.set_cons_zero, List.set_cons_succ]
              refine wpAnyH_ready (rs := [8]) (by kernel_rfl) (by simp) ?_
              refine AllReadyH.cons (o := { dst := none, op := Op.store 29 (Operand.tmp 9) (Operand.tmp 47), type := 0, pos := "law.go:126", after := #[{ on := 6, ground := Ground.data }, { on := 2, ground := Ground.data }, { on := 5, ground := Ground.chain }, { on := 0, ground := Ground.phase }, { on := 1, ground := Ground.phase }, { on := 2, ground := Ground.phase }, { on := 3, ground := Ground.textOnly Departure.lateStores }, { on := 4, ground := Ground.textOnly Departure.lateStores }, { on := 5, ground := Ground.textOnly Departure.lateStoresUnsure }, { on := 6, ground := Ground.phase }, { on := 7, ground := Ground.phase }], guard := none }) rfl (fun K hK => ?_) AllReadyH.nil
              clear hHeld
              have e5 := blkAt_heap (k4.1.get ga Z512 29 (by simp))
              go_simp
              have k5 : BM w [(gb, Z512, 29), (ga, GA, 29), (mb, M9, 24), (w.heap.size + 1, S0, 24)] g n zs (blkPut w104 ga GA) := BM.putB k4 ga Z512 GA 29 (by simp) (by omega) (by omega) _ (by intro p hp; simp only [List.mem_cons, List.not_mem_nil, or_false] at hp; rcases hp with rfl | rfl | rfl | rfl <;> first | exact .inl rfl | exact .inr ⟨by simp, by simp <;> omega⟩)
              generalize blkPut w104 ga GA = w105 at *
              clear k4 e5
              refine hK.out _ _ ⟨blkAt_heap (k5.1.get mb M9 24 (by simp)), blkAt_heap (k5.1.get (w.heap.size + 1) S0 24 (by simp))⟩ (fun hHeld => ?_)
              clear hK K
              try simp only [Act.put, List.setIfInBounds_toArray, List.set_cons_zero, List.set_cons_succ]
              refine wpAnyH_ready (rs := [9]) (by kernel_rfl) (by simp) ?_
              refine AllReadyH.cons (o := { dst := none, op := Op.store 29 (Operand.tmp 10) (Operand.tmp 50), type := 0, pos := "law.go:126", after := #[{ on := 7, ground := Ground.data }, { on := 5, ground := Ground.data }, { on := 8, ground := Ground.chain }, { on := 0, ground := Ground.phase }, { on := 1, ground := Ground.phase }, { on := 2, ground := Ground.phase }, { on := 3, ground := Ground.phase }, { on := 4, ground := Ground.phase }, { on := 5, ground := Ground.phase }, { on := 6, ground := Ground.phase }, { on := 7, ground := Ground.phase }, { on := 8, ground := Ground.phase }], guard := none }) rfl (fun K hK => ?_) AllReadyH.nil
              clear hHeld
              have e6 := blkAt_heap (k5.1.get gb Z512 29 (by simp))
              go_simp
              have k6 : BM w [(gb, GB, 29), (ga, GA, 29), (mb, M9, 24), (w.heap.size + 1, S0, 24)] g n zs (blkPut w105 gb GB) := BM.putB k5 gb Z512 GB 29 (by simp) (by omega) (by omega) _ (by intro p hp; simp only [List.mem_cons, List.not_mem_nil, or_false] at hp; rcases hp with rfl | rfl | rfl | rfl <;> first | exact .inl rfl | exact .inr ⟨by simp, by simp <;> omega⟩)
              generalize blkPut w105 gb GB = w106 at *
              clear k5 e6
              refine hK.out _ _ ⟨blkAt_heap (k6.1.get mb M9 24 (by simp)), blkAt_heap (k6.1.get (w.heap.size + 1) S0 24 (by simp))⟩ (fun hHeld => ?_)
              clear hK K
              try simp only [Act.put, List.setIfInBounds_toArray, List.set_cons_zero, List.set_cons_succ]
              refine wpAnyH_done (by kernel_rfl) ?_ _
              go_wp2_with fail
              go_meet
              exact ⟨ga, gb, rfl, rfl, k6.1.get ga GA 29 (by simp), k6.1.get gb GB 29 (by simp), k6.1.2⟩
            exact AllReadyH.nil
          refine AllReadyH.cons (o := { dst := some 10, op := Op.alloc 29, type := 0, pos := "law.go:126", after := #[], guard := none }) rfl (fun K hK => ?_) ?_
          · clear hHeld
            have k7 := BM.allocB k2 Z512 29
            have l7mb := heap_lt (k2.1.get (mb) M9 24 (by simp))
            have l7w := heap_lt (k2.1.get (w.heap.size + 1) S0 24 (by simp))
            go_simp
            generalize w102.alloc (.cells Z512 29) = w107 at *
            generalize w102.heap.size = gb at *
            clear k2
            refine hK.out _ _ ⟨blkAt_heap (k7.1.get mb M9 24 (by simp)), blkAt_heap (k7.1.get (w.heap.size + 1) S0 24 (by simp))⟩ (fun hHeld => ?_)
            clear hK K
            try simp only [Act.put, List.setIfInBounds_toArray, List.set_cons_zero, List.set_cons_succ]
            refine wpAnyH_ready (rs := [6]) (by kernel_rfl) (by simp) ?_
            refine AllReadyH.cons (o := { dst := some 9, op := Op.alloc 29, type := 0, pos := "law.go:126", after := #[], guard := none }) rfl (fun K hK => ?_) ?_
            · clear hHeld
              have k8 := BM.allocB k7 Z512 29
              have l8gb := heap_lt (k7.1.get (gb) Z512 29 (by simp))
              have l8mb := heap_lt (k7.1.get (mb) M9 24 (by simp))
              have l8w := heap_lt (k7.1.get (w.heap.size + 1) S0 24 (by simp))
              go_simp
              generalize w107.alloc (.cells Z512 29) = w108 at *
              generalize w107.heap.size = ga at *
              clear k7
              refine hK.out _ _ ⟨blkAt_heap (k8.1.get mb M9 24 (by simp)), blkAt_heap (k8.1.get (w.heap.size + 1) S0 24 (by simp))⟩ (fun hHeld => ?_)
              clear hK K
              try simp only [Act.put, List.setIfInBounds_toArray, List.set_cons_zero, List.set_cons_succ]
              refine wpAnyH_ready (rs := [8]) (by kernel_rfl) (by simp) ?_
              refine AllReadyH.cons (o := { dst := none, op := Op.store 29 (Operand.tmp 9) (Operand.tmp 47), type := 0, pos := "law.go:126", after := #[{ on := 6, ground := Ground.data }, { on := 2, ground := Ground.data }, { on := 5, ground := Ground.chain }, { on := 0, ground := Ground.phase }, { on := 1, ground := Ground.phase }, { on := 2, ground := Ground.phase }, { on := 3, ground := Ground.textOnly Departure.lateStores }, { on := 4, ground := Ground.textOnly Departure.lateStores }, { on := 5, ground := Ground.textOnly Departure.lateStoresUnsure }, { on := 6, ground := Ground.phase }, { on := 7, ground := Ground.phase }], guard := none }) rfl (fun K hK => ?_) AllReadyH.nil
              clear hHeld
              have e9 := blkAt_heap (k8.1.get ga Z512 29 (by simp))
              go_simp
              have k9 : BM w [(ga, GA, 29), (gb, Z512, 29), (mb, M9, 24), (w.heap.size + 1, S0, 24)] g n zs (blkPut w108 ga GA) := BM.putB k8 ga Z512 GA 29 (by simp) (by omega) (by omega) _ (by intro p hp; simp only [List.mem_cons, List.not_mem_nil, or_false] at hp; rcases hp with rfl | rfl | rfl | rfl <;> first | exact .inl rfl | exact .inr ⟨by simp, by simp <;> omega⟩)
              generalize blkPut w108 ga GA = w109 at *
              clear k8 e9
              refine hK.out _ _ ⟨blkAt_heap (k9.1.get mb M9 24 (by simp)), blkAt_heap (k9.1.get (w.heap.size + 1) S0 24 (by simp))⟩ (fun hHeld => ?_)
              clear hK K
              try simp only [Act.put, List.setIfInBounds_toArray, List.set_cons_zero, List.set_cons_succ]
              refine wpAnyH_ready (rs := [9]) (by kernel_rfl) (by simp) ?_
              refine AllReadyH.cons (o := { dst := none, op := Op.store 29 (Operand.tmp 10) (Operand.tmp 50), type := 0, pos := "law.go:126", after := #[{ on := 7, ground := Ground.data }, { on := 5, ground := Ground.data }, { on := 8, ground := Ground.chain }, { on := 0, ground := Ground.phase }, { on := 1, ground := Ground.phase }, { on := 2, ground := Ground.phase }, { on := 3, ground := Ground.phase }, { on := 4, ground := Ground.phase }, { on := 5, ground := Ground.phase }, { on := 6, ground := Ground.phase }, { on := 7, ground := Ground.phase }, { on := 8, ground := Ground.phase }], guard := none }) rfl (fun K hK => ?_) AllReadyH.nil
              clear hHeld
              have e10 := blkAt_heap (k9.1.get gb Z512 29 (by simp))
              go_simp
              have k10 : BM w [(ga, GA, 29), (gb, GB, 29), (mb, M9, 24), (w.heap.size + 1, S0, 24)] g n zs (blkPut w109 gb GB) := BM.putB k9 gb Z512 GB 29 (by simp) (by omega) (by omega) _ (by intro p hp; simp only [List.mem_cons, List.not_mem_nil, or_false] at hp; rcases hp with rfl | rfl | rfl | rfl <;> first | exact .inl rfl | exact .inr ⟨by simp, by simp <;> omega⟩)
              generalize blkPut w109 gb GB = w110 at *
              clear k9 e10
              refine hK.out _ _ ⟨blkAt_heap (k10.1.get mb M9 24 (by simp)), blkAt_heap (k10.1.get (w.heap.size + 1) S0 24 (by simp))⟩ (fun hHeld => ?_)
              clear hK K
              try simp only [Act.put, List.setIfInBounds_toArray, List.set_cons_zero, List.set_cons_succ]
              refine wpAnyH_done (by kernel_rfl) ?_ _
              go_wp2_with fail
              go_meet
              exact ⟨ga, gb, rfl, rfl, k10.1.get ga GA 29 (by simp), k10.1.get gb GB 29 (by simp), k10.1.2⟩
            exact AllReadyH.nil
          exact AllReadyH.nil
        refine AllReadyH.cons (o := { dst := some 9, op := Op.alloc 29, type := 0, pos := "law.go:126", after := #[], guard := none }) rfl (fun K hK => ?_) ?_
        · clear hHeld
          have k11 := BM.allocB k1 Z512 29
          have l11mb := heap_lt (k1.1.get (mb) M9 24 (by simp))
          have l11w := heap_lt (k1.1.get (w.heap.size + 1) S0 24 (by simp))
          go_simp
          generalize w101.alloc (.cells Z512 29) = w111 at *
          generalize w101.heap.size = ga at *
          clear k1
          refine hK.out _ _ ⟨blkAt_heap (k11.1.get mb M9 24 (by simp)), blkAt_heap (k11.1.get (w.heap.size + 1) S0 24 (by simp))⟩ (fun hHeld => ?_)
          clear hK K
          try simp only [Act.put, List.setIfInBounds_toArray, List.set_cons_zero, List.set_cons_succ]
          refine wpAnyH_ready (rs := [5, 7]) (by kernel_rfl) (by simp) ?_
          refine AllReadyH.cons (o := { dst := some 50, op := Op.call { callee := Callee.value (Operand.func 10), args := #[Operand.tmp 48, Operand.tmp 49, Operand.const (Value.int IntKind.i64 90)], argTypes := #[31, 24, 3] }, type := 29, pos := "law.go:126", after := #[{ on := 3, ground := Ground.data }, { on := 4, ground := Ground.data }, { on := 2, ground := Ground.chain }], guard := none }) rfl (fun K hK => ?_) ?_
          · clear hHeld
            go_simp
            go_at_call 10
            refine (H2.out _ (BM.subB k11 (by intro p hp; simp only [List.mem_cons, List.not_mem_nil, or_false] at hp; rcases hp with rfl | rfl <;> simp))).mono ?_
            rintro e w112 ⟨rfl, -, q12⟩
            have k12 := k11.below q12
            clear q12 k11
            refine hK.out _ _ ⟨blkAt_heap (k12.1.get mb M9 24 (by simp)), blkAt_heap (k12.1.get (w.heap.size + 1) S0 24 (by simp))⟩ (fun hHeld => ?_)
            clear hK K
            try simp only [Act.put, List.setIfInBounds_toArray, List.set_cons_zero, List.set_cons_succ]
            refine wpAnyH_ready (rs := [7]) (by kernel_rfl) (by simp) ?_
            refine AllReadyH.cons (o := { dst := some 10, op := Op.alloc 29, type := 0, pos := "law.go:126", after := #[], guard := none }) rfl (fun K hK => ?_) ?_
            · clear hHeld
              have k13 := BM.allocB k12 Z512 29
              have l13ga := heap_lt (k12.1.get (ga) Z512 29 (by simp))
              have l13mb := heap_lt (k12.1.get (mb) M9 24 (by simp))
              have l13w := heap_lt (k12.1.get (w.heap.size + 1) S0 24 (by simp))
              go_simp
              generalize w112.alloc (.cells Z512 29) = w113 at *
              generalize w112.heap.size = gb at *
              clear k12
              refine hK.out _ _ ⟨blkAt_heap (k13.1.get mb M9 24 (by simp)), blkAt_heap (k13.1.get (w.heap.size + 1) S0 24 (by simp))⟩ (fun hHeld => ?_)
              clear hK K
              try simp only [Act.put, List.setIfInBounds_toArray, List.set_cons_zero, List.set_cons_succ]
              refine wpAnyH_ready (rs := [8]) (by kernel_rfl) (by simp) ?_
              refine AllReadyH.cons (o := { dst := none, op := Op.store 29 (Operand.tmp 9) (Operand.tmp 47), type := 0, pos := "law.go:126", after := #[{ on := 6, ground := Ground.data }, { on := 2, ground := Ground.data }, { on := 5, ground := Ground.chain }, { on := 0, ground := Ground.phase }, { on := 1, ground := Ground.phase }, { on := 2, ground := Ground.phase }, { on := 3, ground := Ground.textOnly Departure.lateStores }, { on := 4, ground := Ground.textOnly Departure.lateStores }, { on := 5, ground := Ground.textOnly Departure.lateStoresUnsure }, { on := 6, ground := Ground.phase }, { on := 7, ground := Ground.phase }], guard := none }) rfl (fun K hK => ?_) AllReadyH.nil
              clear hHeld
              have e14 := blkAt_heap (k13.1.get ga Z512 29 (by simp))
              go_simp
              have k14 : BM w [(gb, Z512, 29), (ga, GA, 29), (mb, M9, 24), (w.heap.size + 1, S0, 24)] g n zs (blkPut w113 ga GA) := BM.putB k13 ga Z512 GA 29 (by simp) (by omega) (by omega) _ (by intro p hp; simp only [List.mem_cons, List.not_mem_nil, or_false] at hp; rcases hp with rfl | rfl | rfl | rfl <;> first | exact .inl rfl | exact .inr ⟨by simp, by simp <;> omega⟩)
              generalize blkPut w113 ga GA = w114 at *
              clear k13 e14
              refine hK.out _ _ ⟨blkAt_heap (k14.1.get mb M9 24 (by simp)), blkAt_heap (k14.1.get (w.heap.size + 1) S0 24 (by simp))⟩ (fun hHeld => ?_)
              clear hK K
              try simp only [Act.put, List.setIfInBounds_toArray, List.set_cons_zero, List.set_cons_succ]
              refine wpAnyH_ready (rs := [9]) (by kernel_rfl) (by simp) ?_
              refine AllReadyH.cons (o := { dst := none, op := Op.store 29 (Operand.tmp 10) (Operand.tmp 50), type := 0, pos := "law.go:126", after := #[{ on := 7, ground := Ground.data }, { on := 5, ground := Ground.data }, { on := 8, ground := Ground.chain }, { on := 0, ground := Ground.phase }, { on := 1, ground := Ground.phase }, { on := 2, ground := Ground.phase }, { on := 3, ground := Ground.phase }, { on := 4, ground := Ground.phase }, { on := 5, ground := Ground.phase }, { on := 6, ground := Ground.phase }, { on := 7, ground := Ground.phase }, { on := 8, ground := Ground.phase }], guard := none }) rfl (fun K hK => ?_) AllReadyH.nil
              clear hHeld
              have e15 := blkAt_heap (k14.1.get gb Z512 29 (by simp))
              go_simp
              have k15 : BM w [(gb, GB, 29), (ga, GA, 29), (mb, M9, 24), (w.heap.size + 1, S0, 24)] g n zs (blkPut w114 gb GB) := BM.putB k14 gb Z512 GB 29 (by simp) (by omega) (by omega) _ (by intro p hp; simp only [List.mem_cons, List.not_mem_nil, or_false] at hp; rcases hp with rfl | rfl | rfl | rfl <;> first | exact .inl rfl | exact .inr ⟨by simp, by simp <;> omega⟩)
              generalize blkPut w114 gb GB = w115 at *
              clear k14 e15
              refine hK.out _ _ ⟨blkAt_heap (k15.1.get mb M9 24 (by simp)), blkAt_heap (k15.1.get (w.heap.size + 1) S0 24 (by simp))⟩ (fun hHeld => ?_)
              clear hK K
              try simp only [Act.put, List.setIfInBounds_toArray, List.set_cons_zero, List.set_cons_succ]
              refine wpAnyH_done (by kernel_rfl) ?_ _
              go_wp2_with fail
              go_meet
              exact ⟨ga, gb, rfl, rfl, k15.1.get ga GA 29 (by simp), k15.1.get gb GB 29 (by simp), k15.1.2⟩
            exact AllReadyH.nil
          refine AllReadyH.cons (o := { dst := some 10, op := Op.alloc 29, type := 0, pos := "law.go:126", after := #[], guard := none }) rfl (fun K hK => ?_) ?_
          · clear hHeld
            have k16 := BM.allocB k11 Z512 29
            have l16ga := heap_lt (k11.1.get (ga) Z512 29 (by simp))
            have l16mb := heap_lt (k11.1.get (mb) M9 24 (by simp))
            have l16w := heap_lt (k11.1.get (w.heap.size + 1) S0 24 (by simp))
            go_simp
            generalize w111.alloc (.cells Z512 29) = w116 at *
            generalize w111.heap.size = gb at *
            clear k11
            refine hK.out _ _ ⟨blkAt_heap (k16.1.get mb M9 24 (by simp)), blkAt_heap (k16.1.get (w.heap.size + 1) S0 24 (by simp))⟩ (fun hHeld => ?_)
            clear hK K
            try simp only [Act.put, List.setIfInBounds_toArray, List.set_cons_zero, List.set_cons_succ]
            refine wpAnyH_ready (rs := [5]) (by kernel_rfl) (by simp) ?_
            refine AllReadyH.cons (o := { dst := some 50, op := Op.call { callee := Callee.value (Operand.func 10), args := #[Operand.tmp 48, Operand.tmp 49, Operand.const (Value.int IntKind.i64 90)], argTypes := #[31, 24, 3] }, type := 29, pos := "law.go:126", after := #[{ on := 3, ground := Ground.data }, { on := 4, ground := Ground.data }, { on := 2, ground := Ground.chain }], guard := none }) rfl (fun K hK => ?_) ?_
            · clear hHeld
              go_simp
              go_at_call 10
              refine (H2.out _ (BM.subB k16 (by intro p hp; simp only [List.mem_cons, List.not_mem_nil, or_false] at hp; rcases hp with rfl | rfl <;> simp))).mono ?_
              rintro e w117 ⟨rfl, -, q17⟩
              have k17 := k16.below q17
              clear q17 k16
              refine hK.out _ _ ⟨blkAt_heap (k17.1.get mb M9 24 (by simp)), blkAt_heap (k17.1.get (w.heap.size + 1) S0 24 (by simp))⟩ (fun hHeld => ?_)
              clear hK K
              try simp only [Act.put, List.setIfInBounds_toArray, List.set_cons_zero, List.set_cons_succ]
              refine wpAnyH_ready (rs := [8]) (by kernel_rfl) (by simp) ?_
              refine AllReadyH.cons (o := { dst := none, op := Op.store 29 (Operand.tmp 9) (Operand.tmp 47), type := 0, pos := "law.go:126", after := #[{ on := 6, ground := Ground.data }, { on := 2, ground := Ground.data }, { on := 5, ground := Ground.chain }, { on := 0, ground := Ground.phase }, { on := 1, ground := Ground.phase }, { on := 2, ground := Ground.phase }, { on := 3, ground := Ground.textOnly Departure.lateStores }, { on := 4, ground := Ground.textOnly Departure.lateStores }, { on := 5, ground := Ground.textOnly Departure.lateStoresUnsure }, { on := 6, ground := Ground.phase }, { on := 7, ground := Ground.phase }], guard := none }) rfl (fun K hK => ?_) AllReadyH.nil
              clear hHeld
              have e18 := blkAt_heap (k17.1.get ga Z512 29 (by simp))
              go_simp
              have k18 : BM w [(gb, Z512, 29), (ga, GA, 29), (mb, M9, 24), (w.heap.size + 1, S0, 24)] g n zs (blkPut w117 ga GA) := BM.putB k17 ga Z512 GA 29 (by simp) (by omega) (by omega) _ (by intro p hp; simp only [List.mem_cons, List.not_mem_nil, or_false] at hp; rcases hp with rfl | rfl | rfl | rfl <;> first | exact .inl rfl | exact .inr ⟨by simp, by simp <;> omega⟩)
              generalize blkPut w117 ga GA = w118 at *
              clear k17 e18
              refine hK.out _ _ ⟨blkAt_heap (k18.1.get mb M9 24 (by simp)), blkAt_heap (k18.1.get (w.heap.size + 1) S0 24 (by simp))⟩ (fun hHeld => ?_)
              clear hK K
              try simp only [Act.put, List.setIfInBounds_toArray, List.set_cons_zero, List.set_cons_succ]
              refine wpAnyH_ready (rs := [9]) (by kernel_rfl) (by simp) ?_
              refine AllReadyH.cons (o := { dst := none, op := Op.store 29 (Operand.tmp 10) (Operand.tmp 50), type := 0, pos := "law.go:126", after := #[{ on := 7, ground := Ground.data }, { on := 5, ground := Ground.data }, { on := 8, ground := Ground.chain }, { on := 0, ground := Ground.phase }, { on := 1, ground := Ground.phase }, { on := 2, ground := Ground.phase }, { on := 3, ground := Ground.phase }, { on := 4, ground := Ground.phase }, { on := 5, ground := Ground.phase }, { on := 6, ground := Ground.phase }, { on := 7, ground := Ground.phase }, { on := 8, ground := Ground.phase }], guard := none }) rfl (fun K hK => ?_) AllReadyH.nil
              clear hHeld
              have e19 := blkAt_heap (k18.1.get gb Z512 29 (by simp))
              go_simp
              have k19 : BM w [(gb, GB, 29), (ga, GA, 29), (mb, M9, 24), (w.heap.size + 1, S0, 24)] g n zs (blkPut w118 gb GB) := BM.putB k18 gb Z512 GB 29 (by simp) (by omega) (by omega) _ (by intro p hp; simp only [List.mem_cons, List.not_mem_nil, or_false] at hp; rcases hp with rfl | rfl | rfl | rfl <;> first | exact .inl rfl | exact .inr ⟨by simp, by simp <;> omega⟩)
              generalize blkPut w118 gb GB = w119 at *
              clear k18 e19
              refine hK.out _ _ ⟨blkAt_heap (k19.1.get mb M9 24 (by simp)), blkAt_heap (k19.1.get (w.heap.size + 1) S0 24 (by simp))⟩ (fun hHeld => ?_)
              clear hK K
              try simp only [Act.put, List.setIfInBounds_toArray, List.set_cons_zero, List.set_cons_succ]
              refine wpAnyH_done (by kernel_rfl) ?_ _
              go_wp2_with fail
              go_meet
              exact ⟨ga, gb, rfl, rfl, k19.1.get ga GA 29 (by simp), k19.1.get gb GB 29 (by simp), k19.1.2⟩
            exact AllReadyH.nil
          exact AllReadyH.nil
        refine AllReadyH.cons (o := { dst := some 10, op := Op.alloc 29, type := 0, pos := "law.go:126", after := #[], guard := none }) rfl (fun K hK => ?_) ?_
        · clear hHeld
          have k20 := BM.allocB k1 Z512 29
          have l20mb := heap_lt (k1.1.get (mb) M9 24 (by simp))
          have l20w := heap_lt (k1.1.get (w.heap.size + 1) S0 24 (by simp))
          go_simp
          generalize w101.alloc (.cells Z512 29) = w120 at *
          generalize w101.heap.size = gb at *
          clear k1
          refine hK.out _ _ ⟨blkAt_heap (k20.1.get mb M9 24 (by simp)), blkAt_heap (k20.1.get (w.heap.size + 1) S0 24 (by simp))⟩ (fun hHeld => ?_)
          clear hK K
          try simp only [Act.put, List.setIfInBounds_toArray, List.set_cons_zero, List.set_cons_succ]
          refine wpAnyH_ready (rs := [5, 6]) (by kernel_rfl) (by simp) ?_
          refine AllReadyH.cons (o := { dst := some 50, op := Op.call { callee := Callee.value (Operand.func 10), args := #[Operand.tmp 48, Operand.tmp 49, Operand.const (Value.int IntKind.i64 90)], argTypes := #[31, 24, 3] }, type := 29, pos := "law.go:126", after := #[{ on := 3, ground := Ground.data }, { on := 4, ground := Ground.data }, { on := 2, ground := Ground.chain }], guard := none }) rfl (fun K hK => ?_) ?_
          · clear hHeld
            go_simp
            go_at_call 10
            refine (H2.out _ (BM.subB k20 (by intro p hp; simp only [List.mem_cons, List.not_mem_nil, or_false] at hp; rcases hp with rfl | rfl <;> simp))).mono ?_
            rintro e w121 ⟨rfl, -, q21⟩
            have k21 := k20.below q21
            clear q21 k20
            refine hK.out _ _ ⟨blkAt_heap (k21.1.get mb M9 24 (by simp)), blkAt_heap (k21.1.get (w.heap.size + 1) S0 24 (by simp))⟩ (fun hHeld => ?_)
            clear hK K
            try simp only [Act.put, List.setIfInBounds_toArray, List.set_cons_zero, List.set_cons_succ]
            refine wpAnyH_ready (rs := [6]) (by kernel_rfl) (by simp) ?_
            refine AllReadyH.cons (o := { dst := some 9, op := Op.alloc 29, type := 0, pos := "law.go:126", after := #[], guard := none }) rfl (fun K hK => ?_) ?_
            · clear hHeld
              have k22 := BM.allocB k21 Z512 29
              have l22gb := heap_lt (k21.1.get (gb) Z512 29 (by simp))
              have l22mb := heap_lt (k21.1.get (mb) M9 24 (by simp))
              have l22w := heap_lt (k21.1.get (w.heap.size + 1) S0 24 (by simp))
              go_simp
              generalize w121.alloc (.cells Z512 29) = w122 at *
              generalize w121.heap.size = ga at *
              clear k21
              refine hK.out _ _ ⟨blkAt_heap (k22.1.get mb M9 24 (by simp)), blkAt_heap (k22.1.get (w.heap.size + 1) S0 24 (by simp))⟩ (fun hHeld => ?_)
              clear hK K
              try simp only [Act.put, List.setIfInBounds_toArray, List.set_cons_zero, List.set_cons_succ]
              refine wpAnyH_ready (rs := [8]) (by kernel_rfl) (by simp) ?_
              refine AllReadyH.cons (o := { dst := none, op := Op.store 29 (Operand.tmp 9) (Operand.tmp 47), type := 0, pos := "law.go:126", after := #[{ on := 6, ground := Ground.data }, { on := 2, ground := Ground.data }, { on := 5, ground := Ground.chain }, { on := 0, ground := Ground.phase }, { on := 1, ground := Ground.phase }, { on := 2, ground := Ground.phase }, { on := 3, ground := Ground.textOnly Departure.lateStores }, { on := 4, ground := Ground.textOnly Departure.lateStores }, { on := 5, ground := Ground.textOnly Departure.lateStoresUnsure }, { on := 6, ground := Ground.phase }, { on := 7, ground := Ground.phase }], guard := none }) rfl (fun K hK => ?_) AllReadyH.nil
              clear hHeld
              have e23 := blkAt_heap (k22.1.get ga Z512 29 (by simp))
              go_simp
              have k23 : BM w [(ga, GA, 29), (gb, Z512, 29), (mb, M9, 24), (w.heap.size + 1, S0, 24)] g n zs (blkPut w122 ga GA) := BM.putB k22 ga Z512 GA 29 (by simp) (by omega) (by omega) _ (by intro p hp; simp only [List.mem_cons, List.not_mem_nil, or_false] at hp; rcases hp with rfl | rfl | rfl | rfl <;> first | exact .inl rfl | exact .inr ⟨by simp, by simp <;> omega⟩)
              generalize blkPut w122 ga GA = w123 at *
              clear k22 e23
              refine hK.out _ _ ⟨blkAt_heap (k23.1.get mb M9 24 (by simp)), blkAt_heap (k23.1.get (w.heap.size + 1) S0 24 (by simp))⟩ (fun hHeld => ?_)
              clear hK K
              try simp only [Act.put, List.setIfInBounds_toArray, List.set_cons_zero, List.set_cons_succ]
              refine wpAnyH_ready (rs := [9]) (by kernel_rfl) (by simp) ?_
              refine AllReadyH.cons (o := { dst := none, op := Op.store 29 (Operand.tmp 10) (Operand.tmp 50), type := 0, pos := "law.go:126", after := #[{ on := 7, ground := Ground.data }, { on := 5, ground := Ground.data }, { on := 8, ground := Ground.chain }, { on := 0, ground := Ground.phase }, { on := 1, ground := Ground.phase }, { on := 2, ground := Ground.phase }, { on := 3, ground := Ground.phase }, { on := 4, ground := Ground.phase }, { on := 5, ground := Ground.phase }, { on := 6, ground := Ground.phase }, { on := 7, ground := Ground.phase }, { on := 8, ground := Ground.phase }], guard := none }) rfl (fun K hK => ?_) AllReadyH.nil
              clear hHeld
              have e24 := blkAt_heap (k23.1.get gb Z512 29 (by simp))
              go_simp
              have k24 : BM w [(ga, GA, 29), (gb, GB, 29), (mb, M9, 24), (w.heap.size + 1, S0, 24)] g n zs (blkPut w123 gb GB) := BM.putB k23 gb Z512 GB 29 (by simp) (by omega) (by omega) _ (by intro p hp; simp only [List.mem_cons, List.not_mem_nil, or_false] at hp; rcases hp with rfl | rfl | rfl | rfl <;> first | exact .inl rfl | exact .inr ⟨by simp, by simp <;> omega⟩)
              generalize blkPut w123 gb GB = w124 at *
              clear k23 e24
              refine hK.out _ _ ⟨blkAt_heap (k24.1.get mb M9 24 (by simp)), blkAt_heap (k24.1.get (w.heap.size + 1) S0 24 (by simp))⟩ (fun hHeld => ?_)
              clear hK K
              try simp only [Act.put, List.setIfInBounds_toArray, List.set_cons_zero, List.set_cons_succ]
              refine wpAnyH_done (by kernel_rfl) ?_ _
              go_wp2_with fail
              go_meet
              exact ⟨ga, gb, rfl, rfl, k24.1.get ga GA 29 (by simp), k24.1.get gb GB 29 (by simp), k24.1.2⟩
            exact AllReadyH.nil
          refine AllReadyH.cons (o := { dst := some 9, op := Op.alloc 29, type := 0, pos := "law.go:126", after := #[], guard := none }) rfl (fun K hK => ?_) ?_
          · clear hHeld
            have k25 := BM.allocB k20 Z512 29
            have l25gb := heap_lt (k20.1.get (gb) Z512 29 (by simp))
            have l25mb := heap_lt (k20.1.get (mb) M9 24 (by simp))
            have l25w := heap_lt (k20.1.get (w.heap.size + 1) S0 24 (by simp))
            go_simp
            generalize w120.alloc (.cells Z512 29) = w125 at *
            generalize w120.heap.size = ga at *
            clear k20
            refine hK.out _ _ ⟨blkAt_heap (k25.1.get mb M9 24 (by simp)), blkAt_heap (k25.1.get (w.heap.size + 1) S0 24 (by simp))⟩ (fun hHeld => ?_)
            clear hK K
            try simp only [Act.put, List.setIfInBounds_toArray, List.set_cons_zero, List.set_cons_succ]
            refine wpAnyH_ready (rs := [5]) (by kernel_rfl) (by simp) ?_
            refine AllReadyH.cons (o := { dst := some 50, op := Op.call { callee := Callee.value (Operand.func 10), args := #[Operand.tmp 48, Operand.tmp 49, Operand.const (Value.int IntKind.i64 90)], argTypes := #[31, 24, 3] }, type := 29, pos := "law.go:126", after := #[{ on := 3, ground := Ground.data }, { on := 4, ground := Ground.data }, { on := 2, ground := Ground.chain }], guard := none }) rfl (fun K hK => ?_) ?_
            · clear hHeld
              go_simp
              go_at_call 10
              refine (H2.out _ (BM.subB k25 (by intro p hp; simp only [List.mem_cons, List.not_mem_nil, or_false] at hp; rcases hp with rfl | rfl <;> simp))).mono ?_
              rintro e w126 ⟨rfl, -, q26⟩
              have k26 := k25.below q26
              clear q26 k25
              refine hK.out _ _ ⟨blkAt_heap (k26.1.get mb M9 24 (by simp)), blkAt_heap (k26.1.get (w.heap.size + 1) S0 24 (by simp))⟩ (fun hHeld => ?_)
              clear hK K
              try simp only [Act.put, List.setIfInBounds_toArray, List.set_cons_zero, List.set_cons_succ]
              refine wpAnyH_ready (rs := [8]) (by kernel_rfl) (by simp) ?_
              refine AllReadyH.cons (o := { dst := none, op := Op.store 29 (Operand.tmp 9) (Operand.tmp 47), type := 0, pos := "law.go:126", after := #[{ on := 6, ground := Ground.data }, { on := 2, ground := Ground.data }, { on := 5, ground := Ground.chain }, { on := 0, ground := Ground.phase }, { on := 1, ground := Ground.phase }, { on := 2, ground := Ground.phase }, { on := 3, ground := Ground.textOnly Departure.lateStores }, { on := 4, ground := Ground.textOnly Departure.lateStores }, { on := 5, ground := Ground.textOnly Departure.lateStoresUnsure }, { on := 6, ground := Ground.phase }, { on := 7, ground := Ground.phase }], guard := none }) rfl (fun K hK => ?_) AllReadyH.nil
              clear hHeld
              have e27 := blkAt_heap (k26.1.get ga Z512 29 (by simp))
              go_simp
              have k27 : BM w [(ga, GA, 29), (gb, Z512, 29), (mb, M9, 24), (w.heap.size + 1, S0, 24)] g n zs (blkPut w126 ga GA) := BM.putB k26 ga Z512 GA 29 (by simp) (by omega) (by omega) _ (by intro p hp; simp only [List.mem_cons, List.not_mem_nil, or_false] at hp; rcases hp with rfl | rfl | rfl | rfl <;> first | exact .inl rfl | exact .inr ⟨by simp, by simp <;> omega⟩)
              generalize blkPut w126 ga GA = w127 at *
              clear k26 e27
              refine hK.out _ _ ⟨blkAt_heap (k27.1.get mb M9 24 (by simp)), blkAt_heap (k27.1.get (w.heap.size + 1) S0 24 (by simp))⟩ (fun hHeld => ?_)
              clear hK K
              try simp only [Act.put, List.setIfInBounds_toArray, List.set_cons_zero, List.set_cons_succ]
              refine wpAnyH_ready (rs := [9]) (by kernel_rfl) (by simp) ?_
              refine AllReadyH.cons (o := { dst := none, op := Op.store 29 (Operand.tmp 10) (Operand.tmp 50), type := 0, pos := "law.go:126", after := #[{ on := 7, ground := Ground.data }, { on := 5, ground := Ground.data }, { on := 8, ground := Ground.chain }, { on := 0, ground := Ground.phase }, { on := 1, ground := Ground.phase }, { on := 2, ground := Ground.phase }, { on := 3, ground := Ground.phase }, { on := 4, ground := Ground.phase }, { on := 5, ground := Ground.phase }, { on := 6, ground := Ground.phase }, { on := 7, ground := Ground.phase }, { on := 8, ground := Ground.phase }], guard := none }) rfl (fun K hK => ?_) AllReadyH.nil
              clear hHeld
              have e28 := blkAt_heap (k27.1.get gb Z512 29 (by simp))
              go_simp
              have k28 : BM w [(ga, GA, 29), (gb, GB, 29), (mb, M9, 24), (w.heap.size + 1, S0, 24)] g n zs (blkPut w127 gb GB) := BM.putB k27 gb Z512 GB 29 (by simp) (by omega) (by omega) _ (by intro p hp; simp only [List.mem_cons, List.not_mem_nil, or_false] at hp; rcases hp with rfl | rfl | rfl | rfl <;> first | exact .inl rfl | exact .inr ⟨by simp, by simp <;> omega⟩)
              generalize blkPut w127 gb GB = w128 at *
              clear k27 e28
              refine hK.out _ _ ⟨blkAt_heap (k28.1.get mb M9 24 (by simp)), blkAt_heap (k28.1.get (w.heap.size + 1) S0 24 (by simp))⟩ (fun hHeld => ?_)
              clear hK K
              try simp only [Act.put, List.setIfInBounds_toArray, List.set_cons_zero, List.set_cons_succ]
              refine wpAnyH_done (by kernel_rfl) ?_ _
              go_wp2_with fail
              go_meet
              exact ⟨ga, gb, rfl, rfl, k28.1.get ga GA 29 (by simp), k28.1.get gb GB 29 (by simp), k28.1.2⟩
            exact AllReadyH.nil
          exact AllReadyH.nil
        exact AllReadyH.nil
      refine AllReadyH.cons (o := { dst := some 9, op := Op.alloc 29, type := 0, pos := "law.go:126", after := #[], guard := none }) rfl (fun K hK => ?_) ?_
      · clear hHeld
        have k29 := BM.allocB k0 Z512 29
        have l29mb := heap_lt (k0.1.get (mb) M9 24 (by simp))
        have l29w := heap_lt (k0.1.get (w.heap.size + 1) S0 24 (by simp))
        go_simp
        generalize w100.alloc (.cells Z512 29) = w129 at *
        generalize w100.heap.size = ga at *
        clear k0
        refine hK.out _ _ ⟨blkAt_heap (k29.1.get mb M9 24 (by simp)), blkAt_heap (k29.1.get (w.heap.size + 1) S0 24 (by simp))⟩ (fun hHeld => ?_)
        clear hK K
        try simp only [Act.put, List.setIfInBounds_toArray, List.set_cons_zero, List.set_cons_succ]
        refine wpAnyH_ready (rs := [2, 7]) (by kernel_rfl) (by simp) ?_
        refine AllReadyH.cons (o := { dst := some 47, op := Op.call { callee := Callee.value (Operand.func 10), args := #[Operand.tmp 45, Operand.tmp 46, Operand.const (Value.int IntKind.i64 90)], argTypes := #[31, 24, 3] }, type := 29, pos := "law.go:126", after := #[{ on := 0, ground := Ground.data }, { on := 1, ground := Ground.data }], guard := none }) rfl (fun K hK => ?_) ?_
        · clear hHeld
          go_simp
          go_at_call 10
          refine (H1.out _ (BM.subB k29 (by intro p hp; simp only [List.mem_cons, List.not_mem_nil, or_false] at hp; rcases hp with rfl | rfl <;> simp))).mono ?_
          rintro e w130 ⟨rfl, -, q30⟩
          have k30 := k29.below q30
          clear q30 k29
          refine hK.out _ _ ⟨blkAt_heap (k30.1.get mb M9 24 (by simp)), blkAt_heap (k30.1.get (w.heap.size + 1) S0 24 (by simp))⟩ (fun hHeld => ?_)
          clear hK K
          try simp only [Act.put, List.setIfInBounds_toArray, List.set_cons_zero, List.set_cons_succ]
          refine wpAnyH_ready (rs := [5, 7]) (by kernel_rfl) (by simp) ?_
          refine AllReadyH.cons (o := { dst := some 50, op := Op.call { callee := Callee.value (Operand.func 10), args := #[Operand.tmp 48, Operand.tmp 49, Operand.const (Value.int IntKind.i64 90)], argTypes := #[31, 24, 3] }, type := 29, pos := "law.go:126", after := #[{ on := 3, ground := Ground.data }, { on := 4, ground := Ground.data }, { on := 2, ground := Ground.chain }], guard := none }) rfl (fun K hK => ?_) ?_
          · clear hHeld
            go_simp
            go_at_call 10
            refine (H2.out _ (BM.subB k30 (by intro p hp; simp only [List.mem_cons, List.not_mem_nil, or_false] at hp; rcases hp with rfl | rfl <;> simp))).mono ?_
            rintro e w131 ⟨rfl, -, q31⟩
            have k31 := k30.below q31
            clear q31 k30
            refine hK.out _ _ ⟨blkAt_heap (k31.1.get mb M9 24 (by simp)), blkAt_heap (k31.1.get (w.heap.size + 1) S0 24 (by simp))⟩ (fun hHeld => ?_)
            clear hK K
            try simp only [Act.put, List.setIfInBounds_toArray, List.set_cons_zero, List.set_cons_succ]
            refine wpAnyH_ready (rs := [7]) (by kernel_rfl) (by simp) ?_
            refine AllReadyH.cons (o := { dst := some 10, op := Op.alloc 29, type := 0, pos := "law.go:126", after := #[], guard := none }) rfl (fun K hK => ?_) ?_
            · clear hHeld
              have k32 := BM.allocB k31 Z512 29
              have l32ga := heap_lt (k31.1.get (ga) Z512 29 (by simp))
              have l32mb := heap_lt (k31.1.get (mb) M9 24 (by simp))
              have l32w := heap_lt (k31.1.get (w.heap.size + 1) S0 24 (by simp))
              go_simp
              generalize w131.alloc (.cells Z512 29) = w132 at *
              generalize w131.heap.size = gb at *
              clear k31
              refine hK.out _ _ ⟨blkAt_heap (k32.1.get mb M9 24 (by simp)), blkAt_heap (k32.1.get (w.heap.size + 1) S0 24 (by simp))⟩ (fun hHeld => ?_)
              clear hK K
              try simp only [Act.put, List.setIfInBounds_toArray, List.set_cons_zero, List.set_cons_succ]
              refine wpAnyH_ready (rs := [8]) (by kernel_rfl) (by simp) ?_
              refine AllReadyH.cons (o := { dst := none, op := Op.store 29 (Operand.tmp 9) (Operand.tmp 47), type := 0, pos := "law.go:126", after := #[{ on := 6, ground := Ground.data }, { on := 2, ground := Ground.data }, { on := 5, ground := Ground.chain }, { on := 0, ground := Ground.phase }, { on := 1, ground := Ground.phase }, { on := 2, ground := Ground.phase }, { on := 3, ground := Ground.textOnly Departure.lateStores }, { on := 4, ground := Ground.textOnly Departure.lateStores }, { on := 5, ground := Ground.textOnly Departure.lateStoresUnsure }, { on := 6, ground := Ground.phase }, { on := 7, ground := Ground.phase }], guard := none }) rfl (fun K hK => ?_) AllReadyH.nil
              clear hHeld
              have e33 := blkAt_heap (k32.1.get ga Z512 29 (by simp))
              go_simp
              have k33 : BM w [(gb, Z512, 29), (ga, GA, 29), (mb, M9, 24), (w.heap.size + 1, S0, 24)] g n zs (blkPut w132 ga GA) := BM.putB k32 ga Z512 GA 29 (by simp) (by omega) (by omega) _ (by intro p hp; simp only [List.mem_cons, List.not_mem_nil, or_false] at hp; rcases hp with rfl | rfl | rfl | rfl <;> first | exact .inl rfl | exact .inr ⟨by simp, by simp <;> omega⟩)
              generalize blkPut w132 ga GA = w133 at *
              clear k32 e33
              refine hK.out _ _ ⟨blkAt_heap (k33.1.get mb M9 24 (by simp)), blkAt_heap (k33.1.get (w.heap.size + 1) S0 24 (by simp))⟩ (fun hHeld => ?_)
              clear hK K
              try simp only [Act.put, List.setIfInBounds_toArray, List.set_cons_zero, List.set_cons_succ]
              refine wpAnyH_ready (rs := [9]) (by kernel_rfl) (by simp) ?_
              refine AllReadyH.cons (o := { dst := none, op := Op.store 29 (Operand.tmp 10) (Operand.tmp 50), type := 0, pos := "law.go:126", after := #[{ on := 7, ground := Ground.data }, { on := 5, ground := Ground.data }, { on := 8, ground := Ground.chain }, { on := 0, ground := Ground.phase }, { on := 1, ground := Ground.phase }, { on := 2, ground := Ground.phase }, { on := 3, ground := Ground.phase }, { on := 4, ground := Ground.phase }, { on := 5, ground := Ground.phase }, { on := 6, ground := Ground.phase }, { on := 7, ground := Ground.phase }, { on := 8, ground := Ground.phase }], guard := none }) rfl (fun K hK => ?_) AllReadyH.nil
              clear hHeld
              have e34 := blkAt_heap (k33.1.get gb Z512 29 (by simp))
              go_simp
              have k34 : BM w [(gb, GB, 29), (ga, GA, 29), (mb, M9, 24), (w.heap.size + 1, S0, 24)] g n zs (blkPut w133 gb GB) := BM.putB k33 gb Z512 GB 29 (by simp) (by omega) (by omega) _ (by intro p hp; simp only [List.mem_cons, List.not_mem_nil, or_false] at hp; rcases hp with rfl | rfl | rfl | rfl <;> first | exact .inl rfl | exact .inr ⟨by simp, by simp <;> omega⟩)
              generalize blkPut w133 gb GB = w134 at *
              clear k33 e34
              refine hK.out _ _ ⟨blkAt_heap (k34.1.get mb M9 24 (by simp)), blkAt_heap (k34.1.get (w.heap.size + 1) S0 24 (by simp))⟩ (fun hHeld => ?_)
              clear hK K
              try simp only [Act.put, List.setIfInBounds_toArray, List.set_cons_zero, List.set_cons_succ]
              refine wpAnyH_done (by kernel_rfl) ?_ _
              go_wp2_with fail
              go_meet
              exact ⟨ga, gb, rfl, rfl, k34.1.get ga GA 29 (by simp), k34.1.get gb GB 29 (by simp), k34.1.2⟩
            exact AllReadyH.nil
          refine AllReadyH.cons (o := { dst := some 10, op := Op.alloc 29, type := 0, pos := "law.go:126", after := #[], guard := none }) rfl (fun K hK => ?_) ?_
          · clear hHeld
            have k35 := BM.allocB k30 Z512 29
            have l35ga := heap_lt (k30.1.get (ga) Z512 29 (by simp))
            have l35mb := heap_lt (k30.1.get (mb) M9 24 (by simp))
            have l35w := heap_lt (k30.1.get (w.heap.size + 1) S0 24 (by simp))
            go_simp
            generalize w130.alloc (.cells Z512 29) = w135 at *
            generalize w130.heap.size = gb at *
            clear k30
            refine hK.out _ _ ⟨blkAt_heap (k35.1.get mb M9 24 (by simp)), blkAt_heap (k35.1.get (w.heap.size + 1) S0 24 (by simp))⟩ (fun hHeld => ?_)
            clear hK K
            try simp only [Act.put, List.setIfInBounds_toArray, List.set_cons_zero, List.set_cons_succ]
            refine wpAnyH_ready (rs := [5]) (by kernel_rfl) (by simp) ?_
            refine AllReadyH.cons (o := { dst := some 50, op := Op.call { callee := Callee.value (Operand.func 10), args := #[Operand.tmp 48, Operand.tmp 49, Operand.const (Value.int IntKind.i64 90)], argTypes := #[31, 24, 3] }, type := 29, pos := "law.go:126", after := #[{ on := 3, ground := Ground.data }, { on := 4, ground := Ground.data }, { on := 2, ground := Ground.chain }], guard := none }) rfl (fun K hK => ?_) ?_
            · clear hHeld
              go_simp
              go_at_call 10
              refine (H2.out _ (BM.subB k35 (by intro p hp; simp only [List.mem_cons, List.not_mem_nil, or_false] at hp; rcases hp with rfl | rfl <;> simp))).mono ?_
              rintro e w136 ⟨rfl, -, q36⟩
              have k36 := k35.below q36
              clear q36 k35
              refine hK.out _ _ ⟨blkAt_heap (k36.1.get mb M9 24 (by simp)), blkAt_heap (k36.1.get (w.heap.size + 1) S0 24 (by simp))⟩ (fun hHeld => ?_)
              clear hK K
              try simp only [Act.put, List.setIfInBounds_toArray, List.set_cons_zero, List.set_cons_succ]
              refine wpAnyH_ready (rs := [8]) (by kernel_rfl) (by simp) ?_
              refine AllReadyH.cons (o := { dst := none, op := Op.store 29 (Operand.tmp 9) (Operand.tmp 47), type := 0, pos := "law.go:126", after := #[{ on := 6, ground := Ground.data }, { on := 2, ground := Ground.data }, { on := 5, ground := Ground.chain }, { on := 0, ground := Ground.phase }, { on := 1, ground := Ground.phase }, { on := 2, ground := Ground.phase }, { on := 3, ground := Ground.textOnly Departure.lateStores }, { on := 4, ground := Ground.textOnly Departure.lateStores }, { on := 5, ground := Ground.textOnly Departure.lateStoresUnsure }, { on := 6, ground := Ground.phase }, { on := 7, ground := Ground.phase }], guard := none }) rfl (fun K hK => ?_) AllReadyH.nil
              clear hHeld
              have e37 := blkAt_heap (k36.1.get ga Z512 29 (by simp))
              go_simp
              have k37 : BM w [(gb, Z512, 29), (ga, GA, 29), (mb, M9, 24), (w.heap.size + 1, S0, 24)] g n zs (blkPut w136 ga GA) := BM.putB k36 ga Z512 GA 29 (by simp) (by omega) (by omega) _ (by intro p hp; simp only [List.mem_cons, List.not_mem_nil, or_false] at hp; rcases hp with rfl | rfl | rfl | rfl <;> first | exact .inl rfl | exact .inr ⟨by simp, by simp <;> omega⟩)
              generalize blkPut w136 ga GA = w137 at *
              clear k36 e37
              refine hK.out _ _ ⟨blkAt_heap (k37.1.get mb M9 24 (by simp)), blkAt_heap (k37.1.get (w.heap.size + 1) S0 24 (by simp))⟩ (fun hHeld => ?_)
              clear hK K
              try simp only [Act.put, List.setIfInBounds_toArray, List.set_cons_zero, List.set_cons_succ]
              refine wpAnyH_ready (rs := [9]) (by kernel_rfl) (by simp) ?_
              refine AllReadyH.cons (o := { dst := none, op := Op.store 29 (Operand.tmp 10) (Operand.tmp 50), type := 0, pos := "law.go:126", after := #[{ on := 7, ground := Ground.data }, { on := 5, ground := Ground.data }, { on := 8, ground := Ground.chain }, { on := 0, ground := Ground.phase }, { on := 1, ground := Ground.phase }, { on := 2, ground := Ground.phase }, { on := 3, ground := Ground.phase }, { on := 4, ground := Ground.phase }, { on := 5, ground := Ground.phase }, { on := 6, ground := Ground.phase }, { on := 7, ground := Ground.phase }, { on := 8, ground := Ground.phase }], guard := none }) rfl (fun K hK => ?_) AllReadyH.nil
              clear hHeld
              have e38 := blkAt_heap (k37.1.get gb Z512 29 (by simp))
              go_simp
              have k38 : BM w [(gb, GB, 29), (ga, GA, 29), (mb, M9, 24), (w.heap.size + 1, S0, 24)] g n zs (blkPut w137 gb GB) := BM.putB k37 gb Z512 GB 29 (by simp) (by omega) (by omega) _ (by intro p hp; simp only [List.mem_cons, List.not_mem_nil, or_false] at hp; rcases hp with rfl | rfl | rfl | rfl <;> first | exact .inl rfl | exact .inr ⟨by simp, by simp <;> omega⟩)
              generalize blkPut w137 gb GB = w138 at *
              clear k37 e38
              refine hK.out _ _ ⟨blkAt_heap (k38.1.get mb M9 24 (by simp)), blkAt_heap (k38.1.get (w.heap.size + 1) S0 24 (by simp))⟩ (fun hHeld => ?_)
              clear hK K
              try simp only [Act.put, List.setIfInBounds_toArray, List.set_cons_zero, List.set_cons_succ]
              refine wpAnyH_done (by kernel_rfl) ?_ _
              go_wp2_with fail
              go_meet
              exact ⟨ga, gb, rfl, rfl, k38.1.get ga GA 29 (by simp), k38.1.get gb GB 29 (by simp), k38.1.2⟩
            exact AllReadyH.nil
          exact AllReadyH.nil
        refine AllReadyH.cons (o := { dst := some 10, op := Op.alloc 29, type := 0, pos := "law.go:126", after := #[], guard := none }) rfl (fun K hK => ?_) ?_
        · clear hHeld
          have k39 := BM.allocB k29 Z512 29
          have l39ga := heap_lt (k29.1.get (ga) Z512 29 (by simp))
          have l39mb := heap_lt (k29.1.get (mb) M9 24 (by simp))
          have l39w := heap_lt (k29.1.get (w.heap.size + 1) S0 24 (by simp))
          go_simp
          generalize w129.alloc (.cells Z512 29) = w139 at *
          generalize w129.heap.size = gb at *
          clear k29
          refine hK.out _ _ ⟨blkAt_heap (k39.1.get mb M9 24 (by simp)), blkAt_heap (k39.1.get (w.heap.size + 1) S0 24 (by simp))⟩ (fun hHeld => ?_)
          clear hK K
          try simp only [Act.put, List.setIfInBounds_toArray, List.set_cons_zero, List.set_cons_succ]
          refine wpAnyH_ready (rs := [2]) (by kernel_rfl) (by simp) ?_
          refine AllReadyH.cons (o := { dst := some 47, op := Op.call { callee := Callee.value (Operand.func 10), args := #[Operand.tmp 45, Operand.tmp 46, Operand.const (Value.int IntKind.i64 90)], argTypes := #[31, 24, 3] }, type := 29, pos := "law.go:126", after := #[{ on := 0, ground := Ground.data }, { on := 1, ground := Ground.data }], guard := none }) rfl (fun K hK => ?_) ?_
          · clear hHeld
            go_simp
            go_at_call 10
            refine (H1.out _ (BM.subB k39 (by intro p hp; simp only [List.mem_cons, List.not_mem_nil, or_false] at hp; rcases hp with rfl | rfl <;> simp))).mono ?_
            rintro e w140 ⟨rfl, -, q40⟩
            have k40 := k39.below q40
            clear q40 k39
            refine hK.out _ _ ⟨blkAt_heap (k40.1.get mb M9 24 (by simp)), blkAt_heap (k40.1.get (w.heap.size + 1) S0 24 (by simp))⟩ (fun hHeld => ?_)
            clear hK K
            try simp only [Act.put, List.setIfInBounds_toArray, List.set_cons_zero, List.set_cons_succ]
            refine wpAnyH_ready (rs := [5]) (by kernel_rfl) (by simp) ?_
            refine AllReadyH.cons (o := { dst := some 50, op := Op.call { callee := Callee.value (Operand.func 10), args := #[Operand.tmp 48, Operand.tmp 49, Operand.const (Value.int IntKind.i64 90)], argTypes := #[31, 24, 3] }, type := 29, pos := "law.go:126", after := #[{ on := 3, ground := Ground.data }, { on := 4, ground := Ground.data }, { on := 2, ground := Ground.chain }], guard := none }) rfl (fun K hK => ?_) ?_
            · clear hHeld
              go_simp
              go_at_call 10
              refine (H2.out _ (BM.subB k40 (by intro p hp; simp only [List.mem_cons, List.not_mem_nil, or_false] at hp; rcases hp with rfl | rfl <;> simp))).mono ?_
              rintro e w141 ⟨rfl, -, q41⟩
              have k41 := k40.below q41
              clear q41 k40
              refine hK.out _ _ ⟨blkAt_heap (k41.1.get mb M9 24 (by simp)), blkAt_heap (k41.1.get (w.heap.size + 1) S0 24 (by simp))⟩ (fun hHeld => ?_)
              clear hK K
              try simp only [Act.put, List.setIfInBounds_toArray, List.set_cons_zero, List.set_cons_succ]
              refine wpAnyH_ready (rs := [8]) (by kernel_rfl) (by simp) ?_
              refine AllReadyH.cons (o := { dst := none, op := Op.store 29 (Operand.tmp 9) (Operand.tmp 47), type := 0, pos := "law.go:126", after := #[{ on := 6, ground := Ground.data }, { on := 2, ground := Ground.data }, { on := 5, ground := Ground.chain }, { on := 0, ground := Ground.phase }, { on := 1, ground := Ground.phase }, { on := 2, ground := Ground.phase }, { on := 3, ground := Ground.textOnly Departure.lateStores }, { on := 4, ground := Ground.textOnly Departure.lateStores }, { on := 5, ground := Ground.textOnly Departure.lateStoresUnsure }, { on := 6, ground := Ground.phase }, { on := 7, ground := Ground.phase }], guard := none }) rfl (fun K hK => ?_) AllReadyH.nil
              clear hHeld
              have e42 := blkAt_heap (k41.1.get ga Z512 29 (by simp))
              go_simp
              have k42 : BM w [(gb, Z512, 29), (ga, GA, 29), (mb, M9, 24), (w.heap.size + 1, S0, 24)] g n zs (blkPut w141 ga GA) := BM.putB k41 ga Z512 GA 29 (by simp) (by omega) (by omega) _ (by intro p hp; simp only [List.mem_cons, List.not_mem_nil, or_false] at hp; rcases hp with rfl | rfl | rfl | rfl <;> first | exact .inl rfl | exact .inr ⟨by simp, by simp <;> omega⟩)
              generalize blkPut w141 ga GA = w142 at *
              clear k41 e42
              refine hK.out _ _ ⟨blkAt_heap (k42.1.get mb M9 24 (by simp)), blkAt_heap (k42.1.get (w.heap.size + 1) S0 24 (by simp))⟩ (fun hHeld => ?_)
              clear hK K
              try simp only [Act.put, List.setIfInBounds_toArray, List.set_cons_zero, List.set_cons_succ]
              refine wpAnyH_ready (rs := [9]) (by kernel_rfl) (by simp) ?_
              refine AllReadyH.cons (o := { dst := none, op := Op.store 29 (Operand.tmp 10) (Operand.tmp 50), type := 0, pos := "law.go:126", after := #[{ on := 7, ground := Ground.data }, { on := 5, ground := Ground.data }, { on := 8, ground := Ground.chain }, { on := 0, ground := Ground.phase }, { on := 1, ground := Ground.phase }, { on := 2, ground := Ground.phase }, { on := 3, ground := Ground.phase }, { on := 4, ground := Ground.phase }, { on := 5, ground := Ground.phase }, { on := 6, ground := Ground.phase }, { on := 7, ground := Ground.phase }, { on := 8, ground := Ground.phase }], guard := none }) rfl (fun K hK => ?_) AllReadyH.nil
              clear hHeld
              have e43 := blkAt_heap (k42.1.get gb Z512 29 (by simp))
              go_simp
              have k43 : BM w [(gb, GB, 29), (ga, GA, 29), (mb, M9, 24), (w.heap.size + 1, S0, 24)] g n zs (blkPut w142 gb GB) := BM.putB k42 gb Z512 GB 29 (by simp) (by omega) (by omega) _ (by intro p hp; simp only [List.mem_cons, List.not_mem_nil, or_false] at hp; rcases hp with rfl | rfl | rfl | rfl <;> first | exact .inl rfl | exact .inr ⟨by simp, by simp <;> omega⟩)
              generalize blkPut w142 gb GB = w143 at *
              clear k42 e43
              refine hK.out _ _ ⟨blkAt_heap (k43.1.get mb M9 24 (by simp)), blkAt_heap (k43.1.get (w.heap.size + 1) S0 24 (by simp))⟩ (fun hHeld => ?_)
              clear hK K
              try simp only [Act.put, List.setIfInBounds_toArray, List.set_cons_zero, List.set_cons_succ]
              refine wpAnyH_done (by kernel_rfl) ?_ _
              go_wp2_with fail
              go_meet
              exact ⟨ga, gb, rfl, rfl, k43.1.get ga GA 29 (by simp), k43.1.get gb GB 29 (by simp), k43.1.2⟩
            exact AllReadyH.nil
          exact AllReadyH.nil
        exact AllReadyH.nil
      refine AllReadyH.cons (o := { dst := some 10, op := Op.alloc 29, type := 0, pos := "law.go:126", after := #[], guard := none }) rfl (fun K hK => ?_) ?_
      · clear hHeld
        have k44 := BM.allocB k0 Z512 29
        have l44mb := heap_lt (k0.1.get (mb) M9 24 (by simp))
        have l44w := heap_lt (k0.1.get (w.heap.size + 1) S0 24 (by simp))
        go_simp
        generalize w100.alloc (.cells Z512 29) = w144 at *
        generalize w100.heap.size = gb at *
        clear k0
        refine hK.out _ _ ⟨blkAt_heap (k44.1.get mb M9 24 (by simp)), blkAt_heap (k44.1.get (w.heap.size + 1) S0 24 (by simp))⟩ (fun hHeld => ?_)
        clear hK K
        try simp only [Act.put, List.setIfInBounds_toArray, List.set_cons_zero, List.set_cons_succ]
        refine wpAnyH_ready (rs := [2, 6]) (by kernel_rfl) (by simp) ?_
        refine AllReadyH.cons (o := { dst := some 47, op := Op.call { callee := Callee.value (Operand.func 10), args := #[Operand.tmp 45, Operand.tmp 46, Operand.const (Value.int IntKind.i64 90)], argTypes := #[31, 24, 3] }, type := 29, pos := "law.go:126", after := #[{ on := 0, ground := Ground.data }, { on := 1, ground := Ground.data }], guard := none }) rfl (fun K hK => ?_) ?_
        · clear hHeld
          go_simp
          go_at_call 10
          refine (H1.out _ (BM.subB k44 (by intro p hp; simp only [List.mem_cons, List.not_mem_nil, or_false] at hp; rcases hp with rfl | rfl <;> simp))).mono ?_
          rintro e w145 ⟨rfl, -, q45⟩
          have k45 := k44.below q45
          clear q45 k44
          refine hK.out _ _ ⟨blkAt_heap (k45.1.get mb M9 24 (by simp)), blkAt_heap (k45.1.get (w.heap.size + 1) S0 24 (by simp))⟩ (fun hHeld => ?_)
          clear hK K
          try simp only [Act.put, List.setIfInBounds_toArray, List.set_cons_zero, List.set_cons_succ]
          refine wpAnyH_ready (rs := [5, 6]) (by kernel_rfl) (by simp) ?_
          refine AllReadyH.cons (o := { dst := some 50, op := Op.call { callee := Callee.value (Operand.func 10), args := #[Operand.tmp 48, Operand.tmp 49, Operand.const (Value.int IntKind.i64 90)], argTypes := #[31, 24, 3] }, type := 29, pos := "law.go:126", after := #[{ on := 3, ground := Ground.data }, { on := 4, ground := Ground.data }, { on := 2, ground := Ground.chain }], guard := none }) rfl (fun K hK => ?_) ?_
          · clear hHeld
            go_simp
            go_at_call 10
            refine (H2.out _ (BM.subB k45 (by intro p hp; simp only [List.mem_cons, List.not_mem_nil, or_false] at hp; rcases hp with rfl | rfl <;> simp))).mono ?_
            rintro e w146 ⟨rfl, -, q46⟩
            have k46 := k45.below q46
            clear q46 k45
            refine hK.out _ _ ⟨blkAt_heap (k46.1.get mb M9 24 (by simp)), blkAt_heap (k46.1.get (w.heap.size + 1) S0 24 (by simp))⟩ (fun hHeld => ?_)
            clear hK K
            try simp only [Act.put, List.setIfInBounds_toArray, List.set_cons_zero, List.set_cons_succ]
            refine wpAnyH_ready (rs := [6]) (by kernel_rfl) (by simp) ?_
            refine AllReadyH.cons (o := { dst := some 9, op := Op.alloc 29, type := 0, pos := "law.go:126", after := #[], guard := none }) rfl (fun K hK => ?_) ?_
            · clear hHeld
              have k47 := BM.allocB k46 Z512 29
              have l47gb := heap_lt (k46.1.get (gb) Z512 29 (by simp))
              have l47mb := heap_lt (k46.1.get (mb) M9 24 (by simp))
              have l47w := heap_lt (k46.1.get (w.heap.size + 1) S0 24 (by simp))
              go_simp
              generalize w146.alloc (.cells Z512 29) = w147 at *
              generalize w146.heap.size = ga at *
              clear k46
              refine hK.out _ _ ⟨blkAt_heap (k47.1.get mb M9 24 (by simp)), blkAt_heap (k47.1.get (w.heap.size + 1) S0 24 (by simp))⟩ (fun hHeld => ?_)
              clear hK K
              try simp only [Act.put, List.setIfInBounds_toArray, List.set_cons_zero, List.set_cons_succ]
              refine wpAnyH_ready (rs := [8]) (by kernel_rfl) (by simp) ?_
              refine AllReadyH.cons (o := { dst := none, op := Op.store 29 (Operand.tmp 9) (Operand.tmp 47), type := 0, pos := "law.go:126", after := #[{ on := 6, ground := Ground.data }, { on := 2, ground := Ground.data }, { on := 5, ground := Ground.chain }, { on := 0, ground := Ground.phase }, { on := 1, ground := Ground.phase }, { on := 2, ground := Ground.phase }, { on := 3, ground := Ground.textOnly Departure.lateStores }, { on := 4, ground := Ground.textOnly Departure.lateStores }, { on := 5, ground := Ground.textOnly Departure.lateStoresUnsure }, { on := 6, ground := Ground.phase }, { on := 7, ground := Ground.phase }], guard := none }) rfl (fun K hK => ?_) AllReadyH.nil
              clear hHeld
              have e48 := blkAt_heap (k47.1.get ga Z512 29 (by simp))
              go_simp
              have k48 : BM w [(ga, GA, 29), (gb, Z512, 29), (mb, M9, 24), (w.heap.size + 1, S0, 24)] g n zs (blkPut w147 ga GA) := BM.putB k47 ga Z512 GA 29 (by simp) (by omega) (by omega) _ (by intro p hp; simp only [List.mem_cons, List.not_mem_nil, or_false] at hp; rcases hp with rfl | rfl | rfl | rfl <;> first | exact .inl rfl | exact .inr ⟨by simp, by simp <;> omega⟩)
              generalize blkPut w147 ga GA = w148 at *
              clear k47 e48
              refine hK.out _ _ ⟨blkAt_heap (k48.1.get mb M9 24 (by simp)), blkAt_heap (k48.1.get (w.heap.size + 1) S0 24 (by simp))⟩ (fun hHeld => ?_)
              clear hK K
              try simp only [Act.put, List.setIfInBounds_toArray, List.set_cons_zero, List.set_cons_succ]
              refine wpAnyH_ready (rs := [9]) (by kernel_rfl) (by simp) ?_
              refine AllReadyH.cons (o := { dst := none, op := Op.store 29 (Operand.tmp 10) (Operand.tmp 50), type := 0, pos := "law.go:126", after := #[{ on := 7, ground := Ground.data }, { on := 5, ground := Ground.data }, { on := 8, ground := Ground.chain }, { on := 0, ground := Ground.phase }, { on := 1, ground := Ground.phase }, { on := 2, ground := Ground.phase }, { on := 3, ground := Ground.phase }, { on := 4, ground := Ground.phase }, { on := 5, ground := Ground.phase }, { on := 6, ground := Ground.phase }, { on := 7, ground := Ground.phase }, { on := 8, ground := Ground.phase }], guard := none }) rfl (fun K hK => ?_) AllReadyH.nil
              clear hHeld
              have e49 := blkAt_heap (k48.1.get gb Z512 29 (by simp))
              go_simp
              have k49 : BM w [(ga, GA, 29), (gb, GB, 29), (mb, M9, 24), (w.heap.size + 1, S0, 24)] g n zs (blkPut w148 gb GB) := BM.putB k48 gb Z512 GB 29 (by simp) (by omega) (by omega) _ (by intro p hp; simp only [List.mem_cons, List.not_mem_nil, or_false] at hp; rcases hp with rfl | rfl | rfl | rfl <;> first | exact .inl rfl | exact .inr ⟨by simp, by simp <;> omega⟩)
              generalize blkPut w148 gb GB = w149 at *
              clear k48 e49
              refine hK.out _ _ ⟨blkAt_heap (k49.1.get mb M9 24 (by simp)), blkAt_heap (k49.1.get (w.heap.size + 1) S0 24 (by simp))⟩ (fun hHeld => ?_)
              clear hK K
              try simp only [Act.put, List.setIfInBounds_toArray, List.set_cons_zero, List.set_cons_succ]
              refine wpAnyH_done (by kernel_rfl) ?_ _
              go_wp2_with fail
              go_meet
              exact ⟨ga, gb, rfl, rfl, k49.1.get ga GA 29 (by simp), k49.1.get gb GB 29 (by simp), k49.1.2⟩
            exact AllReadyH.nil
          refine AllReadyH.cons (o := { dst := some 9, op := Op.alloc 29, type := 0, pos := "law.go:126", after := #[], guard := none }) rfl (fun K hK => ?_) ?_
          · clear hHeld
            have k50 := BM.allocB k45 Z512 29
            have l50gb := heap_lt (k45.1.get (gb) Z512 29 (by simp))
            have l50mb := heap_lt (k45.1.get (mb) M9 24 (by simp))
            have l50w := heap_lt (k45.1.get (w.heap.size + 1) S0 24 (by simp))
            go_simp
            generalize w145.alloc (.cells Z512 29) = w150 at *
            generalize w145.heap.size = ga at *
            clear k45
            refine hK.out _ _ ⟨blkAt_heap (k50.1.get mb M9 24 (by simp)), blkAt_heap (k50.1.get (w.heap.size + 1) S0 24 (by simp))⟩ (fun hHeld => ?_)
            clear hK K
            try simp only [Act.put, List.setIfInBounds_toArray, List.set_cons_zero, List.set_cons_succ]
            refine wpAnyH_ready (rs := [5]) (by kernel_rfl) (by simp) ?_
            refine AllReadyH.cons (o := { dst := some 50, op := Op.call { callee := Callee.value (Operand.func 10), args := #[Operand.tmp 48, Operand.tmp 49, Operand.const (Value.int IntKind.i64 90)], argTypes := #[31, 24, 3] }, type := 29, pos := "law.go:126", after := #[{ on := 3, ground := Ground.data }, { on := 4, ground := Ground.data }, { on := 2, ground := Ground.chain }], guard := none }) rfl (fun K hK => ?_) ?_
            · clear hHeld
              go_simp
              go_at_call 10
              refine (H2.out _ (BM.subB k50 (by intro p hp; simp only [List.mem_cons, List.not_mem_nil, or_false] at hp; rcases hp with rfl | rfl <;> simp))).mono ?_
              rintro e w151 ⟨rfl, -, q51⟩
              have k51 := k50.below q51
              clear q51 k50
              refine hK.out _ _ ⟨blkAt_heap (k51.1.get mb M9 24 (by simp)), blkAt_heap (k51.1.get (w.heap.size + 1) S0 24 (by simp))⟩ (fun hHeld => ?_)
              clear hK K
              try simp only [Act.put, List.setIfInBounds_toArray, List.set_cons_zero, List.set_cons_succ]
              refine wpAnyH_ready (rs := [8]) (by kernel_rfl) (by simp) ?_
              refine AllReadyH.cons (o := { dst := none, op := Op.store 29 (Operand.tmp 9) (Operand.tmp 47), type := 0, pos := "law.go:126", after := #[{ on := 6, ground := Ground.data }, { on := 2, ground := Ground.data }, { on := 5, ground := Ground.chain }, { on := 0, ground := Ground.phase }, { on := 1, ground := Ground.phase }, { on := 2, ground := Ground.phase }, { on := 3, ground := Ground.textOnly Departure.lateStores }, { on := 4, ground := Ground.textOnly Departure.lateStores }, { on := 5, ground := Ground.textOnly Departure.lateStoresUnsure }, { on := 6, ground := Ground.phase }, { on := 7, ground := Ground.phase }], guard := none }) rfl (fun K hK => ?_) AllReadyH.nil
              clear hHeld
              have e52 := blkAt_heap (k51.1.get ga Z512 29 (by simp))
              go_simp
              have k52 : BM w [(ga, GA, 29), (gb, Z512, 29), (mb, M9, 24), (w.heap.size + 1, S0, 24)] g n zs (blkPut w151 ga GA) := BM.putB k51 ga Z512 GA 29 (by simp) (by omega) (by omega) _ (by intro p hp; simp only [List.mem_cons, List.not_mem_nil, or_false] at hp; rcases hp with rfl | rfl | rfl | rfl <;> first | exact .inl rfl | exact .inr ⟨by simp, by simp <;> omega⟩)
              generalize blkPut w151 ga GA = w152 at *
              clear k51 e52
              refine hK.out _ _ ⟨blkAt_heap (k52.1.get mb M9 24 (by simp)), blkAt_heap (k52.1.get (w.heap.size + 1) S0 24 (by simp))⟩ (fun hHeld => ?_)
              clear hK K
              try simp only [Act.put, List.setIfInBounds_toArray, List.set_cons_zero, List.set_cons_succ]
              refine wpAnyH_ready (rs := [9]) (by kernel_rfl) (by simp) ?_
              refine AllReadyH.cons (o := { dst := none, op := Op.store 29 (Operand.tmp 10) (Operand.tmp 50), type := 0, pos := "law.go:126", after := #[{ on := 7, ground := Ground.data }, { on := 5, ground := Ground.data }, { on := 8, ground := Ground.chain }, { on := 0, ground := Ground.phase }, { on := 1, ground := Ground.phase }, { on := 2, ground := Ground.phase }, { on := 3, ground := Ground.phase }, { on := 4, ground := Ground.phase }, { on := 5, ground := Ground.phase }, { on := 6, ground := Ground.phase }, { on := 7, ground := Ground.phase }, { on := 8, ground := Ground.phase }], guard := none }) rfl (fun K hK => ?_) AllReadyH.nil
              clear hHeld
              have e53 := blkAt_heap (k52.1.get gb Z512 29 (by simp))
              go_simp
              have k53 : BM w [(ga, GA, 29), (gb, GB, 29), (mb, M9, 24), (w.heap.size + 1, S0, 24)] g n zs (blkPut w152 gb GB) := BM.putB k52 gb Z512 GB 29 (by simp) (by omega) (by omega) _ (by intro p hp; simp only [List.mem_cons, List.not_mem_nil, or_false] at hp; rcases hp with rfl | rfl | rfl | rfl <;> first | exact .inl rfl | exact .inr ⟨by simp, by simp <;> omega⟩)
              generalize blkPut w152 gb GB = w153 at *
              clear k52 e53
              refine hK.out _ _ ⟨blkAt_heap (k53.1.get mb M9 24 (by simp)), blkAt_heap (k53.1.get (w.heap.size + 1) S0 24 (by simp))⟩ (fun hHeld => ?_)
              clear hK K
              try simp only [Act.put, List.setIfInBounds_toArray, List.set_cons_zero, List.set_cons_succ]
              refine wpAnyH_done (by kernel_rfl) ?_ _
              go_wp2_with fail
              go_meet
              exact ⟨ga, gb, rfl, rfl, k53.1.get ga GA 29 (by simp), k53.1.get gb GB 29 (by simp), k53.1.2⟩
            exact AllReadyH.nil
          exact AllReadyH.nil
        refine AllReadyH.cons (o := { dst := some 9, op := Op.alloc 29, type := 0, pos := "law.go:126", after := #[], guard := none }) rfl (fun K hK => ?_) ?_
        · clear hHeld
          have k54 := BM.allocB k44 Z512 29
          have l54gb := heap_lt (k44.1.get (gb) Z512 29 (by simp))
          have l54mb := heap_lt (k44.1.get (mb) M9 24 (by simp))
          have l54w := heap_lt (k44.1.get (w.heap.size + 1) S0 24 (by simp))
          go_simp
          generalize w144.alloc (.cells Z512 29) = w154 at *
          generalize w144.heap.size = ga at *
          clear k44
          refine hK.out _ _ ⟨blkAt_heap (k54.1.get mb M9 24 (by simp)), blkAt_heap (k54.1.get (w.heap.size + 1) S0 24 (by simp))⟩ (fun hHeld => ?_)
          clear hK K
          try simp only [Act.put, List.setIfInBounds_toArray, List.set_cons_zero, List.set_cons_succ]
          refine wpAnyH_ready (rs := [2]) (by kernel_rfl) (by simp) ?_
          refine AllReadyH.cons (o := { dst := some 47, op := Op.call { callee := Callee.value (Operand.func 10), args := #[Operand.tmp 45, Operand.tmp 46, Operand.const (Value.int IntKind.i64 90)], argTypes := #[31, 24, 3] }, type := 29, pos := "law.go:126", after := #[{ on := 0, ground := Ground.data }, { on := 1, ground := Ground.data }], guard := none }) rfl (fun K hK => ?_) ?_
          · clear hHeld
            go_simp
            go_at_call 10
            refine (H1.out _ (BM.subB k54 (by intro p hp; simp only [List.mem_cons, List.not_mem_nil, or_false] at hp; rcases hp with rfl | rfl <;> simp))).mono ?_
            rintro e w155 ⟨rfl, -, q55⟩
            have k55 := k54.below q55
            clear q55 k54
            refine hK.out _ _ ⟨blkAt_heap (k55.1.get mb M9 24 (by simp)), blkAt_heap (k55.1.get (w.heap.size + 1) S0 24 (by simp))⟩ (fun hHeld => ?_)
            clear hK K
            try simp only [Act.put, List.setIfInBounds_toArray, List.set_cons_zero, List.set_cons_succ]
            refine wpAnyH_ready (rs := [5]) (by kernel_rfl) (by simp) ?_
            refine AllReadyH.cons (o := { dst := some 50, op := Op.call { callee := Callee.value (Operand.func 10), args := #[Operand.tmp 48, Operand.tmp 49, Operand.const (Value.int IntKind.i64 90)], argTypes := #[31, 24, 3] }, type := 29, pos := "law.go:126", after := #[{ on := 3, ground := Ground.data }, { on := 4, ground := Ground.data }, { on := 2, ground := Ground.chain }], guard := none }) rfl (fun K hK => ?_) ?_
            · clear hHeld
              go_simp
              go_at_call 10
              refine (H2.out _ (BM.subB k55 (by intro p hp; simp only [List.mem_cons, List.not_mem_nil, or_false] at hp; rcases hp with rfl | rfl <;> simp))).mono ?_
              rintro e w156 ⟨rfl, -, q56⟩
              have k56 := k55.below q56
              clear q56 k55
              refine hK.out _ _ ⟨blkAt_heap (k56.1.get mb M9 24 (by simp)), blkAt_heap (k56.1.get (w.heap.size + 1) S0 24 (by simp))⟩ (fun hHeld => ?_)
              clear hK K
              try simp only [Act.put, List.setIfInBounds_toArray, List.set_cons_zero, List.set_cons_succ]
              refine wpAnyH_ready (rs := [8]) (by kernel_rfl) (by simp) ?_
              refine AllReadyH.cons (o := { dst := none, op := Op.store 29 (Operand.tmp 9) (Operand.tmp 47), type := 0, pos := "law.go:126", after := #[{ on := 6, ground := Ground.data }, { on := 2, ground := Ground.data }, { on := 5, ground := Ground.chain }, { on := 0, ground := Ground.phase }, { on := 1, ground := Ground.phase }, { on := 2, ground := Ground.phase }, { on := 3, ground := Ground.textOnly Departure.lateStores }, { on := 4, ground := Ground.textOnly Departure.lateStores }, { on := 5, ground := Ground.textOnly Departure.lateStoresUnsure }, { on := 6, ground := Ground.phase }, { on := 7, ground := Ground.phase }], guard := none }) rfl (fun K hK => ?_) AllReadyH.nil
              clear hHeld
              have e57 := blkAt_heap (k56.1.get ga Z512 29 (by simp))
              go_simp
              have k57 : BM w [(ga, GA, 29), (gb, Z512, 29), (mb, M9, 24), (w.heap.size + 1, S0, 24)] g n zs (blkPut w156 ga GA) := BM.putB k56 ga Z512 GA 29 (by simp) (by omega) (by omega) _ (by intro p hp; simp only [List.mem_cons, List.not_mem_nil, or_false] at hp; rcases hp with rfl | rfl | rfl | rfl <;> first | exact .inl rfl | exact .inr ⟨by simp, by simp <;> omega⟩)
              generalize blkPut w156 ga GA = w157 at *
              clear k56 e57
              refine hK.out _ _ ⟨blkAt_heap (k57.1.get mb M9 24 (by simp)), blkAt_heap (k57.1.get (w.heap.size + 1) S0 24 (by simp))⟩ (fun hHeld => ?_)
              clear hK K
              try simp only [Act.put, List.setIfInBounds_toArray, List.set_cons_zero, List.set_cons_succ]
              refine wpAnyH_ready (rs := [9]) (by kernel_rfl) (by simp) ?_
              refine AllReadyH.cons (o := { dst := none, op := Op.store 29 (Operand.tmp 10) (Operand.tmp 50), type := 0, pos := "law.go:126", after := #[{ on := 7, ground := Ground.data }, { on := 5, ground := Ground.data }, { on := 8, ground := Ground.chain }, { on := 0, ground := Ground.phase }, { on := 1, ground := Ground.phase }, { on := 2, ground := Ground.phase }, { on := 3, ground := Ground.phase }, { on := 4, ground := Ground.phase }, { on := 5, ground := Ground.phase }, { on := 6, ground := Ground.phase }, { on := 7, ground := Ground.phase }, { on := 8, ground := Ground.phase }], guard := none }) rfl (fun K hK => ?_) AllReadyH.nil
              clear hHeld
              have e58 := blkAt_heap (k57.1.get gb Z512 29 (by simp))
              go_simp
              have k58 : BM w [(ga, GA, 29), (gb, GB, 29), (mb, M9, 24), (w.heap.size + 1, S0, 24)] g n zs (blkPut w157 gb GB) := BM.putB k57 gb Z512 GB 29 (by simp) (by omega) (by omega) _ (by intro p hp; simp only [List.mem_cons, List.not_mem_nil, or_false] at hp; rcases hp with rfl | rfl | rfl | rfl <;> first | exact .inl rfl | exact .inr ⟨by simp, by simp <;> omega⟩)
              generalize blkPut w157 gb GB = w158 at *
              clear k57 e58
              refine hK.out _ _ ⟨blkAt_heap (k58.1.get mb M9 24 (by simp)), blkAt_heap (k58.1.get (w.heap.size + 1) S0 24 (by simp))⟩ (fun hHeld => ?_)
              clear hK K
              try simp only [Act.put, List.setIfInBounds_toArray, List.set_cons_zero, List.set_cons_succ]
              refine wpAnyH_done (by kernel_rfl) ?_ _
              go_wp2_with fail
              go_meet
              exact ⟨ga, gb, rfl, rfl, k58.1.get ga GA 29 (by simp), k58.1.get gb GB 29 (by simp), k58.1.2⟩
            exact AllReadyH.nil
          exact AllReadyH.nil
        exact AllReadyH.nil
      exact AllReadyH.nil
    case rest =>
      obtain ⟨ga, gb, rfl, rfl, hga, hgb, hbel⟩ := hcut
      have kx : BL w [(ga, GA, 29), (gb, GB, 29)] wc := ⟨fun p hp => (by simp only [List.mem_cons, List.not_mem_nil, or_false] at hp; rcases hp with rfl | rfl <;> assumption), hbel⟩
      clear hga hgb hbel H1 H2 km bm1 bm2 sm9 sr9 sz9 nm9 nr9 nm9' nr9' nz9
      go_wp2_with fail
      go_loopw [11] (fun i wr => ∃ k : Nat, 192 ≤ k ∧ k ≤ 256 ∧ i = .int .i64 k ∧ BL w [(ga, GA, 29), (gb, GB, 29)] wr) (fun i _ => (256 - intOf i).toNat)
      case atStart => exact ⟨192, by omega, by omega, rfl, kx⟩
      case round =>
        obtain ⟨k, hk0, hk, rfl, kr⟩ := hrel
        clear kx
        by_cases hlt : k < 256
        case pos =>
          have n0 : (0 : Int) ≤ (k : Int) := by omega
          have n1' : (k : Int) < 256 := by omega
          obtain ⟨x1, x2⟩ := lock_right s zs T128.out b1 k hk0 hlt
          have d1 := (cell_of _ _ k kr.h0).trans (HGA1.out k hlt)
          have d2 := (cell_of _ _ (256 + k) kr.h0).trans (HGA2.out k hlt)
          have d3 := (cell_of _ _ k kr.h1).trans (HGB1.out k hlt)
          have d4 := (cell_of _ _ (256 + k) kr.h1).trans (HGB2.out k hlt)
          rw [x1] at d3
          rw [x2] at d4
          generalize cL zs s 90 k = c at *
          generalize fL zs s 90 k = f at *
          clear x1 x2
          go_wp2_with fail
          go_region
          all_goals
            go_wp2_with fail
            go_roundw
            case rel => exact ⟨k + 1, by omega, by omega, by go_num, by first | exact kr | exact kr.drew⟩
            case measure => simp [intOf] <;> omega
        case neg =>
          have hk4 : k = 256 := by omega
          subst hk4
          go_wp2_with fail
          go_ret
          exact ⟨ret_bool (by simp), kr.2⟩
end Back
end Go.Proofs.Ytpjgcbbpfpcjeaa
