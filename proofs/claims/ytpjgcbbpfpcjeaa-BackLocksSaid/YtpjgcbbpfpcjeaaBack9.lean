/- A line of the ground of a picture (layer 17): what the program's and the reference's functions do, part 9. No conditions but that numbers are of their kinds and slices are slices. -/
import Derived.Test.YtpjgcbbpfpcjeaaBack8
import Derived.RegionTactic
import Derived.LoopTactic
import Derived.Deep.DeepCutAuto
import Derived.Deep.CutRange
import Derived.Deep.RegionHeld3
import Derived.Lib.Hide
namespace Go.Proofs.Ytpjgcbbpfpcjeaa
open Go.RowKit
open Kit Tile TileR
set_option linter.unusedSimpArgs false
set_option linter.unusedVariables false
attribute [local simp] blkAt_alloc blkNew_cells putRow_cells blkAt_drew BlkN.set BlkOne.setInt BlkOne.setBool blkPut_alloc blkPut_drew blkAt_blkPut_other size_blkPut nq2 nq3 nq4 nq5 nq6 nq7 nq8
namespace Back
attribute [local simp ↓] rl_in
attribute [local simp] rl_run
attribute [local simp ↓] gl_in gs_in ds_in ag_in
attribute [local simp] gl_run gs_run ds_run ag_run
open TileB
theorem rs_in (v x : Value) : Instr.storeAt 24 v x = storeW 24 v x := rfl
theorem rs_run (b : Nat) (w : World) (A : Array Value) (h : BlkN (blkAt w b) 11) (hA : BlkN A 11) (h1 : BlkOne A) : Sem.run Try.prog (storeW 24 (.pointer (some ⟨b, 0, none⟩)) (.agg A)) w = .ok () (blkPut w b A) := store_run 24 11 i11 (by omega) b w A h hA h1
theorem z11 : BlkN (#[.int .u8 0, .int .u8 0, .int .u8 0, .int .u8 0, .int .u8 0, .int .u8 0, .int .u8 0, .int .u8 0, .int .u8 0, .int .u8 0, .int .u8 0] : Array Value) 11 := rfl
theorem BL.h0 {w : World} {b : Nat} {A : Array Value} {t : TypeId} {L : List (Nat × Array Value × TypeId)} {W : World} (h : BL w ((b, A, t) :: L) W) : W.heap[b]? = some (.cells A t) := h.1 (b, A, t) (by simp)
theorem BL.h1 {w : World} {p0 : Nat × Array Value × TypeId} {b : Nat} {A : Array Value} {t : TypeId} {L : List (Nat × Array Value × TypeId)} {W : World} (h : BL w (p0 :: (b, A, t) :: L) W) : W.heap[b]? = some (.cells A t) := h.1 (b, A, t) (by simp)
theorem BL.h2 {w : World} {p0 p1 : Nat × Array Value × TypeId} {b : Nat} {A : Array Value} {t : TypeId} {L : List (Nat × Array Value × TypeId)} {W : World} (h : BL w (p0 :: p1 :: (b, A, t) :: L) W) : W.heap[b]? = some (.cells A t) := h.1 (b, A, t) (by simp)
theorem BL.h3 {w : World} {p0 p1 p2 : Nat × Array Value × TypeId} {b : Nat} {A : Array Value} {t : TypeId} {L : List (Nat × Array Value × TypeId)} {W : World} (h : BL w (p0 :: p1 :: p2 :: (b, A, t) :: L) W) : W.heap[b]? = some (.cells A t) := h.1 (b, A, t) (by simp)
theorem BL.h4 {w : World} {p0 p1 p2 p3 : Nat × Array Value × TypeId} {b : Nat} {A : Array Value} {t : TypeId} {L : List (Nat × Array Value × TypeId)} {W : World} (h : BL w (p0 :: p1 :: p2 :: p3 :: (b, A, t) :: L) W) : W.heap[b]? = some (.cells A t) := h.1 (b, A, t) (by simp)
theorem BL.h5 {w : World} {p0 p1 p2 p3 p4 : Nat × Array Value × TypeId} {b : Nat} {A : Array Value} {t : TypeId} {L : List (Nat × Array Value × TypeId)} {W : World} (h : BL w (p0 :: p1 :: p2 :: p3 :: p4 :: (b, A, t) :: L) W) : W.heap[b]? = some (.cells A t) := h.1 (b, A, t) (by simp)
theorem BL.start3 (w : World) (I A B : Array Value) (t1 t2 t3 : TypeId) : BL w [(w.heap.size, I, t1), (w.heap.size + 1, A, t2), (w.heap.size + 1 + 1, B, t3)] (((w.alloc (.cells I t1)).alloc (.cells A t2)).alloc (.cells B t3)) := by
  have e0 : BL w [] w := ⟨fun p hp => (by cases hp), Below.refl _ _⟩
  have e := ((e0.alloc I t1).alloc A t2).alloc B t3
  refine e.sub fun p hp => ?_
  simp only [List.mem_cons, List.not_mem_nil, or_false] at hp
  rcases hp with rfl | rfl | rfl
  · simp
  · simp
  · simp
attribute [local simp ↓] rs_in
attribute [local simp] rs_run
set_option maxRecDepth 100000 in
set_option maxHeartbeats 4000000 in
theorem scrolls_all (v1 v2 : Value) (z1 z2 : List Int) (m a : Int) (r : Nat → Int) (h : RB r) (b0 b1 : Int) (hb0 : 0 ≤ b0 ∧ b0 < 256) (hb1 : 0 ≤ b1 ∧ b1 < 256) (a0' : -9223372036854775808 ≤ a) (a1' : a ≤ 9223372036854775807) (w : World) (hs1 : IntsOf w v1 .u8 z1) (hs2 : IntsOf w v2 .u8 z2) : Calls Try.prog 6 #[.agg #[v1, v2, .int .i64 m, .int .i64 a], .agg (R r), .agg #[.int .u8 b0, .int .u8 b1]] w fun e w' => e = .returned (.bool true) ∧ Below w.heap.size w w' := by
  have hB := fun (n2 : z2.length ≤ 300) (W : World) (q : Below w.heap.size w W) => build_far v1 v2 m a z1 z2 W a0' a1' n2 (Bytes.below hs1 q) (Bytes.below hs2 q)
  have hal := fun L => heldP (T := BL w L) (fun W W' h b => h.below b) alive_any
  have sA : BlkN (R r) 11 := R_size _
  have oA : BlkOne (R r) := R_one _
  have HB := Lib.hid hB
  have HAL := Lib.hid (hal [(w.heap.size, #[v1, v2, .int .i64 m, .int .i64 a], 33), (w.heap.size + 1, R r, 24), (w.heap.size + 1 + 1, #[.int .u8 b0, .int .u8 b1], 39)])
  clear hB hal a0' a1'
  obtain ⟨p1, c1, rfl, hl1, hm1, -, -⟩ := hs1
  obtain ⟨p2, c2, rfl, hl2, hm2, -, -⟩ := hs2
  unfold maxLen at hm1 hm2
  by_cases n1 : z1.length ≤ 300
  case neg =>
    have t1 : decide (300 < z1.length) = true := decide_eq_true (by omega)
    have t1' : 300 < z1.length := by omega
    generalize R r = A at *
    go_enter Try.func6, Try.ntmps6
    go_wp2_with (go_at_call 9; (with_reducible refine (HAL.out _ ?_).mono ?_); (exact BL.start3 _ _ _ _ _ _ _); rintro e w1 ⟨rfl, k1⟩; (have a0 : w1.cell? ⟨w.heap.size, 0, none⟩ = some (.slice p1 z1.length c1) := (cell_of _ _ 0 k1.h0).trans rfl); (have a1 : w1.cell? ⟨w.heap.size, 1, none⟩ = some (.slice p2 z2.length c2) := (cell_of _ _ 1 k1.h0).trans rfl); (have a2 : w1.cell? ⟨w.heap.size, 2, none⟩ = some (.int .i64 m) := (cell_of _ _ 2 k1.h0).trans rfl); (have a3 : w1.cell? ⟨w.heap.size, 3, none⟩ = some (.int .i64 a) := (cell_of _ _ 3 k1.h0).trans rfl))
    go_ret
    exact ⟨ret_bool (by simp), k1.2⟩
  have t1 : decide (300 < z1.length) = false := decide_eq_false (by omega)
  have t1' : ¬ 300 < z1.length := by omega
  by_cases n2 : z2.length ≤ 300
  case neg =>
    have t2 : decide (300 < z2.length) = true := decide_eq_true (by omega)
    have t2' : 300 < z2.length := by omega
    generalize R r = A at *
    go_enter Try.func6, Try.ntmps6
    go_wp2_with (go_at_call 9; (with_reducible refine (HAL.out _ ?_).mono ?_); (exact BL.start3 _ _ _ _ _ _ _); rintro e w1 ⟨rfl, k1⟩; (have a0 : w1.cell? ⟨w.heap.size, 0, none⟩ = some (.slice p1 z1.length c1) := (cell_of _ _ 0 k1.h0).trans rfl); (have a1 : w1.cell? ⟨w.heap.size, 1, none⟩ = some (.slice p2 z2.length c2) := (cell_of _ _ 1 k1.h0).trans rfl); (have a2 : w1.cell? ⟨w.heap.size, 2, none⟩ = some (.int .i64 m) := (cell_of _ _ 2 k1.h0).trans rfl); (have a3 : w1.cell? ⟨w.heap.size, 3, none⟩ = some (.int .i64 a) := (cell_of _ _ 3 k1.h0).trans rfl))
    go_ret
    exact ⟨ret_bool (by simp), k1.2⟩
  have t2 : decide (300 < z2.length) = false := decide_eq_false (by omega)
  have t2' : ¬ 300 < z2.length := by omega
  have hr0 : RB (upd r 0 0) := upd_rb h 0 0 (by omega) (by omega)
  obtain ⟨s, hs⟩ : ∃ s, upd r 0 0 = s := ⟨_, rfl⟩
  have hset0 : (R r).setIfInBounds 0 (.int .u8 0) = R s := by rw [R_set, hs]
  have hs0 : s 0 = 0 := by rw [← hs, upd_same]
  rw [hs] at hr0
  have hra := R_get r 0 (by omega)
  generalize R r = A at *
  clear h hs
  have h8 := hr0 8 (by omega)
  have h9 := hr0 9 (by omega)
  have hlineA := fun v zs W hW => line_any s hr0 v zs 20 W hW
  have hr8 : RB (upd s 8 ((s 8 + b0) % 256)) := upd_rb hr0 _ _ (by omega) (by omega)
  have hlineB := fun v zs W hW => line_any _ hr8 v zs 20 W hW
  have sS : BlkN (R s) 11 := R_size _
  have oS : BlkOne (R s) := R_one _
  have s8 := R_get s 8 (by omega)
  have s9 := R_get s 9 (by omega)
  have hset8 : (R s).setIfInBounds 8 (.int .u8 ((s 8 + b0) % 256)) = R (upd s 8 ((s 8 + b0) % 256)) := R_set _ _ _
  have sM : BlkN (R (upd s 8 ((s 8 + b0) % 256))) 11 := R_size _
  have HLA := Lib.hid hlineA
  have HLB := Lib.hid hlineB
  have HSET0 := Lib.hid hset0
  have HSET8 := Lib.hid hset8
  have zz := z11
  have zN := z512N
  have zO := z512O
  clear hlineA hlineB hset0 hset8 hr8
  go_enter Try.func6, Try.ntmps6
  go_upto_region 6 with (first | (go_at_call 9; (with_reducible refine (HAL.out _ ?_).mono ?_); (exact BL.start3 _ _ _ _ _ _ _); rintro e w1 ⟨rfl, k1⟩; (have a0 : w1.cell? ⟨w.heap.size, 0, none⟩ = some (.slice p1 z1.length c1) := (cell_of _ _ 0 k1.h0).trans rfl); (have a1 : w1.cell? ⟨w.heap.size, 1, none⟩ = some (.slice p2 z2.length c2) := (cell_of _ _ 1 k1.h0).trans rfl); (have a2 : w1.cell? ⟨w.heap.size, 2, none⟩ = some (.int .i64 m) := (cell_of _ _ 2 k1.h0).trans rfl); (have a3 : w1.cell? ⟨w.heap.size, 3, none⟩ = some (.int .i64 a) := (cell_of _ _ 3 k1.h0).trans rfl)) | (go_at_call 11; (with_reducible refine (HB.out n2 _ ?_).mono ?_); (exact k1.2); rintro e w2 ⟨g, n, zs, rfl, hz, hb2, hg, hg2⟩; (have k2 := k1.below hb2); (have sz1 := heap_lt k1.h2); (have HG := Lib.hid hg); (have HG2 := Lib.hid hg2); (clear a0 a1 a2 a3 hg hg2)))
  have hg := HG.out
  have hg2 := HG2.out
  have c6 := (cell_of _ _ 0 k2.h1).trans hra
  have f6 := free_of _ _ 0 k2.h1
  have sz2 := hb2.size
  go_upto_region 7 with fail
  have k3 : BL w [(w.heap.size + 1, R s, 24), (w.heap.size + 1 + 1, #[.int .u8 b0, .int .u8 b1], 39)] (w2.setCell ⟨w.heap.size + 1, 0, none⟩ (.int .u8 0)) := k2.set _ 0 _ A 24 (by simp) (by omega) _ HSET0.out _ (by intro p hp; simp only [List.mem_cons, List.not_mem_nil, or_false] at hp; rcases hp with rfl | rfl <;> first | exact .inl rfl | exact .inr ⟨by simp, by simp <;> omega⟩)
  have hz3 := bytes_set hz (w.heap.size + 1) 0 (.int .u8 0) (by omega)
  have hg3 : g < (w2.setCell ⟨w.heap.size + 1, 0, none⟩ (.int .u8 0)).heap.size := by simpa using hg2
  generalize w2.setCell ⟨w.heap.size + 1, 0, none⟩ (.int .u8 0) = w3 at *
  clear c6 f6 k2 hz k1 hb2
  have hla := HLA.out (.slice (some ⟨g, 0, none⟩) n n) zs
  have hga1 := fun k hk => G_c (cL zs s 20) (fL zs s 20) k hk
  have hga2 := fun k hk => G_f (cL zs s 20) (fL zs s 20) k hk
  have gaN : BlkN (G (cL zs s 20) (fL zs s 20)) 512 := O_size _ _ _
  have gaO : BlkOne (G (cL zs s 20) (fL zs s 20)) := O_one _ _ _
  have hlb := HLB.out (.slice (some ⟨g, 0, none⟩) n n) zs
  have hgb1 := fun k hk => G_c (cL zs (upd s 8 ((s 8 + b0) % 256)) 20) (fL zs (upd s 8 ((s 8 + b0) % 256)) 20) k hk
  have hgb2 := fun k hk => G_f (cL zs (upd s 8 ((s 8 + b0) % 256)) 20) (fL zs (upd s 8 ((s 8 + b0) % 256)) 20) k hk
  have gbN : BlkN (G (cL zs (upd s 8 ((s 8 + b0) % 256)) 20) (fL zs (upd s 8 ((s 8 + b0) % 256)) 20)) 512 := O_size _ _ _
  have gbO : BlkOne (G (cL zs (upd s 8 ((s 8 + b0) % 256)) 20) (fL zs (upd s 8 ((s 8 + b0) % 256)) 20)) := O_one _ _ _
  generalize G (cL zs s 20) (fL zs s 20) = GA at *
  generalize G (cL zs (upd s 8 ((s 8 + b0) % 256)) 20) (fL zs (upd s 8 ((s 8 + b0) % 256)) 20) = GB at *
  have HL1 := Lib.hid hla
  have HL2 := Lib.hid hlb
  have HGA1 := Lib.hid hga1
  have HGA2 := Lib.hid hga2
  have HGB1 := Lib.hid hgb1
  have HGB2 := Lib.hid hgb2
  clear hla hlb hga1 hga2 hgb1 hgb2
  have e7 := blkAt_heap k3.h0
  go_upto_region 8 with (go_at_call 10; (with_reducible refine (HL1.out _ hz3).mono ?_); rintro e wa ⟨rfl, hba⟩)
  have q3 := k3.below hba
  have sza := heap_lt q3.h1
  have hg4 := Nat.lt_of_lt_of_le hg3 hba.size
  have k4 := q3.alloc GA 29
  have hz4 := (hz3.below hba).alloc (.cells GA 29)
  have hg5 : g < (wa.alloc (.cells GA 29)).heap.size := by simp; omega
  have szm : wa.heap.size < (wa.alloc (.cells GA 29)).heap.size := by simp
  generalize wa.alloc (.cells GA 29) = w4 at *
  generalize wa.heap.size = ga at *
  clear q3 e7 hba hz3 k3 hg3
  have e8 := blkAt_heap k4.h1
  go_upto_region 9 with fail
  have k5 := k4.alloc (R s) 24
  have hz5 := hz4.alloc (.cells (R s) 24)
  have szw : w4.heap.size < (w4.alloc (.cells (R s) 24)).heap.size := by simp
  generalize w4.alloc (.cells (R s) 24) = w5 at *
  generalize w4.heap.size = mb at *
  clear e8 k4 hz4
  have c9 := (cell_of _ _ 8 k5.h0).trans s8
  have f9 := free_of _ _ 8 k5.h0
  have cb : w5.cell? ⟨w.heap.size + 1 + 1, 0, none⟩ = some (.int .u8 b0) := (cell_of _ _ 0 k5.h3).trans rfl
  have m8 : 0 ≤ (s 8 + b0) % 256 := by omega
  obtain ⟨h8a, h8b⟩ := h8
  obtain ⟨hb0a, hb0b⟩ := hb0
  go_upto_region 10 with fail
  have k6 : BL w [(mb, R (upd s 8 ((s 8 + b0) % 256)), 24), (ga, GA, 29), (w.heap.size + 1, R s, 24), (w.heap.size + 1 + 1, #[.int .u8 b0, .int .u8 b1], 39)] (w5.setCell ⟨mb, 8, none⟩ (.int .u8 ((s 8 + b0) % 256))) := k5.set mb 8 _ (R s) 24 (by simp) (by omega) _ HSET8.out _ (by intro p hp; simp only [List.mem_cons, List.not_mem_nil, or_false] at hp; rcases hp with rfl | rfl | rfl | rfl <;> first | exact .inl rfl | exact .inr ⟨by simp, by simp <;> omega⟩)
  have hz6 := bytes_set hz5 mb 8 (.int .u8 ((s 8 + b0) % 256)) (by omega)
  have szx : mb < (w5.setCell ⟨mb, 8, none⟩ (.int .u8 ((s 8 + b0) % 256))).heap.size := by simpa using szw
  generalize w5.setCell ⟨mb, 8, none⟩ (.int .u8 ((s 8 + b0) % 256)) = w6 at *
  clear c9 f9 cb k5 hz5
  have e10 := blkAt_heap k6.h0
  go_upto_region 11 with (go_at_call 10; (with_reducible refine (HL2.out _ hz6).mono ?_); rintro e wb ⟨rfl, hbb⟩)
  have q6 := k6.below hbb
  have szb := heap_lt q6.h0
  have k7 := q6.alloc GB 29
  have hz7 := (hz6.below hbb).alloc (.cells GB 29)
  generalize wb.alloc (.cells GB 29) = w7 at *
  generalize wb.heap.size = gb at *
  clear q6 e10 hbb hz6 k6
  go_wp2_with fail
  go_loopw [11] (fun i wr => ∃ k : Nat, k ≤ 256 ∧ i = .int .i64 k ∧ BM w [(gb, GB, 29), (mb, R (upd s 8 ((s 8 + b0) % 256)), 24), (ga, GA, 29), (w.heap.size + 1, R s, 24), (w.heap.size + 1 + 1, #[.int .u8 b0, .int .u8 b1], 39)] g n zs wr) (fun i _ => (256 - intOf i).toNat)
  case atStart => exact ⟨0, by omega, rfl, k7, hz7⟩
  case round =>
    obtain ⟨k, hk, rfl, kr, hzr⟩ := hrel
    clear k7 hz7
    by_cases hlt : k < 256
    case pos =>
      have n0 : (0 : Int) ≤ (k : Int) := by omega
      have n1' : (k : Int) < 256 := by omega
      have j0 : 0 ≤ ((k : Int) + b0) % 256 := by omega
      have j1 : ((k : Int) + b0) % 256 < 256 := by omega
      obtain ⟨x1, x2⟩ := scroll_across s zs hs0 b0 hb0a hb0b k hlt
      have d1 := (cell_of _ _ k kr.h2).trans (HGA1.out k hlt)
      have d2 := (cell_of _ _ (256 + k) kr.h2).trans (HGA2.out k hlt)
      have d3 := (cell_of _ _ _ kr.h0).trans (HGB1.out (((k : Int) + b0) % 256).toNat (by omega))
      have d4 := (cell_of _ _ _ kr.h0).trans (HGB2.out (((k : Int) + b0) % 256).toNat (by omega))
      rw [x1] at d3
      rw [x2] at d4
      generalize cL zs s 20 k = c at *
      generalize fL zs s 20 k = f at *
      have d5 : wr.cell? ⟨w.heap.size + 1 + 1, 0, none⟩ = some (.int .u8 b0) := (cell_of _ _ 0 kr.h4).trans rfl
      clear x1 x2
      go_wp2_with fail
      go_region
      all_goals
        go_wp2_with fail
        go_roundw
        case rel => exact ⟨k + 1, by omega, by go_num, by first | exact ⟨kr, hzr⟩ | exact ⟨kr.drew, hzr.drew⟩⟩
        case measure => simp [intOf] <;> omega
    case neg =>
    have hk4 : k = 256 := by omega
    subst hk4
    have d9 : wr.cell? ⟨w.heap.size + 1 + 1, 1, none⟩ = some (.int .u8 b1) := (cell_of _ _ 1 kr.h4).trans rfl
    have d10 := (cell_of _ _ 9 kr.h3).trans s9
    obtain ⟨h9a, h9b⟩ := h9
    obtain ⟨hb1a, hb1b⟩ := hb1
    have q0 : 0 ≤ b1 % 100 := by omega
    have q1 : b1 % 100 < 100 := by omega
    by_cases hq : 255 < s 9 + b1 % 100
    · go_wp2_with fail
      go_ret
      exact ⟨ret_bool (by simp), kr.2⟩
    have hqd : decide (255 < s 9 + b1 % 100) = false := decide_eq_false hq
    have e20 := blkAt_heap kr.h3
    have e21 := blkAt_heap kr.h1
    clear hlt hk
    go_upto_region 21 with fail
    have k8 : BL w [(mb, R s, 24), (w.heap.size + 1, R s, 24)] (blkPut wr mb (R s)) := kr.put mb (R (upd s 8 ((s 8 + b0) % 256))) (R s) 24 (by simp) (by omega) _ (by intro p hp; simp only [List.mem_cons, List.not_mem_nil, or_false] at hp; rcases hp with rfl | rfl <;> first | exact .inl rfl | exact .inr ⟨by simp, by simp <;> omega⟩)
    have hz8 := bytes_put hzr mb (R s) (by omega)
    generalize blkPut wr mb (R s) = w8 at *
    clear kr hzr d9 d10 e20 e21
    have c21 := (cell_of _ _ 9 k8.h0).trans s9
    have f21 := free_of _ _ 9 k8.h0
    have p1 : b1 % 100 % 256 = b1 % 100 := by omega
    have p2 : (s 9 + b1 % 100) % 256 = s 9 + b1 % 100 := by omega
    have p3 : 0 ≤ s 9 + b1 % 100 := by omega
    have hset9 : (R s).setIfInBounds 9 (.int .u8 (s 9 + b1 % 100)) = R (upd s 9 (s 9 + b1 % 100)) := R_set _ _ _
    have HSET9 := Lib.hid hset9
    clear hset9
    go_upto_region 22 with fail
    have k9 : BL w [(mb, R (upd s 9 (s 9 + b1 % 100)), 24), (w.heap.size + 1, R s, 24)] (w8.setCell ⟨mb, 9, none⟩ (.int .u8 (s 9 + b1 % 100))) := k8.set mb 9 _ (R s) 24 (by simp) (by omega) _ HSET9.out _ (by intro p hp; simp only [List.mem_cons, List.not_mem_nil, or_false] at hp; rcases hp with rfl | rfl <;> first | exact .inl rfl | exact .inr ⟨by simp, by simp <;> omega⟩)
    have hz9 := bytes_set hz8 mb 9 (.int .u8 (s 9 + b1 % 100)) (by omega)
    generalize w8.setCell ⟨mb, 9, none⟩ (.int .u8 (s 9 + b1 % 100)) = w9 at *
    clear c21 f21 k8 hz8 p1 p2
    have hr9 : RB (upd s 9 (s 9 + b1 % 100)) := upd_rb hr0 _ _ p3 (by omega)
    have hl1 := fun v zs W hW => line_any _ hr9 v zs 20 W hW
    have hl2 := fun v zs W hW => line_any s hr0 v zs (20 + b1 % 100) W hW
    have hl1' := hl1 (.slice (some ⟨g, 0, none⟩) n n) zs
    have hl2' := hl2 (.slice (some ⟨g, 0, none⟩) n n) zs
    rw [scroll_down s zs hs0 (b1 % 100) q0 q1] at hl1'
    have heq := eqG (cL zs s (20 + b1 % 100)) (fL zs s (20 + b1 % 100)) (fun j => ⟨(cL_bd _ _ _ j).1, by have := (cL_bd zs s (20 + b1 % 100) j).2; omega⟩)
    have sN : BlkN (R (upd s 9 (s 9 + b1 % 100))) 11 := R_size _
    have gcN : BlkN (G (cL zs s (20 + b1 % 100)) (fL zs s (20 + b1 % 100))) 512 := O_size _ _ _
    generalize G (cL zs s (20 + b1 % 100)) (fL zs s (20 + b1 % 100)) = GC at *
    generalize R (upd s 9 (s 9 + b1 % 100)) = M9 at *
    generalize R s = S0 at *
    have H1 := Lib.hid (fun W (hW : BM w [(mb, M9, 24), (w.heap.size + 1, S0, 24)] g n zs W) => (hl1' W hW.2).mono fun e w' ⟨e1, e2⟩ => (⟨e1, hW.below e2⟩ : e = Ending.returned (.agg GC) ∧ BM w [(mb, M9, 24), (w.heap.size + 1, S0, 24)] g n zs w'))
    have H2 := Lib.hid (fun W (hW : BM w [(mb, M9, 24), (w.heap.size + 1, S0, 24)] g n zs W) => (hl2' W hW.2).mono fun e w' ⟨e1, e2⟩ => (⟨e1, hW.below e2⟩ : e = Ending.returned (.agg GC) ∧ BM w [(mb, M9, 24), (w.heap.size + 1, S0, 24)] g n zs w'))
    have km : BM w [(mb, M9, 24), (w.heap.size + 1, S0, 24)] g n zs w9 := ⟨k9, hz9⟩
    have wr1 : IntKind.i64.wrap (20 + b1 % 100) = 20 + b1 % 100 := by rw [IntKind.wrap_i64]; omega
    have bm1 := blkAt_heap k9.h0
    have bm2 := blkAt_heap k9.h1
    clear hl1 hl2 hl1' hl2' hr9 k9 hz9
    go_region_with ((go_at_call 10; (first | (with_reducible refine (H1.out _ ?_).mono ?_) | (with_reducible refine (H2.out _ ?_).mono ?_)); (first | assumption | (exact BM.drew (by assumption))); rintro e w6 ⟨rfl, k6⟩; (have c1 := blkAt_heap k6.1.h0); (have c2 := blkAt_heap k6.1.h1)))
    all_goals
      go_wp2_with fail
      go_ret
      exact ⟨ret_bool (by simp), by first | exact k6.1.2 | exact k6.1.2.drew⟩
end Back
end Go.Proofs.Ytpjgcbbpfpcjeaa
