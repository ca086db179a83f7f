/- The walk of the statement on tiles turned about (layer 16): it returns true for every input. No conditions but that numbers are of their kinds and slices are slices. -/
import Derived.Test.YteblalhdigdabaaTileL
import Derived.Deep.DeepCutAuto
import Derived.Deep.CutRange
import Derived.Laws.IdiomCopy
namespace Go.Proofs.Yteblalhdigdabaa
open Go.RowKit
open Kit Tile TileR TileB TileL
set_option linter.unusedSimpArgs false
set_option linter.unusedVariables false
namespace TileT
theorem stores8 {P : Program} {w : World} {b : Nat} {R A : Array Value} {t : TypeId} (h : w.heap[b]? = some (.cells R t)) (hs : A.size = R.size) (h1 : A.all (·.oneCell') = true) : Sem.run P (storeCells ⟨b, 0, none⟩ A.toList) w = .ok () (w.setCells b 0 A.toList) := by
  refine run_storeCells_cells b 0 A.toList 0 w (fun j hj => ?_) (fun j _ => free_of w b _ h) (fun v hv => Array.all_eq_true_iff_forall_mem.1 h1 v (by simpa using hv))
  simp only [Nat.zero_add]; rw [cell_of w b j h]
  have : j < R.size := by rw [← hs]; simpa using hj
  simp [this]
theorem there8 (w : World) (b : Nat) {R A : Array Value} {t : TypeId} (h : w.heap[b]? = some (.cells R t)) (hs : A.size = R.size) : w.there b 0 A.size := by rw [hs]; exact there_of w b h
theorem sets_back {w : World} {b : Nat} {R A : Array Value} {t : TypeId} (h : w.heap[b]? = some (.cells R t)) (hl : A.size = R.size) : (w.setCells b 0 A.toList).heap[b]? = some (.cells A t) := heap_sets_same w b A.toList h (by simpa using hl)
/-- The two numbers' cells, and what stood ahead of the region. -/
def TS (w2 : World) (H : Nat) (c0 c1 : Int) (W : World) : Prop := W.cell? ⟨H, 0, none⟩ = some (.int .i64 c0) ∧ W.cell? ⟨H, 1, none⟩ = some (.int .i64 c1) ∧ Below w2.heap.size w2 W
theorem TS.call {w2 : World} {H : Nat} {c0 c1 : Int} {W W' : World} (h : TS w2 H c0 c1 W) (hb : Below W.heap.size W W') : TS w2 H c0 c1 W' := by
  obtain ⟨h0, h1, hB⟩ := h
  have hlt := cell_lt h0
  exact ⟨(hb.cell (p := ⟨H, 0, none⟩) hlt).trans h0, (hb.cell (p := ⟨H, 1, none⟩) hlt).trans h1, hB.trans (hb.mono hB.size)⟩
theorem TS.alloc {w2 : World} {H : Nat} {c0 c1 : Int} {W : World} (h : TS w2 H c0 c1 W) (o : Obj) : TS w2 H c0 c1 (W.alloc o) := h.call ((Below.refl _ _).alloc (Nat.le_refl _) _)
theorem TS.drew {w2 : World} {H : Nat} {c0 c1 : Int} {W : World} (h : TS w2 H c0 c1 W) : TS w2 H c0 c1 W.drew := ⟨h.1, h.2.1, h.2.2.drew⟩
theorem TS.sets {w2 : World} {H : Nat} {c0 c1 : Int} {W : World} (h : TS w2 H c0 c1 W) (hH : H < w2.heap.size) (b : Nat) (vs : List Value) (hb : w2.heap.size ≤ b) : TS w2 H c0 c1 (W.setCells b 0 vs) := by
  obtain ⟨h0, h1, hB⟩ := h
  have hB2 := below_sets hb vs 0 W hB
  exact ⟨(hB2.cell (p := ⟨H, 0, none⟩) hH).trans ((hB.cell (p := ⟨H, 0, none⟩) hH).symm.trans h0), (hB2.cell (p := ⟨H, 1, none⟩) hH).trans ((hB.cell (p := ⟨H, 1, none⟩) hH).symm.trans h1), hB2⟩
theorem row_ts (w2 : World) (H : Nat) (v : Value) (zs : List Int) (c0 c1 : Int) (tu : Bool) (A : Array Value) (hA : (row 8 fun j => Value.int .u8 (dotV zs c0 c1 (posK tu j))) = A) (hz : Bytes w2 v zs) (W : World) (h : TS w2 H c0 c1 W) : Calls Try.prog 9 #[v, .int .i64 c0, .int .i64 c1, .bool tu] W fun e w' => e = .returned (.agg A) ∧ Below W.heap.size W w' := by
  subst hA
  refine (row_any v zs c0 c1 tu W (hz.below h.2.2)).mono ?_
  rintro e w' ⟨rfl, o1, o2, n, rfl⟩
  exact ⟨rfl, below_drewN (((Below.refl _ _).alloc (Nat.le_refl _) _).alloc (by simp) _) _⟩
theorem eq_z (W : World) : (Op.equalIn 10000 28 (.agg Z8) (.agg Z8)).run Try.prog W = .ok true W := by
  have h := eq_row [] 0 0 false W
  have e : (row 8 fun j => Value.int .u8 (dotV [] 0 0 (posK false j))) = Z8 := by
    have h : ∀ k, dotV [] 0 0 k = 0 := fun k => by simp [dotV, atV, bitK]
    simp only [h]
    rfl
  rwa [e] at h
theorem bytes_nil (w : World) : Bytes w (.slice none 0 0) [] := ⟨none, 0, rfl, by simp, by decide, fun h => absurd h (by simp), fun z hz => absurd hz (by simp)⟩
theorem row_nil (c0 c1 : Int) (tu : Bool) : (row 8 fun j => Value.int .u8 (dotV [] c0 c1 (posK tu j))) = Z8 := by
  have h : ∀ k, dotV [] c0 c1 k = 0 := fun k => by simp [dotV, atV, bitK]
  simp only [h]
  rfl
set_option maxRecDepth 100000 in
set_option maxHeartbeats 4000000 in
theorem tileTurns_walk (v1 v2 : Value) (z1 z2 : List Int) (m a : Int) (c0 c1 : Int) (w0_2 : (Lit.int .i64 m).wf = true) (w0_3 : (Lit.int .i64 a).wf = true) (w : World) (hs1 : IntsOf w v1 .u8 z1) (hs2 : IntsOf w v2 .u8 z2) :
    Calls Try.prog 4 #[.agg #[v1, v2, .int .i64 m, .int .i64 a], .agg #[.int .i64 c0, .int .i64 c1]] w fun e w' => e = .returned (.bool true) ∧ Below w.heap.size w w' := by
  obtain ⟨a0, a1⟩ := wf_i64 w0_3
  have hB := fun (n2 : z2.length ≤ 300) (W : World) (q : Below w.heap.size w W) => build_any v1 v2 m a z1 z2 W a0 a1 n2 (Bytes.below hs1 q) (Bytes.below hs2 q)
  have HB := Lib.hid hB
  clear hB a0 a1 w0_2 w0_3
  obtain ⟨p1, k1, rfl, hl1, hm1, -, -⟩ := hs1
  obtain ⟨p2, k2, rfl, hl2, hm2, -, -⟩ := hs2
  unfold maxLen at hm1 hm2
  go_enter Try.func4, Try.ntmps4
  go_wp2_with fail
  refine (alive_any _).mono ?_
  rintro e w1 ⟨rfl, hb1⟩
  obtain ⟨B1, e1, y1, hc1, hf1⟩ := below_in hb1
  have m1_0 : w.heap.size < B1 := by rw [e1]; simp; omega
  have m1_1 : w.heap.size + 1 < B1 := by rw [e1]; simp
  clear e1
  have c1_0_0 : w1.cell? ⟨w.heap.size, 0, none⟩ = some (.slice p1 z1.length k1) := by rw [hc1 _ _ m1_0]; go_simp
  have c1_0_1 : w1.cell? ⟨w.heap.size, 1, none⟩ = some (.slice p2 z2.length k2) := by rw [hc1 _ _ m1_0]; go_simp
  have c1_0_2 : w1.cell? ⟨w.heap.size, 2, none⟩ = some (.int .i64 m) := by rw [hc1 _ _ m1_0]; go_simp
  have c1_0_3 : w1.cell? ⟨w.heap.size, 3, none⟩ = some (.int .i64 a) := by rw [hc1 _ _ m1_0]; go_simp
  have c1_1_0 : w1.cell? ⟨w.heap.size + 1, 0, none⟩ = some (.int .i64 c0) := by rw [hc1 _ _ m1_1]; go_simp
  have c1_1_1 : w1.cell? ⟨w.heap.size + 1, 1, none⟩ = some (.int .i64 c1) := by rw [hc1 _ _ m1_1]; go_simp
  have v1_0 : w.heap.size < w1.heap.size := by omega
  have v1_1 : w.heap.size + 1 < w1.heap.size := by omega
  have q1 : Below w.heap.size w w1 := below_trans (w := w) (by go_grown) hb1
  clear hc1 hf1
  by_cases n1 : z1.length ≤ 300
  case neg =>
    have t1 : decide (300 < z1.length) = true := decide_eq_true (by omega)
    have t1' : 300 < z1.length := by omega
    go_wp2_with fail
    go_ret
    exact ⟨ret_bool (by simp), by go_grown⟩
  have t1 : decide (300 < z1.length) = false := decide_eq_false (by omega)
  have t1' : ¬ 300 < z1.length := by omega
  by_cases n2 : z2.length ≤ 300
  case neg =>
    have t2 : decide (300 < z2.length) = true := decide_eq_true (by omega)
    have t2' : 300 < z2.length := by omega
    go_wp2_with fail
    go_ret
    exact ⟨ret_bool (by simp), by go_grown⟩
  have t2 : decide (300 < z2.length) = false := decide_eq_false (by omega)
  have t2' : ¬ 300 < z2.length := by omega
  go_wp2_with fail
  refine (HB.out n2 _ q1).mono ?_
  rintro e w2 ⟨g, n, zs, rfl, hz, hb2⟩
  obtain ⟨B2, e2, y2, hc2, hf2⟩ := below_in hb2
  have m2_0 : w.heap.size < B2 := by rw [e2]; omega
  have m2_1 : w.heap.size + 1 < B2 := by rw [e2]; omega
  clear e2
  have c2_1_0 : w2.cell? ⟨w.heap.size + 1, 0, none⟩ = some (.int .i64 c0) := (hc2 _ _ m2_1).trans c1_1_0
  have c2_1_1 : w2.cell? ⟨w.heap.size + 1, 1, none⟩ = some (.int .i64 c1) := (hc2 _ _ m2_1).trans c1_1_1
  have v2_1 : w.heap.size + 1 < w2.heap.size := by omega
  have q2 : Below w.heap.size w w2 := below_trans (w := w) q1 hb2
  clear hc2 hf2
  obtain ⟨A, hA⟩ : ∃ A, (row 8 fun j => Value.int .u8 (dotV zs c0 c1 (posK false j))) = A := ⟨_, rfl⟩
  obtain ⟨B, hB⟩ : ∃ B, (row 8 fun j => Value.int .u8 (dotV zs c0 c1 (posK true j))) = B := ⟨_, rfl⟩
  have sA : A.size = Z8.size := by rw [← hA, row_size]; rfl
  have sB : B.size = Z8.size := by rw [← hB, row_size]; rfl
  have iA : A.all (·.oneCell') = true := by rw [← hA]; exact row_one _ _ fun _ _ => rfl
  have iB : B.all (·.oneCell') = true := by rw [← hB]; exact row_one _ _ fun _ _ => rfl
  have hf := fun W h => row_ts w2 (w.heap.size + 1) (.slice (some ⟨g, 0, none⟩) n n) zs c0 c1 false A hA hz W h
  have ht := fun W h => row_ts w2 (w.heap.size + 1) (.slice (some ⟨g, 0, none⟩) n n) zs c0 c1 true B hB hz W h
  have HF := Lib.hid hf
  have HT := Lib.hid ht
  have HA := Lib.hid hA
  have HBB := Lib.hid hB
  have SA := Lib.hid sA
  have SB := Lib.hid sB
  have IA := Lib.hid iA
  have IB := Lib.hid iB
  clear hA hB hf ht sA sB iA iB hz q1 c1_0_0 c1_0_1 c1_0_2 c1_0_3 c1_1_0 c1_1_1 hl1 hl2 hm1 hm2 HB hb1 hb2
  go_upto_region 6 with fail
  go_cut [6, 7] from 23 to 34 (fun p q wx => ∃ ga gb : Nat, p = .pointer (some ⟨ga, 0, none⟩) ∧ q = .pointer (some ⟨gb, 0, none⟩) ∧ wx.heap[ga]? = some (.cells A 28) ∧ wx.heap[gb]? = some (.cells B 28) ∧ TS w2 (w.heap.size + 1) c0 c1 wx)
  case first =>
    go_region_held3 (fun w' => w'.cell? ⟨w.heap.size + 1, 0, none⟩ = some (.int .i64 c0) ∧ w'.cell? ⟨w.heap.size + 1, 1, none⟩ = some (.int .i64 c1) ∧ Below w2.heap.size w2 w') (first | (exact ⟨by assumption, by assumption, (Below.refl _ _).drew⟩) | (show TS w2 (w.heap.size + 1) c0 c1 _; (repeat (first | assumption | (exact ⟨by assumption, by assumption, Below.refl _ _⟩) | (exact TS.call (by assumption) (by assumption)) | (refine TS.drew ?_) | (refine TS.alloc ?_ _) | (refine TS.sets ?_ v2_1 _ _ ?_; focus (assumption)))); try (first | omega | (simp; done) | (simp; omega)))) (first | (rw [stores8 (R := Z8) (t := 28) (A := A) ?_ SA.out IA.out]; rotate_left; (exact (by repeat (first | (refine heap_at _ _ _ ?_; first | rfl | (simp; done)) | (refine (heap_past _ _ _ ?_).trans ?_; focus (first | omega | (simp; done) | (simp; omega))) | (refine (heap_drew _ _).trans ?_) | (refine sets_back (R := Z8) ?_ (by first | exact SA.out | exact SB.out)) | (refine (heap_sets_other _ _ ?_ _ _ _).trans ?_; focus (first | omega | (simp; done) | (simp; omega))) | (refine (kF.block _ ?_).trans ?_; focus (first | omega | (simp; done) | (simp; omega))) | (refine (kT.block _ ?_).trans ?_; focus (first | omega | (simp; done) | (simp; omega)))))); go_simp) | (rw [stores8 (R := Z8) (t := 28) (A := B) ?_ SB.out IB.out]; rotate_left; (exact (by repeat (first | (refine heap_at _ _ _ ?_; first | rfl | (simp; done)) | (refine (heap_past _ _ _ ?_).trans ?_; focus (first | omega | (simp; done) | (simp; omega))) | (refine (heap_drew _ _).trans ?_) | (refine sets_back (R := Z8) ?_ (by first | exact SA.out | exact SB.out)) | (refine (heap_sets_other _ _ ?_ _ _ _).trans ?_; focus (first | omega | (simp; done) | (simp; omega))) | (refine (kF.block _ ?_).trans ?_; focus (first | omega | (simp; done) | (simp; omega))) | (refine (kT.block _ ?_).trans ?_; focus (first | omega | (simp; done) | (simp; omega)))))); go_simp) | (go_at_call 9; (with_reducible refine (HF.out _ ?_).mono ?_); (exact (by first | exact ⟨by assumption, by assumption, (Below.refl _ _).drew⟩ | exact ⟨by assumption, by assumption, Below.refl _ _⟩ | (repeat (first | assumption | (exact ⟨by assumption, by assumption, Below.refl _ _⟩) | (refine TS.drew ?_) | (refine TS.alloc ?_ _))))); rintro e wF ⟨rfl, kF⟩; have sF := kF.size; (try simp at sF)) | (go_at_call 9; (with_reducible refine (HT.out _ ?_).mono ?_); (exact (by first | exact ⟨by assumption, by assumption, (Below.refl _ _).drew⟩ | exact ⟨by assumption, by assumption, Below.refl _ _⟩ | (repeat (first | assumption | (exact ⟨by assumption, by assumption, Below.refl _ _⟩) | (refine TS.drew ?_) | (refine TS.alloc ?_ _))))); rintro e wT ⟨rfl, kT⟩; have sT := kT.size; (try simp at sT)))
    all_goals (go_wp2_with fail; go_meet; exact ⟨_, _, rfl, rfl, (by repeat (first | (refine heap_at _ _ _ ?_; first | rfl | (simp; done)) | (refine (heap_past _ _ _ ?_).trans ?_; focus (first | omega | (simp; done) | (simp; omega))) | (refine (heap_drew _ _).trans ?_) | (refine sets_back (R := Z8) ?_ (by first | exact SA.out | exact SB.out)) | (refine (heap_sets_other _ _ ?_ _ _ _).trans ?_; focus (first | omega | (simp; done) | (simp; omega))) | (refine (kF.block _ ?_).trans ?_; focus (first | omega | (simp; done) | (simp; omega))) | (refine (kT.block _ ?_).trans ?_; focus (first | omega | (simp; done) | (simp; omega))))), (by repeat (first | (refine heap_at _ _ _ ?_; first | rfl | (simp; done)) | (refine (heap_past _ _ _ ?_).trans ?_; focus (first | omega | (simp; done) | (simp; omega))) | (refine (heap_drew _ _).trans ?_) | (refine sets_back (R := Z8) ?_ (by first | exact SA.out | exact SB.out)) | (refine (heap_sets_other _ _ ?_ _ _ _).trans ?_; focus (first | omega | (simp; done) | (simp; omega))) | (refine (kF.block _ ?_).trans ?_; focus (first | omega | (simp; done) | (simp; omega))) | (refine (kT.block _ ?_).trans ?_; focus (first | omega | (simp; done) | (simp; omega))))), by assumption⟩)
  case rest =>
    obtain ⟨ga, gb, rfl, rfl, ha, hb, hT⟩ := hcut
    obtain ⟨h0, h1, hTB⟩ := hT
    have q3 : Below w.heap.size w wc := q2.trans (hTB.mono q2.size)
    clear HF HT SA SB IA IB q2
    go_wp2_with fail
    go_loopw [35] (fun i wr => ∃ (k : Nat) (n : Nat), k ≤ 8 ∧ i = .int .i64 k ∧ wr = wc.drewN n) (fun i _ => (8 - intOf i).toNat)
    case atStart => exact ⟨0, 0, by omega, rfl, rfl⟩
    case round =>
      obtain ⟨k, nn, hk, rfl, rfl⟩ := hrel
      by_cases hlt : k < 8
      · obtain ⟨x, hx⟩ : ∃ x, dotV zs c0 c1 (7 - k) = x := ⟨_, rfl⟩
        have hbd := dotV_bd zs c0 c1 (7 - k)
        have ca : wc.cell? ⟨ga, k, none⟩ = some (.int .u8 x) := by
          rw [cell_of wc ga k ha, ← HA.out, row_get _ _ _ hlt, ← hx]; rfl
        have cb : wc.cell? ⟨gb, 7 - k, none⟩ = some (.int .u8 x) := by
          rw [cell_of wc gb (7 - k) hb, ← HBB.out, row_get _ _ _ (by omega), ← hx]; rfl
        have cb2 : wc.cell? ⟨gb, ((7 : Int) - (k : Int)).toNat, none⟩ = some (.int .u8 x) := by
          rw [← cb]; congr 2; omega
        rw [hx] at hbd
        have x0 : 0 ≤ x := hbd.1
        have x1 : x < 16 := hbd.2
        have x2 : decide (15 < x) = false := decide_eq_false (by omega)
        have x2' : ¬ 15 < x := by omega
        have i0 : (0 : Int) ≤ (k : Int) := by omega
        have i1 : (k : Int) < 8 := by omega
        have i2 : (0 : Int) ≤ 7 - (k : Int) := by omega
        have i3 : 7 - (k : Int) < 8 := by omega
        clear hbd hx HA HBB
        go_wp2_with fail
        go_region
        go_wp2_with fail
        go_roundw
        case rel => exact ⟨k + 1, _, by omega, by go_num, rfl⟩
        case measure => simp [intOf] <;> omega
      · have hk8 : k = 8 := by omega
        subst hk8
        have hrow := fun W => row_any (.slice none 0 0) [] c0 c1 true W (bytes_nil W)
        rw [row_nil] at hrow
        have HROW := Lib.hid hrow
        clear hrow
        go_wp2_with fail
        refine (HROW.out _).mono ?_
        rintro e w' ⟨rfl, o1, o2, m, rfl⟩
        have hqz := fun W => eq_z W
        unfold Z8
        unfold Z8 at hqz
        go_wp2_with fail
        go_ret
        exact ⟨ret_bool (by simp), below_drewN (((below_drewN q3 _).alloc (below_drewN q3 _).size _).alloc (by simp; have := q3.size; omega) _) _⟩
end TileT
end Go.Proofs.Yteblalhdigdabaa
