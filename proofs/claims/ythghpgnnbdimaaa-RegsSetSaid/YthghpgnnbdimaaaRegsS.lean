/- Registers (layer 10): what the program's functions do, the second part. No conditions but that numbers are of their kinds. -/
import Derived.Test.YthghpgnnbdimaaaRegsA
import Derived.Test.YthghpgnnbdimaaaRegsN
import Derived.RegionTactic
import Derived.Deep.DeepCutAuto
import Derived.Lib.Hide
import Derived.Deep.CutRange
import Derived.LoopTactic
import Derived.Deep.RegionHeld3
namespace Go.Proofs.Ythghpgnnbdimaaa
open Go.RowKit
open Kit R06
set_option linter.unusedSimpArgs false
set_option linter.unusedVariables false
attribute [local simp] blkAt_alloc blkNew_cells putRow_cells blkAt_drew BlkN.set BlkOne.setInt BlkOne.setBool blkPut_alloc blkPut_drew nq2 nq3 nq4 nq5 nq6 nq7 nq8
namespace Regs
attribute [local simp ↓] rl_in rs_in
attribute [local simp] rl_run rs_run
theorem cell_put_other (w : World) (b n o : Nat) (A : Array Value) (hn : n ≠ b) : (blkPut w b A).cell? ⟨n, o, none⟩ = w.cell? ⟨n, o, none⟩ := by
  unfold World.cell?
  rw [heap_blkPut_other w b n A hn]
attribute [local simp] blkAt_blkPut_other size_blkPut cell_put_other
def PS (w : World) (A : Array Value) (x0 x1 : Int) (W : World) : Prop := blkAt W w.heap.size = A ∧ W.cell? ⟨w.heap.size + 1, 0, none⟩ = some (.int .u16 x0) ∧ W.cell? ⟨w.heap.size + 1, 1, none⟩ = some (.int .u16 x1) ∧ w.heap.size + 1 < W.heap.size ∧ Below w.heap.size w W
theorem PS.below {w : World} {A : Array Value} {x0 x1 : Int} {W W' : World} (h : PS w A x0 x1 W) (hb : Below W.heap.size W W') : PS w A x0 x1 W' := by
  obtain ⟨h0, h1, h2, h3, h4⟩ := h
  refine ⟨?_, (hb.cell (p := ⟨w.heap.size + 1, 0, none⟩) h3).trans h1, (hb.cell (p := ⟨w.heap.size + 1, 1, none⟩) h3).trans h2, Nat.lt_of_lt_of_le h3 hb.size, h4.trans (hb.mono h4.size)⟩
  rw [← h0]; unfold blkAt; rw [hb.block _ (by omega)]
def QS (w : World) (A : Array Value) (x0 x1 : Int) (ga gb : Nat) (B1 B2 : Array Value) (W : World) : Prop := blkAt W w.heap.size = A ∧ W.cell? ⟨w.heap.size + 1, 0, none⟩ = some (.int .u16 x0) ∧ W.cell? ⟨w.heap.size + 1, 1, none⟩ = some (.int .u16 x1) ∧ blkAt W ga = B1 ∧ blkAt W gb = B2 ∧ ga < W.heap.size ∧ gb < W.heap.size ∧ w.heap.size + 1 < W.heap.size ∧ Below w.heap.size w W
theorem QS.below {w : World} {A : Array Value} {x0 x1 : Int} {ga gb : Nat} {B1 B2 : Array Value} {W W' : World} (h : QS w A x0 x1 ga gb B1 B2 W) (hb : Below W.heap.size W W') : QS w A x0 x1 ga gb B1 B2 W' := by
  obtain ⟨h0, h1, h2, h3, h4, h5, h6, h7, h8⟩ := h
  refine ⟨?_, (hb.cell (p := ⟨w.heap.size + 1, 0, none⟩) h7).trans h1, (hb.cell (p := ⟨w.heap.size + 1, 1, none⟩) h7).trans h2, ?_, ?_, Nat.lt_of_lt_of_le h5 hb.size, Nat.lt_of_lt_of_le h6 hb.size, Nat.lt_of_lt_of_le h7 hb.size, h8.trans (hb.mono h8.size)⟩
  · rw [← h0]; unfold blkAt; rw [hb.block _ (by omega)]
  · rw [← h3]; unfold blkAt; rw [hb.block _ (by omega)]
  · rw [← h4]; unfold blkAt; rw [hb.block _ (by omega)]
theorem heldT {P : Program} {n : Nat} {args : Array Value} {r : Value} {T : World → Prop} (hT : ∀ W W', T W → Below W.heap.size W W' → T W') (h : ∀ W, Calls P n args W fun e w' => e = .returned r ∧ Below W.heap.size W w') (W : World) (hW : T W) : Calls P n args W fun e w' => e = .returned r ∧ T w' :=
  (h W).mono fun e w' ⟨e1, e2⟩ => ⟨e1, hT _ _ hW e2⟩
theorem blkAt_put_same {w : World} {b n : Nat} {R A : Array Value} (h : blkAt w b = R) (hR : BlkN R n) (hn : 0 < n) : blkAt (blkPut w b A) b = A := by
  subst h
  obtain ⟨t, ht⟩ := blkAt_some hR hn
  exact blkAt_heap (heap_blkPut_same ht A)
set_option maxRecDepth 100000 in
set_option maxHeartbeats 4000000 in
theorem set_gml (f : Nat → Int) (h : RB f) (n x0 x1 : Int) (a0 : 0 ≤ x0) (a1 : x0 < 65536) (c0 : 0 ≤ x1) (c1 : x1 < 65536) (hB1 : RB (setV f n x0)) (hB2 : RB (setOneV f n (x1 % 256) (x0 % 256))) (n0 : 0 ≤ n) (n1 : n < 7) (pn : ByteArray) (N : Array Value) (hnames : ∀ W, Calls Try.prog 11 #[] W fun e w' => e = .returned (.slice (some ⟨W.heap.size, 0, none⟩) 7 7) ∧ w' = W.alloc (.cells N 9)) (hcell : N[n.toNat]? = some (.string pn)) (hset : ∀ W, Calls Try.prog 27 #[.agg (R f), .string pn, .int .i64 x0] W fun e w' => e = .returned (.agg (R (setV f n x0))) ∧ Below W.heap.size W w') (ln : ByteArray) (hne : ln.toList.isEmpty = false) (hlet : ∀ W, Calls Try.prog 12 #[.int .i64 n, .int .u8 (x1 % 256)] W fun e w' => e = .returned (.string ln) ∧ W = w') (hset1 : ∀ W, Calls Try.prog 27 #[.agg (R f), .string ln, .int .i64 (x0 % 256)] W fun e w' => e = .returned (.agg (R (setOneV f n (x1 % 256) (x0 % 256)))) ∧ Below W.heap.size W w') (w : World) : Calls Try.prog 7 #[.agg (R f), .int .i64 n, .agg #[.int .u16 x0, .int .u16 x1]] w fun e w' => e = .returned (.bool true) ∧ Below w.heap.size w w' := by
  have sA : BlkN (R f) 29 := R_size f
  have oA : BlkOne (R f) := R_one f
  have zn := zN
  unfold Z29 at zn
  have hsp := fun W => setPair_any f h n x0 a0 a1 W
  have hs1 := fun W => setOne_any f h n (x1 % 256) (x0 % 256) (by omega) (by omega) W
  have q1 := eqR _ hB1
  have q2 := eqR _ hB2
  have m1 := tmod_nn a0 256
  have e1 : 0 ≤ x0 % 256 ∧ x0 % 256 < 256 := by omega
  have sB1 : BlkN (R (setV f n x0)) 29 := R_size _
  have oB1 : BlkOne (R (setV f n x0)) := R_one _
  have sB2 : BlkN (R (setOneV f n (x1 % 256) (x0 % 256))) 29 := R_size _
  have oB2 : BlkOne (R (setOneV f n (x1 % 256) (x0 % 256))) := R_one _
  clear hB1 hB2
  generalize R (setV f n x0) = B1 at *
  generalize R (setOneV f n (x1 % 256) (x0 % 256)) = B2 at *
  generalize R f = A at *
  have HA := Lib.hid (heldT (T := PS w A x0 x1) (fun W W' h b => h.below b) alive_any)
  have HSP := Lib.hid (fun ga gb C D => heldT (T := QS w A x0 x1 ga gb C D) (fun W W' h b => h.below b) (belowOf2 hsp))
  have HS1 := Lib.hid (fun ga gb C D => heldT (T := QS w A x0 x1 ga gb C D) (fun W W' h b => h.below b) hs1)
  have HSET := Lib.hid (fun ga gb C D => heldT (T := QS w A x0 x1 ga gb C D) (fun W W' h b => h.below b) hset)
  clear hset
  have HSET1 := Lib.hid (fun ga gb C D => heldT (T := QS w A x0 x1 ga gb C D) (fun W W' h b => h.below b) hset1)
  clear hset1
  have HLET := Lib.hid hlet
  clear hsp hs1 hlet
  go_enter Try.func7, Try.ntmps7
  go_wp2_with (go_at_call 9; (with_reducible refine (HA.out _ ?_).mono ?_); (unfold PS; exact ⟨by first | assumption | (simp [*]; done), by first | assumption | (go_simp; done), by first | assumption | (go_simp; done), by first | assumption | (simp; done) | (simp; omega) | omega, by first | assumption | go_grown⟩); rintro e w1 ⟨rfl, k0, k1, k2, k3, k4⟩)
  have ne0 : ¬ (w.heap.size = w1.heap.size) := by omega
  have ne1 : ¬ (w.heap.size = w1.heap.size + 1) := by omega
  go_cut [8, 9] from 16 to 17 (fun p q wx => ∃ ga gb, p = .pointer (some ⟨ga, 0, none⟩) ∧ q = .pointer (some ⟨gb, 0, none⟩) ∧ ga ≠ gb ∧ w.heap.size + 1 < ga ∧ w.heap.size + 1 < gb ∧ QS w A x0 x1 ga gb A A wx)
  case first =>
    go_region_held3 (fun w' => blkAt w' w.heap.size = A ∧ w'.cell? ⟨w.heap.size + 1, 0, none⟩ = some (.int .u16 x0) ∧ w'.cell? ⟨w.heap.size + 1, 1, none⟩ = some (.int .u16 x1) ∧ w.heap.size + 1 < w'.heap.size ∧ Below w.heap.size w w') (first | assumption | (exact ⟨by first | assumption | (simp [*]; done), by first | assumption | go_keep | (go_simp; done), by first | assumption | go_keep | (go_simp; done), by first | assumption | (simp; done) | (simp; omega) | omega, by first | assumption | (exact Below.drew (by assumption)) | go_grown⟩)) (fail)
    all_goals (go_wp2_with fail; go_meet; exact ⟨_, _, rfl, rfl, by first | omega | (simp; done), by omega, by omega, by (unfold QS; exact ⟨by first | assumption | (simp [*]; done) | (go_simp; done), by first | assumption | go_keep | (go_simp; done), by first | assumption | go_keep | (go_simp; done), by first | assumption | (exact blkAt_put_same (by assumption) sA (by omega)) | (simp [*]; done) | (go_simp; done), by first | assumption | (exact blkAt_put_same (by assumption) sA (by omega)) | (simp [*]; done) | (go_simp; done), by first | assumption | (simp; done) | (simp; omega) | omega, by first | assumption | (simp; done) | (simp; omega) | omega, by first | assumption | (simp; done) | (simp; omega) | omega, by first | assumption | (exact Below.drew (by assumption)) | (exact below_blkPut (by assumption) (by omega) _) | go_grown⟩)⟩)
  case rest =>
  obtain ⟨ga, gb, rfl, rfl, g0, g1, g2, j0, j1, j2, j3, j4, j5, j6, j7, j8⟩ := hcut
  have z1 : w.heap.size ≠ ga := by omega
  have z2 : w.heap.size ≠ gb := by omega
  have z3 : gb ≠ ga := Ne.symm g0
  have z4 : w.heap.size + 1 ≠ ga := by omega
  have z5 : w.heap.size + 1 ≠ gb := by omega
  clear ne0 ne1 k0 k1 k2 k3 k4
  have wr0 : IntKind.i64.wrap x0 = x0 := by rw [IntKind.wrap_i64]; omega
  have wr2 : IntKind.u8.wrap x0 = x0 % 256 := IntKind.wrap_u8 x0
  have wr1 : IntKind.i64.wrap (x0 % 256) = x0 % 256 := by rw [IntKind.wrap_i64]; omega
  have ne2 : ¬ (w.heap.size = wc.heap.size) := by omega
  have ne3 : ¬ (ga = wc.heap.size) := by omega
  have ne4 : ¬ (gb = wc.heap.size) := by omega
  have HNAMES := Lib.hid hnames
  clear hnames
  go_wp2_with fail
  go_cut [6] from 24 to 32 (fun c wx => c = .bool false ∧ QS w A x0 x1 ga gb B1 A wx)
  case first =>
    go_region_with (first | (go_at_call 11; with_reducible refine (HNAMES.out _).mono ?_; rintro e w2 ⟨rfl, rfl⟩) | (go_at_call 27; (with_reducible refine (HSET.out ga gb A A _ ?_).mono ?_); (unfold QS; exact ⟨by first | assumption | (simp [*]; done) | (go_simp; done), by first | assumption | go_keep | (go_simp; done), by first | assumption | go_keep | (go_simp; done), by first | assumption | (exact blkAt_put_same (by assumption) sA (by omega)) | (simp [*]; done) | (go_simp; done), by first | assumption | (exact blkAt_put_same (by assumption) sA (by omega)) | (simp [*]; done) | (go_simp; done), by first | assumption | (simp; done) | (simp; omega) | omega, by first | assumption | (simp; done) | (simp; omega) | omega, by first | assumption | (simp; done) | (simp; omega) | omega, by first | assumption | (exact Below.drew (by assumption)) | (exact below_blkPut (by assumption) (by omega) _) | go_grown⟩); rintro e w3 ⟨rfl, y0, y1, y2, y3, y4, y5, y6, y7, y8⟩))
    all_goals (go_wp2_with fail; go_meet; exact ⟨rfl, by (unfold QS; exact ⟨by first | assumption | (simp [*]; done) | (go_simp; done), by first | assumption | go_keep | (go_simp; done), by first | assumption | go_keep | (go_simp; done), by first | assumption | (exact blkAt_put_same (by assumption) sA (by omega)) | (simp [*]; done) | (go_simp; done), by first | assumption | (exact blkAt_put_same (by assumption) sA (by omega)) | (simp [*]; done) | (go_simp; done), by first | assumption | (simp; done) | (simp; omega) | omega, by first | assumption | (simp; done) | (simp; omega) | omega, by first | assumption | (simp; done) | (simp; omega) | omega, by first | assumption | (exact Below.drew (by assumption)) | (exact below_blkPut (by assumption) (by omega) _) | go_grown⟩)⟩)
  case rest =>
  obtain ⟨rfl, j0, j1, j2, j3, j4, j5, j6, j7, j8⟩ := hcut
  clear ne2 ne3 ne4
  go_wp2_with (first | (go_at_call 12; with_reducible refine (HLET.out _).mono ?_; rintro e w' ⟨rfl, rfl⟩) | (go_at_call 27; (with_reducible refine (HSET1.out ga gb B1 A _ ?_).mono ?_); (unfold QS; exact ⟨by first | assumption | (simp [*]; done) | (go_simp; done), by first | assumption | go_keep | (go_simp; done), by first | assumption | go_keep | (go_simp; done), by first | assumption | (exact blkAt_put_same (by assumption) sA (by omega)) | (simp [*]; done) | (go_simp; done), by first | assumption | (exact blkAt_put_same (by assumption) sA (by omega)) | (simp [*]; done) | (go_simp; done), by first | assumption | (simp; done) | (simp; omega) | omega, by first | assumption | (simp; done) | (simp; omega) | omega, by first | assumption | (simp; done) | (simp; omega) | omega, by first | assumption | (exact Below.drew (by assumption)) | (exact below_blkPut (by assumption) (by omega) _) | go_grown⟩); clear j0 j1 j2 j3 j4 j5 j6 j7 j8; rintro e w4 ⟨rfl, j0, j1, j2, j3, j4, j5, j6, j7, j8⟩))
  have hq4 : QS w A x0 x1 ga gb B1 B2 (blkPut w4 gb B2) := by (unfold QS; exact ⟨by first | assumption | (simp [*]; done) | (go_simp; done), by first | assumption | go_keep | (go_simp; done), by first | assumption | go_keep | (go_simp; done), by first | assumption | (exact blkAt_put_same (by assumption) sA (by omega)) | (simp [*]; done) | (go_simp; done), by first | assumption | (exact blkAt_put_same (by assumption) sA (by omega)) | (simp [*]; done) | (go_simp; done), by first | assumption | (simp; done) | (simp; omega) | omega, by first | assumption | (simp; done) | (simp; omega) | omega, by first | assumption | (simp; done) | (simp; omega) | omega, by first | assumption | (exact Below.drew (by assumption)) | (exact below_blkPut (by assumption) (by omega) _) | go_grown⟩)
  generalize blkPut w4 gb B2 = w5 at *
  clear j0 j1 j2 j3 j4 j5 j6 j7 j8
  obtain ⟨j0, j1, j2, j3, j4, j5, j6, j7, j8⟩ := hq4
  go_region_held3 (fun w' => blkAt w' w.heap.size = A ∧ w'.cell? ⟨w.heap.size + 1, 0, none⟩ = some (.int .u16 x0) ∧ w'.cell? ⟨w.heap.size + 1, 1, none⟩ = some (.int .u16 x1) ∧ blkAt w' ga = B1 ∧ blkAt w' gb = B2 ∧ ga < w'.heap.size ∧ gb < w'.heap.size ∧ w.heap.size + 1 < w'.heap.size ∧ Below w.heap.size w w') (first | assumption | (exact ⟨by first | assumption | (simp [*]; done) | (go_simp; done), by first | assumption | go_keep | (go_simp; done), by first | assumption | go_keep | (go_simp; done), by first | assumption | (simp [*]; done) | (go_simp; done), by first | assumption | (simp [*]; done) | (go_simp; done), by first | assumption | (simp; done) | (simp; omega) | omega, by first | assumption | (simp; done) | (simp; omega) | omega, by first | assumption | (simp; done) | (simp; omega) | omega, by first | assumption | (exact Below.drew (by assumption)) | (exact below_blkPut (by assumption) (by omega) _) | go_grown⟩)) (first | (go_at_call 20; (with_reducible refine (HSP.out ga gb B1 B2 _ ?_).mono ?_); (unfold QS; exact ⟨by first | assumption | (simp [*]; done) | (go_simp; done), by first | assumption | go_keep | (go_simp; done), by first | assumption | go_keep | (go_simp; done), by first | assumption | (exact blkAt_put_same (by assumption) sA (by omega)) | (simp [*]; done) | (go_simp; done), by first | assumption | (exact blkAt_put_same (by assumption) sA (by omega)) | (simp [*]; done) | (go_simp; done), by first | assumption | (simp; done) | (simp; omega) | omega, by first | assumption | (simp; done) | (simp; omega) | omega, by first | assumption | (simp; done) | (simp; omega) | omega, by first | assumption | (exact Below.drew (by assumption)) | (exact below_blkPut (by assumption) (by omega) _) | go_grown⟩); rintro e w' ⟨rfl, y0, y1, y2, y3, y4, y5, y6, y7, y8⟩) | (go_at_call 28; (with_reducible refine (HS1.out ga gb B1 B2 _ ?_).mono ?_); (unfold QS; exact ⟨by first | assumption | (simp [*]; done) | (go_simp; done), by first | assumption | go_keep | (go_simp; done), by first | assumption | go_keep | (go_simp; done), by first | assumption | (exact blkAt_put_same (by assumption) sA (by omega)) | (simp [*]; done) | (go_simp; done), by first | assumption | (exact blkAt_put_same (by assumption) sA (by omega)) | (simp [*]; done) | (go_simp; done), by first | assumption | (simp; done) | (simp; omega) | omega, by first | assumption | (simp; done) | (simp; omega) | omega, by first | assumption | (simp; done) | (simp; omega) | omega, by first | assumption | (exact Below.drew (by assumption)) | (exact below_blkPut (by assumption) (by omega) _) | go_grown⟩); rintro e w' ⟨rfl, y0, y1, y2, y3, y4, y5, y6, y7, y8⟩))
  all_goals
    go_wp2_with fail
    go_ret
    exact ⟨ret_bool (by simp), by first | assumption | go_grown⟩
set_option maxRecDepth 100000 in
set_option maxHeartbeats 4000000 in
theorem set_gmn (f : Nat → Int) (h : RB f) (n x0 x1 : Int) (a0 : 0 ≤ x0) (a1 : x0 < 65536) (c0 : 0 ≤ x1) (c1 : x1 < 65536) (hB1 : RB (setV f n x0)) (hB2 : RB (setOneV f n (x1 % 256) (x0 % 256))) (n0 : 0 ≤ n) (n1 : n < 7) (pn : ByteArray) (N : Array Value) (hnames : ∀ W, Calls Try.prog 11 #[] W fun e w' => e = .returned (.slice (some ⟨W.heap.size, 0, none⟩) 7 7) ∧ w' = W.alloc (.cells N 9)) (hcell : N[n.toNat]? = some (.string pn)) (hset : ∀ W, Calls Try.prog 27 #[.agg (R f), .string pn, .int .i64 x0] W fun e w' => e = .returned (.agg (R (setV f n x0))) ∧ Below W.heap.size W w') (hlet : ∀ W, Calls Try.prog 12 #[.int .i64 n, .int .u8 (x1 % 256)] W fun e w' => e = .returned (.string ⟨#[]⟩) ∧ W = w') (hso : setOneV f n (x1 % 256) (x0 % 256) = f) (w : World) : Calls Try.prog 7 #[.agg (R f), .int .i64 n, .agg #[.int .u16 x0, .int .u16 x1]] w fun e w' => e = .returned (.bool true) ∧ Below w.heap.size w w' := by
  have sA : BlkN (R f) 29 := R_size f
  have oA : BlkOne (R f) := R_one f
  have zn := zN
  unfold Z29 at zn
  have hsp := fun W => setPair_any f h n x0 a0 a1 W
  have hs1 := fun W => setOne_any f h n (x1 % 256) (x0 % 256) (by omega) (by omega) W
  have q1 := eqR _ hB1
  have q2 := eqR _ hB2
  have m1 := tmod_nn a0 256
  have e1 : 0 ≤ x0 % 256 ∧ x0 % 256 < 256 := by omega
  have sB1 : BlkN (R (setV f n x0)) 29 := R_size _
  have oB1 : BlkOne (R (setV f n x0)) := R_one _
  rw [hso] at hs1 q2
  clear hB1 hB2
  generalize R (setV f n x0) = B1 at *
  generalize R f = A at *
  have HA := Lib.hid (heldT (T := PS w A x0 x1) (fun W W' h b => h.below b) alive_any)
  have HSP := Lib.hid (fun ga gb C D => heldT (T := QS w A x0 x1 ga gb C D) (fun W W' h b => h.below b) (belowOf2 hsp))
  have HS1 := Lib.hid (fun ga gb C D => heldT (T := QS w A x0 x1 ga gb C D) (fun W W' h b => h.below b) hs1)
  have HSET := Lib.hid (fun ga gb C D => heldT (T := QS w A x0 x1 ga gb C D) (fun W W' h b => h.below b) hset)
  clear hset
  have HLET := Lib.hid hlet
  clear hsp hs1 hlet
  go_enter Try.func7, Try.ntmps7
  go_wp2_with (go_at_call 9; (with_reducible refine (HA.out _ ?_).mono ?_); (unfold PS; exact ⟨by first | assumption | (simp [*]; done), by first | assumption | (go_simp; done), by first | assumption | (go_simp; done), by first | assumption | (simp; done) | (simp; omega) | omega, by first | assumption | go_grown⟩); rintro e w1 ⟨rfl, k0, k1, k2, k3, k4⟩)
  have ne0 : ¬ (w.heap.size = w1.heap.size) := by omega
  have ne1 : ¬ (w.heap.size = w1.heap.size + 1) := by omega
  go_cut [8, 9] from 16 to 17 (fun p q wx => ∃ ga gb, p = .pointer (some ⟨ga, 0, none⟩) ∧ q = .pointer (some ⟨gb, 0, none⟩) ∧ ga ≠ gb ∧ w.heap.size + 1 < ga ∧ w.heap.size + 1 < gb ∧ QS w A x0 x1 ga gb A A wx)
  case first =>
    go_region_held3 (fun w' => blkAt w' w.heap.size = A ∧ w'.cell? ⟨w.heap.size + 1, 0, none⟩ = some (.int .u16 x0) ∧ w'.cell? ⟨w.heap.size + 1, 1, none⟩ = some (.int .u16 x1) ∧ w.heap.size + 1 < w'.heap.size ∧ Below w.heap.size w w') (first | assumption | (exact ⟨by first | assumption | (simp [*]; done), by first | assumption | go_keep | (go_simp; done), by first | assumption | go_keep | (go_simp; done), by first | assumption | (simp; done) | (simp; omega) | omega, by first | assumption | (exact Below.drew (by assumption)) | go_grown⟩)) (fail)
    all_goals (go_wp2_with fail; go_meet; exact ⟨_, _, rfl, rfl, by first | omega | (simp; done), by omega, by omega, by (unfold QS; exact ⟨by first | assumption | (simp [*]; done) | (go_simp; done), by first | assumption | go_keep | (go_simp; done), by first | assumption | go_keep | (go_simp; done), by first | assumption | (exact blkAt_put_same (by assumption) sA (by omega)) | (simp [*]; done) | (go_simp; done), by first | assumption | (exact blkAt_put_same (by assumption) sA (by omega)) | (simp [*]; done) | (go_simp; done), by first | assumption | (simp; done) | (simp; omega) | omega, by first | assumption | (simp; done) | (simp; omega) | omega, by first | assumption | (simp; done) | (simp; omega) | omega, by first | assumption | (exact Below.drew (by assumption)) | (exact below_blkPut (by assumption) (by omega) _) | go_grown⟩)⟩)
  case rest =>
  obtain ⟨ga, gb, rfl, rfl, g0, g1, g2, j0, j1, j2, j3, j4, j5, j6, j7, j8⟩ := hcut
  have z1 : w.heap.size ≠ ga := by omega
  have z2 : w.heap.size ≠ gb := by omega
  have z3 : gb ≠ ga := Ne.symm g0
  have z4 : w.heap.size + 1 ≠ ga := by omega
  have z5 : w.heap.size + 1 ≠ gb := by omega
  clear ne0 ne1 k0 k1 k2 k3 k4
  have wr0 : IntKind.i64.wrap x0 = x0 := by rw [IntKind.wrap_i64]; omega
  have wr2 : IntKind.u8.wrap x0 = x0 % 256 := IntKind.wrap_u8 x0
  have wr1 : IntKind.i64.wrap (x0 % 256) = x0 % 256 := by rw [IntKind.wrap_i64]; omega
  have ne2 : ¬ (w.heap.size = wc.heap.size) := by omega
  have ne3 : ¬ (ga = wc.heap.size) := by omega
  have ne4 : ¬ (gb = wc.heap.size) := by omega
  have HNAMES := Lib.hid hnames
  clear hnames
  go_wp2_with fail
  go_cut [6] from 24 to 32 (fun c wx => c = .bool false ∧ QS w A x0 x1 ga gb B1 A wx)
  case first =>
    go_region_with (first | (go_at_call 11; with_reducible refine (HNAMES.out _).mono ?_; rintro e w2 ⟨rfl, rfl⟩) | (go_at_call 27; (with_reducible refine (HSET.out ga gb A A _ ?_).mono ?_); (unfold QS; exact ⟨by first | assumption | (simp [*]; done) | (go_simp; done), by first | assumption | go_keep | (go_simp; done), by first | assumption | go_keep | (go_simp; done), by first | assumption | (exact blkAt_put_same (by assumption) sA (by omega)) | (simp [*]; done) | (go_simp; done), by first | assumption | (exact blkAt_put_same (by assumption) sA (by omega)) | (simp [*]; done) | (go_simp; done), by first | assumption | (simp; done) | (simp; omega) | omega, by first | assumption | (simp; done) | (simp; omega) | omega, by first | assumption | (simp; done) | (simp; omega) | omega, by first | assumption | (exact Below.drew (by assumption)) | (exact below_blkPut (by assumption) (by omega) _) | go_grown⟩); rintro e w3 ⟨rfl, y0, y1, y2, y3, y4, y5, y6, y7, y8⟩))
    all_goals (go_wp2_with fail; go_meet; exact ⟨rfl, by (unfold QS; exact ⟨by first | assumption | (simp [*]; done) | (go_simp; done), by first | assumption | go_keep | (go_simp; done), by first | assumption | go_keep | (go_simp; done), by first | assumption | (exact blkAt_put_same (by assumption) sA (by omega)) | (simp [*]; done) | (go_simp; done), by first | assumption | (exact blkAt_put_same (by assumption) sA (by omega)) | (simp [*]; done) | (go_simp; done), by first | assumption | (simp; done) | (simp; omega) | omega, by first | assumption | (simp; done) | (simp; omega) | omega, by first | assumption | (simp; done) | (simp; omega) | omega, by first | assumption | (exact Below.drew (by assumption)) | (exact below_blkPut (by assumption) (by omega) _) | go_grown⟩)⟩)
  case rest =>
  obtain ⟨rfl, j0, j1, j2, j3, j4, j5, j6, j7, j8⟩ := hcut
  clear ne2 ne3 ne4
  go_wp2_with (first | (go_at_call 12; with_reducible refine (HLET.out _).mono ?_; rintro e w' ⟨rfl, rfl⟩))
  go_region_held3 (fun w' => blkAt w' w.heap.size = A ∧ w'.cell? ⟨w.heap.size + 1, 0, none⟩ = some (.int .u16 x0) ∧ w'.cell? ⟨w.heap.size + 1, 1, none⟩ = some (.int .u16 x1) ∧ blkAt w' ga = B1 ∧ blkAt w' gb = A ∧ ga < w'.heap.size ∧ gb < w'.heap.size ∧ w.heap.size + 1 < w'.heap.size ∧ Below w.heap.size w w') (first | assumption | (exact ⟨by first | assumption | (simp [*]; done) | (go_simp; done), by first | assumption | go_keep | (go_simp; done), by first | assumption | go_keep | (go_simp; done), by first | assumption | (simp [*]; done) | (go_simp; done), by first | assumption | (simp [*]; done) | (go_simp; done), by first | assumption | (simp; done) | (simp; omega) | omega, by first | assumption | (simp; done) | (simp; omega) | omega, by first | assumption | (simp; done) | (simp; omega) | omega, by first | assumption | (exact Below.drew (by assumption)) | (exact below_blkPut (by assumption) (by omega) _) | go_grown⟩)) (first | (go_at_call 20; (with_reducible refine (HSP.out ga gb B1 A _ ?_).mono ?_); (unfold QS; exact ⟨by first | assumption | (simp [*]; done) | (go_simp; done), by first | assumption | go_keep | (go_simp; done), by first | assumption | go_keep | (go_simp; done), by first | assumption | (exact blkAt_put_same (by assumption) sA (by omega)) | (simp [*]; done) | (go_simp; done), by first | assumption | (exact blkAt_put_same (by assumption) sA (by omega)) | (simp [*]; done) | (go_simp; done), by first | assumption | (simp; done) | (simp; omega) | omega, by first | assumption | (simp; done) | (simp; omega) | omega, by first | assumption | (simp; done) | (simp; omega) | omega, by first | assumption | (exact Below.drew (by assumption)) | (exact below_blkPut (by assumption) (by omega) _) | go_grown⟩); rintro e w' ⟨rfl, y0, y1, y2, y3, y4, y5, y6, y7, y8⟩) | (go_at_call 28; (with_reducible refine (HS1.out ga gb B1 A _ ?_).mono ?_); (unfold QS; exact ⟨by first | assumption | (simp [*]; done) | (go_simp; done), by first | assumption | go_keep | (go_simp; done), by first | assumption | go_keep | (go_simp; done), by first | assumption | (exact blkAt_put_same (by assumption) sA (by omega)) | (simp [*]; done) | (go_simp; done), by first | assumption | (exact blkAt_put_same (by assumption) sA (by omega)) | (simp [*]; done) | (go_simp; done), by first | assumption | (simp; done) | (simp; omega) | omega, by first | assumption | (simp; done) | (simp; omega) | omega, by first | assumption | (simp; done) | (simp; omega) | omega, by first | assumption | (exact Below.drew (by assumption)) | (exact below_blkPut (by assumption) (by omega) _) | go_grown⟩); rintro e w' ⟨rfl, y0, y1, y2, y3, y4, y5, y6, y7, y8⟩))
  all_goals
    go_wp2_with fail
    go_ret
    exact ⟨ret_bool (by simp), by first | assumption | go_grown⟩
set_option maxRecDepth 100000 in
set_option maxHeartbeats 4000000 in
theorem set_ghl (f : Nat → Int) (h : RB f) (n x0 x1 : Int) (a0 : 0 ≤ x0) (a1 : x0 < 65536) (c0 : 0 ≤ x1) (c1 : x1 < 65536) (hB1 : RB (setV f n x0)) (hB2 : RB (setOneV f n (x1 % 256) (x0 % 256))) (n0 : 0 ≤ n) (n1 : 6 < n) (hsv : setV f n x0 = f) (ln : ByteArray) (hne : ln.toList.isEmpty = false) (hlet : ∀ W, Calls Try.prog 12 #[.int .i64 n, .int .u8 (x1 % 256)] W fun e w' => e = .returned (.string ln) ∧ W = w') (hset1 : ∀ W, Calls Try.prog 27 #[.agg (R f), .string ln, .int .i64 (x0 % 256)] W fun e w' => e = .returned (.agg (R (setOneV f n (x1 % 256) (x0 % 256)))) ∧ Below W.heap.size W w') (w : World) : Calls Try.prog 7 #[.agg (R f), .int .i64 n, .agg #[.int .u16 x0, .int .u16 x1]] w fun e w' => e = .returned (.bool true) ∧ Below w.heap.size w w' := by
  have sA : BlkN (R f) 29 := R_size f
  have oA : BlkOne (R f) := R_one f
  have zn := zN
  unfold Z29 at zn
  have hsp := fun W => setPair_any f h n x0 a0 a1 W
  have hs1 := fun W => setOne_any f h n (x1 % 256) (x0 % 256) (by omega) (by omega) W
  have q1 := eqR _ hB1
  have q2 := eqR _ hB2
  have m1 := tmod_nn a0 256
  have e1 : 0 ≤ x0 % 256 ∧ x0 % 256 < 256 := by omega
  rw [hsv] at hsp q1
  have sB2 : BlkN (R (setOneV f n (x1 % 256) (x0 % 256))) 29 := R_size _
  have oB2 : BlkOne (R (setOneV f n (x1 % 256) (x0 % 256))) := R_one _
  clear hB1 hB2
  generalize R (setOneV f n (x1 % 256) (x0 % 256)) = B2 at *
  generalize R f = A at *
  have HA := Lib.hid (heldT (T := PS w A x0 x1) (fun W W' h b => h.below b) alive_any)
  have HSP := Lib.hid (fun ga gb C D => heldT (T := QS w A x0 x1 ga gb C D) (fun W W' h b => h.below b) (belowOf2 hsp))
  have HS1 := Lib.hid (fun ga gb C D => heldT (T := QS w A x0 x1 ga gb C D) (fun W W' h b => h.below b) hs1)
  have HSET1 := Lib.hid (fun ga gb C D => heldT (T := QS w A x0 x1 ga gb C D) (fun W W' h b => h.below b) hset1)
  clear hset1
  have HLET := Lib.hid hlet
  clear hsp hs1 hlet
  go_enter Try.func7, Try.ntmps7
  go_wp2_with (go_at_call 9; (with_reducible refine (HA.out _ ?_).mono ?_); (unfold PS; exact ⟨by first | assumption | (simp [*]; done), by first | assumption | (go_simp; done), by first | assumption | (go_simp; done), by first | assumption | (simp; done) | (simp; omega) | omega, by first | assumption | go_grown⟩); rintro e w1 ⟨rfl, k0, k1, k2, k3, k4⟩)
  have ne0 : ¬ (w.heap.size = w1.heap.size) := by omega
  have ne1 : ¬ (w.heap.size = w1.heap.size + 1) := by omega
  go_cut [8, 9] from 16 to 17 (fun p q wx => ∃ ga gb, p = .pointer (some ⟨ga, 0, none⟩) ∧ q = .pointer (some ⟨gb, 0, none⟩) ∧ ga ≠ gb ∧ w.heap.size + 1 < ga ∧ w.heap.size + 1 < gb ∧ QS w A x0 x1 ga gb A A wx)
  case first =>
    go_region_held3 (fun w' => blkAt w' w.heap.size = A ∧ w'.cell? ⟨w.heap.size + 1, 0, none⟩ = some (.int .u16 x0) ∧ w'.cell? ⟨w.heap.size + 1, 1, none⟩ = some (.int .u16 x1) ∧ w.heap.size + 1 < w'.heap.size ∧ Below w.heap.size w w') (first | assumption | (exact ⟨by first | assumption | (simp [*]; done), by first | assumption | go_keep | (go_simp; done), by first | assumption | go_keep | (go_simp; done), by first | assumption | (simp; done) | (simp; omega) | omega, by first | assumption | (exact Below.drew (by assumption)) | go_grown⟩)) (fail)
    all_goals (go_wp2_with fail; go_meet; exact ⟨_, _, rfl, rfl, by first | omega | (simp; done), by omega, by omega, by (unfold QS; exact ⟨by first | assumption | (simp [*]; done) | (go_simp; done), by first | assumption | go_keep | (go_simp; done), by first | assumption | go_keep | (go_simp; done), by first | assumption | (exact blkAt_put_same (by assumption) sA (by omega)) | (simp [*]; done) | (go_simp; done), by first | assumption | (exact blkAt_put_same (by assumption) sA (by omega)) | (simp [*]; done) | (go_simp; done), by first | assumption | (simp; done) | (simp; omega) | omega, by first | assumption | (simp; done) | (simp; omega) | omega, by first | assumption | (simp; done) | (simp; omega) | omega, by first | assumption | (exact Below.drew (by assumption)) | (exact below_blkPut (by assumption) (by omega) _) | go_grown⟩)⟩)
  case rest =>
  obtain ⟨ga, gb, rfl, rfl, g0, g1, g2, j0, j1, j2, j3, j4, j5, j6, j7, j8⟩ := hcut
  have z1 : w.heap.size ≠ ga := by omega
  have z2 : w.heap.size ≠ gb := by omega
  have z3 : gb ≠ ga := Ne.symm g0
  have z4 : w.heap.size + 1 ≠ ga := by omega
  have z5 : w.heap.size + 1 ≠ gb := by omega
  clear ne0 ne1 k0 k1 k2 k3 k4
  have wr0 : IntKind.i64.wrap x0 = x0 := by rw [IntKind.wrap_i64]; omega
  have wr2 : IntKind.u8.wrap x0 = x0 % 256 := IntKind.wrap_u8 x0
  have wr1 : IntKind.i64.wrap (x0 % 256) = x0 % 256 := by rw [IntKind.wrap_i64]; omega
  go_wp2_with (first | (go_at_call 12; with_reducible refine (HLET.out _).mono ?_; rintro e w' ⟨rfl, rfl⟩) | (go_at_call 27; (with_reducible refine (HSET1.out ga gb A A _ ?_).mono ?_); (unfold QS; exact ⟨by first | assumption | (simp [*]; done) | (go_simp; done), by first | assumption | go_keep | (go_simp; done), by first | assumption | go_keep | (go_simp; done), by first | assumption | (exact blkAt_put_same (by assumption) sA (by omega)) | (simp [*]; done) | (go_simp; done), by first | assumption | (exact blkAt_put_same (by assumption) sA (by omega)) | (simp [*]; done) | (go_simp; done), by first | assumption | (simp; done) | (simp; omega) | omega, by first | assumption | (simp; done) | (simp; omega) | omega, by first | assumption | (simp; done) | (simp; omega) | omega, by first | assumption | (exact Below.drew (by assumption)) | (exact below_blkPut (by assumption) (by omega) _) | go_grown⟩); clear j0 j1 j2 j3 j4 j5 j6 j7 j8; rintro e w4 ⟨rfl, j0, j1, j2, j3, j4, j5, j6, j7, j8⟩))
  have hq4 : QS w A x0 x1 ga gb A B2 (blkPut w4 gb B2) := by (unfold QS; exact ⟨by first | assumption | (simp [*]; done) | (go_simp; done), by first | assumption | go_keep | (go_simp; done), by first | assumption | go_keep | (go_simp; done), by first | assumption | (exact blkAt_put_same (by assumption) sA (by omega)) | (simp [*]; done) | (go_simp; done), by first | assumption | (exact blkAt_put_same (by assumption) sA (by omega)) | (simp [*]; done) | (go_simp; done), by first | assumption | (simp; done) | (simp; omega) | omega, by first | assumption | (simp; done) | (simp; omega) | omega, by first | assumption | (simp; done) | (simp; omega) | omega, by first | assumption | (exact Below.drew (by assumption)) | (exact below_blkPut (by assumption) (by omega) _) | go_grown⟩)
  generalize blkPut w4 gb B2 = w5 at *
  clear j0 j1 j2 j3 j4 j5 j6 j7 j8
  obtain ⟨j0, j1, j2, j3, j4, j5, j6, j7, j8⟩ := hq4
  go_region_held3 (fun w' => blkAt w' w.heap.size = A ∧ w'.cell? ⟨w.heap.size + 1, 0, none⟩ = some (.int .u16 x0) ∧ w'.cell? ⟨w.heap.size + 1, 1, none⟩ = some (.int .u16 x1) ∧ blkAt w' ga = A ∧ blkAt w' gb = B2 ∧ ga < w'.heap.size ∧ gb < w'.heap.size ∧ w.heap.size + 1 < w'.heap.size ∧ Below w.heap.size w w') (first | assumption | (exact ⟨by first | assumption | (simp [*]; done) | (go_simp; done), by first | assumption | go_keep | (go_simp; done), by first | assumption | go_keep | (go_simp; done), by first | assumption | (simp [*]; done) | (go_simp; done), by first | assumption | (simp [*]; done) | (go_simp; done), by first | assumption | (simp; done) | (simp; omega) | omega, by first | assumption | (simp; done) | (simp; omega) | omega, by first | assumption | (simp; done) | (simp; omega) | omega, by first | assumption | (exact Below.drew (by assumption)) | (exact below_blkPut (by assumption) (by omega) _) | go_grown⟩)) (first | (go_at_call 20; (with_reducible refine (HSP.out ga gb A B2 _ ?_).mono ?_); (unfold QS; exact ⟨by first | assumption | (simp [*]; done) | (go_simp; done), by first | assumption | go_keep | (go_simp; done), by first | assumption | go_keep | (go_simp; done), by first | assumption | (exact blkAt_put_same (by assumption) sA (by omega)) | (simp [*]; done) | (go_simp; done), by first | assumption | (exact blkAt_put_same (by assumption) sA (by omega)) | (simp [*]; done) | (go_simp; done), by first | assumption | (simp; done) | (simp; omega) | omega, by first | assumption | (simp; done) | (simp; omega) | omega, by first | assumption | (simp; done) | (simp; omega) | omega, by first | assumption | (exact Below.drew (by assumption)) | (exact below_blkPut (by assumption) (by omega) _) | go_grown⟩); rintro e w' ⟨rfl, y0, y1, y2, y3, y4, y5, y6, y7, y8⟩) | (go_at_call 28; (with_reducible refine (HS1.out ga gb A B2 _ ?_).mono ?_); (unfold QS; exact ⟨by first | assumption | (simp [*]; done) | (go_simp; done), by first | assumption | go_keep | (go_simp; done), by first | assumption | go_keep | (go_simp; done), by first | assumption | (exact blkAt_put_same (by assumption) sA (by omega)) | (simp [*]; done) | (go_simp; done), by first | assumption | (exact blkAt_put_same (by assumption) sA (by omega)) | (simp [*]; done) | (go_simp; done), by first | assumption | (simp; done) | (simp; omega) | omega, by first | assumption | (simp; done) | (simp; omega) | omega, by first | assumption | (simp; done) | (simp; omega) | omega, by first | assumption | (exact Below.drew (by assumption)) | (exact below_blkPut (by assumption) (by omega) _) | go_grown⟩); rintro e w' ⟨rfl, y0, y1, y2, y3, y4, y5, y6, y7, y8⟩))
  all_goals
    go_wp2_with fail
    go_ret
    exact ⟨ret_bool (by simp), by first | assumption | go_grown⟩
set_option maxRecDepth 100000 in
set_option maxHeartbeats 4000000 in
theorem set_ghn (f : Nat → Int) (h : RB f) (n x0 x1 : Int) (a0 : 0 ≤ x0) (a1 : x0 < 65536) (c0 : 0 ≤ x1) (c1 : x1 < 65536) (hB1 : RB (setV f n x0)) (hB2 : RB (setOneV f n (x1 % 256) (x0 % 256))) (n0 : 0 ≤ n) (n1 : 6 < n) (hsv : setV f n x0 = f) (hlet : ∀ W, Calls Try.prog 12 #[.int .i64 n, .int .u8 (x1 % 256)] W fun e w' => e = .returned (.string ⟨#[]⟩) ∧ W = w') (hso : setOneV f n (x1 % 256) (x0 % 256) = f) (w : World) : Calls Try.prog 7 #[.agg (R f), .int .i64 n, .agg #[.int .u16 x0, .int .u16 x1]] w fun e w' => e = .returned (.bool true) ∧ Below w.heap.size w w' := by
  have sA : BlkN (R f) 29 := R_size f
  have oA : BlkOne (R f) := R_one f
  have zn := zN
  unfold Z29 at zn
  have hsp := fun W => setPair_any f h n x0 a0 a1 W
  have hs1 := fun W => setOne_any f h n (x1 % 256) (x0 % 256) (by omega) (by omega) W
  have q1 := eqR _ hB1
  have q2 := eqR _ hB2
  have m1 := tmod_nn a0 256
  have e1 : 0 ≤ x0 % 256 ∧ x0 % 256 < 256 := by omega
  rw [hsv] at hsp q1
  rw [hso] at hs1 q2
  clear hB1 hB2
  generalize R f = A at *
  have HA := Lib.hid (heldT (T := PS w A x0 x1) (fun W W' h b => h.below b) alive_any)
  have HSP := Lib.hid (fun ga gb C D => heldT (T := QS w A x0 x1 ga gb C D) (fun W W' h b => h.below b) (belowOf2 hsp))
  have HS1 := Lib.hid (fun ga gb C D => heldT (T := QS w A x0 x1 ga gb C D) (fun W W' h b => h.below b) hs1)
  have HLET := Lib.hid hlet
  clear hsp hs1 hlet
  go_enter Try.func7, Try.ntmps7
  go_wp2_with (go_at_call 9; (with_reducible refine (HA.out _ ?_).mono ?_); (unfold PS; exact ⟨by first | assumption | (simp [*]; done), by first | assumption | (go_simp; done), by first | assumption | (go_simp; done), by first | assumption | (simp; done) | (simp; omega) | omega, by first | assumption | go_grown⟩); rintro e w1 ⟨rfl, k0, k1, k2, k3, k4⟩)
  have ne0 : ¬ (w.heap.size = w1.heap.size) := by omega
  have ne1 : ¬ (w.heap.size = w1.heap.size + 1) := by omega
  go_cut [8, 9] from 16 to 17 (fun p q wx => ∃ ga gb, p = .pointer (some ⟨ga, 0, none⟩) ∧ q = .pointer (some ⟨gb, 0, none⟩) ∧ ga ≠ gb ∧ w.heap.size + 1 < ga ∧ w.heap.size + 1 < gb ∧ QS w A x0 x1 ga gb A A wx)
  case first =>
    go_region_held3 (fun w' => blkAt w' w.heap.size = A ∧ w'.cell? ⟨w.heap.size + 1, 0, none⟩ = some (.int .u16 x0) ∧ w'.cell? ⟨w.heap.size + 1, 1, none⟩ = some (.int .u16 x1) ∧ w.heap.size + 1 < w'.heap.size ∧ Below w.heap.size w w') (first | assumption | (exact ⟨by first | assumption | (simp [*]; done), by first | assumption | go_keep | (go_simp; done), by first | assumption | go_keep | (go_simp; done), by first | assumption | (simp; done) | (simp; omega) | omega, by first | assumption | (exact Below.drew (by assumption)) | go_grown⟩)) (fail)
    all_goals (go_wp2_with fail; go_meet; exact ⟨_, _, rfl, rfl, by first | omega | (simp; done), by omega, by omega, by (unfold QS; exact ⟨by first | assumption | (simp [*]; done) | (go_simp; done), by first | assumption | go_keep | (go_simp; done), by first | assumption | go_keep | (go_simp; done), by first | assumption | (exact blkAt_put_same (by assumption) sA (by omega)) | (simp [*]; done) | (go_simp; done), by first | assumption | (exact blkAt_put_same (by assumption) sA (by omega)) | (simp [*]; done) | (go_simp; done), by first | assumption | (simp; done) | (simp; omega) | omega, by first | assumption | (simp; done) | (simp; omega) | omega, by first | assumption | (simp; done) | (simp; omega) | omega, by first | assumption | (exact Below.drew (by assumption)) | (exact below_blkPut (by assumption) (by omega) _) | go_grown⟩)⟩)
  case rest =>
  obtain ⟨ga, gb, rfl, rfl, g0, g1, g2, j0, j1, j2, j3, j4, j5, j6, j7, j8⟩ := hcut
  have z1 : w.heap.size ≠ ga := by omega
  have z2 : w.heap.size ≠ gb := by omega
  have z3 : gb ≠ ga := Ne.symm g0
  have z4 : w.heap.size + 1 ≠ ga := by omega
  have z5 : w.heap.size + 1 ≠ gb := by omega
  clear ne0 ne1 k0 k1 k2 k3 k4
  have wr0 : IntKind.i64.wrap x0 = x0 := by rw [IntKind.wrap_i64]; omega
  have wr2 : IntKind.u8.wrap x0 = x0 % 256 := IntKind.wrap_u8 x0
  have wr1 : IntKind.i64.wrap (x0 % 256) = x0 % 256 := by rw [IntKind.wrap_i64]; omega
  go_wp2_with (first | (go_at_call 12; with_reducible refine (HLET.out _).mono ?_; rintro e w' ⟨rfl, rfl⟩))
  go_region_held3 (fun w' => blkAt w' w.heap.size = A ∧ w'.cell? ⟨w.heap.size + 1, 0, none⟩ = some (.int .u16 x0) ∧ w'.cell? ⟨w.heap.size + 1, 1, none⟩ = some (.int .u16 x1) ∧ blkAt w' ga = A ∧ blkAt w' gb = A ∧ ga < w'.heap.size ∧ gb < w'.heap.size ∧ w.heap.size + 1 < w'.heap.size ∧ Below w.heap.size w w') (first | assumption | (exact ⟨by first | assumption | (simp [*]; done) | (go_simp; done), by first | assumption | go_keep | (go_simp; done), by first | assumption | go_keep | (go_simp; done), by first | assumption | (simp [*]; done) | (go_simp; done), by first | assumption | (simp [*]; done) | (go_simp; done), by first | assumption | (simp; done) | (simp; omega) | omega, by first | assumption | (simp; done) | (simp; omega) | omega, by first | assumption | (simp; done) | (simp; omega) | omega, by first | assumption | (exact Below.drew (by assumption)) | (exact below_blkPut (by assumption) (by omega) _) | go_grown⟩)) (first | (go_at_call 20; (with_reducible refine (HSP.out ga gb A A _ ?_).mono ?_); (unfold QS; exact ⟨by first | assumption | (simp [*]; done) | (go_simp; done), by first | assumption | go_keep | (go_simp; done), by first | assumption | go_keep | (go_simp; done), by first | assumption | (exact blkAt_put_same (by assumption) sA (by omega)) | (simp [*]; done) | (go_simp; done), by first | assumption | (exact blkAt_put_same (by assumption) sA (by omega)) | (simp [*]; done) | (go_simp; done), by first | assumption | (simp; done) | (simp; omega) | omega, by first | assumption | (simp; done) | (simp; omega) | omega, by first | assumption | (simp; done) | (simp; omega) | omega, by first | assumption | (exact Below.drew (by assumption)) | (exact below_blkPut (by assumption) (by omega) _) | go_grown⟩); rintro e w' ⟨rfl, y0, y1, y2, y3, y4, y5, y6, y7, y8⟩) | (go_at_call 28; (with_reducible refine (HS1.out ga gb A A _ ?_).mono ?_); (unfold QS; exact ⟨by first | assumption | (simp [*]; done) | (go_simp; done), by first | assumption | go_keep | (go_simp; done), by first | assumption | go_keep | (go_simp; done), by first | assumption | (exact blkAt_put_same (by assumption) sA (by omega)) | (simp [*]; done) | (go_simp; done), by first | assumption | (exact blkAt_put_same (by assumption) sA (by omega)) | (simp [*]; done) | (go_simp; done), by first | assumption | (simp; done) | (simp; omega) | omega, by first | assumption | (simp; done) | (simp; omega) | omega, by first | assumption | (simp; done) | (simp; omega) | omega, by first | assumption | (exact Below.drew (by assumption)) | (exact below_blkPut (by assumption) (by omega) _) | go_grown⟩); rintro e w' ⟨rfl, y0, y1, y2, y3, y4, y5, y6, y7, y8⟩))
  all_goals
    go_wp2_with fail
    go_ret
    exact ⟨ret_bool (by simp), by first | assumption | go_grown⟩
set_option maxRecDepth 100000 in
set_option maxHeartbeats 4000000 in
theorem set_gln (f : Nat → Int) (h : RB f) (n x0 x1 : Int) (a0 : 0 ≤ x0) (a1 : x0 < 65536) (c0 : 0 ≤ x1) (c1 : x1 < 65536) (hB1 : RB (setV f n x0)) (hB2 : RB (setOneV f n (x1 % 256) (x0 % 256))) (n0 : n < 0) (hsv : setV f n x0 = f) (hlet : ∀ W, Calls Try.prog 12 #[.int .i64 n, .int .u8 (x1 % 256)] W fun e w' => e = .returned (.string ⟨#[]⟩) ∧ W = w') (hso : setOneV f n (x1 % 256) (x0 % 256) = f) (w : World) : Calls Try.prog 7 #[.agg (R f), .int .i64 n, .agg #[.int .u16 x0, .int .u16 x1]] w fun e w' => e = .returned (.bool true) ∧ Below w.heap.size w w' := by
  have sA : BlkN (R f) 29 := R_size f
  have oA : BlkOne (R f) := R_one f
  have zn := zN
  unfold Z29 at zn
  have hsp := fun W => setPair_any f h n x0 a0 a1 W
  have hs1 := fun W => setOne_any f h n (x1 % 256) (x0 % 256) (by omega) (by omega) W
  have q1 := eqR _ hB1
  have q2 := eqR _ hB2
  have m1 := tmod_nn a0 256
  have e1 : 0 ≤ x0 % 256 ∧ x0 % 256 < 256 := by omega
  rw [hsv] at hsp q1
  rw [hso] at hs1 q2
  clear hB1 hB2
  generalize R f = A at *
  have HA := Lib.hid (heldT (T := PS w A x0 x1) (fun W W' h b => h.below b) alive_any)
  have HSP := Lib.hid (fun ga gb C D => heldT (T := QS w A x0 x1 ga gb C D) (fun W W' h b => h.below b) (belowOf2 hsp))
  have HS1 := Lib.hid (fun ga gb C D => heldT (T := QS w A x0 x1 ga gb C D) (fun W W' h b => h.below b) hs1)
  have HLET := Lib.hid hlet
  clear hsp hs1 hlet
  go_enter Try.func7, Try.ntmps7
  go_wp2_with (go_at_call 9; (with_reducible refine (HA.out _ ?_).mono ?_); (unfold PS; exact ⟨by first | assumption | (simp [*]; done), by first | assumption | (go_simp; done), by first | assumption | (go_simp; done), by first | assumption | (simp; done) | (simp; omega) | omega, by first | assumption | go_grown⟩); rintro e w1 ⟨rfl, k0, k1, k2, k3, k4⟩)
  have ne0 : ¬ (w.heap.size = w1.heap.size) := by omega
  have ne1 : ¬ (w.heap.size = w1.heap.size + 1) := by omega
  go_cut [8, 9] from 16 to 17 (fun p q wx => ∃ ga gb, p = .pointer (some ⟨ga, 0, none⟩) ∧ q = .pointer (some ⟨gb, 0, none⟩) ∧ ga ≠ gb ∧ w.heap.size + 1 < ga ∧ w.heap.size + 1 < gb ∧ QS w A x0 x1 ga gb A A wx)
  case first =>
    go_region_held3 (fun w' => blkAt w' w.heap.size = A ∧ w'.cell? ⟨w.heap.size + 1, 0, none⟩ = some (.int .u16 x0) ∧ w'.cell? ⟨w.heap.size + 1, 1, none⟩ = some (.int .u16 x1) ∧ w.heap.size + 1 < w'.heap.size ∧ Below w.heap.size w w') (first | assumption | (exact ⟨by first | assumption | (simp [*]; done), by first | assumption | go_keep | (go_simp; done), by first | assumption | go_keep | (go_simp; done), by first | assumption | (simp; done) | (simp; omega) | omega, by first | assumption | (exact Below.drew (by assumption)) | go_grown⟩)) (fail)
    all_goals (go_wp2_with fail; go_meet; exact ⟨_, _, rfl, rfl, by first | omega | (simp; done), by omega, by omega, by (unfold QS; exact ⟨by first | assumption | (simp [*]; done) | (go_simp; done), by first | assumption | go_keep | (go_simp; done), by first | assumption | go_keep | (go_simp; done), by first | assumption | (exact blkAt_put_same (by assumption) sA (by omega)) | (simp [*]; done) | (go_simp; done), by first | assumption | (exact blkAt_put_same (by assumption) sA (by omega)) | (simp [*]; done) | (go_simp; done), by first | assumption | (simp; done) | (simp; omega) | omega, by first | assumption | (simp; done) | (simp; omega) | omega, by first | assumption | (simp; done) | (simp; omega) | omega, by first | assumption | (exact Below.drew (by assumption)) | (exact below_blkPut (by assumption) (by omega) _) | go_grown⟩)⟩)
  case rest =>
  obtain ⟨ga, gb, rfl, rfl, g0, g1, g2, j0, j1, j2, j3, j4, j5, j6, j7, j8⟩ := hcut
  have z1 : w.heap.size ≠ ga := by omega
  have z2 : w.heap.size ≠ gb := by omega
  have z3 : gb ≠ ga := Ne.symm g0
  have z4 : w.heap.size + 1 ≠ ga := by omega
  have z5 : w.heap.size + 1 ≠ gb := by omega
  clear ne0 ne1 k0 k1 k2 k3 k4
  have wr0 : IntKind.i64.wrap x0 = x0 := by rw [IntKind.wrap_i64]; omega
  have wr2 : IntKind.u8.wrap x0 = x0 % 256 := IntKind.wrap_u8 x0
  have wr1 : IntKind.i64.wrap (x0 % 256) = x0 % 256 := by rw [IntKind.wrap_i64]; omega
  go_wp2_with (first | (go_at_call 12; with_reducible refine (HLET.out _).mono ?_; rintro e w' ⟨rfl, rfl⟩))
  go_region_held3 (fun w' => blkAt w' w.heap.size = A ∧ w'.cell? ⟨w.heap.size + 1, 0, none⟩ = some (.int .u16 x0) ∧ w'.cell? ⟨w.heap.size + 1, 1, none⟩ = some (.int .u16 x1) ∧ blkAt w' ga = A ∧ blkAt w' gb = A ∧ ga < w'.heap.size ∧ gb < w'.heap.size ∧ w.heap.size + 1 < w'.heap.size ∧ Below w.heap.size w w') (first | assumption | (exact ⟨by first | assumption | (simp [*]; done) | (go_simp; done), by first | assumption | go_keep | (go_simp; done), by first | assumption | go_keep | (go_simp; done), by first | assumption | (simp [*]; done) | (go_simp; done), by first | assumption | (simp [*]; done) | (go_simp; done), by first | assumption | (simp; done) | (simp; omega) | omega, by first | assumption | (simp; done) | (simp; omega) | omega, by first | assumption | (simp; done) | (simp; omega) | omega, by first | assumption | (exact Below.drew (by assumption)) | (exact below_blkPut (by assumption) (by omega) _) | go_grown⟩)) (first | (go_at_call 20; (with_reducible refine (HSP.out ga gb A A _ ?_).mono ?_); (unfold QS; exact ⟨by first | assumption | (simp [*]; done) | (go_simp; done), by first | assumption | go_keep | (go_simp; done), by first | assumption | go_keep | (go_simp; done), by first | assumption | (exact blkAt_put_same (by assumption) sA (by omega)) | (simp [*]; done) | (go_simp; done), by first | assumption | (exact blkAt_put_same (by assumption) sA (by omega)) | (simp [*]; done) | (go_simp; done), by first | assumption | (simp; done) | (simp; omega) | omega, by first | assumption | (simp; done) | (simp; omega) | omega, by first | assumption | (simp; done) | (simp; omega) | omega, by first | assumption | (exact Below.drew (by assumption)) | (exact below_blkPut (by assumption) (by omega) _) | go_grown⟩); rintro e w' ⟨rfl, y0, y1, y2, y3, y4, y5, y6, y7, y8⟩) | (go_at_call 28; (with_reducible refine (HS1.out ga gb A A _ ?_).mono ?_); (unfold QS; exact ⟨by first | assumption | (simp [*]; done) | (go_simp; done), by first | assumption | go_keep | (go_simp; done), by first | assumption | go_keep | (go_simp; done), by first | assumption | (exact blkAt_put_same (by assumption) sA (by omega)) | (simp [*]; done) | (go_simp; done), by first | assumption | (exact blkAt_put_same (by assumption) sA (by omega)) | (simp [*]; done) | (go_simp; done), by first | assumption | (simp; done) | (simp; omega) | omega, by first | assumption | (simp; done) | (simp; omega) | omega, by first | assumption | (simp; done) | (simp; omega) | omega, by first | assumption | (exact Below.drew (by assumption)) | (exact below_blkPut (by assumption) (by omega) _) | go_grown⟩); rintro e w' ⟨rfl, y0, y1, y2, y3, y4, y5, y6, y7, y8⟩))
  all_goals
    go_wp2_with fail
    go_ret
    exact ⟨ret_bool (by simp), by first | assumption | go_grown⟩
end Regs
end Go.Proofs.Ythghpgnnbdimaaa
