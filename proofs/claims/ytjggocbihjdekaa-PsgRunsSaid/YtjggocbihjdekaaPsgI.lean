/- A chip of three tones and a noise (layer 5): what the program's functions do, part 18. No conditions but that numbers are of their kinds. -/
import Derived.Test.YtjggocbihjdekaaPsgU
import Derived.Test.YtjggocbihjdekaaRTone
import Derived.Test.YtjggocbihjdekaaRNoise
import Derived.RegionTactic
import Derived.LoopTactic
import Derived.Deep.DeepCutAuto
import Derived.Deep.CutRange
import Derived.Deep.RegionHeld3
import Derived.Lib.Hide
namespace Go.Proofs.Ytjggocbihjdekaa
open Go.RowKit
open Kit
set_option linter.unusedSimpArgs false
set_option linter.unusedVariables false
attribute [local simp] blkAt_alloc blkNew_cells putRow_cells blkAt_drew BlkN.set BlkOne.setInt BlkOne.setBool blkPut_alloc blkPut_drew blkAt_blkPut_other size_blkPut nq2 nq3 nq4 nq5 nq6 nq7 nq8
namespace Psg
attribute [local simp ↓] sl_in ss_in vs_in
attribute [local simp] sl_run ss_run vs_run
attribute [local simp ↓] ns_in
attribute [local simp] ns_run2
open ToneM NoiseM
def setsL (A : Array Value) (o : Nat) : List Value → Array Value
  | [] => A
  | v :: vs => setsL (A.setIfInBounds o v) (o + 1) vs
theorem put_self {w : World} {b n : Nat} (h : BlkN (blkAt w b) n) (hn : 0 < n) : blkPut w b (blkAt w b) = w := by
  obtain ⟨t, ht⟩ := blkAt_some h hn
  refine (world_heap (a := w) (b := blkPut w b (blkAt w b)) ?_ rfl).symm
  apply Array.ext_getElem?
  intro i
  by_cases e : i = b
  · subst e; rw [heap_blkPut_same ht]; exact ht
  · rw [heap_blkPut_other _ _ _ _ e]
theorem sets_put (b n : Nat) (hn : 0 < n) : ∀ (vs : List Value) (o : Nat) (w : World), BlkN (blkAt w b) n → w.setCells b o vs = blkPut w b (setsL (blkAt w b) o vs)
  | [], _, w, h => (put_self h hn).symm
  | v :: vs, o, w, h => by
    have h1 : BlkN (blkAt (w.setCell ⟨b, o, none⟩ v) b) n := by rw [blkAt_setCell_same]; simpa [BlkN] using h
    rw [World.setCells, sets_put b n hn vs (o + 1) _ h1, blkAt_setCell_same, set_put o v h hn, put_put _ _ h hn]
    rfl
theorem i9 : (Try.prog.info? 24).map (·.size) = some 9 := by kernel_rfl
theorem ts_in (v x : Value) : Instr.storeAt 24 v x = storeW 24 v x := rfl
theorem ts_run (b : Nat) (w : World) (a0 a1 a3 a4 a6 a7 : Int) (a2 a5 a8 : Bool) (hb : BlkN (blkAt w b) 18) :
    Sem.run Try.prog (storeW 24 (.pointer (some ⟨b, 0, none⟩)) (.agg #[.int .i64 a0, .int .i64 a1, .bool a2, .int .i64 a3, .int .i64 a4, .bool a5, .int .i64 a6, .int .i64 a7, .bool a8])) w = .ok () (blkPut w b (setsL (blkAt w b) 0 [.int .i64 a0, .int .i64 a1, .bool a2, .int .i64 a3, .int .i64 a4, .bool a5, .int .i64 a6, .int .i64 a7, .bool a8])) := by
  obtain ⟨t, ht⟩ := blkAt_some hb (by omega)
  have hs : (blkAt w b).size = 18 := hb
  have hth : w.there b 0 9 := fun j hj => there_of w b ht j (by omega)
  refine (run_storeAt_mid (P := Try.prog) w b 0 24 #[.int .i64 a0, .int .i64 a1, .bool a2, .int .i64 a3, .int .i64 a4, .bool a5, .int .i64 a6, .int .i64 a7, .bool a8] hth i9 (by simp [Value.oneCell'])).trans ?_
  rw [sets_put b 18 (by omega) _ _ _ hb]
attribute [local simp ↓] ts_in
attribute [local simp] ts_run
theorem tones_S (f : Nat → Int) : setsL (S f) 0 [.int .i64 (f 0), .int .i64 (stC (f 0) (f 1)), .bool (stO (f 0) (f 1) (f 2 == 1)), .int .i64 (f 3), .int .i64 (stC (f 3) (f 4)), .bool (stO (f 3) (f 4) (f 5 == 1)), .int .i64 (f 6), .int .i64 (stC (f 6) (f 7)), .bool (stO (f 6) (f 7) (f 8 == 1))] = S (itT f 3) := by
  have h0 := tu_S f 0 (by omega)
  have h1 := tu_S (itT f 1) 1 (by omega)
  have h2 := tu_S (itT f 2) 2 (by omega)
  obtain ⟨i0, i1, i2⟩ := itT_mul f 1
  obtain ⟨j0, j1, j2⟩ := itT_mul f 2
  rw [i0, i1, i2] at h1
  rw [j0, j1, j2] at h2
  simp only [Nat.reduceMul, Nat.reduceAdd] at h0 h1 h2
  simp only [setsL, Nat.reduceAdd]
  rw [h0]
  rw [show S (tuF f 0) = S (itT f 1) from rfl, h1, show S (tuF (itT f 1) 1) = S (itT f 2) from rfl, h2]
  rfl
set_option maxRecDepth 100000 in
set_option maxHeartbeats 4000000 in
theorem rstep_any (f : Nat → Int) (h : SB f) (hp : 0 ≤ f 0 ∧ 0 ≤ f 3 ∧ 0 ≤ f 6) (n0 : 0 ≤ f 10 ∧ f 10 ≤ 64) (n9 : f 9 < 8) (w : World) : Calls Try.prog 18 #[.agg (S f)] w fun e w' => e = .returned (.agg (S (stF f))) ∧ Below w.heap.size w w' := by
  obtain ⟨h9, h12, hu, hi⟩ := h
  obtain ⟨c, hc⟩ := Int.eq_ofNat_of_zero_le n0.1
  obtain ⟨x, hx⟩ := Int.eq_ofNat_of_zero_le h12.1
  have c0 := S_get f 0 (by omega)
  change (S f)[0]? = some (.int .i64 (f 0)) at c0
  have c1 := S_get f 1 (by omega)
  change (S f)[1]? = some (.int .i64 (f 1)) at c1
  have c2 := S_get f 2 (by omega)
  change (S f)[2]? = some (.bool (f 2 == 1)) at c2
  have c3 := S_get f 3 (by omega)
  change (S f)[3]? = some (.int .i64 (f 3)) at c3
  have c4 := S_get f 4 (by omega)
  change (S f)[4]? = some (.int .i64 (f 4)) at c4
  have c5 := S_get f 5 (by omega)
  change (S f)[5]? = some (.bool (f 5 == 1)) at c5
  have c6 := S_get f 6 (by omega)
  change (S f)[6]? = some (.int .i64 (f 6)) at c6
  have c7 := S_get f 7 (by omega)
  change (S f)[7]? = some (.int .i64 (f 7)) at c7
  have c8 := S_get f 8 (by omega)
  change (S f)[8]? = some (.bool (f 8 == 1)) at c8
  have g9 := S_get (itT f 3) 9 (by omega)
  have g10 := S_get (itT f 3) 10 (by omega)
  have g11 := S_get (itT f 3) 11 (by omega)
  have g12 := S_get (itT f 3) 12 (by omega)
  change (S (itT f 3))[9]? = some (.int .u8 (itT f 3 9)) at g9
  change (S (itT f 3))[10]? = some (.int .i64 (itT f 3 10)) at g10
  change (S (itT f 3))[11]? = some (.bool (itT f 3 11 == 1)) at g11
  change (S (itT f 3))[12]? = some (.int .u16 (itT f 3 12)) at g12
  have hs := nu_S (itT f 3) (stT (f 6) (f 7))
  rw [itT_at f 3 9 (by omega), itT_at f 3 10 (by omega), itT_at f 3 11 (by omega), itT_at f 3 12 (by omega)] at hs
  rw [itT_at f 3 9 (by omega)] at g9
  rw [itT_at f 3 10 (by omega), hc] at g10
  rw [itT_at f 3 11 (by omega)] at g11
  rw [itT_at f 3 12 (by omega), hx] at g12
  rw [hc, hx] at hs
  simp only [Int.toNat_natCast] at hs
  change _ = S (stF f) at hs
  have ht := tones_S f
  have t0 := RTone.step_any (f 0) (f 1) (f 2 == 1) hp.1 (hi 1 (by omega)).1 (hi 1 (by omega)).2
  have t1 := RTone.step_any (f 3) (f 4) (f 5 == 1) hp.2.1 (hi 4 (by omega)).1 (hi 4 (by omega)).2
  have t2 := RTone.step_any (f 6) (f 7) (f 8 == 1) hp.2.2 (hi 7 (by omega)).1 (hi 7 (by omega)).2
  have hn := fun W => RNoise.step_any (f 9) c x (f 11 == 1) (stT (f 6) (f 7)) h9.1 n9 (by omega) (by omega) W
  have nA : BlkN (S f) 18 := S_size _
  have oA : BlkOne (S f) := S_one _
  have nB : BlkN (S (itT f 3)) 18 := S_size _
  have oB : BlkOne (S (itT f 3)) := S_one _
  have nG : BlkN (S (stF f)) 18 := S_size _
  have oG : BlkOne (S (stF f)) := S_one _
  have zn := zN
  unfold Z18 at zn
  generalize stC (f 0) (f 1) = p0 at *
  generalize stO (f 0) (f 1) (f 2 == 1) = q0 at *
  generalize stT (f 0) (f 1) = r0 at *
  generalize stC (f 3) (f 4) = p1 at *
  generalize stO (f 3) (f 4) (f 5 == 1) = q1 at *
  generalize stT (f 3) (f 4) = r1 at *
  generalize stC (f 6) (f 7) = p2 at *
  generalize stO (f 6) (f 7) (f 8 == 1) = q2 at *
  generalize stT (f 6) (f 7) = r2 at *
  generalize (f 9).toNat = m at *
  generalize (nC (m % 4) c) = vc at *
  generalize (nH (m % 4) c r2 (f 11 == 1)) = vh at *
  generalize (nS m c x r2 (f 11 == 1)) = vs at *
  generalize hA : S f = A at *
  generalize hB : S (itT f 3) = B at *
  generalize hG : S (stF f) = GG at *
  have HG := Lib.hid hG
  have T0 := Lib.hid t0
  have T1 := Lib.hid t1
  have T2 := Lib.hid t2
  have HN := Lib.hid hn
  clear t0 t1 t2 hn hc hx hA hB hG
  go_enter Try.func18, Try.ntmps18
  go_upto_region 6 with (first | (go_at_call 30; (first | (with_reducible refine (T0.out _).mono ?_) | (with_reducible refine (T1.out _).mono ?_) | (with_reducible refine (T2.out _).mono ?_)); rintro e wq ⟨rfl, o1, o2, rfl⟩) | (go_at_call 31; (with_reducible refine (HN.out _).mono ?_); rintro e wn ⟨rfl, bn⟩; (have k1 : wn.heap[w.heap.size]? = some (.cells B 30) := (bn.block _ (by first | (simp; done) | (simp; omega))).trans (by repeat (first | (refine heap_at _ _ _ ?_; first | (simp; done) | (simp; omega; done)) | (refine (heap_past _ _ _ ?_).trans ?_; focus (first | (simp; done) | (simp; omega; done))) | (refine (heap_drew _ _).trans ?_)))); (have k2 : wn.heap[w.heap.size + 1]? = some (.cells Z18 30) := (bn.block _ (by first | (simp; done) | (simp; omega))).trans (by unfold Z18; exact (by repeat (first | (refine heap_at _ _ _ ?_; first | (simp; done) | (simp; omega; done)) | (refine (heap_past _ _ _ ?_).trans ?_; focus (first | (simp; done) | (simp; omega; done))) | (refine (heap_drew _ _).trans ?_))))); (have kb := blkAt_heap k1); (have bel : Below w.heap.size w wn := Below.trans (by go_grown) (bn.mono (by first | (simp; done) | (simp; omega))))))
  have q : H2 w B wn := ⟨k1, k2, bel⟩
  have q2 := q.put GG
  clear q k1 k2 kb bel bn
  generalize blkPut wn w.heap.size GG = w8 at *
  have e1 := blkAt_heap q2.1
  have e2 := blkAt_heap q2.2.1
  have zN' := zN
  have ne1 : ¬ (w.heap.size = w.heap.size + 1) := by omega
  have q3 := q2
  clear zn
  generalize Z18 = ZZ at *
  go_wp2_with fail
  have hR : (blkPut w8 (w.heap.size + 1) GG).heap[w.heap.size + 1]? = some (.cells GG 30) := heap_blkPut_same q3.2.1 GG
  exact bodyPost_ret (v := .agg _) (results_cell_row rfl _ _ (w.heap.size + 1) 30 _ (0, 0) _ rfl hR Try.underlying30 rfl (by rw [show GG.size = 18 from nG]; exact i18)) rfl ⟨rfl, below_blkPut q3.2.2 (by omega) _⟩
end Psg
end Go.Proofs.Ytjggocbihjdekaa
