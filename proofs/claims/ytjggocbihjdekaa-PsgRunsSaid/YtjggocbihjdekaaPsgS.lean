/- A chip of three tones and a noise (layer 5): what the program's functions do, part 12. No conditions but that numbers are of their kinds. -/
import Derived.Test.YtjggocbihjdekaaPsgZ
import Derived.RegionTactic
import Derived.LoopTactic
import Derived.Deep.DeepCutAuto
import Derived.Deep.CutRange
import Derived.Deep.RegionHeld3
import Derived.Lib.Hide
namespace Go.Proofs.Ytjggocbihjdekaa
open Go.RowKit
open Kit
set_option linter.unusedSimpArgs false
set_option linter.unusedVariables false
attribute [local simp] blkAt_alloc blkNew_cells putRow_cells blkAt_drew BlkN.set BlkOne.setInt BlkOne.setBool blkPut_alloc blkPut_drew blkAt_blkPut_other size_blkPut nq2 nq3 nq4 nq5 nq6 nq7 nq8
namespace Psg
attribute [local simp ↓] sl_in ss_in vs_in
attribute [local simp] sl_run ss_run vs_run
attribute [local simp ↓] ns_in
attribute [local simp] ns_run2
open ToneM NoiseM
theorem upd_same (f : Nat → Int) (k : Nat) (x : Int) : upd f k x k = x := by unfold upd; rw [if_pos rfl]
theorem upd_other (f : Nat → Int) (k j : Nat) (x : Int) (h : j ≠ k) : upd f k x j = f j := by unfold upd; rw [if_neg h]
def czI (b : Bool) : Int := cond b 1 0
theorem czI_eq (b : Bool) : (czI b == 1) = b := by cases b <;> rfl
/-- A tone, one step on. -/
def tuF (f : Nat → Int) (k : Nat) : Nat → Int := upd (upd f (3 * k + 1) (stC (f (3 * k)) (f (3 * k + 1)))) (3 * k + 2) (czI (stO (f (3 * k)) (f (3 * k + 1)) (f (3 * k + 2) == 1)))
def nuF (f : Nat → Int) (t : Bool) : Nat → Int := upd (upd (upd f 10 ((nC ((f 9).toNat % 4) (f 10).toNat : Nat) : Int)) 11 (czI (nH ((f 9).toNat % 4) (f 10).toNat t (f 11 == 1)))) 12 ((nS (f 9).toNat (f 10).toNat (f 12).toNat t (f 11 == 1) : Nat) : Int)
/-- A sound, one step on. -/
def stF (f : Nat → Int) : Nat → Int := nuF (tuF (tuF (tuF f 0) 1) 2) (stT (f 6) (f 7))
theorem tu_S (f : Nat → Int) (k : Nat) (hk : k < 3) : (((S f).setIfInBounds (3 * k) (.int .i64 (f (3 * k)))).setIfInBounds (3 * k + 1) (.int .i64 (stC (f (3 * k)) (f (3 * k + 1))))).setIfInBounds (3 * k + 2) (.bool (stO (f (3 * k)) (f (3 * k + 1)) (f (3 * k + 2) == 1))) = S (tuF f k) := by
  rw [S_set f (3 * k) (f (3 * k)) _ (by rcases (by omega : k = 0 ∨ k = 1 ∨ k = 2) with rfl | rfl | rfl <;> (simp [sv, upd]))]
  rw [upd_self f (3 * k) _ rfl]
  rw [S_set _ (3 * k + 1) (stC (f (3 * k)) (f (3 * k + 1))) _ (by rcases (by omega : k = 0 ∨ k = 1 ∨ k = 2) with rfl | rfl | rfl <;> (simp [sv, upd]))]
  rw [S_set _ (3 * k + 2) (czI (stO (f (3 * k)) (f (3 * k + 1)) (f (3 * k + 2) == 1))) _ (by rcases (by omega : k = 0 ∨ k = 1 ∨ k = 2) with rfl | rfl | rfl <;> (simp [sv, upd, czI_eq]))]
  rfl
theorem nu_S (f : Nat → Int) (t : Bool) : ((((S f).setIfInBounds 9 (.int .u8 (f 9))).setIfInBounds 10 (.int .i64 (nC ((f 9).toNat % 4) (f 10).toNat : Nat))).setIfInBounds 11 (.bool (nH ((f 9).toNat % 4) (f 10).toNat t (f 11 == 1)))).setIfInBounds 12 (.int .u16 (nS (f 9).toNat (f 10).toNat (f 12).toNat t (f 11 == 1) : Nat)) = S (nuF f t) := by
  rw [S_set f 9 (f 9) _ (by simp [sv, upd])]
  rw [upd_self f 9 _ rfl]
  rw [S_set _ 10 ((nC ((f 9).toNat % 4) (f 10).toNat : Nat) : Int) _ (by simp [sv, upd])]
  rw [S_set _ 11 (czI (nH ((f 9).toNat % 4) (f 10).toNat t (f 11 == 1))) _ (by simp [sv, upd, czI_eq])]
  rw [S_set _ 12 ((nS (f 9).toNat (f 10).toNat (f 12).toNat t (f 11 == 1) : Nat) : Int) _ (by simp [sv, upd])]
  rfl
def itT (f : Nat → Int) (k : Nat) : Nat → Int := Nat.rec f (fun i g => tuF g i) k
def ZS2 : Array Value := Z18
/-- The sound's block, and the result's. -/
def H2 (w : World) (A : Array Value) (W : World) : Prop := W.heap[w.heap.size]? = some (.cells A 30) ∧ W.heap[w.heap.size + 1]? = some (.cells Z18 30) ∧ Below w.heap.size w W
theorem H2.below {w : World} {A : Array Value} {W W' : World} (h : H2 w A W) (hb : Below W.heap.size W W') : H2 w A W' := ⟨(hb.block _ (heap_lt h.1)).trans h.1, (hb.block _ (heap_lt h.2.1)).trans h.2.1, h.2.2.trans (hb.mono h.2.2.size)⟩
theorem H2.set {w : World} {A : Array Value} {W : World} (h : H2 w A W) (k : Nat) (v : Value) : H2 w (A.setIfInBounds k v) (W.setCell ⟨w.heap.size, k, none⟩ v) :=
  ⟨heap_set_same _ _ _ _ h.1, (heap_set_other _ _ _ _ _ (by omega)).trans h.2.1, h.2.2.setCell (by simp) _⟩
theorem H2.put {w : World} {A : Array Value} {W : World} (h : H2 w A W) (B : Array Value) : H2 w B (blkPut W w.heap.size B) :=
  ⟨heap_blkPut_same h.1 _, (heap_blkPut_other _ _ _ _ (by omega)).trans h.2.1, below_blkPut h.2.2 (Nat.le_refl _) _⟩
theorem H2.drew {w : World} {A : Array Value} {W : World} (h : H2 w A W) : H2 w A W.drew := ⟨h.1, h.2.1, h.2.2.drew⟩
theorem H2.alloc {w : World} {A : Array Value} {W : World} (h : H2 w A W) (o : Obj) : H2 w A (W.alloc o) := h.below ((Below.refl _ _).alloc (Nat.le_refl _) _)
theorem itT_at (f : Nat → Int) (k j : Nat) (h : 3 * k ≤ j) : itT f k j = f j := by
  induction k with
  | zero => rfl
  | succ k ih =>
    show upd (upd (itT f k) (3 * k + 1) _) (3 * k + 2) _ j = _
    rw [upd_other _ _ _ _ (by omega), upd_other _ _ _ _ (by omega)]
    exact ih (by omega)
theorem itT_mul (f : Nat → Int) (k : Nat) : itT f k (3 * k) = f (3 * k) ∧ itT f k (3 * k + 1) = f (3 * k + 1) ∧ itT f k (3 * k + 2) = f (3 * k + 2) := ⟨itT_at f k _ (by omega), itT_at f k _ (by omega), itT_at f k _ (by omega)⟩
set_option maxRecDepth 100000 in
set_option maxHeartbeats 4000000 in
theorem step_any (f : Nat → Int) (h : SB f) (n0 : 0 ≤ f 10 ∧ f 10 ≤ 64) (n9 : f 9 < 8) (w : World) : Calls Try.prog 17 #[.agg (S f)] w fun e w' => e = .returned (.agg (S (stF f))) ∧ Below w.heap.size w w' := by
  obtain ⟨h9, h12, hu, hi⟩ := h
  have sN : ∀ g, BlkN (S g) 18 := fun g => S_size g
  have sO' : ∀ g, BlkOne (S g) := fun g => S_one g
  have zn := zN
  have hz : Z18 = Z18 := rfl
  go_enter Try.func17, Try.ntmps17
  unfold Z18 at zn
  go_wp2_with fail
  have hst : H2 w (S (itT f 0)) ((w.alloc (.cells (S f) 30)).alloc (.cells Z18 30)) := ⟨(heap_past _ _ _ (by simp)).trans (heap_at _ _ _ rfl), heap_at _ _ _ (by simp), ((Below.refl _ _).alloc (Nat.le_refl _) _).alloc (by simp) _⟩
  unfold Z18 at hst
  generalize (w.alloc (.cells (S f) 30)).alloc _ = ws at *
  go_loopw [3, 5] (fun t i wr => ∃ k : Nat, k ≤ 3 ∧ i = .int .i64 k ∧ (∃ b : Bool, t = .bool b ∧ (k = 3 → b = stT (f 6) (f 7))) ∧ H2 w (S (itT f k)) wr) (fun _ i _ => (3 - intOf i).toNat)
  case atStart => exact ⟨0, by omega, rfl, ⟨_, rfl, fun h => by omega⟩, hst⟩
  case round =>
    obtain ⟨k, hk, rfl, ⟨b, rfl, hb⟩, hH⟩ := hrel
    clear hst
    have rl := heap_lt hH.1
    have rl2 : w.heap.size < wr.heap.size + 1 := by omega
    have rl3 : ¬ (w.heap.size = wr.heap.size) := by omega
    have rl4 : ¬ (w.heap.size = wr.heap.size + 1) := by omega
    rcases (by omega : k = 0 ∨ k = 1 ∨ k = 2 ∨ k = 3) with rfl | rfl | rfl | rfl
    · have a0 := (cell_of _ _ 0 hH.1).trans (sP (itT f 0) 0 (by omega))
      have a1 := (cell_of _ _ 1 hH.1).trans (sC (itT f 0) 0 (by omega))
      have a2 := (cell_of _ _ 2 hH.1).trans (sO (itT f 0) 0 (by omega))
      have f0 := free_of _ _ 0 hH.1
      have f1 := free_of _ _ 1 hH.1
      have f2 := free_of _ _ 2 hH.1
      obtain ⟨i0, i1, i2⟩ := itT_mul f 0
      have hs := tu_S (itT f 0) 0 (by omega)
      rw [i0, i1, i2] at hs
      simp only [Nat.reduceMul, Nat.reduceAdd] at i0 i1 i2 hs
      rw [i0] at a0
      rw [i1] at a1
      rw [i2] at a2
      have ht := fun W => Tone.step_any (f 0) (f 1) (f 2 == 1) (by first | exact (hi 1 (by omega)).1) (by exact (hi 1 (by omega)).2) W
      change _ = S (itT f 1) at hs
      have HS2 := Lib.hid hs
      have HTN := Lib.hid ht
      clear hs ht i0 i1 i2
      go_wp2_with (go_at_call 28; (with_reducible refine (HTN.out _).mono ?_); rintro e wq ⟨rfl, o1, o2, rfl⟩)
      go_roundw
      case rel => exact ⟨1, by omega, rfl, ⟨_, rfl, fun h => by omega⟩, by
        have q := ((((hH.set 0 (.int .i64 (f 0))).set 1 (.int .i64 (stC (f 0) (f 1)))).set 2 (.bool (stO (f 0) (f 1) (f 2 == 1)))).alloc o1).alloc o2
        rw [HS2.out] at q
        exact q⟩
      case measure => simp [intOf] <;> omega
    · have a0 := (cell_of _ _ 3 hH.1).trans (sP (itT f 1) 1 (by omega))
      have a1 := (cell_of _ _ 4 hH.1).trans (sC (itT f 1) 1 (by omega))
      have a2 := (cell_of _ _ 5 hH.1).trans (sO (itT f 1) 1 (by omega))
      have f0 := free_of _ _ 3 hH.1
      have f1 := free_of _ _ 4 hH.1
      have f2 := free_of _ _ 5 hH.1
      obtain ⟨i0, i1, i2⟩ := itT_mul f 1
      have hs := tu_S (itT f 1) 1 (by omega)
      rw [i0, i1, i2] at hs
      simp only [Nat.reduceMul, Nat.reduceAdd] at i0 i1 i2 hs
      rw [i0] at a0
      rw [i1] at a1
      rw [i2] at a2
      have ht := fun W => Tone.step_any (f 3) (f 4) (f 5 == 1) (by first | exact (hi 4 (by omega)).1) (by exact (hi 4 (by omega)).2) W
      change _ = S (itT f 2) at hs
      have HS2 := Lib.hid hs
      have HTN := Lib.hid ht
      clear hs ht i0 i1 i2
      go_wp2_with (go_at_call 28; (with_reducible refine (HTN.out _).mono ?_); rintro e wq ⟨rfl, o1, o2, rfl⟩)
      go_roundw
      case rel => exact ⟨2, by omega, rfl, ⟨_, rfl, fun h => by omega⟩, by
        have q := ((((hH.set 3 (.int .i64 (f 3))).set 4 (.int .i64 (stC (f 3) (f 4)))).set 5 (.bool (stO (f 3) (f 4) (f 5 == 1)))).alloc o1).alloc o2
        rw [HS2.out] at q
        exact q⟩
      case measure => simp [intOf] <;> omega
    · have a0 := (cell_of _ _ 6 hH.1).trans (sP (itT f 2) 2 (by omega))
      have a1 := (cell_of _ _ 7 hH.1).trans (sC (itT f 2) 2 (by omega))
      have a2 := (cell_of _ _ 8 hH.1).trans (sO (itT f 2) 2 (by omega))
      have f0 := free_of _ _ 6 hH.1
      have f1 := free_of _ _ 7 hH.1
      have f2 := free_of _ _ 8 hH.1
      obtain ⟨i0, i1, i2⟩ := itT_mul f 2
      have hs := tu_S (itT f 2) 2 (by omega)
      rw [i0, i1, i2] at hs
      simp only [Nat.reduceMul, Nat.reduceAdd] at i0 i1 i2 hs
      rw [i0] at a0
      rw [i1] at a1
      rw [i2] at a2
      have ht := fun W => Tone.step_any (f 6) (f 7) (f 8 == 1) (by first | exact (hi 7 (by omega)).1) (by exact (hi 7 (by omega)).2) W
      change _ = S (itT f 3) at hs
      have HS2 := Lib.hid hs
      have HTN := Lib.hid ht
      clear hs ht i0 i1 i2
      go_wp2_with (go_at_call 28; (with_reducible refine (HTN.out _).mono ?_); rintro e wq ⟨rfl, o1, o2, rfl⟩)
      go_roundw
      case rel => exact ⟨3, by omega, rfl, ⟨_, rfl, fun h => rfl⟩, by
        have q := ((((hH.set 6 (.int .i64 (f 6))).set 7 (.int .i64 (stC (f 6) (f 7)))).set 8 (.bool (stO (f 6) (f 7) (f 8 == 1)))).alloc o1).alloc o2
        rw [HS2.out] at q
        exact q⟩
      case measure => simp [intOf] <;> omega
    · have hbb := hb rfl
      subst hbb
      obtain ⟨c, hc⟩ := Int.eq_ofNat_of_zero_le n0.1
      obtain ⟨x, hx⟩ := Int.eq_ofNat_of_zero_le h12.1
      have g9 := S_get (itT f 3) 9 (by omega)
      have g10 := S_get (itT f 3) 10 (by omega)
      have g11 := S_get (itT f 3) 11 (by omega)
      have g12 := S_get (itT f 3) 12 (by omega)
      change (S (itT f 3))[9]? = some (.int .u8 (itT f 3 9)) at g9
      change (S (itT f 3))[10]? = some (.int .i64 (itT f 3 10)) at g10
      change (S (itT f 3))[11]? = some (.bool (itT f 3 11 == 1)) at g11
      change (S (itT f 3))[12]? = some (.int .u16 (itT f 3 12)) at g12
      have hs := nu_S (itT f 3) (stT (f 6) (f 7))
      rw [itT_at f 3 9 (by omega), itT_at f 3 10 (by omega), itT_at f 3 11 (by omega), itT_at f 3 12 (by omega)] at hs
      rw [itT_at f 3 9 (by omega)] at g9
      rw [itT_at f 3 10 (by omega), hc] at g10
      rw [itT_at f 3 11 (by omega)] at g11
      rw [itT_at f 3 12 (by omega), hx] at g12
      rw [hc, hx] at hs
      simp only [Int.toNat_natCast] at hs
      change _ = S (stF f) at hs
      have hn := fun W => Noise.step_any (f 9) c x (f 11 == 1) (stT (f 6) (f 7)) h9.1 n9 (by omega) (by omega) W
      have b9 := (cell_of _ _ 9 hH.1).trans g9
      have b10 := (cell_of _ _ 10 hH.1).trans g10
      have b11 := (cell_of _ _ 11 hH.1).trans g11
      have b12 := (cell_of _ _ 12 hH.1).trans g12
      have kA := blkAt_heap hH.1
      have nA : BlkN (S (itT f 3)) 18 := S_size _
      have nG : BlkN (S (stF f)) 18 := S_size _
      have oG : BlkOne (S (stF f)) := S_one _
      generalize S (itT f 3) = A at *
      generalize hGG : S (stF f) = GG at *
      have HGG := Lib.hid hGG
      clear hGG
      generalize stT (f 6) (f 7) = tt at *
      generalize (f 9).toNat = m at *
      generalize (nC (m % 4) c) = vc at *
      generalize (nH (m % 4) c tt (f 11 == 1)) = vh at *
      generalize (nS m c x tt (f 11 == 1)) = vs at *
      have HN := Lib.hid hn
      have HSS := Lib.hid hs
      have HC := Lib.hid hc
      clear hn g9 g10 g11 g12 hb hs hc hx
      go_upto_region 8 with (go_at_call 29; (with_reducible refine (HN.out _).mono ?_); rintro e wq ⟨rfl, o1, o2, rfl⟩)
      have q := ((hH.put ((((A.setIfInBounds 9 (.int .u8 (f 9))).setIfInBounds 10 (.int .i64 vc)).setIfInBounds 11 (.bool vh)).setIfInBounds 12 (.int .u16 vs))).alloc o1).alloc o2
      rw [HSS.out] at q ⊢
      generalize ((blkPut wr w.heap.size GG).alloc o1).alloc o2 = w8 at *
      have e1 := blkAt_heap q.1
      have e2 := blkAt_heap q.2.1
      have zN' := zN
      have ne1 : ¬ (w.heap.size = w.heap.size + 1) := by omega
      have q2 := q
      clear b9 b10 b11 b12 kA hH rl rl2 rl3 rl4 zn
      generalize Z18 = ZZ at *
      go_wp2_with fail
      have hR : (blkPut w8 (w.heap.size + 1) GG).heap[w.heap.size + 1]? = some (.cells GG 30) := heap_blkPut_same q2.2.1 GG
      exact bodyPost_ret (v := .agg _) (results_cell_row rfl _ _ (w.heap.size + 1) 30 _ (0, 0) _ rfl hR Try.underlying30 rfl (by rw [show GG.size = 18 from nG]; exact i18)) rfl ⟨by rw [HGG.out], below_blkPut q2.2.2 (by omega) _⟩
end Psg
end Go.Proofs.Ytjggocbihjdekaa
