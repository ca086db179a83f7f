/- A chip of three tones and a noise (layer 5): what the program's functions do, part 15. No conditions but that numbers are of their kinds. -/
import Derived.Test.YtjggocbihjdekaaPsgQ
import Derived.RegionTactic
import Derived.LoopTactic
import Derived.Deep.DeepCutAuto
import Derived.Deep.CutRange
import Derived.Laws.OwnMore
import Derived.Deep.Onto
import Derived.Deep.RegionHeld3
import Derived.Lib.Hide
namespace Go.Proofs.Ytjggocbihjdekaa
open Go.RowKit
open Kit
set_option linter.unusedSimpArgs false
set_option linter.unusedVariables false
attribute [local simp] blkAt_alloc blkNew_cells putRow_cells blkAt_drew BlkN.set BlkOne.setInt BlkOne.setBool blkPut_alloc blkPut_drew blkAt_blkPut_other size_blkPut nq2 nq3 nq4 nq5 nq6 nq7 nq8
namespace Psg
attribute [local simp ↓] sl_in ss_in vs_in
attribute [local simp] sl_run ss_run vs_run
open ToneM NoiseM
/-- Blocks that are held whole. -/
def BL (w : World) (L : List (Nat × Array Value × TypeId)) (W : World) : Prop := (∀ p ∈ L, W.heap[p.1]? = some (.cells p.2.1 p.2.2)) ∧ Below w.heap.size w W
theorem BL.get {w : World} {L : List (Nat × Array Value × TypeId)} {W : World} (h : BL w L W) (b : Nat) (A : Array Value) (t : TypeId) (hm : (b, A, t) ∈ L) : W.heap[b]? = some (.cells A t) := h.1 _ hm
theorem BL.below {w : World} {L : List (Nat × Array Value × TypeId)} {W W' : World} (h : BL w L W) (hb : Below W.heap.size W W') : BL w L W' := ⟨fun p hp => (hb.block _ (heap_lt (h.1 p hp))).trans (h.1 p hp), h.2.trans (hb.mono h.2.size)⟩
theorem BL.drew {w : World} {L : List (Nat × Array Value × TypeId)} {W : World} (h : BL w L W) : BL w L W.drew := ⟨h.1, h.2.drew⟩
theorem BL.sub {w : World} {L L' : List (Nat × Array Value × TypeId)} {W : World} (h : BL w L W) (hs : ∀ p ∈ L', p ∈ L) : BL w L' W := ⟨fun p hp => h.1 p (hs p hp), h.2⟩
theorem BL.alloc {w : World} {L : List (Nat × Array Value × TypeId)} {W : World} (h : BL w L W) (A : Array Value) (t : TypeId) : BL w ((W.heap.size, A, t) :: L) (W.alloc (.cells A t)) := by
  refine ⟨fun p hp => ?_, h.2.alloc h.2.size _⟩
  rcases List.mem_cons.1 hp with rfl | hp
  · exact heap_at _ _ _ rfl
  · exact (heap_past _ _ _ (heap_lt (h.1 p hp))).trans (h.1 p hp)
theorem BL.set {w : World} {L : List (Nat × Array Value × TypeId)} {W : World} (h : BL w L W) (b k : Nat) (v : Value) (A : Array Value) (t : TypeId) (hm : (b, A, t) ∈ L) (hb : w.heap.size ≤ b) (A' : Array Value) (hA : A.setIfInBounds k v = A') (L' : List (Nat × Array Value × TypeId)) (hL : ∀ p ∈ L', p = (b, A', t) ∨ (p ∈ L ∧ p.1 ≠ b)) : BL w L' (W.setCell ⟨b, k, none⟩ v) := by
  refine ⟨fun p hp => ?_, h.2.setCell (by simpa using hb) _⟩
  rcases hL p hp with rfl | ⟨hp, hn⟩
  · rw [← hA]; exact heap_set_same _ _ _ _ (h.1 _ hm)
  · exact (heap_set_other _ _ _ _ _ hn).trans (h.1 p hp)
theorem BL.put {w : World} {L : List (Nat × Array Value × TypeId)} {W : World} (h : BL w L W) (b : Nat) (A A' : Array Value) (t : TypeId) (hm : (b, A, t) ∈ L) (hb : w.heap.size ≤ b) (L' : List (Nat × Array Value × TypeId)) (hL : ∀ p ∈ L', p = (b, A', t) ∨ (p ∈ L ∧ p.1 ≠ b)) : BL w L' (blkPut W b A') := by
  refine ⟨fun p hp => ?_, below_blkPut h.2 hb _⟩
  rcases hL p hp with rfl | ⟨hp, hn⟩
  · exact heap_blkPut_same (h.1 _ hm) _
  · exact (heap_blkPut_other _ _ _ _ hn).trans (h.1 p hp)
theorem BL.h0 {w : World} {b : Nat} {A : Array Value} {t : TypeId} {L : List (Nat × Array Value × TypeId)} {W : World} (h : BL w ((b, A, t) :: L) W) : W.heap[b]? = some (.cells A t) := h.1 (b, A, t) (by simp)
theorem BL.h1 {w : World} {p0 : Nat × Array Value × TypeId} {b : Nat} {A : Array Value} {t : TypeId} {L : List (Nat × Array Value × TypeId)} {W : World} (h : BL w (p0 :: (b, A, t) :: L) W) : W.heap[b]? = some (.cells A t) := h.1 (b, A, t) (by simp)
theorem BL.h2 {w : World} {p0 p1 : Nat × Array Value × TypeId} {b : Nat} {A : Array Value} {t : TypeId} {L : List (Nat × Array Value × TypeId)} {W : World} (h : BL w (p0 :: p1 :: (b, A, t) :: L) W) : W.heap[b]? = some (.cells A t) := h.1 (b, A, t) (by simp)
theorem BL.h3 {w : World} {p0 p1 p2 : Nat × Array Value × TypeId} {b : Nat} {A : Array Value} {t : TypeId} {L : List (Nat × Array Value × TypeId)} {W : World} (h : BL w (p0 :: p1 :: p2 :: (b, A, t) :: L) W) : W.heap[b]? = some (.cells A t) := h.1 (b, A, t) (by simp)
theorem BL.h4 {w : World} {p0 p1 p2 p3 : Nat × Array Value × TypeId} {b : Nat} {A : Array Value} {t : TypeId} {L : List (Nat × Array Value × TypeId)} {W : World} (h : BL w (p0 :: p1 :: p2 :: p3 :: (b, A, t) :: L) W) : W.heap[b]? = some (.cells A t) := h.1 (b, A, t) (by simp)
theorem BL.h5 {w : World} {p0 p1 p2 p3 p4 : Nat × Array Value × TypeId} {b : Nat} {A : Array Value} {t : TypeId} {L : List (Nat × Array Value × TypeId)} {W : World} (h : BL w (p0 :: p1 :: p2 :: p3 :: p4 :: (b, A, t) :: L) W) : W.heap[b]? = some (.cells A t) := h.1 (b, A, t) (by simp)
/-- A slice that reads as a list of numbers. -/
def RowI (w : World) (v : Value) (zs : List Int) : Prop := ∃ p cap, v = .slice p zs.length cap ∧ zs.length ≤ cap ∧ cap ≤ maxLen ∧ (0 < zs.length → ∃ b, p = some ⟨b, 0, none⟩ ∧ b < w.heap.size ∧ ∀ i, i < zs.length → w.cell? ⟨b, i, none⟩ = some (.int .i64 (zs.getD i 0)))
theorem RowI.of {w : World} {base : Nat} {v : Value} {zs : List Int} (h : w.ownsRow base 3 1 v zs.length (zs.map (Value.int .i64))) : RowI w v zs := by
  have h' := h
  rcases h with ⟨h1, ⟨hv, h0⟩ | ⟨g, cap, cur, hv, hg, hh, hn, hc, r⟩⟩
  · exact ⟨none, 0, by rw [hv, h0], by omega, by decide, fun h => by omega⟩
  · refine ⟨_, cap, hv, hn, hc, fun _ => ⟨g, rfl, heap_lt hh, fun i hi => ?_⟩⟩
    rw [hv] at h'
    rw [h'.cellAt i (by omega)]
    simp [List.getD, hi]
theorem RowI.below {w w' : World} {v : Value} {zs : List Int} (h : RowI w v zs) (hb : Below w.heap.size w w') : RowI w' v zs := by
  obtain ⟨p, cap, rfl, h1, h2, h3⟩ := h
  refine ⟨p, cap, rfl, h1, h2, fun h0 => ?_⟩
  obtain ⟨b, rfl, hl, hc⟩ := h3 h0
  exact ⟨b, rfl, Nat.lt_of_lt_of_le hl hb.size, fun i hi => by rw [hb.cell (p := ⟨b, i, none⟩) hl]; exact hc i hi⟩
set_option maxRecDepth 100000 in
set_option maxHeartbeats 4000000 in
theorem same_any (v1 v2 : Value) (zs : List Int) (w : World) (h1 : RowI w v1 zs) (h2 : RowI w v2 zs) : Calls Try.prog 21 #[v1, v2] w fun e w' => e = .returned (.bool true) ∧ Below w.heap.size w w' := by
  obtain ⟨p1, c1, rfl, l1, m1, q1⟩ := h1
  obtain ⟨p2, c2, rfl, l2, m2, q2⟩ := h2
  unfold maxLen at m1 m2
  have Q1 := Lib.hid q1
  have Q2 := Lib.hid q2
  clear q1 q2
  go_enter Try.func21, Try.ntmps21
  go_wp2_with fail
  go_loopw [13] (fun i wr => ∃ k : Nat, k ≤ zs.length ∧ i = .int .i64 k ∧ Below w.heap.size w wr) (fun i _ => (zs.length - intOf i).toNat)
  case atStart => exact ⟨0, by omega, rfl, Below.refl _ _⟩
  case round =>
    obtain ⟨k, hk, rfl, hB⟩ := hrel
    by_cases hlt : k < zs.length
    case pos =>
      obtain ⟨b1, rfl, r1, x1⟩ := Q1.out (by omega)
      obtain ⟨b2, rfl, r2, x2⟩ := Q2.out (by omega)
      have y1 := (hB.cell (p := ⟨b1, k, none⟩) r1).trans (x1 k hlt)
      have y2 := (hB.cell (p := ⟨b2, k, none⟩) r2).trans (x2 k hlt)
      generalize zs.getD k 0 = z at *
      have n0 : (0 : Int) ≤ (k : Int) := by omega
      have n1 : (k : Int) < (zs.length : Int) := by omega
      clear x1 x2 Q1 Q2
      go_wp2_with fail
      go_region
      all_goals
        go_wp2_with fail
        go_roundw
        case rel => exact ⟨k + 1, by omega, by go_num, by first | exact hB | exact hB.drew⟩
        case measure => simp [intOf] <;> omega
    case neg =>
      have hk4 : k = zs.length := by omega
      subst hk4
      go_wp2_with fail
      go_ret
      exact ⟨ret_bool (by simp), hB⟩
end Psg
end Go.Proofs.Ytjggocbihjdekaa
