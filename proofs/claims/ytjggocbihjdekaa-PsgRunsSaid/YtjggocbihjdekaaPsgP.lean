/- A chip of three tones and a noise (layer 5): what the program's functions do, part 16. No conditions but that numbers are of their kinds. -/
import Derived.Test.YtjggocbihjdekaaPsgT
import Derived.Test.YtjggocbihjdekaaPsgV
import Derived.RegionTactic
import Derived.LoopTactic
import Derived.Deep.DeepCutAuto
import Derived.Deep.CutRange
import Derived.Laws.OwnMore
import Derived.Deep.Onto
import Derived.Laws.AppendOwnNone
import Derived.Deep.RegionHeld3
import Derived.Lib.Hide
namespace Go.Proofs.Ytjggocbihjdekaa
open Go.RowKit
open Kit
set_option linter.unusedSimpArgs false
set_option linter.unusedVariables false
attribute [local simp] blkAt_alloc blkNew_cells putRow_cells blkAt_drew BlkN.set BlkOne.setInt BlkOne.setBool blkPut_alloc blkPut_drew blkAt_blkPut_other size_blkPut nq2 nq3 nq4 nq5 nq6 nq7 nq8
namespace Psg
attribute [local simp ↓] sl_in ss_in vs_in
attribute [local simp] sl_run ss_run vs_run
open ToneM NoiseM
theorem BL.start2 (w : World) (A B : Array Value) (t1 t2 : TypeId) : BL w [(w.heap.size, A, t1), (w.heap.size + 1, B, t2)] ((w.alloc (.cells A t1)).alloc (.cells B t2)) := by
  have e0 : BL w [] w := ⟨fun p hp => (by cases hp), Below.refl _ _⟩
  have e := (e0.alloc A t1).alloc B t2
  refine e.sub fun p hp => ?_
  simp only [List.mem_cons, List.not_mem_nil, or_false] at hp
  rcases hp with rfl | rfl
  · simp
  · simp
/-- Blocks, and a row of numbers. -/
def BR (w : World) (L : List (Nat × Array Value × TypeId)) (v : Value) (zs : List Int) (W : World) : Prop := BL w L W ∧ W.ownsRow (w.heap.size + 1 + 1) 3 1 v zs.length (zs.map (Value.int .i64))
theorem BR.below {w : World} {L : List (Nat × Array Value × TypeId)} {v : Value} {zs : List Int} {W W' : World} (h : BR w L v zs W) (hb : Below W.heap.size W W') : BR w L v zs W' := ⟨h.1.below hb, row_below h.2 hb⟩
theorem BR.drew {w : World} {L : List (Nat × Array Value × TypeId)} {v : Value} {zs : List Int} {W : World} (h : BR w L v zs W) : BR w L v zs W.drew := ⟨h.1.drew, h.2⟩
theorem BR.alloc {w : World} {L : List (Nat × Array Value × TypeId)} {v : Value} {zs : List Int} {W : World} (h : BR w L v zs W) (o : Obj) : BR w L v zs (W.alloc o) := h.below ((Below.refl _ _).alloc (Nat.le_refl _) _)
theorem row_put2 {w : World} {base n b : Nat} {e : TypeId} {v : Value} {xs : List Value} (h : w.ownsRow base e 1 v n xs) (hb : ∀ k, v.ownBlock = some k → k ≠ b) (A : Array Value) : (blkPut w b A).ownsRow base e 1 v n xs := by
  rcases h with ⟨h1, h2 | ⟨g, cap, cur, hv, hg, hh, r⟩⟩
  · exact ⟨h1, .inl h2⟩
  · exact ⟨h1, .inr ⟨g, cap, cur, hv, hg, (heap_blkPut_other _ _ _ _ (hb g (by rw [hv]; rfl))).trans hh, r⟩⟩
theorem BR.putX {w : World} {L : List (Nat × Array Value × TypeId)} {v : Value} {zs : List Int} {W : World} (h : BR w L v zs W) (b : Nat) (A' : Array Value) (hb : w.heap.size ≤ b) (hL : ∀ p ∈ L, p.1 ≠ b) (hv : ∀ k, v.ownBlock = some k → k ≠ b) : BR w L v zs (blkPut W b A') :=
  ⟨⟨fun p hp => (heap_blkPut_other _ _ _ _ (hL p hp)).trans (h.1.1 p hp), below_blkPut h.1.2 hb _⟩, row_put2 h.2 hv _⟩
theorem wpList_unguard {P : Program} {ops : Array Oper} {Q : Exit → Act → World → Prop} {a : Act} {w : World} {rest : List Oper} {o : Oper} (hw : Region.wanted o (yielded ops a.tmps) = true) (h : wpList P ops Q ({ o with guard := none } :: rest) a w) : wpList P ops Q (o :: rest) a w := by
  simp only [wpList] at h ⊢
  rw [if_pos hw]
  rw [if_pos (show Region.wanted { o with guard := none } (yielded ops a.tmps) = true from rfl)] at h
  cases o
  exact h
theorem forms {w : World} {base size n : Nat} {e : TypeId} {v : Value} {xs : List Value} (h : w.ownsRow base e size v n xs) : (v = .slice none 0 0 ∧ n = 0) ∨ ∃ g cap, v = .slice (some ⟨g, 0, none⟩) n cap := by
  rcases h with ⟨h1, h2 | ⟨g, cap, cur, hv, _⟩⟩
  · exact .inl h2
  · exact .inr ⟨g, cap, hv⟩
theorem get4 {w : World} {b : Nat} {x0 x1 x2 x3 : Value} {t : TypeId} (h : w.heap[b]? = some (.cells #[x0, x1, x2, x3] t)) : w.cell? ⟨b, 0, none⟩ = some x0 ∧ w.cell? ⟨b, 1, none⟩ = some x1 ∧ w.cell? ⟨b, 2, none⟩ = some x2 ∧ w.cell? ⟨b, 3, none⟩ = some x3 :=
  ⟨(cell_of _ _ 0 h).trans rfl, (cell_of _ _ 1 h).trans rfl, (cell_of _ _ 2 h).trans rfl, (cell_of _ _ 3 h).trans rfl⟩
theorem BR.all {w : World} {ab b2 : Nat} {A1 A : Array Value} {x0 x1 x2 x3 : Value} {t1 t2 t3 : TypeId} {v : Value} {zs : List Int} {W : World} {bb : Nat} (h : BR w [(ab, A1, t1), (b2, A, t2), (bb, #[x0, x1, x2, x3], t3)] v zs W) : blkAt W ab = A1 ∧ W.cell? ⟨bb, 0, none⟩ = some x0 ∧ W.cell? ⟨bb, 1, none⟩ = some x1 ∧ W.cell? ⟨bb, 2, none⟩ = some x2 ∧ W.cell? ⟨bb, 3, none⟩ = some x3 ∧ BR w [(ab, A1, t1), (b2, A, t2), (bb, #[x0, x1, x2, x3], t3)] v zs W :=
  ⟨blkAt_heap h.1.h0, (get4 h.1.h2).1, (get4 h.1.h2).2.1, (get4 h.1.h2).2.2.1, (get4 h.1.h2).2.2.2, h⟩
theorem rx_right (f : Nat → Int) (h : SB f) (hr : rightV f = true) : RX f := by
  unfold rightV at hr
  simp only [Bool.and_eq_true, decide_eq_true_eq] at hr
  obtain ⟨_, h3, _⟩ := hr
  unfold Noise.nR at h3
  simp only [Bool.and_eq_true, decide_eq_true_eq] at h3
  exact ⟨h, ⟨by omega, by omega⟩, by omega⟩
theorem blkAt_below {X W : World} (h : Below X.heap.size X W) (b : Nat) (hb : b < X.heap.size) : blkAt W b = blkAt X b := by unfold blkAt; rw [h.block b hb]
set_option maxRecDepth 100000 in
set_option maxHeartbeats 4000000 in
theorem splits_all (f : Nat → Int) (h : SB f) (n0 n1 n2 n3 : Int) (w : World) : Calls Try.prog 7 #[.agg (S f), .agg #[.int .i64 n0, .int .i64 n1, .int .i64 n2, .int .i64 n3]] w fun e w' => e = .returned (.bool true) ∧ Below w.heap.size w w' := by
  have hr := right_any f
  have sA : BlkN (S f) 18 := S_size _
  have HAL := Lib.hid (heldP (T := BL w [(w.heap.size, S f, 30), (w.heap.size + 1, #[.int .i64 n0, .int .i64 n1, .int .i64 n2, .int .i64 n3], 43)]) (fun W W' h b => h.below b) alive_any)
  cases hrv : rightV f
  · rw [hrv] at hr
    have HR := Lib.hid (heldP (T := BL w [(w.heap.size, S f, 30), (w.heap.size + 1, #[.int .i64 n0, .int .i64 n1, .int .i64 n2, .int .i64 n3], 43)]) (fun W W' h b => h.below b) hr)
    clear hr hrv h
    generalize S f = A at *
    go_enter Try.func7, Try.ntmps7
    go_wp2_with (first | (go_at_call 9; (with_reducible refine (HAL.out _ ?_).mono ?_); (exact BL.start2 _ _ _ _ _); rintro e w1 ⟨rfl, k1⟩; (have kb1 := blkAt_heap k1.h0); (obtain ⟨ck10, ck11, ck12, ck13⟩ := get4 k1.h1)) | (go_at_call 11; (with_reducible refine (HR.out _ ?_).mono ?_); (exact k1); rintro e w2 ⟨rfl, k2⟩; (have kb2 := blkAt_heap k2.h0); (obtain ⟨ck20, ck21, ck22, ck23⟩ := get4 k2.h1); (clear ck10 ck11 ck12 ck13 kb1)))
    go_ret
    exact ⟨ret_bool (by simp), k2.2⟩
  have hx := rx_right f h hrv
  rw [hrv] at hr
  have HR := Lib.hid (heldP (T := BL w [(w.heap.size, S f, 30), (w.heap.size + 1, #[.int .i64 n0, .int .i64 n1, .int .i64 n2, .int .i64 n3], 43)]) (fun W W' h b => h.below b) hr)
  clear hr hrv h
  by_cases g0 : n0 < 0
  · generalize S f = A at *
    go_enter Try.func7, Try.ntmps7
    go_wp2_with (first | (go_at_call 9; (with_reducible refine (HAL.out _ ?_).mono ?_); (exact BL.start2 _ _ _ _ _); rintro e w1 ⟨rfl, k1⟩; (have kb1 := blkAt_heap k1.h0); (obtain ⟨ck10, ck11, ck12, ck13⟩ := get4 k1.h1)) | (go_at_call 11; (with_reducible refine (HR.out _ ?_).mono ?_); (exact k1); rintro e w2 ⟨rfl, k2⟩; (have kb2 := blkAt_heap k2.h0); (obtain ⟨ck20, ck21, ck22, ck23⟩ := get4 k2.h1); (clear ck10 ck11 ck12 ck13 kb1)))
    go_ret
    exact ⟨ret_bool (by simp), k2.2⟩
  by_cases g1 : n1 < 0
  · generalize S f = A at *
    go_enter Try.func7, Try.ntmps7
    go_wp2_with (first | (go_at_call 9; (with_reducible refine (HAL.out _ ?_).mono ?_); (exact BL.start2 _ _ _ _ _); rintro e w1 ⟨rfl, k1⟩; (have kb1 := blkAt_heap k1.h0); (obtain ⟨ck10, ck11, ck12, ck13⟩ := get4 k1.h1)) | (go_at_call 11; (with_reducible refine (HR.out _ ?_).mono ?_); (exact k1); rintro e w2 ⟨rfl, k2⟩; (have kb2 := blkAt_heap k2.h0); (obtain ⟨ck20, ck21, ck22, ck23⟩ := get4 k2.h1); (clear ck10 ck11 ck12 ck13 kb1)))
    go_ret
    exact ⟨ret_bool (by simp), k2.2⟩
  by_cases g2 : 2000 < n0
  · generalize S f = A at *
    go_enter Try.func7, Try.ntmps7
    go_wp2_with (first | (go_at_call 9; (with_reducible refine (HAL.out _ ?_).mono ?_); (exact BL.start2 _ _ _ _ _); rintro e w1 ⟨rfl, k1⟩; (have kb1 := blkAt_heap k1.h0); (obtain ⟨ck10, ck11, ck12, ck13⟩ := get4 k1.h1)) | (go_at_call 11; (with_reducible refine (HR.out _ ?_).mono ?_); (exact k1); rintro e w2 ⟨rfl, k2⟩; (have kb2 := blkAt_heap k2.h0); (obtain ⟨ck20, ck21, ck22, ck23⟩ := get4 k2.h1); (clear ck10 ck11 ck12 ck13 kb1)))
    go_ret
    exact ⟨ret_bool (by simp), k2.2⟩
  by_cases g3 : 2000 < n1
  · generalize S f = A at *
    go_enter Try.func7, Try.ntmps7
    go_wp2_with (first | (go_at_call 9; (with_reducible refine (HAL.out _ ?_).mono ?_); (exact BL.start2 _ _ _ _ _); rintro e w1 ⟨rfl, k1⟩; (have kb1 := blkAt_heap k1.h0); (obtain ⟨ck10, ck11, ck12, ck13⟩ := get4 k1.h1)) | (go_at_call 11; (with_reducible refine (HR.out _ ?_).mono ?_); (exact k1); rintro e w2 ⟨rfl, k2⟩; (have kb2 := blkAt_heap k2.h0); (obtain ⟨ck20, ck21, ck22, ck23⟩ := get4 k2.h1); (clear ck10 ck11 ck12 ck13 kb1)))
    go_ret
    exact ⟨ret_bool (by simp), k2.2⟩
  by_cases g4 : n2 < 1
  · generalize S f = A at *
    go_enter Try.func7, Try.ntmps7
    go_wp2_with (first | (go_at_call 9; (with_reducible refine (HAL.out _ ?_).mono ?_); (exact BL.start2 _ _ _ _ _); rintro e w1 ⟨rfl, k1⟩; (have kb1 := blkAt_heap k1.h0); (obtain ⟨ck10, ck11, ck12, ck13⟩ := get4 k1.h1)) | (go_at_call 11; (with_reducible refine (HR.out _ ?_).mono ?_); (exact k1); rintro e w2 ⟨rfl, k2⟩; (have kb2 := blkAt_heap k2.h0); (obtain ⟨ck20, ck21, ck22, ck23⟩ := get4 k2.h1); (clear ck10 ck11 ck12 ck13 kb1)))
    go_ret
    exact ⟨ret_bool (by simp), k2.2⟩
  by_cases g5 : 100 < n2
  · generalize S f = A at *
    go_enter Try.func7, Try.ntmps7
    go_wp2_with (first | (go_at_call 9; (with_reducible refine (HAL.out _ ?_).mono ?_); (exact BL.start2 _ _ _ _ _); rintro e w1 ⟨rfl, k1⟩; (have kb1 := blkAt_heap k1.h0); (obtain ⟨ck10, ck11, ck12, ck13⟩ := get4 k1.h1)) | (go_at_call 11; (with_reducible refine (HR.out _ ?_).mono ?_); (exact k1); rintro e w2 ⟨rfl, k2⟩; (have kb2 := blkAt_heap k2.h0); (obtain ⟨ck20, ck21, ck22, ck23⟩ := get4 k2.h1); (clear ck10 ck11 ck12 ck13 kb1)))
    go_ret
    exact ⟨ret_bool (by simp), k2.2⟩
  by_cases g6 : n3 < 0
  · generalize S f = A at *
    go_enter Try.func7, Try.ntmps7
    go_wp2_with (first | (go_at_call 9; (with_reducible refine (HAL.out _ ?_).mono ?_); (exact BL.start2 _ _ _ _ _); rintro e w1 ⟨rfl, k1⟩; (have kb1 := blkAt_heap k1.h0); (obtain ⟨ck10, ck11, ck12, ck13⟩ := get4 k1.h1)) | (go_at_call 11; (with_reducible refine (HR.out _ ?_).mono ?_); (exact k1); rintro e w2 ⟨rfl, k2⟩; (have kb2 := blkAt_heap k2.h0); (obtain ⟨ck20, ck21, ck22, ck23⟩ := get4 k2.h1); (clear ck10 ck11 ck12 ck13 kb1)))
    go_ret
    exact ⟨ret_bool (by simp), k2.2⟩
  by_cases g7 : 100 < n3
  · generalize S f = A at *
    go_enter Try.func7, Try.ntmps7
    go_wp2_with (first | (go_at_call 9; (with_reducible refine (HAL.out _ ?_).mono ?_); (exact BL.start2 _ _ _ _ _); rintro e w1 ⟨rfl, k1⟩; (have kb1 := blkAt_heap k1.h0); (obtain ⟨ck10, ck11, ck12, ck13⟩ := get4 k1.h1)) | (go_at_call 11; (with_reducible refine (HR.out _ ?_).mono ?_); (exact k1); rintro e w2 ⟨rfl, k2⟩; (have kb2 := blkAt_heap k2.h0); (obtain ⟨ck20, ck21, ck22, ck23⟩ := get4 k2.h1); (clear ck10 ck11 ck12 ck13 kb1)))
    go_ret
    exact ⟨ret_bool (by simp), k2.2⟩
  obtain ⟨a, rfl⟩ := Int.eq_ofNat_of_zero_le (show 0 ≤ n0 by omega)
  obtain ⟨b, rfl⟩ := Int.eq_ofNat_of_zero_le (show 0 ≤ n1 by omega)
  have ha : a ≤ 2000 := by omega
  have hb : b ≤ 2000 := by omega
  have hrun1 := run_any f hx a (by omega) n2 n3 (by omega) (by omega) (by omega) (by omega)
  have hx1 := rx_it hx a
  have r0 : 0 ≤ (n3 + (a : Int)) % n2 := Int.emod_nonneg _ (by omega)
  have r1 : (n3 + (a : Int)) % n2 < n2 := Int.emod_lt_of_pos _ (by omega)
  have hrun2 := run_any (itS f a) hx1 b (by omega) n2 ((n3 + (a : Int)) % n2) (by omega) (by omega) r0 (by omega)
  have hrun3 := run_any f hx (a + b) (by omega) n2 n3 (by omega) (by omega) (by omega) (by omega)
  have hsmp := smp_add f n2 n3 a b (by omega) (by omega)
  have heq := eqS (itS f (a + b)) (rx_it hx (a + b)).1
  rw [itS_add] at hrun2
  rw [Int.natCast_add] at hrun3
  have s1 : BlkN (S (itS f a)) 18 := S_size _
  have q1 : BlkOne (S (itS f a)) := S_one _
  have s2 : BlkN (S (itS f (a + b))) 18 := S_size _
  have q2 : BlkOne (S (itS f (a + b))) := S_one _
  have ln1 := smp_len f n2 n3 a
  have ln2 := smp_len (itS f a) n2 ((n3 + (a : Int)) % n2) b
  generalize smp f n2 n3 a = L1 at *
  generalize smp (itS f a) n2 ((n3 + (a : Int)) % n2) b = L2 at *
  generalize smp f n2 n3 (a + b) = L3 at *
  generalize S (itS f a) = A1 at *
  generalize S (itS f (a + b)) = A2 at *
  generalize S f = A at *
  have RUN1 := Lib.hid hrun1
  have RUN2 := Lib.hid hrun2
  have RUN3 := Lib.hid hrun3
  have HSMP := Lib.hid hsmp
  have HEQ := Lib.hid heq
  have zn := zN
  unfold Z18 at zn
  clear hrun1 hrun2 hrun3 hsmp heq hx hx1
  go_enter Try.func7, Try.ntmps7
  go_upto_region 6 with (first | (go_at_call 9; (with_reducible refine (HAL.out _ ?_).mono ?_); (exact BL.start2 _ _ _ _ _); rintro e w1 ⟨rfl, k1⟩; (have kb1 := blkAt_heap k1.h0); (obtain ⟨ck10, ck11, ck12, ck13⟩ := get4 k1.h1)) | (go_at_call 11; (with_reducible refine (HR.out _ ?_).mono ?_); (exact k1); rintro e w2 ⟨rfl, k2⟩; (have kb2 := blkAt_heap k2.h0); (obtain ⟨ck20, ck21, ck22, ck23⟩ := get4 k2.h1); (clear ck10 ck11 ck12 ck13 kb1)) | (go_at_call 20; (with_reducible refine (RUN1.out _).mono ?_); rintro en w3 ⟨v1, rfl, o1, b3⟩; (have sz2 := heap_lt k2.h1); (have k3 := k2.below b3)))
  have o1' := o1.mono (base' := w.heap.size + 1 + 1) (by omega)
  have k4 := k3.alloc A1 30
  have o4 := o1'.alloc (.cells A1 30)
  have lt4 := fun k hk => (o1'.lt k hk).2
  have szw : w3.heap.size < (w3.alloc (.cells A1 30)).heap.size := by simp
  have hne : ∀ k, v1.ownBlock = some k → k ≠ w3.heap.size := fun k hk => by have := lt4 k hk; omega
  generalize w3.alloc (.cells A1 30) = w4 at *
  generalize w3.heap.size = ab at *
  have zN2 := zN
  have kr : BR w [(ab, A1, 30), (w.heap.size, A, 30), (w.heap.size + 1, #[.int .i64 (a : Int), .int .i64 (b : Int), .int .i64 n2, .int .i64 n3], 43)] v1 L1 w4 := ⟨k4, o4⟩
  clear k1 k2 k3 o1 o1' b3 kb2 ck20 ck21 ck22 ck23 HAL HR RUN1 lt4
  have HL4 : Hid (∀ p ∈ [(ab, A1, 30), (w.heap.size, A, 30), (w.heap.size + 1, #[.int .i64 (a : Int), .int .i64 (b : Int), .int .i64 n2, .int .i64 n3], 43)], p.1 ≠ w4.heap.size) := Lib.hid (by
    have x1 := heap_lt k4.h0
    have x2 := heap_lt k4.h1
    have x3 := heap_lt k4.h2
    intro p hp
    simp only [List.mem_cons, List.not_mem_nil, or_false] at hp
    rcases hp with rfl | rfl | rfl
    · show ab ≠ w4.heap.size; omega
    · show w.heap.size ≠ w4.heap.size; omega
    · show w.heap.size + 1 ≠ w4.heap.size; omega)
  have HV4 : Hid (∀ k, v1.ownBlock = some k → k ≠ w4.heap.size) := Lib.hid (fun k hk => by have := (kr.2.lt k hk).2; omega)
  have HLE : w.heap.size ≤ w4.heap.size := k4.2.size
  have wr6 : IntKind.i64.wrap (n3 + (a : Int)) = n3 + (a : Int) := by rw [IntKind.wrap_i64]; omega
  have p6 : 0 ≤ n3 + (a : Int) := by omega
  have t6 : Int.tmod (n3 + (a : Int)) n2 = (n3 + (a : Int)) % n2 := Int.tmod_eq_emod_of_nonneg p6
  have ez : (n2 == 0) = false := beq_eq_false_iff_ne.2 (by omega)
  have ez2 : ¬ (n2 = 0) := by omega
  obtain ⟨kA1, d0, d1, d2, d3, _⟩ := BR.all kr
  have sz4 := heap_lt k4.h0
  have hw4 : w.heap.size + 1 + 1 ≤ w4.heap.size := by have := heap_lt k4.h2; omega
  go_cut [7, 8] from 67 to 83 (fun p q wx => ∃ (cb : Nat) (v2 : Value), p = .pointer (some ⟨cb, 0, none⟩) ∧ q = v2 ∧ w.heap.size + 1 + 1 ≤ cb ∧ wx.heap[cb]? = some (.cells A2 30) ∧ BR w [(ab, A1, 30), (w.heap.size, A, 30), (w.heap.size + 1, #[.int .i64 (a : Int), .int .i64 (b : Int), .int .i64 n2, .int .i64 n3], 43)] v1 L1 wx ∧ wx.ownsRow (w.heap.size + 1 + 1) 3 1 v2 L2.length (L2.map (Value.int .i64)))
  case first =>
    go_region_held3 (fun W => blkAt W ab = A1 ∧ W.cell? ⟨w.heap.size + 1, 0, none⟩ = some (.int .i64 a) ∧ W.cell? ⟨w.heap.size + 1, 1, none⟩ = some (.int .i64 b) ∧ W.cell? ⟨w.heap.size + 1, 2, none⟩ = some (.int .i64 n2) ∧ W.cell? ⟨w.heap.size + 1, 3, none⟩ = some (.int .i64 n3) ∧ BR w [(ab, A1, 30), (w.heap.size, A, 30), (w.heap.size + 1, #[.int .i64 (a : Int), .int .i64 (b : Int), .int .i64 n2, .int .i64 n3], 43)] v1 L1 W) (first | assumption | exact BR.all (by repeat (first | assumption | refine BR.drew ?_ | refine BR.alloc ?_ _ | refine BR.putX ?_ _ _ HLE HL4.out HV4.out))) ((go_at_call 20; (with_reducible refine (RUN2.out _).mono ?_); rintro en w5 ⟨v2, rfl, o2, b5⟩; (have sz5 : w4.heap.size ≤ w5.heap.size := (by have := b5.size; first | omega | (simp at this; omega))); (have k5 : BR w [(ab, A1, 30), (w.heap.size, A, 30), (w.heap.size + 1, #[.int .i64 (a : Int), .int .i64 (b : Int), .int .i64 n2, .int .i64 n3], 43)] v1 L1 w5 := BR.below (by repeat (first | assumption | refine BR.drew ?_ | refine BR.alloc ?_ _)) b5); (have r5 : w5.ownsRow (w.heap.size + 1 + 1) 3 1 v2 L2.length (L2.map (Value.int .i64)) := o2.mono (by first | omega | (simp; omega))); (try (have z5 : blkAt w5 w4.heap.size = Z18 := (by rw [blkAt_below b5 w4.heap.size (by first | omega | (simp; done) | (simp; omega))]; first | assumption | (simp [Z18]; done)))); (try (have y5 : ∀ k, v2.ownBlock = some k → k ≠ w4.heap.size := (by intro k hk; have := (o2.lt k hk).1; first | omega | (simp at this; omega)))); (try (have h5 : w5.heap[w4.heap.size]? = some (.cells Z18 30) := (b5.block w4.heap.size (by first | omega | (simp; done) | (simp; omega))).trans (by first | exact heap_at w4 _ _ rfl | exact heap_at w4.drew _ _ rfl)))))
    all_goals
      go_wp2_with fail
      go_meet
      first
        | exact ⟨w5.heap.size, v2, rfl, rfl, by omega, heap_at _ _ _ rfl, k5.alloc _, r5.alloc _⟩
        | exact ⟨w4.heap.size, v2, rfl, rfl, by omega, heap_blkPut_same h5 _, k5.putX _ _ HLE HL4.out HV4.out, row_put2 r5 y5 _⟩
  case rest =>
    obtain ⟨cb, v2, rfl, rfl, hcb, hc2, hbr, o2⟩ := hcut
    clear HL4 HV4 HLE RUN2 kr k4 o4 hne kA1 d0 d1 d2 d3
    obtain ⟨_, d0, d1, d2, d3, _⟩ := BR.all hbr
    have e1 := blkAt_heap hbr.1.h1
    have szc := heap_lt hc2
    have wr7 : IntKind.i64.wrap ((a : Int) + (b : Int)) = (a : Int) + (b : Int) := by rw [IntKind.wrap_i64]; omega
    have lv1 := fun k hk => (hbr.2.lt k hk).2
    have hbs := hbr.1.2.size
    go_upto_region 8 with (go_at_call 20; (with_reducible refine (RUN3.out _).mono ?_); rintro en w7 ⟨v3, rfl, o3, b7⟩)
    have k7 := (hbr.below b7).alloc (.cells A2 30)
    have r2 := (row_below o2 b7).alloc (.cells A2 30)
    have lv3 := fun k hk => (o3.lt k hk).1
    have r3 := (o3.mono (base' := w.heap.size + 1 + 1) (by omega)).alloc (.cells A2 30)
    have x2 : (w7.alloc (.cells A2 30)).heap[cb]? = some (.cells A2 30) := (heap_past _ _ _ (by have := b7.size; omega)).trans ((b7.block _ szc).trans hc2)
    have x3 : (w7.alloc (.cells A2 30)).heap[w7.heap.size]? = some (.cells A2 30) := heap_at _ _ _ rfl
    have hd : ∀ k, v3.ownBlock = some k → ∀ k', v1.ownBlock = some k' → k ≠ k' := fun k hk k' hk' => by
      have := lv3 k hk
      have := lv1 k' hk'
      omega
    have y2 := blkAt_heap x2
    have y3 := blkAt_heap x3
    generalize w7.alloc (.cells A2 30) = w8 at *
    generalize w7.heap.size = db at *
    have hbl : Below w.heap.size w w8 := k7.1.2
    have hw8 : w.heap.size + 1 + 1 ≤ w8.heap.size := by have := heap_lt k7.1.h2; omega
    obtain ⟨i0, hi, hz0, hz1, hz2⟩ := info_parts infoI
    have heq := HEQ.out
    have K7 := k7.2
    clear lv1 lv3 k7 o3 b7 o2 hbr hc2 e1 d0 d1 d2 d3 x2 x3
    rcases forms r2 with ⟨hv, hm⟩ | ⟨g, cap, hv⟩
    · subst hv
      have hL2 : L2 = [] := List.eq_nil_of_length_eq_zero hm
      have R1 : RowI w8 v1 L3 := by
        have e := HSMP.out
        rw [hL2, List.append_nil] at e
        rw [← e]; exact RowI.of K7
      have R3 : RowI w8 v3 L3 := RowI.of r3
      clear hL2
      go_wp2_with (first | (at_builtin; refine wpList_unguard (by first | rfl | (simp [Region.wanted, yielded]; done) | (go_simp; done)) ?_; refine wpList_append_own_none rfl _ _ 44 rfl (w.heap.size + 1 + 1) 3 i0 1 Try.underlying44 hi _ _ _ rfl K7 rfl ?_) | (go_at_call 21; (with_reducible refine (same_any _ _ L3 _ R1 R3).mono ?_); rintro en w10 ⟨rfl, b10⟩))
      go_ret
      exact ⟨ret_bool (by simp), hbl.trans (b10.mono hbl.size)⟩
    · subst hv
      have hcl := r2.cells (g := g) rfl
      have HCL := Lib.hid hcl
      have HHI := Lib.hid hi
      have HD := Lib.hid hd
      clear hcl hi hd
      go_wp2_with (at_builtin; refine wpList_unguard (by first | rfl | (simp [Region.wanted, yielded]; done) | (go_simp; done)) ?_; refine wpList_append_own _ rfl _ _ 44 rfl (w.heap.size + 1 + 1) 3 i0 (.int .i64 0) 1 8 Try.underlying44 HHI.out hz0 hz1 hz2 rfl (by decide) _ _ _ rfl K7 ⟨g, 0, none⟩ L2.length cap (L2.map (Value.int .i64)) rfl (by simp) HCL.out (by intro u hu; obtain ⟨z, _, rfl⟩ := List.mem_map.1 hu; rfl) (by unfold maxLen; omega) (by omega) (by omega) ?_)
      intro v' w9 hown' hgrow _
      have hb9 : Below w.heap.size w w9 := hbl.grown hgrow (by omega) (fun k hk => by have := (K7.lt k hk).1; omega)
      have R1 : RowI w9 v' L3 := by
        have e := HSMP.out
        rw [← e]
        refine RowI.of (base := w.heap.size + 1 + 1) ?_
        rw [List.length_append, List.map_append]; exact hown'
      have R3 : RowI w9 v3 L3 := RowI.of (r3.kept hgrow (by
        cases h3 : v3.ownBlock with
        | none => exact .inl rfl
        | some k => right; intro e; exact HD.out k h3 k e.symm rfl))
      go_wp2_with (go_at_call 21; (with_reducible refine (same_any _ _ L3 _ R1 R3).mono ?_); rintro en w10 ⟨rfl, b10⟩)
      go_ret
      exact ⟨ret_bool (by simp), hb9.trans (b10.mono hb9.size)⟩
end Psg
end Go.Proofs.Ytjggocbihjdekaa
