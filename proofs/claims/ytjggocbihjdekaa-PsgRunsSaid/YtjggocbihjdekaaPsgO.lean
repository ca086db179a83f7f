/- A chip of three tones and a noise (layer 5): what the program's functions do, part 23. No conditions but that numbers are of their kinds. -/
import Derived.Test.YtjggocbihjdekaaPsgM
import Derived.Test.YtjggocbihjdekaaPsgL
import Derived.Test.YtjggocbihjdekaaPsgK
import Derived.Test.YtjggocbihjdekaaPsgJ
import Derived.Test.YtjggocbihjdekaaPsgI
import Derived.Test.YtjggocbihjdekaaPsgP
import Derived.Test.YtjggocbihjdekaaKit2
import Derived.Deep.DeepCutAuto
import Derived.Deep.CutRange
import Derived.RegionTactic
import Derived.LoopTactic
import Derived.Deep.RegionHeld3
import Derived.Lib.Hide
namespace Go.Proofs.Ytjggocbihjdekaa
open Go.RowKit
open Kit
set_option linter.unusedSimpArgs false
set_option linter.unusedVariables false
attribute [local simp] blkAt_alloc blkNew_cells putRow_cells blkAt_drew BlkN.set BlkOne.setInt BlkOne.setBool blkPut_alloc blkPut_drew blkAt_blkPut_other size_blkPut nq2 nq3 nq4 nq5 nq6 nq7 nq8
namespace Psg
attribute [local simp ↓] sl_in ss_in vs_in
attribute [local simp] sl_run ss_run vs_run
open ToneM NoiseM
theorem BL.start (w : World) (A : Array Value) (t : TypeId) : BL w [(w.heap.size, A, t)] (w.alloc (.cells A t)) := by
  have e0 : BL w [] w := ⟨fun p hp => (by cases hp), Below.refl _ _⟩
  exact e0.alloc A t
theorem BL.put2 {w : World} {mb ab H : Nat} {X G G' : Array Value} {tx t t' : TypeId} {W : World} (h : BL w [(mb, X, tx), (ab, G, t), (H, G', t')] W) (G2 : Array Value) (h1 : mb ≠ H) (h2 : ab ≠ H ∧ w.heap.size ≤ H) : BL w [(mb, X, tx), (ab, G, t), (H, G2, t')] (blkPut W H G2) := by
  refine h.put H G' G2 t' (by simp) h2.2 _ ?_
  intro p hp
  simp only [List.mem_cons, List.not_mem_nil, or_false] at hp
  rcases hp with rfl | rfl | rfl
  · exact .inr ⟨by simp, h1⟩
  · exact .inr ⟨by simp, h2.1⟩
  · exact .inl rfl
theorem BL.put1 {w : World} {mb ab H : Nat} {X G G' : Array Value} {tx t t' : TypeId} {W : World} (h : BL w [(mb, X, tx), (ab, G, t), (H, G', t')] W) (G2 : Array Value) (h1 : mb ≠ ab) (h2 : H ≠ ab ∧ w.heap.size ≤ ab) : BL w [(mb, X, tx), (ab, G2, t), (H, G', t')] (blkPut W ab G2) := by
  refine h.put ab G G2 t (by simp) h2.2 _ ?_
  intro p hp
  simp only [List.mem_cons, List.not_mem_nil, or_false] at hp
  rcases hp with rfl | rfl | rfl
  · exact .inr ⟨by simp, h1⟩
  · exact .inl rfl
  · exact .inr ⟨by simp, h2.1⟩
theorem BL.two {w : World} {p0 p1 p2 : Nat × Array Value × TypeId} {W : World} (h : BL w [p0, p1, p2] W) : BL w [p1, p2] W := h.sub (fun p hp => by simp at hp ⊢; exact .inr hp)
theorem bl3 {w : World} {mb ab H : Nat} {X G G' : Array Value} {tx t t' : TypeId} {W : World} (h : BL w [(mb, X, tx), (ab, G, t), (H, G', t')] W) : blkAt W ab = G ∧ blkAt W H = G' ∧ BL w [(mb, X, tx), (ab, G, t), (H, G', t')] W := ⟨blkAt_heap h.h1, blkAt_heap h.h2, h⟩
theorem szA {w : World} {b : Nat} {A : Array Value} {t : TypeId} (h : w.heap[b]? = some (.cells A t)) : b < w.heap.size := heap_lt h
theorem get2 {w : World} {b : Nat} {x0 x1 : Value} {t : TypeId} (h : w.heap[b]? = some (.cells #[x0, x1] t)) : w.cell? ⟨b, 0, none⟩ = some x0 ∧ w.cell? ⟨b, 1, none⟩ = some x1 :=
  ⟨(cell_of _ _ 0 h).trans rfl, (cell_of _ _ 1 h).trans rfl⟩
theorem ok_rx {f : Nat → Int} (h : OK f) : RX f := rx_right f h.sb (ok_right f h)
set_option maxRecDepth 100000 in
set_option maxHeartbeats 4000000 in
theorem runs_all (f : Nat → Int) (h : SB f) (v : Value) (len : Nat) (K N : Nat → Int) (w : World) (hs : SliceOf w v 2 len (fun i j => .int .i64 (bif j == 0 then K i else N i))) : Calls Try.prog 6 #[.agg (S f), v] w fun e w' => e = .returned (.bool true) ∧ Below w.heap.size w w' := by
  have hr := right_any f
  have hrr := rright_any f h
  have sA : BlkN (S f) 18 := S_size _
  have HAL := Lib.hid (heldP (T := BL w [(w.heap.size, S f, 30)]) (fun W W' h b => h.below b) alive_any)
  have HR := Lib.hid (heldP (T := BL w [(w.heap.size, S f, 30)]) (fun W W' h b => h.below b) hr)
  have HRR := Lib.hid (heldP (T := BL w [(w.heap.size, S f, 30)]) (fun W W' h b => h.below b) hrr)
  clear hr hrr
  obtain ⟨p, cap, rfl, hlc, hcm, hcell⟩ := hs
  unfold maxLen at hcm
  have HCELL := Lib.hid hcell
  clear hcell
  generalize hrv : rightV f = rv at *
  have HRV := Lib.hid hrv
  have HSB := Lib.hid h
  clear hrv h
  obtain ⟨A, hA⟩ : ∃ A, S f = A := ⟨_, rfl⟩
  rw [hA] at HAL HR HRR sA
  rw [hA]
  have HA := Lib.hid hA
  clear hA
  go_enter Try.func6, Try.ntmps6
  go_upto_region 3 with (go_at_call 9; (with_reducible refine (HAL.out _ ?_).mono ?_); (exact BL.start _ _ _); rintro e w1 ⟨rfl, k1⟩; (have kb1 := blkAt_heap k1.h0))
  go_region_held3 (fun W => blkAt W w.heap.size = A ∧ BL w [(w.heap.size, A, 30)] W) (first | assumption | (exact ⟨blkAt_heap (BL.h0 (by first | assumption | exact BL.drew (by assumption))), by first | assumption | exact BL.drew (by assumption)⟩)) (first | (go_at_call 11; (with_reducible refine (HR.out _ ?_).mono ?_); (first | assumption | exact BL.drew (by assumption)); rintro e w2 ⟨rfl, k2⟩; (have kb2 := blkAt_heap k2.h0)) | (go_at_call 15; (with_reducible refine (HRR.out _ ?_).mono ?_); (first | assumption | exact BL.drew (by assumption)); rintro e w3 ⟨rfl, k3⟩; (have kb3 := blkAt_heap k3.h0)))
  all_goals
    clear k1 kb1 HAL HR kb2 k2
    cases rv
    · go_wp2_with (go_at_call 15; (with_reducible refine (HRR.out _ ?_).mono ?_); (first | assumption | exact BL.drew (by assumption)); rintro e w4 ⟨rfl, k4⟩)
      go_ret
      exact ⟨ret_bool (by simp), by first | exact k4.2⟩
    have ok := ok_of f HSB.out HRV.out
    clear HSB HRV
    by_cases hl : (100 : Int) < (len : Int)
    · go_wp2_with (go_at_call 15; (with_reducible refine (HRR.out _ ?_).mono ?_); (first | assumption | exact BL.drew (by assumption)); rintro e w4 ⟨rfl, k4⟩)
      go_ret
      exact ⟨ret_bool (by simp), by first | exact k4.2⟩
    have zn := zN
    unfold Z18 at zn
    have oA : BlkOne A := HA.out ▸ S_one f
    go_upto_region 8 with (go_at_call 15; (with_reducible refine (HRR.out _ ?_).mono ?_); (first | assumption | exact BL.drew (by assumption)); rintro e w4 ⟨rfl, k4⟩; (have kb4 := blkAt_heap k4.h0))
    have k5 := k4.alloc A 30
    have szw : w.heap.size < w4.heap.size := heap_lt k4.h0
    have szw' : w.heap.size ≤ w4.heap.size := by omega
    clear kb4 kb3 k3 k4 HRR
    generalize w4.alloc (.cells A 30) = w5 at *
    generalize w4.heap.size = ab at *
    rw [← HA.out] at k5
    clear HA oA sA zn
    have n2 : (len : Int) ≤ 100 := by omega
    go_wp2_with fail
    go_loopw [27] (fun i wr => ∃ k : Nat, k ≤ len ∧ i = .int .i64 k ∧ ∃ g, OK g ∧ BL w [(ab, S g, 30), (w.heap.size, S g, 30)] wr) (fun i _ => (len - intOf i).toNat)
    case atStart => exact ⟨0, by omega, rfl, f, ok, k5⟩
    case round =>
      clear k5 ok
      obtain ⟨k, hk, rfl, g, ok, hT⟩ := hrel
      by_cases hlt : k < len
      case neg =>
        have hn : ¬ ((k : Int) < (len : Int)) := by omega
        go_wp2_with fail
        go_ret
        exact ⟨ret_bool (by simp), hT.2⟩
      case pos =>
      obtain ⟨b, o, rfl, hb, hx⟩ := HCELL.out (by omega)
      have x0 := (hT.2.cell (p := ⟨b, o + (k * 2 + 0), none⟩) hb).trans (hx k 0 hlt (by omega))
      have x1 := (hT.2.cell (p := ⟨b, o + (k * 2 + 1), none⟩) hb).trans (hx k 1 hlt (by omega))
      change wr.cell? ⟨b, o + k * 2, none⟩ = some (.int .i64 (K k)) at x0
      change wr.cell? ⟨b, o + k * 2 + 1, none⟩ = some (.int .i64 (N k)) at x1
      clear hx HCELL
      have n0 : (0 : Int) ≤ (k : Int) := by omega
      have n1 : (k : Int) < (len : Int) := by omega
      generalize K k = kk at *
      generalize N k = nn at *
      go_upto_region 11 with fail
      have k6 := hT.alloc #[.int .i64 kk, .int .i64 nn] 40
      have ca := szA k6.h0
      have cb := szA k6.h1
      have cc := szA k6.h2
      obtain ⟨c0, c1⟩ := get2 k6.h0
      have hm1 : wr.heap.size ≠ ab := by have := heap_lt hT.h0; omega
      have hm2 : wr.heap.size ≠ w.heap.size := by have := heap_lt hT.h1; omega
      have hm3 : w.heap.size ≤ wr.heap.size := hT.2.size
      generalize wr.alloc (.cells #[.int .i64 kk, .int .i64 nn] 40) = w6 at *
      generalize wr.heap.size = mb at *
      clear x0 x1 hT
      by_cases hk0 : kk = 0
      · subst hk0
        have v0 : 0 ≤ IntKind.u8.wrap nn := by rw [IntKind.wrap_u8]; omega
        have v1 : IntKind.u8.wrap nn < 256 := by rw [IntKind.wrap_u8]; omega
        have ok2 := ok_write g ok _ v0 v1
        have hw := write_any g ok.sb ok.hp ok.hl _ v0 v1
        have hrw := rwrite_any g ok.sb ok.hp ok.hl _ v0 v1
        have e1 := blkAt_heap k6.h1
        have e2 := blkAt_heap k6.h2
        rw [IntKind.wrap_u8] at hw hrw
        rw [IntKind.wrap_u8] at ok2
        generalize wF g (nn % 256) = g2 at *
        have sG : BlkN (S g) 18 := S_size _
        have oG : BlkOne (S g) := S_one _
        have sG2 : BlkN (S g2) 18 := S_size _
        have oG2 : BlkOne (S g2) := S_one _
        generalize S g = G at *
        obtain ⟨G2, hG2⟩ : ∃ G2, S g2 = G2 := ⟨_, rfl⟩
        rw [hG2] at hw hrw sG2 oG2
        have HG2 := Lib.hid hG2
        have HW := Lib.hid (heldP (T := BL w [(mb, #[.int .i64 0, .int .i64 nn], 40), (ab, G, 30), (w.heap.size, G, 30)]) (fun W W' h b => h.below b) hw)
        have HRW := Lib.hid (heldP (T := BL w [(mb, #[.int .i64 0, .int .i64 nn], 40), (ab, G, 30), (w.heap.size, G2, 30)]) (fun W W' h b => h.below b) hrw)
        clear hw hrw hG2
        go_upto_region 13 with (go_at_call 14; (with_reducible refine (HW.out _ ?_).mono ?_); (exact k6); rintro e w7 ⟨rfl, k7⟩; (have e3 := blkAt_heap k7.h2))
        have k8 : BL w [(mb, #[.int .i64 0, .int .i64 nn], 40), (ab, G, 30), (w.heap.size, G2, 30)] (blkPut w7 w.heap.size G2) := k7.put2 G2 hm2 (by omega)
        clear k7 k6 c0 c1 e1 e2 e3 ca cb cc
        generalize blkPut w7 w.heap.size G2 = w8 at *
        obtain ⟨c0, c1⟩ := get2 k8.h0
        have e1 := blkAt_heap k8.h1
        have e2 := blkAt_heap k8.h2
        have ca := szA k8.h0
        have cb := szA k8.h1
        have cc := szA k8.h2
        go_upto_region 14 with (go_at_call 16; (with_reducible refine (HRW.out _ ?_).mono ?_); (exact k8); rintro e w9 ⟨rfl, k9⟩; (have e3 := blkAt_heap k9.h1))
        have k10 := k9.put1 G2 hm1 (by omega)
        clear k9 k8 c0 c1 e1 e2 e3 ca cb cc HW HRW
        generalize blkPut w9 ab G2 = w10 at *
        rw [← HG2.out] at k10
        obtain ⟨c0, c1⟩ := get2 k10.h0
        clear HG2 sG oG sG2 oG2
        go_wp2_with fail
        go_loopw [8] (fun i wr => ∃ j : Nat, j ≤ 300 ∧ i = .int .i64 j ∧ ∃ g, OK g ∧ BL w [(mb, #[.int .i64 0, .int .i64 nn], 40), (ab, S g, 30), (w.heap.size, S g, 30)] wr) (fun i _ => (300 - intOf i).toNat)
        case atStart => exact ⟨0, by omega, rfl, g2, ok2, k10⟩
        case round =>
          obtain ⟨j, hj, rfl, g3, ok3, hT⟩ := hrel
          clear c0 c1 k10
          obtain ⟨c0, c1⟩ := get2 hT.h0
          have hr := right_any g3
          rw [ok_right g3 ok3] at hr
          have hs := sample_any g3 ok3.sb
          have hrs := rsample_any g3 ok3.sb
          have sb := ok_sample g3
          have heq := eqS g3 ok3.sb
          have s0 : 0 ≤ pS g3 4 := sb.1
          have s1 : pS g3 4 ≤ 32764 := sb.2
          clear sb
          generalize pS g3 4 = ss at *
          have sG : BlkN (S g3) 18 := S_size _
          have oG : BlkOne (S g3) := S_one _
          have e1 := blkAt_heap hT.h1
          have e2 := blkAt_heap hT.h2
          have HR := Lib.hid (heldP (T := BL w [(mb, #[.int .i64 0, .int .i64 nn], 40), (ab, S g3, 30), (w.heap.size, S g3, 30)]) (fun W W' h b => h.below b) hr)
          have HS := Lib.hid (heldP (T := BL w [(mb, #[.int .i64 0, .int .i64 nn], 40), (ab, S g3, 30), (w.heap.size, S g3, 30)]) (fun W W' h b => h.below b) hs)
          have HRS := Lib.hid (heldP (T := BL w [(mb, #[.int .i64 0, .int .i64 nn], 40), (ab, S g3, 30), (w.heap.size, S g3, 30)]) (fun W W' h b => h.below b) hrs)
          clear hr hs hrs
          have f1 : (ss != ss) = false := by simp
          have f2 : decide (ss < 0) = false := decide_eq_false (by omega)
          have f3 : decide (32764 < ss) = false := decide_eq_false (by omega)
          generalize hG : S g3 = G at *
          have HG := Lib.hid hG
          clear hG
          go_upto_region 19 with fail
          go_region_held3 (fun W => blkAt W ab = G ∧ blkAt W w.heap.size = G ∧ BL w [(mb, #[.int .i64 0, .int .i64 nn], 40), (ab, G, 30), (w.heap.size, G, 30)] W) (first | assumption | (exact bl3 (by first | assumption | exact BL.drew (by assumption)))) (first | (go_at_call 12; (with_reducible refine (HS.out _ ?_).mono ?_); (first | assumption | exact BL.drew (by assumption)); rintro e w6 ⟨rfl, k6⟩; (obtain ⟨kb6, kc6, _⟩ := bl3 k6)) | (go_at_call 19; (with_reducible refine (HRS.out _ ?_).mono ?_); (first | assumption | exact BL.drew (by assumption)); rintro e w7 ⟨rfl, k7⟩; (obtain ⟨kb7, kc7, _⟩ := bl3 k7)) | (go_at_call 11; (with_reducible refine (HR.out _ ?_).mono ?_); (first | assumption | exact BL.drew (by assumption)); rintro e w8 ⟨rfl, k8⟩; (obtain ⟨kb8, kc8, _⟩ := bl3 k8)))
          all_goals
            go_wp2_with fail
            go_roundw
            case rel => exact ⟨k + 1, by omega, by go_num, g3, ok3, by rw [HG.out]; exact BL.two (by first | assumption | exact BL.drew (by assumption))⟩
            case measure => simp [intOf] <;> omega
      · by_cases hk1 : kk = 1
        · subst hk1
          go_wp2_with fail
          go_loopw [8] (fun i wr => ∃ j : Nat, j ≤ 300 ∧ i = .int .i64 j ∧ ∃ g, OK g ∧ BL w [(mb, #[.int .i64 1, .int .i64 nn], 40), (ab, S g, 30), (w.heap.size, S g, 30)] wr) (fun i _ => (300 - intOf i).toNat)
          case atStart => exact ⟨0, by omega, rfl, g, ok, k6⟩
          case round =>
            obtain ⟨j, hj, rfl, g3, ok3, hT⟩ := hrel
            clear c0 c1 k6
            obtain ⟨c0, c1⟩ := get2 hT.h0
            have g0 : 0 ≤ (j : Int) := by omega
            by_cases gl : (j : Int) < nn ∧ (j : Int) < 300
            · obtain ⟨ga, gb⟩ := gl
              have p0 := (ok3.hp 0 (by omega)).1
              have p1 := (ok3.hp 1 (by omega)).1
              have p2 := (ok3.hp 2 (by omega)).1
              simp only [Nat.reduceMul] at p0 p1 p2
              have hw := step_any g3 ok3.sb ok3.n10 ok3.n9
              have hrw := rstep_any g3 ok3.sb ⟨p0, p1, p2⟩ ok3.n10 ok3.n9
              have ok4 := ok_step g3 ok3
              clear p0 p1 p2
              generalize stF g3 = g4 at *
              have e1 := blkAt_heap hT.h1
              have e2 := blkAt_heap hT.h2
              have sG : BlkN (S g3) 18 := S_size _
              have oG : BlkOne (S g3) := S_one _
              have sG2 : BlkN (S g4) 18 := S_size _
              have oG2 : BlkOne (S g4) := S_one _
              generalize S g3 = G at *
              generalize hG2 : S g4 = G2 at *
              have HG2 := Lib.hid hG2
              clear hG2
              have HW := Lib.hid (heldP (T := BL w [(mb, #[.int .i64 1, .int .i64 nn], 40), (ab, G, 30), (w.heap.size, G, 30)]) (fun W W' h b => h.below b) hw)
              have HRW := Lib.hid (heldP (T := BL w [(mb, #[.int .i64 1, .int .i64 nn], 40), (ab, G, 30), (w.heap.size, G2, 30)]) (fun W W' h b => h.below b) hrw)
              clear hw hrw
              go_upto_region 18 with (go_at_call 17; (with_reducible refine (HW.out _ ?_).mono ?_); (exact hT); rintro e w7 ⟨rfl, k7⟩; (have e3 := blkAt_heap k7.h2))
              have k8 := k7.put2 G2 hm2 (by omega)
              clear k7 hT c0 c1 e1 e2 e3
              generalize blkPut w7 w.heap.size G2 = w8 at *
              obtain ⟨c0, c1⟩ := get2 k8.h0
              have e1 := blkAt_heap k8.h1
              have e2 := blkAt_heap k8.h2
              go_upto_region 16 with (go_at_call 18; (with_reducible refine (HRW.out _ ?_).mono ?_); (exact k8); rintro e w9 ⟨rfl, k9⟩; (have e3 := blkAt_heap k9.h1))
              have k10 := k9.put1 G2 hm1 (by omega)
              clear k9 k8 c0 c1 e1 e2 e3 HW HRW
              generalize blkPut w9 ab G2 = w10 at *
              rw [← HG2.out] at k10
              go_wp2_with fail
              go_roundw
              case rel => exact ⟨j + 1, by omega, by go_num, g4, ok4, k10⟩
              case measure => simp [intOf] <;> omega
            by_cases ga : (j : Int) < nn
            · have gb : ¬ ((j : Int) < 300) := fun h => gl ⟨ga, h⟩
              have hr := right_any g3
              rw [ok_right g3 ok3] at hr
              have hs := sample_any g3 ok3.sb
              have hrs := rsample_any g3 ok3.sb
              have sb := ok_sample g3
              have heq := eqS g3 ok3.sb
              have s0 : 0 ≤ pS g3 4 := sb.1
              have s1 : pS g3 4 ≤ 32764 := sb.2
              clear sb
              generalize pS g3 4 = ss at *
              have sG : BlkN (S g3) 18 := S_size _
              have oG : BlkOne (S g3) := S_one _
              have e1 := blkAt_heap hT.h1
              have e2 := blkAt_heap hT.h2
              have HR := Lib.hid (heldP (T := BL w [(mb, #[.int .i64 1, .int .i64 nn], 40), (ab, S g3, 30), (w.heap.size, S g3, 30)]) (fun W W' h b => h.below b) hr)
              have HS := Lib.hid (heldP (T := BL w [(mb, #[.int .i64 1, .int .i64 nn], 40), (ab, S g3, 30), (w.heap.size, S g3, 30)]) (fun W W' h b => h.below b) hs)
              have HRS := Lib.hid (heldP (T := BL w [(mb, #[.int .i64 1, .int .i64 nn], 40), (ab, S g3, 30), (w.heap.size, S g3, 30)]) (fun W W' h b => h.below b) hrs)
              clear hr hs hrs
              have f1 : (ss != ss) = false := by simp
              have f2 : decide (ss < 0) = false := decide_eq_false (by omega)
              have f3 : decide (32764 < ss) = false := decide_eq_false (by omega)
              generalize hG : S g3 = G at *
              have HG := Lib.hid hG
              clear hG
              go_upto_region 19 with fail
              go_region_held3 (fun W => blkAt W ab = G ∧ blkAt W w.heap.size = G ∧ BL w [(mb, #[.int .i64 1, .int .i64 nn], 40), (ab, G, 30), (w.heap.size, G, 30)] W) (first | assumption | (exact bl3 (by first | assumption | exact BL.drew (by assumption)))) (first | (go_at_call 12; (with_reducible refine (HS.out _ ?_).mono ?_); (first | assumption | exact BL.drew (by assumption)); rintro e w6 ⟨rfl, k6⟩; (obtain ⟨kb6, kc6, _⟩ := bl3 k6)) | (go_at_call 19; (with_reducible refine (HRS.out _ ?_).mono ?_); (first | assumption | exact BL.drew (by assumption)); rintro e w7 ⟨rfl, k7⟩; (obtain ⟨kb7, kc7, _⟩ := bl3 k7)) | (go_at_call 11; (with_reducible refine (HR.out _ ?_).mono ?_); (first | assumption | exact BL.drew (by assumption)); rintro e w8 ⟨rfl, k8⟩; (obtain ⟨kb8, kc8, _⟩ := bl3 k8)))
              all_goals
                go_wp2_with fail
                go_roundw
                case rel => exact ⟨k + 1, by omega, by go_num, g3, ok3, by rw [HG.out]; exact BL.two (by first | assumption | exact BL.drew (by assumption))⟩
                case measure => simp [intOf] <;> omega
            have hr := right_any g3
            rw [ok_right g3 ok3] at hr
            have hs := sample_any g3 ok3.sb
            have hrs := rsample_any g3 ok3.sb
            have sb := ok_sample g3
            have heq := eqS g3 ok3.sb
            have s0 : 0 ≤ pS g3 4 := sb.1
            have s1 : pS g3 4 ≤ 32764 := sb.2
            clear sb
            generalize pS g3 4 = ss at *
            have sG : BlkN (S g3) 18 := S_size _
            have oG : BlkOne (S g3) := S_one _
            have e1 := blkAt_heap hT.h1
            have e2 := blkAt_heap hT.h2
            have HR := Lib.hid (heldP (T := BL w [(mb, #[.int .i64 1, .int .i64 nn], 40), (ab, S g3, 30), (w.heap.size, S g3, 30)]) (fun W W' h b => h.below b) hr)
            have HS := Lib.hid (heldP (T := BL w [(mb, #[.int .i64 1, .int .i64 nn], 40), (ab, S g3, 30), (w.heap.size, S g3, 30)]) (fun W W' h b => h.below b) hs)
            have HRS := Lib.hid (heldP (T := BL w [(mb, #[.int .i64 1, .int .i64 nn], 40), (ab, S g3, 30), (w.heap.size, S g3, 30)]) (fun W W' h b => h.below b) hrs)
            clear hr hs hrs
            have f1 : (ss != ss) = false := by simp
            have f2 : decide (ss < 0) = false := decide_eq_false (by omega)
            have f3 : decide (32764 < ss) = false := decide_eq_false (by omega)
            generalize hG : S g3 = G at *
            have HG := Lib.hid hG
            clear hG
            go_upto_region 19 with fail
            go_region_held3 (fun W => blkAt W ab = G ∧ blkAt W w.heap.size = G ∧ BL w [(mb, #[.int .i64 1, .int .i64 nn], 40), (ab, G, 30), (w.heap.size, G, 30)] W) (first | assumption | (exact bl3 (by first | assumption | exact BL.drew (by assumption)))) (first | (go_at_call 12; (with_reducible refine (HS.out _ ?_).mono ?_); (first | assumption | exact BL.drew (by assumption)); rintro e w6 ⟨rfl, k6⟩; (obtain ⟨kb6, kc6, _⟩ := bl3 k6)) | (go_at_call 19; (with_reducible refine (HRS.out _ ?_).mono ?_); (first | assumption | exact BL.drew (by assumption)); rintro e w7 ⟨rfl, k7⟩; (obtain ⟨kb7, kc7, _⟩ := bl3 k7)) | (go_at_call 11; (with_reducible refine (HR.out _ ?_).mono ?_); (first | assumption | exact BL.drew (by assumption)); rintro e w8 ⟨rfl, k8⟩; (obtain ⟨kb8, kc8, _⟩ := bl3 k8)))
            all_goals
              go_wp2_with fail
              go_roundw
              case rel => exact ⟨k + 1, by omega, by go_num, g3, ok3, by rw [HG.out]; exact BL.two (by first | assumption | exact BL.drew (by assumption))⟩
              case measure => simp [intOf] <;> omega
        · have t0 : (kk == 0) = false := beq_eq_false_iff_ne.2 hk0
          have t1 : (kk == 1) = false := beq_eq_false_iff_ne.2 hk1
          go_wp2_with fail
          go_loopw [8] (fun i wr => ∃ j : Nat, j ≤ 300 ∧ i = .int .i64 j ∧ ∃ g, OK g ∧ BL w [(mb, #[.int .i64 kk, .int .i64 nn], 40), (ab, S g, 30), (w.heap.size, S g, 30)] wr) (fun i _ => (300 - intOf i).toNat)
          case atStart => exact ⟨0, by omega, rfl, g, ok, k6⟩
          case round =>
            obtain ⟨j, hj, rfl, g3, ok3, hT⟩ := hrel
            clear c0 c1 k6
            obtain ⟨c0, c1⟩ := get2 hT.h0
            have hr := right_any g3
            rw [ok_right g3 ok3] at hr
            have hs := sample_any g3 ok3.sb
            have hrs := rsample_any g3 ok3.sb
            have sb := ok_sample g3
            have heq := eqS g3 ok3.sb
            have s0 : 0 ≤ pS g3 4 := sb.1
            have s1 : pS g3 4 ≤ 32764 := sb.2
            clear sb
            generalize pS g3 4 = ss at *
            have sG : BlkN (S g3) 18 := S_size _
            have oG : BlkOne (S g3) := S_one _
            have e1 := blkAt_heap hT.h1
            have e2 := blkAt_heap hT.h2
            have HR := Lib.hid (heldP (T := BL w [(mb, #[.int .i64 kk, .int .i64 nn], 40), (ab, S g3, 30), (w.heap.size, S g3, 30)]) (fun W W' h b => h.below b) hr)
            have HS := Lib.hid (heldP (T := BL w [(mb, #[.int .i64 kk, .int .i64 nn], 40), (ab, S g3, 30), (w.heap.size, S g3, 30)]) (fun W W' h b => h.below b) hs)
            have HRS := Lib.hid (heldP (T := BL w [(mb, #[.int .i64 kk, .int .i64 nn], 40), (ab, S g3, 30), (w.heap.size, S g3, 30)]) (fun W W' h b => h.below b) hrs)
            clear hr hs hrs
            have f1 : (ss != ss) = false := by simp
            have f2 : decide (ss < 0) = false := decide_eq_false (by omega)
            have f3 : decide (32764 < ss) = false := decide_eq_false (by omega)
            generalize hG : S g3 = G at *
            have HG := Lib.hid hG
            clear hG
            go_upto_region 19 with fail
            go_region_held3 (fun W => blkAt W ab = G ∧ blkAt W w.heap.size = G ∧ BL w [(mb, #[.int .i64 kk, .int .i64 nn], 40), (ab, G, 30), (w.heap.size, G, 30)] W) (first | assumption | (exact bl3 (by first | assumption | exact BL.drew (by assumption)))) (first | (go_at_call 12; (with_reducible refine (HS.out _ ?_).mono ?_); (first | assumption | exact BL.drew (by assumption)); rintro e w6 ⟨rfl, k6⟩; (obtain ⟨kb6, kc6, _⟩ := bl3 k6)) | (go_at_call 19; (with_reducible refine (HRS.out _ ?_).mono ?_); (first | assumption | exact BL.drew (by assumption)); rintro e w7 ⟨rfl, k7⟩; (obtain ⟨kb7, kc7, _⟩ := bl3 k7)) | (go_at_call 11; (with_reducible refine (HR.out _ ?_).mono ?_); (first | assumption | exact BL.drew (by assumption)); rintro e w8 ⟨rfl, k8⟩; (obtain ⟨kb8, kc8, _⟩ := bl3 k8)))
            all_goals
              go_wp2_with fail
              go_roundw
              case rel => exact ⟨k + 1, by omega, by go_num, g3, ok3, by rw [HG.out]; exact BL.two (by first | assumption | exact BL.drew (by assumption))⟩
              case measure => simp [intOf] <;> omega
end Psg
end Go.Proofs.Ytjggocbihjdekaa
