/- A chip of three tones and a noise (layer 5): what the program's functions do, part 14. No conditions but that numbers are of their kinds. -/
import Derived.Test.YtjggocbihjdekaaPsgU
import Derived.RegionTactic
import Derived.LoopTactic
import Derived.Deep.DeepCutAuto
import Derived.Deep.CutRange
import Derived.Laws.OwnMore
import Derived.Deep.RegionHeld3
import Derived.Lib.Hide
namespace Go.Proofs.Ytjggocbihjdekaa
open Go.RowKit
open Kit
set_option linter.unusedSimpArgs false
set_option linter.unusedVariables false
attribute [local simp] blkAt_alloc blkNew_cells putRow_cells blkAt_drew BlkN.set BlkOne.setInt BlkOne.setBool blkPut_alloc blkPut_drew blkAt_blkPut_other size_blkPut nq2 nq3 nq4 nq5 nq6 nq7 nq8
namespace Psg
attribute [local simp ↓] sl_in ss_in vs_in
attribute [local simp] sl_run ss_run vs_run
open ToneM NoiseM
set_option maxRecDepth 100000 in
set_option maxHeartbeats 4000000 in
theorem run_any (f : Nat → Int) (h : RX f) (n : Nat) (hn : n ≤ 4000) (e ph : Int) (e0 : 0 < e) (e1 : e ≤ 100) (p0 : 0 ≤ ph) (p1 : ph ≤ 100) (w : World) : Calls Try.prog 20 #[.agg (S f), .int .i64 n, .int .i64 e, .int .i64 ph] w fun en w' => ∃ v, en = .returned (.tuple #[.agg (S (itS f n)), v]) ∧ w'.ownsRow (w.heap.size + 1 + 1) 3 1 v (smp f e ph n).length ((smp f e ph n).map (Value.int .i64)) ∧ Below w.heap.size w w' := by
  have zn := zN
  obtain ⟨i0, hi, hz0, hz1, hz2⟩ := info_parts infoI
  have sF : BlkN (S f) 18 := S_size _
  have d0 : decide (0 < e) = true := decide_eq_true e0
  have d1 : decide (0 ≤ ph) = true := decide_eq_true p0
  go_enter Try.func20, Try.ntmps20
  unfold Z18 at zn
  go_wp2_with fail
  have hst : H2 w (S (itS f 0)) ((w.alloc (.cells (S f) 30)).alloc (.cells Z18 30)) := ⟨(heap_past _ _ _ (by simp)).trans (heap_at _ _ _ rfl), heap_at _ _ _ (by simp), ((Below.refl _ _).alloc (Nat.le_refl _) _).alloc (by simp) _⟩
  unfold Z18 at hst
  generalize (w.alloc (.cells (S f) 30)).alloc _ = ws at *
  go_loopw [10, 12] (fun o i wr => ∃ j : Nat, j ≤ n ∧ i = .int .i64 ((j + 1 : Nat)) ∧ H2 w (S (itS f j)) wr ∧ wr.ownsRow (w.heap.size + 1 + 1) 3 1 o (smp f e ph j).length ((smp f e ph j).map (Value.int .i64))) (fun _ i _ => (n + 1 - intOf i).toNat)
  case atStart => exact ⟨0, by omega, rfl, hst, World.ownsRow_nil _ _ _ _⟩
  case round =>
    obtain ⟨j, hj, rfl, hH, hown⟩ := hrel
    clear hst
    have hl := smp_len f e ph j
    by_cases hlt : j < n
    case neg =>
      have hjn : j = n := by omega
      subst hjn
      have q2 := hH
      have e1' := blkAt_heap hH.1
      have e2' := blkAt_heap hH.2.1
      have zN' := zN
      have nG : BlkN (S (itS f j)) 18 := S_size _
      have oG : BlkOne (S (itS f j)) := S_one _
      generalize hGG : S (itS f j) = GG at *
      have HGG := Lib.hid hGG
      have HO := Lib.hid hown
      clear hGG hown zn hi hz0 hz1 hz2
      generalize Z18 = ZZ at *
      go_wp2_with fail
      have hR : (blkPut wr (w.heap.size + 1) GG).heap[w.heap.size + 1]? = some (.cells GG 30) := heap_blkPut_same q2.2.1 GG
      exact bodyPost_ret (v := .tuple #[.agg _, _]) (results_cell_tmp rfl _ _ (w.heap.size + 1) 30 _ (0, 0) _ rfl hR Try.underlying30 rfl (by rw [show GG.size = 18 from nG]; exact i18)) rfl ⟨_, by rw [HGG.out]; rfl, row_put HO.out (by omega) _, below_blkPut q2.2.2 (by omega) _⟩
    case pos =>
    have hR := rx_it h j
    have hR' := rx_it h (j + 1)
    have hstep := step_any (itS f j) hR.1 hR.2.1 hR.2.2
    change ∀ w, Calls Try.prog 17 #[.agg (S (itS f j))] w fun e w' => e = .returned (.agg (S (itS f (j + 1)))) ∧ Below w.heap.size w w' at hstep
    have hsam := sample_any (itS f (j + 1)) hR'.1
    have pb := pS_bd (itS f (j + 1)) 4
    have nA : BlkN (S (itS f j)) 18 := S_size _
    have nB : BlkN (S (itS f (j + 1))) 18 := S_size _
    have oB : BlkOne (S (itS f (j + 1))) := S_one _
    have hsm : smp f e ph (j + 1) = if told e ph (j + 1) then smp f e ph j ++ [pS (itS f (j + 1)) 4] else smp f e ph j := rfl
    have kA := blkAt_heap hH.1
    have HST := Lib.hid hstep
    have HSA := Lib.hid hsam
    have HSM := Lib.hid hsm
    have HO := Lib.hid hown
    have rl := heap_lt hH.1
    clear hstep hsam hsm hown hR hR'
    generalize S (itS f j) = A at *
    generalize hB : S (itS f (j + 1)) = B at *
    have HB := Lib.hid hB
    clear hB
    generalize pS (itS f (j + 1)) 4 = ps at *
    have m0 : (0 : Int) ≤ (j : Int) + 1 := by omega
    have m1 : (j : Int) + 1 ≤ 4000 := by omega
    have m2 : (j : Int) + 1 ≤ (n : Int) := by omega
    go_upto_region 7 with (go_at_call 17; (with_reducible refine (HST.out _).mono ?_); rintro en wq ⟨rfl, bq⟩; (have hq := hH.below bq); (have hoq := row_below HO.out bq); (have kq := blkAt_heap hq.1))
    have hp := hq.put B
    have hop := row_put hoq (show w.heap.size < w.heap.size + 1 + 1 by omega) B
    generalize blkPut wq w.heap.size B = w7 at *
    clear hq hoq kq bq kA hH rl
    have HHI := Lib.hid hi
    have HP := Lib.hid hp
    have HOP := Lib.hid hop
    have kp := blkAt_heap hp.1
    have rl := heap_lt hp.1
    have ez : (e == 0) = false := beq_eq_false_iff_ne.2 (by omega)
    have ez2 : ¬ (e = 0) := by omega
    have t1 : Int.tmod ((j : Int) + 1) e = ((j : Int) + 1) % e := Int.tmod_eq_emod_of_nonneg m0
    have t2 : Int.tmod ph e = ph % e := Int.tmod_eq_emod_of_nonneg p0
    have a0 : 0 ≤ ((j : Int) + 1) % e := Int.emod_nonneg _ ez2
    have a1 : ((j : Int) + 1) % e < e := Int.emod_lt_of_pos _ e0
    have b0 : 0 ≤ ph % e := Int.emod_nonneg _ ez2
    have b1 : ph % e < e := Int.emod_lt_of_pos _ e0
    have wr1 : IntKind.i64.wrap (((j : Int) + 1) % e + ph % e) = ((j : Int) + 1) % e + ph % e := by rw [IntKind.wrap_i64]; omega
    have t3 : Int.tmod (((j : Int) + 1) % e + ph % e) e = ((j : Int) + 1 + ph) % e := by rw [Int.tmod_eq_emod_of_nonneg (by omega), ← Int.add_emod]
    have htl : told e ph (j + 1) = (((j : Int) + 1 + ph) % e == 0) := by unfold told; rw [← Int.add_emod]; rfl
    clear hp hop hi
    cases ht : (((j : Int) + 1 + ph) % e == 0)
    · have hsm := HSM.out
      rw [htl, ht] at hsm
      simp only [Bool.false_eq_true, if_false] at hsm
      have HSM2 := Lib.hid hsm
      clear hsm htl
      go_region
      all_goals
        go_wp2_with fail
        go_roundw
        case rel => exact ⟨j + 1, by omega, by go_num, by rw [HB.out]; first | exact HP.out | exact HP.out.drew, by rw [HSM2.out]; exact HOP.out⟩
        case measure => simp [intOf] <;> omega
    · have hsm := HSM.out
      rw [htl, ht] at hsm
      simp only [if_true] at hsm
      have HSM2 := Lib.hid hsm
      clear hsm htl
      go_region
      all_goals
        go_wp2_with (first | (go_at_call 12; (with_reducible refine (HSA.out _).mono ?_); rintro en wq ⟨rfl, bq⟩; (have hq : H2 w B wq := (by first | exact HP.out.below bq | exact HP.out.drew.below bq)); (have hoq : wq.ownsRow (w.heap.size + 1 + 1) 3 1 _ (smp f e ph j).length ((smp f e ph j).map (Value.int .i64)) := (by first | exact row_below HOP.out bq | exact row_below (row_drew HOP.out) bq)); (have szq := heap_lt hq.2.1)) | (at_builtin; refine wpList_append_own _ rfl _ _ 44 rfl (w.heap.size + 1 + 1) 3 i0 (.int .i64 0) 1 8 Try.underlying44 HHI.out hz0 hz1 hz2 rfl (by decide) _ _ _ rfl (hoq.alloc _) ⟨wq.heap.size, 0, none⟩ 1 1 [.int .i64 ps] rfl rfl ?c1 ?c2 ?c3 ?c4 ?c5 ?_))
        case c1 =>
          intro jj u hjj
          match jj, hjj with
          | 0, hjj => simp at hjj; subst hjj; simp [Addr.add]
        case c2 => intro u hu; simp at hu; subst hu; rfl
        case c3 => unfold maxLen; omega
        case c4 => omega
        case c5 => simp; omega
        intro v' w2 hown' hgrow _
        go_wp2_with fail
        go_roundw
        case rel => exact ⟨j + 1, by omega, by go_num, by
          rw [HB.out]
          exact ⟨(hgrow.block _ (by simp; omega) (fun e => by have := (hoq.lt _ e.symm).1; omega)).trans ((heap_past _ _ _ (heap_lt hq.1)).trans hq.1), (hgrow.block _ (by simp; omega) (fun e => by have := (hoq.lt _ e.symm).1; omega)).trans ((heap_past _ _ _ (heap_lt hq.2.1)).trans hq.2.1), (hq.2.2.alloc hq.2.2.size _).grown hgrow (by have := hq.2.2.size; simp; omega) (fun k hk => by have := (hoq.lt k hk).1; omega)⟩, by
          rw [HSM2.out]
          simpa using hown'⟩
        case measure => simp [intOf] <;> omega
end Psg
end Go.Proofs.Ytjggocbihjdekaa
