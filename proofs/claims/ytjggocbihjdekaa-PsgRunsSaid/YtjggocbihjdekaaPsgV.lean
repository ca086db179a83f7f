/- A chip of three tones and a noise (layer 5): what the program's functions do, part 6. No conditions but that numbers are of their kinds. -/
import Derived.Test.YtjggocbihjdekaaPsgN
import Derived.RegionTactic
import Derived.LoopTactic
import Derived.Deep.RegionHeld3
import Derived.Lib.Hide
namespace Go.Proofs.Ytjggocbihjdekaa
open Go.RowKit
open Kit
set_option linter.unusedSimpArgs false
set_option linter.unusedVariables false
attribute [local simp] blkAt_alloc blkNew_cells putRow_cells blkAt_drew BlkN.set BlkOne.setInt BlkOne.setBool blkPut_alloc blkPut_drew blkAt_blkPut_other size_blkPut nq2 nq3 nq4 nq5 nq6 nq7 nq8
namespace Psg
attribute [local simp ↓] sl_in ss_in vs_in
attribute [local simp] sl_run ss_run vs_run
theorem HS.drew {w : World} {A : Array Value} {W : World} (h : HS w A W) : HS w A W.drew := ⟨h.1, h.2.drew⟩
def qF (f : Nat → Int) (j : Nat) : Int := if 13 ≤ j ∧ j < 17 then 15 else f j
def aF (f : Nat → Int) (k j : Nat) : Int := if j = 13 + k then f j else qF f j
theorem u8_at (f : Nat → Int) (k : Nat) (x : Int) (h : 13 ≤ k) (h2 : k < 18) : sv (upd f k x) k = .int .u8 x := by
  unfold sv upd; rw [if_neg (by omega), if_pos (by omega), if_pos rfl]
theorem heQ (f : Nat → Int) : ((((S f).setIfInBounds 13 (.int .u8 15)).setIfInBounds 14 (.int .u8 15)).setIfInBounds 15 (.int .u8 15)).setIfInBounds 16 (.int .u8 15) = S (qF f) := by
  rw [S_set _ 13 15 _ (u8_at _ _ _ (by omega) (by omega)), S_set _ 14 15 _ (u8_at _ _ _ (by omega) (by omega)), S_set _ 15 15 _ (u8_at _ _ _ (by omega) (by omega)), S_set _ 16 15 _ (u8_at _ _ _ (by omega) (by omega))]
  refine S_congr _ _ fun j hj => ?_
  unfold upd qF
  by_cases h1 : 13 ≤ j ∧ j < 17
  · rw [if_pos h1]
    rcases (by omega : j = 13 ∨ j = 14 ∨ j = 15 ∨ j = 16) with rfl | rfl | rfl | rfl <;> rfl
  · rw [if_neg h1, if_neg (by omega), if_neg (by omega), if_neg (by omega), if_neg (by omega)]
theorem heK (f : Nat → Int) (k : Nat) (hk : k < 4) : (S (qF f)).setIfInBounds (13 + k) (.int .u8 (f (13 + k))) = S (aF f k) := by
  rw [S_set _ (13 + k) (f (13 + k)) _ (u8_at _ _ _ (by omega) (by omega))]
  refine S_congr _ _ fun j hj => ?_
  unfold upd aF
  by_cases h : j = 13 + k
  · rw [if_pos h, if_pos h, h]
  · rw [if_neg h, if_neg h]
theorem aF_sb {f : Nat → Int} (h : SB f) (k : Nat) (hk : k < 4) : SB (aF f k) := by
  obtain ⟨h0, h1, h2, h3⟩ := h
  have e : ∀ j, ¬ (13 ≤ j ∧ j < 17) → aF f k j = f j := fun j hj => by unfold aF qF; rw [if_neg hj]; split <;> rfl
  refine ⟨by rw [e 9 (by omega)]; exact h0, by rw [e 12 (by omega)]; exact h1, fun j a b => ?_, fun j a => by rw [e j (by omega)]; exact h3 j a⟩
  unfold aF qF
  split
  · exact h2 j a b
  · split
    · omega
    · exact h2 j a b
theorem vol15 : volV 15 = 0 := by decide
theorem term_a (f : Nat → Int) (k j : Nat) (hk : k < 4) (hj : j < 4) : term (aF f k) j = if j = k then term f k else 0 := by
  have e : ∀ i, ¬ (13 ≤ i ∧ i < 17) → aF f k i = f i := fun i hi => by unfold aF qF; rw [if_neg hi]; split <;> rfl
  have ew : wordV (aF f k) j = wordV f j := by unfold wordV; rw [e 12 (by omega)]; split; rw [e _ (by omega)]; rfl
  unfold term
  rw [ew]
  by_cases h : j = k
  · subst h
    rw [if_pos rfl, show aF f j (13 + j) = f (13 + j) by unfold aF; rw [if_pos rfl]]
  · rw [if_neg h, show aF f k (13 + j) = 15 by unfold aF qF; rw [if_neg (by omega), if_pos (by omega)], vol15]
    split <;> rfl
theorem pS_a (f : Nat → Int) (k : Nat) (hk : k < 4) : pS (aF f k) 4 = term f k := by
  show 0 + term (aF f k) 0 + term (aF f k) 1 + term (aF f k) 2 + term (aF f k) 3 = _
  rw [term_a f k 0 hk (by omega), term_a f k 1 hk (by omega), term_a f k 2 hk (by omega), term_a f k 3 hk (by omega)]
  rcases (by omega : k = 0 ∨ k = 1 ∨ k = 2 ∨ k = 3) with rfl | rfl | rfl | rfl <;> simp
theorem vol_less (q : Int) (q0 : 0 ≤ q) (q1 : q < 15) : volV (q + 1) < volV q := by
  obtain ⟨k, rfl⟩ := Int.eq_ofNat_of_zero_le q0
  have : k < 15 := by omega
  rcases (by omega : k = 0 ∨ k = 1 ∨ k = 2 ∨ k = 3 ∨ k = 4 ∨ k = 5 ∨ k = 6 ∨ k = 7 ∨ k = 8 ∨ k = 9 ∨ k = 10 ∨ k = 11 ∨ k = 12 ∨ k = 13 ∨ k = 14) with rfl | rfl | rfl | rfl | rfl | rfl | rfl | rfl | rfl | rfl | rfl | rfl | rfl | rfl | rfl <;> decide
set_option maxRecDepth 100000 in
set_option maxHeartbeats 4000000 in
theorem voices_all (f : Nat → Int) (h : SB f) (w : World) : Calls Try.prog 5 #[.agg (S f)] w fun e w' => e = .returned (.bool true) ∧ Below w.heap.size w w' := by
  have hr := right_any f
  have hs := sample_any f h
  have hsk := fun (k : Nat) (hk : k < 4) => sample_any (aF f k) (aF_sb h k hk)
  have hvol := fun (k : Nat) (hk : k < 4) => belowOf1 (fun W => volume_any (f (13 + k)) (h.2.2.1 _ (by omega) (by omega)).1 (h.2.2.1 _ (by omega) (by omega)).2 W)
  have hvol2 := fun (k : Nat) (hk : k < 4) (hq : f (13 + k) < 15) => belowOf1 (fun W => volume_any (f (13 + k) + 1) (by have := (h.2.2.1 (13 + k) (by omega) (by omega)).1; omega) (by omega) W)
  have hc : ∀ k, k < 4 → (S f)[13 + k]? = some (.int .u8 (f (13 + k))) := fun k hk => by rw [S_get _ _ (by omega)]; unfold sv; rw [if_neg (by omega), if_pos (by omega)]
  have hcq : ∀ k, k < 4 → (S (qF f))[13 + k]? = some (.int .u8 15) := fun k hk => by rw [S_get _ _ (by omega)]; unfold sv; rw [if_neg (by omega), if_pos (by omega)]; unfold qF; rw [if_pos (by omega)]
  have c13 := hc 0 (by omega)
  have c14 := hc 1 (by omega)
  have c15 := hc 2 (by omega)
  have c16 := hc 3 (by omega)
  simp only [Nat.reduceAdd] at c13 c14 c15 c16
  have heq := heQ f
  have hek := heK f
  have hqb := fun (k : Nat) (hk : k < 4) => (h.2.2.1 (13 + k) (by omega) (by omega))
  have sA : BlkN (S f) 18 := S_size _
  have oA : BlkOne (S f) := S_one _
  have sQ : BlkN (S (qF f)) 18 := S_size _
  have zn := zN
  unfold Z18 at zn
  have hsa : ∀ k, BlkN (S (aF f k)) 18 := fun k => S_size _
  generalize S (qF f) = Q at *
  generalize hA : S f = A at *
  have HAL := Lib.hid (heldP (T := HS w A) (fun W W' h b => h.below b) alive_any)
  have HR := Lib.hid (heldP (T := HS w A) (fun W W' h b => h.below b) hr)
  have HSA := Lib.hid (heldP (T := HS w A) (fun W W' h b => h.below b) hs)
  have HSK := Lib.hid (fun k hk => heldP (T := HS w A) (fun W W' h b => h.below b) (hsk k hk))
  have HV := Lib.hid (fun k hk => heldP (T := HS w A) (fun W W' h b => h.below b) (hvol k hk))
  have HV2 := Lib.hid (fun k hk hq => heldP (T := HS w A) (fun W W' h b => h.below b) (hvol2 k hk hq))
  have HC := Lib.hid hc
  have HCQ := Lib.hid hcq
  have HEK := Lib.hid hek
  have HQB := Lib.hid hqb
  have HSAA := Lib.hid hsa
  clear hr hs hsk hvol hvol2 hc hcq hek hqb hsa hA h
  cases hrv : rightV f
  all_goals
    rw [hrv] at HR
    go_enter Try.func5, Try.ntmps5
    go_wp2_with (first | (go_at_call 9; (with_reducible refine (HAL.out _ ?_).mono ?_); (exact ⟨(by repeat (first | (refine heap_at _ _ _ ?_; first | (simp; done) | (simp; omega; done)) | (refine (heap_past _ _ _ ?_).trans ?_; focus (first | (simp; done) | (simp; omega; done))) | (refine (heap_drew _ _).trans ?_))), by go_grown⟩); rintro e w1 ⟨rfl, k0⟩; (have kb := blkAt_heap k0.1)) | (go_at_call 11; (with_reducible refine (HR.out _ ?_).mono ?_); (exact k0); rintro e w2 ⟨rfl, k1⟩))
  · go_ret
    exact ⟨ret_bool (by simp), k1.2⟩
  · go_loopw [3, 4] (fun sm i wr => ∃ k : Nat, k ≤ 4 ∧ i = .int .i64 k ∧ sm = .int .i64 (pS f k) ∧ HS w A wr) (fun _ i _ => (4 - intOf i).toNat)
    case atStart => exact ⟨0, by omega, rfl, rfl, k1⟩
    case round =>
      obtain ⟨k, hk, rfl, rfl, hT⟩ := hrel
      have xb := blkAt_heap hT.1
      have xl := heap_lt hT.1
      clear k0 kb k1
      by_cases hlt : k < 4
      case neg =>
        have hk4 : k = 4 := by omega
        subst hk4
        go_wp2_with (go_at_call 12; (with_reducible refine (HSA.out _ ?_).mono ?_); (exact hT); rintro e w9 ⟨rfl, k9⟩)
        go_ret
        exact ⟨ret_bool (by simp), k9.2⟩
      case pos =>
      have hcell := (cell_of _ _ (13 + k) hT.1).trans (HC.out k hlt)
      have hcq := HCQ.out k hlt
      have hek := HEK.out k hlt
      have hsk := HSK.out k hlt
      rw [pS_a f k hlt] at hsk
      have hv := HV.out k hlt
      have hv2 := HV2.out k hlt
      have hqb := HQB.out k hlt
      have hsaa := HSAA.out k
      have pb := pS_bd f k
      have tb := term_bd f k
      have wr1 : IntKind.i64.wrap (pS f k + term f k) = pS f k + term f k := by rw [IntKind.wrap_i64]; omega
      have hps : pS f k + term f k = pS f (k + 1) := rfl
      have n0 : (0 : Int) ≤ (k : Int) := by omega
      have n1 : (k : Int) < 4 := by omega
      have ne1 : ¬ (w.heap.size = wr.heap.size) := by omega
      have hless := fun h => vol_less (f (13 + k)) hqb.1 h
      generalize hq : f (13 + k) = q at *
      generalize S (aF f k) = B at *
      generalize term f k = tt at *
      generalize pS f k = pp at *
      have HPS := Lib.hid hps
      have HSK1 := Lib.hid hsk
      have HQ := Lib.hid hq
      clear hsk hps hq pb tb
      by_cases hq15 : q < 15
      · have hv2' := hv2 hq15
        have hl := hless hq15
        have l1 : ¬ volV q ≤ volV (q + 1) := by omega
        have l2 : decide (volV q ≤ volV (q + 1)) = false := decide_eq_false l1
        have m1 : (q + 1) % 256 = q + 1 := by omega
        have m2 : IntKind.u8.wrap (q + 1) = q + 1 := by rw [IntKind.wrap_u8]; omega
        generalize volV (q + 1) = v2 at *
        generalize volV q = v1 at *
        have HVA := Lib.hid hv
        have HVB := Lib.hid hv2'
        clear hv hv2 hv2' hless hl
        go_wp2_with (go_at_call 12; (with_reducible refine (HSK1.out _ ?_).mono ?_); (exact hT.below ((Below.refl _ _).alloc (Nat.le_refl _) _)); rintro e w5 ⟨rfl, k5⟩; (have c5 := (cell_of _ _ (13 + k) k5.1).trans (HC.out k hlt)); (rw [HQ.out] at c5))
        go_region_held3 (fun W => W.cell? ⟨w.heap.size, 13 + k, none⟩ = some (.int .u8 q) ∧ HS w A W) (first | assumption | (exact ⟨by first | assumption | go_keep, by first | assumption | exact HS.drew (by assumption)⟩)) (first | (go_at_call 13; (with_reducible refine (HVA.out _ ?_).mono ?_); (first | assumption | (exact HS.drew (by assumption))); rintro e w6 ⟨rfl, k6⟩; (have c6 := (cell_of _ _ (13 + k) k6.1).trans (HC.out k hlt)); (rw [HQ.out] at c6)) | (go_at_call 13; (with_reducible refine (HVB.out _ ?_).mono ?_); (first | assumption | (exact HS.drew (by assumption))); rintro e w7 ⟨rfl, k7⟩; (have c7 := (cell_of _ _ (13 + k) k7.1).trans (HC.out k hlt)); (rw [HQ.out] at c7)))
        all_goals
          go_wp2_with fail
          go_roundw
          case rel => exact ⟨k + 1, by omega, by go_num, by rw [HPS.out], by first | assumption | exact HS.drew (by assumption)⟩
          case measure => simp [intOf] <;> omega
      · have l2 : decide (q < 15) = false := decide_eq_false hq15
        clear hv hv2 hless
        go_wp2_with (go_at_call 12; (with_reducible refine (HSK1.out _ ?_).mono ?_); (exact hT.below ((Below.refl _ _).alloc (Nat.le_refl _) _)); rintro e w5 ⟨rfl, k5⟩; (have c5 := (cell_of _ _ (13 + k) k5.1).trans (HC.out k hlt)); (rw [HQ.out] at c5))
        go_region
        all_goals
          go_wp2_with fail
          go_roundw
          case rel => exact ⟨k + 1, by omega, by go_num, by rw [HPS.out], by first | assumption | exact HS.drew (by assumption)⟩
          case measure => simp [intOf] <;> omega
def cz (b : Bool) : Int := cond b 1 0
def fOf (l : List Int) (j : Nat) : Int := l.getD j 0
theorem wf_u8 {z : Int} (h : (Lit.int .u8 z).wf = true) : 0 ≤ z ∧ z < 256 := by
  simp [Lit.wf, IntKind.min, IntKind.max, IntKind.signed, IntKind.bits] at h; omega
theorem wf_u16 {z : Int} (h : (Lit.int .u16 z).wf = true) : 0 ≤ z ∧ z < 65536 := by
  simp [Lit.wf, IntKind.min, IntKind.max, IntKind.signed, IntKind.bits] at h; omega
theorem wf_i64 {z : Int} (h : (Lit.int .i64 z).wf = true) : -9223372036854775808 ≤ z ∧ z ≤ 9223372036854775807 := by
  simp [Lit.wf, IntKind.min, IntKind.max, IntKind.signed, IntKind.bits] at h; omega
set_option maxRecDepth 100000 in
set_option maxHeartbeats 4000000 in
theorem sound_eq (a0_0 : Int) (a0_1 : Int) (a0_2 : Bool) (a0_3 : Int) (a0_4 : Int) (a0_5 : Bool) (a0_6 : Int) (a0_7 : Int) (a0_8 : Bool) (a0_9 : Int) (a0_10 : Int) (a0_11 : Bool) (a0_12 : Int) (a0_13 : Int) (a0_14 : Int) (a0_15 : Int) (a0_16 : Int) (a0_17 : Int) : (#[.int .i64 a0_0, .int .i64 a0_1, .bool a0_2, .int .i64 a0_3, .int .i64 a0_4, .bool a0_5, .int .i64 a0_6, .int .i64 a0_7, .bool a0_8, .int .u8 a0_9, .int .i64 a0_10, .bool a0_11, .int .u16 a0_12, .int .u8 a0_13, .int .u8 a0_14, .int .u8 a0_15, .int .u8 a0_16, .int .u8 a0_17] : Array Value) = S (fOf [a0_0, a0_1, cz a0_2, a0_3, a0_4, cz a0_5, a0_6, a0_7, cz a0_8, a0_9, a0_10, cz a0_11, a0_12, a0_13, a0_14, a0_15, a0_16, a0_17]) := by
  cases a0_2 <;> cases a0_5 <;> cases a0_8 <;> cases a0_11 <;> rfl
set_option maxRecDepth 100000 in
set_option maxHeartbeats 4000000 in
theorem sound_sb (a0_0 : Int) (a0_1 : Int) (a0_2 : Bool) (a0_3 : Int) (a0_4 : Int) (a0_5 : Bool) (a0_6 : Int) (a0_7 : Int) (a0_8 : Bool) (a0_9 : Int) (a0_10 : Int) (a0_11 : Bool) (a0_12 : Int) (a0_13 : Int) (a0_14 : Int) (a0_15 : Int) (a0_16 : Int) (a0_17 : Int) (w0_0 : (Lit.int .i64 a0_0).wf = true) (w0_1 : (Lit.int .i64 a0_1).wf = true) (w0_3 : (Lit.int .i64 a0_3).wf = true) (w0_4 : (Lit.int .i64 a0_4).wf = true) (w0_6 : (Lit.int .i64 a0_6).wf = true) (w0_7 : (Lit.int .i64 a0_7).wf = true) (w0_9 : (Lit.int .u8 a0_9).wf = true) (w0_10 : (Lit.int .i64 a0_10).wf = true) (w0_12 : (Lit.int .u16 a0_12).wf = true) (w0_13 : (Lit.int .u8 a0_13).wf = true) (w0_14 : (Lit.int .u8 a0_14).wf = true) (w0_15 : (Lit.int .u8 a0_15).wf = true) (w0_16 : (Lit.int .u8 a0_16).wf = true) (w0_17 : (Lit.int .u8 a0_17).wf = true) : SB (fOf [a0_0, a0_1, cz a0_2, a0_3, a0_4, cz a0_5, a0_6, a0_7, cz a0_8, a0_9, a0_10, cz a0_11, a0_12, a0_13, a0_14, a0_15, a0_16, a0_17]) := by
  refine ⟨wf_u8 w0_9, wf_u16 w0_12, fun j hj hk => ?_, fun j hj => ?_⟩
  · rcases (by omega : j = 13 ∨ j = 14 ∨ j = 15 ∨ j = 16 ∨ j = 17) with rfl | rfl | rfl | rfl | rfl
    · exact wf_u8 w0_13
    · exact wf_u8 w0_14
    · exact wf_u8 w0_15
    · exact wf_u8 w0_16
    · exact wf_u8 w0_17
  · rcases hj with rfl | rfl | rfl | rfl | rfl | rfl | rfl
    · exact wf_i64 w0_0
    · exact wf_i64 w0_1
    · exact wf_i64 w0_3
    · exact wf_i64 w0_4
    · exact wf_i64 w0_6
    · exact wf_i64 w0_7
    · exact wf_i64 w0_10
set_option maxRecDepth 100000 in
set_option maxHeartbeats 4000000 in
theorem psgVoices_walk (a0_0 : Int) (a0_1 : Int) (a0_2 : Bool) (a0_3 : Int) (a0_4 : Int) (a0_5 : Bool) (a0_6 : Int) (a0_7 : Int) (a0_8 : Bool) (a0_9 : Int) (a0_10 : Int) (a0_11 : Bool) (a0_12 : Int) (a0_13 : Int) (a0_14 : Int) (a0_15 : Int) (a0_16 : Int) (a0_17 : Int) (w0_0 : (Lit.int .i64 a0_0).wf = true) (w0_1 : (Lit.int .i64 a0_1).wf = true) (w0_3 : (Lit.int .i64 a0_3).wf = true) (w0_4 : (Lit.int .i64 a0_4).wf = true) (w0_6 : (Lit.int .i64 a0_6).wf = true) (w0_7 : (Lit.int .i64 a0_7).wf = true) (w0_9 : (Lit.int .u8 a0_9).wf = true) (w0_10 : (Lit.int .i64 a0_10).wf = true) (w0_12 : (Lit.int .u16 a0_12).wf = true) (w0_13 : (Lit.int .u8 a0_13).wf = true) (w0_14 : (Lit.int .u8 a0_14).wf = true) (w0_15 : (Lit.int .u8 a0_15).wf = true) (w0_16 : (Lit.int .u8 a0_16).wf = true) (w0_17 : (Lit.int .u8 a0_17).wf = true) (w : World) : Calls Try.prog 5 #[.agg #[.int .i64 a0_0, .int .i64 a0_1, .bool a0_2, .int .i64 a0_3, .int .i64 a0_4, .bool a0_5, .int .i64 a0_6, .int .i64 a0_7, .bool a0_8, .int .u8 a0_9, .int .i64 a0_10, .bool a0_11, .int .u16 a0_12, .int .u8 a0_13, .int .u8 a0_14, .int .u8 a0_15, .int .u8 a0_16, .int .u8 a0_17]] w fun e w' => e = .returned (.bool true) ∧ Below w.heap.size w w' := by
  rw [show (#[.int .i64 a0_0, .int .i64 a0_1, .bool a0_2, .int .i64 a0_3, .int .i64 a0_4, .bool a0_5, .int .i64 a0_6, .int .i64 a0_7, .bool a0_8, .int .u8 a0_9, .int .i64 a0_10, .bool a0_11, .int .u16 a0_12, .int .u8 a0_13, .int .u8 a0_14, .int .u8 a0_15, .int .u8 a0_16, .int .u8 a0_17] : Array Value) = S (fOf [a0_0, a0_1, cz a0_2, a0_3, a0_4, cz a0_5, a0_6, a0_7, cz a0_8, a0_9, a0_10, cz a0_11, a0_12, a0_13, a0_14, a0_15, a0_16, a0_17]) from sound_eq a0_0 a0_1 a0_2 a0_3 a0_4 a0_5 a0_6 a0_7 a0_8 a0_9 a0_10 a0_11 a0_12 a0_13 a0_14 a0_15 a0_16 a0_17]
  exact voices_all _ (sound_sb a0_0 a0_1 a0_2 a0_3 a0_4 a0_5 a0_6 a0_7 a0_8 a0_9 a0_10 a0_11 a0_12 a0_13 a0_14 a0_15 a0_16 a0_17 w0_0 w0_1 w0_3 w0_4 w0_6 w0_7 w0_9 w0_10 w0_12 w0_13 w0_14 w0_15 w0_16 w0_17) w
end Psg
end Go.Proofs.Ytjggocbihjdekaa
