/- A chip of three tones and a noise (layer 5): what the program's functions do, part 5. No conditions but that numbers are of their kinds. -/
import Derived.Test.YtjggocbihjdekaaPsg4
import Derived.RegionTactic
import Derived.LoopTactic
import Derived.Deep.RegionHeld3
import Derived.Lib.Hide
namespace Go.Proofs.Ytjggocbihjdekaa
open Go.RowKit
open Kit
set_option linter.unusedSimpArgs false
set_option linter.unusedVariables false
attribute [local simp] blkAt_alloc blkNew_cells putRow_cells blkAt_drew BlkN.set BlkOne.setInt BlkOne.setBool blkPut_alloc blkPut_drew blkAt_blkPut_other size_blkPut nq2 nq3 nq4 nq5 nq6 nq7 nq8
namespace Psg
attribute [local simp ↓] sl_in ss_in vs_in
attribute [local simp] sl_run ss_run vs_run
theorem u8_wf {z : Int} (h : 0 ≤ z ∧ z < 256) : (Lit.int .u8 z).wf = true := by simp [Lit.wf, IntKind.min, IntKind.max, IntKind.signed, IntKind.bits]; omega
theorem u16_wf {z : Int} (h : 0 ≤ z ∧ z < 65536) : (Lit.int .u16 z).wf = true := by simp [Lit.wf, IntKind.min, IntKind.max, IntKind.signed, IntKind.bits]; omega
theorem i64_wf {z : Int} (h : -9223372036854775808 ≤ z ∧ z ≤ 9223372036854775807) : (Lit.int .i64 z).wf = true := by simp [Lit.wf, IntKind.min, IntKind.max, IntKind.signed, IntKind.bits]; omega
theorem heldP {P : Program} {n : Nat} {args : Array Value} {r : Value} {T : World → Prop} (hT : ∀ W W', T W → Below W.heap.size W W' → T W') (h : ∀ W, Calls P n args W fun e w' => e = .returned r ∧ Below W.heap.size W w') (W : World) (hW : T W) : Calls P n args W fun e w' => e = .returned r ∧ T w' :=
  (h W).mono fun e w' ⟨e1, e2⟩ => ⟨e1, hT _ _ hW e2⟩
theorem belowOf1 {P : Program} {n : Nat} {args : Array Value} {r : Value} (h : ∀ W, Calls P n args W fun e w' => e = .returned r ∧ ∃ o, w' = W.alloc o) (W : World) : Calls P n args W fun e w' => e = .returned r ∧ Below W.heap.size W w' :=
  (h W).mono fun e w' ⟨e1, o, e2⟩ => ⟨e1, by rw [e2]; exact (Below.refl _ _).alloc (Nat.le_refl _) _⟩
set_option maxRecDepth 100000 in
set_option maxHeartbeats 4000000 in
theorem leavesS (f : Nat → Int) (h : SB f) : leavesOk [some .i64, some .i64, none, some .i64, some .i64, none, some .i64, some .i64, none, some .u8, some .i64, none, some .u16, some .u8, some .u8, some .u8, some .u8, some .u8] (S f).toList := ⟨⟨_, rfl, i64_wf (h.2.2.2 0 (by omega))⟩, ⟨_, rfl, i64_wf (h.2.2.2 1 (by omega))⟩, ⟨_, rfl⟩, ⟨_, rfl, i64_wf (h.2.2.2 3 (by omega))⟩, ⟨_, rfl, i64_wf (h.2.2.2 4 (by omega))⟩, ⟨_, rfl⟩, ⟨_, rfl, i64_wf (h.2.2.2 6 (by omega))⟩, ⟨_, rfl, i64_wf (h.2.2.2 7 (by omega))⟩, ⟨_, rfl⟩, ⟨_, rfl, u8_wf h.1⟩, ⟨_, rfl, i64_wf (h.2.2.2 10 (by omega))⟩, ⟨_, rfl⟩, ⟨_, rfl, u16_wf h.2.1⟩, ⟨_, rfl, u8_wf (h.2.2.1 13 (by omega) (by omega))⟩, ⟨_, rfl, u8_wf (h.2.2.1 14 (by omega) (by omega))⟩, ⟨_, rfl, u8_wf (h.2.2.1 15 (by omega) (by omega))⟩, ⟨_, rfl, u8_wf (h.2.2.1 16 (by omega) (by omega))⟩, ⟨_, rfl, u8_wf (h.2.2.1 17 (by omega) (by omega))⟩, trivial⟩
set_option maxRecDepth 100000 in
set_option maxHeartbeats 4000000 in
theorem eqS (f : Nat → Int) (h : SB f) (w : World) : (Op.equalIn 10000 30 (.agg (S f)) (.agg (S f))).run Try.prog w = .ok true w := Kit.eq_self 6 6 30 [some .i64, some .i64, none, some .i64, some .i64, none, some .i64, some .i64, none, some .u8, some .i64, none, some .u16, some .u8, some .u8, some .u8, some .u8, some .u8] (by kernel_rfl) (by kernel_rfl) (by decide) (by kernel_rfl) _ (leavesS f h) (by kernel_rfl) w
def allF (j : Nat) : Int := if j = 2 then 1 else if j = 5 then 1 else if j = 8 then 1 else if j = 12 then 1 else 0
theorem allS : S allF = #[.int .i64 0, .int .i64 0, .bool true, .int .i64 0, .int .i64 0, .bool true, .int .i64 0, .int .i64 0, .bool true, .int .u8 0, .int .i64 0, .bool false, .int .u16 1, .int .u8 0, .int .u8 0, .int .u8 0, .int .u8 0, .int .u8 0] := by rfl
theorem newSB : SB newF := ⟨by decide, by decide, fun j a b => by
    rcases (by omega : j = 13 ∨ j = 14 ∨ j = 15 ∨ j = 16 ∨ j = 17) with rfl | rfl | rfl | rfl | rfl <;> decide, fun j a => by
    rcases a with rfl | rfl | rfl | rfl | rfl | rfl | rfl <;> decide⟩
theorem allSB : SB allF := ⟨by decide, by decide, fun j a b => by
    rcases (by omega : j = 13 ∨ j = 14 ∨ j = 15 ∨ j = 16 ∨ j = 17) with rfl | rfl | rfl | rfl | rfl <;> decide, fun j a => by
    rcases a with rfl | rfl | rfl | rfl | rfl | rfl | rfl <;> decide⟩
theorem heN : (S newF).setIfInBounds 17 (.int .u8 8) = S (upd newF 17 8) := S_set newF 17 8 _ (by rfl)
def NS (w : World) (ga : Nat) (A0 A1 A2 : Array Value) (W : World) : Prop := blkAt W ga = A0 ∧ blkAt W (ga + 1) = A1 ∧ blkAt W (ga + 1 + 1) = A2 ∧ ga + 1 + 1 < W.heap.size ∧ Below w.heap.size w W
theorem NS.below {w : World} {ga : Nat} {A0 A1 A2 : Array Value} {W W' : World} (h : NS w ga A0 A1 A2 W) (hb : Below W.heap.size W W') : NS w ga A0 A1 A2 W' := by
  obtain ⟨h0, h1, h2, h3, h4⟩ := h
  refine ⟨?_, ?_, ?_, Nat.lt_of_lt_of_le h3 hb.size, h4.trans (hb.mono h4.size)⟩
  · rw [← h0]; unfold blkAt; rw [hb.block _ (by omega)]
  · rw [← h1]; unfold blkAt; rw [hb.block _ (by omega)]
  · rw [← h2]; unfold blkAt; rw [hb.block _ (by omega)]
set_option maxRecDepth 100000 in
set_option maxHeartbeats 4000000 in
theorem psgNames_walk (w : World) : Calls Try.prog 3 #[] w fun e w' => e = .returned (.bool true) ∧ Below w.heap.size w w' := by
  have hq := eqS newF newSB
  have hr1 := right_any newF
  rw [show rightV newF = true by decide] at hr1
  have hr2 := right_any (upd newF 17 8)
  rw [show rightV (upd newF 17 8) = false by decide] at hr2
  have hs1 := sample_any allF allSB
  rw [show pS allF 4 = 32764 by decide] at hs1
  have hs2 := sample_any newF newSB
  rw [show pS newF 4 = 0 by decide] at hs2
  have hv := belowOf1 (fun W => volume_any 255 (by omega) (by omega) W)
  rw [show volV 255 = 0 by decide] at hv
  have hn := new_any
  have hrn := rnew_any
  have c17 := S_get newF 17 (by omega)
  change (S newF)[17]? = some (.int .u8 0) at c17
  have he := heN
  have hl := allS
  have s0 : BlkN (S newF) 18 := S_size _
  have o0 : BlkOne (S newF) := S_one _
  have s1 : BlkN (S (upd newF 17 8)) 18 := S_size _
  have s2 : BlkN (S allF) 18 := S_size _
  have o2 : BlkOne (S allF) := S_one _
  have zn := zN
  unfold Z18 at zn
  generalize S newF = A0 at *
  generalize S (upd newF 17 8) = A1 at *
  generalize S allF = A2 at *
  have hl2 := hl.symm
  clear hl
  have HN := Lib.hid hn
  have HAL := Lib.hid (fun ga => heldP (T := NS w ga A0 A1 A2) (fun W W' h b => h.below b) alive_any)
  have HRN := Lib.hid (fun ga => heldP (T := NS w ga A0 A1 A2) (fun W W' h b => h.below b) hrn)
  have HR1 := Lib.hid (fun ga => heldP (T := NS w ga A0 A1 A2) (fun W W' h b => h.below b) hr1)
  have HR2 := Lib.hid (fun ga => heldP (T := NS w ga A0 A1 A2) (fun W W' h b => h.below b) hr2)
  have HS1 := Lib.hid (fun ga => heldP (T := NS w ga A0 A1 A2) (fun W W' h b => h.below b) hs1)
  have HS2 := Lib.hid (fun ga => heldP (T := NS w ga A0 A1 A2) (fun W W' h b => h.below b) hs2)
  have HV := Lib.hid (fun ga => heldP (T := NS w ga A0 A1 A2) (fun W W' h b => h.below b) hv)
  clear hn hrn hr1 hr2 hs1 hs2 hv
  go_enter Try.func3, Try.ntmps3
  go_wp2_with fail
  refine (HN.out _).mono ?_
  rintro e wa ⟨rfl, ba⟩
  go_wp2_with fail
  have hT : NS w wa.heap.size A0 A1 A2 (((wa.alloc (.cells A0 30)).alloc (.cells A1 30)).alloc (.cells A2 30)) := by
    have := ba.size
    have h1 := ba.alloc ba.size (.cells A0 30)
    have h2 := h1.alloc h1.size (.cells A1 30)
    have h3 := h2.alloc h2.size (.cells A2 30)
    exact ⟨by simp, by simp, by simp, by simp, h3⟩
  generalize ((wa.alloc (.cells A0 30)).alloc (.cells A1 30)).alloc (.cells A2 30) = wb at *
  generalize wa.heap.size = ga at *
  obtain ⟨k0, k1, k2, k3, k4⟩ := hT
  clear ba he hl2
  go_region_held3 (fun W => blkAt W ga = A0 ∧ blkAt W (ga + 1) = A1 ∧ blkAt W (ga + 1 + 1) = A2 ∧ ga + 1 + 1 < W.heap.size ∧ Below w.heap.size w W) (first | assumption | (exact ⟨by first | assumption | (simp [*]; done) | (go_simp; done), by first | assumption | (simp [*]; done) | (go_simp; done), by first | assumption | (simp [*]; done) | (go_simp; done), by first | assumption | (simp; done) | (simp; omega) | omega, by first | assumption | (exact Below.drew (by assumption)) | go_grown⟩)) (first | (go_at_call 9; (with_reducible refine (HAL.out ga _ ?_).mono ?_); (unfold NS; exact ⟨by first | assumption | (simp [*]; done) | (go_simp; done), by first | assumption | (simp [*]; done) | (go_simp; done), by first | assumption | (simp [*]; done) | (go_simp; done), by first | assumption | (simp; done) | (simp; omega) | omega, by first | assumption | (exact Below.drew (by assumption)) | go_grown⟩); rintro e w' ⟨rfl, y0, y1, y2, y3, y4⟩) | (go_at_call 10; (with_reducible refine (HRN.out ga _ ?_).mono ?_); (unfold NS; exact ⟨by first | assumption | (simp [*]; done) | (go_simp; done), by first | assumption | (simp [*]; done) | (go_simp; done), by first | assumption | (simp [*]; done) | (go_simp; done), by first | assumption | (simp; done) | (simp; omega) | omega, by first | assumption | (exact Below.drew (by assumption)) | go_grown⟩); rintro e w' ⟨rfl, y0, y1, y2, y3, y4⟩) | (go_at_call 11; (with_reducible refine (HR1.out ga _ ?_).mono ?_); (unfold NS; exact ⟨by first | assumption | (simp [*]; done) | (go_simp; done), by first | assumption | (simp [*]; done) | (go_simp; done), by first | assumption | (simp [*]; done) | (go_simp; done), by first | assumption | (simp; done) | (simp; omega) | omega, by first | assumption | (exact Below.drew (by assumption)) | go_grown⟩); rintro e w' ⟨rfl, y0, y1, y2, y3, y4⟩) | (go_at_call 11; (with_reducible refine (HR2.out ga _ ?_).mono ?_); (unfold NS; exact ⟨by first | assumption | (simp [*]; done) | (go_simp; done), by first | assumption | (simp [*]; done) | (go_simp; done), by first | assumption | (simp [*]; done) | (go_simp; done), by first | assumption | (simp; done) | (simp; omega) | omega, by first | assumption | (exact Below.drew (by assumption)) | go_grown⟩); rintro e w' ⟨rfl, y0, y1, y2, y3, y4⟩) | (go_at_call 12; (with_reducible refine (HS1.out ga _ ?_).mono ?_); (unfold NS; exact ⟨by first | assumption | (simp [*]; done) | (go_simp; done), by first | assumption | (simp [*]; done) | (go_simp; done), by first | assumption | (simp [*]; done) | (go_simp; done), by first | assumption | (simp; done) | (simp; omega) | omega, by first | assumption | (exact Below.drew (by assumption)) | go_grown⟩); rintro e w' ⟨rfl, y0, y1, y2, y3, y4⟩) | (go_at_call 12; (with_reducible refine (HS2.out ga _ ?_).mono ?_); (unfold NS; exact ⟨by first | assumption | (simp [*]; done) | (go_simp; done), by first | assumption | (simp [*]; done) | (go_simp; done), by first | assumption | (simp [*]; done) | (go_simp; done), by first | assumption | (simp; done) | (simp; omega) | omega, by first | assumption | (exact Below.drew (by assumption)) | go_grown⟩); rintro e w' ⟨rfl, y0, y1, y2, y3, y4⟩) | (go_at_call 13; (with_reducible refine (HV.out ga _ ?_).mono ?_); (unfold NS; exact ⟨by first | assumption | (simp [*]; done) | (go_simp; done), by first | assumption | (simp [*]; done) | (go_simp; done), by first | assumption | (simp [*]; done) | (go_simp; done), by first | assumption | (simp; done) | (simp; omega) | omega, by first | assumption | (exact Below.drew (by assumption)) | go_grown⟩); rintro e w' ⟨rfl, y0, y1, y2, y3, y4⟩))
  all_goals
    go_wp2_with fail
    go_ret
    exact ⟨ret_bool (by simp), by first | assumption | go_grown⟩
end Psg
end Go.Proofs.Ytjggocbihjdekaa
