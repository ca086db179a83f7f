/- A noise (layer 4): what the reference's functions do. No conditions but that numbers are of their kinds. -/
import Derived.Test.YtjggocbihjdekaaNoise
import Derived.Test.YtjggocbihjdekaaRow
namespace Go.Proofs.Ytjggocbihjdekaa
open Go.RowKit
open Kit NoiseM Noise
set_option linter.unusedSimpArgs false
set_option linter.unusedVariables false
attribute [local go_sem] setCells_new setCells_past setCells_drew
namespace RNoise
def hv (x : Int) (k : Nat) : Int := Nat.rec x (fun _ r => r / 2) k
def bb (x : Int) (k : Nat) : Int := hv x k % 2
theorem hv_bd (x : Int) (h0 : 0 ≤ x) (h1 : x < 65536) (k : Nat) : 0 ≤ hv x k ∧ hv x k < 65536 := by
  induction k with
  | zero => exact ⟨h0, h1⟩
  | succ k ih => exact ⟨by show 0 ≤ hv x k / 2; omega, by show hv x k / 2 < 65536; omega⟩
theorem bb_bd (x : Int) (k : Nat) : 0 ≤ bb x k ∧ bb x k ≤ 1 := by unfold bb; omega
def Z16 : Array Value := #[.int .i64 0, .int .i64 0, .int .i64 0, .int .i64 0, .int .i64 0, .int .i64 0, .int .i64 0, .int .i64 0, .int .i64 0, .int .i64 0, .int .i64 0, .int .i64 0, .int .i64 0, .int .i64 0, .int .i64 0, .int .i64 0]
theorem i16 : (Try.prog.info? 53).map (·.size) = some Z16.size := by kernel_rfl
theorem o16 : Z16.all (·.oneCell') = true := row_one 16 (fun _ => .int .i64 0) fun j _ => rfl
def bitsTo (x : Int) (k j : Nat) : Value := .int .i64 (if j < k then bb x j else 0)
theorem zR : Z16 = row 16 (fun _ => .int .i64 0) := rfl
theorem zA (x : Int) : Z16 = row 16 (bitsTo x 0) := zR.trans (row_congr _ _ _ fun j _ => by unfold bitsTo; rw [if_neg (Nat.not_lt_zero j)])
theorem bits_set (x : Int) (k : Nat) (hk : k < 16) : (row 16 (bitsTo x k)).setIfInBounds k (.int .i64 (hv x k % 2)) = row 16 (bitsTo x (k + 1)) := by
  refine row_set _ _ _ _ _ fun j hj => ?_
  unfold bitsTo
  by_cases e : j = k
  · subst e; rw [if_pos rfl, if_pos (by omega)]; rfl
  · rw [if_neg e]
    by_cases e2 : j < k
    · rw [if_pos e2, if_pos (by omega)]
    · rw [if_neg e2, if_neg (by omega)]
set_option maxRecDepth 100000 in
set_option maxHeartbeats 2000000 in
theorem bits_any (x : Nat) (hx : x < 65536) (w : World) : Calls Try.prog 35 #[.int .u16 x] w fun e w' =>
    e = .returned (.agg #[.int .i64 (bb x 0), .int .i64 (bb x 1), .int .i64 (bb x 2), .int .i64 (bb x 3), .int .i64 (bb x 4), .int .i64 (bb x 5), .int .i64 (bb x 6), .int .i64 (bb x 7), .int .i64 (bb x 8), .int .i64 (bb x 9), .int .i64 (bb x 10), .int .i64 (bb x 11), .int .i64 (bb x 12), .int .i64 (bb x 13), .int .i64 (bb x 14), .int .i64 (bb x 15)]) ∧ ∃ o1 o2, w' = (w.alloc o1).alloc o2 := by
  go_enter Try.func35, Try.ntmps35
  go_wp2_with (first | ((with_reducible refine at_store 53 (.tmp 3) (.tmp 6) ?_); refine store_row 53 (.tmp 3) (.tmp 6) (w.heap.size + 1) 53 Z16 Z16 (by repeat (first | (refine heap_at _ _ _ ?_; (simp; done)) | (refine (heap_past _ _ _ ?_).trans ?_; focus (simp; done)) | (refine (heap_drew _ _).trans ?_))) rfl o16 i16 rfl rfl rfl rfl ?_))
  go_loopw [4, 9] (fun n i wr => ∃ (k : Nat) (R A : Array Value), k ≤ 16 ∧ i = .int .i64 k ∧ n = .int .i64 (hv x k) ∧ wr = (w.alloc (.cells R 53)).alloc (.cells A 53) ∧ A = row 16 (bitsTo x k) ∧ R = row 16 (fun _ => .int .i64 0)) (fun _ i _ => (16 - intOf i).toNat)
  case atStart =>
    refine ⟨0, Z16, Z16, by omega, rfl, rfl, ?_, zA x, zR⟩
    rw [setCells_new _ _ _ _ _ (by simp) (by rfl)]
    rfl
  case round =>
    obtain ⟨k, R, A, hk, rfl, rfl, rfl, hA, hR⟩ := hrel
    obtain ⟨h0, h1⟩ := hv_bd x (by omega) (by omega) k
    obtain ⟨m, hm⟩ : ∃ m, hv x k = m := ⟨_, rfl⟩
    rw [hm] at h0 h1
    rw [hm]
    have HM := Lib.hid hm
    clear hm
    by_cases hlt : k < 16
    · have c1 := row_get 16 (bitsTo x k) k hlt
      rw [← hA] at c1
      have i0 : (0 : Int) ≤ (k : Int) := by omega
      have i1 : (k : Int) < 16 := by omega
      have HA := Lib.hid hA
      have HR := Lib.hid hR
      clear hA hR
      go_wp2
      go_roundw
      case rel => exact ⟨k + 1, R, _, by omega, by go_num, by rw [← HM.out]; rfl, rfl, by rw [HA.out, ← HM.out]; exact bits_set x k hlt, HR.out⟩
      case measure => simp [intOf]; omega
    · have hk16 : k = 16 := by omega
      subst hk16
      have sA : A.size = 16 := by rw [hA, row_size]
      have sR : R.size = 16 := by rw [hR, row_size]
      have oA : A.all (·.oneCell') = true := by rw [hA]; exact row_one _ _ fun j _ => rfl
      have eA : A = #[.int .i64 (bb x 0), .int .i64 (bb x 1), .int .i64 (bb x 2), .int .i64 (bb x 3), .int .i64 (bb x 4), .int .i64 (bb x 5), .int .i64 (bb x 6), .int .i64 (bb x 7), .int .i64 (bb x 8), .int .i64 (bb x 9), .int .i64 (bb x 10), .int .i64 (bb x 11), .int .i64 (bb x 12), .int .i64 (bb x 13), .int .i64 (bb x 14), .int .i64 (bb x 15)] := hA
      have EA := Lib.hid eA
      have iA : (Try.prog.info? 53).map (·.size) = some A.size := by rw [sA]; kernel_rfl
      have sL : A.toList.length = R.size := by rw [sR]; simpa using sA
      have IA := Lib.hid iA
      have OA := Lib.hid oA
      have SA := Lib.hid sA
      have SR := Lib.hid sR
      clear hA hR eA iA oA sA sR
      go_wp2_with (first | ((with_reducible refine at_load 53 (.tmp 3) ?_); refine load_row 53 (.tmp 3) (w.heap.size + 1) 53 A _ (by repeat (first | (refine heap_at _ _ _ ?_; (simp; done)) | (refine (heap_past _ _ _ ?_).trans ?_; focus (simp; done)) | (refine (heap_drew _ _).trans ?_))) Try.underlying53 rfl IA.out rfl rfl rfl ?_) | ((with_reducible refine at_store 53 (.tmp 2) (.tmp 19) ?_); refine store_row 53 (.tmp 2) (.tmp 19) w.heap.size 53 R A (by repeat (first | (refine heap_at _ _ _ ?_; (simp; done)) | (refine (heap_past _ _ _ ?_).trans ?_; focus (simp; done)) | (refine (heap_drew _ _).trans ?_))) (by rw [SA.out, SR.out]) OA.out IA.out rfl rfl rfl rfl ?_))
      go_simp
      exact bodyPost_ret (v := .agg A) (results_cell_row rfl _ _ w.heap.size 53 A (0, 0) _ rfl (by repeat (first | (refine heap_at _ _ _ ?_; (simp; done)) | (refine (heap_past _ _ _ ?_).trans ?_; focus (simp; done)) | (refine (heap_drew _ _).trans ?_))) Try.underlying53 rfl IA.out) rfl ⟨by rw [EA.out], _, _, rfl⟩
/-- The row's number, from the highest bit on: behind k bits. -/
def sumN (b : Nat → Int) (k : Nat) : Int := Nat.rec 0 (fun i r => 2 * r + b (15 - i)) k
theorem p16 : ∀ k, k < 16 → (2 : Int) ^ k ≤ 32768 := by decide
theorem sumN_succ (b : Nat → Int) (k : Nat) : sumN b (k + 1) = 2 * sumN b k + b (15 - k) := rfl
theorem sumN_bd (b : Nat → Int) (hb : ∀ j, 0 ≤ b j ∧ b j ≤ 1) (k : Nat) : 0 ≤ sumN b k ∧ sumN b k < 2 ^ k := by
  induction k with
  | zero => exact ⟨Int.le_refl _, (by decide : (0 : Int) < 2 ^ 0)⟩
  | succ k ih =>
    have := hb (15 - k)
    rw [sumN_succ, Int.pow_succ]
    omega
theorem number_any (b : Nat → Int) (hb : ∀ j, 0 ≤ b j ∧ b j ≤ 1) (A : Array Value) (hA : A = row 16 fun j => .int .i64 (b j)) (w : World) : Calls Try.prog 36 #[.agg A] w fun e w' =>
    e = .returned (.int .u16 (sumN b 16)) ∧ ∃ o1, w' = w.alloc o1 := by
  have HB := Lib.hid hb
  have sA : A.size = 16 := by rw [hA, row_size]
  have HA := Lib.hid hA
  clear hb hA
  go_enter Try.func36, Try.ntmps36
  go_wp2
  go_loop [3, 4] (fun n i => ∃ k : Nat, k ≤ 16 ∧ i = .int .i64 (15 - (k : Int)) ∧ n = .int .i64 (sumN b k)) (fun _ i => (intOf i + 1).toNat)
  case atStart => exact ⟨0, by omega, rfl, rfl⟩
  case round =>
    obtain ⟨k, hk, rfl, rfl⟩ := hrel
    by_cases hlt : k < 16
    · obtain ⟨m, hm⟩ : ∃ m : Nat, m = 15 - k := ⟨_, rfl⟩
      have hm2 : 15 - (k : Int) = (m : Int) := by omega
      have hb2 := sumN_bd b HB.out k
      have h2 := p16 k hlt
      have g2 : sumN b k < 32768 := by omega
      have g1 := hb2.1
      obtain ⟨g3, g4⟩ := HB.out m
      have c1 : A[m]? = some (.int .i64 (b m)) := by rw [HA.out]; exact row_get _ _ _ (by omega)
      have i0 : (0 : Int) ≤ (m : Int) := by omega
      have i1 : (m : Int) < 16 := by omega
      have e1 : sumN b (k + 1) = 2 * sumN b k + b m := by rw [sumN_succ, hm]
      have e2 : (m : Int) - 1 = 15 - ((k + 1 : Nat) : Int) := by omega
      rw [hm2]
      generalize sumN b k = S at *
      generalize b m = v at *
      have E1 := Lib.hid e1
      have E2 := Lib.hid e2
      clear hm hm2 hb2 h2 e1 e2
      go_wp2
      go_round
      case rel => exact ⟨k + 1, by omega, by rw [E2.out], by rw [E1.out]⟩
      case measure => simp [intOf] <;> omega
    · have hk16 : k = 16 := by omega
      subst hk16
      obtain ⟨S, hS⟩ : ∃ S, sumN b 16 = S := ⟨_, rfl⟩
      have hb2 := sumN_bd b HB.out 16
      rw [hS] at hb2
      obtain ⟨g1, g2⟩ := hb2
      have g2 : S < 65536 := g2
      rw [hS]
      have e1 : (15 : Int) - ((16 : Nat) : Int) = -1 := rfl
      rw [e1]
      have HS := Lib.hid hS
      clear hS e1
      go_wp2
      go_ret
      exact ⟨ret_int HS.out.symm, _, rfl⟩
/-- The row of bits behind one place on, so far. -/
def moveTo (f : Nat → Int) (k j : Nat) : Value := .int .i64 (if j < k then f (j + 1) else 0)
theorem move_set (f : Nat → Int) (k : Nat) (hk : k < 15) : (row 16 (moveTo f k)).setIfInBounds k (.int .i64 (f (k + 1))) = row 16 (moveTo f (k + 1)) := by
  refine row_set _ _ _ _ _ fun j hj => ?_
  unfold moveTo
  by_cases e : j = k
  · subst e; rw [if_pos rfl, if_pos (by omega)]
  · rw [if_neg e]
    by_cases e2 : j < k
    · rw [if_pos e2, if_pos (by omega)]
    · rw [if_neg e2, if_neg (by omega)]
def moved (f : Nat → Int) (t : Int) (j : Nat) : Int := if j < 15 then f (j + 1) else t
theorem move_last (f : Nat → Int) (t : Int) : (row 16 (moveTo f 15)).setIfInBounds 15 (.int .i64 t) = row 16 (fun j => .int .i64 (moved f t j)) := by
  refine row_set _ _ _ _ _ fun j hj => ?_
  unfold moveTo moved
  by_cases e : j = 15
  · subst e; rw [if_pos rfl, if_neg (by omega)]
  · rw [if_neg e, if_pos (show j < 15 by omega), if_pos (show j < 15 by omega)]
theorem move_last2 (f : Nat → Int) (t u : Int) : (row 16 (fun j => .int .i64 (moved f u j))).setIfInBounds 15 (.int .i64 t) = row 16 (fun j => .int .i64 (moved f t j)) := by
  refine row_set _ _ _ _ _ fun j hj => ?_
  unfold moved
  by_cases e : j = 15
  · subst e; rw [if_pos rfl, if_neg (by omega)]
  · rw [if_neg e, if_pos (show j < 15 by omega)]; rw [if_pos (show j < 15 by omega)]
theorem hv_split (x : Int) (k : Nat) : hv x k = 2 * hv x (k + 1) + bb x k := by
  show hv x k = 2 * (hv x k / 2) + hv x k % 2
  omega
theorem hv_top (x : Int) (h0 : 0 ≤ x) (k : Nat) : ∀ m : Nat, x < 2 ^ (k + m) → 0 ≤ hv x k ∧ hv x k < 2 ^ m := by
  induction k with
  | zero => intro m h; rw [Nat.zero_add] at h; exact ⟨h0, h⟩
  | succ k ih =>
    intro m h
    obtain ⟨a, b⟩ := ih (m + 1) (by rw [show k + (m + 1) = k + 1 + m by omega]; exact h)
    rw [Int.pow_succ] at b
    exact ⟨by show 0 ≤ hv x k / 2; omega, by show hv x k / 2 < _; omega⟩
theorem sum_moved (x t : Int) (h0 : 0 ≤ x) (h1 : x < 65536) (k : Nat) (hk : k ≤ 15) : sumN (moved (bb x) t) (k + 1) = hv x (16 - k) + t * 2 ^ k := by
  induction k with
  | zero =>
    have := hv_top x h0 16 0 h1
    rw [sumN_succ]
    show 2 * 0 + moved (bb x) t 15 = hv x 16 + t * 1
    unfold moved
    rw [if_neg (by omega)]
    simp at this
    omega
  | succ k ih =>
    rw [sumN_succ, ih (by omega)]
    unfold moved
    rw [if_pos (by omega), show 15 - (k + 1) + 1 = 15 - k by omega, show 16 - (k + 1) = 15 - k by omega]
    have := hv_split x (15 - k)
    rw [show 15 - k + 1 = 16 - k by omega] at this
    rw [this, Int.pow_succ]
    generalize hv x (16 - k) = a
    generalize (2 : Int) ^ k = p
    have e : t * (p * 2) = 2 * (t * p) := by rw [← Int.mul_assoc, Int.mul_comm]
    rw [e, Int.mul_add]
    omega
theorem sum_all (x t : Int) (h0 : 0 ≤ x) (h1 : x < 65536) : sumN (moved (bb x) t) 16 = x / 2 + 32768 * t := by
  have := sum_moved x t h0 h1 15 (by omega)
  rw [this]
  show hv x 0 / 2 + t * 32768 = _
  rw [Int.mul_comm]; rfl
theorem moved_bd (f : Nat → Int) (t : Int) (hf : ∀ j, 0 ≤ f j ∧ f j ≤ 1) (h0 : 0 ≤ t) (h1 : t ≤ 1) (j : Nat) : 0 ≤ moved f t j ∧ moved f t j ≤ 1 := by
  unfold moved; split
  · exact hf _
  · exact ⟨h0, h1⟩
theorem zM (f : Nat → Int) : Z16 = row 16 (moveTo f 0) := zR.trans (row_congr _ _ _ fun j _ => by unfold moveTo; rw [if_neg (Nat.not_lt_zero j)])
set_option maxRecDepth 100000 in
set_option maxHeartbeats 2000000 in
theorem move_any (x : Nat) (wh : Bool) (hx : x < 65536) (w : World) : Calls Try.prog 34 #[.int .u16 x, .bool wh] w fun e w' =>
    e = .returned (.int .u16 (mv x wh : Nat)) ∧ ∃ o1 o2 o3 o4 o5, w' = ((((w.alloc o1).alloc o2).alloc o3).alloc o4).alloc o5 := by
  obtain ⟨F, hF⟩ : ∃ F : Array Value, F = row 16 fun j => .int .i64 (bb x j) := ⟨_, rfl⟩
  have h1 := fun W => bits_any x hx W
  rw [show (#[.int .i64 (bb x 0), .int .i64 (bb x 1), .int .i64 (bb x 2), .int .i64 (bb x 3), .int .i64 (bb x 4), .int .i64 (bb x 5), .int .i64 (bb x 6), .int .i64 (bb x 7), .int .i64 (bb x 8), .int .i64 (bb x 9), .int .i64 (bb x 10), .int .i64 (bb x 11), .int .i64 (bb x 12), .int .i64 (bb x 13), .int .i64 (bb x 14), .int .i64 (bb x 15)] : Array Value) = row 16 (fun j => .int .i64 (bb x j)) from rfl, ← hF] at h1
  have sF : F.size = 16 := by rw [hF, row_size]
  have oF : F.all (·.oneCell') = true := by rw [hF]; exact row_one _ _ fun j _ => rfl
  have iF : (Try.prog.info? 53).map (·.size) = some F.size := by rw [sF]; kernel_rfl
  have H1 := Lib.hid h1
  have HF := Lib.hid hF
  have IF := Lib.hid iF
  have OF := Lib.hid oF
  have SF := Lib.hid sF
  have lF : F.toList.length = 16 := by simpa using sF
  clear h1 hF iF oF sF
  go_enter Try.func34, Try.ntmps34
  go_wp2_with (first | (go_at_call 35; with_reducible refine (H1.out _).mono ?_; rintro e w' ⟨rfl, o1, o2, rfl⟩) | ((with_reducible refine at_store 53 (.tmp 5) (.tmp 9) ?_); refine store_row 53 (.tmp 5) (.tmp 9) (w.heap.size + 2) 53 Z16 F (by repeat (first | (refine heap_at _ _ _ ?_; (simp; done)) | (refine (heap_past _ _ _ ?_).trans ?_; focus (simp; done)) | (refine (heap_drew _ _).trans ?_))) (by rw [SF.out]; rfl) OF.out IF.out rfl rfl rfl rfl ?_) | ((with_reducible refine at_store 53 (.tmp 6) (.tmp 10) ?_); refine store_row 53 (.tmp 6) (.tmp 10) (w.heap.size + 3) 53 Z16 Z16 (by repeat (first | (refine heap_at _ _ _ ?_; (simp; done)) | (refine (heap_past _ _ _ ?_).trans ?_; focus (simp; done)) | (refine (heap_drew _ _).trans ?_))) rfl o16 i16 rfl rfl rfl rfl ?_))
  go_loopw [7] (fun i wr => ∃ (k : Nat) (G : Array Value), k ≤ 15 ∧ i = .int .i64 k ∧ wr = ((((w.alloc o1).alloc o2).alloc (.cells F 53)).alloc (.cells G 53)) ∧ G = row 16 (moveTo (bb x) k)) (fun i _ => (15 - intOf i).toNat)
  case atStart =>
    refine ⟨0, Z16, by omega, rfl, ?_, zM _⟩
    rw [setCells_new _ _ _ _ _ (by simp) (by rfl)]
  case round =>
    obtain ⟨k, G, hk, rfl, rfl, hG⟩ := hrel
    by_cases hlt : k < 15
    · have c1 : F[k + 1]? = some (.int .i64 (bb x (k + 1))) := by rw [HF.out]; exact row_get _ _ _ (by omega)
      have c2 := row_get 16 (moveTo (bb x) k) k (by omega)
      rw [← hG] at c2
      have i0 : (0 : Int) ≤ (k : Int) := by omega
      have i1 : (k : Int) < 15 := by omega
      have HG := Lib.hid hG
      clear hG
      go_wp2
      go_roundw
      case rel => exact ⟨k + 1, _, by omega, by go_num, rfl, by rw [HG.out]; exact move_set _ _ hlt⟩
      case measure => simp [intOf] <;> omega
    · have hk15 : k = 15 := by omega
      subst hk15
      have b0 := bb_bd x 0
      have b3 := bb_bd x 3
      have c0 : F[0]? = some (.int .i64 (bb x 0)) := by rw [HF.out]; exact row_get _ _ _ (by omega)
      have c3 : F[3]? = some (.int .i64 (bb x 3)) := by rw [HF.out]; exact row_get _ _ _ (by omega)
      have cl := row_get 16 (moveTo (bb x) 15) 15 (by omega)
      rw [← hG] at cl
      have sG : G.size = 16 := by rw [hG, row_size]
      have hsum := sum_all x
      cases wh
      · have hA : G.setIfInBounds 15 (.int .i64 (bb x 0)) = row 16 (fun j => .int .i64 (moved (bb x) (bb x 0) j)) := by rw [hG]; exact move_last _ _
        obtain ⟨A, eA⟩ : ∃ A, G.setIfInBounds 15 (.int .i64 (bb x 0)) = A := ⟨_, rfl⟩
        rw [eA] at hA
        have h2 := fun W => number_any _ (moved_bd (bb x) (bb x 0) (bb_bd x) b0.1 b0.2) A hA W
        rw [hsum _ (by omega) (by omega)] at h2
        have e3 : (x : Int) / 2 + 32768 * bb x 0 = (mv x false : Nat) := by
          show (x : Int) / 2 + 32768 * (x % 2) = ((x / 2 + 32768 * ((x % 2 + 0) % 2) : Nat) : Int)
          omega
        rw [e3] at h2
        have iA : (Try.prog.info? 53).map (·.size) = some A.size := by rw [← eA, Array.size_setIfInBounds, sG]; kernel_rfl
        have IA := Lib.hid iA
        have H2 := Lib.hid h2
        generalize bb x 0 = v0 at *
        generalize bb x 3 = v3 at *
        clear hG hsum h2 hA e3 iA sG
        go_wp2_with (first | (go_at_call 36; refine (H2.out _).mono ?_; rintro e w' ⟨rfl, o3, rfl⟩) | ((with_reducible refine at_load 53 (.tmp 6) ?_); refine load_row 53 (.tmp 6) (w.heap.size + 3) 53 A _ (by repeat (first | (refine heap_at _ _ _ ?_; (simp; done)) | (refine (heap_past _ _ _ ?_).trans ?_; focus (simp; done)) | (refine (heap_drew _ _).trans ?_))) Try.underlying53 rfl IA.out rfl rfl rfl ?_))
        go_ret
        exact ⟨rfl, _, _, _, _, _, rfl⟩
      · have hA0 : G.setIfInBounds 15 (.int .i64 (bb x 0)) = row 16 (fun j => .int .i64 (moved (bb x) (bb x 0) j)) := by rw [hG]; exact move_last _ _
        obtain ⟨A0, eA0⟩ : ∃ A0, G.setIfInBounds 15 (.int .i64 (bb x 0)) = A0 := ⟨_, rfl⟩
        rw [eA0] at hA0
        have cA0 : A0[15]? = some (.int .i64 (moved (bb x) (bb x 0) 15)) := by rw [hA0]; exact row_get _ _ _ (by omega)
        have t0 : 0 ≤ (bb x 0 + bb x 3) % 2 := Int.emod_nonneg _ (by decide)
        have t1 : (bb x 0 + bb x 3) % 2 ≤ 1 := Int.lt_add_one_iff.1 (Int.emod_lt_of_pos _ (by decide))
        have hA : A0.setIfInBounds 15 (.int .i64 ((bb x 0 + bb x 3) % 2)) = row 16 (fun j => .int .i64 (moved (bb x) ((bb x 0 + bb x 3) % 2) j)) := by rw [hA0]; exact move_last2 _ _ _
        obtain ⟨A, eA⟩ : ∃ A, A0.setIfInBounds 15 (.int .i64 ((bb x 0 + bb x 3) % 2)) = A := ⟨_, rfl⟩
        rw [eA] at hA
        have h2 := fun W => number_any _ (moved_bd (bb x) ((bb x 0 + bb x 3) % 2) (bb_bd x) t0 t1) A hA W
        rw [hsum _ (by omega) (by omega)] at h2
        have e3 : (x : Int) / 2 + 32768 * ((bb x 0 + bb x 3) % 2) = (mv x true : Nat) := by
          show (x : Int) / 2 + 32768 * ((x % 2 + (x : Int) / 2 / 2 / 2 % 2) % 2) = ((x / 2 + 32768 * ((x % 2 + x / 8 % 2) % 2) : Nat) : Int)
          rw [show (x : Int) / 2 / 2 / 2 = (x : Int) / 8 by omega]
          rfl
        rw [e3] at h2
        have sA0 : A0.size = 16 := by rw [hA0, row_size]
        have iA : (Try.prog.info? 53).map (·.size) = some A.size := by rw [← eA, Array.size_setIfInBounds, sA0]; kernel_rfl
        have IA := Lib.hid iA
        have H2 := Lib.hid h2
        generalize moved (bb x) (bb x 0) 15 = v15 at *
        generalize bb x 0 = v0 at *
        generalize bb x 3 = v3 at *
        clear hG hsum h2 hA e3 iA sG hA0 sA0 t0 t1
        go_wp2_with (first | (go_at_call 36; refine (H2.out _).mono ?_; rintro e w' ⟨rfl, o3, rfl⟩) | ((with_reducible refine at_load 53 (.tmp 6) ?_); refine load_row 53 (.tmp 6) (w.heap.size + 3) 53 A _ (by repeat (first | (refine heap_at _ _ _ ?_; (simp; done)) | (refine (heap_past _ _ _ ?_).trans ?_; focus (simp; done)) | (refine (heap_drew _ _).trans ?_))) Try.underlying53 rfl IA.out rfl rfl rfl ?_))
        go_ret
        exact ⟨rfl, _, _, _, _, _, rfl⟩
theorem right_any (m c x : Int) (h : Bool) (hx0 : 0 ≤ x) (w : World) : Calls Try.prog 26 #[.agg #[.int .u8 m, .int .i64 c, .bool h, .int .u16 x]] w fun e w' => e = .returned (.bool (nR m c x)) ∧ ∃ o1, w' = w.alloc o1 := by
  obtain ⟨r, hr⟩ : ∃ r, nR m c x = r := ⟨_, rfl⟩
  have HR := Lib.hid hr
  rw [hr]
  clear hr
  by_cases h1 : m < 8
  · have g1 : decide (m < 8) = true := by simp; omega
    by_cases h2 : 0 ≤ c
    · by_cases h3 : c ≤ 64
      · by_cases h4 : 0 < x
        · have g4 : decide (0 < x) = true := by simpa using h4
          go_enter Try.func26, Try.ntmps26
          go_wp2
          go_ret
          exact ⟨ret_bool (by rw [← HR.out, nR_of h1 h2 h3 (by omega)]), _, rfl⟩
        · have g4 : decide (0 < x) = false := by simp; omega
          go_enter Try.func26, Try.ntmps26
          go_wp2
          go_ret
          exact ⟨ret_bool (by rw [← HR.out, nR_no (by omega)]), _, rfl⟩
      · have g3 : decide (c ≤ 64) = false := by simp; omega
        go_enter Try.func26, Try.ntmps26
        go_wp2
        go_ret
        exact ⟨ret_bool (by rw [← HR.out, nR_no (by omega)]), _, rfl⟩
    · have g2 : decide (0 ≤ c) = false := by simp; omega
      go_enter Try.func26, Try.ntmps26
      go_wp2
      go_ret
      exact ⟨ret_bool (by rw [← HR.out, nR_no (by omega)]), _, rfl⟩
  · have g1 : decide (m < 8) = false := by simp; omega
    go_enter Try.func26, Try.ntmps26
    go_wp2
    go_ret
    exact ⟨ret_bool (by rw [← HR.out, nR_no (by omega)]), _, rfl⟩
theorem step_0 (c x : Nat) (h t : Bool) (hc : c ≤ 64) (hx : x < 65536) (w : World) : Calls Try.prog 31 #[.agg #[.int .u8 0, .int .i64 c, .bool h, .int .u16 x], .bool t] w fun e w' => e = .returned (.agg #[.int .u8 0, .int .i64 (nC 0 c : Nat), .bool (nH 0 c t h), .int .u16 (nS 0 c x t h : Nat)]) ∧ Below w.heap.size w w' := by
  have hr : (0 : Nat) ≠ 3 := by decide
  by_cases h1 : c ≤ 1
  · have d1 : tk 0 c t = true := by unfold tk; rw [if_neg hr]; simpa using h1
    have n1 : nC 0 c = 16 := by unfold nC; rw [if_neg hr, if_pos h1]
    have k1 : ∀ h, nH 0 c t h = !h := by intro h; unfold nH; rw [d1]; cases h <;> rfl
    have D1 := Lib.hid d1
    have N1 := Lib.hid n1
    have K1 := Lib.hid k1
    clear d1 n1 k1
    have g1 : (c : Int) ≤ 1 := by omega
    cases h
    · have F0 := Lib.hid (show nC 0 c = 16 from by exact N1.out)
      have F1 := Lib.hid (show nH 0 c t false = true from by exact K1.out false)
      have F2 := Lib.hid (show nS 0 c x t false = mv x false from by unfold nS; rw [if_pos ⟨D1.out, rfl⟩]; rfl)
      have x1 : ∀ w, (Instr.index 59 (.agg #[.int .i64 16, .int .i64 32, .int .i64 64]) (.int .u8 0)).run Try.prog w = .ok (.int .i64 16) w := fun _ => by kernel_rfl
      go_enter Try.func31, Try.ntmps31
      go_wp2_with (go_at_call 34; with_reducible refine (move_any x false hx _).mono ?_; rintro e w' ⟨rfl, o1, o2, o3, o4, o5, rfl⟩)
      go_returns
      exact ⟨agg4 (by rw [F0.out]; try omega) (by rw [F1.out]; try rfl) (by rw [F2.out]; try rfl), by go_grown⟩
    · have F0 := Lib.hid (show nC 0 c = 16 from by exact N1.out)
      have F1 := Lib.hid (show nH 0 c t true = false from by exact K1.out true)
      have F2 := Lib.hid (show nS 0 c x t true = x from by unfold nS; rw [if_neg (by simp)])
      have x1 : ∀ w, (Instr.index 59 (.agg #[.int .i64 16, .int .i64 32, .int .i64 64]) (.int .u8 0)).run Try.prog w = .ok (.int .i64 16) w := fun _ => by kernel_rfl
      go_enter Try.func31, Try.ntmps31
      go_wp2
      go_returns
      exact ⟨agg4 (by rw [F0.out]; try omega) (by rw [F1.out]; try rfl) (by rw [F2.out]; try rfl), by go_grown⟩
  · have d1 : tk 0 c t = false := by unfold tk; rw [if_neg hr]; simpa using h1
    have n1 : nC 0 c = c - 1 := by unfold nC; rw [if_neg hr, if_neg h1]
    have k1 : nH 0 c t h = h := by unfold nH; rw [d1]; cases h <;> rfl
    have s1 : nS 0 c x t h = x := by unfold nS; rw [if_neg (fun g => by rw [show 0 % 4 = 0 from rfl, d1] at g; exact absurd g.1 (by decide))]
    have D1 := Lib.hid d1
    have N1 := Lib.hid n1
    have K1 := Lib.hid k1
    have S1 := Lib.hid s1
    clear d1 n1 k1 s1
    have g1 : 1 < (c : Int) := by omega
    have F0 := Lib.hid (show nC 0 c = c - 1 from by exact N1.out)
    have F1 := Lib.hid (show nH 0 c t h = h from by exact K1.out)
    have F2 := Lib.hid (show nS 0 c x t h = x from by exact S1.out)
    go_enter Try.func31, Try.ntmps31
    go_wp2
    go_returns
    exact ⟨agg4 (by rw [F0.out]; try omega) (by rw [F1.out]; try rfl) (by rw [F2.out]; try rfl), by go_grown⟩
theorem step_1 (c x : Nat) (h t : Bool) (hc : c ≤ 64) (hx : x < 65536) (w : World) : Calls Try.prog 31 #[.agg #[.int .u8 1, .int .i64 c, .bool h, .int .u16 x], .bool t] w fun e w' => e = .returned (.agg #[.int .u8 1, .int .i64 (nC 1 c : Nat), .bool (nH 1 c t h), .int .u16 (nS 1 c x t h : Nat)]) ∧ Below w.heap.size w w' := by
  have hr : (1 : Nat) ≠ 3 := by decide
  by_cases h1 : c ≤ 1
  · have d1 : tk 1 c t = true := by unfold tk; rw [if_neg hr]; simpa using h1
    have n1 : nC 1 c = 32 := by unfold nC; rw [if_neg hr, if_pos h1]
    have k1 : ∀ h, nH 1 c t h = !h := by intro h; unfold nH; rw [d1]; cases h <;> rfl
    have D1 := Lib.hid d1
    have N1 := Lib.hid n1
    have K1 := Lib.hid k1
    clear d1 n1 k1
    have g1 : (c : Int) ≤ 1 := by omega
    cases h
    · have F0 := Lib.hid (show nC 1 c = 32 from by exact N1.out)
      have F1 := Lib.hid (show nH 1 c t false = true from by exact K1.out false)
      have F2 := Lib.hid (show nS 1 c x t false = mv x false from by unfold nS; rw [if_pos ⟨D1.out, rfl⟩]; rfl)
      have x1 : ∀ w, (Instr.index 59 (.agg #[.int .i64 16, .int .i64 32, .int .i64 64]) (.int .u8 1)).run Try.prog w = .ok (.int .i64 32) w := fun _ => by kernel_rfl
      go_enter Try.func31, Try.ntmps31
      go_wp2_with (go_at_call 34; with_reducible refine (move_any x false hx _).mono ?_; rintro e w' ⟨rfl, o1, o2, o3, o4, o5, rfl⟩)
      go_returns
      exact ⟨agg4 (by rw [F0.out]; try omega) (by rw [F1.out]; try rfl) (by rw [F2.out]; try rfl), by go_grown⟩
    · have F0 := Lib.hid (show nC 1 c = 32 from by exact N1.out)
      have F1 := Lib.hid (show nH 1 c t true = false from by exact K1.out true)
      have F2 := Lib.hid (show nS 1 c x t true = x from by unfold nS; rw [if_neg (by simp)])
      have x1 : ∀ w, (Instr.index 59 (.agg #[.int .i64 16, .int .i64 32, .int .i64 64]) (.int .u8 1)).run Try.prog w = .ok (.int .i64 32) w := fun _ => by kernel_rfl
      go_enter Try.func31, Try.ntmps31
      go_wp2
      go_returns
      exact ⟨agg4 (by rw [F0.out]; try omega) (by rw [F1.out]; try rfl) (by rw [F2.out]; try rfl), by go_grown⟩
  · have d1 : tk 1 c t = false := by unfold tk; rw [if_neg hr]; simpa using h1
    have n1 : nC 1 c = c - 1 := by unfold nC; rw [if_neg hr, if_neg h1]
    have k1 : nH 1 c t h = h := by unfold nH; rw [d1]; cases h <;> rfl
    have s1 : nS 1 c x t h = x := by unfold nS; rw [if_neg (fun g => by rw [show 1 % 4 = 1 from rfl, d1] at g; exact absurd g.1 (by decide))]
    have D1 := Lib.hid d1
    have N1 := Lib.hid n1
    have K1 := Lib.hid k1
    have S1 := Lib.hid s1
    clear d1 n1 k1 s1
    have g1 : 1 < (c : Int) := by omega
    have F0 := Lib.hid (show nC 1 c = c - 1 from by exact N1.out)
    have F1 := Lib.hid (show nH 1 c t h = h from by exact K1.out)
    have F2 := Lib.hid (show nS 1 c x t h = x from by exact S1.out)
    go_enter Try.func31, Try.ntmps31
    go_wp2
    go_returns
    exact ⟨agg4 (by rw [F0.out]; try omega) (by rw [F1.out]; try rfl) (by rw [F2.out]; try rfl), by go_grown⟩
theorem step_2 (c x : Nat) (h t : Bool) (hc : c ≤ 64) (hx : x < 65536) (w : World) : Calls Try.prog 31 #[.agg #[.int .u8 2, .int .i64 c, .bool h, .int .u16 x], .bool t] w fun e w' => e = .returned (.agg #[.int .u8 2, .int .i64 (nC 2 c : Nat), .bool (nH 2 c t h), .int .u16 (nS 2 c x t h : Nat)]) ∧ Below w.heap.size w w' := by
  have hr : (2 : Nat) ≠ 3 := by decide
  by_cases h1 : c ≤ 1
  · have d1 : tk 2 c t = true := by unfold tk; rw [if_neg hr]; simpa using h1
    have n1 : nC 2 c = 64 := by unfold nC; rw [if_neg hr, if_pos h1]
    have k1 : ∀ h, nH 2 c t h = !h := by intro h; unfold nH; rw [d1]; cases h <;> rfl
    have D1 := Lib.hid d1
    have N1 := Lib.hid n1
    have K1 := Lib.hid k1
    clear d1 n1 k1
    have g1 : (c : Int) ≤ 1 := by omega
    cases h
    · have F0 := Lib.hid (show nC 2 c = 64 from by exact N1.out)
      have F1 := Lib.hid (show nH 2 c t false = true from by exact K1.out false)
      have F2 := Lib.hid (show nS 2 c x t false = mv x false from by unfold nS; rw [if_pos ⟨D1.out, rfl⟩]; rfl)
      have x1 : ∀ w, (Instr.index 59 (.agg #[.int .i64 16, .int .i64 32, .int .i64 64]) (.int .u8 2)).run Try.prog w = .ok (.int .i64 64) w := fun _ => by kernel_rfl
      go_enter Try.func31, Try.ntmps31
      go_wp2_with (go_at_call 34; with_reducible refine (move_any x false hx _).mono ?_; rintro e w' ⟨rfl, o1, o2, o3, o4, o5, rfl⟩)
      go_returns
      exact ⟨agg4 (by rw [F0.out]; try omega) (by rw [F1.out]; try rfl) (by rw [F2.out]; try rfl), by go_grown⟩
    · have F0 := Lib.hid (show nC 2 c = 64 from by exact N1.out)
      have F1 := Lib.hid (show nH 2 c t true = false from by exact K1.out true)
      have F2 := Lib.hid (show nS 2 c x t true = x from by unfold nS; rw [if_neg (by simp)])
      have x1 : ∀ w, (Instr.index 59 (.agg #[.int .i64 16, .int .i64 32, .int .i64 64]) (.int .u8 2)).run Try.prog w = .ok (.int .i64 64) w := fun _ => by kernel_rfl
      go_enter Try.func31, Try.ntmps31
      go_wp2
      go_returns
      exact ⟨agg4 (by rw [F0.out]; try omega) (by rw [F1.out]; try rfl) (by rw [F2.out]; try rfl), by go_grown⟩
  · have d1 : tk 2 c t = false := by unfold tk; rw [if_neg hr]; simpa using h1
    have n1 : nC 2 c = c - 1 := by unfold nC; rw [if_neg hr, if_neg h1]
    have k1 : nH 2 c t h = h := by unfold nH; rw [d1]; cases h <;> rfl
    have s1 : nS 2 c x t h = x := by unfold nS; rw [if_neg (fun g => by rw [show 2 % 4 = 2 from rfl, d1] at g; exact absurd g.1 (by decide))]
    have D1 := Lib.hid d1
    have N1 := Lib.hid n1
    have K1 := Lib.hid k1
    have S1 := Lib.hid s1
    clear d1 n1 k1 s1
    have g1 : 1 < (c : Int) := by omega
    have F0 := Lib.hid (show nC 2 c = c - 1 from by exact N1.out)
    have F1 := Lib.hid (show nH 2 c t h = h from by exact K1.out)
    have F2 := Lib.hid (show nS 2 c x t h = x from by exact S1.out)
    go_enter Try.func31, Try.ntmps31
    go_wp2
    go_returns
    exact ⟨agg4 (by rw [F0.out]; try omega) (by rw [F1.out]; try rfl) (by rw [F2.out]; try rfl), by go_grown⟩
theorem step_3 (c x : Nat) (h t : Bool) (hc : c ≤ 64) (hx : x < 65536) (w : World) : Calls Try.prog 31 #[.agg #[.int .u8 3, .int .i64 c, .bool h, .int .u16 x], .bool t] w fun e w' => e = .returned (.agg #[.int .u8 3, .int .i64 (nC 3 c : Nat), .bool (nH 3 c t h), .int .u16 (nS 3 c x t h : Nat)]) ∧ Below w.heap.size w w' := by
  cases t
  · have F0 := Lib.hid (show nC 3 c = c from by rfl)
    have F1 := Lib.hid (show nH 3 c false h = h from by cases h <;> rfl)
    have F2 := Lib.hid (show nS 3 c x false h = x from by cases h <;> rfl)
    go_enter Try.func31, Try.ntmps31
    go_wp2
    go_returns
    exact ⟨agg4 (by rw [F0.out]; try omega) (by rw [F1.out]; try rfl) (by rw [F2.out]; try rfl), by go_grown⟩
  · cases h
    · have F0 := Lib.hid (show nC 3 c = c from by rfl)
      have F1 := Lib.hid (show nH 3 c true false = true from by rfl)
      have F2 := Lib.hid (show nS 3 c x true false = mv x false from by rfl)
      go_enter Try.func31, Try.ntmps31
      go_wp2_with (go_at_call 34; with_reducible refine (move_any x false hx _).mono ?_; rintro e w' ⟨rfl, o1, o2, o3, o4, o5, rfl⟩)
      go_returns
      exact ⟨agg4 (by rw [F0.out]; try omega) (by rw [F1.out]; try rfl) (by rw [F2.out]; try rfl), by go_grown⟩
    · have F0 := Lib.hid (show nC 3 c = c from by rfl)
      have F1 := Lib.hid (show nH 3 c true true = false from by rfl)
      have F2 := Lib.hid (show nS 3 c x true true = x from by rfl)
      go_enter Try.func31, Try.ntmps31
      go_wp2
      go_returns
      exact ⟨agg4 (by rw [F0.out]; try omega) (by rw [F1.out]; try rfl) (by rw [F2.out]; try rfl), by go_grown⟩
theorem step_4 (c x : Nat) (h t : Bool) (hc : c ≤ 64) (hx : x < 65536) (w : World) : Calls Try.prog 31 #[.agg #[.int .u8 4, .int .i64 c, .bool h, .int .u16 x], .bool t] w fun e w' => e = .returned (.agg #[.int .u8 4, .int .i64 (nC 0 c : Nat), .bool (nH 0 c t h), .int .u16 (nS 4 c x t h : Nat)]) ∧ Below w.heap.size w w' := by
  have hr : (0 : Nat) ≠ 3 := by decide
  by_cases h1 : c ≤ 1
  · have d1 : tk 0 c t = true := by unfold tk; rw [if_neg hr]; simpa using h1
    have n1 : nC 0 c = 16 := by unfold nC; rw [if_neg hr, if_pos h1]
    have k1 : ∀ h, nH 0 c t h = !h := by intro h; unfold nH; rw [d1]; cases h <;> rfl
    have D1 := Lib.hid d1
    have N1 := Lib.hid n1
    have K1 := Lib.hid k1
    clear d1 n1 k1
    have g1 : (c : Int) ≤ 1 := by omega
    cases h
    · have F0 := Lib.hid (show nC 0 c = 16 from by exact N1.out)
      have F1 := Lib.hid (show nH 0 c t false = true from by exact K1.out false)
      have F2 := Lib.hid (show nS 4 c x t false = mv x true from by unfold nS; rw [if_pos ⟨D1.out, rfl⟩]; rfl)
      have x1 : ∀ w, (Instr.index 59 (.agg #[.int .i64 16, .int .i64 32, .int .i64 64]) (.int .u8 0)).run Try.prog w = .ok (.int .i64 16) w := fun _ => by kernel_rfl
      go_enter Try.func31, Try.ntmps31
      go_wp2_with (go_at_call 34; with_reducible refine (move_any x true hx _).mono ?_; rintro e w' ⟨rfl, o1, o2, o3, o4, o5, rfl⟩)
      go_returns
      exact ⟨agg4 (by rw [F0.out]; try omega) (by rw [F1.out]; try rfl) (by rw [F2.out]; try rfl), by go_grown⟩
    · have F0 := Lib.hid (show nC 0 c = 16 from by exact N1.out)
      have F1 := Lib.hid (show nH 0 c t true = false from by exact K1.out true)
      have F2 := Lib.hid (show nS 4 c x t true = x from by unfold nS; rw [if_neg (by simp)])
      have x1 : ∀ w, (Instr.index 59 (.agg #[.int .i64 16, .int .i64 32, .int .i64 64]) (.int .u8 0)).run Try.prog w = .ok (.int .i64 16) w := fun _ => by kernel_rfl
      go_enter Try.func31, Try.ntmps31
      go_wp2
      go_returns
      exact ⟨agg4 (by rw [F0.out]; try omega) (by rw [F1.out]; try rfl) (by rw [F2.out]; try rfl), by go_grown⟩
  · have d1 : tk 0 c t = false := by unfold tk; rw [if_neg hr]; simpa using h1
    have n1 : nC 0 c = c - 1 := by unfold nC; rw [if_neg hr, if_neg h1]
    have k1 : nH 0 c t h = h := by unfold nH; rw [d1]; cases h <;> rfl
    have s1 : nS 4 c x t h = x := by unfold nS; rw [if_neg (fun g => by rw [show 4 % 4 = 0 from rfl, d1] at g; exact absurd g.1 (by decide))]
    have D1 := Lib.hid d1
    have N1 := Lib.hid n1
    have K1 := Lib.hid k1
    have S1 := Lib.hid s1
    clear d1 n1 k1 s1
    have g1 : 1 < (c : Int) := by omega
    have F0 := Lib.hid (show nC 0 c = c - 1 from by exact N1.out)
    have F1 := Lib.hid (show nH 0 c t h = h from by exact K1.out)
    have F2 := Lib.hid (show nS 4 c x t h = x from by exact S1.out)
    go_enter Try.func31, Try.ntmps31
    go_wp2
    go_returns
    exact ⟨agg4 (by rw [F0.out]; try omega) (by rw [F1.out]; try rfl) (by rw [F2.out]; try rfl), by go_grown⟩
theorem step_5 (c x : Nat) (h t : Bool) (hc : c ≤ 64) (hx : x < 65536) (w : World) : Calls Try.prog 31 #[.agg #[.int .u8 5, .int .i64 c, .bool h, .int .u16 x], .bool t] w fun e w' => e = .returned (.agg #[.int .u8 5, .int .i64 (nC 1 c : Nat), .bool (nH 1 c t h), .int .u16 (nS 5 c x t h : Nat)]) ∧ Below w.heap.size w w' := by
  have hr : (1 : Nat) ≠ 3 := by decide
  by_cases h1 : c ≤ 1
  · have d1 : tk 1 c t = true := by unfold tk; rw [if_neg hr]; simpa using h1
    have n1 : nC 1 c = 32 := by unfold nC; rw [if_neg hr, if_pos h1]
    have k1 : ∀ h, nH 1 c t h = !h := by intro h; unfold nH; rw [d1]; cases h <;> rfl
    have D1 := Lib.hid d1
    have N1 := Lib.hid n1
    have K1 := Lib.hid k1
    clear d1 n1 k1
    have g1 : (c : Int) ≤ 1 := by omega
    cases h
    · have F0 := Lib.hid (show nC 1 c = 32 from by exact N1.out)
      have F1 := Lib.hid (show nH 1 c t false = true from by exact K1.out false)
      have F2 := Lib.hid (show nS 5 c x t false = mv x true from by unfold nS; rw [if_pos ⟨D1.out, rfl⟩]; rfl)
      have x1 : ∀ w, (Instr.index 59 (.agg #[.int .i64 16, .int .i64 32, .int .i64 64]) (.int .u8 1)).run Try.prog w = .ok (.int .i64 32) w := fun _ => by kernel_rfl
      go_enter Try.func31, Try.ntmps31
      go_wp2_with (go_at_call 34; with_reducible refine (move_any x true hx _).mono ?_; rintro e w' ⟨rfl, o1, o2, o3, o4, o5, rfl⟩)
      go_returns
      exact ⟨agg4 (by rw [F0.out]; try omega) (by rw [F1.out]; try rfl) (by rw [F2.out]; try rfl), by go_grown⟩
    · have F0 := Lib.hid (show nC 1 c = 32 from by exact N1.out)
      have F1 := Lib.hid (show nH 1 c t true = false from by exact K1.out true)
      have F2 := Lib.hid (show nS 5 c x t true = x from by unfold nS; rw [if_neg (by simp)])
      have x1 : ∀ w, (Instr.index 59 (.agg #[.int .i64 16, .int .i64 32, .int .i64 64]) (.int .u8 1)).run Try.prog w = .ok (.int .i64 32) w := fun _ => by kernel_rfl
      go_enter Try.func31, Try.ntmps31
      go_wp2
      go_returns
      exact ⟨agg4 (by rw [F0.out]; try omega) (by rw [F1.out]; try rfl) (by rw [F2.out]; try rfl), by go_grown⟩
  · have d1 : tk 1 c t = false := by unfold tk; rw [if_neg hr]; simpa using h1
    have n1 : nC 1 c = c - 1 := by unfold nC; rw [if_neg hr, if_neg h1]
    have k1 : nH 1 c t h = h := by unfold nH; rw [d1]; cases h <;> rfl
    have s1 : nS 5 c x t h = x := by unfold nS; rw [if_neg (fun g => by rw [show 5 % 4 = 1 from rfl, d1] at g; exact absurd g.1 (by decide))]
    have D1 := Lib.hid d1
    have N1 := Lib.hid n1
    have K1 := Lib.hid k1
    have S1 := Lib.hid s1
    clear d1 n1 k1 s1
    have g1 : 1 < (c : Int) := by omega
    have F0 := Lib.hid (show nC 1 c = c - 1 from by exact N1.out)
    have F1 := Lib.hid (show nH 1 c t h = h from by exact K1.out)
    have F2 := Lib.hid (show nS 5 c x t h = x from by exact S1.out)
    go_enter Try.func31, Try.ntmps31
    go_wp2
    go_returns
    exact ⟨agg4 (by rw [F0.out]; try omega) (by rw [F1.out]; try rfl) (by rw [F2.out]; try rfl), by go_grown⟩
theorem step_6 (c x : Nat) (h t : Bool) (hc : c ≤ 64) (hx : x < 65536) (w : World) : Calls Try.prog 31 #[.agg #[.int .u8 6, .int .i64 c, .bool h, .int .u16 x], .bool t] w fun e w' => e = .returned (.agg #[.int .u8 6, .int .i64 (nC 2 c : Nat), .bool (nH 2 c t h), .int .u16 (nS 6 c x t h : Nat)]) ∧ Below w.heap.size w w' := by
  have hr : (2 : Nat) ≠ 3 := by decide
  by_cases h1 : c ≤ 1
  · have d1 : tk 2 c t = true := by unfold tk; rw [if_neg hr]; simpa using h1
    have n1 : nC 2 c = 64 := by unfold nC; rw [if_neg hr, if_pos h1]
    have k1 : ∀ h, nH 2 c t h = !h := by intro h; unfold nH; rw [d1]; cases h <;> rfl
    have D1 := Lib.hid d1
    have N1 := Lib.hid n1
    have K1 := Lib.hid k1
    clear d1 n1 k1
    have g1 : (c : Int) ≤ 1 := by omega
    cases h
    · have F0 := Lib.hid (show nC 2 c = 64 from by exact N1.out)
      have F1 := Lib.hid (show nH 2 c t false = true from by exact K1.out false)
      have F2 := Lib.hid (show nS 6 c x t false = mv x true from by unfold nS; rw [if_pos ⟨D1.out, rfl⟩]; rfl)
      have x1 : ∀ w, (Instr.index 59 (.agg #[.int .i64 16, .int .i64 32, .int .i64 64]) (.int .u8 2)).run Try.prog w = .ok (.int .i64 64) w := fun _ => by kernel_rfl
      go_enter Try.func31, Try.ntmps31
      go_wp2_with (go_at_call 34; with_reducible refine (move_any x true hx _).mono ?_; rintro e w' ⟨rfl, o1, o2, o3, o4, o5, rfl⟩)
      go_returns
      exact ⟨agg4 (by rw [F0.out]; try omega) (by rw [F1.out]; try rfl) (by rw [F2.out]; try rfl), by go_grown⟩
    · have F0 := Lib.hid (show nC 2 c = 64 from by exact N1.out)
      have F1 := Lib.hid (show nH 2 c t true = false from by exact K1.out true)
      have F2 := Lib.hid (show nS 6 c x t true = x from by unfold nS; rw [if_neg (by simp)])
      have x1 : ∀ w, (Instr.index 59 (.agg #[.int .i64 16, .int .i64 32, .int .i64 64]) (.int .u8 2)).run Try.prog w = .ok (.int .i64 64) w := fun _ => by kernel_rfl
      go_enter Try.func31, Try.ntmps31
      go_wp2
      go_returns
      exact ⟨agg4 (by rw [F0.out]; try omega) (by rw [F1.out]; try rfl) (by rw [F2.out]; try rfl), by go_grown⟩
  · have d1 : tk 2 c t = false := by unfold tk; rw [if_neg hr]; simpa using h1
    have n1 : nC 2 c = c - 1 := by unfold nC; rw [if_neg hr, if_neg h1]
    have k1 : nH 2 c t h = h := by unfold nH; rw [d1]; cases h <;> rfl
    have s1 : nS 6 c x t h = x := by unfold nS; rw [if_neg (fun g => by rw [show 6 % 4 = 2 from rfl, d1] at g; exact absurd g.1 (by decide))]
    have D1 := Lib.hid d1
    have N1 := Lib.hid n1
    have K1 := Lib.hid k1
    have S1 := Lib.hid s1
    clear d1 n1 k1 s1
    have g1 : 1 < (c : Int) := by omega
    have F0 := Lib.hid (show nC 2 c = c - 1 from by exact N1.out)
    have F1 := Lib.hid (show nH 2 c t h = h from by exact K1.out)
    have F2 := Lib.hid (show nS 6 c x t h = x from by exact S1.out)
    go_enter Try.func31, Try.ntmps31
    go_wp2
    go_returns
    exact ⟨agg4 (by rw [F0.out]; try omega) (by rw [F1.out]; try rfl) (by rw [F2.out]; try rfl), by go_grown⟩
theorem step_7 (c x : Nat) (h t : Bool) (hc : c ≤ 64) (hx : x < 65536) (w : World) : Calls Try.prog 31 #[.agg #[.int .u8 7, .int .i64 c, .bool h, .int .u16 x], .bool t] w fun e w' => e = .returned (.agg #[.int .u8 7, .int .i64 (nC 3 c : Nat), .bool (nH 3 c t h), .int .u16 (nS 7 c x t h : Nat)]) ∧ Below w.heap.size w w' := by
  cases t
  · have F0 := Lib.hid (show nC 3 c = c from by rfl)
    have F1 := Lib.hid (show nH 3 c false h = h from by cases h <;> rfl)
    have F2 := Lib.hid (show nS 7 c x false h = x from by cases h <;> rfl)
    go_enter Try.func31, Try.ntmps31
    go_wp2
    go_returns
    exact ⟨agg4 (by rw [F0.out]; try omega) (by rw [F1.out]; try rfl) (by rw [F2.out]; try rfl), by go_grown⟩
  · cases h
    · have F0 := Lib.hid (show nC 3 c = c from by rfl)
      have F1 := Lib.hid (show nH 3 c true false = true from by rfl)
      have F2 := Lib.hid (show nS 7 c x true false = mv x true from by rfl)
      go_enter Try.func31, Try.ntmps31
      go_wp2_with (go_at_call 34; with_reducible refine (move_any x true hx _).mono ?_; rintro e w' ⟨rfl, o1, o2, o3, o4, o5, rfl⟩)
      go_returns
      exact ⟨agg4 (by rw [F0.out]; try omega) (by rw [F1.out]; try rfl) (by rw [F2.out]; try rfl), by go_grown⟩
    · have F0 := Lib.hid (show nC 3 c = c from by rfl)
      have F1 := Lib.hid (show nH 3 c true true = false from by rfl)
      have F2 := Lib.hid (show nS 7 c x true true = x from by rfl)
      go_enter Try.func31, Try.ntmps31
      go_wp2
      go_returns
      exact ⟨agg4 (by rw [F0.out]; try omega) (by rw [F1.out]; try rfl) (by rw [F2.out]; try rfl), by go_grown⟩
theorem step_any (m : Int) (c x : Nat) (h t : Bool) (hm0 : 0 ≤ m) (hm : m < 8) (hc : c ≤ 64) (hx : x < 65536) (w : World) : Calls Try.prog 31 #[.agg #[.int .u8 m, .int .i64 c, .bool h, .int .u16 x], .bool t] w fun e w' =>
    e = .returned (.agg #[.int .u8 m, .int .i64 (nC (m.toNat % 4) c : Nat), .bool (nH (m.toNat % 4) c t h), .int .u16 (nS m.toNat c x t h : Nat)]) ∧ Below w.heap.size w w' := by
  rcases (by omega : m = 0 ∨ m = 1 ∨ m = 2 ∨ m = 3 ∨ m = 4 ∨ m = 5 ∨ m = 6 ∨ m = 7) with rfl | rfl | rfl | rfl | rfl | rfl | rfl | rfl
  · exact step_0 c x h t hc hx w
  · exact step_1 c x h t hc hx w
  · exact step_2 c x h t hc hx w
  · exact step_3 c x h t hc hx w
  · exact step_4 c x h t hc hx w
  · exact step_5 c x h t hc hx w
  · exact step_6 c x h t hc hx w
  · exact step_7 c x h t hc hx w
end RNoise
end Go.Proofs.Ytjggocbihjdekaa
