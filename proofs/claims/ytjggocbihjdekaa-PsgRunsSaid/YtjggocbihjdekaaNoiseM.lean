/- A row of sixteen bits that goes round (layer 4), in plain numbers: one place on, so many places on, when it is itself again; a noise's steps. No conditions but those of the lemmas. -/
import Derived.Test.YtjggocbihjdekaaKit
namespace Go.Proofs.Ytjggocbihjdekaa
namespace NoiseM
open Kit
set_option linter.unusedVariables false
def mv (x : Nat) (wh : Bool) : Nat := x / 2 + 32768 * ((x % 2 + cond wh (x / 8 % 2) 0) % 2)
theorem mv_lt (x : Nat) (wh : Bool) (h : x < 65536) : mv x wh < 65536 := by unfold mv; cases wh <;> simp only [cond_true, cond_false] <;> omega
theorem mv_parts (a b x y : Nat) (hx : x < 32768) (hy : y < 32768) (h : x + 32768 * a = y + 32768 * b) : x = y ∧ a = b := by omega
theorem bit_eq (p q c : Nat) (hp : p < 2) (hq : q < 2) (h : (p + c) % 2 = (q + c) % 2) : p = q := by omega
theorem mv_inj (x y : Nat) (wh : Bool) (hx : x < 65536) (hy : y < 65536) (h : mv x wh = mv y wh) : x = y := by
  obtain ⟨h1, h2⟩ := mv_parts _ _ _ _ (by omega) (by omega) (show x / 2 + 32768 * ((x % 2 + cond wh (x / 8 % 2) 0) % 2) = y / 2 + 32768 * ((y % 2 + cond wh (y / 8 % 2) 0) % 2) from h)
  have h3 : x / 8 = y / 8 := by omega
  rw [h3] at h2
  have := bit_eq _ _ _ (by omega) (by omega) h2
  omega
theorem mv_zero (x : Nat) (wh : Bool) (hx : x < 65536) : mv x wh = 0 ↔ x = 0 := by
  have e : mv 0 wh = 0 := by cases wh <;> rfl
  exact ⟨fun h => mv_inj x 0 wh hx (by omega) (h.trans e.symm), fun h => by rw [h, e]⟩
def it (wh : Bool) (k x : Nat) : Nat := Nat.rec x (fun _ r => mv r wh) k
theorem it_succ (wh : Bool) (k x : Nat) : it wh (k + 1) x = mv (it wh k x) wh := rfl
theorem it_zero (wh : Bool) (x : Nat) : it wh 0 x = x := rfl
theorem it_lt (wh : Bool) (k x : Nat) (h : x < 65536) : it wh k x < 65536 := by
  induction k with
  | zero => exact h
  | succ k ih => exact mv_lt _ _ ih
theorem it_pos (wh : Bool) (k x : Nat) (h : x < 65536) (h0 : x ≠ 0) : it wh k x ≠ 0 := by
  induction k with
  | zero => exact h0
  | succ k ih => rw [it_succ]; exact fun e => ih ((mv_zero _ _ (it_lt _ _ _ h)).1 e)
theorem it_add (wh : Bool) (i j x : Nat) : it wh (i + j) x = it wh i (it wh j x) := by
  induction i with
  | zero => rw [Nat.zero_add]; rfl
  | succ i ih => rw [Nat.add_right_comm, it_succ, it_succ, ih]
theorem it_back (wh : Bool) (i x y : Nat) (hx : x < 65536) (hy : y < 65536) (h : it wh i x = it wh i y) : x = y := by
  induction i with
  | zero => exact h
  | succ i ih => exact ih (mv_inj _ _ _ (it_lt _ _ _ hx) (it_lt _ _ _ hy) h)
theorem php (N : Nat) : ∀ f : Nat → Nat, (∀ i, i ≤ N → f i < N) → ∃ i j, i < j ∧ j ≤ N ∧ f i = f j := by
  induction N with
  | zero => intro f h; exact absurd (h 0 (Nat.le_refl _)) (Nat.not_lt_zero _)
  | succ N ih =>
    intro f h
    by_cases he : ∃ i, i ≤ N ∧ f i = f (N + 1)
    · obtain ⟨i, hi, e⟩ := he
      exact ⟨i, N + 1, by omega, Nat.le_refl _, e⟩
    · have hne : ∀ i, i ≤ N → f i ≠ f (N + 1) := fun i hi e => he ⟨i, hi, e⟩
      obtain ⟨i, j, hij, hj, e⟩ := ih (fun i => if f i = N then f (N + 1) else f i) (fun i hi => by
        have h1 := h i (by omega)
        have h2 := h (N + 1) (Nat.le_refl _)
        have h3 := hne i hi
        split <;> omega)
      refine ⟨i, j, hij, by omega, ?_⟩
      have h3 := hne i (by omega)
      have h4 := hne j (by omega)
      split at e <;> split at e <;> omega
theorem least (p : Nat → Prop) : ∀ n, p n → ∃ m, m ≤ n ∧ p m ∧ ∀ j, j < m → ¬ p j := by
  intro n
  induction n using Nat.strongRecOn with
  | ind n ih =>
    intro hn
    by_cases h : ∃ j, j < n ∧ p j
    · obtain ⟨j, hj, pj⟩ := h
      obtain ⟨m, hm, pm, hl⟩ := ih j hj pj
      exact ⟨m, by omega, pm, hl⟩
    · exact ⟨n, Nat.le_refl _, hn, fun j hj pj => h ⟨j, hj, pj⟩⟩
/-- 'n' is when a row is itself again. -/
def per (wh : Bool) (x n : Nat) : Prop := 1 ≤ n ∧ n < 65536 ∧ it wh n x = x ∧ ∀ j, 1 ≤ j → j < n → it wh j x ≠ x
theorem per_ex (wh : Bool) (x : Nat) (h : x < 65536) (h0 : x ≠ 0) : ∃ n, per wh x n := by
  obtain ⟨i, j, hij, hj, e⟩ := php 65535 (fun k => it wh k x - 1) (fun i _ => by
    have := it_lt wh i x h
    have := it_pos wh i x h h0
    omega)
  have e' : it wh i x = it wh i (it wh (j - i) x) := by
    rw [← it_add, show i + (j - i) = j by omega]
    have := it_pos wh i x h h0
    have := it_pos wh j x h h0
    omega
  have e2 := it_back wh i _ _ h (it_lt _ _ _ h) e'
  obtain ⟨m, hm, ⟨pm1, pm2⟩, hl⟩ := least (fun n => 1 ≤ n ∧ it wh n x = x) (j - i) ⟨by omega, e2.symm⟩
  exact ⟨m, pm1, by omega, pm2, fun k hk hkm e => hl k hkm ⟨hk, e⟩⟩
theorem per_16 : per false 32768 16 := by
  refine ⟨by omega, by omega, by decide +kernel, ?_⟩
  intro j hj h16
  have h : allB 16 (fun j => Nat.beq j 0 || !Nat.beq (it false j 32768) 32768) = true := by decide +kernel
  have := allB_at h h16
  intro e
  rw [e] at this
  simp at this
  omega
theorem per_round (wh : Bool) (x n k : Nat) (h : per wh x n) (hk : 1 ≤ k) (hk2 : k ≤ n) : (it wh k x = x) ↔ k = n := by
  obtain ⟨h1, h2, h3, h4⟩ := h
  constructor
  · intro e
    by_cases g : k = n
    · exact g
    · exact absurd e (h4 k hk (by omega))
  · rintro rfl; exact h3
/-! A noise's step: its count, its half; the row. 'r' is the mode's lower part, 't' whether the tone beside it turned. -/
def tk (r c : Nat) (t : Bool) : Bool := if r = 3 then t else decide (c ≤ 1)
def nC (r c : Nat) : Nat := if r = 3 then c else if c ≤ 1 then 16 * 2 ^ r else c - 1
def nH (r c : Nat) (t h : Bool) : Bool := xor (tk r c t) h
def nS (m c x : Nat) (t h : Bool) : Nat := if tk (m % 4) c t = true ∧ h = false then mv x (decide (m / 4 = 1)) else x
theorem nC_le (r c : Nat) (hr : r < 4) (hc : c ≤ 64) : nC r c ≤ 64 := by
  unfold nC
  rcases (by omega : r = 0 ∨ r = 1 ∨ r = 2 ∨ r = 3) with rfl | rfl | rfl | rfl <;> simp <;> first | exact hc | (split <;> omega)
theorem nS_bd (m c x : Nat) (t h : Bool) (h1 : x < 65536) (h0 : x ≠ 0) : nS m c x t h < 65536 ∧ nS m c x t h ≠ 0 := by
  unfold nS; split
  · exact ⟨mv_lt _ _ h1, fun e => h0 ((mv_zero _ _ h1).1 e)⟩
  · exact ⟨h1, h0⟩
/-- So many steps of a noise beside a tone that never turns: its count, its half, how often the row moved. -/
structure St where
  c : Nat
  h : Bool
  m : Nat
def wst (r c : Nat) (h : Bool) (k : Nat) : St := Nat.rec ⟨c, h, 0⟩ (fun _ s => ⟨nC r s.c, nH r s.c false s.h, s.m + cond (nH r s.c false s.h && !s.h) 1 0⟩) k
theorem wst_succ (r c : Nat) (h : Bool) (k : Nat) : wst r c h (k + 1) = ⟨nC r (wst r c h k).c, nH r (wst r c h k).c false (wst r c h k).h, (wst r c h k).m + cond (nH r (wst r c h k).c false (wst r c h k).h && !(wst r c h k).h) 1 0⟩ := rfl
theorem wst_c (r c : Nat) (h : Bool) (k : Nat) (hr : r < 4) (hc : c ≤ 64) : (wst r c h k).c ≤ 64 := by
  induction k with
  | zero => exact hc
  | succ k ih => exact nC_le _ _ hr ih
theorem wst_m (r c : Nat) (h : Bool) (k : Nat) : (wst r c h k).m ≤ k := by
  induction k with
  | zero => exact Nat.le_refl _
  | succ k ih =>
    rw [wst_succ]
    dsimp only
    cases (nH r (wst r c h k).c false (wst r c h k).h && !(wst r c h k).h) <;> simp only [cond_true, cond_false] <;> omega
theorem wst_3 (c : Nat) (h : Bool) (k : Nat) : wst 3 c h k = ⟨c, h, 0⟩ := by
  induction k with
  | zero => rfl
  | succ k ih =>
    rw [wst_succ, ih]
    cases h <;> rfl
def okM (r m : Nat) : Bool := match r with | 0 => Nat.ble 2 m && Nat.ble m 4 | 1 => Nat.ble 1 m && Nat.ble m 3 | 2 => Nat.ble m 2 | _ => true
/-- The same, faster for the kernel. -/
def run : Nat → Nat → Nat → Bool → Nat → Nat
  | 0, _, _, _, m => m
  | f + 1, top, c, h, m => cond (Nat.ble c 1) (run f top top (!h) (cond h m (m + 1))) (run f top (c - 1) h m)
theorem run_ok : allB 3 (fun r => allB 65 fun c => okM r (run 128 (16 * 2 ^ r) c true 0) && okM r (run 128 (16 * 2 ^ r) c false 0)) = true := by decide +kernel
theorem run_wst (r : Nat) (hr : r ≠ 3) : ∀ (f c : Nat) (h : Bool) (m : Nat), run f (16 * 2 ^ r) c h m = m + (wst r c h f).m := by
  have key : ∀ (f c : Nat) (h : Bool), (wst r c h (f + 1)).c = (wst r (nC r c) (nH r c false h) f).c ∧ (wst r c h (f + 1)).h = (wst r (nC r c) (nH r c false h) f).h ∧ (wst r c h (f + 1)).m = (wst r (nC r c) (nH r c false h) f).m + cond (nH r c false h && !h) 1 0 := by
    intro f
    induction f with
    | zero => intro c h; refine ⟨rfl, rfl, ?_⟩; show 0 + _ = 0 + _; rfl
    | succ f ih =>
      intro c h
      obtain ⟨a, b, d⟩ := ih c h
      rw [wst_succ r c h (f + 1), wst_succ r (nC r c) _ f]
      dsimp only
      rw [a, b, d]
      exact ⟨rfl, rfl, by omega⟩
  intro f
  induction f with
  | zero => intro c h m; rfl
  | succ f ih =>
    intro c h m
    rw [(key f c h).2.2]
    unfold run
    by_cases hc : c ≤ 1
    · have e1 : Nat.ble c 1 = true := by rw [Nat.ble_eq]; exact hc
      have e2 : tk r c false = true := by unfold tk; rw [if_neg hr]; simpa using hc
      have e3 : nC r c = 16 * 2 ^ r := by unfold nC; rw [if_neg hr, if_pos hc]
      have e4 : nH r c false h = !h := by unfold nH; rw [e2]; cases h <;> rfl
      rw [e1, e3, e4]
      simp only [cond_true]
      rw [ih]
      cases h <;> simp <;> omega
    · have e1 : Nat.ble c 1 = false := by rw [← Bool.not_eq_true, Nat.ble_eq]; exact hc
      have e2 : tk r c false = false := by unfold tk; rw [if_neg hr]; simpa using hc
      have e3 : nC r c = c - 1 := by unfold nC; rw [if_neg hr, if_neg hc]
      have e4 : nH r c false h = h := by unfold nH; rw [e2]; cases h <;> rfl
      rw [e1, e3, e4]
      simp only [cond_false]
      rw [ih]
      cases h <;> simp
theorem waits (r c : Nat) (h : Bool) (hr : r < 3) (hc : c ≤ 64) : okM r (wst r c h 128).m = true := by
  have g := allB_at (allB_at run_ok hr) (show c < 65 by omega)
  simp only [Bool.and_eq_true] at g
  have e := run_wst r (by omega) 128 c h 0
  rw [Nat.zero_add] at e
  rw [← e]
  cases h
  · exact g.2
  · exact g.1
end NoiseM
end Go.Proofs.Ytjggocbihjdekaa
