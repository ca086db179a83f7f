/- What instructions are called (layer 11): what the reference's replacements give, in plain words. No conditions but those stated. -/
import Derived.Test.YtnhgmdfmhmkpgaaGreatDoorNmRE
import Derived.Test.YtnhgmdfmhmkpgaaGreatDoorNmP0
import Derived.Lib.SplitLaws
import Derived.KernelRfl
namespace Go.Proofs.YtnhgmdfmhmkpgaaGreatDoor
open Go.RowKit
set_option linter.unusedSimpArgs false
set_option linter.unusedVariables false
namespace Nm
theorem up_dgc : ∀ k : Fin 16, Lib.upperB (dgc k.val) = hxd k.val := by decide +kernel
theorem up_dg (k : Nat) (h : k < 16) : Lib.upperB (dgc k) = hxd k := up_dgc ⟨k, h⟩
theorem hxd_0 : hxd 0 = 48 := by decide +kernel
theorem hex4_eq (a b : Nat) (ha : a < 256) (hb : b < 256) : hexL (256 * a + b) 4 = 36 :: (rhexL a ++ rhexL b) := by
  obtain ⟨n, hn⟩ : ∃ n, 256 * a + b = n := ⟨_, rfl⟩
  have q1 : a / 16 = n / 16 / 16 / 16 := by omega
  have q2 : a % 16 = n / 16 / 16 % 16 := by omega
  have q3 : b / 16 = n / 16 % 16 := by omega
  have q4 : b % 16 = n % 16 := by omega
  have hr : rhexL a ++ rhexL b = [hxd (n / 16 / 16 / 16), hxd (n / 16 / 16 % 16), hxd (n / 16 % 16), hxd (n % 16)] := by
    unfold rhexL; rw [q1, q2, q3, q4]; rfl
  rw [hr, hn]
  have hlt : n < 65536 := by omega
  clear hr q1 q2 q3 q4 hn
  unfold hexL
  by_cases h1 : n < 16
  · have e : Lib.toUpperA (hx 3 n) = [hxd n] := by rw [hx, if_pos h1]; simp [Lib.toUpperA, up_dg n h1]
    rw [e, show n / 16 / 16 / 16 = 0 by omega, show n / 16 / 16 % 16 = 0 by omega, show n / 16 % 16 = 0 by omega, show n % 16 = n by omega, hxd_0]
    rfl
  by_cases h2 : n / 16 < 16
  · have e : Lib.toUpperA (hx 3 n) = [hxd (n / 16), hxd (n % 16)] := by
      rw [hx, if_neg h1, hx, if_pos h2]; simp [Lib.toUpperA, up_dg _ h2, up_dg (n % 16) (by omega)]
    rw [e, show n / 16 / 16 / 16 = 0 by omega, show n / 16 / 16 % 16 = 0 by omega, show n / 16 % 16 = n / 16 by omega, hxd_0]
    rfl
  by_cases h3 : n / 16 / 16 < 16
  · have e : Lib.toUpperA (hx 3 n) = [hxd (n / 16 / 16), hxd (n / 16 % 16), hxd (n % 16)] := by
      rw [hx, if_neg h1, hx, if_neg h2, hx, if_pos h3]; simp [Lib.toUpperA, up_dg _ h3, up_dg (n % 16) (by omega), up_dg (n / 16 % 16) (by omega)]
    rw [e, show n / 16 / 16 / 16 = 0 by omega, show n / 16 / 16 % 16 = n / 16 / 16 by omega, hxd_0]
    rfl
  · have e : Lib.toUpperA (hx 3 n) = [hxd (n / 16 / 16 / 16), hxd (n / 16 / 16 % 16), hxd (n / 16 % 16), hxd (n % 16)] := by
      rw [hx, if_neg h1, hx, if_neg h2, hx, if_neg h3, hx]; simp [Lib.toUpperA, up_dg (n / 16 / 16 / 16) (by omega), up_dg (n % 16) (by omega), up_dg (n / 16 % 16) (by omega), up_dg (n / 16 / 16 % 16) (by omega)]
    rw [e]
    rfl
theorem idx_of {s sub : Str} (h : Lib.contains s sub = true) : ∃ i : Nat, Lib.index s sub = i ∧ s = s.take i ++ (sub ++ s.drop (i + sub.length)) := by
  have h0 : 0 ≤ Lib.index s sub := of_decide_eq_true h
  rcases Lib.index_spec s sub with ⟨h1, _⟩ | ⟨i, h1, h2, h3, _⟩
  · omega
  · refine ⟨i, h1, ?_⟩
    unfold Lib.occAt at h3
    obtain ⟨t, ht⟩ := List.isPrefixOf_iff_prefix.1 h3
    have e : s.drop (i + sub.length) = t := by rw [← List.drop_drop, ← ht, List.drop_left]
    rw [e, ht, List.take_append_drop]
theorem rep_one {s old : Str} (new : Str) (hne : old ≠ new) (h0 : old ≠ []) (h : Lib.contains s old = true) : ∃ A B : Str, s = A ++ (old ++ B) ∧ Lib.replace s old new 1 = A ++ (new ++ B) := by
  obtain ⟨i, hi, hs⟩ := idx_of h
  refine ⟨_, _, hs, ?_⟩
  have hc := Lib.count_hit h0 hi
  unfold Lib.replace Lib.replaceNum
  rw [if_neg (by simpa using hne), if_neg (by omega)]
  show Lib.replaceK old new 1 s = _
  rw [Lib.replaceK_hit _ _ _ _ i hi, Lib.replaceK, List.append_assoc]
theorem has_count {s sub : Str} (h : Lib.contains s sub = true) (c : UInt8) : sub.count c ≤ s.count c := by
  obtain ⟨i, _, hs⟩ := idx_of h
  rw [hs, List.count_append, List.count_append]
  omega
theorem rep_count {s old : Str} (new : Str) (hne : old ≠ new) (h0 : old ≠ []) (h : Lib.contains s old = true) (c : UInt8) : (Lib.replace s old new 1).count c + old.count c = s.count c + new.count c := by
  obtain ⟨A, B, h1, h2⟩ := rep_one new hne h0 h
  rw [h2]
  rw [h1]
  simp only [List.count_append]
  omega
def sgnOk (v : Nat) : Bool := Nat.beq (Lib.count (sgnL v) [110]) 0 && Nat.beq (Lib.count (sgnL v) [101]) 0 && (sgnL v != [43, 100]) && (sgnL v != [101]) && Nat.ble (sgnL v).length 5
def sgnOkB : Bool := (List.range 256).all sgnOk
set_option maxRecDepth 100000 in
theorem sgnOkB_ok : sgnOkB = true := by kernel_rfl
theorem sgn_ok (v : Nat) (h : v < 256) : (sgnL v).count 110 = 0 ∧ (sgnL v).count 101 = 0 ∧ [43, 100] ≠ sgnL v ∧ [101] ≠ sgnL v ∧ (sgnL v).length ≤ 5 := by
  have e := List.all_eq_true.1 sgnOkB_ok v (List.mem_range.2 h)
  unfold sgnOk at e
  simp only [Bool.and_eq_true, Lib.count_one] at e
  obtain ⟨⟨⟨⟨e1, e2⟩, e3⟩, e4⟩, e5⟩ := e
  exact ⟨Nat.eq_of_beq_eq_true e1, Nat.eq_of_beq_eq_true e2, fun h => by rw [← h] at e3; simp at e3, fun h => by rw [← h] at e4; simp at e4, Nat.le_of_ble_eq_true e5⟩
def markOf (pg : Nat) (P : Str) : Bool := bif Lib.contains P [43, 100] then Nat.ble 3 pg && Nat.ble (Lib.count P [110]) (bif Nat.ble 5 pg then 0 else 1) && Nat.beq (Lib.count P [101]) 0 else Nat.ble pg 4
def markB (pg : Nat) : Bool := (List.range 256).all fun o => markOf pg (patL ((pg : Nat) : Int) o)
set_option maxRecDepth 100000 in
theorem mark0 : markB 0 = true := by kernel_rfl
set_option maxRecDepth 100000 in
theorem mark1 : markB 1 = true := by kernel_rfl
set_option maxRecDepth 100000 in
theorem mark2 : markB 2 = true := by kernel_rfl
set_option maxRecDepth 100000 in
theorem mark3 : markB 3 = true := by kernel_rfl
set_option maxRecDepth 100000 in
theorem mark4 : markB 4 = true := by kernel_rfl
set_option maxRecDepth 100000 in
theorem mark5 : markB 5 = true := by kernel_rfl
set_option maxRecDepth 100000 in
theorem mark6 : markB 6 = true := by kernel_rfl
theorem mark_of {pg : Nat} (hp : pg < 7) {o : Nat} (ho : o < 256) : markOf pg (patL (pg : Int) o) = true := by
  have go : ∀ {n : Nat}, markB n = true → markOf n (patL (n : Int) o) = true := fun h => List.all_eq_true.1 h o (List.mem_range.2 ho)
  match pg, hp with
  | 0, _ => exact go mark0
  | 1, _ => exact go mark1
  | 2, _ => exact go mark2
  | 3, _ => exact go mark3
  | 4, _ => exact go mark4
  | 5, _ => exact go mark5
  | 6, _ => exact go mark6
theorem once_of {pg : Nat} (hp : pg < 7) {o : Nat} (ho : o < 256) : onceOf (patL (pg : Int) o) = true := by
  have go : ∀ {n : Int}, onceB n = true → onceOf (patL n o) = true := fun h => List.all_eq_true.1 h o (List.mem_range.2 ho)
  match pg, hp with
  | 0, _ => exact go once0
  | 1, _ => exact go once1
  | 2, _ => exact go once2
  | 3, _ => exact go once3
  | 4, _ => exact go once4
  | 5, _ => exact go once5
  | 6, _ => exact go once6
/-- What is asked of a text, that its marks be replaced by the program as by the reference. -/
structure Once (S : Str) : Prop where
  nn : Lib.count S [110, 110] ≤ 1
  n : Lib.contains S [110, 110] = false → Lib.count S [110] ≤ 1
  e : Lib.count S [101] ≤ 1
theorem once_pat {pg : Nat} (hp : pg < 7) {o : Nat} (ho : o < 256) : Lib.count (patL (pg : Int) o) [43, 100] ≤ 1 ∧ Once (patL (pg : Int) o) := by
  have e := once_of hp ho
  unfold onceOf at e
  simp only [Bool.and_eq_true, Bool.or_eq_true] at e
  obtain ⟨⟨⟨e1, e2⟩, e3⟩, e4⟩ := e
  refine ⟨Nat.le_of_ble_eq_true e1, Nat.le_of_ble_eq_true e2, fun h => ?_, Nat.le_of_ble_eq_true e4⟩
  rcases e3 with e3 | e3
  · rw [h] at e3; cases e3
  · exact Nat.le_of_ble_eq_true e3
theorem mark_no {pg : Nat} (hp : pg < 7) {o : Nat} (ho : o < 256) (h : Lib.contains (patL (pg : Int) o) [43, 100] = false) : pg ≤ 4 := by
  have e := mark_of hp ho
  unfold markOf at e
  rw [h] at e
  exact Nat.le_of_ble_eq_true e
theorem mark_yes {pg : Nat} (hp : pg < 7) {o : Nat} (ho : o < 256) (h : Lib.contains (patL (pg : Int) o) [43, 100] = true) : 3 ≤ pg ∧ (patL (pg : Int) o).count 110 ≤ 1 ∧ (5 ≤ pg → (patL (pg : Int) o).count 110 = 0) ∧ (patL (pg : Int) o).count 101 = 0 := by
  have e := mark_of hp ho
  unfold markOf at e
  rw [h] at e
  simp only [cond_true, Bool.and_eq_true, Lib.count_one] at e
  obtain ⟨⟨e1, e2⟩, e3⟩ := e
  refine ⟨Nat.le_of_ble_eq_true e1, ?_, fun h5 => ?_, Nat.eq_of_beq_eq_true e3⟩
  · have := Nat.le_of_ble_eq_true e2
    revert this
    cases Nat.ble 5 pg
    · exact fun h => h
    · exact fun h => Nat.le_trans h (by decide)
  · have := Nat.le_of_ble_eq_true e2
    rw [show Nat.ble 5 pg = true from Nat.ble_eq_true_of_le h5] at this
    exact Nat.le_zero.1 this
theorem no_mark {S sub : Str} {c : UInt8} (h : S.count c < sub.count c) : Lib.contains S sub = false := by
  cases hc : Lib.contains S sub
  · rfl
  · have := has_count hc c; omega
/-- A pattern with its distance set in. -/
theorem once_set {pg : Nat} (hp : pg < 7) {o : Nat} (ho : o < 256) (h : Lib.contains (patL (pg : Int) o) [43, 100] = true) (d : Nat) (hd : d < 256) (S : Str) (hS : Lib.replace (patL (pg : Int) o) [43, 100] (sgnL d) 1 = S) : S.length ≤ 60 ∧ RA [43, 100] (rsgnL d) (patL (pg : Int) o) = S ∧ Lib.contains S [110, 110] = false ∧ Lib.contains S [101] = false ∧ (5 ≤ pg → Lib.contains S [110] = false) ∧ Once S := by
  obtain ⟨k1, k2, k3, k4, k5⟩ := sgn_ok d hd
  obtain ⟨m1, m2, m3, m4⟩ := mark_yes hp ho h
  have o1 := (once_pat hp ho).1
  have c1 := rep_count (sgnL d) k3 (by simp) h 110
  have c2 := rep_count (sgnL d) k3 (by simp) h 101
  have l1 := rep1_len (patL (pg : Int) o) [43, 100] (sgnL d)
  have l2 := pat_len (pg : Int) o ho
  have ra := ra_one (patL (pg : Int) o) [43, 100] (sgnL d) k3 o1
  rw [hS] at c1 c2 l1 ra
  rw [show ([43, 100] : Str).count 110 = 0 by decide] at c1
  rw [show ([43, 100] : Str).count 101 = 0 by decide] at c2
  rw [sgn_eq d hd] at ra
  refine ⟨by omega, ra, no_mark (c := 110) (by rw [show ([110, 110] : Str).count 110 = 2 by decide]; omega), no_mark (c := 101) (by rw [show ([101] : Str).count 101 = 1 by decide]; omega), fun h5 => no_mark (c := 110) (by rw [show ([110] : Str).count 110 = 1 by decide]; have := m3 h5; omega), ?_, fun _ => by rw [Lib.count_one]; omega, by rw [Lib.count_one]; omega⟩
  have : Lib.count S [110, 110] = 0 := by
    have hn : Lib.contains S [110, 110] = false := no_mark (c := 110) (by rw [show ([110, 110] : Str).count 110 = 2 by decide]; omega)
    have : Lib.index S [110, 110] = -1 := by
      have h1 := Lib.index_ge S [110, 110]
      have h2 : ¬ 0 ≤ Lib.index S [110, 110] := of_decide_eq_false hn
      omega
    exact Lib.count_miss this
  omega
theorem ra_nn {S : Str} (hO : Once S) (a b : Nat) (ha : a < 256) (hb : b < 256) : RA [110, 110] (36 :: (rhexL a ++ rhexL b)) S = Lib.replace S [110, 110] (hexL (256 * a + b) 4) 1 := by
  rw [hex4_eq a b ha hb]
  exact ra_one _ _ _ (by simp) hO.nn
theorem ra_n {S : Str} (hO : Once S) (h : Lib.contains S [110, 110] = false) (a : Nat) (ha : a < 256) : RA [110] (36 :: rhexL a) S = Lib.replace S [110] (hexL a 2) 1 := by
  rw [hex2_eq a ha]
  exact ra_one _ _ _ (by simp) (hO.n h)
theorem ra_e {S : Str} (hO : Once S) (a : Nat) (ha : a < 256) : RA [101] (rsgnL a) S = Lib.replace S [101] (sgnL a) 1 := by
  have := ra_one S [101] (sgnL a) (sgn_ok a ha).2.2.2.1 hO.e
  rw [← sgn_eq a ha]
  exact this
end Nm
end Go.Proofs.YtnhgmdfmhmkpgaaGreatDoor
