/- What instructions are called (layer 11): indexed: its plain part. No conditions but those stated. -/
import Derived.Test.YtnhgmdfmhmkpgaaGreatDoorNmL
namespace Go.Proofs.YtnhgmdfmhmkpgaaGreatDoor
open Go.RowKit
open Kit
set_option linter.unusedSimpArgs false
set_option linter.unusedVariables false
namespace Nm
def fx' (ix x : Str) : Str := if x = [72] ∨ x = [76] then ix ++ x else x
def indexL (P ix : Str) : Str :=
  if P = [69, 88, 32, 68, 69, 44, 72, 76] then P else if P = [74, 80, 32, 40, 72, 76, 41] then [74, 80, 32, 40] ++ (ix ++ [41]) else
  if Lib.contains P [40, 72, 76, 41] then Lib.replace P [40, 72, 76, 41] ([40] ++ (ix ++ [43, 100, 41])) 1 else if Lib.contains P [72, 76] then Lib.replaceAll P [72, 76] ix else
  if (Lib.cut P [32]).2.1 = [] then (Lib.cut P [32]).1 else (Lib.cut P [32]).1 ++ ([32] ++ Lib.join ((Lib.split (Lib.cut P [32]).2.1 [44]).map (fx' ix)) [44])
theorem cut_len (P sep : Str) : (Lib.cut P sep).1.length ≤ P.length ∧ (Lib.cut P sep).2.1.length ≤ P.length := by
  unfold Lib.cut
  split
  · simp; omega
  · simp
theorem splitK_le (sep : Str) : ∀ (k : Nat) (s : Str), (∀ x ∈ Lib.splitK sep 0 k s, x.length ≤ s.length) ∧ (Lib.splitK sep 0 k s).length ≤ k + 1
  | 0, s => by simp [Lib.splitK]
  | k + 1, s => by
    rw [Lib.splitK]
    split
    · simp
    · obtain ⟨h1, h2⟩ := splitK_le sep k (s.drop ((Lib.index s sep).toNat + sep.length))
      refine ⟨fun x hx => ?_, by simp; omega⟩
      rcases List.mem_cons.1 hx with rfl | hx
      · simp; omega
      · have := h1 x hx
        simp at this; omega
theorem splitK_pos (sep : Str) (k : Nat) (s : Str) : 0 < (Lib.splitK sep 0 k s).length := by
  cases k with
  | zero => simp [Lib.splitK]
  | succ k =>
    rw [Lib.splitK]
    split <;> simp
theorem join_len (b : Nat) (sep : Str) : ∀ (xs : List Str), (∀ x ∈ xs, x.length ≤ b) → (Lib.join xs sep).length ≤ (b + sep.length) * xs.length
  | [], _ => by simp [Lib.join_nil]
  | x :: r, h => by
    have hs : ∀ (r : List Str), (∀ x ∈ r, x.length ≤ b) → Lib.lens r ≤ b * r.length := fun r => by
      induction r with
      | nil => intro _; simp [Lib.lens]
      | cons y t ih =>
        intro h
        have := ih fun x hx => h x (List.mem_cons_of_mem _ hx)
        have h2 := h y List.mem_cons_self
        simp only [Lib.lens, List.map_cons, List.sum_cons, List.length_cons] at *
        rw [Nat.mul_succ]; omega
    rw [Lib.join_length]
    have := hs (x :: r) h
    rw [Nat.add_mul]
    have h3 : sep.length * r.length ≤ sep.length * (x :: r).length := Nat.mul_le_mul_left _ (by simp)
    omega
theorem fx_len (ix x : Str) (b c : Nat) (h : ix.length ≤ c) (hx : x.length ≤ b) : (fx' ix x).length ≤ b + c := by
  unfold fx'
  split
  · rw [List.length_append]; omega
  · omega
/-- The cells half way. -/
def SH (ix : Str) (ps : List Str) (i : Nat) : Array Value := SC ((ps.take i).map (fx' ix) ++ ps.drop i)
theorem SH_zero (ix : Str) (ps : List Str) : SH ix ps 0 = SC ps := by simp [SH]
theorem SH_all (ix : Str) (ps : List Str) (n : Nat) (h : ps.length = n) : SH ix ps n = SC (ps.map (fx' ix)) := by subst h; simp [SH]
theorem SH_get (ix : Str) (ps : List Str) (i : Nat) (x : Str) (h : ps[i]? = some x) : (SH ix ps i)[i]? = some (.string (bs x)) := by
  have hi : i < ps.length := by
    rcases Nat.lt_or_ge i ps.length with h' | h'
    · exact h'
    · rw [List.getElem?_eq_none h'] at h; cases h
  unfold SH SC
  rw [List.getElem?_toArray, List.getElem?_map, List.getElem?_append_right (by simp; omega)]
  simp [Nat.min_eq_left (Nat.le_of_lt hi), h]
theorem SH_next (ix : Str) (ps : List Str) (i : Nat) (x : Str) (h : ps[i]? = some x) : (SH ix ps i).setIfInBounds i (.string (bs (fx' ix x))) = SH ix ps (i + 1) := by
  have hi : i < ps.length := by
    rcases Nat.lt_or_ge i ps.length with h' | h'
    · exact h'
    · rw [List.getElem?_eq_none h'] at h; cases h
  have hd : ps.drop i = x :: ps.drop (i + 1) := Lib.drop_at h
  unfold SH SC
  rw [List.setIfInBounds_toArray]
  congr 1
  rw [List.take_add_one, h, hd]
  simp only [List.map_append, List.map_cons, Option.toList_some, List.map_nil, List.append_assoc, List.cons_append, List.nil_append]
  have hl : (((ps.take i).map (fx' ix)).map fun l => Value.string (bs l)).length = i := by simp; omega
  rw [List.set_append_right _ _ (by rw [hl]; exact Nat.le_refl _), hl, Nat.sub_self]
  rfl
theorem SH_same (ix : Str) (ps : List Str) (i : Nat) (x : Str) (h : ps[i]? = some x) (he : fx' ix x = x) : SH ix ps i = SH ix ps (i + 1) := by
  have hd : ps.drop i = x :: ps.drop (i + 1) := Lib.drop_at h
  unfold SH
  rw [List.take_add_one, h, hd]
  simp [he]
end Nm
end Go.Proofs.YtnhgmdfmhmkpgaaGreatDoor
