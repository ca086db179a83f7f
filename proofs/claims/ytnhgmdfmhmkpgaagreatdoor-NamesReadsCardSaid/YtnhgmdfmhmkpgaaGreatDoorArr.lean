/- Rows of cells in a block, by a function of the place: read, written at a place, kept where a world grows. No conditions. -/
import Derived.Test.YtnhgmdfmhmkpgaaGreatDoorKit
namespace Go.Proofs.YtnhgmdfmhmkpgaaGreatDoor
namespace Kit
open Go.RowKit
set_option linter.unusedVariables false
/-- Block b holds 'f j' at 'o + j' for j < n, and may be written there. -/
def Arr (w : World) (b n : Nat) (f : Nat → Value) : Prop := ∀ j, j < n → w.cell? ⟨b, j, none⟩ = some (f j) ∧ w.frozen? ⟨b, j, none⟩ = false
theorem Arr.cell {w : World} {b n : Nat} {f : Nat → Value} (h : Arr w b n f) (j : Nat) (hj : j < n) : w.cell? ⟨b, j, none⟩ = some (f j) := (h j hj).1
theorem Arr.free {w : World} {b n : Nat} {f : Nat → Value} (h : Arr w b n f) (j : Nat) (hj : j < n) : w.frozen? ⟨b, j, none⟩ = false := (h j hj).2
theorem Arr.lt {w : World} {b n : Nat} {f : Nat → Value} (h : Arr w b n f) (hn : 0 < n) : b < w.heap.size := World.block_lt_of_cell? w ⟨b, 0, none⟩ (h 0 hn).1
theorem Arr.set {w : World} {b n : Nat} {f : Nat → Value} (h : Arr w b n f) (k : Nat) (v : Value) (hk : k < n) (g : Nat → Value) (hg : ∀ j, j < n → g j = if j = k then v else f j) : Arr (w.setCell ⟨b, k, none⟩ v) b n g := by
  intro j hj
  obtain ⟨h1, h2⟩ := h j hj
  refine ⟨?_, by rw [World.frozen?_setCell]; exact h2⟩
  rw [hg j hj]
  by_cases e : j = k
  · subst e
    rw [if_pos rfl]
    exact World.cell?_setCell_same w _ v h1
  · rw [if_neg e, World.cell?_setCell_other w _ _ _ (by simp <;> omega)]
    exact h1
theorem Arr.same {w : World} {b n : Nat} {f : Nat → Value} (h : Arr w b n f) (g : Nat → Value) (hg : ∀ j, j < n → g j = f j) : Arr w b n g := fun j hj => by
  rw [hg j hj]; exact h j hj
theorem Arr.setOther {w : World} {b n : Nat} {f : Nat → Value} (h : Arr w b n f) (b2 o2 : Nat) (v : Value) (hb : b2 ≠ b) : Arr (w.setCell ⟨b2, o2, none⟩ v) b n f := by
  intro j hj
  obtain ⟨h1, h2⟩ := h j hj
  refine ⟨?_, by rw [World.frozen?_setCell]; exact h2⟩
  rw [World.cell?_setCell_other w _ _ _ (by simp <;> omega)]
  exact h1
theorem Arr.alloc {w : World} {b n : Nat} {f : Nat → Value} (h : Arr w b n f) (hb : b < w.heap.size) (o : Obj) : Arr (w.alloc o) b n f := by
  intro j hj
  obtain ⟨h1, h2⟩ := h j hj
  exact ⟨by rw [World.cell?_alloc_old _ _ _ (Nat.ne_of_lt hb)]; exact h1, by rw [World.frozen?_alloc_old _ _ _ (Nat.ne_of_lt hb)]; exact h2⟩
theorem Arr.below {w w1 : World} {b n : Nat} {f : Nat → Value} (h : Arr w b n f) (hb : b < w.heap.size) (hw : Below w.heap.size w w1) : Arr w1 b n f := by
  intro j hj
  obtain ⟨h1, h2⟩ := h j hj
  exact ⟨by rw [hw.cell (p := ⟨b, j, none⟩) hb]; exact h1, by rw [hw.frozen (p := ⟨b, j, none⟩) hb]; exact h2⟩
/-- A row of n values, by a function of the place. -/
def row (n : Nat) (f : Nat → Value) : Array Value := ((List.range n).map f).toArray
theorem row_get (n : Nat) (f : Nat → Value) (j : Nat) (hj : j < n) : (row n f)[j]? = some (f j) := by simp [row, hj]
theorem row_size (n : Nat) (f : Nat → Value) : (row n f).size = n := by simp [row]
theorem row_set (n : Nat) (f g : Nat → Value) (k : Nat) (v : Value) (hg : ∀ j, j < n → g j = if j = k then v else f j) : (row n f).setIfInBounds k v = row n g := by
  apply Array.ext_getElem?
  intro j
  rw [Array.getElem?_setIfInBounds]
  by_cases hj : j < n
  · rw [row_get n f j hj, row_get n g j hj, hg j hj, row_size]
    by_cases e : k = j
    · subst e; simp [hj]
    · rw [if_neg e, if_neg (fun h => e h.symm)]
  · have h1 : (row n f)[j]? = none := Array.getElem?_eq_none (by rw [row_size]; omega)
    have h2 : (row n g)[j]? = none := Array.getElem?_eq_none (by rw [row_size]; omega)
    rw [h1, h2, row_size]
    split <;> simp; omega
theorem row_congr (n : Nat) (f g : Nat → Value) (h : ∀ j, j < n → f j = g j) : row n f = row n g := by
  unfold row
  rw [List.map_congr_left (fun j hj => h j (by simpa using hj))]
end Kit
end Go.Proofs.YtnhgmdfmhmkpgaaGreatDoor
