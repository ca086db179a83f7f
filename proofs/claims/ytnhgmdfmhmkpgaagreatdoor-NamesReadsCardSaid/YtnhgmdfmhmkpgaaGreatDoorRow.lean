/- Whole rows (arrays, structs) loaded out of a block and stored into one, without taking them apart. No conditions. -/
import Derived.Test.YtnhgmdfmhmkpgaaGreatDoorArr
import Derived.Deep.MidRow
import Derived.Laws.Rows
namespace Go.Proofs.YtnhgmdfmhmkpgaaGreatDoor
namespace Kit
open Go.RowKit
set_option linter.unusedVariables false
theorem setCells_new_from (w : World) (t : TypeId) : ∀ (vs : List Value) (o : Nat) (R : Array Value), o + vs.length = R.size → (w.alloc (.cells R t)).setCells w.heap.size o vs = w.alloc (.cells (R.toList.take o ++ vs).toArray t)
  | [], o, R, h => by
    have : R.toList.take o = R.toList := List.take_of_length_le (by simp at h; simp; omega)
    simp [World.setCells, this]
  | v :: vs, o, R, h => by
    have h' : o < R.size := by simp at h; omega
    rw [World.setCells, World.setCell_alloc_new, setCells_new_from w t vs (o + 1) _ (by simp at h ⊢; omega)]
    congr 2
    simp only [Array.toList_setIfInBounds]
    rw [List.take_set, List.take_succ_eq_append_getElem (by simpa using h')]
    simp [Nat.min_eq_left (Nat.le_of_lt h')]
theorem setCells_new (w : World) (t : TypeId) (vs : List Value) (n : Nat) (R : Array Value) (hn : n = w.heap.size) (h : vs.length = R.size) : (w.alloc (.cells R t)).setCells n 0 vs = w.alloc (.cells vs.toArray t) := by
  subst hn
  rw [setCells_new_from w t vs 0 R (by omega)]
  simp
theorem setCells_past (o : Obj) (n : Nat) : ∀ (vs : List Value) (i : Nat) (w : World), n < w.heap.size → (w.alloc o).setCells n i vs = (w.setCells n i vs).alloc o
  | [], _, _, _ => rfl
  | v :: vs, i, w, hn => by
    rw [World.setCells, World.setCell_alloc_past _ _ _ _ hn, setCells_past o n vs (i + 1) _ (by simpa [World.setCell] using hn)]
    rfl
theorem setCells_drew (n : Nat) : ∀ (vs : List Value) (i : Nat) (w : World), w.drew.setCells n i vs = (w.setCells n i vs).drew
  | [], _, _ => rfl
  | v :: vs, i, w => by
    rw [World.setCells, World.setCell_drew, setCells_drew n vs (i + 1)]
    rfl
theorem heap_at (w : World) (o : Obj) (n : Nat) (hn : n = w.heap.size) : (w.alloc o).heap[n]? = some o := by subst hn; exact Go.heap_alloc_new w o
theorem heap_past (w : World) (o : Obj) (n : Nat) (hn : n < w.heap.size) : (w.alloc o).heap[n]? = w.heap[n]? := Below.heap_alloc w o n hn
theorem heap_drew (w : World) (n : Nat) : w.drew.heap[n]? = w.heap[n]? := rfl
theorem heap_set_other (w : World) (b o : Nat) (v : Value) (n : Nat) (hn : n ≠ b) : (w.setCell ⟨b, o, none⟩ v).heap[n]? = w.heap[n]? := Below.heap_setCell w ⟨b, o, none⟩ v n hn
theorem heap_set_same (w : World) (b o : Nat) (v : Value) {A : Array Value} {t : TypeId} (h : w.heap[b]? = some (.cells A t)) : (w.setCell ⟨b, o, none⟩ v).heap[b]? = some (.cells (A.setIfInBounds o v) t) := by
  simp [World.setCell, Array.getElem?_modify, h]
theorem there_of (w : World) (b : Nat) {A : Array Value} {t : TypeId} (h : w.heap[b]? = some (.cells A t)) : w.there b 0 A.size := by
  intro j hj
  refine ⟨?_, ?_⟩
  · rw [cell_of_row w b _ A t _ h]
    simp [hj]
  · simp [World.frozen?, h]
theorem cell_of (w : World) (b j : Nat) {A : Array Value} {t : TypeId} (h : w.heap[b]? = some (.cells A t)) : w.cell? ⟨b, j, none⟩ = A[j]? := cell_of_row w b j A t _ h
theorem free_of (w : World) (b j : Nat) {A : Array Value} {t : TypeId} (h : w.heap[b]? = some (.cells A t)) : w.frozen? ⟨b, j, none⟩ = false := by simp [World.frozen?, h]
theorem heap_lt {w : World} {b : Nat} {o : Obj} (h : w.heap[b]? = some o) : b < w.heap.size := by
  obtain ⟨h, _⟩ := Array.getElem?_eq_some_iff.1 h
  exact h
theorem heap_sets_same_from (b : Nat) (t : TypeId) : ∀ (vs : List Value) (o : Nat) (w : World) (A : Array Value), w.heap[b]? = some (.cells A t) → o + vs.length = A.size → (w.setCells b o vs).heap[b]? = some (.cells (A.toList.take o ++ vs).toArray t)
  | [], o, w, A, h, hl => by
    have : A.toList.take o = A.toList := List.take_of_length_le (by simp at hl; simp; omega)
    simp [World.setCells, this, h]
  | v :: vs, o, w, A, h, hl => by
    have h' : o < A.size := by simp at hl; omega
    rw [World.setCells, heap_sets_same_from b t vs (o + 1) _ _ (heap_set_same w b o v h) (by simp at hl ⊢; omega)]
    congr 2
    simp only [Array.toList_setIfInBounds]
    rw [List.take_set, List.take_succ_eq_append_getElem (by simpa using h')]
    simp [Nat.min_eq_left (Nat.le_of_lt h')]
theorem heap_sets_same (w : World) (b : Nat) (vs : List Value) {A : Array Value} {t : TypeId} (h : w.heap[b]? = some (.cells A t)) (hl : vs.length = A.size) : (w.setCells b 0 vs).heap[b]? = some (.cells vs.toArray t) := by
  rw [heap_sets_same_from b t vs 0 w A h (by omega)]; simp
theorem heap_sets_other (b n : Nat) (hn : n ≠ b) : ∀ (vs : List Value) (o : Nat) (w : World), (w.setCells b o vs).heap[n]? = w.heap[n]?
  | [], _, _ => rfl
  | v :: vs, o, w => by rw [World.setCells, heap_sets_other b n hn vs, heap_set_other _ _ _ _ _ hn]
theorem size_sets (b : Nat) : ∀ (vs : List Value) (o : Nat) (w : World), (w.setCells b o vs).heap.size = w.heap.size
  | [], _, _ => rfl
  | v :: vs, o, w => by rw [World.setCells, size_sets b vs]; simp [World.setCell]
theorem below_sets {B b : Nat} {a : World} (hb : B ≤ b) : ∀ (vs : List Value) (o : Nat) (w : World), Below B a w → Below B a (w.setCells b o vs)
  | [], _, _, h => h
  | v :: vs, o, w, h => by rw [World.setCells]; exact below_sets hb vs (o + 1) _ (h.setCell hb v)
/-- A whole row is loaded: at the list of a plain region's operations. -/
theorem load_row {P : Program} {ops : Array Oper} {rest : List Oper} {o : Oper} {a : Act} {w : World} {Q : Exit → Act → World → Prop} (ty : TypeId) (x : Operand) (g : Nat) (t : TypeId) (cs : Array Value) (d : TypeDesc)
    (hg : w.heap[g]? = some (.cells cs t)) (hu : P.underlying ty = some d) (hd : (match d with | .struct _ | .array _ _ => true | _ => false) = true) (hi : (P.info? ty).map (·.size) = some cs.size)
    (ho : o.op = .load ty x) (hgd : o.guard = none) (hx : a.eval x = .pointer (some ⟨g, 0, none⟩))
    (h : wpList P ops Q rest (a.put o.dst (.agg cs)) w) : wpList P ops Q (o :: rest) a w :=
  wpList_load_row hgd ty x ho g hx t cs _ d hg hu hd hi h
/-- A whole row is stored. -/
theorem store_row {P : Program} {ops : Array Oper} {rest : List Oper} {o : Oper} {a : Act} {w : World} {Q : Exit → Act → World → Prop} (ty : TypeId) (x y : Operand) (g : Nat) (t : TypeId) (R cs : Array Value)
    (hg : w.heap[g]? = some (.cells R t)) (hs : cs.size = R.size) (h1 : cs.all (·.oneCell') = true) (hi : (P.info? ty).map (·.size) = some cs.size)
    (ho : o.op = .store ty x y) (hgd : o.guard = none) (hx : a.eval x = .pointer (some ⟨g, 0, none⟩)) (hy : a.eval y = .agg cs)
    (h : wpList P ops Q rest (a.put o.dst undef) (w.setCells g 0 cs.toList)) : wpList P ops Q (o :: rest) a w :=
  wpList_store_mid hgd ty x y ho g 0 cs hx hy (by rw [hs]; exact there_of w g hg) hi h1 h
theorem row_one (n : Nat) (f : Nat → Value) (h : ∀ j, j < n → (f j).oneCell' = true) : (row n f).all (·.oneCell') = true := by
  apply Array.all_eq_true_iff_forall_mem.2
  intro v hv
  obtain ⟨j, hj, rfl⟩ : ∃ j, j < n ∧ f j = v := by simpa [row] using hv
  exact h j hj
/-- Here stands the load, the store, of that type and those operands (a guard for the walk's arms: with_reducible). -/
theorem at_load {P : Program} {ops : Array Oper} {rest : List Oper} {a : Act} {w : World} {Q : Exit → Act → World → Prop} {d : Option Tmp} {t : TypeId} {p : String} {af : Array Edge} {g : Option (Nat × Bool)} (ty : TypeId) (x : Operand)
    (h : wpList P ops Q (⟨d, .load ty x, t, p, af, g⟩ :: rest) a w) : wpList P ops Q (⟨d, .load ty x, t, p, af, g⟩ :: rest) a w := h
theorem at_store {P : Program} {ops : Array Oper} {rest : List Oper} {a : Act} {w : World} {Q : Exit → Act → World → Prop} {d : Option Tmp} {t : TypeId} {p : String} {af : Array Edge} {g : Option (Nat × Bool)} (ty : TypeId) (x y : Operand)
    (h : wpList P ops Q (⟨d, .store ty x y, t, p, af, g⟩ :: rest) a w) : wpList P ops Q (⟨d, .store ty x y, t, p, af, g⟩ :: rest) a w := h
end Kit
end Go.Proofs.YtnhgmdfmhmkpgaaGreatDoor
