/- What instructions are called (layer 11): small lemmas. No conditions but those stated. -/
import Derived.Test.YtnhgmdfmhmkpgaaDoorNm
namespace Go.Proofs.YtnhgmdfmhmkpgaaDoor
open Go.RowKit
open Kit
set_option linter.unusedSimpArgs false
set_option linter.unusedVariables false
namespace Nm
theorem getD_some {xs : List Str} {n j : Nat} (hn : xs.length = n) (hj : j < n) : xs[j]? = some (xs.getD j []) := by
  subst hn
  rw [List.getD_eq_getElem?_getD, List.getElem?_eq_getElem hj]; rfl
theorem getD_len {xs : List Str} (m : Nat) (h : (xs.all fun x => decide (x.length ≤ m)) = true) (j : Nat) : (xs.getD j []).length ≤ m := by
  rw [List.getD_eq_getElem?_getD]
  cases e : xs[j]? with
  | none => simp
  | some x => exact of_decide_eq_true (List.all_eq_true.1 h x (List.mem_of_getElem? e))
theorem cell_at {w : World} {L : List (Nat × Array Value × TypeId)} {W : World} {g : Nat} {cur : Array Value} {t : TypeId} (k : NB w L W) (hm : (g, cur, t) ∈ L) {j : Nat} {v : Value} (h : cur[j]? = some v) : W.cell? ⟨g, j, none⟩ = some v := (cell_of _ _ j (k.get g cur t hm)).trans h
end Nm
end Go.Proofs.YtnhgmdfmhmkpgaaDoor
