/- What instructions are called (layer 11): which names differ. No conditions but those stated. -/
import Derived.Test.YtnhgmdfmhmkpgaaDoorNm7
import Derived.KernelRfl
namespace Go.Proofs.YtnhgmdfmhmkpgaaDoor
open Go.RowKit
set_option linter.unusedSimpArgs false
set_option linter.unusedVariables false
namespace Nm
/-- One number for each text. -/
def code (l : Str) : Nat := l.foldl (fun n b => n * 256 + b.toNat) 1
def diffB (pg : Int) : Bool := (List.range 256).all fun a => (List.range 256).all fun b => (a == b) || !(Nat.beq (code (patL pg a)) (code (patL pg b)))
def diffB5 (pg : Int) : Bool := (List.range 256).all fun a => (List.range 256).all fun b => (a == b) || (Nat.beq (a / 64) 1 && Nat.beq (a / 8) (b / 8)) || !(Nat.beq (code (patL pg a)) (code (patL pg b)))
def someB (pg : Int) : Bool := (List.range 256).all fun a => !(patL pg a).isEmpty
def sameB (pg : Int) : Bool := (List.range 256).all fun a => !(Nat.beq (a / 64) 1) || (patL pg a == patL pg (8 * (a / 8)))
set_option maxRecDepth 100000 in
theorem some0 : someB 0 = true := by kernel_rfl
set_option maxRecDepth 100000 in
theorem some1 : someB 1 = true := by kernel_rfl
set_option maxRecDepth 100000 in
theorem some2 : someB 2 = true := by kernel_rfl
set_option maxRecDepth 100000 in
theorem some3 : someB 3 = true := by kernel_rfl
set_option maxRecDepth 100000 in
theorem some4 : someB 4 = true := by kernel_rfl
set_option maxRecDepth 100000 in
theorem some5 : someB 5 = true := by kernel_rfl
set_option maxRecDepth 100000 in
theorem some6 : someB 6 = true := by kernel_rfl
set_option maxRecDepth 100000 in
theorem diff0 : diffB 0 = true := by kernel_rfl
set_option maxRecDepth 100000 in
theorem diff1 : diffB 1 = true := by kernel_rfl
set_option maxRecDepth 100000 in
theorem diff5 : diffB5 5 = true := by kernel_rfl
set_option maxRecDepth 100000 in
theorem same5 : sameB 5 = true := by kernel_rfl
set_option maxRecDepth 100000 in
theorem diff6 : diffB5 6 = true := by kernel_rfl
set_option maxRecDepth 100000 in
theorem same6 : sameB 6 = true := by kernel_rfl
theorem some_of {pg : Int} (h : someB pg = true) {a : Nat} (ha : a < 256) : patL pg a ≠ [] := by
  have := List.all_eq_true.1 h a (List.mem_range.2 ha)
  intro e
  rw [e] at this
  exact absurd this (by decide)
theorem diff_of {pg : Int} (h : diffB pg = true) {a b : Nat} (ha : a < 256) (hb : b < 256) : (patL pg a = patL pg b) ↔ a = b := by
  refine ⟨fun e => ?_, fun e => by rw [e]⟩
  have := List.all_eq_true.1 (List.all_eq_true.1 h a (List.mem_range.2 ha)) b (List.mem_range.2 hb)
  rw [e] at this
  simpa using this
theorem diff5_of {pg : Int} (h : diffB5 pg = true) (hs : sameB pg = true) {a b : Nat} (ha : a < 256) (hb : b < 256) : (patL pg a = patL pg b) ↔ (a = b ∨ a / 64 = 1 ∧ a / 8 = b / 8) := by
  refine ⟨fun e => ?_, fun e => ?_⟩
  · have := List.all_eq_true.1 (List.all_eq_true.1 h a (List.mem_range.2 ha)) b (List.mem_range.2 hb)
    rw [e] at this
    simpa using this
  · rcases e with rfl | ⟨e1, e2⟩
    · rfl
    · have h1 := List.all_eq_true.1 hs a (List.mem_range.2 ha)
      have h2 := List.all_eq_true.1 hs b (List.mem_range.2 hb)
      have e3 : b / 64 = 1 := by omega
      rw [e1] at h1
      rw [e3, ← e2] at h2
      have h1' : patL pg a = patL pg (8 * (a / 8)) := by simpa using h1
      have h2' : patL pg b = patL pg (8 * (a / 8)) := by simpa using h2
      rw [h1', h2']
end Nm
end Go.Proofs.YtnhgmdfmhmkpgaaDoor
