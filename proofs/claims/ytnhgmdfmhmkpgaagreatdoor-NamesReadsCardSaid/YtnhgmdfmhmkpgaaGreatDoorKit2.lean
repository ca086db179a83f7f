/- Slices that come in, opened: bytes, bools, flat structs; a struct of two slices and two numbers. No conditions. -/
import Derived.Test.YtnhgmdfmhmkpgaaGreatDoorKit
import Derived.ChangeSlices
import Derived.Deep.Slices
import Derived.Deep.Grids
import Derived.Lib.SmallJoins
namespace Go.Proofs.YtnhgmdfmhmkpgaaGreatDoor
namespace Kit
open Go.RowKit Go.ChangeShapes Go.WideShapes Go.ChangeAt Go.Deep
set_option linter.unusedVariables false
/-- 'v' is a slice of 'len' elements of 'm' cells each: element i's cell j holds 'V i j'. -/
def SliceOf (w : World) (v : Value) (m len : Nat) (V : Nat → Nat → Value) : Prop :=
  ∃ (p : Option Addr) (cap : Nat), v = .slice p len cap ∧ len ≤ cap ∧ cap ≤ maxLen ∧ (0 < len → ∃ b o, p = some ⟨b, o, none⟩ ∧ b < w.heap.size ∧ ∀ i j, i < len → j < m → w.cell? ⟨b, o + (i * m + j), none⟩ = some (V i j))
section
variable {H : Type} {enc : TypeId × Value → H} {P : Program} {w : World} {base : Nat} {held : Bool}
theorem cell_lt {a : Addr} {v : Value} (h : w.cell? a = some v) : a.block < w.heap.size := by
  by_cases hb : a.block < w.heap.size
  · exact hb
  · have : w.heap[a.block]? = none := Array.getElem?_eq_none (by omega)
    simp [World.cell?, this] at h
theorem open_flats {t e : TypeId} {v : Value} {d : DataW H} {ps : List MemPlace} {fuel : Nat} (n : Nat) (ls : List (Option IntKind)) (hu : P.underlying t = some (.slice e)) (hf : flat P n e = some ls)
    (hc : P.cellsOf e = ls.length) (h0 : 0 < ls.length) (h : DataW.trod enc P w base (fun _ => true) held fuel t [v] = some (d, ps)) :
    ∃ (len : Nat) (V : Nat → Nat → Value), SliceOf w v ls.length len V ∧ ∀ i, i < len → ∀ j k, ls[j]? = some k → leafOk k (V i j) := by
  rcases open_slice hu h with ⟨e1, _⟩ | ⟨a, len, cap, m, nn, D, Pl, e1, hb, hl, hm, hmm, _, hx⟩
  · injection e1 with e1 _
    subst e1
    exact ⟨0, fun _ _ => .int .i64 0, ⟨none, 0, rfl, Nat.le_refl _, Nat.zero_le _, fun h => absurd h (Nat.lt_irrefl _)⟩, fun i hi => absurd hi (Nat.not_lt_zero _)⟩
  · injection e1 with e1 _
    subst e1
    simp only [if_true] at hmm
    subst hmm
    rw [hc] at hx
    obtain ⟨L, hL⟩ := choose_lt (α := List Value) (p := fun i cs' => w.cells? base (a.add (i * ls.length)) ls.length = some cs' ∧ leavesOk ls cs') (n := m) (fun i hi => by
      obtain ⟨cs', h1, h2⟩ := hx i hi
      exact ⟨cs', h1, flat_leaves n e ls _ _ _ hf h2⟩)
    have leaf : ∀ {ks : List (Option IntKind)} {vs : List Value}, leavesOk ks vs → ∀ (j : Nat) (k : Option IntKind), ks[j]? = some k → ∃ x, vs[j]? = some x ∧ leafOk k x := by
      intro ks
      induction ks with
      | nil => intro vs _ j k hj; simp at hj
      | cons k0 ks ih =>
        intro vs hv j k hj
        obtain ⟨x, r, rfl, hx0, hr⟩ := leaves_cons hv
        cases j with
        | zero => simp at hj; subst hj; exact ⟨x, rfl, hx0⟩
        | succ j => simp at hj; simpa using ih hr j k hj
    have cell : ∀ i j, i < m → j < ls.length → w.cell? ((a.add (i * ls.length)).add j) = some ((L i).getD j (.int .i64 0)) := by
      intro i j hi hj
      obtain ⟨h1, h2⟩ := hL i hi
      obtain ⟨_, hlen, hcs⟩ := World.cells?_some h1
      have := hcs j hj
      rw [this]
      simp [List.getD, List.getElem?_eq_getElem (show j < (L i).length by rw [hlen]; exact hj)]
    refine ⟨len, fun i j => (L i).getD j (.int .i64 0), ⟨some a, m, rfl, hl, hm, fun hlen => ?_⟩, fun i hi j k hj => ?_⟩
    · have c0 := cell 0 0 (by omega) h0
      have hs := World.cell?_spot c0
      obtain ⟨b, o, spot⟩ := a
      have hspot : spot = none := by simpa [Addr.add] using hs
      subst hspot
      refine ⟨b, o, rfl, ?_, fun i j hi hj => ?_⟩
      · have := cell_lt c0
        simpa [block_add] using this
      · have := cell i j (by omega) hj
        rw [← this]
        congr 1
        unfold Addr.add
        split <;> split <;> simp_all <;> omega
    · obtain ⟨_, h2⟩ := hL i (by omega)
      obtain ⟨x, hx, hl⟩ := leaf h2 j k hj
      show leafOk k ((L i).getD j _)
      simpa [List.getD, hx] using hl
end
/-- A slice of one kind of number. -/
def IntsOf (w : World) (v : Value) (k : IntKind) (zs : List Int) : Prop :=
  ∃ (p : Option Addr) (cap : Nat), v = .slice p zs.length cap ∧ zs.length ≤ cap ∧ cap ≤ maxLen ∧ (0 < zs.length → ∃ b o, p = some ⟨b, o, none⟩ ∧ b < w.heap.size ∧ ∀ i, i < zs.length → w.cell? ⟨b, o + i, none⟩ = some (.int k (zs.getD i 0))) ∧ ∀ n ∈ zs, (Lit.int k n).wf = true
/-- A slice of bools. -/
def BoolsOf (w : World) (v : Value) (zs : List Bool) : Prop :=
  ∃ (p : Option Addr) (cap : Nat), v = .slice p zs.length cap ∧ zs.length ≤ cap ∧ cap ≤ maxLen ∧ (0 < zs.length → ∃ b o, p = some ⟨b, o, none⟩ ∧ b < w.heap.size ∧ ∀ i, i < zs.length → w.cell? ⟨b, o + i, none⟩ = some (.bool (zs.getD i false)))
section
variable {H : Type} {enc : TypeId × Value → H} {P : Program} {w : World} {base : Nat} {held : Bool}
theorem open_intsOf {t e : TypeId} {k : IntKind} {v : Value} {d : DataW H} {ps : List MemPlace} {fuel : Nat} (hu : P.underlying t = some (.slice e)) (hf : flat P 6 e = some [some k])
    (hc : P.cellsOf e = 1) (h : DataW.trod enc P w base (fun _ => true) held fuel t [v] = some (d, ps)) : ∃ zs : List Int, IntsOf w v k zs := by
  obtain ⟨len, V, ⟨p, cap, rfl, hl, hm, hp⟩, hV⟩ := open_flats 6 [some k] hu hf hc (Nat.zero_lt_one) h
  obtain ⟨Z, hZ⟩ := choose_lt (α := Int) (p := fun i z => V i 0 = .int k z ∧ (Lit.int k z).wf = true) (n := len) (fun i hi => hV i hi 0 (some k) rfl)
  have hlen : ((List.range len).map Z).length = len := by simp
  refine ⟨(List.range len).map Z, p, cap, by rw [hlen], by rw [hlen]; exact hl, hm, fun h0 => ?_, fun n hn => ?_⟩
  · obtain ⟨b, o, rfl, hb, hcell⟩ := hp (by rwa [hlen] at h0)
    refine ⟨b, o, rfl, hb, fun i hi => ?_⟩
    have hi' : i < len := by rwa [hlen] at hi
    have := hcell i 0 hi' Nat.zero_lt_one
    rw [show o + (i * [some k].length + 0) = o + i by simp, (hZ i hi').1] at this
    rw [this]
    simp [List.getD, hi']
  · obtain ⟨i, hi, rfl⟩ := List.mem_map.1 hn
    exact (hZ i (by simpa using hi)).2
theorem open_boolsOf {t e : TypeId} {v : Value} {d : DataW H} {ps : List MemPlace} {fuel : Nat} (hu : P.underlying t = some (.slice e)) (hf : flat P 6 e = some [none])
    (hc : P.cellsOf e = 1) (h : DataW.trod enc P w base (fun _ => true) held fuel t [v] = some (d, ps)) : ∃ zs : List Bool, BoolsOf w v zs := by
  obtain ⟨len, V, ⟨p, cap, rfl, hl, hm, hp⟩, hV⟩ := open_flats 6 [none] hu hf hc (Nat.zero_lt_one) h
  obtain ⟨Z, hZ⟩ := choose_lt (α := Bool) (p := fun i z => V i 0 = .bool z) (n := len) (fun i hi => hV i hi 0 none rfl)
  have hlen : ((List.range len).map Z).length = len := by simp
  refine ⟨(List.range len).map Z, p, cap, by rw [hlen], by rw [hlen]; exact hl, hm, fun h0 => ?_⟩
  obtain ⟨b, o, rfl, hb, hcell⟩ := hp (by rwa [hlen] at h0)
  refine ⟨b, o, rfl, hb, fun i hi => ?_⟩
  have hi' : i < len := by rwa [hlen] at hi
  have := hcell i 0 hi' Nat.zero_lt_one
  rw [show o + (i * [(none : Option IntKind)].length + 0) = o + i by simp, hZ i hi'] at this
  rw [this]
  simp [List.getD, hi']
end
end Kit
end Go.Proofs.YtnhgmdfmhmkpgaaGreatDoor
