/- What instructions are called (layer 11): slices of bytes put together. No conditions but those stated. -/
import Derived.Test.YtnhgmdfmhmkpgaaGreatDoorNmM
import Derived.Test.YtnhgmdfmhmkpgaaGreatDoorNmY
import Derived.Test.YtnhgmdfmhmkpgaaGreatDoorKit2
import Derived.Laws.AppendOwn
import Derived.Laws.AppendOwnNone
import Derived.RegionTactic
import Derived.LoopTactic
import Derived.Deep.RegionHeld3
import Derived.Deep.DeepCutAuto
import Derived.Lib.Hide
namespace Go.Proofs.YtnhgmdfmhmkpgaaGreatDoor
open Go.RowKit
open Kit
set_option linter.unusedSimpArgs false
set_option linter.unusedVariables false
namespace Nm
def bv (x : UInt8) : Value := .int .u8 x.toNat
/-- What a slice of bytes reads as, nil or not. -/
def SrcOf (w : World) (v : Value) (zs : List UInt8) : Prop := (v = .slice none 0 0 ∧ zs = []) ∨ ∃ ad cap, v = .slice (some ad) zs.length cap ∧ ∀ (j : Nat) (u : Value), (zs.map bv)[j]? = some u → w.cell? (ad.add j) = some u
theorem SrcOf.below {w w' : World} {v : Value} {zs : List UInt8} (h : SrcOf w v zs) (hb : Below w.heap.size w w') : SrcOf w' v zs := by
  rcases h with h | ⟨ad, cap, hv, hc⟩
  · exact Or.inl h
  · exact Or.inr ⟨ad, cap, hv, fun j u hu => cell_below hb (hc j u hu)⟩
/-- A slice of bytes of its own. -/
def Own (B : Nat) (W : World) (v : Value) (zs : List UInt8) : Prop := W.ownsRow B 5 1 v zs.length (zs.map bv)
theorem Own.below {B : Nat} {W W' : World} {v : Value} {xs : List UInt8} (h : Own B W v xs) (hb : Below W.heap.size W W') : Own B W' v xs := by
  refine World.ownsRow.kept (row := none) h ⟨hb.os, hb.tape, hb.output, hb.size, fun k hk _ => hb.block k hk⟩ ?_
  cases hv : v.ownBlock with
  | none => exact .inl rfl
  | some k => exact .inr (by simp)
theorem Own.bytes {B : Nat} {W : World} {v : Value} {zs : List UInt8} (h : Own B W v zs) (hl : zs.length ≤ 1000) : BytesOf W v zs := by
  rcases h.2 with ⟨hv, hz⟩ | ⟨g, cap, cur, hv, hg, hh, r1, r2, r3, r4⟩
  · have : zs = [] := List.eq_nil_of_length_eq_zero hz
    subst this
    exact ⟨none, 0, hv, hl, fun h => absurd rfl h⟩
  · refine ⟨_, cap, hv, hl, fun _ => ⟨g, 0, rfl, heap_lt hh, fun i x hx => ?_⟩⟩
    rw [Nat.zero_add, cell_of _ _ i hh]
    have e1 : (zs.map bv)[i]? = some (bv x) := by rw [List.getElem?_map, hx]; rfl
    rw [← r4, List.getElem?_take] at e1
    split at e1
    · simpa [bv] using e1
    · cases e1
theorem NB.of_bel {w w' : World} (hw : GV w) (hb : Below w.heap.size w w') : NB w [] w' := ⟨hw.below hb, fun p hp => (by cases hp), hb⟩
theorem app_any {ops : Array Oper} {rest : List Oper} {o : Oper} {a : Act} {Q : Exit → Act → World → Prop} (w0 W : World) (hb : Below w0.heap.size w0 W) (hgd : o.guard = none) (s x : Operand)
    (ho : o.op = .call { callee := .builtin .append, args := #[s, x], argTypes := #[25, 25] }) (v : Value) (xs : List UInt8) (hs : a.eval s = v) (hown : Own w0.heap.size W v xs) (u : Value) (zs : List UInt8) (hx : a.eval x = u) (hsrc : SrcOf W u zs)
    (hlen : xs.length + zs.length ≤ 1000)
    (h : ∀ v' w', Own w0.heap.size w' v' (xs ++ zs) → Below w0.heap.size w0 w' → wpList Tryz.prog ops Q rest (a.put o.dst v') w') : wpList Tryz.prog ops Q (o :: rest) a W := by
  have hsz := hb.size
  obtain ⟨i0, hi, hz0, hz1, hz2⟩ := info_parts (P := Tryz.prog) (e := 5) (z := .int .u8 0) (size := 1) (bytes := 1) (by kernel_rfl)
  rcases hsrc with ⟨hu, hz⟩ | ⟨ad, cap, hu, hc⟩
  · subst hz
    subst hu
    refine wpList_append_own_none hgd _ _ 25 ho w0.heap.size 5 i0 1 Tryz.underlying25 hi _ _ _ hs hown hx ?_
    exact h _ _ (by rw [List.append_nil]; exact hown) hb
  · subst hu
    refine wpList_append_own _ hgd _ _ 25 ho w0.heap.size 5 i0 (.int .u8 0) 1 1 Tryz.underlying25 hi hz0 hz1 hz2 rfl (by decide) _ _ _ hs hown ad zs.length cap (zs.map bv) hx (by simp) hc (by intro u hu; obtain ⟨z, _, rfl⟩ := List.mem_map.1 hu; rfl) (by unfold maxLen; omega) (by omega) hb.size ?_
    intro v' w' hown' hgrow _
    refine h v' w' (by unfold Own; rw [List.length_append, List.map_append]; exact hown') (hb.grown hgrow (by omega) (fun k hk => (World.ownsRow.lt hown k hk).1))
theorem own_start (w0 W : World) (hb : Below w0.heap.size w0 W) : Own w0.heap.size (W.alloc (.cells #[] 5)) (.slice (some ⟨W.heap.size, 0, none⟩) 0 0) [] :=
  World.ownsRow_lit (base := w0.heap.size) (e := 5) (size := 1) W #[] 0 hb.size (by unfold maxLen; omega) rfl
theorem SrcOf.bytes {w : World} {v : Value} {zs : List UInt8} (h : BytesOf w v zs) (h0 : zs ≠ []) : SrcOf w v zs := by
  obtain ⟨p, cap, rfl, hl, hc⟩ := h
  obtain ⟨b, o, rfl, hbl, hcell⟩ := hc h0
  refine Or.inr ⟨_, cap, rfl, fun j u hu => ?_⟩
  rw [List.getElem?_map] at hu
  obtain ⟨x, hx, rfl⟩ := Option.map_eq_some_iff.1 hu
  have h2 := hcell j x hx
  cases j with
  | zero => simpa [Addr.add, bv] using h2
  | succ j => simpa [Addr.add, bv] using h2
theorem SrcOf.zeros (W : World) : SrcOf (W.alloc (.cells #[.int .u8 0, .int .u8 0, .int .u8 0, .int .u8 0] 5)) (.slice (some ⟨W.heap.size, 0, none⟩) 4 4) [0, 0, 0, 0] := by
  refine Or.inr ⟨_, 4, rfl, fun j u hu => ?_⟩
  have e : ∀ i : Nat, (W.alloc (.cells #[.int .u8 0, .int .u8 0, .int .u8 0, .int .u8 0] 5)).cell? ⟨W.heap.size, i, none⟩ = (#[.int .u8 0, .int .u8 0, .int .u8 0, .int .u8 0] : Array Value)[i]? := fun i => cell_of _ _ i (heap_at _ _ _ rfl)
  match j, hu with
  | 0, hu => simp [bv] at hu; subst hu; exact (e 0).trans rfl
  | 1, hu => simp [bv] at hu; subst hu; exact (e 1).trans rfl
  | 2, hu => simp [bv] at hu; subst hu; exact (e 2).trans rfl
  | 3, hu => simp [bv] at hu; subst hu; exact (e 3).trans rfl
  | (i + 4), hu => simp at hu
theorem SrcOf.take {w : World} {b0 o0 cap : Nat} {zs : List UInt8} (h : SrcOf w (.slice (some ⟨b0, o0, none⟩) zs.length cap) zs) (n : Nat) (hn : n ≤ zs.length) : SrcOf w (.slice (some ⟨b0, o0, none⟩) n cap) (zs.take n) := by
  rcases h with ⟨h, _⟩ | ⟨ad, cap', hv, hc⟩
  · cases h
  · simp only [Value.slice.injEq, Option.some.injEq] at hv
    obtain ⟨rfl, _, rfl⟩ := hv
    refine Or.inr ⟨_, cap, by rw [List.length_take, Nat.min_eq_left hn], fun j u hu => hc j u ?_⟩
    rw [List.map_take, List.getElem?_take] at hu
    split at hu
    · exact hu
    · cases hu
end Nm
end Go.Proofs.YtnhgmdfmhmkpgaaGreatDoor
