/- What instructions are called (layer 11): an argument read. No conditions but those stated. -/
import Derived.Test.YtnhgmdfmhmkpgaaGreatDoorNmZ
namespace Go.Proofs.YtnhgmdfmhmkpgaaGreatDoor
open Go.RowKit
open Kit
set_option linter.unusedSimpArgs false
set_option linter.unusedVariables false
namespace Nm
theorem u8_nat {x : Int} (h : (Lit.int .u8 x).wf = true) : ∃ n : Nat, x = n ∧ n < 256 := by
  have : 0 ≤ x ∧ x < 256 := by
    simp [Lit.wf, IntKind.min, IntKind.max, IntKind.signed, IntKind.bits] at h
    omega
  exact ⟨x.toNat, by omega, by omega⟩
theorem name_at (zs : List UInt8) (N : Str) (n : Nat) (hN : nameL (byt zs) = (N, n)) (w0 W : World) (hG : GV w0) (hb : Below w0.heap.size w0 W) (v : Value) (hB : BytesOf W v zs) :
    Calls Tryz.prog 8 #[v] W fun e w' => ∃ s : ByteArray, e = .returned (.tuple #[.string s, .int .i64 (n : Nat)]) ∧ s.data.toList = N ∧ s.size ≤ 5000 ∧ Below w0.heap.size w0 w' :=
  (name_any zs v W (hG.below hb) hB).mono fun e w' ⟨s, m, h1, h2, h3, h4⟩ => by
    rw [hN] at h2
    obtain ⟨h5, rfl⟩ := Prod.mk.inj h2
    exact ⟨s, h1, h5, h3, hb.trans (h4.2.2.mono hb.size)⟩
def NilOk (v : Value) : Prop := ∀ l c, v = .slice none l c → l = 0 ∧ c = 0
theorem nil_ok {H : Type} {enc : TypeId × Value → H} {P : Program} {w : World} {base : Nat} {sp : Nat → Bool} {held : Bool} {fuel : Nat} {t e : TypeId} {v : Value} {d : DataW H} {ps : List MemPlace} (hu : P.underlying t = some (.slice e))
    (h : DataW.trod enc P w base sp held fuel t [v] = some (d, ps)) : NilOk v := by
  rintro l c rfl
  cases fuel with
  | zero => simp [DataW.trod] at h
  | succ fuel =>
    by_cases hl : l = 0
    · by_cases hc : c = 0
      · exact ⟨hl, hc⟩
      · exfalso; subst hl
        cases c with
        | zero => exact hc rfl
        | succ c => simp [DataW.trod, hu] at h
    · exfalso
      cases l with
      | zero => exact hl rfl
      | succ l => simp [DataW.trod, hu] at h
theorem src_of {w : World} {v : Value} {zs : List Int} (h : IntsOf w v .u8 zs) (hn : NilOk v) : ∃ us : List UInt8, us.length = zs.length ∧ SrcOf w v us ∧ (zs.length ≤ 1000 → BytesOf w v us) ∧ ∃ p cap, v = .slice p us.length cap ∧ us.length ≤ cap := by
  obtain ⟨p, cap, hv, hl, hm, hc, hw⟩ := h
  have hlen : (zs.map fun z => UInt8.ofNat z.toNat).length = zs.length := by simp
  have hval : ∀ (i : Nat) (x : UInt8), (zs.map fun z => UInt8.ofNat z.toNat)[i]? = some x → i < zs.length ∧ (x.toNat : Int) = zs.getD i 0 := by
    intro i x hx
    rw [List.getElem?_map] at hx
    obtain ⟨z, hz, rfl⟩ := Option.map_eq_some_iff.1 hx
    obtain ⟨hi, hz'⟩ := List.getElem?_eq_some_iff.1 hz
    obtain ⟨k, hk, hk2⟩ := u8_nat (hw z (hz' ▸ List.getElem_mem hi))
    refine ⟨hi, ?_⟩
    rw [List.getD_eq_getElem?_getD, hz, hk]
    simp [UInt8.toNat_ofNat', Nat.mod_eq_of_lt hk2]
  refine ⟨zs.map fun z => UInt8.ofNat z.toNat, hlen, ?_, fun h1 => ⟨p, cap, by rw [hlen]; exact hv, by rw [hlen]; exact h1, fun h0 => ?_⟩, p, cap, by rw [hlen]; exact hv, by rw [hlen]; exact hl⟩
  · cases p with
    | none =>
      obtain ⟨h1, h2⟩ := hn _ _ hv
      have : zs = [] := List.eq_nil_of_length_eq_zero h1
      subst this
      subst h2
      exact Or.inl ⟨hv, rfl⟩
    | some ad =>
      refine Or.inr ⟨ad, cap, by rw [hlen]; exact hv, fun j u hu => ?_⟩
      rw [List.getElem?_map] at hu
      obtain ⟨x, hx, rfl⟩ := Option.map_eq_some_iff.1 hu
      obtain ⟨hi, hx2⟩ := hval j x hx
      obtain ⟨b, o, hb, hbl, hcell⟩ := hc (by omega)
      obtain rfl := Option.some.inj hb
      have h2 := hcell j hi
      rw [← hx2] at h2
      cases j with
      | zero => simpa [Addr.add, bv] using h2
      | succ j => simpa [Addr.add, bv] using h2
  · have h0' : 0 < zs.length := by
      rw [← hlen]; exact List.length_pos_iff.2 h0
    obtain ⟨b, o, hb, hbl, hcell⟩ := hc h0'
    refine ⟨b, o, hb, hbl, fun i x hx => ?_⟩
    obtain ⟨hi, hx2⟩ := hval i x hx
    rw [hcell i hi, hx2]
theorem SrcOf.zeros6 (W : World) : SrcOf (W.alloc (.cells #[.int .u8 0, .int .u8 0, .int .u8 0, .int .u8 0, .int .u8 0, .int .u8 0] 5)) (.slice (some ⟨W.heap.size, 0, none⟩) 6 6) [0, 0, 0, 0, 0, 0] := by
  refine Or.inr ⟨_, 6, rfl, fun j u hu => ?_⟩
  have e : ∀ i : Nat, (W.alloc (.cells #[.int .u8 0, .int .u8 0, .int .u8 0, .int .u8 0, .int .u8 0, .int .u8 0] 5)).cell? ⟨W.heap.size, i, none⟩ = (#[.int .u8 0, .int .u8 0, .int .u8 0, .int .u8 0, .int .u8 0, .int .u8 0] : Array Value)[i]? := fun i => cell_of _ _ i (heap_at _ _ _ rfl)
  match j, hu with
  | 0, hu => simp [bv] at hu; subst hu; exact (e 0).trans rfl
  | 1, hu => simp [bv] at hu; subst hu; exact (e 1).trans rfl
  | 2, hu => simp [bv] at hu; subst hu; exact (e 2).trans rfl
  | 3, hu => simp [bv] at hu; subst hu; exact (e 3).trans rfl
  | 4, hu => simp [bv] at hu; subst hu; exact (e 4).trans rfl
  | 5, hu => simp [bv] at hu; subst hu; exact (e 5).trans rfl
  | (i + 6), hu => simp at hu
theorem at_zero6 (zs : List UInt8) (k : Nat) (hk : k < 6) : (zs ++ [0, 0, 0, 0, 0, 0])[k]? = some (zs.getD k 0) := by
  by_cases h : k < zs.length
  · rw [List.getElem?_append_left h, List.getD_eq_getElem?_getD, List.getElem?_eq_getElem h]; rfl
  · rw [List.getElem?_append_right (by omega), List.getD_eq_getElem?_getD, List.getElem?_eq_none (l := zs) (by omega)]
    obtain ⟨j, hj⟩ : ∃ j, k - zs.length = j := ⟨_, rfl⟩
    rw [hj]
    match j, (by omega : j < 6) with
    | 0, _ => rfl
    | 1, _ => rfl
    | 2, _ => rfl
    | 3, _ => rfl
    | 4, _ => rfl
    | 5, _ => rfl
theorem byt_same (zs : List UInt8) {W : World} {b o : Nat} (hcell : ∀ (i : Nat) (x : UInt8), (zs ++ [0, 0, 0, 0, 0, 0])[i]? = some x → W.cell? ⟨b, o + i, none⟩ = some (.int .u8 x.toNat)) (k : Nat) (hk : k < 6) : W.cell? ⟨b, o + k, none⟩ = some (.int .u8 (byt zs k : Nat)) := hcell k _ (at_zero6 zs k hk)
end Nm
end Go.Proofs.YtnhgmdfmhmkpgaaGreatDoor
