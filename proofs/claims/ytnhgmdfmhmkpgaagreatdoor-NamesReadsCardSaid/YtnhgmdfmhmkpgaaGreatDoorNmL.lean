/- What instructions are called (layer 11): the library in the form of the walks. No conditions but those stated. -/
import Derived.Test.YtnhgmdfmhmkpgaaGreatDoorNm
namespace Go.Proofs.YtnhgmdfmhmkpgaaGreatDoor
open Go.RowKit
open Kit
set_option linter.unusedSimpArgs false
set_option linter.unusedVariables false
namespace Nm
theorem rk_len (old new : Str) : ∀ (k : Nat) (s : Str), (Lib.replaceK old new k s).length ≤ s.length + k * new.length
  | 0, s => by simp [Lib.replaceK]
  | k + 1, s => by
    rw [Lib.replaceK]
    split
    · omega
    · have := rk_len old new k (s.drop ((Lib.index s old).toNat + old.length))
      simp only [List.length_append, List.length_take, List.length_drop] at *
      rw [Nat.succ_mul]
      omega
theorem cnt_le (s old : ByteArray) (h : 1 ≤ old.size) : Lib.count s.data.toList old.data.toList ≤ s.size := Lib.countB_le old h s.size s (Nat.le_refl _)
theorem rep_len (s old new : ByteArray) (n : Int) (h : 1 ≤ old.size) (hs : s.size ≤ 60) (hn : new.size ≤ 20) : (Lib.replace s.data.toList old.data.toList new.data.toList n).length ≤ 2000 := by
  have h0 : s.data.toList.length = s.size := (Lib.size_eq s).symm
  have h1 : new.data.toList.length = new.size := (Lib.size_eq new).symm
  unfold Lib.replace
  split
  · omega
  · have h2 := rk_len old.data.toList new.data.toList (Lib.replaceNum s.data.toList old.data.toList n) s.data.toList
    have h3 : Lib.replaceNum s.data.toList old.data.toList n ≤ 60 := by
      have := cnt_le s old h
      unfold Lib.replaceNum
      split <;> omega
    have h4 := Nat.mul_le_mul h3 (show new.data.toList.length ≤ 20 by omega)
    omega
theorem contains_any (s sub : ByteArray) (hs : s.size ≤ 2000) : Held 35 #[.string s, .string sub] (.bool (Lib.contains s.data.toList sub.data.toList)) := held fun W hW => by
  obtain ⟨m, hm⟩ := hW.1
  refine (Tryz.strings_Contains s sub m W (by omega) hm).mono ?_
  rintro e w' ⟨rfl, rfl⟩
  exact ⟨rfl, Below.refl _ _⟩
theorem replace_any (s old new : ByteArray) (n : Int) (ho : 1 ≤ old.size) (hs : s.size ≤ 60) (hn : new.size ≤ 20) : HeldS 36 #[.string s, .string old, .string new, .int .i64 n] (Lib.replace s.data.toList old.data.toList new.data.toList n) 2000 := heldS fun W hW => by
  obtain ⟨m, hm⟩ := hW.1
  have h := cnt_le s old ho
  have h4 := Nat.mul_le_mul (show Lib.countB s old ≤ 60 from Nat.le_trans h hs) hn
  refine (Tryz.strings_Replace s old new n m W (by omega) hm ho (by omega)).mono ?_
  rintro e w' ⟨rfl, hb⟩
  exact ⟨_, rfl, rfl, by rw [Lib.size_eq]; exact rep_len s old new n ho hs hn, hb⟩
theorem replaceall_any (s old new : ByteArray) (ho : 1 ≤ old.size) (hs : s.size ≤ 60) (hn : new.size ≤ 20) : HeldS 37 #[.string s, .string old, .string new] (Lib.replaceAll s.data.toList old.data.toList new.data.toList) 2000 := heldS fun W hW => by
  obtain ⟨m, hm⟩ := hW.1
  have h := cnt_le s old ho
  have h4 := Nat.mul_le_mul (show Lib.countB s old ≤ 60 from Nat.le_trans h hs) hn
  refine (Tryz.strings_ReplaceAll s old new m W (by omega) hm ho (by omega)).mono ?_
  rintro e w' ⟨rfl, hb⟩
  exact ⟨_, rfl, rfl, by rw [Lib.size_eq]; exact rep_len s old new (-1) ho hs hn, hb⟩
theorem cut_lib (s sep : ByteArray) (hs : s.size ≤ 2000) : Held 38 #[.string s, .string sep] (.tuple #[.string (bs (Lib.cut s.data.toList sep.data.toList).1), .string (bs (Lib.cut s.data.toList sep.data.toList).2.1), .bool (Lib.cut s.data.toList sep.data.toList).2.2]) := held fun W hW => by
  obtain ⟨m, hm⟩ := hW.1
  refine (Tryz.strings_Cut s sep m W (by omega) hm).mono ?_
  rintro e w' ⟨rfl, n, rfl⟩
  exact ⟨rfl, below_drewN (Below.refl _ _) n⟩
/-- The cells of strings. -/
def SC (xs : List Str) : Array Value := (xs.map fun l => Value.string (bs l)).toArray
theorem split_lib (s sep : ByteArray) (hs : s.size ≤ 2000) (h1 : 1 ≤ sep.size) (n : Nat) (hn : (Lib.split s.data.toList sep.data.toList).length = n) : ∀ (w : World) (L : List (Nat × Array Value × TypeId)) (W : World), NB w L W → Calls Tryz.prog 39 #[.string s, .string sep] W fun e w' => ∃ g, e = .returned (.slice (some ⟨g, 0, none⟩) n n) ∧ NB w ((g, SC (Lib.split s.data.toList sep.data.toList), 9) :: L) w' ∧ w.heap.size ≤ g := fun w L W k => by
  obtain ⟨m, hm⟩ := k.gv.1
  refine (Tryz.strings_Split s sep m W (by omega) hm h1).mono ?_
  rintro e w' ⟨rfl, rfl⟩
  have e1 := Lib.splitB_data sep 0 (Lib.countB s sep) s
  have e2 : (Lib.splitB sep 0 (Lib.countB s sep) s).map Value.string = (Lib.split s.data.toList sep.data.toList).map fun l => Value.string (bs l) := by
    show _ = (Lib.splitK sep.data.toList 0 (Lib.countB s sep) s.data.toList).map _
    rw [← e1, List.map_map]
    apply List.map_congr_left
    intro x _
    show Value.string x = Value.string (bs x.data.toList)
    rw [bs, Lib.mk_data]
  have e3 : Lib.countB s sep + 1 = n := by
    have := Lib.splitB_all sep h1 0 _ s rfl
    rw [← hn, ← this]
    have := congrArg List.length e2
    simpa using this
  rw [e3, e2]
  exact ⟨W.heap.size, rfl, k.alloc _ _, k.le⟩
theorem join_lib (g n c : Nat) (xs : List Str) (sep : ByteArray) (hn : xs.length = n) (hc : n ≤ c) (hN : n ≤ 1000) (hlen : (Lib.join xs sep.data.toList).length ≤ 4000) : ∀ (w : World) (L : List (Nat × Array Value × TypeId)) (W : World), NB w ((g, SC xs, 9) :: L) W → Calls Tryz.prog 40 #[.slice (some ⟨g, 0, none⟩) n c, .string sep] W fun e w' => ∃ a : ByteArray, e = .returned (.string a) ∧ a.data.toList = Lib.join xs sep.data.toList ∧ a.size ≤ 4000 ∧ NB w ((g, SC xs, 9) :: L) w' := fun w L W k => by
  have hm : (xs.map bs).map (·.data.toList) = xs := by
    rw [List.map_map]
    conv => rhs; rw [← List.map_id xs]
    apply List.map_congr_left
    intro x _
    rfl
  have h := Tryz.strings_Join g 0 c (xs.map bs) sep W (fun j x hx => by
    rw [Nat.zero_add, cell_of _ _ j k.h0]
    unfold SC
    rw [List.getElem?_map] at hx
    rw [List.getElem?_toArray, List.getElem?_map]
    cases e : xs[j]? with
    | none => rw [e] at hx; cases hx
    | some y => rw [e] at hx; simp at hx; simp [hx]) (heap_lt k.h0) (by simp; omega) (by simp; omega) (by rw [hm]; omega)
  rw [hm, List.length_map, hn] at h
  refine h.mono ?_
  rintro e w' ⟨rfl, hb⟩
  exact ⟨_, rfl, rfl, by rw [Lib.size_eq]; exact hlen, k.below hb⟩
end Nm
end Go.Proofs.YtnhgmdfmhmkpgaaGreatDoor
