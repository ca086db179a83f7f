/- What instructions are called (layer 11): what the walks share; one word of some. No conditions but those stated. -/
import Derived.Test.YtnhgmdfmhmkpgaaGreatDoorKit
import Derived.Test.YtnhgmdfmhmkpgaaGreatDoorRow
import Derived.Test.YtnhgmdfmhmkpgaaGreatDoorIdx
import Derived.Test.YtnhgmdfmhmkpgaaGreatDoorShelf
import Derived.Shelf.Unicode.PredsPay
import Derived.RegionTactic
import Derived.LoopTactic
import Derived.Deep.RegionHeld3
import Derived.Deep.DeepCutAuto
import Derived.Lib.Hide
namespace Go.Proofs.YtnhgmdfmhmkpgaaGreatDoor
open Go.RowKit
open Kit
set_option linter.unusedSimpArgs false
set_option linter.unusedVariables false
namespace Nm
abbrev Str := List UInt8
/-- A string of just these bytes. -/
def bs (l : List UInt8) : ByteArray := ⟨l.toArray⟩
theorem bs_data (l : List UInt8) : (bs l).data.toList = l := rfl
theorem bs_size (l : List UInt8) : (bs l).size = l.length := by unfold bs; rw [Lib.size_eq]
theorem size_mk (l : List UInt8) : (ByteArray.mk l.toArray).size = l.length := bs_size l
theorem bs_of {a : ByteArray} {l : List UInt8} (h : a.data.toList = l) : a = bs l := by subst h; exact (Lib.mk_data a).symm
theorem bs_app (a b : List UInt8) : bs a ++ bs b = bs (a ++ b) := bs_of (by simp [bs])
theorem ret_s {a : ByteArray} {l : List UInt8} (h : a.data.toList = l) : Ending.returned (.string a) = Ending.returned (.string (bs l)) := by rw [bs_of h]
def wd (t : List Str) (n : Int) : Str := t.getD n.toNat []
/-- What the walks ask of the library's variables. -/
def GV (w : World) : Prop := (∃ m, w.cell? ⟨2, 0, none⟩ = some (.int .i64 m)) ∧ Lib.TabIs Tryz.prog w "internal/strconv.uint64pow10" .u64 Lib.pow10Tab ∧ Lib.TabIs Tryz.prog w "strings.asciiSpace" .u8 Lib.asciiSpaceTab ∧ w.cell? ⟨8, 15, none⟩ = some (.int .u8 4)
theorem GV.below {w w' : World} (h : GV w) (hb : Below w.heap.size w w') : GV w' := by
  obtain ⟨⟨m, hm⟩, h1, h2, h3⟩ := h
  exact ⟨⟨m, cell_below hb hm⟩, TabIs_below (g := 5) (by kernel_rfl) h1 hb, TabIs_below (g := 0) (by kernel_rfl) h2 hb, cell_below hb h3⟩
/-- Blocks that are held whole, and the library's variables beside them. -/
def NB (w : World) (L : List (Nat × Array Value × TypeId)) (W : World) : Prop := GV W ∧ (∀ p ∈ L, W.heap[p.1]? = some (.cells p.2.1 p.2.2)) ∧ Below w.heap.size w W
theorem NB.start {w : World} (h : GV w) : NB w [] w := ⟨h, fun p hp => (by cases hp), Below.refl _ _⟩
theorem NB.gv {w : World} {L : List (Nat × Array Value × TypeId)} {W : World} (h : NB w L W) : GV W := h.1
theorem NB.bel {w : World} {L : List (Nat × Array Value × TypeId)} {W : World} (h : NB w L W) : Below w.heap.size w W := h.2.2
theorem NB.le {w : World} {L : List (Nat × Array Value × TypeId)} {W : World} (h : NB w L W) : w.heap.size ≤ W.heap.size := h.2.2.size
theorem NB.get {w : World} {L : List (Nat × Array Value × TypeId)} {W : World} (h : NB w L W) (b : Nat) (A : Array Value) (t : TypeId) (hm : (b, A, t) ∈ L) : W.heap[b]? = some (.cells A t) := h.2.1 _ hm
theorem NB.below {w : World} {L : List (Nat × Array Value × TypeId)} {W W' : World} (h : NB w L W) (hb : Below W.heap.size W W') : NB w L W' := ⟨h.1.below hb, fun p hp => (hb.block _ (heap_lt (h.2.1 p hp))).trans (h.2.1 p hp), h.2.2.trans (hb.mono h.2.2.size)⟩
theorem NB.drew {w : World} {L : List (Nat × Array Value × TypeId)} {W : World} (h : NB w L W) : NB w L W.drew := h.below (Below.refl _ _).drew
theorem NB.allocX {w : World} {L : List (Nat × Array Value × TypeId)} {W : World} (h : NB w L W) (o : Obj) : NB w L (W.alloc o) := h.below ((Below.refl _ _).alloc (Nat.le_refl _) _)
theorem NB.sub {w : World} {L L' : List (Nat × Array Value × TypeId)} {W : World} (h : NB w L W) (hs : ∀ p ∈ L', p ∈ L) : NB w L' W := ⟨h.1, fun p hp => h.2.1 p (hs p hp), h.2.2⟩
theorem NB.alloc {w : World} {L : List (Nat × Array Value × TypeId)} {W : World} (h : NB w L W) (A : Array Value) (t : TypeId) : NB w ((W.heap.size, A, t) :: L) (W.alloc (.cells A t)) := by
  refine ⟨(h.allocX _).1, fun p hp => ?_, (h.allocX _).2.2⟩
  rcases List.mem_cons.1 hp with rfl | hp
  · exact heap_at _ _ _ rfl
  · exact (heap_past _ _ _ (heap_lt (h.2.1 p hp))).trans (h.2.1 p hp)
theorem NB.set {w : World} {L : List (Nat × Array Value × TypeId)} {W : World} (h : NB w L W) (b k : Nat) (v : Value) (A : Array Value) (t : TypeId) (hm : (b, A, t) ∈ L) (hb : w.heap.size ≤ b) (hw : GV w) (A' : Array Value) (hA : A.setIfInBounds k v = A') (L' : List (Nat × Array Value × TypeId)) (hL : ∀ p ∈ L', p = (b, A', t) ∨ (p ∈ L ∧ p.1 ≠ b)) : NB w L' (W.setCell ⟨b, k, none⟩ v) := by
  have hbel : Below w.heap.size w (W.setCell ⟨b, k, none⟩ v) := h.2.2.setCell (by simpa using hb) _
  refine ⟨hw.below hbel, fun p hp => ?_, hbel⟩
  rcases hL p hp with rfl | ⟨hp, hn⟩
  · rw [← hA]; exact heap_set_same _ _ _ _ (h.2.1 _ hm)
  · exact (heap_set_other _ _ _ _ _ hn).trans (h.2.1 p hp)
theorem NB.h0 {w : World} {b : Nat} {A : Array Value} {t : TypeId} {L : List (Nat × Array Value × TypeId)} {W : World} (h : NB w ((b, A, t) :: L) W) : W.heap[b]? = some (.cells A t) := h.2.1 (b, A, t) (by simp)
theorem NB.h1 {w : World} {p0 : Nat × Array Value × TypeId} {b : Nat} {A : Array Value} {t : TypeId} {L : List (Nat × Array Value × TypeId)} {W : World} (h : NB w (p0 :: (b, A, t) :: L) W) : W.heap[b]? = some (.cells A t) := h.2.1 (b, A, t) (by simp)
theorem NB.h2 {w : World} {p0 p1 : Nat × Array Value × TypeId} {b : Nat} {A : Array Value} {t : TypeId} {L : List (Nat × Array Value × TypeId)} {W : World} (h : NB w (p0 :: p1 :: (b, A, t) :: L) W) : W.heap[b]? = some (.cells A t) := h.2.1 (b, A, t) (by simp)
theorem NB.c5 {w : World} {b : Nat} {x y z p q : Value} {t : TypeId} {L : List (Nat × Array Value × TypeId)} {W : World} (h : NB w ((b, #[x, y, z, p, q], t) :: L) W) : W.cell? ⟨b, 0, none⟩ = some x ∧ W.cell? ⟨b, 1, none⟩ = some y ∧ W.cell? ⟨b, 2, none⟩ = some z ∧ W.cell? ⟨b, 3, none⟩ = some p ∧ W.cell? ⟨b, 4, none⟩ = some q :=
  ⟨(cell_of _ _ 0 h.h0).trans rfl, (cell_of _ _ 1 h.h0).trans rfl, (cell_of _ _ 2 h.h0).trans rfl, (cell_of _ _ 3 h.h0).trans rfl, (cell_of _ _ 4 h.h0).trans rfl⟩
/-- A call that gives r and keeps all that is held. -/
abbrev Held (f : FuncId) (args : Array Value) (r : Value) : Prop := ∀ (w : World) (L : List (Nat × Array Value × TypeId)) (W : World), NB w L W → Calls Tryz.prog f args W fun e w' => e = .returned r ∧ NB w L w'
theorem held {f : FuncId} {args : Array Value} {r : Value} (h : ∀ W, GV W → Calls Tryz.prog f args W fun e w' => e = .returned r ∧ Below W.heap.size W w') : Held f args r :=
  fun w L W k => (h W k.1).mono fun e w' ⟨h1, h2⟩ => ⟨h1, k.below h2⟩
theorem held' {f : FuncId} {args : Array Value} {r : Value} (h : ∀ W, GV W → Calls Tryz.prog f args W fun e w' => e = .returned r ∧ NB W [] w') : Held f args r :=
  held fun W hW => (h W hW).mono fun e w' ⟨h1, h2⟩ => ⟨h1, h2.2.2⟩
/-- A call that gives a string of these bytes, no longer than n, and keeps all that is held. -/
abbrev HeldS (f : FuncId) (args : Array Value) (X : Str) (n : Nat) : Prop := ∀ (w : World) (L : List (Nat × Array Value × TypeId)) (W : World), NB w L W → Calls Tryz.prog f args W fun e w' => ∃ a : ByteArray, e = .returned (.string a) ∧ a.data.toList = X ∧ a.size ≤ n ∧ NB w L w'
theorem heldS {f : FuncId} {args : Array Value} {X : Str} {n : Nat} (h : ∀ W, GV W → Calls Tryz.prog f args W fun e w' => ∃ a : ByteArray, e = .returned (.string a) ∧ a.data.toList = X ∧ a.size ≤ n ∧ Below W.heap.size W w') : HeldS f args X n :=
  fun w L W k => (h W k.1).mono fun e w' ⟨a, h1, h2, h3, h4⟩ => ⟨a, h1, h2, h3, k.below h4⟩
theorem heldS' {f : FuncId} {args : Array Value} {X : Str} {n : Nat} (h : ∀ W, GV W → Calls Tryz.prog f args W fun e w' => ∃ a : ByteArray, e = .returned (.string a) ∧ a.data.toList = X ∧ a.size ≤ n ∧ ∃ L, NB W L w') : HeldS f args X n :=
  heldS fun W hW => (h W hW).mono fun e w' ⟨a, h1, h2, h3, L, h4⟩ => ⟨a, h1, h2, h3, h4.2.2⟩
theorem below_drewN {B : Nat} {a w : World} (h : Below B a w) : ∀ n, Below B a (w.drewN n)
  | 0 => h
  | n + 1 => by have := below_drewN h n; exact this.drew
def t_ones : List Str := [[66], [67], [68], [69], [72], [76], [40, 72, 76, 41], [65]]
def t_pairs : List Str := [[66, 67], [68, 69], [72, 76], [83, 80]]
def t_pushed : List Str := [[66, 67], [68, 69], [72, 76], [65, 70]]
def t_conds : List Str := [[78, 90], [90], [78, 67], [67], [80, 79], [80, 69], [80], [77]]
def t_turns : List Str := [[82, 76, 67], [82, 82, 67], [82, 76], [82, 82], [83, 76, 65], [83, 82, 65], [83, 76, 76], [83, 82, 76]]
def t_there : List Str := [[40, 66, 67, 41], [40, 68, 69, 41], [40, 110, 110, 41], [40, 110, 110, 41]]
def t_what : List Str := [[65], [65], [72, 76], [65]]
def t_rots : List Str := [[82, 76, 67, 65], [82, 82, 67, 65], [82, 76, 65], [82, 82, 65], [68, 65, 65], [67, 80, 76], [83, 67, 70], [67, 67, 70]]
def t_brs : List Str := [[66, 73, 84], [82, 69, 83], [83, 69, 84]]
def t_blk : List Str := [[76, 68], [67, 80], [73, 78], [79, 85, 84]]
def t_ends : List Str := [[73], [68], [73, 82], [68, 82]]
def t_sa : List Str := [[83, 66, 67], [65, 68, 67]]
def t_ims : List Str := [[48], [48], [49], [50]]
set_option maxRecDepth 100000 in
set_option maxHeartbeats 4000000 in
theorem word_any (s : ByteArray) (n : Int) (m : Nat) (h0 : 0 ≤ n) (h1 : n < (Lib.fields s.data.toList).length) (hs : s.size < 4294967281) (ha : ∀ (j : Nat) b, s.data.toList[j]? = some b → b.toNat < 128) (hz : (wd (Lib.fields s.data.toList) n).length ≤ m) :
    HeldS 32 #[.string s, .int .i64 n] (wd (Lib.fields s.data.toList) n) m := heldS fun W hW => by
  have hF := Tryz.strings_Fields s W hs ha hW.2.2.1
  obtain ⟨k, rfl⟩ := Int.eq_ofNat_of_zero_le h0
  have hk : k < (Lib.fields s.data.toList).length := by omega
  have hc : (W.alloc (.cells ((Lib.fields s.data.toList).map fun l => Value.string ⟨l.toArray⟩).toArray 9)).cell? ⟨W.heap.size, k, none⟩ = some (.string (bs (wd (Lib.fields s.data.toList) k))) := by
    rw [cell_of _ _ k (heap_at _ _ _ rfl)]
    simp [wd, hk, bs]
  generalize wd (Lib.fields s.data.toList) k = R at *
  generalize (Lib.fields s.data.toList).length = N at *
  generalize ((Lib.fields s.data.toList).map fun l => Value.string ⟨l.toArray⟩).toArray = C at *
  go_enter Tryz.func32, Tryz.ntmps32
  go_wp2_with (go_at_call 48; refine hF.mono ?_; rintro e w' ⟨rfl, rfl⟩)
  go_ret
  exact ⟨_, rfl, rfl, by rw [bs_size]; exact hz, (Below.refl _ _).alloc (Nat.le_refl _) _⟩
theorem asc_of {s : ByteArray} (h : s.data.toList.all (fun b => decide (b.toNat < 128)) = true) : ∀ (j : Nat) b, s.data.toList[j]? = some b → b.toNat < 128 := fun j b hb => of_decide_eq_true (List.all_eq_true.1 h b (List.mem_of_getElem? hb))
theorem wd_len (t : List Str) (m : Nat) (h : (t.all fun x => decide (x.length ≤ m)) = true) (n : Int) : (wd t n).length ≤ m := by
  unfold wd
  rw [List.getD_eq_getElem?_getD]
  cases e : t[n.toNat]? with
  | none => simp
  | some x => exact of_decide_eq_true (List.all_eq_true.1 h x (List.mem_of_getElem? e))
theorem w_ones (n : Int) (h0 : 0 ≤ n) (h1 : n < 8) : HeldS 32 #[.string { data := #[66, 32, 67, 32, 68, 32, 69, 32, 72, 32, 76, 32, 40, 72, 76, 41, 32, 65] }, .int .i64 n] (wd t_ones n) 8 := by
  have e : Lib.fields (ByteArray.data { data := #[66, 32, 67, 32, 68, 32, 69, 32, 72, 32, 76, 32, 40, 72, 76, 41, 32, 65] }).toList = t_ones := by decide +kernel
  rw [← e]
  exact word_any _ n 8 h0 (by rw [e]; exact h1) (by decide) (asc_of (by decide +kernel)) (by rw [e]; exact wd_len _ _ (by decide +kernel) _)
theorem w_pairs (n : Int) (h0 : 0 ≤ n) (h1 : n < 4) : HeldS 32 #[.string { data := #[66, 67, 32, 68, 69, 32, 72, 76, 32, 83, 80] }, .int .i64 n] (wd t_pairs n) 8 := by
  have e : Lib.fields (ByteArray.data { data := #[66, 67, 32, 68, 69, 32, 72, 76, 32, 83, 80] }).toList = t_pairs := by decide +kernel
  rw [← e]
  exact word_any _ n 8 h0 (by rw [e]; exact h1) (by decide) (asc_of (by decide +kernel)) (by rw [e]; exact wd_len _ _ (by decide +kernel) _)
theorem w_pushed (n : Int) (h0 : 0 ≤ n) (h1 : n < 4) : HeldS 32 #[.string { data := #[66, 67, 32, 68, 69, 32, 72, 76, 32, 65, 70] }, .int .i64 n] (wd t_pushed n) 8 := by
  have e : Lib.fields (ByteArray.data { data := #[66, 67, 32, 68, 69, 32, 72, 76, 32, 65, 70] }).toList = t_pushed := by decide +kernel
  rw [← e]
  exact word_any _ n 8 h0 (by rw [e]; exact h1) (by decide) (asc_of (by decide +kernel)) (by rw [e]; exact wd_len _ _ (by decide +kernel) _)
theorem w_conds (n : Int) (h0 : 0 ≤ n) (h1 : n < 8) : HeldS 32 #[.string { data := #[78, 90, 32, 90, 32, 78, 67, 32, 67, 32, 80, 79, 32, 80, 69, 32, 80, 32, 77] }, .int .i64 n] (wd t_conds n) 8 := by
  have e : Lib.fields (ByteArray.data { data := #[78, 90, 32, 90, 32, 78, 67, 32, 67, 32, 80, 79, 32, 80, 69, 32, 80, 32, 77] }).toList = t_conds := by decide +kernel
  rw [← e]
  exact word_any _ n 8 h0 (by rw [e]; exact h1) (by decide) (asc_of (by decide +kernel)) (by rw [e]; exact wd_len _ _ (by decide +kernel) _)
theorem w_turns (n : Int) (h0 : 0 ≤ n) (h1 : n < 8) : HeldS 32 #[.string { data := #[82, 76, 67, 32, 82, 82, 67, 32, 82, 76, 32, 82, 82, 32, 83, 76, 65, 32, 83, 82, 65, 32, 83, 76, 76, 32, 83, 82, 76] }, .int .i64 n] (wd t_turns n) 8 := by
  have e : Lib.fields (ByteArray.data { data := #[82, 76, 67, 32, 82, 82, 67, 32, 82, 76, 32, 82, 82, 32, 83, 76, 65, 32, 83, 82, 65, 32, 83, 76, 76, 32, 83, 82, 76] }).toList = t_turns := by decide +kernel
  rw [← e]
  exact word_any _ n 8 h0 (by rw [e]; exact h1) (by decide) (asc_of (by decide +kernel)) (by rw [e]; exact wd_len _ _ (by decide +kernel) _)
theorem w_there (n : Int) (h0 : 0 ≤ n) (h1 : n < 4) : HeldS 32 #[.string { data := #[40, 66, 67, 41, 32, 40, 68, 69, 41, 32, 40, 110, 110, 41, 32, 40, 110, 110, 41] }, .int .i64 n] (wd t_there n) 8 := by
  have e : Lib.fields (ByteArray.data { data := #[40, 66, 67, 41, 32, 40, 68, 69, 41, 32, 40, 110, 110, 41, 32, 40, 110, 110, 41] }).toList = t_there := by decide +kernel
  rw [← e]
  exact word_any _ n 8 h0 (by rw [e]; exact h1) (by decide) (asc_of (by decide +kernel)) (by rw [e]; exact wd_len _ _ (by decide +kernel) _)
theorem w_what (n : Int) (h0 : 0 ≤ n) (h1 : n < 4) : HeldS 32 #[.string { data := #[65, 32, 65, 32, 72, 76, 32, 65] }, .int .i64 n] (wd t_what n) 8 := by
  have e : Lib.fields (ByteArray.data { data := #[65, 32, 65, 32, 72, 76, 32, 65] }).toList = t_what := by decide +kernel
  rw [← e]
  exact word_any _ n 8 h0 (by rw [e]; exact h1) (by decide) (asc_of (by decide +kernel)) (by rw [e]; exact wd_len _ _ (by decide +kernel) _)
theorem w_rots (n : Int) (h0 : 0 ≤ n) (h1 : n < 8) : HeldS 32 #[.string { data := #[82, 76, 67, 65, 32, 82, 82, 67, 65, 32, 82, 76, 65, 32, 82, 82, 65, 32, 68, 65, 65, 32, 67, 80, 76, 32, 83, 67, 70, 32, 67, 67, 70] }, .int .i64 n] (wd t_rots n) 8 := by
  have e : Lib.fields (ByteArray.data { data := #[82, 76, 67, 65, 32, 82, 82, 67, 65, 32, 82, 76, 65, 32, 82, 82, 65, 32, 68, 65, 65, 32, 67, 80, 76, 32, 83, 67, 70, 32, 67, 67, 70] }).toList = t_rots := by decide +kernel
  rw [← e]
  exact word_any _ n 8 h0 (by rw [e]; exact h1) (by decide) (asc_of (by decide +kernel)) (by rw [e]; exact wd_len _ _ (by decide +kernel) _)
theorem w_brs (n : Int) (h0 : 0 ≤ n) (h1 : n < 3) : HeldS 32 #[.string { data := #[66, 73, 84, 32, 82, 69, 83, 32, 83, 69, 84] }, .int .i64 n] (wd t_brs n) 8 := by
  have e : Lib.fields (ByteArray.data { data := #[66, 73, 84, 32, 82, 69, 83, 32, 83, 69, 84] }).toList = t_brs := by decide +kernel
  rw [← e]
  exact word_any _ n 8 h0 (by rw [e]; exact h1) (by decide) (asc_of (by decide +kernel)) (by rw [e]; exact wd_len _ _ (by decide +kernel) _)
theorem w_blk (n : Int) (h0 : 0 ≤ n) (h1 : n < 4) : HeldS 32 #[.string { data := #[76, 68, 32, 67, 80, 32, 73, 78, 32, 79, 85, 84] }, .int .i64 n] (wd t_blk n) 8 := by
  have e : Lib.fields (ByteArray.data { data := #[76, 68, 32, 67, 80, 32, 73, 78, 32, 79, 85, 84] }).toList = t_blk := by decide +kernel
  rw [← e]
  exact word_any _ n 8 h0 (by rw [e]; exact h1) (by decide) (asc_of (by decide +kernel)) (by rw [e]; exact wd_len _ _ (by decide +kernel) _)
theorem w_ends (n : Int) (h0 : 0 ≤ n) (h1 : n < 4) : HeldS 32 #[.string { data := #[73, 32, 68, 32, 73, 82, 32, 68, 82] }, .int .i64 n] (wd t_ends n) 8 := by
  have e : Lib.fields (ByteArray.data { data := #[73, 32, 68, 32, 73, 82, 32, 68, 82] }).toList = t_ends := by decide +kernel
  rw [← e]
  exact word_any _ n 8 h0 (by rw [e]; exact h1) (by decide) (asc_of (by decide +kernel)) (by rw [e]; exact wd_len _ _ (by decide +kernel) _)
theorem w_sa (n : Int) (h0 : 0 ≤ n) (h1 : n < 2) : HeldS 32 #[.string { data := #[83, 66, 67, 32, 65, 68, 67] }, .int .i64 n] (wd t_sa n) 8 := by
  have e : Lib.fields (ByteArray.data { data := #[83, 66, 67, 32, 65, 68, 67] }).toList = t_sa := by decide +kernel
  rw [← e]
  exact word_any _ n 8 h0 (by rw [e]; exact h1) (by decide) (asc_of (by decide +kernel)) (by rw [e]; exact wd_len _ _ (by decide +kernel) _)
theorem w_ims (n : Int) (h0 : 0 ≤ n) (h1 : n < 4) : HeldS 32 #[.string { data := #[48, 32, 48, 32, 49, 32, 50] }, .int .i64 n] (wd t_ims n) 8 := by
  have e : Lib.fields (ByteArray.data { data := #[48, 32, 48, 32, 49, 32, 50] }).toList = t_ims := by decide +kernel
  rw [← e]
  exact word_any _ n 8 h0 (by rw [e]; exact h1) (by decide) (asc_of (by decide +kernel)) (by rw [e]; exact wd_len _ _ (by decide +kernel) _)
set_option maxRecDepth 100000 in
set_option maxHeartbeats 4000000 in
theorem one_any (n : Int) (h0 : 0 ≤ n) (h1 : n < 8) : HeldS 13 #[.int .i64 n] (wd t_ones n) 8 := heldS' fun W hW => by
  have k0 := NB.start hW
  go_enter Tryz.func13, Tryz.ntmps13
  go_wp2_with (go_at_call 32; refine (w_ones n h0 h1 _ _ _ k0).mono ?_; rintro e w1 ⟨a1, rfl, ha1, hz1, k1⟩)
  go_ret
  exact ⟨_, rfl, ha1, hz1, _, k1⟩
theorem ix2_0 (a0 a1 : Value) (w : World) : Sem.run Tryz.prog (Instr.index 35 (.agg #[a0, a1]) (.int .i64 0)) w = .ok a0 w := index_run Tryz.underlying35 Tryz.underlying9 rfl (by kernel_rfl) _ _ _ _ (by omega) (by omega) (by rfl) w
theorem ix2_1 (a0 a1 : Value) (w : World) : Sem.run Tryz.prog (Instr.index 35 (.agg #[a0, a1]) (.int .i64 1)) w = .ok a1 w := index_run Tryz.underlying35 Tryz.underlying9 rfl (by kernel_rfl) _ _ _ _ (by omega) (by omega) (by rfl) w
theorem ix4_0 (a0 a1 a2 a3 : Value) (w : World) : Sem.run Tryz.prog (Instr.index 61 (.agg #[a0, a1, a2, a3]) (.int .i64 0)) w = .ok a0 w := index_run Tryz.underlying61 Tryz.underlying9 rfl (by kernel_rfl) _ _ _ _ (by omega) (by omega) (by rfl) w
theorem ix4_1 (a0 a1 a2 a3 : Value) (w : World) : Sem.run Tryz.prog (Instr.index 61 (.agg #[a0, a1, a2, a3]) (.int .i64 1)) w = .ok a1 w := index_run Tryz.underlying61 Tryz.underlying9 rfl (by kernel_rfl) _ _ _ _ (by omega) (by omega) (by rfl) w
theorem ix4_2 (a0 a1 a2 a3 : Value) (w : World) : Sem.run Tryz.prog (Instr.index 61 (.agg #[a0, a1, a2, a3]) (.int .i64 2)) w = .ok a2 w := index_run Tryz.underlying61 Tryz.underlying9 rfl (by kernel_rfl) _ _ _ _ (by omega) (by omega) (by rfl) w
theorem ix4_3 (a0 a1 a2 a3 : Value) (w : World) : Sem.run Tryz.prog (Instr.index 61 (.agg #[a0, a1, a2, a3]) (.int .i64 3)) w = .ok a3 w := index_run Tryz.underlying61 Tryz.underlying9 rfl (by kernel_rfl) _ _ _ _ (by omega) (by omega) (by rfl) w
theorem ix8_0 (a0 a1 a2 a3 a4 a5 a6 a7 : Value) (w : World) : Sem.run Tryz.prog (Instr.index 53 (.agg #[a0, a1, a2, a3, a4, a5, a6, a7]) (.int .i64 0)) w = .ok a0 w := index_run Tryz.underlying53 Tryz.underlying9 rfl (by kernel_rfl) _ _ _ _ (by omega) (by omega) (by rfl) w
theorem ix8_1 (a0 a1 a2 a3 a4 a5 a6 a7 : Value) (w : World) : Sem.run Tryz.prog (Instr.index 53 (.agg #[a0, a1, a2, a3, a4, a5, a6, a7]) (.int .i64 1)) w = .ok a1 w := index_run Tryz.underlying53 Tryz.underlying9 rfl (by kernel_rfl) _ _ _ _ (by omega) (by omega) (by rfl) w
theorem ix8_2 (a0 a1 a2 a3 a4 a5 a6 a7 : Value) (w : World) : Sem.run Tryz.prog (Instr.index 53 (.agg #[a0, a1, a2, a3, a4, a5, a6, a7]) (.int .i64 2)) w = .ok a2 w := index_run Tryz.underlying53 Tryz.underlying9 rfl (by kernel_rfl) _ _ _ _ (by omega) (by omega) (by rfl) w
theorem ix8_3 (a0 a1 a2 a3 a4 a5 a6 a7 : Value) (w : World) : Sem.run Tryz.prog (Instr.index 53 (.agg #[a0, a1, a2, a3, a4, a5, a6, a7]) (.int .i64 3)) w = .ok a3 w := index_run Tryz.underlying53 Tryz.underlying9 rfl (by kernel_rfl) _ _ _ _ (by omega) (by omega) (by rfl) w
theorem ix8_4 (a0 a1 a2 a3 a4 a5 a6 a7 : Value) (w : World) : Sem.run Tryz.prog (Instr.index 53 (.agg #[a0, a1, a2, a3, a4, a5, a6, a7]) (.int .i64 4)) w = .ok a4 w := index_run Tryz.underlying53 Tryz.underlying9 rfl (by kernel_rfl) _ _ _ _ (by omega) (by omega) (by rfl) w
theorem ix8_5 (a0 a1 a2 a3 a4 a5 a6 a7 : Value) (w : World) : Sem.run Tryz.prog (Instr.index 53 (.agg #[a0, a1, a2, a3, a4, a5, a6, a7]) (.int .i64 5)) w = .ok a5 w := index_run Tryz.underlying53 Tryz.underlying9 rfl (by kernel_rfl) _ _ _ _ (by omega) (by omega) (by rfl) w
theorem ix8_6 (a0 a1 a2 a3 a4 a5 a6 a7 : Value) (w : World) : Sem.run Tryz.prog (Instr.index 53 (.agg #[a0, a1, a2, a3, a4, a5, a6, a7]) (.int .i64 6)) w = .ok a6 w := index_run Tryz.underlying53 Tryz.underlying9 rfl (by kernel_rfl) _ _ _ _ (by omega) (by omega) (by rfl) w
theorem ix8_7 (a0 a1 a2 a3 a4 a5 a6 a7 : Value) (w : World) : Sem.run Tryz.prog (Instr.index 53 (.agg #[a0, a1, a2, a3, a4, a5, a6, a7]) (.int .i64 7)) w = .ok a7 w := index_run Tryz.underlying53 Tryz.underlying9 rfl (by kernel_rfl) _ _ _ _ (by omega) (by omega) (by rfl) w
theorem wrp0 : IntKind.i64.wrap 0 = 0 := by rw [IntKind.wrap_i64]; omega
theorem wrp1 : IntKind.i64.wrap 1 = 1 := by rw [IntKind.wrap_i64]; omega
theorem wrp2 : IntKind.i64.wrap 2 = 2 := by rw [IntKind.wrap_i64]; omega
theorem wrp3 : IntKind.i64.wrap 3 = 3 := by rw [IntKind.wrap_i64]; omega
theorem wrp4 : IntKind.i64.wrap 4 = 4 := by rw [IntKind.wrap_i64]; omega
theorem wrp5 : IntKind.i64.wrap 5 = 5 := by rw [IntKind.wrap_i64]; omega
theorem wrp6 : IntKind.i64.wrap 6 = 6 := by rw [IntKind.wrap_i64]; omega
theorem wrp7 : IntKind.i64.wrap 7 = 7 := by rw [IntKind.wrap_i64]; omega
theorem wrp8 : IntKind.i64.wrap 8 = 8 := by rw [IntKind.wrap_i64]; omega
theorem wrp9 : IntKind.i64.wrap 9 = 9 := by rw [IntKind.wrap_i64]; omega
end Nm
end Go.Proofs.YtnhgmdfmhmkpgaaGreatDoor
