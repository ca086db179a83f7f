/- What instructions are called (layer 11): fill: its parts. No conditions but those stated. -/
import Derived.Test.YtnhgmdfmhmkpgaaGreatDoorNm8
import Derived.Test.YtnhgmdfmhmkpgaaGreatDoorNm9
import Derived.Test.YtnhgmdfmhmkpgaaGreatDoorNmL
import Derived.RegionTactic
import Derived.LoopTactic
import Derived.Deep.RegionHeld3
import Derived.Deep.DeepCutAuto
import Derived.Lib.Hide
namespace Go.Proofs.YtnhgmdfmhmkpgaaGreatDoor
open Go.RowKit
open Kit
set_option linter.unusedSimpArgs false
set_option linter.unusedVariables false
namespace Nm
theorem rep1_len (s old new : Str) : (Lib.replace s old new 1).length ≤ s.length + new.length := by
  unfold Lib.replace
  split
  · omega
  · have h2 := rk_len old new (Lib.replaceNum s old 1) s
    have h3 : Lib.replaceNum s old 1 ≤ 1 := by
      unfold Lib.replaceNum
      split <;> omega
    have h4 := Nat.mul_le_mul_right new.length h3
    omega
theorem replace1 (s old new : ByteArray) (ho : 1 ≤ old.size) (hs : s.size ≤ 60) (hn : new.size ≤ 20) : HeldS 36 #[.string s, .string old, .string new, .int .i64 1] (Lib.replace s.data.toList old.data.toList new.data.toList 1) (s.size + new.size) := fun w L W k =>
  (replace_any s old new 1 ho hs hn w L W k).mono fun e w' ⟨a, h1, h2, _, h4⟩ => ⟨a, h1, h2, by
    have := rep1_len s.data.toList old.data.toList new.data.toList
    rw [Lib.size_eq a, h2, Lib.size_eq s, Lib.size_eq new]; exact this, h4⟩
def st1 (P : Str) (d : Nat) (tk : Bool) (f : Nat → Nat) (a : Nat) : Str × Nat := if Lib.contains P [43, 100] then (if tk then (Lib.replace P [43, 100] (sgnL d) 1, a) else (Lib.replace P [43, 100] (sgnL (f a)) 1, a + 1)) else (P, a)
def st2 (P : Str) (f : Nat → Nat) (a : Nat) : Str × Nat := if Lib.contains P [110, 110] then (Lib.replace P [110, 110] (hexL (256 * f (a + 1) + f a) 4) 1, a + 2) else if Lib.contains P [110] then (Lib.replace P [110] (hexL (f a) 2) 1, a + 1) else if Lib.contains P [101] then (Lib.replace P [101] (sgnL (f a)) 1, a + 1) else (P, a)
def fillL (P : Str) (d : Nat) (tk : Bool) (f : Nat → Nat) (a : Nat) : Str × Nat := st2 (st1 P d tk f a).1 f (st1 P d tk f a).2
def byt (zs : List UInt8) (k : Nat) : Nat := (zs.getD k 0).toNat
set_option maxRecDepth 100000 in
set_option maxHeartbeats 4000000 in
theorem nx (w : World) (v : Value) (zs : List UInt8) (hB : BytesOf w v zs) (sb : Nat) (hsb : w.heap.size ≤ sb) (hw : GV w) (j : Nat) (hj : j ≤ 10) (t t' : Int) (ht : t = (j : Int)) (ht' : t' = (j : Int) + 1) : ∀ W, NB w [(sb, #[v, .int .i64 t], 42)] W → Calls Tryz.prog 21 #[.pointer (some ⟨sb, 0, none⟩)] W fun e w' => e = .returned (.int .u8 (byt zs j : Nat)) ∧ NB w [(sb, #[v, .int .i64 t'], 42)] w' := by
  subst ht ht'
  exact fun W k => next_any w v zs hB j hj sb hsb hw W k
end Nm
end Go.Proofs.YtnhgmdfmhmkpgaaGreatDoor
