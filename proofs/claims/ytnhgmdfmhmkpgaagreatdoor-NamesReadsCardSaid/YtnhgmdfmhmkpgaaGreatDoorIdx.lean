/- An element of an array by value. No conditions but those of Go. -/
import Derived.Test.YtnhgmdfmhmkpgaaGreatDoorKit
namespace Go.Proofs.YtnhgmdfmhmkpgaaGreatDoor
open Go.RowKit
set_option linter.unusedSimpArgs false
set_option linter.unusedVariables false
namespace Kit
/-- An element of an array by value. -/
theorem index_run {P : Program} {t e : TypeId} {n : Nat} {d : TypeDesc} (h : P.underlying t = some (.array n e)) (hd : P.underlying e = some d) (hp : (match d with | .struct _ | .array _ _ => true | _ => false) = false)
    (hs : (P.info? e).map (·.size) = some 1) (cs : Array Value) (k : IntKind) (i : Int) (v : Value) (h0 : 0 ≤ i) (h1 : i < n) (hv : cs[i.toNat]? = some v) (w : World) :
    Sem.run P (Instr.index t (.agg cs) (.int k i)) w = .ok v w := by
  cases hq : P.info? e with
  | none => simp [hq] at hs
  | some i0 =>
    have hs' : i0.size = 1 := by simpa [hq] using hs
    have ha : (Go.isAgg e).run P w = .ok false w := by
      unfold Go.isAgg
      rw [Sem.run_bind, run_underlying hd w]
      cases d <;> simp_all
    simp [Instr.index, run_underlying h, asIntOf, part, sizeOf, typeInfo, hq, hs', h0, h1, ha, hv]
end Kit
end Go.Proofs.YtnhgmdfmhmkpgaaGreatDoor
