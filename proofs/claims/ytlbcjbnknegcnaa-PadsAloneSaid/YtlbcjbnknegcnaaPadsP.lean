/- What is pressed (layer 21): the plain law. No conditions. -/
import Derived.Test.YtlbcjbnknegcnaaKit
namespace Go.Proofs.Ytlbcjbnknegcnaa
open Go.RowKit
open Kit
set_option linter.unusedSimpArgs false
set_option linter.unusedVariables false
namespace Pads
def pop (d : Nat) : Nat := d % 2 + d / 2 % 2 + d / 4 % 2 + d / 8 % 2 + d / 16 % 2 + d / 32 % 2 + d / 64 % 2 + d / 128 % 2
def pE (one two : Nat) : Nat := 255 - (one % 64 + two % 4 * 64)
def pO (two : Nat) (r : Bool) : Nat := 255 - (two / 4 % 16 + cond r 16 0)
def chk (one two : Nat) (r : Bool) (one' two' : Nat) (r' : Bool) : Bool :=
  (pE one' two' &&& (255 - pE one two)) == 0 && ((pO two' r' &&& (255 - pO two r)) == 0 && (pop (pE one two ^^^ pE one' two') + pop (pO two r ^^^ pO two' r') == cond (one == one' && (two == two' && r == r')) 0 1))
def all2 (f : Bool → Bool) : Bool := f false && f true
theorem all2_at {f : Bool → Bool} (h : all2 f = true) (b : Bool) : f b = true := by
  unfold all2 at h; simp at h; cases b; exact h.1; exact h.2
theorem chk_one : allB 6 (fun n => allB 64 fun one => allB 64 fun two => all2 fun r => chk one two r (one ||| 2 ^ n) two r) = true := by decide +kernel
theorem chk_two : allB 6 (fun n => allB 64 fun one => allB 64 fun two => all2 fun r => chk one two r one (two ||| 2 ^ n) r) = true := by decide +kernel
theorem chk_r : allB 64 (fun one => allB 64 fun two => all2 fun r => chk one two r one two true) = true := by decide +kernel
theorem or_lt : allB 6 (fun n => allB 64 fun one => decide (one ||| 2 ^ n < 64)) = true := by decide +kernel
end Pads
end Go.Proofs.Ytlbcjbnknegcnaa
