/- What instructions are called (layer 11): from a row's condition to what the walks ask of the library's variables. No conditions but those stated. -/
import Derived.Test.YtnhgmdfmhmkpgaaGreatDoorNm
import Derived.Test.YtnhgmdfmhmkpgaaGreatDoorRows
import Derived.Handed
import Derived.Lib.LaidTab
import Derived.Shelf.Vars
import Derived.Stop.LaidErr
import Derived.MakeChecks
import Derived.ProofKit
import Derived.OpenShut
import Derived.LaidMore
import Derived.Lay
namespace Go.Proofs.YtnhgmdfmhmkpgaaGreatDoor
open Go.ChangeShapes Go.WideShapes Go.ChangeAt Go.RowKit
set_option linter.unusedVariables false
namespace Nm
/-- What each row of this seat lists. -/
abbrev LL : List (String × DataW Unit) := [("math/bits.deBruijn32tab", Rows.laid_math_bits_deBruijn32tab), ("math/bits.deBruijn64tab", Rows.laid_math_bits_deBruijn64tab), ("internal/strconv.uint64pow10", Rows.laid_internal_strconv_uint64pow10), ("unicode/utf8.acceptRanges", Rows.laid_unicode_utf8_acceptRanges), ("unicode.White_Space", Rows.laid_unicode_White_Space), ("strings.asciiSpace", Rows.laid_strings_asciiSpace), ("unicode.CaseRanges", Rows.laid_unicode_CaseRanges), ("unicode/utf8.first", Rows.laid_unicode_utf8_first)]
/-- The first form's step where the row lists variables: and the world's shape handed on. -/
theorem handed_shaped {H : Type} {enc : TypeId × Value → H} {a : Assume} {C : Checked} {os : Os} {f : FuncId} {fn : Func} {s : ChangeSpec} {conds : List PathCond} {apart fresh handsOn again : Bool} {X : World → Array Value → Prop}
    (hX : ∀ (w w' : World) (args : Array Value), w.heap = w'.heap → X w args → X w' args)
    (own : ownKnob C.prog.godebug = none) (started : os.Started) (noInit : C.prog.inits.idxOf? f = none) (hfn : C.prog.funcs[f]? = some fn)
    (witness : ∃ (w : World) (tape : Tape) (i : Input), w.os = os ∧ (w.forCall tape i).Shaped C.prog ∧ i.vars = [] ∧ Input.okWide C.prog (w.forCall tape i) .any w.heap.size f i ∧
      ((s.pre enc C.prog fn conds apart (w.forCall tape i).memory i.args ∧ X (w.forCall tape i).memory i.args) ∧ sizedMet enc C.prog fn (OpenSpec.ofChange s) apart (w.forCall tape i).memory i.args) ∧ a.holds C.prog (lone (Frame.enter C.prog f i.args .normal) [] (w.forCall tape i)))
    (contract : ∀ (W : World) (base : Nat) (args : Array Value) (ds gs : List (DataW H)) (before : List MemPlace),
      (∀ (j : Nat) t v, fn.params[j]? = some t → args[j]? = some v → Value.okWide C.prog W .any base t v) →
      DataW.Whole enc C.prog fn.params.toList s.vars apart W args.toList ds gs before →
      conds.all (PathCond.test C.prog ⟨fn.params.toList, ds, s.plain.varTypes C.prog, gs⟩) = true →
      X W args → W.ShapedOpen C.prog →
      Calls C.prog f args W fun e W' => ∃ v, e = .returned v ∧ s.post enc C.prog fn apart fresh handsOn again W args v W') :
    ReturnsInHanded a C os f .any (fun w args => (s.pre enc C.prog fn conds apart w args ∧ X w args) ∧ sizedMet enc C.prog fn (OpenSpec.ofChange s) apart w args) (s.post enc C.prog fn apart fresh handsOn again) := by
  refine returnsInHanded_of_calls own started noInit witness ?_
  intro w tape i _ hS _ hok hpre _
  obtain ⟨_, _, _, fn', hfn', _, _, _, _, hval⟩ := hok
  obtain rfl : fn' = fn := Option.some.inj (hfn'.symm.trans hfn)
  obtain ⟨⟨⟨ds, gs, before, hw, hc⟩, hx⟩, _⟩ := hpre
  refine (contract (w.forCall tape i) w.heap.size i.args ds gs before hval (DataW.Whole.of_heap (w' := w.forCall tape i) (by rfl) hw) hc (hX _ _ _ (by rfl) hx) hS).mono fun e W' ⟨v, he, hp⟩ => ?_
  subst he
  exact ChangeSpec.post_blind hp
theorem tab_at {P : Program} {W : World} {name : String} {k : IntKind} {d : DataW Unit} {zs : List Int} {rest : List (String × DataW Unit)} {g : Nat} {t e : TypeId} {n : Nat} (hd : d = Lib.tabData k zs)
    (hg : P.globalNamed name = some g) (hty : (P.globals[g]?).map (·.type) = some t) (ht : P.underlying t = some (.array n e)) (he : P.underlying e = some (.int k)) (hce : P.cellsOf e = 1) (hct : P.cellsOf t = n)
    (h : laidMet P ((name, d) :: rest) W) : Lib.TabIs P W name k zs := by
  subst hd
  exact Lib.tabIs_of_head hg hty ht he hce hct h
def intsOf : DataW Unit → List Int
  | .agg l => l.map fun d => match d with
    | .lit (.int _ z) => z
    | _ => 0
  | _ => []
set_option maxRecDepth 100000 in
theorem gv_of {W : World} (hS : W.ShapedOpen Tryz.prog) (hL : laidMetH Tryz.prog LL W) : GV W := by
  rw [MakeChecks.laidMetH_plain _ _ _ (by kernel_rfl)] at hL
  have h1 := hL.tail
  have h2 := h1.tail
  have h5 := h2.tail.tail.tail
  have hB : Lib.TabIs Tryz.prog W "math/bits.deBruijn64tab" .u8 (intsOf Rows.laid_math_bits_deBruijn64tab) :=
    tab_at (t := 146) (e := 5) (by kernel_rfl) (show _ = some 8 by kernel_rfl) (by kernel_rfl) Tryz.underlying146 Tryz.underlying5 (by kernel_rfl) (by kernel_rfl) h1
  refine ⟨Go.Proofs.cell_of_shapedOpen_int (zero := #[.int .i64 0]) (t := 3) hS (of_decide_eq_true (by kernel_rfl)) (by kernel_rfl) rfl (by kernel_rfl) (by kernel_rfl) Tryz.underlying3, ?_, ?_, ?_⟩
  · exact tab_at (t := 130) (e := 99) (by kernel_rfl) (show _ = some 5 by kernel_rfl) (by kernel_rfl) Tryz.underlying130 Tryz.underlying99 (by kernel_rfl) (by kernel_rfl) h2
  · exact tab_at (t := 79) (e := 5) (by kernel_rfl) (show _ = some 0 by kernel_rfl) (by kernel_rfl) Tryz.underlying79 Tryz.underlying5 (by kernel_rfl) (by kernel_rfl) h5
  · exact hB.cell (show _ = some 8 by kernel_rfl) 15 (of_decide_eq_true (by kernel_rfl))
end Nm
end Go.Proofs.YtnhgmdfmhmkpgaaGreatDoor
