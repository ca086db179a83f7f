/- For every input the law PsgRuns returns true, and each argument reads behind the call as it read before. No conditions. -/
import Derived.Test.YtjggocbihjdekaaRows
import Derived.Test.YtjggocbihjdekaaPsgRN
import Derived.WalkKit
import Derived.ProofKit
import Derived.OpenShut
import Derived.ShutString
import Derived.ChangeOld
import Derived.Below
import Derived.Carry
import Derived.SizedLaws
import Derived.Test.YtjggocbihjdekaaKit2
namespace Go.Proofs.Ytjggocbihjdekaa.psgRuns
open Go.ChangeShapes Go.WideShapes Go.ChangeAt Go.RowKit
open Go.ChangeMaps (open_string shut_string)
open Psg
set_option linter.unusedVariables false
theorem own : ownKnob Try.prog.godebug = none := by kernel_rfl
theorem laidOut : laidOutB Try.prog = true := by kernel_rfl
set_option maxRecDepth 100000 in
theorem lifted (os : Os) (started : os.Started) (H : Type) (enc : TypeId × Value → H) :
    ReturnsInHanded {} Try.checked os 6 .any (Rows.psgRunsSpec.pre6 enc Try.prog Try.f6 Rows.psgRunsRow.domain false) (Rows.psgRunsSpec.post enc Try.prog Try.f6 false true false false) := by
  refine returnsInHanded_of_change_sized (C := Try.checked) own started (by kernel_rfl) Try.func6
    (ChangeSpec.witness6 (enc := enc) (C := Try.checked) false ⟨#[], #[.agg #[.int .i64 0, .int .i64 0, .bool false, .int .i64 0, .int .i64 0, .bool false, .int .i64 0, .int .i64 0, .bool false, .int .u8 0, .int .i64 0, .bool false, .int .u16 0, .int .u8 0, .int .u8 0, .int .u8 0, .int .u8 0, .int .u8 0], .slice none 0 0], []⟩ 8 (by kernel_rfl) (by kernel_rfl) (by kernel_rfl) (by kernel_rfl)) ?_
  intro W base args ds gs before hval0 hW hcnd hsz0 _
  have hval : ∀ (j : Nat) t v, Try.f6.params[j]? = some t → args[j]? = some v → Value.okWide Try.prog W .any base t v := hval0
  have hW' := hW
  obtain ⟨p, q, hA0, hV, rfl, hfz, hnd⟩ := hW
  have hA : DataW.TrodAll enc Try.prog W 0 (fun _ => true) true Try.f6.params.toList args.toList ds p := hA0
  rw [Try.params6] at hA hval
  obtain ⟨v0, vs0, d0, ds0, p0, q0, hargs, rfl, rfl, h0, r0⟩ := trodAll_cons hA
  obtain ⟨v1, vs1, d1, ds1, p1, q1, rfl, rfl, rfl, h1, r1⟩ := trodAll_cons r0
  obtain ⟨rfl, rfl, rfl⟩ := trodAll_nil r1
  obtain rfl : args = #[v0, v1] := by cases args; simp_all
  obtain ⟨rfl, rfl⟩ := trodVars_none hV
  have hk0 := h0
  have hl0 : ∀ x ∈ p0, x.block < W.heap.size := fun x hx => hW'.lt x (by simp [hx])
  obtain ⟨l0, rfl, g0_0⟩ := Kit.open_flat 6 [some .i64, some .i64, none, some .i64, some .i64, none, some .i64, some .i64, none, some .u8, some .i64, none, some .u16, some .u8, some .u8, some .u8, some .u8, some .u8] (by kernel_rfl) (by kernel_rfl) (hval 0 30 v0 rfl rfl) h0
  obtain ⟨a0_0, r0_0, rfl, w0_0, g0_1⟩ := Kit.leaves_int g0_0
  obtain ⟨a0_1, r0_1, rfl, w0_1, g0_2⟩ := Kit.leaves_int g0_1
  obtain ⟨a0_2, r0_2, rfl, g0_3⟩ := Kit.leaves_bool g0_2
  obtain ⟨a0_3, r0_3, rfl, w0_3, g0_4⟩ := Kit.leaves_int g0_3
  obtain ⟨a0_4, r0_4, rfl, w0_4, g0_5⟩ := Kit.leaves_int g0_4
  obtain ⟨a0_5, r0_5, rfl, g0_6⟩ := Kit.leaves_bool g0_5
  obtain ⟨a0_6, r0_6, rfl, w0_6, g0_7⟩ := Kit.leaves_int g0_6
  obtain ⟨a0_7, r0_7, rfl, w0_7, g0_8⟩ := Kit.leaves_int g0_7
  obtain ⟨a0_8, r0_8, rfl, g0_9⟩ := Kit.leaves_bool g0_8
  obtain ⟨a0_9, r0_9, rfl, w0_9, g0_10⟩ := Kit.leaves_int g0_9
  obtain ⟨a0_10, r0_10, rfl, w0_10, g0_11⟩ := Kit.leaves_int g0_10
  obtain ⟨a0_11, r0_11, rfl, g0_12⟩ := Kit.leaves_bool g0_11
  obtain ⟨a0_12, r0_12, rfl, w0_12, g0_13⟩ := Kit.leaves_int g0_12
  obtain ⟨a0_13, r0_13, rfl, w0_13, g0_14⟩ := Kit.leaves_int g0_13
  obtain ⟨a0_14, r0_14, rfl, w0_14, g0_15⟩ := Kit.leaves_int g0_14
  obtain ⟨a0_15, r0_15, rfl, w0_15, g0_16⟩ := Kit.leaves_int g0_15
  obtain ⟨a0_16, r0_16, rfl, w0_16, g0_17⟩ := Kit.leaves_int g0_16
  obtain ⟨a0_17, r0_17, rfl, w0_17, g0_18⟩ := Kit.leaves_int g0_17
  obtain rfl := Kit.leaves_nil g0_18
  have hk1 := h1
  have hl1 : ∀ x ∈ p1, x.block < W.heap.size := fun x hx => hW'.lt x (by simp [hx])
  obtain ⟨f1, hf1⟩ := h1
  obtain ⟨sa1, sl1, sc1, rfl⟩ := okWide_slice Try.underlying38 (hval 1 38 v1 rfl rfl)
  obtain ⟨z1, K1, N1, s1⟩ := Kit.open_pairsOf (e := 40) Try.underlying38 (by kernel_rfl) (by kernel_rfl) (by simpa [Value.cells] using hf1)
  clear hA0 hval0 hsz0
  refine (psgRuns_walk a0_0 a0_1 a0_2 a0_3 a0_4 a0_5 a0_6 a0_7 a0_8 a0_9 a0_10 a0_11 a0_12 a0_13 a0_14 a0_15 a0_16 a0_17 _ z1 K1 N1 w0_0 w0_1 w0_3 w0_4 w0_6 w0_7 w0_9 w0_10 w0_12 w0_13 w0_14 w0_15 w0_16 w0_17 W s1).mono fun e W' ⟨he, bel⟩ => ?_
  subst he
  exact ⟨_, rfl, _, _, _, [], _, [], hW', trodAll_mk1 (shut_bool Try.underlying4 _), (trodAll_cons_mk (Below.trod laidOut (by kernel_rfl) (of_decide_eq_true (by kernel_rfl)) hk0 bel hl0) (trodAll_cons_mk (Below.trod laidOut (by kernel_rfl) (of_decide_eq_true (by kernel_rfl)) hk1 bel hl1) trodAll_mk0)), rfl, bel.frame _, fun h => by cases h⟩
theorem over : Rows.psgRunsRow.holds Try.pinned (OpenSpec.ofChange Rows.psgRunsSpec) :=
  OpenClaim.holds_of_wide 6 Try.f6 rfl rfl rfl rfl rfl rfl rfl ⟨rfl, rfl, rfl, rfl, rfl⟩ rfl rfl rfl rfl rfl (by kernel_rfl) Try.func6 (by kernel_rfl)
    (of_decide_eq_true (by kernel_rfl)) (by unfold Func.isWrapper; first | (rw [if_pos (by decide +kernel)]; kernel_rfl) | (rw [if_neg (by decide +kernel)]; exact ⟨rfl, rfl⟩))
    (fun os started H enc _ => lifted os started H enc)
end Go.Proofs.Ytjggocbihjdekaa.psgRuns
namespace Go.Proofs.Ytjggocbihjdekaa
/-- The statement. -/
theorem psgRuns_holds : Rows.PsgRunsSaid := psgRuns.over
#print axioms psgRuns_holds
end Go.Proofs.Ytjggocbihjdekaa
