/- For every input the law BackSources returns true, and each argument reads behind the call as it read before. No conditions. -/
import Derived.Test.YtpjgcbbpfpcjeaaRows
import Derived.Test.YtpjgcbbpfpcjeaaBack6
import Derived.WalkKit
import Derived.ProofKit
import Derived.OpenShut
import Derived.ShutString
import Derived.ChangeOld
import Derived.Below
import Derived.Carry
import Derived.SizedLaws
namespace Go.Proofs.Ytpjgcbbpfpcjeaa.backSources
open Go.ChangeShapes Go.WideShapes Go.ChangeAt Go.RowKit
open Go.ChangeMaps (open_string shut_string)
open Back
set_option linter.unusedVariables false
theorem own : ownKnob Try.prog.godebug = none := by kernel_rfl
theorem laidOut : laidOutB Try.prog = true := by kernel_rfl
set_option maxRecDepth 100000 in
theorem lifted (os : Os) (started : os.Started) (H : Type) (enc : TypeId × Value → H) :
    ReturnsInHanded {} Try.checked os 5 .any (Rows.backSourcesSpec.pre6 enc Try.prog Try.f5 Rows.backSourcesRow.domain false) (Rows.backSourcesSpec.post enc Try.prog Try.f5 false true false false) := by
  refine returnsInHanded_of_change_sized (C := Try.checked) own started (by kernel_rfl) Try.func5
    (ChangeSpec.witness6 (enc := enc) (C := Try.checked) false ⟨#[], #[.agg #[.int .u8 0, .int .u8 0, .int .u8 0, .int .u8 0, .int .u8 0, .int .u8 0, .int .u8 0, .int .u8 0, .int .u8 0, .int .u8 0, .int .u8 0], .int .i64 0, .int .i64 0], []⟩ 8 (by kernel_rfl) (by kernel_rfl) (by kernel_rfl) (by kernel_rfl)) ?_
  intro W base args ds gs before hval0 hW hcnd hsz0 _
  have hval : ∀ (j : Nat) t v, Try.f5.params[j]? = some t → args[j]? = some v → Value.okWide Try.prog W .any base t v := hval0
  have hW' := hW
  obtain ⟨p, q, hA0, hV, rfl, hfz, hnd⟩ := hW
  have hA : DataW.TrodAll enc Try.prog W 0 (fun _ => true) true Try.f5.params.toList args.toList ds p := hA0
  rw [Try.params5] at hA hval
  obtain ⟨v0, vs0, d0, ds0, p0, q0, hargs, rfl, rfl, h0, r0⟩ := trodAll_cons hA
  obtain ⟨v1, vs1, d1, ds1, p1, q1, rfl, rfl, rfl, h1, r1⟩ := trodAll_cons r0
  obtain ⟨v2, vs2, d2, ds2, p2, q2, rfl, rfl, rfl, h2, r2⟩ := trodAll_cons r1
  obtain ⟨rfl, rfl, rfl⟩ := trodAll_nil r2
  obtain rfl : args = #[v0, v1, v2] := by cases args; simp_all
  obtain ⟨rfl, rfl⟩ := trodVars_none hV
  have hk0 := h0
  have hl0 : ∀ x ∈ p0, x.block < W.heap.size := fun x hx => hW'.lt x (by simp [hx])
  obtain ⟨l0, rfl, g0_0⟩ := Kit.open_flat 6 [some .u8, some .u8, some .u8, some .u8, some .u8, some .u8, some .u8, some .u8, some .u8, some .u8, some .u8] (by kernel_rfl) (by kernel_rfl) (hval 0 24 v0 rfl rfl) h0
  obtain ⟨a0_0, r0_0, rfl, w0_0, g0_1⟩ := Kit.leaves_int g0_0
  obtain ⟨a0_1, r0_1, rfl, w0_1, g0_2⟩ := Kit.leaves_int g0_1
  obtain ⟨a0_2, r0_2, rfl, w0_2, g0_3⟩ := Kit.leaves_int g0_2
  obtain ⟨a0_3, r0_3, rfl, w0_3, g0_4⟩ := Kit.leaves_int g0_3
  obtain ⟨a0_4, r0_4, rfl, w0_4, g0_5⟩ := Kit.leaves_int g0_4
  obtain ⟨a0_5, r0_5, rfl, w0_5, g0_6⟩ := Kit.leaves_int g0_5
  obtain ⟨a0_6, r0_6, rfl, w0_6, g0_7⟩ := Kit.leaves_int g0_6
  obtain ⟨a0_7, r0_7, rfl, w0_7, g0_8⟩ := Kit.leaves_int g0_7
  obtain ⟨a0_8, r0_8, rfl, w0_8, g0_9⟩ := Kit.leaves_int g0_8
  obtain ⟨a0_9, r0_9, rfl, w0_9, g0_10⟩ := Kit.leaves_int g0_9
  obtain ⟨a0_10, r0_10, rfl, w0_10, g0_11⟩ := Kit.leaves_int g0_10
  obtain rfl := Kit.leaves_nil g0_11
  obtain ⟨a1, rfl, rfl, rfl, w1⟩ := open_int Try.underlying3 (hval 1 3 v1 rfl rfl) h1
  obtain ⟨a2, rfl, rfl, rfl, w2⟩ := open_int Try.underlying3 (hval 2 3 v2 rfl rfl) h2
  clear hA0 hval0 hsz0
  refine (backSources_walk a0_0 a0_1 a0_2 a0_3 a0_4 a0_5 a0_6 a0_7 a0_8 a0_9 a0_10 a1 a2 w0_0 w0_1 w0_2 w0_3 w0_4 w0_5 w0_6 w0_7 w0_8 w0_9 w0_10 w1 w2 W ).mono fun e W' ⟨he, bel⟩ => ?_
  subst he
  exact ⟨_, rfl, _, _, _, [], _, [], hW', trodAll_mk1 (shut_bool Try.underlying4 _), (trodAll_cons_mk (Below.trod laidOut (by kernel_rfl) (of_decide_eq_true (by kernel_rfl)) hk0 bel hl0) (trodAll_cons_mk (shut_int Try.underlying3 w1) (trodAll_cons_mk (shut_int Try.underlying3 w2) trodAll_mk0))), rfl, bel.frame _, fun h => by cases h⟩
theorem over : Rows.backSourcesRow.holds Try.pinned (OpenSpec.ofChange Rows.backSourcesSpec) :=
  OpenClaim.holds_of_wide 5 Try.f5 rfl rfl rfl rfl rfl rfl rfl ⟨rfl, rfl, rfl, rfl, rfl⟩ rfl rfl rfl rfl rfl (by kernel_rfl) Try.func5 (by kernel_rfl)
    (of_decide_eq_true (by kernel_rfl)) (by unfold Func.isWrapper; first | (rw [if_pos (by decide +kernel)]; kernel_rfl) | (rw [if_neg (by decide +kernel)]; exact ⟨rfl, rfl⟩))
    (fun os started H enc _ => lifted os started H enc)
end Go.Proofs.Ytpjgcbbpfpcjeaa.backSources
namespace Go.Proofs.Ytpjgcbbpfpcjeaa
/-- The statement. -/
theorem backSources_holds : Rows.BackSourcesSaid := backSources.over
#print axioms backSources_holds
end Go.Proofs.Ytpjgcbbpfpcjeaa
