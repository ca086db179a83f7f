/- For every input the law NoiseRuns returns true, and each argument reads behind the call as it read before. No conditions. -/
import Derived.Test.YtpgfdnakiemecaaRows
import Derived.Test.YtpgfdnakiemecaaNoiseR
import Derived.WalkKit
import Derived.ProofKit
import Derived.OpenShut
import Derived.ShutString
import Derived.ChangeOld
import Derived.Below
import Derived.Carry
import Derived.SizedLaws
import Derived.Test.YtpgfdnakiemecaaKit2
namespace Go.Proofs.Ytpgfdnakiemecaa.noiseRuns
open Go.ChangeShapes Go.WideShapes Go.ChangeAt Go.RowKit
open Go.ChangeMaps (open_string shut_string)
set_option linter.unusedVariables false
theorem own : ownKnob Try.prog.godebug = none := by kernel_rfl
theorem laidOut : laidOutB Try.prog = true := by kernel_rfl
set_option maxRecDepth 100000 in
theorem lifted (os : Os) (started : os.Started) (H : Type) (enc : TypeId × Value → H) :
    ReturnsInHanded {} Try.checked os 7 .any (Rows.noiseRunsSpec.pre6 enc Try.prog Try.f7 Rows.noiseRunsRow.domain false) (Rows.noiseRunsSpec.post enc Try.prog Try.f7 false true false false) := by
  refine returnsInHanded_of_change_sized (C := Try.checked) own started (by kernel_rfl) Try.func7
    (ChangeSpec.witness6 (enc := enc) (C := Try.checked) false ⟨#[], #[.agg #[.int .u8 0, .int .i64 0, .bool false, .int .u16 0], .slice none 0 0], []⟩ 8 (by kernel_rfl) (by kernel_rfl) (by kernel_rfl) (by kernel_rfl)) ?_
  intro W base args ds gs before hval0 hW hcnd hsz0 _
  have hval : ∀ (j : Nat) t v, Try.f7.params[j]? = some t → args[j]? = some v → Value.okWide Try.prog W .any base t v := hval0
  have hW' := hW
  obtain ⟨p, q, hA0, hV, rfl, hfz, hnd⟩ := hW
  have hA : DataW.TrodAll enc Try.prog W 0 (fun _ => true) true Try.f7.params.toList args.toList ds p := hA0
  rw [Try.params7] at hA hval
  obtain ⟨v0, vs0, d0, ds0, p0, q0, hargs, rfl, rfl, h0, r0⟩ := trodAll_cons hA
  obtain ⟨v1, vs1, d1, ds1, p1, q1, rfl, rfl, rfl, h1, r1⟩ := trodAll_cons r0
  obtain ⟨rfl, rfl, rfl⟩ := trodAll_nil r1
  obtain rfl : args = #[v0, v1] := by cases args; simp_all
  obtain ⟨rfl, rfl⟩ := trodVars_none hV
  have hk0 := h0
  have hl0 : ∀ x ∈ p0, x.block < W.heap.size := fun x hx => hW'.lt x (by simp [hx])
  obtain ⟨l0, rfl, g0_0⟩ := Kit.open_flat 6 [some .u8, some .i64, none, some .u16] (by kernel_rfl) (by kernel_rfl) (hval 0 29 v0 rfl rfl) h0
  obtain ⟨a0_0, r0_0, rfl, w0_0, g0_1⟩ := Kit.leaves_int g0_0
  obtain ⟨a0_1, r0_1, rfl, w0_1, g0_2⟩ := Kit.leaves_int g0_1
  obtain ⟨a0_2, r0_2, rfl, g0_3⟩ := Kit.leaves_bool g0_2
  obtain ⟨a0_3, r0_3, rfl, w0_3, g0_4⟩ := Kit.leaves_int g0_3
  obtain rfl := Kit.leaves_nil g0_4
  have hk1 := h1
  have hl1 : ∀ x ∈ p1, x.block < W.heap.size := fun x hx => hW'.lt x (by simp [hx])
  obtain ⟨f1, hf1⟩ := h1
  obtain ⟨sa1, sl1, sc1, rfl⟩ := okWide_slice Try.underlying33 (hval 1 33 v1 rfl rfl)
  obtain ⟨z1, s1⟩ := Kit.open_boolsOf (e := 4) Try.underlying33 (by kernel_rfl) (by kernel_rfl) (by simpa [Value.cells] using hf1)
  clear hA0 hval0 hsz0
  refine (noiseRuns_walk a0_0 a0_1 a0_2 a0_3 _ z1 w0_0 w0_1 w0_3 W s1).mono fun e W' ⟨he, bel⟩ => ?_
  subst he
  exact ⟨_, rfl, _, _, _, [], _, [], hW', trodAll_mk1 (shut_bool Try.underlying4 _), (trodAll_cons_mk (Below.trod laidOut (by kernel_rfl) (of_decide_eq_true (by kernel_rfl)) hk0 bel hl0) (trodAll_cons_mk (Below.trod laidOut (by kernel_rfl) (of_decide_eq_true (by kernel_rfl)) hk1 bel hl1) trodAll_mk0)), rfl, bel.frame _, fun h => by cases h⟩
theorem over : Rows.noiseRunsRow.holds Try.pinned (OpenSpec.ofChange Rows.noiseRunsSpec) :=
  OpenClaim.holds_of_wide 7 Try.f7 rfl rfl rfl rfl rfl rfl rfl ⟨rfl, rfl, rfl, rfl, rfl⟩ rfl rfl rfl rfl rfl (by kernel_rfl) Try.func7 (by kernel_rfl)
    (of_decide_eq_true (by kernel_rfl)) (by unfold Func.isWrapper; first | (rw [if_pos (by decide +kernel)]; kernel_rfl) | (rw [if_neg (by decide +kernel)]; exact ⟨rfl, rfl⟩))
    (fun os started H enc _ => lifted os started H enc)
end Go.Proofs.Ytpgfdnakiemecaa.noiseRuns
namespace Go.Proofs.Ytpgfdnakiemecaa
/-- The statement. -/
theorem noiseRuns_holds : Rows.NoiseRunsSaid := noiseRuns.over
#print axioms noiseRuns_holds
end Go.Proofs.Ytpgfdnakiemecaa
