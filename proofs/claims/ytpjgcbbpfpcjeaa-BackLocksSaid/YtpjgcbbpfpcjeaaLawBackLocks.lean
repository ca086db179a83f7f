/- For every input the law BackLocks returns true, and each argument reads behind the call as it read before. No conditions. -/
import Derived.Test.YtpjgcbbpfpcjeaaRows
import Derived.Test.YtpjgcbbpfpcjeaaBackM
import Derived.WalkKit
import Derived.ProofKit
import Derived.OpenShut
import Derived.ShutString
import Derived.ChangeOld
import Derived.Below
import Derived.Carry
import Derived.SizedLaws
import Derived.Lib.SmallJoins
import Derived.Test.YtpjgcbbpfpcjeaaKit2
namespace Go.Proofs.Ytpjgcbbpfpcjeaa.backLocks
open Go.ChangeShapes Go.WideShapes Go.ChangeAt Go.RowKit
open Go.ChangeMaps (open_string shut_string)
open Back
set_option linter.unusedVariables false
theorem own : ownKnob Try.prog.godebug = none := by kernel_rfl
theorem laidOut : laidOutB Try.prog = true := by kernel_rfl
set_option maxRecDepth 100000 in
theorem lifted (os : Os) (started : os.Started) (H : Type) (enc : TypeId × Value → H) :
    ReturnsInHanded {} Try.checked os 7 .any (Rows.backLocksSpec.pre6 enc Try.prog Try.f7 Rows.backLocksRow.domain false) (Rows.backLocksSpec.post enc Try.prog Try.f7 false true false false) := by
  refine returnsInHanded_of_change_sized (C := Try.checked) own started (by kernel_rfl) Try.func7
    (ChangeSpec.witness6 (enc := enc) (C := Try.checked) false ⟨#[], #[.agg #[.slice none 0 0, .slice none 0 0, .int .i64 0, .int .i64 0], .agg #[.int .u8 0, .int .u8 0, .int .u8 0, .int .u8 0, .int .u8 0, .int .u8 0, .int .u8 0, .int .u8 0, .int .u8 0, .int .u8 0, .int .u8 0], .agg #[.int .u8 0, .int .u8 0]], []⟩ 8 (by kernel_rfl) (by kernel_rfl) (by kernel_rfl) (by kernel_rfl)) ?_
  intro W base args ds gs before hval0 hW hcnd hsz0 _
  have hval : ∀ (j : Nat) t v, Try.f7.params[j]? = some t → args[j]? = some v → Value.okWide Try.prog W .any base t v := hval0
  have hW' := hW
  obtain ⟨p, q, hA0, hV, rfl, hfz, hnd⟩ := hW
  have hA : DataW.TrodAll enc Try.prog W 0 (fun _ => true) true Try.f7.params.toList args.toList ds p := hA0
  rw [Try.params7] at hA hval
  obtain ⟨v0, vs0, d0, ds0, p0, q0, hargs, rfl, rfl, h0, r0⟩ := trodAll_cons hA
  obtain ⟨v1, vs1, d1, ds1, p1, q1, rfl, rfl, rfl, h1, r1⟩ := trodAll_cons r0
  obtain ⟨v2, vs2, d2, ds2, p2, q2, rfl, rfl, rfl, h2, r2⟩ := trodAll_cons r1
  obtain ⟨rfl, rfl, rfl⟩ := trodAll_nil r2
  obtain rfl : args = #[v0, v1, v2] := by cases args; simp_all
  obtain ⟨rfl, rfl⟩ := trodVars_none hV
  have hk0 := h0
  have hl0 : ∀ x ∈ p0, x.block < W.heap.size := fun x hx => hW'.lt x (by simp [hx])
  obtain ⟨x0_0, x0_1, x0_2, x0_3, ⟨y0_0, l0_0⟩, ⟨y0_1, l0_1⟩, ⟨y0_2, l0_2⟩, ⟨y0_3, l0_3⟩, n0, rfl, _, _, g0_0, g0_1, g0_2, g0_3⟩ := Go.Joins.open_agg4 Try.underlying33 (by kernel_rfl) (by kernel_rfl) (hval 0 33 v0 rfl rfl) h0
  obtain ⟨z0_0, s0_0⟩ := Kit.open_intsOf (k := .u8) (e := 5) Try.underlying31 (by kernel_rfl) (by kernel_rfl) g0_0
  obtain ⟨z0_1, s0_1⟩ := Kit.open_intsOf (k := .u8) (e := 5) Try.underlying31 (by kernel_rfl) (by kernel_rfl) g0_1
  obtain ⟨a0_2, e0_2, _, w0_2⟩ := DataW.trod_int Try.underlying3 g0_2
  obtain rfl : x0_2 = .int .i64 a0_2 := by simpa using e0_2
  obtain ⟨a0_3, e0_3, _, w0_3⟩ := DataW.trod_int Try.underlying3 g0_3
  obtain rfl : x0_3 = .int .i64 a0_3 := by simpa using e0_3
  have hk1 := h1
  have hl1 : ∀ x ∈ p1, x.block < W.heap.size := fun x hx => hW'.lt x (by simp [hx])
  obtain ⟨l1, rfl, g1_0⟩ := Kit.open_flat 6 [some .u8, some .u8, some .u8, some .u8, some .u8, some .u8, some .u8, some .u8, some .u8, some .u8, some .u8] (by kernel_rfl) (by kernel_rfl) (hval 1 24 v1 rfl rfl) h1
  obtain ⟨a1_0, r1_0, rfl, w1_0, g1_1⟩ := Kit.leaves_int g1_0
  obtain ⟨a1_1, r1_1, rfl, w1_1, g1_2⟩ := Kit.leaves_int g1_1
  obtain ⟨a1_2, r1_2, rfl, w1_2, g1_3⟩ := Kit.leaves_int g1_2
  obtain ⟨a1_3, r1_3, rfl, w1_3, g1_4⟩ := Kit.leaves_int g1_3
  obtain ⟨a1_4, r1_4, rfl, w1_4, g1_5⟩ := Kit.leaves_int g1_4
  obtain ⟨a1_5, r1_5, rfl, w1_5, g1_6⟩ := Kit.leaves_int g1_5
  obtain ⟨a1_6, r1_6, rfl, w1_6, g1_7⟩ := Kit.leaves_int g1_6
  obtain ⟨a1_7, r1_7, rfl, w1_7, g1_8⟩ := Kit.leaves_int g1_7
  obtain ⟨a1_8, r1_8, rfl, w1_8, g1_9⟩ := Kit.leaves_int g1_8
  obtain ⟨a1_9, r1_9, rfl, w1_9, g1_10⟩ := Kit.leaves_int g1_9
  obtain ⟨a1_10, r1_10, rfl, w1_10, g1_11⟩ := Kit.leaves_int g1_10
  obtain rfl := Kit.leaves_nil g1_11
  have hk2 := h2
  have hl2 : ∀ x ∈ p2, x.block < W.heap.size := fun x hx => hW'.lt x (by simp [hx])
  obtain ⟨l2, rfl, g2_0⟩ := Kit.open_flat 6 [some .u8, some .u8] (by kernel_rfl) (by kernel_rfl) (hval 2 39 v2 rfl rfl) h2
  obtain ⟨a2_0, r2_0, rfl, w2_0, g2_1⟩ := Kit.leaves_int g2_0
  obtain ⟨a2_1, r2_1, rfl, w2_1, g2_2⟩ := Kit.leaves_int g2_1
  obtain rfl := Kit.leaves_nil g2_2
  clear hA0 hval0 hsz0
  refine (backLocks_walk _ _ z0_0 z0_1 a0_2 a0_3 a1_0 a1_1 a1_2 a1_3 a1_4 a1_5 a1_6 a1_7 a1_8 a1_9 a1_10 a2_0 a2_1 w0_2 w0_3 w1_0 w1_1 w1_2 w1_3 w1_4 w1_5 w1_6 w1_7 w1_8 w1_9 w1_10 w2_0 w2_1 W s0_0 s0_1).mono fun e W' ⟨he, bel⟩ => ?_
  subst he
  exact ⟨_, rfl, _, _, _, [], _, [], hW', trodAll_mk1 (shut_bool Try.underlying4 _), (trodAll_cons_mk (Below.trod laidOut (by kernel_rfl) (of_decide_eq_true (by kernel_rfl)) hk0 bel hl0) (trodAll_cons_mk (Below.trod laidOut (by kernel_rfl) (of_decide_eq_true (by kernel_rfl)) hk1 bel hl1) (trodAll_cons_mk (Below.trod laidOut (by kernel_rfl) (of_decide_eq_true (by kernel_rfl)) hk2 bel hl2) trodAll_mk0))), rfl, bel.frame _, fun h => by cases h⟩
theorem over : Rows.backLocksRow.holds Try.pinned (OpenSpec.ofChange Rows.backLocksSpec) :=
  OpenClaim.holds_of_wide 7 Try.f7 rfl rfl rfl rfl rfl rfl rfl ⟨rfl, rfl, rfl, rfl, rfl⟩ rfl rfl rfl rfl rfl (by kernel_rfl) Try.func7 (by kernel_rfl)
    (of_decide_eq_true (by kernel_rfl)) (by unfold Func.isWrapper; first | (rw [if_pos (by decide +kernel)]; kernel_rfl) | (rw [if_neg (by decide +kernel)]; exact ⟨rfl, rfl⟩))
    (fun os started H enc _ => lifted os started H enc)
end Go.Proofs.Ytpjgcbbpfpcjeaa.backLocks
namespace Go.Proofs.Ytpjgcbbpfpcjeaa
/-- The statement. -/
theorem backLocks_holds : Rows.BackLocksSaid := backLocks.over
#print axioms backLocks_holds
end Go.Proofs.Ytpjgcbbpfpcjeaa
