/- For every input the law NamesReads returns true, and each argument reads behind the call as it read before. Its conditions: the variables listed are laid as the program lays them (the card ties them). -/
import Derived.Test.YtnhgmdfmhmkpgaaGreatDoorRows
import Derived.Test.YtnhgmdfmhmkpgaaGreatDoorNmRK
import Derived.Test.YtnhgmdfmhmkpgaaGreatDoorNmH
import Derived.Test.YtnhgmdfmhmkpgaaGreatDoorTie
import Derived.Test.YtnhgmdfmhmkpgaaGreatDoorCards
import Derived.SevenTiedAt
import Derived.Stop.Joined
import Derived.LaidMore
import Derived.Lay
import Derived.WalkKit
import Derived.ProofKit
import Derived.OpenShut
import Derived.ShutString
import Derived.ChangeOld
import Derived.Below
import Derived.Carry
import Derived.SizedLaws
import Derived.Test.YtnhgmdfmhmkpgaaGreatDoorKit2
namespace Go.Proofs.YtnhgmdfmhmkpgaaGreatDoor.namesReads
open Go.ChangeShapes Go.WideShapes Go.ChangeAt Go.RowKit
open Go.ChangeMaps (open_string shut_string)
set_option linter.unusedVariables false
theorem own : ownKnob Tryz.prog.godebug = none := by kernel_rfl
theorem laidOut : laidOutB Tryz.prog = true := by kernel_rfl
set_option maxRecDepth 100000 in
theorem lifted (os : Os) (started : os.Started) (H : Type) (enc : TypeId × Value → H) :
    ReturnsInHanded {} Tryz.checked os 4 .any (fun w args => (Rows.namesReadsSpec.pre enc Tryz.prog Tryz.f4 Rows.namesReadsRow.domain false w args ∧ laidMetH Tryz.prog Nm.LL w) ∧ sizedMet enc Tryz.prog Tryz.f4 (OpenSpec.ofChange Rows.namesReadsSpec) false w args) (Rows.namesReadsSpec.post enc Tryz.prog Tryz.f4 false true false false) := by
  refine Nm.handed_shaped (C := Tryz.checked) (X := fun w _ => laidMetH Tryz.prog Nm.LL w) (fun _ _ _ hh h => h.of_heap hh) own started (by kernel_rfl) Tryz.func4
    (ChangeSpec.witness_shaped (enc := enc) (C := Tryz.checked) (os := os) (X := fun w _ => laidMetH Tryz.prog Nm.LL w) false (World.laidAll Tryz.prog os Nm.LL) #[.slice none 0 0] 8 (World.laidAll_os _ _ _)
      (World.shaped_of_ZipB (by kernel_rfl) (by kernel_rfl)) (by kernel_rfl) (by kernel_rfl) (by kernel_rfl)
      (by rw [MakeChecks.laidMetH_plain _ _ _ (by kernel_rfl)]; exact laidMet_laidAll _ (by kernel_rfl) (by kernel_rfl))) ?_
  intro W base args ds gs before hval0 hW hcnd hX hS
  have hval : ∀ (j : Nat) t v, Tryz.f4.params[j]? = some t → args[j]? = some v → Value.okWide Tryz.prog W .any base t v := hval0
  have hW' := hW
  obtain ⟨p, q, hA0, hV, rfl, hfz, hnd⟩ := hW
  have hA : DataW.TrodAll enc Tryz.prog W 0 (fun _ => true) true Tryz.f4.params.toList args.toList ds p := hA0
  rw [Tryz.params4] at hA hval
  obtain ⟨v0, vs0, d0, ds0, p0, q0, hargs, rfl, rfl, h0, r0⟩ := trodAll_cons hA
  obtain ⟨rfl, rfl, rfl⟩ := trodAll_nil r0
  obtain rfl : args = #[v0] := by cases args; simp_all
  obtain ⟨rfl, rfl⟩ := trodVars_none hV
  have hk0 := h0
  have hl0 : ∀ x ∈ p0, x.block < W.heap.size := fun x hx => hW'.lt x (by simp [hx])
  obtain ⟨f0, hf0⟩ := h0
  obtain ⟨sa0, sl0, sc0, rfl⟩ := okWide_slice Tryz.underlying25 (hval 0 25 v0 rfl rfl)
  obtain ⟨z0, s0⟩ := Kit.open_intsOf (k := .u8) (e := 5) Tryz.underlying25 (by kernel_rfl) (by kernel_rfl) (by simpa [Value.cells] using hf0)
  have hG : Nm.GV W := Nm.gv_of hS hX
  have n0 : Nm.NilOk (.slice sa0 sl0 sc0) := Nm.nil_ok (e := 5) Tryz.underlying25 (by simpa [Value.cells] using hf0)
  clear hA0 hval0
  refine (Nm.namesReads_walk _ z0  W hG s0 n0).mono fun e W' ⟨he, bel⟩ => ?_
  subst he
  exact ⟨_, rfl, _, _, _, [], _, [], hW', trodAll_mk1 (shut_bool Tryz.underlying4 _), (trodAll_cons_mk (Below.trod laidOut (by kernel_rfl) (of_decide_eq_true (by kernel_rfl)) hk0 bel hl0) trodAll_mk0), rfl, bel.frame _, fun h => by cases h⟩
theorem over : Rows.namesReadsRow.holds Tryz.pinned (OpenSpec.ofChange Rows.namesReadsSpec) :=
  OpenClaim.holds_of_wide 4 Tryz.f4 rfl rfl rfl rfl rfl rfl rfl ⟨rfl, rfl, rfl, rfl, rfl⟩ rfl rfl rfl rfl rfl (by kernel_rfl) Tryz.func4 (by kernel_rfl)
    (of_decide_eq_true (by kernel_rfl)) (by unfold Func.isWrapper; first | (rw [if_pos (by decide +kernel)]; kernel_rfl) | (rw [if_neg (by decide +kernel)]; exact ⟨rfl, rfl⟩))
    (fun os started H enc _ => lifted os started H enc)
end Go.Proofs.YtnhgmdfmhmkpgaaGreatDoor.namesReads
namespace Go.Proofs.YtnhgmdfmhmkpgaaGreatDoor
theorem namesReads_row : Rows.NamesReadsSaid := namesReads.over
/-- The statement. -/
theorem namesReads_holds : Rows.NamesReadsCardSaid :=
  Claim7.holds_tied_plain_at .later [] [.data, .data, .data, .data, .listed, .data, .pinned, .pinned] true (true, "d2e5457bc5b6be25da32f87dd4efd212bd7ca9c80de326b596381f04fb98b4fd") false namesReads_row (fun _ h => by cases h) (by kernel_rfl) (fun _ h => by cases h) namesReads_row_tie rfl ⟨rfl, rfl⟩ (by kernel_rfl) rfl
    (fun f fn hf hfn => by
      obtain rfl : f = 4 := Option.some.inj ((show Tryz.prog.funcNamed "joystick/joysticklaw11.NamesReads" = some 4 by kernel_rfl).symm.trans hf) |>.symm
      obtain rfl : fn = Tryz.f4 := (Option.some.inj (Tryz.func4.symm.trans hfn)).symm
      exact ⟨by kernel_rfl, fun j t ht => by
        rw [Tryz.params4] at ht
        have hm : t ∈ [25] := by simpa using Array.mem_of_getElem? ht
        have hall : ([25].all fun u => !Tryz.prog.wantsStandIn u) = true := by kernel_rfl
        exact (show Tryz.prog.wantsStandIn t = false by simpa using List.all_eq_true.1 hall t hm)⟩)
    (by kernel_rfl)
#print axioms namesReads_holds
end Go.Proofs.YtnhgmdfmhmkpgaaGreatDoor
