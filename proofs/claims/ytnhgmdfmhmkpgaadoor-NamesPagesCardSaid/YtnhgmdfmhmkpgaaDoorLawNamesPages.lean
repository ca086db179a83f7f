/- For every input the law NamesPages returns true, and each argument reads behind the call as it read before. Its conditions: the variables listed are laid as the program lays them (the card ties them). -/
import Derived.Test.YtnhgmdfmhmkpgaaDoorRows
import Derived.Test.YtnhgmdfmhmkpgaaDoorNmW
import Derived.Test.YtnhgmdfmhmkpgaaDoorNmH
import Derived.Test.YtnhgmdfmhmkpgaaDoorTie
import Derived.Test.YtnhgmdfmhmkpgaaDoorCards
import Derived.SevenTiedAt
import Derived.Stop.Joined
import Derived.LaidMore
import Derived.Lay
import Derived.WalkKit
import Derived.ProofKit
import Derived.OpenShut
import Derived.ShutString
import Derived.ChangeOld
import Derived.Below
import Derived.Carry
import Derived.SizedLaws
namespace Go.Proofs.YtnhgmdfmhmkpgaaDoor.namesPages
open Go.ChangeShapes Go.WideShapes Go.ChangeAt Go.RowKit
open Go.ChangeMaps (open_string shut_string)
set_option linter.unusedVariables false
theorem own : ownKnob Tryd.prog.godebug = none := by kernel_rfl
theorem laidOut : laidOutB Tryd.prog = true := by kernel_rfl
set_option maxRecDepth 100000 in
theorem lifted (os : Os) (started : os.Started) (H : Type) (enc : TypeId × Value → H) :
    ReturnsInHanded {} Tryd.checked os 3 .any (fun w args => (Rows.namesPagesSpec.pre enc Tryd.prog Tryd.f3 Rows.namesPagesRow.domain false w args ∧ laidMetH Tryd.prog Nm.LL w) ∧ sizedMet enc Tryd.prog Tryd.f3 (OpenSpec.ofChange Rows.namesPagesSpec) false w args) (Rows.namesPagesSpec.post enc Tryd.prog Tryd.f3 false true false false) := by
  refine Nm.handed_shaped (C := Tryd.checked) (X := fun w _ => laidMetH Tryd.prog Nm.LL w) (fun _ _ _ hh h => h.of_heap hh) own started (by kernel_rfl) Tryd.func3
    (ChangeSpec.witness_shaped (enc := enc) (C := Tryd.checked) (os := os) (X := fun w _ => laidMetH Tryd.prog Nm.LL w) false (World.laidAll Tryd.prog os Nm.LL) #[] 8 (World.laidAll_os _ _ _)
      (World.shaped_of_ZipB (by kernel_rfl) (by kernel_rfl)) (by kernel_rfl) (by kernel_rfl) (by kernel_rfl)
      (by rw [MakeChecks.laidMetH_plain _ _ _ (by kernel_rfl)]; exact laidMet_laidAll _ (by kernel_rfl) (by kernel_rfl))) ?_
  intro W base args ds gs before hval0 hW hcnd hX hS
  have hval : ∀ (j : Nat) t v, Tryd.f3.params[j]? = some t → args[j]? = some v → Value.okWide Tryd.prog W .any base t v := hval0
  have hW' := hW
  obtain ⟨p, q, hA0, hV, rfl, hfz, hnd⟩ := hW
  have hA : DataW.TrodAll enc Tryd.prog W 0 (fun _ => true) true Tryd.f3.params.toList args.toList ds p := hA0
  rw [Tryd.params3] at hA hval
  obtain ⟨rfl, rfl, rfl⟩ := trodAll_none hA
  obtain ⟨rfl, rfl⟩ := trodVars_none hV
  have hG : Nm.GV W := Nm.gv_of hS hX
  clear hA0 hval0
  refine (Nm.namesPages_walk   W hG).mono fun e W' ⟨he, bel⟩ => ?_
  subst he
  exact ⟨_, rfl, _, _, _, [], _, [], hW', trodAll_mk1 (shut_bool Tryd.underlying4 _), rfl, rfl, bel.frame _, fun h => by cases h⟩
theorem over : Rows.namesPagesRow.holds Tryd.pinned (OpenSpec.ofChange Rows.namesPagesSpec) :=
  OpenClaim.holds_of_wide 3 Tryd.f3 rfl rfl rfl rfl rfl rfl rfl ⟨rfl, rfl, rfl, rfl, rfl⟩ rfl rfl rfl rfl rfl (by kernel_rfl) Tryd.func3 (by kernel_rfl)
    (of_decide_eq_true (by kernel_rfl)) (by unfold Func.isWrapper; first | (rw [if_pos (by decide +kernel)]; kernel_rfl) | (rw [if_neg (by decide +kernel)]; exact ⟨rfl, rfl⟩))
    (fun os started H enc _ => lifted os started H enc)
end Go.Proofs.YtnhgmdfmhmkpgaaDoor.namesPages
namespace Go.Proofs.YtnhgmdfmhmkpgaaDoor
theorem namesPages_row : Rows.NamesPagesSaid := namesPages.over
/-- The statement. -/
theorem namesPages_holds : Rows.NamesPagesCardSaid :=
  Claim7.holds_tied_plain_at .later [] [.data, .data, .data, .data, .listed, .data, .pinned, .pinned] true (true, "15482d2e75ad2ab2220ee30239639a91abcc687731ad4c746319bbfa04a6a6fd") false namesPages_row (fun _ h => by cases h) (by kernel_rfl) (fun _ h => by cases h) namesPages_row_tie rfl ⟨rfl, rfl⟩ (by kernel_rfl) rfl
    (fun f fn hf hfn => by
      obtain rfl : f = 3 := Option.some.inj ((show Tryd.prog.funcNamed "joystick/joysticklaw11.NamesPages" = some 3 by kernel_rfl).symm.trans hf) |>.symm
      obtain rfl : fn = Tryd.f3 := (Option.some.inj (Tryd.func3.symm.trans hfn)).symm
      exact ⟨by kernel_rfl, fun j t ht => by
        rw [Tryd.params3] at ht
        have hm : t ∈ [] := by simpa using Array.mem_of_getElem? ht
        have hall : ([].all fun u => !Tryd.prog.wantsStandIn u) = true := by kernel_rfl
        exact (show Tryd.prog.wantsStandIn t = false by simpa using List.all_eq_true.1 hall t hm)⟩)
    (by kernel_rfl)
#print axioms namesPages_holds
end Go.Proofs.YtnhgmdfmhmkpgaaDoor
