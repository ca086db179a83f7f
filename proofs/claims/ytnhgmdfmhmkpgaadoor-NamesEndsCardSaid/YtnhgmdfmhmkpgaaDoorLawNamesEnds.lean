/- For every input the law NamesEnds returns true, and each argument reads behind the call as it read before. Its conditions: the variables listed are laid as the program lays them (the card ties them). -/
import Derived.Test.YtnhgmdfmhmkpgaaDoorRows
import Derived.Test.YtnhgmdfmhmkpgaaDoorNmU
import Derived.Test.YtnhgmdfmhmkpgaaDoorNmH
import Derived.Test.YtnhgmdfmhmkpgaaDoorTie
import Derived.Test.YtnhgmdfmhmkpgaaDoorCards
import Derived.SevenTiedAt
import Derived.Stop.Joined
import Derived.LaidMore
import Derived.Lay
import Derived.WalkKit
import Derived.ProofKit
import Derived.OpenShut
import Derived.ShutString
import Derived.ChangeOld
import Derived.Below
import Derived.Carry
import Derived.SizedLaws
import Derived.Test.YtnhgmdfmhmkpgaaDoorKit2
namespace Go.Proofs.YtnhgmdfmhmkpgaaDoor.namesEnds
open Go.ChangeShapes Go.WideShapes Go.ChangeAt Go.RowKit
open Go.ChangeMaps (open_string shut_string)
set_option linter.unusedVariables false
theorem own : ownKnob Tryd.prog.godebug = none := by kernel_rfl
theorem laidOut : laidOutB Tryd.prog = true := by kernel_rfl
set_option maxRecDepth 100000 in
theorem lifted (os : Os) (started : os.Started) (H : Type) (enc : TypeId × Value → H) :
    ReturnsInHanded {} Tryd.checked os 4 .any (fun w args => (Rows.namesEndsSpec.pre enc Tryd.prog Tryd.f4 Rows.namesEndsRow.domain false w args ∧ laidMetH Tryd.prog Nm.LL w) ∧ sizedMet enc Tryd.prog Tryd.f4 (OpenSpec.ofChange Rows.namesEndsSpec) false w args) (Rows.namesEndsSpec.post enc Tryd.prog Tryd.f4 false true false false) := by
  refine Nm.handed_shaped (C := Tryd.checked) (X := fun w _ => laidMetH Tryd.prog Nm.LL w) (fun _ _ _ hh h => h.of_heap hh) own started (by kernel_rfl) Tryd.func4
    (ChangeSpec.witness_shaped (enc := enc) (C := Tryd.checked) (os := os) (X := fun w _ => laidMetH Tryd.prog Nm.LL w) false (World.laidAll Tryd.prog os Nm.LL) #[.slice none 0 0, .slice none 0 0] 8 (World.laidAll_os _ _ _)
      (World.shaped_of_ZipB (by kernel_rfl) (by kernel_rfl)) (by kernel_rfl) (by kernel_rfl) (by kernel_rfl)
      (by rw [MakeChecks.laidMetH_plain _ _ _ (by kernel_rfl)]; exact laidMet_laidAll _ (by kernel_rfl) (by kernel_rfl))) ?_
  intro W base args ds gs before hval0 hW hcnd hX hS
  have hval : ∀ (j : Nat) t v, Tryd.f4.params[j]? = some t → args[j]? = some v → Value.okWide Tryd.prog W .any base t v := hval0
  have hW' := hW
  obtain ⟨p, q, hA0, hV, rfl, hfz, hnd⟩ := hW
  have hA : DataW.TrodAll enc Tryd.prog W 0 (fun _ => true) true Tryd.f4.params.toList args.toList ds p := hA0
  rw [Tryd.params4] at hA hval
  obtain ⟨v0, vs0, d0, ds0, p0, q0, hargs, rfl, rfl, h0, r0⟩ := trodAll_cons hA
  obtain ⟨v1, vs1, d1, ds1, p1, q1, rfl, rfl, rfl, h1, r1⟩ := trodAll_cons r0
  obtain ⟨rfl, rfl, rfl⟩ := trodAll_nil r1
  obtain rfl : args = #[v0, v1] := by cases args; simp_all
  obtain ⟨rfl, rfl⟩ := trodVars_none hV
  have hk0 := h0
  have hl0 : ∀ x ∈ p0, x.block < W.heap.size := fun x hx => hW'.lt x (by simp [hx])
  obtain ⟨f0, hf0⟩ := h0
  obtain ⟨sa0, sl0, sc0, rfl⟩ := okWide_slice Tryd.underlying24 (hval 0 24 v0 rfl rfl)
  obtain ⟨z0, s0⟩ := Kit.open_intsOf (k := .u8) (e := 5) Tryd.underlying24 (by kernel_rfl) (by kernel_rfl) (by simpa [Value.cells] using hf0)
  have hk1 := h1
  have hl1 : ∀ x ∈ p1, x.block < W.heap.size := fun x hx => hW'.lt x (by simp [hx])
  obtain ⟨f1, hf1⟩ := h1
  obtain ⟨sa1, sl1, sc1, rfl⟩ := okWide_slice Tryd.underlying24 (hval 1 24 v1 rfl rfl)
  obtain ⟨z1, s1⟩ := Kit.open_intsOf (k := .u8) (e := 5) Tryd.underlying24 (by kernel_rfl) (by kernel_rfl) (by simpa [Value.cells] using hf1)
  have hG : Nm.GV W := Nm.gv_of hS hX
  have n0 : Nm.NilOk (.slice sa0 sl0 sc0) := Nm.nil_ok (e := 5) Tryd.underlying24 (by simpa [Value.cells] using hf0)
  have n1 : Nm.NilOk (.slice sa1 sl1 sc1) := Nm.nil_ok (e := 5) Tryd.underlying24 (by simpa [Value.cells] using hf1)
  clear hA0 hval0
  refine (Nm.namesEnds_walk _ z0 _ z1  W hG s0 s1 n0 n1).mono fun e W' ⟨he, bel⟩ => ?_
  subst he
  exact ⟨_, rfl, _, _, _, [], _, [], hW', trodAll_mk1 (shut_bool Tryd.underlying4 _), (trodAll_cons_mk (Below.trod laidOut (by kernel_rfl) (of_decide_eq_true (by kernel_rfl)) hk0 bel hl0) (trodAll_cons_mk (Below.trod laidOut (by kernel_rfl) (of_decide_eq_true (by kernel_rfl)) hk1 bel hl1) trodAll_mk0)), rfl, bel.frame _, fun h => by cases h⟩
theorem over : Rows.namesEndsRow.holds Tryd.pinned (OpenSpec.ofChange Rows.namesEndsSpec) :=
  OpenClaim.holds_of_wide 4 Tryd.f4 rfl rfl rfl rfl rfl rfl rfl ⟨rfl, rfl, rfl, rfl, rfl⟩ rfl rfl rfl rfl rfl (by kernel_rfl) Tryd.func4 (by kernel_rfl)
    (of_decide_eq_true (by kernel_rfl)) (by unfold Func.isWrapper; first | (rw [if_pos (by decide +kernel)]; kernel_rfl) | (rw [if_neg (by decide +kernel)]; exact ⟨rfl, rfl⟩))
    (fun os started H enc _ => lifted os started H enc)
end Go.Proofs.YtnhgmdfmhmkpgaaDoor.namesEnds
namespace Go.Proofs.YtnhgmdfmhmkpgaaDoor
theorem namesEnds_row : Rows.NamesEndsSaid := namesEnds.over
/-- The statement. -/
theorem namesEnds_holds : Rows.NamesEndsCardSaid :=
  Claim7.holds_tied_plain_at .later [] [.data, .data, .data, .data, .listed, .data, .pinned, .pinned] true (true, "15482d2e75ad2ab2220ee30239639a91abcc687731ad4c746319bbfa04a6a6fd") false namesEnds_row (fun _ h => by cases h) (by kernel_rfl) (fun _ h => by cases h) namesEnds_row_tie rfl ⟨rfl, rfl⟩ (by kernel_rfl) rfl
    (fun f fn hf hfn => by
      obtain rfl : f = 4 := Option.some.inj ((show Tryd.prog.funcNamed "joystick/joysticklaw11.NamesEnds" = some 4 by kernel_rfl).symm.trans hf) |>.symm
      obtain rfl : fn = Tryd.f4 := (Option.some.inj (Tryd.func4.symm.trans hfn)).symm
      exact ⟨by kernel_rfl, fun j t ht => by
        rw [Tryd.params4] at ht
        have hm : t ∈ [24, 24] := by simpa using Array.mem_of_getElem? ht
        have hall : ([24, 24].all fun u => !Tryd.prog.wantsStandIn u) = true := by kernel_rfl
        exact (show Tryd.prog.wantsStandIn t = false by simpa using List.all_eq_true.1 hall t hm)⟩)
    (by kernel_rfl)
#print axioms namesEnds_holds
end Go.Proofs.YtnhgmdfmhmkpgaaDoor
