/- RatCommon: for every input the law returns true, and each argument reads behind the call as it did before. Conditions: the package variables that the row lists hold what the program's text lays (the card ties them). -/
import Derived.Test.YtcifhkfpmhifaaaGreatDoorTie
import Derived.Test.YtcifhkfpmhifaaaGreatDoorCards
import Derived.ChangeMaps5
import Derived.Test.YtcifhkfpmhifaaaGreatDoorPE
set_option linter.unusedVariables false
set_option linter.unusedSimpArgs false
set_option linter.deprecated false
namespace Go.Proofs.YtcifhkfpmhifaaaGreatDoor.N
open Go Go.Proofs.YtcifhkfpmhifaaaGreatDoor.SH Go.Proofs.YtcifhkfpmhifaaaGreatDoor.NumA Go.Proofs.YtcifhkfpmhifaaaGreatDoor Go.RowKit Go.ChangeShapes Go.WideShapes Go.ChangeAt Go.Joins
set_option maxRecDepth 100000 in
theorem ratCommon_lifted (os : Os) (started : os.Started) (H : Type) (enc : TypeId × Value → H) :
    ReturnsInHanded {} Tryz.checked os 5 .any (fun w args => (Rows.ratCommonSpec.pre enc Tryz.prog Tryz.f5 [] false w args ∧ laidMetH Tryz.prog laid w) ∧ sizedMet enc Tryz.prog Tryz.f5 (OpenSpec.ofChange Rows.ratCommonSpec) false w args)
      (Rows.ratCommonSpec.post enc Tryz.prog Tryz.f5 false true false false) := by
  refine returnsInHanded_of_change_and (C := Tryz.checked) (X := fun w _ => laidMetH Tryz.prog laid w) (fun _ _ _ hh h => h.of_heap hh) own started (by kernel_rfl) Tryz.func5
    (ChangeSpec.witness_shaped (enc := enc) (C := Tryz.checked) (os := os) (X := fun w _ => laidMetH Tryz.prog laid w) false (World.laidAll Tryz.prog os laid) #[.slice none 0 0] 8 (World.laidAll_os _ _ _)
      (World.shaped_of_ZipB (by kernel_rfl) (by kernel_rfl)) (by kernel_rfl) (by kernel_rfl) (by kernel_rfl) (laid_met os _)) ?_
  intro W base args ds gs before hval0 hW _ hwt hL _
  have hval : ∀ (j : Nat) t v, Tryz.f5.params[j]? = some t → args[j]? = some v → Value.okWide Tryz.prog W .any base t v := hval0
  have hW' := hW
  obtain ⟨p, q, hA0, hV0, rfl, hfz, hnd⟩ := hW
  have hA : DataW.TrodAll enc Tryz.prog W 0 (fun _ => true) true Tryz.f5.params.toList args.toList ds p := hA0
  obtain ⟨rfl, rfl⟩ := trodVars_none hV0
  rw [Tryz.params5] at hA hval
  obtain ⟨v0, vs0, d0, ds0, p0, q0, hargs, rfl, rfl, h0, r0⟩ := trodAll_cons hA
  obtain ⟨rfl, rfl, rfl⟩ := trodAll_nil r0
  obtain rfl : args = #[v0] := by cases args; simp_all
  clear hA0 hval0
  obtain ⟨l0, w0, e0, z0⟩ := rats_arg (one_of (hval 0 47 v0 rfl rfl)) h0
  refine ((common_says l0 w0) (fun _ => True) W [v0] (tab_of_laid hL) ⟨_, _, rfl, e0, rfl⟩).mono fun e W' he => ?_
  obtain ⟨v, rfl, hv, hb⟩ := he
  obtain rfl : v = .bool true := by simpa [Rel] using hv
  exact ⟨_, rfl, post_law laidOut (by kernel_rfl) Tryz.underlying4 (by kernel_rfl) rfl hW' hb rfl⟩
theorem ratCommon_holds : Rows.RatCommonSaid :=
  OpenClaim.holds_of_wide 5 Tryz.f5 rfl rfl rfl rfl rfl rfl rfl ⟨rfl, rfl, rfl, rfl, rfl⟩ rfl rfl rfl rfl rfl (by kernel_rfl) Tryz.func5 (by kernel_rfl)
    (of_decide_eq_true (by kernel_rfl)) (by unfold Func.isWrapper; first | (rw [if_pos (by decide +kernel)]; kernel_rfl) | (rw [if_neg (by decide +kernel)]; exact ⟨rfl, rfl⟩))
    (fun os started H enc _ => ratCommon_lifted os started H enc)
theorem ratCommon_card : Rows.RatCommonCardSaid :=
  Claim7.holds_tied_plain_at .later [] [.data, .data, .data] true (true, "a9d8ce7a47db24a7e406aed83ae7e20c80eabda49bb830414608f8c8fc685146") true
    ratCommon_holds (fun _ h => by cases h) (by kernel_rfl) (fun _ h => by cases h) ratCommon_row_tie rfl ⟨rfl, rfl⟩ (by kernel_rfl) rfl
    (fun f fn hf hfn => by
      obtain rfl : f = 5 := Option.some.inj ((show Tryz.prog.funcNamed "quadratrix/quadratrixlaw02.RatCommon" = some 5 by kernel_rfl).symm.trans hf) |>.symm
      obtain rfl : fn = Tryz.f5 := (Option.some.inj (Tryz.func5.symm.trans hfn)).symm
      exact ⟨by kernel_rfl, fun j t ht => by
        rw [Tryz.params5] at ht
        have hm : t ∈ [47] := by simpa using Array.mem_of_getElem? ht
        have hall : ([47].all fun u => !Tryz.prog.wantsStandIn u) = true := by kernel_rfl
        exact (show Tryz.prog.wantsStandIn t = false by simpa using List.all_eq_true.1 hall t hm)⟩)
    (by kernel_rfl)
#print axioms ratCommon_card
end Go.Proofs.YtcifhkfpmhifaaaGreatDoor.N
