/- NumBack: for every input the law returns true, and each argument reads behind the call as it did before. Conditions: the package variables that the row lists hold what the program's text lays (the card ties them). -/
import Derived.Test.YtebkelnibecmjaaDoorRow
import Derived.Test.YtebkelnibecmjaaDoorNumBackWalk
import Derived.Test.YtebkelnibecmjaaDoorTie
import Derived.Test.YtebkelnibecmjaaDoorCards
import Derived.ChangeMaps5
set_option linter.unusedVariables false
set_option linter.unusedSimpArgs false
set_option linter.deprecated false
namespace Go.Proofs.YtebkelnibecmjaaDoor.N
open Go Go.Proofs.YtebkelnibecmjaaDoor.SH Go.Proofs.YtebkelnibecmjaaDoor.NumA Go.Proofs.YtebkelnibecmjaaDoor Go.RowKit Go.ChangeShapes Go.WideShapes Go.ChangeAt Go.Joins
set_option maxRecDepth 100000 in
theorem numBack_lifted (os : Os) (started : os.Started) (H : Type) (enc : TypeId × Value → H) :
    ReturnsInHanded {} Tryd.checked os 10 .any (fun w args => (Rows.numBackSpec.pre enc Tryd.prog Tryd.f10 [] false w args ∧ laidMetH Tryd.prog laid w) ∧ sizedMet enc Tryd.prog Tryd.f10 (OpenSpec.ofChange Rows.numBackSpec) false w args)
      (Rows.numBackSpec.post enc Tryd.prog Tryd.f10 false true false false) := by
  refine returnsInHanded_of_change_and (C := Tryd.checked) (X := fun w _ => laidMetH Tryd.prog laid w) (fun _ _ _ hh h => h.of_heap hh) own started (by kernel_rfl) Tryd.func10
    (ChangeSpec.witness_shaped (enc := enc) (C := Tryd.checked) (os := os) (X := fun w _ => laidMetH Tryd.prog laid w) false (World.laidAll Tryd.prog os laid) #[.agg #[.bool false, .slice none 0 0], .string ⟨#[]⟩, .int .u8 0, .int .u8 0, .int .u8 0] 8 (World.laidAll_os _ _ _)
      (World.shaped_of_ZipB (by kernel_rfl) (by kernel_rfl)) (by kernel_rfl) (by kernel_rfl) (by kernel_rfl) (laid_met os _)) ?_
  intro W base args ds gs before hval0 hW _ _ hL _
  have hval : ∀ (j : Nat) t v, Tryd.f10.params[j]? = some t → args[j]? = some v → Value.okWide Tryd.prog W .any base t v := hval0
  have hW' := hW
  obtain ⟨p, q, hA0, hV0, rfl, hfz, hnd⟩ := hW
  have hA : DataW.TrodAll enc Tryd.prog W 0 (fun _ => true) true Tryd.f10.params.toList args.toList ds p := hA0
  obtain ⟨rfl, rfl⟩ := trodVars_none hV0
  rw [Tryd.params10] at hA hval
  obtain ⟨v0, vs0, d0, ds0, p0, q0, hargs, rfl, rfl, h0, r0⟩ := trodAll_cons hA
  obtain ⟨v1, vs1, d1, ds1, p1, q1, rfl, rfl, rfl, h1, r1⟩ := trodAll_cons r0
  obtain ⟨v2, vs2, d2, ds2, p2, q2, rfl, rfl, rfl, h2, r2⟩ := trodAll_cons r1
  obtain ⟨v3, vs3, d3, ds3, p3, q3, rfl, rfl, rfl, h3, r3⟩ := trodAll_cons r2
  obtain ⟨v4, vs4, d4, ds4, p4, q4, rfl, rfl, rfl, h4, r4⟩ := trodAll_cons r3
  obtain ⟨rfl, rfl, rfl⟩ := trodAll_nil r4
  obtain rfl : args = #[v0, v1, v2, v3, v4] := by cases args; simp_all
  clear hA0 hval0
  obtain ⟨m0, ws0, w0, e0⟩ := int_arg (hval 0 24 v0 rfl rfl) h0
  obtain ⟨s1, rfl, ed1, -, wn1⟩ := Go.ChangeMaps.open_string Tryd.underlying9 (hval 1 9 v1 rfl rfl) h1
  obtain ⟨n2, rfl, ed2, -, wn2⟩ := open_int Tryd.underlying5 (hval 2 5 v2 rfl rfl) h2
  obtain ⟨a2, b2⟩ := byte_bd wn2
  obtain ⟨n3, rfl, ed3, -, wn3⟩ := open_int Tryd.underlying5 (hval 3 5 v3 rfl rfl) h3
  obtain ⟨a3, b3⟩ := byte_bd wn3
  obtain ⟨n4, rfl, ed4, -, wn4⟩ := open_int Tryd.underlying5 (hval 4 5 v4 rfl rfl) h4
  obtain ⟨a4, b4⟩ := byte_bd wn4
  refine ((back_says m0 ws0 s1 n2 n3 n4 w0 ⟨a2, b2⟩ ⟨a3, b3⟩ ⟨a4, b4⟩) (fun _ => True) W [v0, .string s1, .int .u8 n2, .int .u8 n3, .int .u8 n4] (tab_of_laid hL) ⟨_, _, rfl, e0, ⟨_, _, rfl, (by simp [Rel]), ⟨_, _, rfl, (by simp [Rel]), ⟨_, _, rfl, (by simp [Rel]), ⟨_, _, rfl, (by simp [Rel]), rfl⟩⟩⟩⟩⟩).mono fun e W' he => ?_
  obtain ⟨v, rfl, hv, hb⟩ := he
  obtain rfl : v = .bool true := by simpa [Rel] using hv
  exact ⟨_, rfl, post_law laidOut (by kernel_rfl) Tryd.underlying4 (by kernel_rfl) rfl hW' hb rfl⟩
theorem numBack_holds : Rows.NumBackSaid :=
  OpenClaim.holds_of_wide 10 Tryd.f10 rfl rfl rfl rfl rfl rfl rfl ⟨rfl, rfl, rfl, rfl, rfl⟩ rfl rfl rfl rfl rfl (by kernel_rfl) Tryd.func10 (by kernel_rfl)
    (of_decide_eq_true (by kernel_rfl)) (by unfold Func.isWrapper; first | (rw [if_pos (by decide +kernel)]; kernel_rfl) | (rw [if_neg (by decide +kernel)]; exact ⟨rfl, rfl⟩))
    (fun os started H enc _ => numBack_lifted os started H enc)
theorem numBack_card : Rows.NumBackCardSaid :=
  Claim7.holds_tied_plain_at .later [] [.data, .data, .data] true (true, "27aea8d7090be1134d9ce05aadd32c3a854616645824f9b010035319c13a8603") false
    numBack_holds (fun _ h => by cases h) (by kernel_rfl) (fun _ h => by cases h) numBack_row_tie rfl ⟨rfl, rfl⟩ (by kernel_rfl) rfl
    (fun f fn hf hfn => by
      obtain rfl : f = 10 := Option.some.inj ((show Tryd.prog.funcNamed "quadratrix/quadratrixlaw01.NumBack" = some 10 by kernel_rfl).symm.trans hf) |>.symm
      obtain rfl : fn = Tryd.f10 := (Option.some.inj (Tryd.func10.symm.trans hfn)).symm
      exact ⟨by kernel_rfl, fun j t ht => by
        rw [Tryd.params10] at ht
        have hm : t ∈ [24, 9, 5, 5, 5] := by simpa using Array.mem_of_getElem? ht
        have hall : ([24, 9, 5, 5, 5].all fun u => !Tryd.prog.wantsStandIn u) = true := by kernel_rfl
        exact (show Tryd.prog.wantsStandIn t = false by simpa using List.all_eq_true.1 hall t hm)⟩)
    (by kernel_rfl)
#print axioms numBack_card
end Go.Proofs.YtebkelnibecmjaaDoor.N
