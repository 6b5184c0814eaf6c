/- LinStays: for every input the law returns true, and each argument reads behind the call as it did before. -/
import Derived.ChangeMaps5
import Derived.Test.YtjagfionflbjbaaGreatPF
set_option linter.unusedVariables false
set_option linter.unusedSimpArgs false
set_option linter.deprecated false
namespace Go.Proofs.YtjagfionflbjbaaGreat.N
open Go Go.Proofs.YtjagfionflbjbaaGreat.SH Go.Proofs.YtjagfionflbjbaaGreat.NumA Go.Proofs.YtjagfionflbjbaaGreat Go.RowKit Go.ChangeShapes Go.WideShapes Go.ChangeAt Go.Joins
set_option maxRecDepth 100000 in
theorem w0y (os:Os)(started:os.Started)(H:Type)(enc:TypeId×Value→H) :
  ReturnsInHanded {} Tryz.checked os 10 .any (Rows.linStaysSpec.pre6 enc Tryz.prog Tryz.f10 [] false) (Rows.linStaysSpec.post enc Tryz.prog Tryz.f10 false true false false) := by
 refine returnsInHanded_of_change (C := Tryz.checked) own started (by kernel_rfl) Tryz.func10
  (ChangeSpec.witness6 (enc := enc) (C := Tryz.checked) false ⟨#[], #[.agg #[.int .i64 0, .slice none 0 0], .agg #[.int .i64 0, .slice none 0 0], .slice none 0 0, .slice none 0 0], []⟩ 8 (by kernel_rfl) (by kernel_rfl) (by kernel_rfl) (by kernel_rfl)) ?_
 intro W base args ds gs before hval0 hW _ _
 have hval : ∀ (j : Nat) t v, Tryz.f10.params[j]? = some t → args[j]? = some v → Value.okWide Tryz.prog W .any base t v := hval0
 have hW' := hW
 obtain ⟨p, q, hA0, hV0, rfl, hfz, hnd⟩ := hW
 have hA : DataW.TrodAll enc Tryz.prog W 0 (fun _ => true) true Tryz.f10.params.toList args.toList ds p := hA0
 obtain ⟨rfl, rfl⟩ := trodVars_none hV0
 rw [Tryz.params10] at hA hval
 obtain ⟨v0, vs0, d0, ds0, p0, q0, hargs, rfl, rfl, h0, r0⟩ := trodAll_cons hA
 obtain ⟨v1, vs1, d1, ds1, p1, q1, rfl, rfl, rfl, h1, r1⟩ := trodAll_cons r0
 obtain ⟨v2, vs2, d2, ds2, p2, q2, rfl, rfl, rfl, h2, r2⟩ := trodAll_cons r1
 obtain ⟨v3, vs3, d3, ds3, p3, q3, rfl, rfl, rfl, h3, r3⟩ := trodAll_cons r2
 obtain ⟨rfl, rfl, rfl⟩ := trodAll_nil r3
 obtain rfl : args = #[v0, v1, v2, v3] := by cases args; simp_all
 clear hA0 hval0
 obtain ⟨c0, m0, w0, b0, e0⟩ := g1y (hval 0 24 v0 rfl rfl) h0
 obtain ⟨c1, m1, w1, b1, e1⟩ := g1y (hval 1 24 v1 rfl rfl) h1
 obtain ⟨l2, w2, e2⟩ := P0z (hval 2 40 v2 rfl rfl) h2
 obtain ⟨l3, w3, e3⟩ := P0z (hval 3 40 v3 rfl rfl) h3
 refine ((b1k c0 c1 m0 m1 l2 l3 w0 w1 w2 w3) (fun _ => True) W [v0, v1, v2, v3] trivial ⟨_, _, rfl, e0, ⟨_, _, rfl, e1, ⟨_, _, rfl, e2, ⟨_, _, rfl, e3, rfl⟩⟩⟩⟩).mono fun e W' he => ?_
 obtain ⟨v, rfl, hv, hb⟩ := he
 obtain rfl : v = .bool true := by simpa [Rel] using hv
 exact ⟨_, rfl, v1g D1j (by kernel_rfl) Tryz.underlying4 (by kernel_rfl) rfl hW' hb rfl⟩
theorem linStays_holds:Rows.LinStaysSaid :=
 OpenClaim.holds_of_wide 10 Tryz.f10 rfl rfl rfl rfl rfl rfl rfl ⟨rfl, rfl, rfl, rfl, rfl⟩ rfl rfl rfl rfl rfl (by kernel_rfl) Tryz.func10 (by kernel_rfl)
  (of_decide_eq_true (by kernel_rfl)) (by unfold Func.isWrapper; first | (rw [if_pos (by decide +kernel)]; kernel_rfl) | (rw [if_neg (by decide +kernel)]; exact ⟨rfl, rfl⟩))
  (fun os started H enc _ => w0y os started H enc)
#print axioms linStays_holds
end Go.Proofs.YtjagfionflbjbaaGreat.N
