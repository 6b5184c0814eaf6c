/- Part Help of the proof: lemmas for the walks of the given functions. No statement of its own. -/
import Derived.Test.YtebkelnibecmjaaDoorWalkC
set_option linter.unusedVariables false
set_option linter.unusedSimpArgs false
set_option linter.deprecated false
namespace Go.Proofs.YtebkelnibecmjaaDoor.N
open Go Go.Proofs.YtebkelnibecmjaaDoor.SH Go.Proofs.YtebkelnibecmjaaDoor.NumA
theorem lshortZ {a b c k : Int} (ha : (nw a : Int) ≤ k) (hb : (nw b : Int) ≤ k) (hc : (nw c : Int) ≤ k) : Says E 12 [vZ k, pZ a, pZ b, pZ c] (bZ true) := by
  have := lshort_says k (decide (a < 0)) (decide (b < 0)) (decide (c < 0)) (digs a.natAbs) (digs b.natAbs) (digs c.natAbs)
  unfold nw at ha hb hc
  have e : decide (((digs a.natAbs).length : Int) ≤ k ∧ ((digs b.natAbs).length : Int) ≤ k ∧ ((digs c.natAbs).length : Int) ≤ k) = true := decide_eq_true ⟨ha, hb, hc⟩
  rwa [e] at this
theorem risZ (a : Int) (ha : nw a < 99999999) : Says E 17 [pZ a] (bZ true) := by
  have := ris_says (decide (a < 0)) (digs a.natAbs) (by unfold nw at ha; omega)
  rwa [canon_digs a] at this
theorem p4 {s x y z : Prop} (h : ¬ (s ∧ x ∧ y ∧ z)) : ¬ s ∨ (s ∧ ¬ x) ∨ (s ∧ x ∧ ¬ y) ∨ (s ∧ x ∧ y ∧ ¬ z) := by
  by_cases hs : s
  · by_cases hx : x
    · by_cases hy : y
      · exact .inr (.inr (.inr ⟨hs, hx, hy, fun hz => h ⟨hs, hx, hy, hz⟩⟩))
      · exact .inr (.inr (.inl ⟨hs, hx, hy⟩))
    · exact .inr (.inl ⟨hs, hx⟩)
  · exact .inl hs
theorem cz (a b : Int) : cmpI a b = (a - b).sign := by
  unfold cmpI
  rcases Int.lt_trichotomy (a - b) 0 with h | h | h
  · rw [Int.sign_eq_neg_one_of_neg h]; rw [if_pos (by omega)]
  · rw [h, if_neg (by omega), if_neg (by omega)]; rfl
  · rw [Int.sign_eq_one_of_pos h, if_neg (by omega), if_pos (by omega)]
theorem sign3 (a : Int) : a.sign = -1 ∧ a < 0 ∨ a.sign = 0 ∧ a = 0 ∨ a.sign = 1 ∧ 0 < a := by
  rcases Int.lt_trichotomy a 0 with h | h | h
  · exact .inl ⟨Int.sign_eq_neg_one_of_neg h, h⟩
  · exact .inr (.inl ⟨by rw [h]; rfl, h⟩)
  · exact .inr (.inr ⟨Int.sign_eq_one_of_pos h, h⟩)
theorem cmp_mul {a b c : Int} (hc : 0 < c) : cmpI (a * c) (b * c) = cmpI a b := by
  unfold cmpI
  simp only [Int.mul_lt_mul_right hc]
end Go.Proofs.YtebkelnibecmjaaDoor.N
