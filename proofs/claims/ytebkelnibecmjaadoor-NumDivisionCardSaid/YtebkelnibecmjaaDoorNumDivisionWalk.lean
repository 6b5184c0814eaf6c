/- Part NumDivisionWalk of the proof: lemmas for the walks of the given functions. No statement of its own. -/
import Derived.Test.YtebkelnibecmjaaDoorHelp
set_option linter.unusedVariables false
set_option linter.unusedSimpArgs false
set_option linter.deprecated false
namespace Go.Proofs.YtebkelnibecmjaaDoor.N
open Go Go.Proofs.YtebkelnibecmjaaDoor.SH Go.Proofs.YtebkelnibecmjaaDoor.NumA
theorem divZ0 (a : Int) (ha : nw a < 99999999) : Says E 31 [pZ a, pZ 0] (.tup [pZ 0, pZ 0, vZ 5]) := by
  have := div_says (decide (a < 0)) false (digs a.natAbs) [] (by unfold nw at ha; omega) (by simp) (wd_digs _) Wd.nil
  have hc : canon false [] = true := rfl
  simp only [dQ, dR, dE, canon_digs a, hc, val, sg] at this
  rw [show pZ 0 = pI false [] from pZ_zero]
  simpa [pZ_zero] using this
theorem emod_small {b c : Int} (h0 : 0 ≤ c) (h1 : c < b.natAbs) : c % b = c := by
  by_cases hb : 0 < b
  · exact Int.emod_eq_of_lt h0 (by omega)
  · obtain ⟨d, rfl⟩ : ∃ d, b = -d := ⟨-b, by omega⟩
    rw [Int.emod_neg]; exact Int.emod_eq_of_lt h0 (by omega)
theorem div_back {a b c : Int} (hb : b ≠ 0) (h0 : 0 ≤ c) (h1 : c < b.natAbs) : (a * b + c) / b = a ∧ (a * b + c) % b = c := by
  have e1 : (a * b + c) % b = c := by
    rw [Int.add_comm, Int.add_mul_emod_self_right]; exact emod_small h0 h1
  refine ⟨?_, e1⟩
  have := Int.mul_ediv_add_emod (a * b + c) b
  rw [e1] at this
  have e2 : b * ((a * b + c) / b) = b * a := by rw [Int.mul_comm b a]; omega
  exact Int.eq_of_mul_eq_mul_left hb e2
theorem emod_bd {a b : Int} (hb : b ≠ 0) : 0 ≤ a % b ∧ a % b < b.natAbs := ⟨Int.emod_nonneg a hb, Int.emod_lt a hb⟩
set_option maxRecDepth 100000 in
set_option maxHeartbeats 4000000 in
theorem div_z0 (a b c : Int) (ha : nw a ≤ 60) (hb : nw b ≤ 60) (hc : nw c ≤ 60) (h0 : b = 0) : Says E 8 [pZ a, pZ b, pZ c] (bZ true) := by
  refine says_of (xs := [bZ true]) Tryd.func8 rfl Tryd.ntmps8 Tryd.results8 (by simp) fun F hG hX0 hnt hdf P0 => ?_
  have L := ltn hnt
  have hX : ∀ b, F.X b → E.ng ≤ b := fun b h => absurd h (hX0 b)
  have hN := ng_le hG
  subst h0
  refine exr ?_
  refine swb (core_box (k := 3) (n := 2) (.pagg (.cons (.cons .nil))) rfl rfl (P0 _ rfl) (L _ rfl)) ⟨rfl, trivial⟩ trivial ⟨rfl, rfl⟩ ?_
  refine swb (core_box (k := 4) (n := 2) (.pagg (.cons (.cons .nil))) rfl rfl (P0 _ rfl) (L _ rfl)) ⟨rfl, trivial⟩ trivial ⟨rfl, rfl⟩ ?_
  refine swb (core_box (k := 5) (n := 2) (.pagg (.cons (.cons .nil))) rfl rfl (P0 _ rfl) (L _ rfl)) ⟨rfl, trivial⟩ trivial ⟨rfl, rfl⟩ ?_
  refine sw (core_assign (L _ rfl)) ⟨rfl, trivial⟩ trivial ?_
  refine seq_nil ⟨[(3, _), (4, _), (5, _)], [(3, _), (4, _), (5, _)], ⟨rfl, rfl, rfl, trivial⟩, ⟨rfl, rfl, rfl, trivial⟩, ?_⟩
  refine ex_seq ?_
  refine exr ?_
  refine sw (core_loadP Tryd.isAgg24 Tryd.sizeOf24 (by rfl) (by exact (.cons (.cons .nil))) rfl (L _ rfl)) ⟨rfl, trivial⟩ ⟨rfl, trivial⟩ ?_
  refine sw (core_loadP Tryd.isAgg24 Tryd.sizeOf24 (by rfl) (by exact (.cons (.cons .nil))) rfl (L _ rfl)) ⟨rfl, trivial⟩ ⟨rfl, trivial⟩ ?_
  refine sw (core_loadP Tryd.isAgg24 Tryd.sizeOf24 (by rfl) (by exact (.cons (.cons .nil))) rfl (L _ rfl)) ⟨rfl, trivial⟩ ⟨rfl, trivial⟩ ?_
  refine sw (core_call (E := E) hG hX Tryd.call12 rfl hN (lshortZ (by omega) (by omega) (by omega)) (L _ rfl)) ⟨rfl, rfl, rfl, rfl, trivial⟩ trivial ?_
  refine sw (core_not (L _ rfl)) ⟨rfl, trivial⟩ trivial ?_
  refine sw (core_move (L _ rfl)) ⟨rfl, trivial⟩ trivial ?_
  refine swg (g := 18) rfl rfl (core_loadP Tryd.isAgg24 Tryd.sizeOf24 (by rfl) (by exact (.cons (.cons .nil))) rfl (L _ rfl)) rfl ⟨rfl, trivial⟩ ⟨rfl, trivial⟩ ?_
  refine swg (g := 18) rfl rfl (core_call (E := E) hG hX Tryd.call17 rfl hN (risZ a (by omega)) (L _ rfl)) rfl ⟨rfl, trivial⟩ trivial ?_
  refine swg (g := 18) rfl rfl (core_not (L _ rfl)) rfl ⟨rfl, trivial⟩ trivial ?_
  refine sw (core_pick_f rfl (L _ rfl)) ⟨rfl, rfl, trivial⟩ trivial ?_
  refine sw (core_move (L _ rfl)) ⟨rfl, trivial⟩ trivial ?_
  refine swg (g := 23) rfl rfl (core_loadP Tryd.isAgg24 Tryd.sizeOf24 (by rfl) (by exact (.cons (.cons .nil))) rfl (L _ rfl)) rfl ⟨rfl, trivial⟩ ⟨rfl, trivial⟩ ?_
  refine swg (g := 23) rfl rfl (core_call (E := E) hG hX Tryd.call17 rfl hN (risZ 0 (by omega)) (L _ rfl)) rfl ⟨rfl, trivial⟩ trivial ?_
  refine swg (g := 23) rfl rfl (core_not (L _ rfl)) rfl ⟨rfl, trivial⟩ trivial ?_
  refine sw (core_pick_f rfl (L _ rfl)) ⟨rfl, rfl, trivial⟩ trivial ?_
  refine sw (core_move (L _ rfl)) ⟨rfl, trivial⟩ trivial ?_
  refine swg (g := 28) rfl rfl (core_loadP Tryd.isAgg24 Tryd.sizeOf24 (by rfl) (by exact (.cons (.cons .nil))) rfl (L _ rfl)) rfl ⟨rfl, trivial⟩ ⟨rfl, trivial⟩ ?_
  refine swg (g := 28) rfl rfl (core_call (E := E) hG hX Tryd.call17 rfl hN (risZ c (by omega)) (L _ rfl)) rfl ⟨rfl, trivial⟩ trivial ?_
  refine swg (g := 28) rfl rfl (core_not (L _ rfl)) rfl ⟨rfl, trivial⟩ trivial ?_
  refine sw (core_pick_f rfl (L _ rfl)) ⟨rfl, rfl, trivial⟩ trivial ?_
  refine seq_nil ⟨[(3, _), (4, _), (5, _), (32, _)], [(3, _), (4, _), (5, _)], ⟨rfl, rfl, rfl, rfl, trivial⟩, ⟨rfl, rfl, rfl, trivial⟩, ?_⟩
  refine ex_if rfl (fun hx => ?_) (fun hx => ?_)
  · cases hx
  · refine ex_skip (show Exec _ _ _ _ _ from ?_)
    refine exr ?_
    refine sw (core_loadP Tryd.isAgg24 Tryd.sizeOf24 (by rfl) (by exact (.cons (.cons .nil))) rfl (L _ rfl)) ⟨rfl, trivial⟩ ⟨rfl, trivial⟩ ?_
    refine sw (core_loadP Tryd.isAgg24 Tryd.sizeOf24 (by rfl) (by exact (.cons (.cons .nil))) rfl (L _ rfl)) ⟨rfl, trivial⟩ ⟨rfl, trivial⟩ ?_
    refine sw (core_call (E := E) hG hX Tryd.call31 rfl hN (divZ0 a (by omega)) (L _ rfl)) ⟨rfl, rfl, trivial⟩ trivial ?_
    refine sw (core_move (L _ rfl)) ⟨rfl, trivial⟩ trivial ?_
    refine sw (core_extract rfl (L _ rfl)) ⟨rfl, trivial⟩ trivial ?_
    refine sw (core_extract rfl (L _ rfl)) ⟨rfl, trivial⟩ trivial ?_
    refine sw (core_extract rfl (L _ rfl)) ⟨rfl, trivial⟩ trivial ?_
    refine swb (core_alloc (k := 7) (n := 2) Tryd.zeroValue24 (.cons rfl (.cons rfl .nil)) rfl (P0 _ rfl) (L _ rfl)) trivial trivial ⟨rfl, rfl⟩ ?_
    refine swb (core_alloc (k := 8) (n := 2) Tryd.zeroValue24 (.cons rfl (.cons rfl .nil)) rfl (P0 _ rfl) (L _ rfl)) trivial trivial ⟨rfl, rfl⟩ ?_
    refine sb (core_storeM Tryd.sizeOf24 (by rfl) (.pagg (.cons (.cons .nil))) rfl (.put (.put .here))) ⟨rfl, rfl, trivial⟩ ⟨rfl, trivial⟩ ?_
    refine sb (core_storeM Tryd.sizeOf24 (by rfl) (.pagg (.cons (.cons .nil))) rfl (.put (.put .here))) ⟨rfl, rfl, trivial⟩ ⟨rfl, trivial⟩ ?_
    refine sw (core_assign (L _ rfl)) ⟨rfl, trivial⟩ trivial ?_
    refine seq_nil ⟨[(3, _), (4, _), (5, _), (7, _), (8, _), (9, _)], [(3, _), (4, _), (5, _), (7, _), (8, _)], ⟨rfl, rfl, rfl, rfl, rfl, rfl, trivial⟩, ⟨rfl, rfl, rfl, rfl, rfl, trivial⟩, ?_⟩
    refine ex_seq ?_
    refine exr ?_
    refine sw (core_loadP Tryd.isAgg24 Tryd.sizeOf24 (by rfl) (by exact (.cons (.cons .nil))) rfl (L _ rfl)) ⟨rfl, trivial⟩ ⟨rfl, trivial⟩ ?_
    refine sw (core_call (E := E) hG hX Tryd.call23 rfl hN (signZ 0 (by omega)) (L _ rfl)) ⟨rfl, trivial⟩ trivial ?_
    refine sw (core_eql (L _ rfl)) ⟨rfl, rfl, trivial⟩ trivial ?_
    refine seq_nil ⟨[(3, _), (4, _), (5, _), (7, _), (8, _), (9, _), (43, _)], [(3, _), (4, _), (5, _), (7, _), (8, _)], ⟨rfl, rfl, rfl, rfl, rfl, rfl, rfl, trivial⟩, ⟨rfl, rfl, rfl, rfl, rfl, trivial⟩, ?_⟩
    refine ex_if rfl (fun hs => ?_) (fun hs => ?_)
    · refine exr ?_
      refine sw (core_call (E := E) hG hX Tryd.call13 rfl hN sane_says (L _ rfl)) trivial trivial ?_
      refine sw (core_move (L _ rfl)) ⟨rfl, trivial⟩ trivial ?_
      refine swg (g := 45) rfl rfl (core_move (L _ rfl)) rfl ⟨rfl, trivial⟩ trivial ?_
      refine swg (g := 45) rfl rfl (core_eql (L _ rfl)) rfl ⟨rfl, rfl, trivial⟩ trivial ?_
      refine sw (core_pick_t rfl (L _ rfl)) ⟨rfl, rfl, trivial⟩ trivial ?_
      refine sw (core_assign (L _ rfl)) ⟨rfl, trivial⟩ trivial ?_
      refine seq_nil ⟨[(6, _)], [], ⟨rfl, trivial⟩, trivial, ?_⟩
      refine ex_ret ?_
      refine ⟨.inr rfl, ResVs.cast (.cons (.tmp rfl) .nil) ?_⟩
      rfl
    · exact absurd rfl (df hs)

set_option maxRecDepth 100000 in
set_option maxHeartbeats 4000000 in
theorem div_z1 (a b c : Int) (ha : nw a ≤ 60) (hb : nw b ≤ 60) (hc : nw c ≤ 60) (h0 : b ≠ 0) : Says E 8 [pZ a, pZ b, pZ c] (bZ true) := by
  refine says_of (xs := [bZ true]) Tryd.func8 rfl Tryd.ntmps8 Tryd.results8 (by simp) fun F hG hX0 hnt hdf P0 => ?_
  have L := ltn hnt
  have hX : ∀ b, F.X b → E.ng ≤ b := fun b h => absurd h (hX0 b)
  have hN := ng_le hG
  obtain ⟨r0, r1⟩ := emod_bd (a := a) h0
  have k1 := nw_ediv (a := a) (b := b)
  have k2 := nw_emod (a := a) h0
  have k3 := nw_mul (a / b) b
  have k4 := nw_add (a / b * b) (a % b)
  have k5 := nw_mul a b
  have k6 := nw_add (a * b) c
  have k7 := nw_ediv (a := a * b + c) (b := b)
  have k8 := nw_emod (a := a * b + c) h0
  have ka : nw (b.natAbs : Int) ≤ nw b := nw_mono (by omega)
  have e0 : a = a / b * b + a % b := by rw [Int.mul_comm]; exact (Int.mul_ediv_add_emod a b).symm
  have s1 := sign3 (a % b)
  have s2 := sign3 (a % b - b.natAbs)
  have s3 := sign3 c
  have s4 := sign3 (c - b.natAbs)
  have s5 := sign3 b
  rw [← cz] at s2 s4
  refine exr ?_
  refine swb (core_box (k := 3) (n := 2) (.pagg (.cons (.cons .nil))) rfl rfl (P0 _ rfl) (L _ rfl)) ⟨rfl, trivial⟩ trivial ⟨rfl, rfl⟩ ?_
  refine swb (core_box (k := 4) (n := 2) (.pagg (.cons (.cons .nil))) rfl rfl (P0 _ rfl) (L _ rfl)) ⟨rfl, trivial⟩ trivial ⟨rfl, rfl⟩ ?_
  refine swb (core_box (k := 5) (n := 2) (.pagg (.cons (.cons .nil))) rfl rfl (P0 _ rfl) (L _ rfl)) ⟨rfl, trivial⟩ trivial ⟨rfl, rfl⟩ ?_
  refine sw (core_assign (L _ rfl)) ⟨rfl, trivial⟩ trivial ?_
  refine seq_nil ⟨[(3, _), (4, _), (5, _)], [(3, _), (4, _), (5, _)], ⟨rfl, rfl, rfl, trivial⟩, ⟨rfl, rfl, rfl, trivial⟩, ?_⟩
  refine ex_seq ?_
  refine exr ?_
  refine sw (core_loadP Tryd.isAgg24 Tryd.sizeOf24 (by rfl) (by exact (.cons (.cons .nil))) rfl (L _ rfl)) ⟨rfl, trivial⟩ ⟨rfl, trivial⟩ ?_
  refine sw (core_loadP Tryd.isAgg24 Tryd.sizeOf24 (by rfl) (by exact (.cons (.cons .nil))) rfl (L _ rfl)) ⟨rfl, trivial⟩ ⟨rfl, trivial⟩ ?_
  refine sw (core_loadP Tryd.isAgg24 Tryd.sizeOf24 (by rfl) (by exact (.cons (.cons .nil))) rfl (L _ rfl)) ⟨rfl, trivial⟩ ⟨rfl, trivial⟩ ?_
  refine sw (core_call (E := E) hG hX Tryd.call12 rfl hN (lshortZ (by omega) (by omega) (by omega)) (L _ rfl)) ⟨rfl, rfl, rfl, rfl, trivial⟩ trivial ?_
  refine sw (core_not (L _ rfl)) ⟨rfl, trivial⟩ trivial ?_
  refine sw (core_move (L _ rfl)) ⟨rfl, trivial⟩ trivial ?_
  refine swg (g := 18) rfl rfl (core_loadP Tryd.isAgg24 Tryd.sizeOf24 (by rfl) (by exact (.cons (.cons .nil))) rfl (L _ rfl)) rfl ⟨rfl, trivial⟩ ⟨rfl, trivial⟩ ?_
  refine swg (g := 18) rfl rfl (core_call (E := E) hG hX Tryd.call17 rfl hN (risZ a (by omega)) (L _ rfl)) rfl ⟨rfl, trivial⟩ trivial ?_
  refine swg (g := 18) rfl rfl (core_not (L _ rfl)) rfl ⟨rfl, trivial⟩ trivial ?_
  refine sw (core_pick_f rfl (L _ rfl)) ⟨rfl, rfl, trivial⟩ trivial ?_
  refine sw (core_move (L _ rfl)) ⟨rfl, trivial⟩ trivial ?_
  refine swg (g := 23) rfl rfl (core_loadP Tryd.isAgg24 Tryd.sizeOf24 (by rfl) (by exact (.cons (.cons .nil))) rfl (L _ rfl)) rfl ⟨rfl, trivial⟩ ⟨rfl, trivial⟩ ?_
  refine swg (g := 23) rfl rfl (core_call (E := E) hG hX Tryd.call17 rfl hN (risZ b (by omega)) (L _ rfl)) rfl ⟨rfl, trivial⟩ trivial ?_
  refine swg (g := 23) rfl rfl (core_not (L _ rfl)) rfl ⟨rfl, trivial⟩ trivial ?_
  refine sw (core_pick_f rfl (L _ rfl)) ⟨rfl, rfl, trivial⟩ trivial ?_
  refine sw (core_move (L _ rfl)) ⟨rfl, trivial⟩ trivial ?_
  refine swg (g := 28) rfl rfl (core_loadP Tryd.isAgg24 Tryd.sizeOf24 (by rfl) (by exact (.cons (.cons .nil))) rfl (L _ rfl)) rfl ⟨rfl, trivial⟩ ⟨rfl, trivial⟩ ?_
  refine swg (g := 28) rfl rfl (core_call (E := E) hG hX Tryd.call17 rfl hN (risZ c (by omega)) (L _ rfl)) rfl ⟨rfl, trivial⟩ trivial ?_
  refine swg (g := 28) rfl rfl (core_not (L _ rfl)) rfl ⟨rfl, trivial⟩ trivial ?_
  refine sw (core_pick_f rfl (L _ rfl)) ⟨rfl, rfl, trivial⟩ trivial ?_
  refine seq_nil ⟨[(3, _), (4, _), (5, _), (32, _)], [(3, _), (4, _), (5, _)], ⟨rfl, rfl, rfl, rfl, trivial⟩, ⟨rfl, rfl, rfl, trivial⟩, ?_⟩
  refine ex_if rfl (fun hx => ?_) (fun hx => ?_)
  · cases hx
  · refine ex_skip (show Exec _ _ _ _ _ from ?_)
    refine exr ?_
    refine sw (core_loadP Tryd.isAgg24 Tryd.sizeOf24 (by rfl) (by exact (.cons (.cons .nil))) rfl (L _ rfl)) ⟨rfl, trivial⟩ ⟨rfl, trivial⟩ ?_
    refine sw (core_loadP Tryd.isAgg24 Tryd.sizeOf24 (by rfl) (by exact (.cons (.cons .nil))) rfl (L _ rfl)) ⟨rfl, trivial⟩ ⟨rfl, trivial⟩ ?_
    refine sw (core_call (E := E) hG hX Tryd.call31 rfl hN (divZ a b (by omega) (by omega) h0) (L _ rfl)) ⟨rfl, rfl, trivial⟩ trivial ?_
    refine sw (core_move (L _ rfl)) ⟨rfl, trivial⟩ trivial ?_
    refine sw (core_extract rfl (L _ rfl)) ⟨rfl, trivial⟩ trivial ?_
    refine sw (core_extract rfl (L _ rfl)) ⟨rfl, trivial⟩ trivial ?_
    refine sw (core_extract rfl (L _ rfl)) ⟨rfl, trivial⟩ trivial ?_
    refine swb (core_alloc (k := 7) (n := 2) Tryd.zeroValue24 (.cons rfl (.cons rfl .nil)) rfl (P0 _ rfl) (L _ rfl)) trivial trivial ⟨rfl, rfl⟩ ?_
    refine swb (core_alloc (k := 8) (n := 2) Tryd.zeroValue24 (.cons rfl (.cons rfl .nil)) rfl (P0 _ rfl) (L _ rfl)) trivial trivial ⟨rfl, rfl⟩ ?_
    refine sb (core_storeM Tryd.sizeOf24 (by rfl) (.pagg (.cons (.cons .nil))) rfl (.put (.put .here))) ⟨rfl, rfl, trivial⟩ ⟨rfl, trivial⟩ ?_
    refine sb (core_storeM Tryd.sizeOf24 (by rfl) (.pagg (.cons (.cons .nil))) rfl (.put (.put .here))) ⟨rfl, rfl, trivial⟩ ⟨rfl, trivial⟩ ?_
    refine sw (core_assign (L _ rfl)) ⟨rfl, trivial⟩ trivial ?_
    refine seq_nil ⟨[(3, _), (4, _), (5, _), (7, _), (8, _), (9, _)], [(3, _), (4, _), (5, _), (7, _), (8, _)], ⟨rfl, rfl, rfl, rfl, rfl, rfl, trivial⟩, ⟨rfl, rfl, rfl, rfl, rfl, trivial⟩, ?_⟩
    refine ex_seq ?_
    refine exr ?_
    refine sw (core_loadP Tryd.isAgg24 Tryd.sizeOf24 (by rfl) (by exact (.cons (.cons .nil))) rfl (L _ rfl)) ⟨rfl, trivial⟩ ⟨rfl, trivial⟩ ?_
    refine sw (core_call (E := E) hG hX Tryd.call23 rfl hN (signZ b (by omega)) (L _ rfl)) ⟨rfl, trivial⟩ trivial ?_
    refine sw (core_eql (L _ rfl)) ⟨rfl, rfl, trivial⟩ trivial ?_
    refine seq_nil ⟨[(3, _), (4, _), (5, _), (7, _), (8, _), (9, _), (43, _)], [(3, _), (4, _), (5, _), (7, _), (8, _)], ⟨rfl, rfl, rfl, rfl, rfl, rfl, rfl, trivial⟩, ⟨rfl, rfl, rfl, rfl, rfl, trivial⟩, ?_⟩
    refine ex_if rfl (fun hs => ?_) (fun hs => ?_)
    · have hs := dt hs
      exact absurd hs (by omega)
    · refine ex_skip (show Exec _ _ _ _ _ from ?_)
      refine ex_seq ?_
      refine exd (by rfl) ?_
      refine sw (core_move (L _ rfl)) ⟨rfl, trivial⟩ trivial ?_
      refine sw (core_neq (L _ rfl)) ⟨rfl, rfl, trivial⟩ trivial ?_
      refine sw (core_move (L _ rfl)) ⟨rfl, trivial⟩ trivial ?_
      refine swg (g := 51) rfl rfl (core_loadP Tryd.isAgg24 Tryd.sizeOf24 (by rfl) (by exact (.cons (.cons .nil))) rfl (L _ rfl)) rfl ⟨rfl, trivial⟩ ⟨rfl, trivial⟩ ?_
      refine swg (g := 51) rfl rfl (core_loadP Tryd.isAgg24 Tryd.sizeOf24 (by rfl) (by exact (.cons (.cons .nil))) rfl (L _ rfl)) rfl ⟨rfl, trivial⟩ ⟨rfl, trivial⟩ ?_
      refine swg (g := 51) rfl rfl (core_loadP Tryd.isAgg24 Tryd.sizeOf24 (by rfl) (by exact (.cons (.cons .nil))) rfl (L _ rfl)) rfl ⟨rfl, trivial⟩ ⟨rfl, trivial⟩ ?_
      refine swg (g := 51) rfl rfl (core_call (E := E) hG hX Tryd.call39 rfl hN (mulZ (a / b) b (by omega) (by omega)) (L _ rfl)) rfl ⟨rfl, rfl, trivial⟩ trivial ?_
      refine swg (g := 51) rfl rfl (core_loadP Tryd.isAgg24 Tryd.sizeOf24 (by rfl) (by exact (.cons (.cons .nil))) rfl (L _ rfl)) rfl ⟨rfl, trivial⟩ ⟨rfl, trivial⟩ ?_
      refine swg (g := 51) rfl rfl (core_call (E := E) hG hX Tryd.call35 rfl hN (addZ (a / b * b) (a % b) (by omega) (by omega)) (L _ rfl)) rfl ⟨rfl, rfl, trivial⟩ trivial ?_
      refine swg (g := 51) rfl rfl (core_call (E := E) hG hX Tryd.call18 rfl hN (sameT e0 (by omega)) (L _ rfl)) rfl ⟨rfl, rfl, trivial⟩ trivial ?_
      refine swg (g := 51) rfl rfl (core_not (L _ rfl)) rfl ⟨rfl, trivial⟩ trivial ?_
      refine sw (core_pick_f rfl (L _ rfl)) ⟨rfl, rfl, trivial⟩ trivial ?_
      refine sw (core_move (L _ rfl)) ⟨rfl, trivial⟩ trivial ?_
      refine swg (g := 61) rfl rfl (core_loadP Tryd.isAgg24 Tryd.sizeOf24 (by rfl) (by exact (.cons (.cons .nil))) rfl (L _ rfl)) rfl ⟨rfl, trivial⟩ ⟨rfl, trivial⟩ ?_
      refine swg (g := 61) rfl rfl (core_call (E := E) hG hX Tryd.call23 rfl hN (signZ (a % b) (by omega)) (L _ rfl)) rfl ⟨rfl, trivial⟩ trivial ?_
      refine swg (g := 61) rfl rfl (core_lss (L _ rfl)) rfl ⟨rfl, rfl, trivial⟩ trivial ?_
      refine sw (core_pick_f rfl (L _ rfl)) ⟨rfl, rfl, trivial⟩ trivial ?_
      refine sw (core_move (L _ rfl)) ⟨rfl, trivial⟩ trivial ?_
      refine swg (g := 66) rfl (decide_eq_false (by omega)) (core_loadP Tryd.isAgg24 Tryd.sizeOf24 (by rfl) (by exact (.cons (.cons .nil))) rfl (L _ rfl)) rfl ⟨rfl, trivial⟩ ⟨rfl, trivial⟩ ?_
      refine swg (g := 66) rfl (decide_eq_false (by omega)) (core_loadP Tryd.isAgg24 Tryd.sizeOf24 (by rfl) (by exact (.cons (.cons .nil))) rfl (L _ rfl)) rfl ⟨rfl, trivial⟩ ⟨rfl, trivial⟩ ?_
      refine swg (g := 66) rfl (decide_eq_false (by omega)) (core_call (E := E) hG hX Tryd.call29 rfl hN (absZ b (by omega)) (L _ rfl)) rfl ⟨rfl, trivial⟩ trivial ?_
      refine swg (g := 66) rfl (decide_eq_false (by omega)) (core_call (E := E) hG hX Tryd.call25 rfl hN (cmpZ (a % b) b.natAbs (by omega) (by omega)) (L _ rfl)) rfl ⟨rfl, rfl, trivial⟩ trivial ?_
      refine swg (g := 66) rfl (decide_eq_false (by omega)) (core_geq (L _ rfl)) rfl ⟨rfl, rfl, trivial⟩ trivial ?_
      refine sw (core_pick_f (decide_eq_false (by omega)) (L _ rfl)) ⟨rfl, rfl, trivial⟩ trivial ?_
      refine seq_nil ⟨aoks [⟨[9], [], [49], []⟩, ⟨[49], [], [50], []⟩, ⟨[50], [], [51], []⟩, ⟨[51, 3], [3], [52], []⟩, ⟨[51, 7], [7], [53], []⟩, ⟨[51, 4], [4], [54], []⟩, ⟨[51, 53, 54], [], [55], []⟩, ⟨[51, 8], [8], [56], []⟩, ⟨[51, 55, 56], [], [57], []⟩, ⟨[51, 52, 57], [], [58], []⟩, ⟨[51, 58], [], [59], []⟩, ⟨[51, 59], [], [60], []⟩, ⟨[60], [], [61], []⟩, ⟨[61, 8], [8], [62], []⟩, ⟨[61, 62], [], [63], []⟩, ⟨[61, 63], [], [64], []⟩, ⟨[61, 64], [], [65], []⟩, ⟨[65], [], [66], []⟩, ⟨[66, 8], [8], [67], []⟩, ⟨[66, 4], [4], [68], []⟩, ⟨[66, 68], [], [69], []⟩, ⟨[66, 67, 69], [], [70], []⟩, ⟨[66, 70], [], [71], []⟩, ⟨[66, 71], [], [72], []⟩] (by rfl) (by rfl) (by decide), [(3, _), (4, _), (5, _), (72, _)], [(3, _), (4, _), (5, _)], ⟨rfl, rfl, rfl, rfl, trivial⟩, ⟨rfl, rfl, rfl, trivial⟩, ?_⟩
      refine ex_if rfl (fun hy => ?_) (fun hy => ?_)
      · have hy := dt hy
        exact absurd hy (by omega)
      · refine ex_skip (show Exec _ _ _ _ _ from ?_)
        refine ex_seq ?_
        refine exmd (sl := [(82, vb (decide (c < 0 ∨ (b.natAbs : Int) ≤ c)))]) (sl0 := [(3, _), (4, _), (5, _)]) (hb := []) (hb0 := [(3, _), (4, _), (5, _)]) (by rfl) ⟨rfl, rfl, rfl, trivial⟩ ⟨rfl, rfl, rfl, trivial⟩ ?_ ?_
        · by_cases hc0 : c.sign < 0
          · refine sw (core_loadP Tryd.isAgg24 Tryd.sizeOf24 (by rfl) (by exact (.cons (.cons .nil))) rfl (L _ rfl)) ⟨rfl, trivial⟩ ⟨rfl, trivial⟩ ?_
            refine sw (core_call (E := E) hG hX Tryd.call23 rfl hN (signZ c (by omega)) (L _ rfl)) ⟨rfl, trivial⟩ trivial ?_
            refine sw (core_lss (L _ rfl)) ⟨rfl, rfl, trivial⟩ trivial ?_
            refine sw (core_move (L _ rfl)) ⟨rfl, trivial⟩ trivial ?_
            refine swn (g := 76) rfl (decide_eq_true hc0) (L _ rfl) rfl ?_
            refine swn (g := 76) rfl (decide_eq_true hc0) (L _ rfl) rfl ?_
            refine swn (g := 76) rfl (decide_eq_true hc0) (L _ rfl) rfl ?_
            refine swn (g := 76) rfl (decide_eq_true hc0) (L _ rfl) rfl ?_
            refine swn (g := 76) rfl (decide_eq_true hc0) (L _ rfl) rfl ?_
            refine sw (core_pick_t (decide_eq_true hc0) (L _ rfl)) ⟨rfl, rfl, trivial⟩ trivial ?_
            exact seq_nil ⟨aoks [⟨[5], [5], [73], []⟩, ⟨[73], [], [74], []⟩, ⟨[74], [], [75], []⟩, ⟨[75], [], [76], []⟩, ⟨[76], [], [77], []⟩, ⟨[76], [], [78], []⟩, ⟨[76], [], [79], []⟩, ⟨[76], [], [80], []⟩, ⟨[76], [], [81], []⟩, ⟨[76], [], [82], []⟩] (by rfl) (by rfl) (by decide), ⟨ob rfl (decide_eq_true (by omega)).symm, rfl, rfl, rfl, trivial⟩, ⟨rfl, rfl, rfl, trivial⟩⟩
          · refine sw (core_loadP Tryd.isAgg24 Tryd.sizeOf24 (by rfl) (by exact (.cons (.cons .nil))) rfl (L _ rfl)) ⟨rfl, trivial⟩ ⟨rfl, trivial⟩ ?_
            refine sw (core_call (E := E) hG hX Tryd.call23 rfl hN (signZ c (by omega)) (L _ rfl)) ⟨rfl, trivial⟩ trivial ?_
            refine sw (core_lss (L _ rfl)) ⟨rfl, rfl, trivial⟩ trivial ?_
            refine sw (core_move (L _ rfl)) ⟨rfl, trivial⟩ trivial ?_
            refine swg (g := 76) rfl (decide_eq_false hc0) (core_loadP Tryd.isAgg24 Tryd.sizeOf24 (by rfl) (by exact (.cons (.cons .nil))) rfl (L _ rfl)) rfl ⟨rfl, trivial⟩ ⟨rfl, trivial⟩ ?_
            refine swg (g := 76) rfl (decide_eq_false hc0) (core_loadP Tryd.isAgg24 Tryd.sizeOf24 (by rfl) (by exact (.cons (.cons .nil))) rfl (L _ rfl)) rfl ⟨rfl, trivial⟩ ⟨rfl, trivial⟩ ?_
            refine swg (g := 76) rfl (decide_eq_false hc0) (core_call (E := E) hG hX Tryd.call29 rfl hN (absZ b (by omega)) (L _ rfl)) rfl ⟨rfl, trivial⟩ trivial ?_
            refine swg (g := 76) rfl (decide_eq_false hc0) (core_call (E := E) hG hX Tryd.call25 rfl hN (cmpZ c b.natAbs (by omega) (by omega)) (L _ rfl)) rfl ⟨rfl, rfl, trivial⟩ trivial ?_
            refine swg (g := 76) rfl (decide_eq_false hc0) (core_geq (L _ rfl)) rfl ⟨rfl, rfl, trivial⟩ trivial ?_
            refine sw (core_pick_f (decide_eq_false hc0) (L _ rfl)) ⟨rfl, rfl, trivial⟩ trivial ?_
            exact seq_nil ⟨aoks [⟨[5], [5], [73], []⟩, ⟨[73], [], [74], []⟩, ⟨[74], [], [75], []⟩, ⟨[75], [], [76], []⟩, ⟨[76, 5], [5], [77], []⟩, ⟨[76, 4], [4], [78], []⟩, ⟨[76, 78], [], [79], []⟩, ⟨[76, 77, 79], [], [80], []⟩, ⟨[76, 80], [], [81], []⟩, ⟨[76, 81], [], [82], []⟩] (by rfl) (by rfl) (by decide), ⟨ob rfl (dec_eq (by omega)), rfl, rfl, rfl, trivial⟩, ⟨rfl, rfl, rfl, trivial⟩⟩
        refine ex_if rfl (fun hw => ?_) (fun hw => ?_)
        · refine exr ?_
          refine sw (core_call (E := E) hG hX Tryd.call13 rfl hN sane_says (L _ rfl)) trivial trivial ?_
          refine sw (core_assign (L _ rfl)) ⟨rfl, trivial⟩ trivial ?_
          refine seq_nil ⟨[(6, _)], [], ⟨rfl, trivial⟩, trivial, ?_⟩
          refine ex_ret ?_
          refine ⟨.inr rfl, ResVs.cast (.cons (.tmp rfl) .nil) ?_⟩
          rfl
        · have hw := df hw
          obtain ⟨e1, e2⟩ := div_back (a := a) (c := c) h0 (by omega) (by omega)
          refine ex_skip (show Exec _ _ _ _ _ from ?_)
          refine exd (by rfl) ?_
          refine sw (core_loadP Tryd.isAgg24 Tryd.sizeOf24 (by rfl) (by exact (.cons (.cons .nil))) rfl (L _ rfl)) ⟨rfl, trivial⟩ ⟨rfl, trivial⟩ ?_
          refine sw (core_loadP Tryd.isAgg24 Tryd.sizeOf24 (by rfl) (by exact (.cons (.cons .nil))) rfl (L _ rfl)) ⟨rfl, trivial⟩ ⟨rfl, trivial⟩ ?_
          refine sw (core_call (E := E) hG hX Tryd.call39 rfl hN (mulZ a b (by omega) (by omega)) (L _ rfl)) ⟨rfl, rfl, trivial⟩ trivial ?_
          refine sw (core_loadP Tryd.isAgg24 Tryd.sizeOf24 (by rfl) (by exact (.cons (.cons .nil))) rfl (L _ rfl)) ⟨rfl, trivial⟩ ⟨rfl, trivial⟩ ?_
          refine sw (core_call (E := E) hG hX Tryd.call35 rfl hN (addZ (a * b) c (by omega) (by omega)) (L _ rfl)) ⟨rfl, rfl, trivial⟩ trivial ?_
          refine sw (core_loadP Tryd.isAgg24 Tryd.sizeOf24 (by rfl) (by exact (.cons (.cons .nil))) rfl (L _ rfl)) ⟨rfl, trivial⟩ ⟨rfl, trivial⟩ ?_
          refine sw (core_call (E := E) hG hX Tryd.call31 rfl hN (divZ (a * b + c) b (by omega) (by omega) h0) (L _ rfl)) ⟨rfl, rfl, trivial⟩ trivial ?_
          refine sw (core_move (L _ rfl)) ⟨rfl, trivial⟩ trivial ?_
          refine sw (core_extract rfl (L _ rfl)) ⟨rfl, trivial⟩ trivial ?_
          refine sw (core_extract rfl (L _ rfl)) ⟨rfl, trivial⟩ trivial ?_
          refine sw (core_extract rfl (L _ rfl)) ⟨rfl, trivial⟩ trivial ?_
          refine swb (core_alloc (k := 10) (n := 2) Tryd.zeroValue24 (.cons rfl (.cons rfl .nil)) rfl (P0 _ rfl) (L _ rfl)) trivial trivial ⟨rfl, rfl⟩ ?_
          refine swb (core_alloc (k := 11) (n := 2) Tryd.zeroValue24 (.cons rfl (.cons rfl .nil)) rfl (P0 _ rfl) (L _ rfl)) trivial trivial ⟨rfl, rfl⟩ ?_
          refine sb (core_storeM Tryd.sizeOf24 (by rfl) (.pagg (.cons (.cons .nil))) rfl (.put (.put .here))) ⟨rfl, rfl, trivial⟩ ⟨rfl, trivial⟩ ?_
          refine sb (core_storeM Tryd.sizeOf24 (by rfl) (.pagg (.cons (.cons .nil))) rfl (.put (.put .here))) ⟨rfl, rfl, trivial⟩ ⟨rfl, trivial⟩ ?_
          refine sw (core_assign (L _ rfl)) ⟨rfl, trivial⟩ trivial ?_
          refine seq_nil ⟨aok rfl rfl, [(3, _), (5, _), (10, _), (11, _), (12, _)], [(3, _), (5, _), (10, _), (11, _)], ⟨rfl, rfl, rfl, rfl, rfl, trivial⟩, ⟨rfl, rfl, rfl, rfl, trivial⟩, ?_⟩
          refine exr ?_
          refine sw (core_call (E := E) hG hX Tryd.call13 rfl hN sane_says (L _ rfl)) trivial trivial ?_
          refine sw (core_move (L _ rfl)) ⟨rfl, trivial⟩ trivial ?_
          refine swg (g := 96) rfl rfl (core_move (L _ rfl)) rfl ⟨rfl, trivial⟩ trivial ?_
          refine swg (g := 96) rfl rfl (core_eql (L _ rfl)) rfl ⟨rfl, rfl, trivial⟩ trivial ?_
          refine sw (core_pick_t rfl (L _ rfl)) ⟨rfl, rfl, trivial⟩ trivial ?_
          refine sw (core_move (L _ rfl)) ⟨rfl, trivial⟩ trivial ?_
          refine swg (g := 100) rfl rfl (core_loadP Tryd.isAgg24 Tryd.sizeOf24 (by rfl) (by exact (.cons (.cons .nil))) rfl (L _ rfl)) rfl ⟨rfl, trivial⟩ ⟨rfl, trivial⟩ ?_
          refine swg (g := 100) rfl rfl (core_loadP Tryd.isAgg24 Tryd.sizeOf24 (by rfl) (by exact (.cons (.cons .nil))) rfl (L _ rfl)) rfl ⟨rfl, trivial⟩ ⟨rfl, trivial⟩ ?_
          refine swg (g := 100) rfl rfl (core_call (E := E) hG hX Tryd.call18 rfl hN (sameT e1 (by omega)) (L _ rfl)) rfl ⟨rfl, rfl, trivial⟩ trivial ?_
          refine sw (core_pick_t rfl (L _ rfl)) ⟨rfl, rfl, trivial⟩ trivial ?_
          refine sw (core_move (L _ rfl)) ⟨rfl, trivial⟩ trivial ?_
          refine swg (g := 105) rfl rfl (core_loadP Tryd.isAgg24 Tryd.sizeOf24 (by rfl) (by exact (.cons (.cons .nil))) rfl (L _ rfl)) rfl ⟨rfl, trivial⟩ ⟨rfl, trivial⟩ ?_
          refine swg (g := 105) rfl rfl (core_loadP Tryd.isAgg24 Tryd.sizeOf24 (by rfl) (by exact (.cons (.cons .nil))) rfl (L _ rfl)) rfl ⟨rfl, trivial⟩ ⟨rfl, trivial⟩ ?_
          refine swg (g := 105) rfl rfl (core_call (E := E) hG hX Tryd.call18 rfl hN (sameT e2 (by omega)) (L _ rfl)) rfl ⟨rfl, rfl, trivial⟩ trivial ?_
          refine sw (core_pick_t rfl (L _ rfl)) ⟨rfl, rfl, trivial⟩ trivial ?_
          refine sw (core_assign (L _ rfl)) ⟨rfl, trivial⟩ trivial ?_
          refine seq_nil ⟨[(6, _)], [], ⟨rfl, trivial⟩, trivial, ?_⟩
          refine ex_ret ?_
          refine ⟨.inr rfl, ResVs.cast (.cons (.tmp rfl) .nil) ?_⟩
          rfl

theorem div_z (a b c : Int) (ha : nw a ≤ 60) (hb : nw b ≤ 60) (hc : nw c ≤ 60) : Says E 8 [pZ a, pZ b, pZ c] (bZ true) := by
  by_cases h0 : b = 0
  · exact div_z0 a b c ha hb hc h0
  · exact div_z1 a b c ha hb hc h0
set_option maxRecDepth 100000 in
set_option maxHeartbeats 4000000 in
theorem div_no (m n l : Bool) (ws vs us : List Int) (hn : ¬ (((ws.length : Int) ≤ 60 ∧ (vs.length : Int) ≤ 60 ∧ (us.length : Int) ≤ 60) ∧ canon m ws = true ∧ canon n vs = true ∧ canon l us = true)) : Says E 8 [pI m ws, pI n vs, pI l us] (bZ true) := by
  refine says_of (xs := [bZ true]) Tryd.func8 rfl Tryd.ntmps8 Tryd.results8 (by simp) fun F hG hX0 hnt hdf P0 => ?_
  have L := ltn hnt
  have hX : ∀ b, F.X b → E.ng ≤ b := fun b h => absurd h (hX0 b)
  have hN := ng_le hG
  refine exr ?_
  refine swb (core_box (k := 3) (n := 2) (.pagg (.cons (.cons .nil))) rfl rfl (P0 _ rfl) (L _ rfl)) ⟨rfl, trivial⟩ trivial ⟨rfl, rfl⟩ ?_
  refine swb (core_box (k := 4) (n := 2) (.pagg (.cons (.cons .nil))) rfl rfl (P0 _ rfl) (L _ rfl)) ⟨rfl, trivial⟩ trivial ⟨rfl, rfl⟩ ?_
  refine swb (core_box (k := 5) (n := 2) (.pagg (.cons (.cons .nil))) rfl rfl (P0 _ rfl) (L _ rfl)) ⟨rfl, trivial⟩ trivial ⟨rfl, rfl⟩ ?_
  refine sw (core_assign (L _ rfl)) ⟨rfl, trivial⟩ trivial ?_
  refine seq_nil ⟨[(3, _), (4, _), (5, _)], [(3, _), (4, _), (5, _)], ⟨rfl, rfl, rfl, trivial⟩, ⟨rfl, rfl, rfl, trivial⟩, ?_⟩
  refine ex_seq ?_
  refine exm (sl := [(32, vb true)]) (sl0 := [(3, _), (4, _), (5, _)]) (hb := []) (hb0 := [(3, _), (4, _), (5, _)]) ⟨rfl, rfl, rfl, trivial⟩ ⟨rfl, rfl, rfl, trivial⟩ ?_ ?_
  · rcases p4 hn with h1 | ⟨h1, h2⟩ | ⟨h1, h2, h3⟩ | ⟨h1, h2, h3, h4⟩
    · refine sw (core_loadP Tryd.isAgg24 Tryd.sizeOf24 (by rfl) (by exact (.cons (.cons .nil))) rfl (L _ rfl)) ⟨rfl, trivial⟩ ⟨rfl, trivial⟩ ?_
      refine sw (core_loadP Tryd.isAgg24 Tryd.sizeOf24 (by rfl) (by exact (.cons (.cons .nil))) rfl (L _ rfl)) ⟨rfl, trivial⟩ ⟨rfl, trivial⟩ ?_
      refine sw (core_loadP Tryd.isAgg24 Tryd.sizeOf24 (by rfl) (by exact (.cons (.cons .nil))) rfl (L _ rfl)) ⟨rfl, trivial⟩ ⟨rfl, trivial⟩ ?_
      refine sw (core_call (E := E) hG hX Tryd.call12 rfl hN (lshort_says 60 m n l ws vs us) (L _ rfl)) ⟨rfl, rfl, rfl, rfl, trivial⟩ trivial ?_
      refine sw (core_not (L _ rfl)) ⟨rfl, trivial⟩ trivial ?_
      refine sw (core_move (L _ rfl)) ⟨rfl, trivial⟩ trivial ?_
      refine swn (g := 18) rfl (by simp [h1]) (L _ rfl) rfl ?_
      refine swn (g := 18) rfl (by simp [h1]) (L _ rfl) rfl ?_
      refine swn (g := 18) rfl (by simp [h1]) (L _ rfl) rfl ?_
      refine sw (core_pick_t (by simp [h1]) (L _ rfl)) ⟨rfl, rfl, trivial⟩ trivial ?_
      refine sw (core_move (L _ rfl)) ⟨rfl, trivial⟩ trivial ?_
      refine swn (g := 23) rfl (by simp [h1]) (L _ rfl) rfl ?_
      refine swn (g := 23) rfl (by simp [h1]) (L _ rfl) rfl ?_
      refine swn (g := 23) rfl (by simp [h1]) (L _ rfl) rfl ?_
      refine sw (core_pick_t rfl (L _ rfl)) ⟨rfl, rfl, trivial⟩ trivial ?_
      refine sw (core_move (L _ rfl)) ⟨rfl, trivial⟩ trivial ?_
      refine swn (g := 28) rfl (by simp [h1]) (L _ rfl) rfl ?_
      refine swn (g := 28) rfl (by simp [h1]) (L _ rfl) rfl ?_
      refine swn (g := 28) rfl (by simp [h1]) (L _ rfl) rfl ?_
      refine sw (core_pick_t rfl (L _ rfl)) ⟨rfl, rfl, trivial⟩ trivial ?_
      exact seq_nil ⟨⟨ob rfl rfl, rfl, rfl, rfl, trivial⟩, ⟨rfl, rfl, rfl, trivial⟩⟩
    · refine sw (core_loadP Tryd.isAgg24 Tryd.sizeOf24 (by rfl) (by exact (.cons (.cons .nil))) rfl (L _ rfl)) ⟨rfl, trivial⟩ ⟨rfl, trivial⟩ ?_
      refine sw (core_loadP Tryd.isAgg24 Tryd.sizeOf24 (by rfl) (by exact (.cons (.cons .nil))) rfl (L _ rfl)) ⟨rfl, trivial⟩ ⟨rfl, trivial⟩ ?_
      refine sw (core_loadP Tryd.isAgg24 Tryd.sizeOf24 (by rfl) (by exact (.cons (.cons .nil))) rfl (L _ rfl)) ⟨rfl, trivial⟩ ⟨rfl, trivial⟩ ?_
      refine sw (core_call (E := E) hG hX Tryd.call12 rfl hN (lshort_says 60 m n l ws vs us) (L _ rfl)) ⟨rfl, rfl, rfl, rfl, trivial⟩ trivial ?_
      refine sw (core_not (L _ rfl)) ⟨rfl, trivial⟩ trivial ?_
      refine sw (core_move (L _ rfl)) ⟨rfl, trivial⟩ trivial ?_
      refine swg (g := 18) rfl (by simp [h1]) (core_loadP Tryd.isAgg24 Tryd.sizeOf24 (by rfl) (by exact (.cons (.cons .nil))) rfl (L _ rfl)) rfl ⟨rfl, trivial⟩ ⟨rfl, trivial⟩ ?_
      refine swg (g := 18) rfl (by simp [h1]) (core_call (E := E) hG hX Tryd.call17 rfl hN (ris_says m ws (by omega)) (L _ rfl)) rfl ⟨rfl, trivial⟩ trivial ?_
      refine swg (g := 18) rfl (by simp [h1]) (core_not (L _ rfl)) rfl ⟨rfl, trivial⟩ trivial ?_
      refine sw (core_pick_f (by simp [h1]) (L _ rfl)) ⟨rfl, rfl, trivial⟩ trivial ?_
      refine sw (core_move (L _ rfl)) ⟨rfl, trivial⟩ trivial ?_
      refine swn (g := 23) rfl (by simp [h2]) (L _ rfl) rfl ?_
      refine swn (g := 23) rfl (by simp [h2]) (L _ rfl) rfl ?_
      refine swn (g := 23) rfl (by simp [h2]) (L _ rfl) rfl ?_
      refine sw (core_pick_t (by simp [h2]) (L _ rfl)) ⟨rfl, rfl, trivial⟩ trivial ?_
      refine sw (core_move (L _ rfl)) ⟨rfl, trivial⟩ trivial ?_
      refine swn (g := 28) rfl rfl (L _ rfl) rfl ?_
      refine swn (g := 28) rfl rfl (L _ rfl) rfl ?_
      refine swn (g := 28) rfl rfl (L _ rfl) rfl ?_
      refine sw (core_pick_t rfl (L _ rfl)) ⟨rfl, rfl, trivial⟩ trivial ?_
      exact seq_nil ⟨⟨ob rfl rfl, rfl, rfl, rfl, trivial⟩, ⟨rfl, rfl, rfl, trivial⟩⟩
    · refine sw (core_loadP Tryd.isAgg24 Tryd.sizeOf24 (by rfl) (by exact (.cons (.cons .nil))) rfl (L _ rfl)) ⟨rfl, trivial⟩ ⟨rfl, trivial⟩ ?_
      refine sw (core_loadP Tryd.isAgg24 Tryd.sizeOf24 (by rfl) (by exact (.cons (.cons .nil))) rfl (L _ rfl)) ⟨rfl, trivial⟩ ⟨rfl, trivial⟩ ?_
      refine sw (core_loadP Tryd.isAgg24 Tryd.sizeOf24 (by rfl) (by exact (.cons (.cons .nil))) rfl (L _ rfl)) ⟨rfl, trivial⟩ ⟨rfl, trivial⟩ ?_
      refine sw (core_call (E := E) hG hX Tryd.call12 rfl hN (lshort_says 60 m n l ws vs us) (L _ rfl)) ⟨rfl, rfl, rfl, rfl, trivial⟩ trivial ?_
      refine sw (core_not (L _ rfl)) ⟨rfl, trivial⟩ trivial ?_
      refine sw (core_move (L _ rfl)) ⟨rfl, trivial⟩ trivial ?_
      refine swg (g := 18) rfl (by simp [h1]) (core_loadP Tryd.isAgg24 Tryd.sizeOf24 (by rfl) (by exact (.cons (.cons .nil))) rfl (L _ rfl)) rfl ⟨rfl, trivial⟩ ⟨rfl, trivial⟩ ?_
      refine swg (g := 18) rfl (by simp [h1]) (core_call (E := E) hG hX Tryd.call17 rfl hN (ris_says m ws (by omega)) (L _ rfl)) rfl ⟨rfl, trivial⟩ trivial ?_
      refine swg (g := 18) rfl (by simp [h1]) (core_not (L _ rfl)) rfl ⟨rfl, trivial⟩ trivial ?_
      refine sw (core_pick_f (by simp [h1]) (L _ rfl)) ⟨rfl, rfl, trivial⟩ trivial ?_
      refine sw (core_move (L _ rfl)) ⟨rfl, trivial⟩ trivial ?_
      refine swg (g := 23) rfl (by simp [h2]) (core_loadP Tryd.isAgg24 Tryd.sizeOf24 (by rfl) (by exact (.cons (.cons .nil))) rfl (L _ rfl)) rfl ⟨rfl, trivial⟩ ⟨rfl, trivial⟩ ?_
      refine swg (g := 23) rfl (by simp [h2]) (core_call (E := E) hG hX Tryd.call17 rfl hN (ris_says n vs (by omega)) (L _ rfl)) rfl ⟨rfl, trivial⟩ trivial ?_
      refine swg (g := 23) rfl (by simp [h2]) (core_not (L _ rfl)) rfl ⟨rfl, trivial⟩ trivial ?_
      refine sw (core_pick_f (by simp [h2]) (L _ rfl)) ⟨rfl, rfl, trivial⟩ trivial ?_
      refine sw (core_move (L _ rfl)) ⟨rfl, trivial⟩ trivial ?_
      refine swn (g := 28) rfl (by simp [h3]) (L _ rfl) rfl ?_
      refine swn (g := 28) rfl (by simp [h3]) (L _ rfl) rfl ?_
      refine swn (g := 28) rfl (by simp [h3]) (L _ rfl) rfl ?_
      refine sw (core_pick_t (by simp [h3]) (L _ rfl)) ⟨rfl, rfl, trivial⟩ trivial ?_
      exact seq_nil ⟨⟨ob rfl rfl, rfl, rfl, rfl, trivial⟩, ⟨rfl, rfl, rfl, trivial⟩⟩
    · refine sw (core_loadP Tryd.isAgg24 Tryd.sizeOf24 (by rfl) (by exact (.cons (.cons .nil))) rfl (L _ rfl)) ⟨rfl, trivial⟩ ⟨rfl, trivial⟩ ?_
      refine sw (core_loadP Tryd.isAgg24 Tryd.sizeOf24 (by rfl) (by exact (.cons (.cons .nil))) rfl (L _ rfl)) ⟨rfl, trivial⟩ ⟨rfl, trivial⟩ ?_
      refine sw (core_loadP Tryd.isAgg24 Tryd.sizeOf24 (by rfl) (by exact (.cons (.cons .nil))) rfl (L _ rfl)) ⟨rfl, trivial⟩ ⟨rfl, trivial⟩ ?_
      refine sw (core_call (E := E) hG hX Tryd.call12 rfl hN (lshort_says 60 m n l ws vs us) (L _ rfl)) ⟨rfl, rfl, rfl, rfl, trivial⟩ trivial ?_
      refine sw (core_not (L _ rfl)) ⟨rfl, trivial⟩ trivial ?_
      refine sw (core_move (L _ rfl)) ⟨rfl, trivial⟩ trivial ?_
      refine swg (g := 18) rfl (by simp [h1]) (core_loadP Tryd.isAgg24 Tryd.sizeOf24 (by rfl) (by exact (.cons (.cons .nil))) rfl (L _ rfl)) rfl ⟨rfl, trivial⟩ ⟨rfl, trivial⟩ ?_
      refine swg (g := 18) rfl (by simp [h1]) (core_call (E := E) hG hX Tryd.call17 rfl hN (ris_says m ws (by omega)) (L _ rfl)) rfl ⟨rfl, trivial⟩ trivial ?_
      refine swg (g := 18) rfl (by simp [h1]) (core_not (L _ rfl)) rfl ⟨rfl, trivial⟩ trivial ?_
      refine sw (core_pick_f (by simp [h1]) (L _ rfl)) ⟨rfl, rfl, trivial⟩ trivial ?_
      refine sw (core_move (L _ rfl)) ⟨rfl, trivial⟩ trivial ?_
      refine swg (g := 23) rfl (by simp [h2]) (core_loadP Tryd.isAgg24 Tryd.sizeOf24 (by rfl) (by exact (.cons (.cons .nil))) rfl (L _ rfl)) rfl ⟨rfl, trivial⟩ ⟨rfl, trivial⟩ ?_
      refine swg (g := 23) rfl (by simp [h2]) (core_call (E := E) hG hX Tryd.call17 rfl hN (ris_says n vs (by omega)) (L _ rfl)) rfl ⟨rfl, trivial⟩ trivial ?_
      refine swg (g := 23) rfl (by simp [h2]) (core_not (L _ rfl)) rfl ⟨rfl, trivial⟩ trivial ?_
      refine sw (core_pick_f (by simp [h2]) (L _ rfl)) ⟨rfl, rfl, trivial⟩ trivial ?_
      refine sw (core_move (L _ rfl)) ⟨rfl, trivial⟩ trivial ?_
      refine swg (g := 28) rfl (by simp [h3]) (core_loadP Tryd.isAgg24 Tryd.sizeOf24 (by rfl) (by exact (.cons (.cons .nil))) rfl (L _ rfl)) rfl ⟨rfl, trivial⟩ ⟨rfl, trivial⟩ ?_
      refine swg (g := 28) rfl (by simp [h3]) (core_call (E := E) hG hX Tryd.call17 rfl hN (ris_says l us (by omega)) (L _ rfl)) rfl ⟨rfl, trivial⟩ trivial ?_
      refine swg (g := 28) rfl (by simp [h3]) (core_not (L _ rfl)) rfl ⟨rfl, trivial⟩ trivial ?_
      refine sw (core_pick_f (by simp [h3]) (L _ rfl)) ⟨rfl, rfl, trivial⟩ trivial ?_
      exact seq_nil ⟨⟨ob rfl (by simp [h4]), rfl, rfl, rfl, trivial⟩, ⟨rfl, rfl, rfl, trivial⟩⟩
  refine ex_if rfl (fun hc => ?_) (fun hc => ?_)
  · refine exr ?_
    refine sw (core_call (E := E) hG hX Tryd.call13 rfl hN sane_says (L _ rfl)) trivial trivial ?_
    refine sw (core_assign (L _ rfl)) ⟨rfl, trivial⟩ trivial ?_
    refine seq_nil ⟨[(6, _)], [], ⟨rfl, trivial⟩, trivial, ?_⟩
    refine ex_ret ?_
    refine ⟨.inr rfl, ResVs.cast (.cons (.tmp rfl) .nil) ?_⟩
    rfl
  · cases hc

theorem divl_says (m n l : Bool) (ws vs us : List Int) (h : Wd ws) (h2 : Wd vs) (h3 : Wd us) : Says E 8 [pI m ws, pI n vs, pI l us] (bZ true) := by
  by_cases hn : ((ws.length : Int) ≤ 60 ∧ (vs.length : Int) ≤ 60 ∧ (us.length : Int) ≤ 60) ∧ canon m ws = true ∧ canon n vs = true ∧ canon l us = true
  · obtain ⟨⟨l1, l2, l3⟩, c1, c2, c3⟩ := hn
    rw [pI_eq h c1, pI_eq h2 c2, pI_eq h3 c3]
    have k1 := nw_val (m := m) h
    have k2 := nw_val (m := n) h2
    have k3 := nw_val (m := l) h3
    exact div_z _ _ _ (by omega) (by omega) (by omega)
  · exact div_no m n l ws vs us hn
end Go.Proofs.YtebkelnibecmjaaDoor.N
