/- Part NumBezoutWalk of the proof: lemmas for the walks of the given functions. No statement of its own. -/
import Derived.Test.YtebkelnibecmjaaDoorHelp
set_option linter.unusedVariables false
set_option linter.unusedSimpArgs false
set_option linter.deprecated false
namespace Go.Proofs.YtebkelnibecmjaaDoor.N
open Go Go.Proofs.YtebkelnibecmjaaDoor.SH Go.Proofs.YtebkelnibecmjaaDoor.NumA
theorem bez_eq (a b : Int) : bU a b * a + bV a b * b = (Int.gcd a b : Int) := by
  by_cases hb : b = 0
  · subst hb
    rw [bU, bV, if_pos rfl, if_pos rfl, Int.gcd_zero_right, Int.mul_zero, Int.add_zero, Int.sign_mul_self]
  · rw [bU, bV, if_neg hb, if_neg hb, Int.ediv_mul_cancel (bezU_spec hb).2.2]; omega
theorem nw_bez (a b : Int) : nw (bU a b) ≤ nw b + 1 ∧ nw (bV a b) ≤ nw a + nw b + 10 := by
  by_cases hb : b = 0
  · subst hb
    have h1 : nw (bU a 0) ≤ 1 := by
      rw [bU, if_pos rfl]
      exact nw_le (by rcases sign3 a with h | h | h <;> rw [h.1] <;> decide)
    have h2 : nw (bV a 0) = 0 := by rw [bV, if_pos rfl]; exact nw_zero.2 rfl
    omega
  · have h1 : nw (bU a b) ≤ nw b := by rw [bU, if_neg hb]; exact bez_bd (bezU_spec hb)
    have h2 : nw (bV a b) ≤ max (nw (Int.gcd a b : Int)) (nw (bU a b * a)) + 1 + 1 := by
      rw [bV, if_neg hb, bU, if_neg hb]
      exact Nat.le_trans nw_ediv (Nat.add_le_add_right (nw_sub _ _) 1)
    have h3 : nw (Int.gcd a b : Int) ≤ nw b := nw_mono (by have := Int.gcd_le_natAbs_right (a := a) hb; simpa using this)
    have h4 := nw_mul (bU a b) a
    omega
theorem nw_gcd (a b : Int) : nw (Int.gcd a b : Int) ≤ max (nw a) (nw b) := by
  by_cases hb : b = 0
  · subst hb
    rw [Int.gcd_zero_right]
    have : nw (a.natAbs : Int) ≤ nw a := nw_mono (by omega)
    omega
  · have h3 : nw (Int.gcd a b : Int) ≤ nw b := nw_mono (by have := Int.gcd_le_natAbs_right (a := a) hb; simpa using this)
    omega
theorem gcd_mod (a b : Int) : a % (Int.gcd a b : Int) = 0 ∧ (b.natAbs : Int) % (Int.gcd a b : Int) = 0 := by
  refine ⟨Int.emod_eq_zero_of_dvd (Int.gcd_dvd_left a b), Int.emod_eq_zero_of_dvd ?_⟩
  exact Int.dvd_natAbs.2 (Int.gcd_dvd_right a b)
set_option maxRecDepth 100000 in
set_option maxHeartbeats 4000000 in
theorem bezl_z (a b c : Int) (ha : nw a ≤ 40) (hb : nw b ≤ 40) (hc : nw c ≤ 40) : Says E 9 [pZ a, pZ b, pZ c] (bZ true) := by
  refine says_of (xs := [bZ true]) Tryd.func9 rfl Tryd.ntmps9 Tryd.results9 (by simp) fun F hG hX0 hnt hdf P0 => ?_
  have L := ltn hnt
  have hX : ∀ b, F.X b → E.ng ≤ b := fun b h => absurd h (hX0 b)
  have hN := ng_le hG
  have k1 := nw_gcd a b
  obtain ⟨k2, k3⟩ := nw_bez a b
  have k4 := nw_mul (bU a b) a
  have k5 := nw_mul (bV a b) b
  have k6 := nw_add (bU a b * a) (bV a b * b)
  have k7 := nw_mul a c
  have k8 := nw_mul b c
  have k9 := nw_gcd (a * c) (b * c)
  have k10 := nw_mul (Int.gcd a b : Int) (c.natAbs : Int)
  have kc : nw (c.natAbs : Int) ≤ nw c := nw_mono (by omega)
  have kb : nw (b.natAbs : Int) ≤ nw b := nw_mono (by omega)
  have e1 := (bez_eq a b).symm
  have e2 : ((Int.gcd (a * c) (b * c) : Nat) : Int) = (Int.gcd a b : Int) * (c.natAbs : Int) := by rw [Int.gcd_mul_right]; push_cast; rfl
  obtain ⟨g1, g2⟩ := gcd_mod a b
  have tg := sign3 (Int.gcd a b : Int)
  have ta := sign3 a
  have tb := sign3 b
  have tu := sign3 (bU a b)
  refine exr ?_
  refine swb (core_box (k := 3) (n := 2) (.pagg (.cons (.cons .nil))) rfl rfl (P0 _ rfl) (L _ rfl)) ⟨rfl, trivial⟩ trivial ⟨rfl, rfl⟩ ?_
  refine swb (core_box (k := 4) (n := 2) (.pagg (.cons (.cons .nil))) rfl rfl (P0 _ rfl) (L _ rfl)) ⟨rfl, trivial⟩ trivial ⟨rfl, rfl⟩ ?_
  refine swb (core_box (k := 5) (n := 2) (.pagg (.cons (.cons .nil))) rfl rfl (P0 _ rfl) (L _ rfl)) ⟨rfl, trivial⟩ trivial ⟨rfl, rfl⟩ ?_
  refine sw (core_assign (L _ rfl)) ⟨rfl, trivial⟩ trivial ?_
  refine seq_nil ⟨[(3, _), (4, _), (5, _)], [(3, _), (4, _), (5, _)], ⟨rfl, rfl, rfl, trivial⟩, ⟨rfl, rfl, rfl, trivial⟩, ?_⟩
  refine ex_seq ?_
  refine exr ?_
  refine sw (core_loadP Tryd.isAgg24 Tryd.sizeOf24 (by rfl) (by exact (.cons (.cons .nil))) rfl (L _ rfl)) ⟨rfl, trivial⟩ ⟨rfl, trivial⟩ ?_
  refine sw (core_loadP Tryd.isAgg24 Tryd.sizeOf24 (by rfl) (by exact (.cons (.cons .nil))) rfl (L _ rfl)) ⟨rfl, trivial⟩ ⟨rfl, trivial⟩ ?_
  refine sw (core_loadP Tryd.isAgg24 Tryd.sizeOf24 (by rfl) (by exact (.cons (.cons .nil))) rfl (L _ rfl)) ⟨rfl, trivial⟩ ⟨rfl, trivial⟩ ?_
  refine sw (core_call (E := E) hG hX Tryd.call12 rfl hN (lshortZ (by omega) (by omega) (by omega)) (L _ rfl)) ⟨rfl, rfl, rfl, rfl, trivial⟩ trivial ?_
  refine sw (core_not (L _ rfl)) ⟨rfl, trivial⟩ trivial ?_
  refine sw (core_move (L _ rfl)) ⟨rfl, trivial⟩ trivial ?_
  refine swg (g := 22) rfl rfl (core_loadP Tryd.isAgg24 Tryd.sizeOf24 (by rfl) (by exact (.cons (.cons .nil))) rfl (L _ rfl)) rfl ⟨rfl, trivial⟩ ⟨rfl, trivial⟩ ?_
  refine swg (g := 22) rfl rfl (core_call (E := E) hG hX Tryd.call17 rfl hN (risZ a (by omega)) (L _ rfl)) rfl ⟨rfl, trivial⟩ trivial ?_
  refine swg (g := 22) rfl rfl (core_not (L _ rfl)) rfl ⟨rfl, trivial⟩ trivial ?_
  refine sw (core_pick_f rfl (L _ rfl)) ⟨rfl, rfl, trivial⟩ trivial ?_
  refine sw (core_move (L _ rfl)) ⟨rfl, trivial⟩ trivial ?_
  refine swg (g := 27) rfl rfl (core_loadP Tryd.isAgg24 Tryd.sizeOf24 (by rfl) (by exact (.cons (.cons .nil))) rfl (L _ rfl)) rfl ⟨rfl, trivial⟩ ⟨rfl, trivial⟩ ?_
  refine swg (g := 27) rfl rfl (core_call (E := E) hG hX Tryd.call17 rfl hN (risZ b (by omega)) (L _ rfl)) rfl ⟨rfl, trivial⟩ trivial ?_
  refine swg (g := 27) rfl rfl (core_not (L _ rfl)) rfl ⟨rfl, trivial⟩ trivial ?_
  refine sw (core_pick_f rfl (L _ rfl)) ⟨rfl, rfl, trivial⟩ trivial ?_
  refine sw (core_move (L _ rfl)) ⟨rfl, trivial⟩ trivial ?_
  refine swg (g := 32) rfl rfl (core_loadP Tryd.isAgg24 Tryd.sizeOf24 (by rfl) (by exact (.cons (.cons .nil))) rfl (L _ rfl)) rfl ⟨rfl, trivial⟩ ⟨rfl, trivial⟩ ?_
  refine swg (g := 32) rfl rfl (core_call (E := E) hG hX Tryd.call17 rfl hN (risZ c (by omega)) (L _ rfl)) rfl ⟨rfl, trivial⟩ trivial ?_
  refine swg (g := 32) rfl rfl (core_not (L _ rfl)) rfl ⟨rfl, trivial⟩ trivial ?_
  refine sw (core_pick_f rfl (L _ rfl)) ⟨rfl, rfl, trivial⟩ trivial ?_
  refine seq_nil ⟨[(3, _), (4, _), (5, _), (36, _)], [(3, _), (4, _), (5, _)], ⟨rfl, rfl, rfl, rfl, trivial⟩, ⟨rfl, rfl, rfl, trivial⟩, ?_⟩
  refine ex_if rfl (fun hx => ?_) (fun hx => ?_)
  · cases hx
  · refine ex_skip (show Exec _ _ _ _ _ from ?_)
    refine exr ?_
    refine sw (core_loadP Tryd.isAgg24 Tryd.sizeOf24 (by rfl) (by exact (.cons (.cons .nil))) rfl (L _ rfl)) ⟨rfl, trivial⟩ ⟨rfl, trivial⟩ ?_
    refine sw (core_loadP Tryd.isAgg24 Tryd.sizeOf24 (by rfl) (by exact (.cons (.cons .nil))) rfl (L _ rfl)) ⟨rfl, trivial⟩ ⟨rfl, trivial⟩ ?_
    refine sw (core_call (E := E) hG hX Tryd.call33 rfl hN (bezZ a b (by omega) (by omega)) (L _ rfl)) ⟨rfl, rfl, trivial⟩ trivial ?_
    refine sw (core_move (L _ rfl)) ⟨rfl, trivial⟩ trivial ?_
    refine sw (core_extract rfl (L _ rfl)) ⟨rfl, trivial⟩ trivial ?_
    refine sw (core_extract rfl (L _ rfl)) ⟨rfl, trivial⟩ trivial ?_
    refine sw (core_extract rfl (L _ rfl)) ⟨rfl, trivial⟩ trivial ?_
    refine sw (core_extract rfl (L _ rfl)) ⟨rfl, trivial⟩ trivial ?_
    refine swb (core_alloc (k := 7) (n := 2) Tryd.zeroValue24 (.cons rfl (.cons rfl .nil)) rfl (P0 _ rfl) (L _ rfl)) trivial trivial ⟨rfl, rfl⟩ ?_
    refine swb (core_alloc (k := 8) (n := 2) Tryd.zeroValue24 (.cons rfl (.cons rfl .nil)) rfl (P0 _ rfl) (L _ rfl)) trivial trivial ⟨rfl, rfl⟩ ?_
    refine swb (core_alloc (k := 9) (n := 2) Tryd.zeroValue24 (.cons rfl (.cons rfl .nil)) rfl (P0 _ rfl) (L _ rfl)) trivial trivial ⟨rfl, rfl⟩ ?_
    refine sb (core_storeM Tryd.sizeOf24 (by rfl) (.pagg (.cons (.cons .nil))) rfl (.put (.put .here))) ⟨rfl, rfl, trivial⟩ ⟨rfl, trivial⟩ ?_
    refine sb (core_storeM Tryd.sizeOf24 (by rfl) (.pagg (.cons (.cons .nil))) rfl (.put (.put .here))) ⟨rfl, rfl, trivial⟩ ⟨rfl, trivial⟩ ?_
    refine sb (core_storeM Tryd.sizeOf24 (by rfl) (.pagg (.cons (.cons .nil))) rfl (.put (.put .here))) ⟨rfl, rfl, trivial⟩ ⟨rfl, trivial⟩ ?_
    refine sw (core_assign (L _ rfl)) ⟨rfl, trivial⟩ trivial ?_
    refine seq_nil ⟨[(3, _), (4, _), (5, _), (7, _), (8, _), (9, _), (10, _)], [(3, _), (4, _), (5, _), (7, _), (8, _), (9, _)], ⟨rfl, rfl, rfl, rfl, rfl, rfl, rfl, trivial⟩, ⟨rfl, rfl, rfl, rfl, rfl, rfl, trivial⟩, ?_⟩
    refine ex_seq ?_
    refine exd (by rfl) ?_
    refine sw (core_move (L _ rfl)) ⟨rfl, trivial⟩ trivial ?_
    refine sw (core_neq (L _ rfl)) ⟨rfl, rfl, trivial⟩ trivial ?_
    refine sw (core_move (L _ rfl)) ⟨rfl, trivial⟩ trivial ?_
    refine swg (g := 48) rfl rfl (core_loadP Tryd.isAgg24 Tryd.sizeOf24 (by rfl) (by exact (.cons (.cons .nil))) rfl (L _ rfl)) rfl ⟨rfl, trivial⟩ ⟨rfl, trivial⟩ ?_
    refine swg (g := 48) rfl rfl (core_loadP Tryd.isAgg24 Tryd.sizeOf24 (by rfl) (by exact (.cons (.cons .nil))) rfl (L _ rfl)) rfl ⟨rfl, trivial⟩ ⟨rfl, trivial⟩ ?_
    refine swg (g := 48) rfl rfl (core_loadP Tryd.isAgg24 Tryd.sizeOf24 (by rfl) (by exact (.cons (.cons .nil))) rfl (L _ rfl)) rfl ⟨rfl, trivial⟩ ⟨rfl, trivial⟩ ?_
    refine swg (g := 48) rfl rfl (core_call (E := E) hG hX Tryd.call41 rfl hN (gcdZ a b (by omega) (by omega)) (L _ rfl)) rfl ⟨rfl, rfl, trivial⟩ trivial ?_
    refine swg (g := 48) rfl rfl (core_call (E := E) hG hX Tryd.call18 rfl hN (sameT rfl (by omega)) (L _ rfl)) rfl ⟨rfl, rfl, trivial⟩ trivial ?_
    refine swg (g := 48) rfl rfl (core_not (L _ rfl)) rfl ⟨rfl, trivial⟩ trivial ?_
    refine sw (core_pick_f rfl (L _ rfl)) ⟨rfl, rfl, trivial⟩ trivial ?_
    refine sw (core_move (L _ rfl)) ⟨rfl, trivial⟩ trivial ?_
    refine swg (g := 56) rfl rfl (core_loadP Tryd.isAgg24 Tryd.sizeOf24 (by rfl) (by exact (.cons (.cons .nil))) rfl (L _ rfl)) rfl ⟨rfl, trivial⟩ ⟨rfl, trivial⟩ ?_
    refine swg (g := 56) rfl rfl (core_loadP Tryd.isAgg24 Tryd.sizeOf24 (by rfl) (by exact (.cons (.cons .nil))) rfl (L _ rfl)) rfl ⟨rfl, trivial⟩ ⟨rfl, trivial⟩ ?_
    refine swg (g := 56) rfl rfl (core_loadP Tryd.isAgg24 Tryd.sizeOf24 (by rfl) (by exact (.cons (.cons .nil))) rfl (L _ rfl)) rfl ⟨rfl, trivial⟩ ⟨rfl, trivial⟩ ?_
    refine swg (g := 56) rfl rfl (core_call (E := E) hG hX Tryd.call39 rfl hN (mulZ (bU a b) a (by omega) (by omega)) (L _ rfl)) rfl ⟨rfl, rfl, trivial⟩ trivial ?_
    refine swg (g := 56) rfl rfl (core_loadP Tryd.isAgg24 Tryd.sizeOf24 (by rfl) (by exact (.cons (.cons .nil))) rfl (L _ rfl)) rfl ⟨rfl, trivial⟩ ⟨rfl, trivial⟩ ?_
    refine swg (g := 56) rfl rfl (core_loadP Tryd.isAgg24 Tryd.sizeOf24 (by rfl) (by exact (.cons (.cons .nil))) rfl (L _ rfl)) rfl ⟨rfl, trivial⟩ ⟨rfl, trivial⟩ ?_
    refine swg (g := 56) rfl rfl (core_call (E := E) hG hX Tryd.call39 rfl hN (mulZ (bV a b) b (by omega) (by omega)) (L _ rfl)) rfl ⟨rfl, rfl, trivial⟩ trivial ?_
    refine swg (g := 56) rfl rfl (core_call (E := E) hG hX Tryd.call35 rfl hN (addZ (bU a b * a) (bV a b * b) (by omega) (by omega)) (L _ rfl)) rfl ⟨rfl, rfl, trivial⟩ trivial ?_
    refine swg (g := 56) rfl rfl (core_call (E := E) hG hX Tryd.call18 rfl hN (sameT e1 (by omega)) (L _ rfl)) rfl ⟨rfl, rfl, trivial⟩ trivial ?_
    refine swg (g := 56) rfl rfl (core_not (L _ rfl)) rfl ⟨rfl, trivial⟩ trivial ?_
    refine sw (core_pick_f rfl (L _ rfl)) ⟨rfl, rfl, trivial⟩ trivial ?_
    refine sw (core_move (L _ rfl)) ⟨rfl, trivial⟩ trivial ?_
    refine swg (g := 68) rfl rfl (core_loadP Tryd.isAgg24 Tryd.sizeOf24 (by rfl) (by exact (.cons (.cons .nil))) rfl (L _ rfl)) rfl ⟨rfl, trivial⟩ ⟨rfl, trivial⟩ ?_
    refine swg (g := 68) rfl rfl (core_call (E := E) hG hX Tryd.call23 rfl hN (signZ (Int.gcd a b : Int) (by omega)) (L _ rfl)) rfl ⟨rfl, trivial⟩ trivial ?_
    refine swg (g := 68) rfl rfl (core_lss (L _ rfl)) rfl ⟨rfl, rfl, trivial⟩ trivial ?_
    refine sw (core_pick_f rfl (L _ rfl)) ⟨rfl, rfl, trivial⟩ trivial ?_
    refine seq_nil ⟨aoks [⟨[10], [], [46], []⟩, ⟨[46], [], [47], []⟩, ⟨[47], [], [48], []⟩, ⟨[48, 7], [7], [49], []⟩, ⟨[48, 3], [3], [50], []⟩, ⟨[48, 4], [4], [51], []⟩, ⟨[48, 50, 51], [], [52], []⟩, ⟨[48, 49, 52], [], [53], []⟩, ⟨[48, 53], [], [54], []⟩, ⟨[48, 54], [], [55], []⟩, ⟨[55], [], [56], []⟩, ⟨[56, 7], [7], [57], []⟩, ⟨[56, 8], [8], [58], []⟩, ⟨[56, 3], [3], [59], []⟩, ⟨[56, 58, 59], [], [60], []⟩, ⟨[56, 9], [9], [61], []⟩, ⟨[56, 4], [4], [62], []⟩, ⟨[56, 61, 62], [], [63], []⟩, ⟨[56, 60, 63], [], [64], []⟩, ⟨[56, 57, 64], [], [65], []⟩, ⟨[56, 65], [], [66], []⟩, ⟨[56, 66], [], [67], []⟩, ⟨[67], [], [68], []⟩, ⟨[68, 7], [7], [69], []⟩, ⟨[68, 69], [], [70], []⟩, ⟨[68, 70], [], [71], []⟩, ⟨[68, 71], [], [72], []⟩] (by rfl) (by rfl) (by decide), [(3, _), (4, _), (5, _), (7, _), (8, _), (72, _)], [(3, _), (4, _), (5, _), (7, _), (8, _)], ⟨rfl, rfl, rfl, rfl, rfl, rfl, trivial⟩, ⟨rfl, rfl, rfl, rfl, rfl, trivial⟩, ?_⟩
    refine ex_if rfl (fun hy => ?_) (fun hy => ?_)
    · have hy := dt hy
      exact absurd hy (by omega)
    · refine ex_skip (show Exec _ _ _ _ _ from ?_)
      refine ex_seq ?_
      refine exd (by rfl) ?_
      refine sw (core_loadP Tryd.isAgg24 Tryd.sizeOf24 (by rfl) (by exact (.cons (.cons .nil))) rfl (L _ rfl)) ⟨rfl, trivial⟩ ⟨rfl, trivial⟩ ?_
      refine sw (core_loadP Tryd.isAgg24 Tryd.sizeOf24 (by rfl) (by exact (.cons (.cons .nil))) rfl (L _ rfl)) ⟨rfl, trivial⟩ ⟨rfl, trivial⟩ ?_
      refine sw (core_call (E := E) hG hX Tryd.call39 rfl hN (mulZ a c (by omega) (by omega)) (L _ rfl)) ⟨rfl, rfl, trivial⟩ trivial ?_
      refine sw (core_loadP Tryd.isAgg24 Tryd.sizeOf24 (by rfl) (by exact (.cons (.cons .nil))) rfl (L _ rfl)) ⟨rfl, trivial⟩ ⟨rfl, trivial⟩ ?_
      refine sw (core_loadP Tryd.isAgg24 Tryd.sizeOf24 (by rfl) (by exact (.cons (.cons .nil))) rfl (L _ rfl)) ⟨rfl, trivial⟩ ⟨rfl, trivial⟩ ?_
      refine sw (core_call (E := E) hG hX Tryd.call39 rfl hN (mulZ b c (by omega) (by omega)) (L _ rfl)) ⟨rfl, rfl, trivial⟩ trivial ?_
      refine sw (core_call (E := E) hG hX Tryd.call41 rfl hN (gcdZ (a * c) (b * c) (by omega) (by omega)) (L _ rfl)) ⟨rfl, rfl, trivial⟩ trivial ?_
      refine sw (core_loadP Tryd.isAgg24 Tryd.sizeOf24 (by rfl) (by exact (.cons (.cons .nil))) rfl (L _ rfl)) ⟨rfl, trivial⟩ ⟨rfl, trivial⟩ ?_
      refine sw (core_loadP Tryd.isAgg24 Tryd.sizeOf24 (by rfl) (by exact (.cons (.cons .nil))) rfl (L _ rfl)) ⟨rfl, trivial⟩ ⟨rfl, trivial⟩ ?_
      refine sw (core_call (E := E) hG hX Tryd.call29 rfl hN (absZ c (by omega)) (L _ rfl)) ⟨rfl, trivial⟩ trivial ?_
      refine sw (core_call (E := E) hG hX Tryd.call39 rfl hN (mulZ (Int.gcd a b : Int) (c.natAbs : Int) (by omega) (by omega)) (L _ rfl)) ⟨rfl, rfl, trivial⟩ trivial ?_
      refine sw (core_call (E := E) hG hX Tryd.call18 rfl hN (sameT e2 (by omega)) (L _ rfl)) ⟨rfl, rfl, trivial⟩ trivial ?_
      refine sw (core_not (L _ rfl)) ⟨rfl, trivial⟩ trivial ?_
      refine seq_nil ⟨aoks [⟨[3], [3], [73], []⟩, ⟨[5], [5], [74], []⟩, ⟨[73, 74], [], [75], []⟩, ⟨[4], [4], [76], []⟩, ⟨[5], [5], [77], []⟩, ⟨[76, 77], [], [78], []⟩, ⟨[75, 78], [], [79], []⟩, ⟨[7], [7], [80], []⟩, ⟨[5], [5], [81], []⟩, ⟨[81], [], [82], []⟩, ⟨[80, 82], [], [83], []⟩, ⟨[79, 83], [], [84], []⟩, ⟨[84], [], [85], []⟩] (by rfl) (by rfl) (by decide), [(3, _), (4, _), (7, _), (8, _), (85, _)], [(3, _), (4, _), (7, _), (8, _)], ⟨rfl, rfl, rfl, rfl, rfl, trivial⟩, ⟨rfl, rfl, rfl, rfl, trivial⟩, ?_⟩
      refine ex_if rfl (fun hw => ?_) (fun hw => ?_)
      · cases hw
      · refine ex_skip (show Exec _ _ _ _ _ from ?_)
        refine ex_seq ?_
        refine exr ?_
        refine sw (core_loadP Tryd.isAgg24 Tryd.sizeOf24 (by rfl) (by exact (.cons (.cons .nil))) rfl (L _ rfl)) ⟨rfl, trivial⟩ ⟨rfl, trivial⟩ ?_
        refine sw (core_call (E := E) hG hX Tryd.call23 rfl hN (signZ (Int.gcd a b : Int) (by omega)) (L _ rfl)) ⟨rfl, trivial⟩ trivial ?_
        refine sw (core_eql (L _ rfl)) ⟨rfl, rfl, trivial⟩ trivial ?_
        refine seq_nil ⟨[(3, _), (4, _), (7, _), (8, _), (88, _)], [(3, _), (4, _), (7, _), (8, _)], ⟨rfl, rfl, rfl, rfl, rfl, trivial⟩, ⟨rfl, rfl, rfl, rfl, trivial⟩, ?_⟩
        refine ex_if rfl (fun h0 => ?_) (fun h0 => ?_)
        · have h0 := dt h0
          have h00 : Int.gcd a b = 0 := by omega
          obtain ⟨a0, b0⟩ := Int.gcd_eq_zero_iff.1 h00
          refine exr ?_
          refine sw (core_call (E := E) hG hX Tryd.call13 rfl hN sane_says (L _ rfl)) trivial trivial ?_
          refine sw (core_move (L _ rfl)) ⟨rfl, trivial⟩ trivial ?_
          refine swg (g := 90) rfl (by simp [a0]) (core_loadP Tryd.isAgg24 Tryd.sizeOf24 (by rfl) (by exact (.cons (.cons .nil))) rfl (L _ rfl)) rfl ⟨rfl, trivial⟩ ⟨rfl, trivial⟩ ?_
          refine swg (g := 90) rfl (by simp [a0]) (core_call (E := E) hG hX Tryd.call23 rfl hN (signZ a (by omega)) (L _ rfl)) rfl ⟨rfl, trivial⟩ trivial ?_
          refine swg (g := 90) rfl (by simp [a0]) (core_eql (L _ rfl)) rfl ⟨rfl, rfl, trivial⟩ trivial ?_
          refine sw (core_pick_t (by simp [a0]) (L _ rfl)) ⟨rfl, rfl, trivial⟩ trivial ?_
          refine sw (core_move (L _ rfl)) ⟨rfl, trivial⟩ trivial ?_
          refine swg (g := 95) rfl (by simp [a0]) (core_loadP Tryd.isAgg24 Tryd.sizeOf24 (by rfl) (by exact (.cons (.cons .nil))) rfl (L _ rfl)) rfl ⟨rfl, trivial⟩ ⟨rfl, trivial⟩ ?_
          refine swg (g := 95) rfl (by simp [a0]) (core_call (E := E) hG hX Tryd.call23 rfl hN (signZ b (by omega)) (L _ rfl)) rfl ⟨rfl, trivial⟩ trivial ?_
          refine swg (g := 95) rfl (by simp [a0]) (core_eql (L _ rfl)) rfl ⟨rfl, rfl, trivial⟩ trivial ?_
          refine sw (core_pick_t (by simp [a0]) (L _ rfl)) ⟨rfl, rfl, trivial⟩ trivial ?_
          refine sw (core_assign (L _ rfl)) ⟨rfl, trivial⟩ trivial ?_
          refine seq_nil ⟨[(6, _)], [], ⟨rfl, trivial⟩, trivial, ?_⟩
          refine ex_ret ?_
          refine ⟨.inr rfl, ResVs.cast (.cons (.tmp rfl) .nil) ?_⟩
          simp [b0]
        · have h0 := df h0
          have hg : (Int.gcd a b : Int) ≠ 0 := by omega
          have m1 := nw_ediv (a := a) (b := (Int.gcd a b : Int))
          have m2 := nw_emod (a := a) hg
          have m3 := nw_ediv (a := (b.natAbs : Int)) (b := (Int.gcd a b : Int))
          have m4 := nw_emod (a := (b.natAbs : Int)) hg
          refine ex_skip (show Exec _ _ _ _ _ from ?_)
          refine exr ?_
          refine sw (core_loadP Tryd.isAgg24 Tryd.sizeOf24 (by rfl) (by exact (.cons (.cons .nil))) rfl (L _ rfl)) ⟨rfl, trivial⟩ ⟨rfl, trivial⟩ ?_
          refine sw (core_loadP Tryd.isAgg24 Tryd.sizeOf24 (by rfl) (by exact (.cons (.cons .nil))) rfl (L _ rfl)) ⟨rfl, trivial⟩ ⟨rfl, trivial⟩ ?_
          refine sw (core_call (E := E) hG hX Tryd.call31 rfl hN (divZ a (Int.gcd a b : Int) (by omega) (by omega) hg) (L _ rfl)) ⟨rfl, rfl, trivial⟩ trivial ?_
          refine sw (core_move (L _ rfl)) ⟨rfl, trivial⟩ trivial ?_
          refine sw (core_extract rfl (L _ rfl)) ⟨rfl, trivial⟩ trivial ?_
          refine sw (core_extract rfl (L _ rfl)) ⟨rfl, trivial⟩ trivial ?_
          refine sw (core_extract rfl (L _ rfl)) ⟨rfl, trivial⟩ trivial ?_
          refine swb (core_alloc (k := 11) (n := 2) Tryd.zeroValue24 (.cons rfl (.cons rfl .nil)) rfl (P0 _ rfl) (L _ rfl)) trivial trivial ⟨rfl, rfl⟩ ?_
          refine swb (core_alloc (k := 12) (n := 2) Tryd.zeroValue24 (.cons rfl (.cons rfl .nil)) rfl (P0 _ rfl) (L _ rfl)) trivial trivial ⟨rfl, rfl⟩ ?_
          refine sb (core_storeM Tryd.sizeOf24 (by rfl) (.pagg (.cons (.cons .nil))) rfl (.put (.put .here))) ⟨rfl, rfl, trivial⟩ ⟨rfl, trivial⟩ ?_
          refine sb (core_storeM Tryd.sizeOf24 (by rfl) (.pagg (.cons (.cons .nil))) rfl (.put (.put .here))) ⟨rfl, rfl, trivial⟩ ⟨rfl, trivial⟩ ?_
          refine sw (core_assign (L _ rfl)) ⟨rfl, trivial⟩ trivial ?_
          refine seq_nil ⟨[(4, _), (7, _), (8, _), (12, _), (13, _)], [(4, _), (7, _), (8, _), (12, _)], ⟨rfl, rfl, rfl, rfl, rfl, trivial⟩, ⟨rfl, rfl, rfl, rfl, trivial⟩, ?_⟩
          refine exd (by rfl) ?_
          refine sw (core_loadP Tryd.isAgg24 Tryd.sizeOf24 (by rfl) (by exact (.cons (.cons .nil))) rfl (L _ rfl)) ⟨rfl, trivial⟩ ⟨rfl, trivial⟩ ?_
          refine sw (core_call (E := E) hG hX Tryd.call29 rfl hN (absZ b (by omega)) (L _ rfl)) ⟨rfl, trivial⟩ trivial ?_
          refine sw (core_loadP Tryd.isAgg24 Tryd.sizeOf24 (by rfl) (by exact (.cons (.cons .nil))) rfl (L _ rfl)) ⟨rfl, trivial⟩ ⟨rfl, trivial⟩ ?_
          refine sw (core_call (E := E) hG hX Tryd.call31 rfl hN (divZ (b.natAbs : Int) (Int.gcd a b : Int) (by omega) (by omega) hg) (L _ rfl)) ⟨rfl, rfl, trivial⟩ trivial ?_
          refine sw (core_move (L _ rfl)) ⟨rfl, trivial⟩ trivial ?_
          refine sw (core_extract rfl (L _ rfl)) ⟨rfl, trivial⟩ trivial ?_
          refine sw (core_extract rfl (L _ rfl)) ⟨rfl, trivial⟩ trivial ?_
          refine sw (core_extract rfl (L _ rfl)) ⟨rfl, trivial⟩ trivial ?_
          refine swb (core_alloc (k := 14) (n := 2) Tryd.zeroValue24 (.cons rfl (.cons rfl .nil)) rfl (P0 _ rfl) (L _ rfl)) trivial trivial ⟨rfl, rfl⟩ ?_
          refine swb (core_alloc (k := 15) (n := 2) Tryd.zeroValue24 (.cons rfl (.cons rfl .nil)) rfl (P0 _ rfl) (L _ rfl)) trivial trivial ⟨rfl, rfl⟩ ?_
          refine sb (core_storeM Tryd.sizeOf24 (by rfl) (.pagg (.cons (.cons .nil))) rfl (.put (.put .here))) ⟨rfl, rfl, trivial⟩ ⟨rfl, trivial⟩ ?_
          refine sb (core_storeM Tryd.sizeOf24 (by rfl) (.pagg (.cons (.cons .nil))) rfl (.put (.put .here))) ⟨rfl, rfl, trivial⟩ ⟨rfl, trivial⟩ ?_
          refine sw (core_assign (L _ rfl)) ⟨rfl, trivial⟩ trivial ?_
          refine seq_nil ⟨aok rfl rfl, [(4, _), (8, _), (12, _), (13, _), (14, _), (15, _), (16, _)], [(4, _), (8, _), (12, _), (14, _), (15, _)], ⟨rfl, rfl, rfl, rfl, rfl, rfl, rfl, trivial⟩, ⟨rfl, rfl, rfl, rfl, rfl, trivial⟩, ?_⟩
          refine ex_seq ?_
          refine exr ?_
          refine sw (core_move (L _ rfl)) ⟨rfl, trivial⟩ trivial ?_
          refine sw (core_neq (L _ rfl)) ⟨rfl, rfl, trivial⟩ trivial ?_
          refine sw (core_move (L _ rfl)) ⟨rfl, trivial⟩ trivial ?_
          refine swg (g := 117) rfl (by simp [g1]) (core_move (L _ rfl)) rfl ⟨rfl, trivial⟩ trivial ?_
          refine swg (g := 117) rfl (by simp [g1]) (core_neq (L _ rfl)) rfl ⟨rfl, rfl, trivial⟩ trivial ?_
          refine sw (core_pick_f (by simp [g1]) (L _ rfl)) ⟨rfl, rfl, trivial⟩ trivial ?_
          refine sw (core_move (L _ rfl)) ⟨rfl, trivial⟩ trivial ?_
          refine swg (g := 121) rfl (by simp [g1]) (core_loadP Tryd.isAgg24 Tryd.sizeOf24 (by rfl) (by exact (.cons (.cons .nil))) rfl (L _ rfl)) rfl ⟨rfl, trivial⟩ ⟨rfl, trivial⟩ ?_
          refine swg (g := 121) rfl (by simp [g1]) (core_call (E := E) hG hX Tryd.call23 rfl hN (signZ (a % (Int.gcd a b : Int)) (by omega)) (L _ rfl)) rfl ⟨rfl, trivial⟩ trivial ?_
          refine swg (g := 121) rfl (by simp [g1]) (core_neq (L _ rfl)) rfl ⟨rfl, rfl, trivial⟩ trivial ?_
          refine sw (core_pick_f (by simp [g1]) (L _ rfl)) ⟨rfl, rfl, trivial⟩ trivial ?_
          refine sw (core_move (L _ rfl)) ⟨rfl, trivial⟩ trivial ?_
          refine swg (g := 126) rfl (by simp [g1]) (core_loadP Tryd.isAgg24 Tryd.sizeOf24 (by rfl) (by exact (.cons (.cons .nil))) rfl (L _ rfl)) rfl ⟨rfl, trivial⟩ ⟨rfl, trivial⟩ ?_
          refine swg (g := 126) rfl (by simp [g1]) (core_call (E := E) hG hX Tryd.call23 rfl hN (signZ ((b.natAbs : Int) % (Int.gcd a b : Int)) (by omega)) (L _ rfl)) rfl ⟨rfl, trivial⟩ trivial ?_
          refine swg (g := 126) rfl (by simp [g1]) (core_neq (L _ rfl)) rfl ⟨rfl, rfl, trivial⟩ trivial ?_
          refine sw (core_pick_f (by simp [g1]) (L _ rfl)) ⟨rfl, rfl, trivial⟩ trivial ?_
          refine seq_nil ⟨[(4, _), (8, _), (14, _), (130, _)], [(4, _), (8, _), (14, _)], ⟨rfl, rfl, rfl, rfl, trivial⟩, ⟨rfl, rfl, rfl, trivial⟩, ?_⟩
          refine ex_if rfl (fun hv => ?_) (fun hv => ?_)
          · rw [g2] at hv
            exact absurd hv (by decide)
          · have hm : b ≠ 0 → 0 ≤ bU a b ∧ bU a b < (b.natAbs : Int) / (Int.gcd a b : Int) := fun hb0 => by
              have hs := bezU_spec (a := a) hb0
              rw [bU, if_neg hb0]
              exact ⟨hs.1, hs.2.1⟩
            have hcm := sign3 (bU a b - (b.natAbs : Int) / (Int.gcd a b : Int))
            rw [← cz] at hcm
            refine ex_skip (show Exec _ _ _ _ _ from ?_)
            refine exm (sl := [(6, vb true)]) (sl0 := []) (hb := []) (hb0 := []) trivial trivial ?_ ?_
            · by_cases hb0 : b = 0
              · refine sw (core_call (E := E) hG hX Tryd.call13 rfl hN sane_says (L _ rfl)) trivial trivial ?_
                refine sw (core_move (L _ rfl)) ⟨rfl, trivial⟩ trivial ?_
                refine swg (g := 132) rfl rfl (core_loadP Tryd.isAgg24 Tryd.sizeOf24 (by rfl) (by exact (.cons (.cons .nil))) rfl (L _ rfl)) rfl ⟨rfl, trivial⟩ ⟨rfl, trivial⟩ ?_
                refine swg (g := 132) rfl rfl (core_call (E := E) hG hX Tryd.call23 rfl hN (signZ b (by omega)) (L _ rfl)) rfl ⟨rfl, trivial⟩ trivial ?_
                refine swg (g := 132) rfl rfl (core_eql (L _ rfl)) rfl ⟨rfl, rfl, trivial⟩ trivial ?_
                refine swg (g := 132) rfl rfl (core_move (L _ rfl)) rfl ⟨rfl, trivial⟩ trivial ?_
                refine swn (g := 136) rfl (decide_eq_true (by omega)) (L _ rfl) rfl ?_
                refine swn (g := 136) rfl (decide_eq_true (by omega)) (L _ rfl) rfl ?_
                refine swn (g := 136) rfl (decide_eq_true (by omega)) (L _ rfl) rfl ?_
                refine swn (g := 136) rfl (decide_eq_true (by omega)) (L _ rfl) rfl ?_
                refine swu (g := 140) rfl (L _ rfl) rfl ?_
                refine swu (g := 140) rfl (L _ rfl) rfl ?_
                refine swu (g := 140) rfl (L _ rfl) rfl ?_
                refine swu (g := 140) rfl (L _ rfl) rfl ?_
                refine swn (g := 136) rfl (decide_eq_true (by omega)) (L _ rfl) rfl ?_
                refine swg (g := 132) rfl rfl (core_pick_t (decide_eq_true (by omega)) (L _ rfl)) rfl ⟨rfl, rfl, trivial⟩ trivial ?_
                refine sw (core_pick_t rfl (L _ rfl)) ⟨rfl, rfl, trivial⟩ trivial ?_
                refine sw (core_assign (L _ rfl)) ⟨rfl, trivial⟩ trivial ?_
                exact seq_nil ⟨⟨ob rfl rfl, trivial⟩, trivial⟩
              · refine sw (core_call (E := E) hG hX Tryd.call13 rfl hN sane_says (L _ rfl)) trivial trivial ?_
                refine sw (core_move (L _ rfl)) ⟨rfl, trivial⟩ trivial ?_
                refine swg (g := 132) rfl rfl (core_loadP Tryd.isAgg24 Tryd.sizeOf24 (by rfl) (by exact (.cons (.cons .nil))) rfl (L _ rfl)) rfl ⟨rfl, trivial⟩ ⟨rfl, trivial⟩ ?_
                refine swg (g := 132) rfl rfl (core_call (E := E) hG hX Tryd.call23 rfl hN (signZ b (by omega)) (L _ rfl)) rfl ⟨rfl, trivial⟩ trivial ?_
                refine swg (g := 132) rfl rfl (core_eql (L _ rfl)) rfl ⟨rfl, rfl, trivial⟩ trivial ?_
                refine swg (g := 132) rfl rfl (core_move (L _ rfl)) rfl ⟨rfl, trivial⟩ trivial ?_
                refine swg (g := 136) rfl (decide_eq_false (by omega)) (core_loadP Tryd.isAgg24 Tryd.sizeOf24 (by rfl) (by exact (.cons (.cons .nil))) rfl (L _ rfl)) rfl ⟨rfl, trivial⟩ ⟨rfl, trivial⟩ ?_
                refine swg (g := 136) rfl (decide_eq_false (by omega)) (core_call (E := E) hG hX Tryd.call23 rfl hN (signZ (bU a b) (by omega)) (L _ rfl)) rfl ⟨rfl, trivial⟩ trivial ?_
                refine swg (g := 136) rfl (decide_eq_false (by omega)) (core_geq (L _ rfl)) rfl ⟨rfl, rfl, trivial⟩ trivial ?_
                refine swg (g := 136) rfl (decide_eq_false (by omega)) (core_move (L _ rfl)) rfl ⟨rfl, trivial⟩ trivial ?_
                refine swg (g := 140) rfl (decide_eq_true (by have := (hm hb0).1; omega)) (core_loadP Tryd.isAgg24 Tryd.sizeOf24 (by rfl) (by exact (.cons (.cons .nil))) rfl (L _ rfl)) rfl ⟨rfl, trivial⟩ ⟨rfl, trivial⟩ ?_
                refine swg (g := 140) rfl (decide_eq_true (by have := (hm hb0).1; omega)) (core_loadP Tryd.isAgg24 Tryd.sizeOf24 (by rfl) (by exact (.cons (.cons .nil))) rfl (L _ rfl)) rfl ⟨rfl, trivial⟩ ⟨rfl, trivial⟩ ?_
                refine swg (g := 140) rfl (decide_eq_true (by have := (hm hb0).1; omega)) (core_call (E := E) hG hX Tryd.call25 rfl hN (cmpZ (bU a b) ((b.natAbs : Int) / (Int.gcd a b : Int)) (by omega) (by omega)) (L _ rfl)) rfl ⟨rfl, rfl, trivial⟩ trivial ?_
                refine swg (g := 140) rfl (decide_eq_true (by have := (hm hb0).1; omega)) (core_lss (L _ rfl)) rfl ⟨rfl, rfl, trivial⟩ trivial ?_
                refine swg (g := 136) rfl (decide_eq_false (by omega)) (core_pick_t (decide_eq_true (by have := (hm hb0).1; omega)) (L _ rfl)) rfl ⟨rfl, rfl, trivial⟩ trivial ?_
                refine swg (g := 132) rfl rfl (core_pick_f (decide_eq_false (by omega)) (L _ rfl)) rfl ⟨rfl, rfl, trivial⟩ trivial ?_
                refine sw (core_pick_t rfl (L _ rfl)) ⟨rfl, rfl, trivial⟩ trivial ?_
                refine sw (core_assign (L _ rfl)) ⟨rfl, trivial⟩ trivial ?_
                exact seq_nil ⟨⟨ob rfl (decide_eq_true (by have := (hm hb0).2; omega)), trivial⟩, trivial⟩
            refine ex_ret ?_
            refine ⟨.inr rfl, ResVs.cast (.cons (.tmp rfl) .nil) ?_⟩
            rfl

set_option maxRecDepth 100000 in
set_option maxHeartbeats 4000000 in
theorem bezl_no (m n l : Bool) (ws vs us : List Int) (hn : ¬ (((ws.length : Int) ≤ 40 ∧ (vs.length : Int) ≤ 40 ∧ (us.length : Int) ≤ 40) ∧ canon m ws = true ∧ canon n vs = true ∧ canon l us = true)) : Says E 9 [pI m ws, pI n vs, pI l us] (bZ true) := by
  refine says_of (xs := [bZ true]) Tryd.func9 rfl Tryd.ntmps9 Tryd.results9 (by simp) fun F hG hX0 hnt hdf P0 => ?_
  have L := ltn hnt
  have hX : ∀ b, F.X b → E.ng ≤ b := fun b h => absurd h (hX0 b)
  have hN := ng_le hG
  refine exr ?_
  refine swb (core_box (k := 3) (n := 2) (.pagg (.cons (.cons .nil))) rfl rfl (P0 _ rfl) (L _ rfl)) ⟨rfl, trivial⟩ trivial ⟨rfl, rfl⟩ ?_
  refine swb (core_box (k := 4) (n := 2) (.pagg (.cons (.cons .nil))) rfl rfl (P0 _ rfl) (L _ rfl)) ⟨rfl, trivial⟩ trivial ⟨rfl, rfl⟩ ?_
  refine swb (core_box (k := 5) (n := 2) (.pagg (.cons (.cons .nil))) rfl rfl (P0 _ rfl) (L _ rfl)) ⟨rfl, trivial⟩ trivial ⟨rfl, rfl⟩ ?_
  refine sw (core_assign (L _ rfl)) ⟨rfl, trivial⟩ trivial ?_
  refine seq_nil ⟨[(3, _), (4, _), (5, _)], [(3, _), (4, _), (5, _)], ⟨rfl, rfl, rfl, trivial⟩, ⟨rfl, rfl, rfl, trivial⟩, ?_⟩
  refine ex_seq ?_
  refine exm (sl := [(36, vb true)]) (sl0 := [(3, _), (4, _), (5, _)]) (hb := []) (hb0 := [(3, _), (4, _), (5, _)]) ⟨rfl, rfl, rfl, trivial⟩ ⟨rfl, rfl, rfl, trivial⟩ ?_ ?_
  · rcases p4 hn with h1 | ⟨h1, h2⟩ | ⟨h1, h2, h3⟩ | ⟨h1, h2, h3, h4⟩
    · refine sw (core_loadP Tryd.isAgg24 Tryd.sizeOf24 (by rfl) (by exact (.cons (.cons .nil))) rfl (L _ rfl)) ⟨rfl, trivial⟩ ⟨rfl, trivial⟩ ?_
      refine sw (core_loadP Tryd.isAgg24 Tryd.sizeOf24 (by rfl) (by exact (.cons (.cons .nil))) rfl (L _ rfl)) ⟨rfl, trivial⟩ ⟨rfl, trivial⟩ ?_
      refine sw (core_loadP Tryd.isAgg24 Tryd.sizeOf24 (by rfl) (by exact (.cons (.cons .nil))) rfl (L _ rfl)) ⟨rfl, trivial⟩ ⟨rfl, trivial⟩ ?_
      refine sw (core_call (E := E) hG hX Tryd.call12 rfl hN (lshort_says 40 m n l ws vs us) (L _ rfl)) ⟨rfl, rfl, rfl, rfl, trivial⟩ trivial ?_
      refine sw (core_not (L _ rfl)) ⟨rfl, trivial⟩ trivial ?_
      refine sw (core_move (L _ rfl)) ⟨rfl, trivial⟩ trivial ?_
      refine swn (g := 22) rfl (by simp [h1]) (L _ rfl) rfl ?_
      refine swn (g := 22) rfl (by simp [h1]) (L _ rfl) rfl ?_
      refine swn (g := 22) rfl (by simp [h1]) (L _ rfl) rfl ?_
      refine sw (core_pick_t (by simp [h1]) (L _ rfl)) ⟨rfl, rfl, trivial⟩ trivial ?_
      refine sw (core_move (L _ rfl)) ⟨rfl, trivial⟩ trivial ?_
      refine swn (g := 27) rfl (by simp [h1]) (L _ rfl) rfl ?_
      refine swn (g := 27) rfl (by simp [h1]) (L _ rfl) rfl ?_
      refine swn (g := 27) rfl (by simp [h1]) (L _ rfl) rfl ?_
      refine sw (core_pick_t rfl (L _ rfl)) ⟨rfl, rfl, trivial⟩ trivial ?_
      refine sw (core_move (L _ rfl)) ⟨rfl, trivial⟩ trivial ?_
      refine swn (g := 32) rfl (by simp [h1]) (L _ rfl) rfl ?_
      refine swn (g := 32) rfl (by simp [h1]) (L _ rfl) rfl ?_
      refine swn (g := 32) rfl (by simp [h1]) (L _ rfl) rfl ?_
      refine sw (core_pick_t rfl (L _ rfl)) ⟨rfl, rfl, trivial⟩ trivial ?_
      exact seq_nil ⟨⟨ob rfl rfl, rfl, rfl, rfl, trivial⟩, ⟨rfl, rfl, rfl, trivial⟩⟩
    · refine sw (core_loadP Tryd.isAgg24 Tryd.sizeOf24 (by rfl) (by exact (.cons (.cons .nil))) rfl (L _ rfl)) ⟨rfl, trivial⟩ ⟨rfl, trivial⟩ ?_
      refine sw (core_loadP Tryd.isAgg24 Tryd.sizeOf24 (by rfl) (by exact (.cons (.cons .nil))) rfl (L _ rfl)) ⟨rfl, trivial⟩ ⟨rfl, trivial⟩ ?_
      refine sw (core_loadP Tryd.isAgg24 Tryd.sizeOf24 (by rfl) (by exact (.cons (.cons .nil))) rfl (L _ rfl)) ⟨rfl, trivial⟩ ⟨rfl, trivial⟩ ?_
      refine sw (core_call (E := E) hG hX Tryd.call12 rfl hN (lshort_says 40 m n l ws vs us) (L _ rfl)) ⟨rfl, rfl, rfl, rfl, trivial⟩ trivial ?_
      refine sw (core_not (L _ rfl)) ⟨rfl, trivial⟩ trivial ?_
      refine sw (core_move (L _ rfl)) ⟨rfl, trivial⟩ trivial ?_
      refine swg (g := 22) rfl (by simp [h1]) (core_loadP Tryd.isAgg24 Tryd.sizeOf24 (by rfl) (by exact (.cons (.cons .nil))) rfl (L _ rfl)) rfl ⟨rfl, trivial⟩ ⟨rfl, trivial⟩ ?_
      refine swg (g := 22) rfl (by simp [h1]) (core_call (E := E) hG hX Tryd.call17 rfl hN (ris_says m ws (by omega)) (L _ rfl)) rfl ⟨rfl, trivial⟩ trivial ?_
      refine swg (g := 22) rfl (by simp [h1]) (core_not (L _ rfl)) rfl ⟨rfl, trivial⟩ trivial ?_
      refine sw (core_pick_f (by simp [h1]) (L _ rfl)) ⟨rfl, rfl, trivial⟩ trivial ?_
      refine sw (core_move (L _ rfl)) ⟨rfl, trivial⟩ trivial ?_
      refine swn (g := 27) rfl (by simp [h2]) (L _ rfl) rfl ?_
      refine swn (g := 27) rfl (by simp [h2]) (L _ rfl) rfl ?_
      refine swn (g := 27) rfl (by simp [h2]) (L _ rfl) rfl ?_
      refine sw (core_pick_t (by simp [h2]) (L _ rfl)) ⟨rfl, rfl, trivial⟩ trivial ?_
      refine sw (core_move (L _ rfl)) ⟨rfl, trivial⟩ trivial ?_
      refine swn (g := 32) rfl rfl (L _ rfl) rfl ?_
      refine swn (g := 32) rfl rfl (L _ rfl) rfl ?_
      refine swn (g := 32) rfl rfl (L _ rfl) rfl ?_
      refine sw (core_pick_t rfl (L _ rfl)) ⟨rfl, rfl, trivial⟩ trivial ?_
      exact seq_nil ⟨⟨ob rfl rfl, rfl, rfl, rfl, trivial⟩, ⟨rfl, rfl, rfl, trivial⟩⟩
    · refine sw (core_loadP Tryd.isAgg24 Tryd.sizeOf24 (by rfl) (by exact (.cons (.cons .nil))) rfl (L _ rfl)) ⟨rfl, trivial⟩ ⟨rfl, trivial⟩ ?_
      refine sw (core_loadP Tryd.isAgg24 Tryd.sizeOf24 (by rfl) (by exact (.cons (.cons .nil))) rfl (L _ rfl)) ⟨rfl, trivial⟩ ⟨rfl, trivial⟩ ?_
      refine sw (core_loadP Tryd.isAgg24 Tryd.sizeOf24 (by rfl) (by exact (.cons (.cons .nil))) rfl (L _ rfl)) ⟨rfl, trivial⟩ ⟨rfl, trivial⟩ ?_
      refine sw (core_call (E := E) hG hX Tryd.call12 rfl hN (lshort_says 40 m n l ws vs us) (L _ rfl)) ⟨rfl, rfl, rfl, rfl, trivial⟩ trivial ?_
      refine sw (core_not (L _ rfl)) ⟨rfl, trivial⟩ trivial ?_
      refine sw (core_move (L _ rfl)) ⟨rfl, trivial⟩ trivial ?_
      refine swg (g := 22) rfl (by simp [h1]) (core_loadP Tryd.isAgg24 Tryd.sizeOf24 (by rfl) (by exact (.cons (.cons .nil))) rfl (L _ rfl)) rfl ⟨rfl, trivial⟩ ⟨rfl, trivial⟩ ?_
      refine swg (g := 22) rfl (by simp [h1]) (core_call (E := E) hG hX Tryd.call17 rfl hN (ris_says m ws (by omega)) (L _ rfl)) rfl ⟨rfl, trivial⟩ trivial ?_
      refine swg (g := 22) rfl (by simp [h1]) (core_not (L _ rfl)) rfl ⟨rfl, trivial⟩ trivial ?_
      refine sw (core_pick_f (by simp [h1]) (L _ rfl)) ⟨rfl, rfl, trivial⟩ trivial ?_
      refine sw (core_move (L _ rfl)) ⟨rfl, trivial⟩ trivial ?_
      refine swg (g := 27) rfl (by simp [h2]) (core_loadP Tryd.isAgg24 Tryd.sizeOf24 (by rfl) (by exact (.cons (.cons .nil))) rfl (L _ rfl)) rfl ⟨rfl, trivial⟩ ⟨rfl, trivial⟩ ?_
      refine swg (g := 27) rfl (by simp [h2]) (core_call (E := E) hG hX Tryd.call17 rfl hN (ris_says n vs (by omega)) (L _ rfl)) rfl ⟨rfl, trivial⟩ trivial ?_
      refine swg (g := 27) rfl (by simp [h2]) (core_not (L _ rfl)) rfl ⟨rfl, trivial⟩ trivial ?_
      refine sw (core_pick_f (by simp [h2]) (L _ rfl)) ⟨rfl, rfl, trivial⟩ trivial ?_
      refine sw (core_move (L _ rfl)) ⟨rfl, trivial⟩ trivial ?_
      refine swn (g := 32) rfl (by simp [h3]) (L _ rfl) rfl ?_
      refine swn (g := 32) rfl (by simp [h3]) (L _ rfl) rfl ?_
      refine swn (g := 32) rfl (by simp [h3]) (L _ rfl) rfl ?_
      refine sw (core_pick_t (by simp [h3]) (L _ rfl)) ⟨rfl, rfl, trivial⟩ trivial ?_
      exact seq_nil ⟨⟨ob rfl rfl, rfl, rfl, rfl, trivial⟩, ⟨rfl, rfl, rfl, trivial⟩⟩
    · refine sw (core_loadP Tryd.isAgg24 Tryd.sizeOf24 (by rfl) (by exact (.cons (.cons .nil))) rfl (L _ rfl)) ⟨rfl, trivial⟩ ⟨rfl, trivial⟩ ?_
      refine sw (core_loadP Tryd.isAgg24 Tryd.sizeOf24 (by rfl) (by exact (.cons (.cons .nil))) rfl (L _ rfl)) ⟨rfl, trivial⟩ ⟨rfl, trivial⟩ ?_
      refine sw (core_loadP Tryd.isAgg24 Tryd.sizeOf24 (by rfl) (by exact (.cons (.cons .nil))) rfl (L _ rfl)) ⟨rfl, trivial⟩ ⟨rfl, trivial⟩ ?_
      refine sw (core_call (E := E) hG hX Tryd.call12 rfl hN (lshort_says 40 m n l ws vs us) (L _ rfl)) ⟨rfl, rfl, rfl, rfl, trivial⟩ trivial ?_
      refine sw (core_not (L _ rfl)) ⟨rfl, trivial⟩ trivial ?_
      refine sw (core_move (L _ rfl)) ⟨rfl, trivial⟩ trivial ?_
      refine swg (g := 22) rfl (by simp [h1]) (core_loadP Tryd.isAgg24 Tryd.sizeOf24 (by rfl) (by exact (.cons (.cons .nil))) rfl (L _ rfl)) rfl ⟨rfl, trivial⟩ ⟨rfl, trivial⟩ ?_
      refine swg (g := 22) rfl (by simp [h1]) (core_call (E := E) hG hX Tryd.call17 rfl hN (ris_says m ws (by omega)) (L _ rfl)) rfl ⟨rfl, trivial⟩ trivial ?_
      refine swg (g := 22) rfl (by simp [h1]) (core_not (L _ rfl)) rfl ⟨rfl, trivial⟩ trivial ?_
      refine sw (core_pick_f (by simp [h1]) (L _ rfl)) ⟨rfl, rfl, trivial⟩ trivial ?_
      refine sw (core_move (L _ rfl)) ⟨rfl, trivial⟩ trivial ?_
      refine swg (g := 27) rfl (by simp [h2]) (core_loadP Tryd.isAgg24 Tryd.sizeOf24 (by rfl) (by exact (.cons (.cons .nil))) rfl (L _ rfl)) rfl ⟨rfl, trivial⟩ ⟨rfl, trivial⟩ ?_
      refine swg (g := 27) rfl (by simp [h2]) (core_call (E := E) hG hX Tryd.call17 rfl hN (ris_says n vs (by omega)) (L _ rfl)) rfl ⟨rfl, trivial⟩ trivial ?_
      refine swg (g := 27) rfl (by simp [h2]) (core_not (L _ rfl)) rfl ⟨rfl, trivial⟩ trivial ?_
      refine sw (core_pick_f (by simp [h2]) (L _ rfl)) ⟨rfl, rfl, trivial⟩ trivial ?_
      refine sw (core_move (L _ rfl)) ⟨rfl, trivial⟩ trivial ?_
      refine swg (g := 32) rfl (by simp [h3]) (core_loadP Tryd.isAgg24 Tryd.sizeOf24 (by rfl) (by exact (.cons (.cons .nil))) rfl (L _ rfl)) rfl ⟨rfl, trivial⟩ ⟨rfl, trivial⟩ ?_
      refine swg (g := 32) rfl (by simp [h3]) (core_call (E := E) hG hX Tryd.call17 rfl hN (ris_says l us (by omega)) (L _ rfl)) rfl ⟨rfl, trivial⟩ trivial ?_
      refine swg (g := 32) rfl (by simp [h3]) (core_not (L _ rfl)) rfl ⟨rfl, trivial⟩ trivial ?_
      refine sw (core_pick_f (by simp [h3]) (L _ rfl)) ⟨rfl, rfl, trivial⟩ trivial ?_
      exact seq_nil ⟨⟨ob rfl (by simp [h4]), rfl, rfl, rfl, trivial⟩, ⟨rfl, rfl, rfl, trivial⟩⟩
  refine ex_if rfl (fun hc => ?_) (fun hc => ?_)
  · refine exr ?_
    refine sw (core_call (E := E) hG hX Tryd.call13 rfl hN sane_says (L _ rfl)) trivial trivial ?_
    refine sw (core_assign (L _ rfl)) ⟨rfl, trivial⟩ trivial ?_
    refine seq_nil ⟨[(6, _)], [], ⟨rfl, trivial⟩, trivial, ?_⟩
    refine ex_ret ?_
    refine ⟨.inr rfl, ResVs.cast (.cons (.tmp rfl) .nil) ?_⟩
    rfl
  · cases hc

theorem bezl_says (m n l : Bool) (ws vs us : List Int) (h : Wd ws) (h2 : Wd vs) (h3 : Wd us) : Says E 9 [pI m ws, pI n vs, pI l us] (bZ true) := by
  by_cases hn : ((ws.length : Int) ≤ 40 ∧ (vs.length : Int) ≤ 40 ∧ (us.length : Int) ≤ 40) ∧ canon m ws = true ∧ canon n vs = true ∧ canon l us = true
  · obtain ⟨⟨l1, l2, l3⟩, c1, c2, c3⟩ := hn
    rw [pI_eq h c1, pI_eq h2 c2, pI_eq h3 c3]
    have k1 := nw_val (m := m) h
    have k2 := nw_val (m := n) h2
    have k3 := nw_val (m := l) h3
    exact bezl_z _ _ _ (by omega) (by omega) (by omega)
  · exact bezl_no m n l ws vs us hn
end Go.Proofs.YtebkelnibecmjaaDoor.N
