/- Part NumArithmeticWalk of the proof: lemmas for the walks of the given functions. No statement of its own. -/
import Derived.Test.YtebkelnibecmjaaDoorSpec
set_option linter.unusedVariables false
set_option linter.unusedSimpArgs false
set_option linter.deprecated false
namespace Go.Proofs.YtebkelnibecmjaaDoor.N
open Go Go.Proofs.YtebkelnibecmjaaDoor.SH Go.Proofs.YtebkelnibecmjaaDoor.NumA
theorem nw_bez' (a b : Int) : nw (bU a b) ≤ nw b + 1 ∧ nw (bV a b) ≤ nw a + nw b + 10 := by
  by_cases hb : b = 0
  · subst hb
    have h1 : nw (bU a 0) ≤ 1 := by
      rw [bU, if_pos rfl]
      exact nw_le (by rcases sign3 a with h | h | h <;> rw [h.1] <;> decide)
    have h2 : nw (bV a 0) = 0 := by rw [bV, if_pos rfl]; exact nw_zero.2 rfl
    omega
  · have h1 : nw (bU a b) ≤ nw b := by rw [bU, if_neg hb]; exact bez_bd (bezU_spec hb)
    have h2 : nw (bV a b) ≤ max (nw (Int.gcd a b : Int)) (nw (bU a b * a)) + 1 + 1 := by
      rw [bV, if_neg hb, bU, if_neg hb]
      exact Nat.le_trans nw_ediv (Nat.add_le_add_right (nw_sub _ _) 1)
    have h3 : nw (Int.gcd a b : Int) ≤ nw b := nw_mono (by have := Int.gcd_le_natAbs_right (a := a) hb; simpa using this)
    have h4 := nw_mul (bU a b) a
    omega
theorem nw_ite {c : Prop} [Decidable c] {a : Int} {k : Nat} (hk : 0 < k) (h : nw a < k) : nw (if c then a else 0) < k := by
  split
  · exact h
  · rw [nw_zero.2 rfl]; exact hk
set_option maxRecDepth 100000 in
set_option maxHeartbeats 4000000 in
theorem arith_says (m n : Bool) (ws vs : List Int) (h : Wd ws) (h2 : Wd vs) : Says E 4 [pI m ws, pI n vs] (bZ true) := by
  refine says_of (xs := [bZ true]) Tryd.func4 rfl Tryd.ntmps4 Tryd.results4 (by simp) fun F hG hX0 hnt hdf P0 => ?_
  have L := ltn hnt
  have hX : ∀ b, F.X b → E.ng ≤ b := fun b h => absurd h (hX0 b)
  have hN := ng_le hG
  refine exr ?_
  refine swb (core_box (k := 2) (n := 2) (.pagg (.cons (.cons .nil))) rfl rfl (P0 _ rfl) (L _ rfl)) ⟨rfl, T0⟩ T0 ⟨rfl, rfl⟩ ?_
  refine swb (core_box (k := 3) (n := 2) (.pagg (.cons (.cons .nil))) rfl rfl (P0 _ rfl) (L _ rfl)) ⟨rfl, T0⟩ T0 ⟨rfl, rfl⟩ ?_
  refine sw (core_assign (L _ rfl)) ⟨rfl, T0⟩ T0 ?_
  refine seq_nil ⟨[(2, _), (3, _)], [(2, _), (3, _)], ⟨rfl, rfl, T0⟩, ⟨rfl, rfl, T0⟩, ?_⟩
  refine ex_seq ?_
  refine exr ?_
  refine sw (core_loadP Tryd.isAgg24 Tryd.sizeOf24 (by rfl) (by exact (.cons (.cons .nil))) rfl (L _ rfl)) ⟨rfl, T0⟩ ⟨rfl, T0⟩ ?_
  refine sw (core_loadP Tryd.isAgg24 Tryd.sizeOf24 (by rfl) (by exact (.cons (.cons .nil))) rfl (L _ rfl)) ⟨rfl, T0⟩ ⟨rfl, T0⟩ ?_
  refine sw (core_loadP Tryd.isAgg24 Tryd.sizeOf24 (by rfl) (by exact (.cons (.cons .nil))) rfl (L _ rfl)) ⟨rfl, T0⟩ ⟨rfl, T0⟩ ?_
  refine sw (core_call (E := E) hG hX Tryd.call12 rfl hN (lshort_says 40 m n n ws vs vs) (L _ rfl)) ⟨rfl, rfl, rfl, rfl, T0⟩ T0 ?_
  refine sw (core_not (L _ rfl)) ⟨rfl, T0⟩ T0 ?_
  refine seq_nil ⟨[(2, _), (3, _), (25, _)], [(2, _), (3, _)], ⟨rfl, rfl, rfl, T0⟩, ⟨rfl, rfl, T0⟩, ?_⟩
  refine ex_if rfl (fun hc => ?_) (fun hc => ?_)
  · refine exr ?_
    refine sw (core_call (E := E) hG hX Tryd.call13 rfl hN sane_says (L _ rfl)) T0 T0 ?_
    refine sw (core_assign (L _ rfl)) ⟨rfl, T0⟩ T0 ?_
    refine seq_nil ⟨[(4, _)], [], ⟨rfl, T0⟩, trivial, ?_⟩
    refine ex_ret ?_
    refine ⟨.inr rfl, ResVs.cast (.cons (.tmp rfl) .nil) ?_⟩
    rfl
  · have hc := ndf hc
    have l1 : ws.length ≤ 40 := by omega
    have l2 : vs.length ≤ 40 := by omega
    have na := nw_val (m := m) h
    have nb := nw_val (m := n) h2
    obtain ⟨b1, b2⟩ := nw_bez' (sg m (val ws)) (sg n (val vs))
    have b3 := nw_add (sg m (val ws)) (sg n (val vs))
    have b4 := nw_sub (sg m (val ws)) (sg n (val vs))
    have b5 := nw_mul (sg m (val ws)) (sg n (val vs))
    have b6 : nw (Int.gcd (sg m (val ws)) (sg n (val vs)) : Int) ≤ max (nw (sg m (val ws))) (nw (sg n (val vs))) := nw_max (by
      by_cases e : sg n (val vs) = 0
      · rw [e, Int.gcd_zero_right]; omega
      · have h3 := Nat.le_of_dvd (by omega) (Nat.gcd_dvd_right (sg m (val ws)).natAbs (sg n (val vs)).natAbs)
        have h4 : Int.gcd (sg m (val ws)) (sg n (val vs)) ≤ (sg n (val vs)).natAbs := h3
        omega)
    have b7 : nw (dQ m n ws vs) < 99999999 := by
      unfold dQ; exact nw_ite (by decide) (Nat.lt_of_le_of_lt nw_ediv (by omega))
    have b8 : nw (dR m n ws vs) < 99999999 := by
      unfold dR
      by_cases e : canon m ws = true ∧ canon n vs = true ∧ vs.length ≠ 0
      · rw [if_pos e]
        have hv := val_pos h2 (canon_tr e.2.1).1 e.2.2
        exact Nat.lt_of_le_of_lt (nw_emod (sg_ne (by omega))) (by omega)
      · rw [if_neg e, nw_zero.2 rfl]; decide
    refine ex_skip (show Exec _ _ _ _ _ from ?_)
    refine exr ?_
    refine sw (core_loadP Tryd.isAgg24 Tryd.sizeOf24 (by rfl) (by exact (.cons (.cons .nil))) rfl (L _ rfl)) ⟨rfl, T0⟩ ⟨rfl, T0⟩ ?_
    refine sw (core_loadP Tryd.isAgg24 Tryd.sizeOf24 (by rfl) (by exact (.cons (.cons .nil))) rfl (L _ rfl)) ⟨rfl, T0⟩ ⟨rfl, T0⟩ ?_
    refine sw (core_call (E := E) hG hX Tryd.call31 rfl hN (div_says m n ws vs (by omega) (by omega) h h2) (L _ rfl)) ⟨rfl, rfl, T0⟩ T0 ?_
    refine sw (core_move (L _ rfl)) ⟨rfl, T0⟩ T0 ?_
    refine sw (core_extract rfl (L _ rfl)) ⟨rfl, T0⟩ T0 ?_
    refine sw (core_extract rfl (L _ rfl)) ⟨rfl, T0⟩ T0 ?_
    refine sw (core_extract rfl (L _ rfl)) ⟨rfl, T0⟩ T0 ?_
    refine swb (core_alloc (k := 5) (n := 2) Tryd.zeroValue24 (.cons rfl (.cons rfl .nil)) rfl (P0 _ rfl) (L _ rfl)) trivial trivial ⟨rfl, rfl⟩ ?_
    refine swb (core_alloc (k := 6) (n := 2) Tryd.zeroValue24 (.cons rfl (.cons rfl .nil)) rfl (P0 _ rfl) (L _ rfl)) trivial trivial ⟨rfl, rfl⟩ ?_
    refine sb (core_storeM Tryd.sizeOf24 (by rfl) (.pagg (.cons (.cons .nil))) rfl (.put (.put .here))) ⟨rfl, rfl, T0⟩ ⟨rfl, T0⟩ ?_
    refine sb (core_storeM Tryd.sizeOf24 (by rfl) (.pagg (.cons (.cons .nil))) rfl (.put (.put .here))) ⟨rfl, rfl, T0⟩ ⟨rfl, T0⟩ ?_
    refine sw (core_assign (L _ rfl)) ⟨rfl, T0⟩ T0 ?_
    refine seq_nil ⟨[(2, _), (3, _), (5, _), (6, _), (7, _)], [(2, _), (3, _), (5, _), (6, _)], ⟨rfl, rfl, rfl, rfl, rfl, T0⟩, ⟨rfl, rfl, rfl, rfl, T0⟩, ?_⟩
    refine exr ?_
    refine sw (core_loadP Tryd.isAgg24 Tryd.sizeOf24 (by rfl) (by exact (.cons (.cons .nil))) rfl (L _ rfl)) ⟨rfl, T0⟩ ⟨rfl, T0⟩ ?_
    refine sw (core_loadP Tryd.isAgg24 Tryd.sizeOf24 (by rfl) (by exact (.cons (.cons .nil))) rfl (L _ rfl)) ⟨rfl, T0⟩ ⟨rfl, T0⟩ ?_
    refine sw (core_call (E := E) hG hX Tryd.call32 rfl hN (rdiv_says m n ws vs (by omega) (by omega) h h2) (L _ rfl)) ⟨rfl, rfl, T0⟩ T0 ?_
    refine sw (core_move (L _ rfl)) ⟨rfl, T0⟩ T0 ?_
    refine sw (core_extract rfl (L _ rfl)) ⟨rfl, T0⟩ T0 ?_
    refine sw (core_extract rfl (L _ rfl)) ⟨rfl, T0⟩ T0 ?_
    refine sw (core_extract rfl (L _ rfl)) ⟨rfl, T0⟩ T0 ?_
    refine swb (core_alloc (k := 8) (n := 2) Tryd.zeroValue24 (.cons rfl (.cons rfl .nil)) rfl (P0 _ rfl) (L _ rfl)) trivial trivial ⟨rfl, rfl⟩ ?_
    refine swb (core_alloc (k := 9) (n := 2) Tryd.zeroValue24 (.cons rfl (.cons rfl .nil)) rfl (P0 _ rfl) (L _ rfl)) trivial trivial ⟨rfl, rfl⟩ ?_
    refine sb (core_storeM Tryd.sizeOf24 (by rfl) (.pagg (.cons (.cons .nil))) rfl (.put (.put .here))) ⟨rfl, rfl, T0⟩ ⟨rfl, T0⟩ ?_
    refine sb (core_storeM Tryd.sizeOf24 (by rfl) (.pagg (.cons (.cons .nil))) rfl (.put (.put .here))) ⟨rfl, rfl, T0⟩ ⟨rfl, T0⟩ ?_
    refine sw (core_assign (L _ rfl)) ⟨rfl, T0⟩ T0 ?_
    refine seq_nil ⟨[(2, _), (3, _), (5, _), (6, _), (7, _), (8, _), (9, _), (10, _)], [(2, _), (3, _), (5, _), (6, _), (8, _), (9, _)], ⟨rfl, rfl, rfl, rfl, rfl, rfl, rfl, rfl, T0⟩, ⟨rfl, rfl, rfl, rfl, rfl, rfl, T0⟩, ?_⟩
    refine exr ?_
    refine sw (core_loadP Tryd.isAgg24 Tryd.sizeOf24 (by rfl) (by exact (.cons (.cons .nil))) rfl (L _ rfl)) ⟨rfl, T0⟩ ⟨rfl, T0⟩ ?_
    refine sw (core_loadP Tryd.isAgg24 Tryd.sizeOf24 (by rfl) (by exact (.cons (.cons .nil))) rfl (L _ rfl)) ⟨rfl, T0⟩ ⟨rfl, T0⟩ ?_
    refine sw (core_call (E := E) hG hX Tryd.call33 rfl hN (bez_says m n ws vs (by omega) (by omega) h h2) (L _ rfl)) ⟨rfl, rfl, T0⟩ T0 ?_
    refine sw (core_move (L _ rfl)) ⟨rfl, T0⟩ T0 ?_
    refine sw (core_extract rfl (L _ rfl)) ⟨rfl, T0⟩ T0 ?_
    refine sw (core_extract rfl (L _ rfl)) ⟨rfl, T0⟩ T0 ?_
    refine sw (core_extract rfl (L _ rfl)) ⟨rfl, T0⟩ T0 ?_
    refine sw (core_extract rfl (L _ rfl)) ⟨rfl, T0⟩ T0 ?_
    refine swb (core_alloc (k := 11) (n := 2) Tryd.zeroValue24 (.cons rfl (.cons rfl .nil)) rfl (P0 _ rfl) (L _ rfl)) trivial trivial ⟨rfl, rfl⟩ ?_
    refine swb (core_alloc (k := 12) (n := 2) Tryd.zeroValue24 (.cons rfl (.cons rfl .nil)) rfl (P0 _ rfl) (L _ rfl)) trivial trivial ⟨rfl, rfl⟩ ?_
    refine swb (core_alloc (k := 13) (n := 2) Tryd.zeroValue24 (.cons rfl (.cons rfl .nil)) rfl (P0 _ rfl) (L _ rfl)) trivial trivial ⟨rfl, rfl⟩ ?_
    refine sb (core_storeM Tryd.sizeOf24 (by rfl) (.pagg (.cons (.cons .nil))) rfl (.put (.put .here))) ⟨rfl, rfl, T0⟩ ⟨rfl, T0⟩ ?_
    refine sb (core_storeM Tryd.sizeOf24 (by rfl) (.pagg (.cons (.cons .nil))) rfl (.put (.put .here))) ⟨rfl, rfl, T0⟩ ⟨rfl, T0⟩ ?_
    refine sb (core_storeM Tryd.sizeOf24 (by rfl) (.pagg (.cons (.cons .nil))) rfl (.put (.put .here))) ⟨rfl, rfl, T0⟩ ⟨rfl, T0⟩ ?_
    refine sw (core_assign (L _ rfl)) ⟨rfl, T0⟩ T0 ?_
    refine seq_nil ⟨[(2, _), (3, _), (5, _), (6, _), (7, _), (8, _), (9, _), (10, _), (11, _), (12, _), (13, _), (14, _)], [(2, _), (3, _), (5, _), (6, _), (8, _), (9, _), (11, _), (12, _), (13, _)], ⟨rfl, rfl, rfl, rfl, rfl, rfl, rfl, rfl, rfl, rfl, rfl, rfl, T0⟩, ⟨rfl, rfl, rfl, rfl, rfl, rfl, rfl, rfl, rfl, T0⟩, ?_⟩
    refine exr ?_
    refine sw (core_loadP Tryd.isAgg24 Tryd.sizeOf24 (by rfl) (by exact (.cons (.cons .nil))) rfl (L _ rfl)) ⟨rfl, T0⟩ ⟨rfl, T0⟩ ?_
    refine sw (core_loadP Tryd.isAgg24 Tryd.sizeOf24 (by rfl) (by exact (.cons (.cons .nil))) rfl (L _ rfl)) ⟨rfl, T0⟩ ⟨rfl, T0⟩ ?_
    refine sw (core_call (E := E) hG hX Tryd.call34 rfl hN (rbez_says m n ws vs (by omega) (by omega) h h2) (L _ rfl)) ⟨rfl, rfl, T0⟩ T0 ?_
    refine sw (core_move (L _ rfl)) ⟨rfl, T0⟩ T0 ?_
    refine sw (core_extract rfl (L _ rfl)) ⟨rfl, T0⟩ T0 ?_
    refine sw (core_extract rfl (L _ rfl)) ⟨rfl, T0⟩ T0 ?_
    refine sw (core_extract rfl (L _ rfl)) ⟨rfl, T0⟩ T0 ?_
    refine sw (core_extract rfl (L _ rfl)) ⟨rfl, T0⟩ T0 ?_
    refine swb (core_alloc (k := 15) (n := 2) Tryd.zeroValue24 (.cons rfl (.cons rfl .nil)) rfl (P0 _ rfl) (L _ rfl)) trivial trivial ⟨rfl, rfl⟩ ?_
    refine swb (core_alloc (k := 16) (n := 2) Tryd.zeroValue24 (.cons rfl (.cons rfl .nil)) rfl (P0 _ rfl) (L _ rfl)) trivial trivial ⟨rfl, rfl⟩ ?_
    refine swb (core_alloc (k := 17) (n := 2) Tryd.zeroValue24 (.cons rfl (.cons rfl .nil)) rfl (P0 _ rfl) (L _ rfl)) trivial trivial ⟨rfl, rfl⟩ ?_
    refine sb (core_storeM Tryd.sizeOf24 (by rfl) (.pagg (.cons (.cons .nil))) rfl (.put (.put .here))) ⟨rfl, rfl, T0⟩ ⟨rfl, T0⟩ ?_
    refine sb (core_storeM Tryd.sizeOf24 (by rfl) (.pagg (.cons (.cons .nil))) rfl (.put (.put .here))) ⟨rfl, rfl, T0⟩ ⟨rfl, T0⟩ ?_
    refine sb (core_storeM Tryd.sizeOf24 (by rfl) (.pagg (.cons (.cons .nil))) rfl (.put (.put .here))) ⟨rfl, rfl, T0⟩ ⟨rfl, T0⟩ ?_
    refine sw (core_assign (L _ rfl)) ⟨rfl, T0⟩ T0 ?_
    refine seq_nil ⟨[(2, _), (3, _), (5, _), (6, _), (7, _), (8, _), (9, _), (10, _), (11, _), (12, _), (13, _), (14, _), (15, _), (16, _), (17, _), (18, _)], [(2, _), (3, _), (5, _), (6, _), (8, _), (9, _), (11, _), (12, _), (13, _), (15, _), (16, _), (17, _)], ⟨rfl, rfl, rfl, rfl, rfl, rfl, rfl, rfl, rfl, rfl, rfl, rfl, rfl, rfl, rfl, rfl, T0⟩, ⟨rfl, rfl, rfl, rfl, rfl, rfl, rfl, rfl, rfl, rfl, rfl, rfl, T0⟩, ?_⟩
    refine exd (by rfl) ?_
    refine sw (core_loadP Tryd.isAgg24 Tryd.sizeOf24 (by rfl) (by exact (.cons (.cons .nil))) rfl (L _ rfl)) ⟨rfl, T0⟩ ⟨rfl, T0⟩ ?_
    refine sw (core_loadP Tryd.isAgg24 Tryd.sizeOf24 (by rfl) (by exact (.cons (.cons .nil))) rfl (L _ rfl)) ⟨rfl, T0⟩ ⟨rfl, T0⟩ ?_
    refine sw (core_call (E := E) hG hX Tryd.call35 rfl hN (add_says m n ws vs (by omega) (by omega) h h2) (L _ rfl)) ⟨rfl, rfl, T0⟩ T0 ?_
    refine sw (core_loadP Tryd.isAgg24 Tryd.sizeOf24 (by rfl) (by exact (.cons (.cons .nil))) rfl (L _ rfl)) ⟨rfl, T0⟩ ⟨rfl, T0⟩ ?_
    refine sw (core_loadP Tryd.isAgg24 Tryd.sizeOf24 (by rfl) (by exact (.cons (.cons .nil))) rfl (L _ rfl)) ⟨rfl, T0⟩ ⟨rfl, T0⟩ ?_
    refine sw (core_call (E := E) hG hX Tryd.call36 rfl hN (raddI_says m n ws vs (by omega) (by omega) h h2) (L _ rfl)) ⟨rfl, rfl, T0⟩ T0 ?_
    refine sw (core_call (E := E) hG hX Tryd.call18 rfl hN (sameT rfl (nw_ite (by decide) (by omega))) (L _ rfl)) ⟨rfl, rfl, T0⟩ T0 ?_
    refine sw (core_move (L _ rfl)) ⟨rfl, T0⟩ T0 ?_
    refine swg (g := 64) rfl rfl (core_loadP Tryd.isAgg24 Tryd.sizeOf24 (by rfl) (by exact (.cons (.cons .nil))) rfl (L _ rfl)) rfl ⟨rfl, T0⟩ ⟨rfl, T0⟩ ?_
    refine swg (g := 64) rfl rfl (core_loadP Tryd.isAgg24 Tryd.sizeOf24 (by rfl) (by exact (.cons (.cons .nil))) rfl (L _ rfl)) rfl ⟨rfl, T0⟩ ⟨rfl, T0⟩ ?_
    refine swg (g := 64) rfl rfl (core_call (E := E) hG hX Tryd.call37 rfl hN (sub_says m n ws vs (by omega) (by omega) h h2) (L _ rfl)) rfl ⟨rfl, rfl, T0⟩ T0 ?_
    refine swg (g := 64) rfl rfl (core_loadP Tryd.isAgg24 Tryd.sizeOf24 (by rfl) (by exact (.cons (.cons .nil))) rfl (L _ rfl)) rfl ⟨rfl, T0⟩ ⟨rfl, T0⟩ ?_
    refine swg (g := 64) rfl rfl (core_loadP Tryd.isAgg24 Tryd.sizeOf24 (by rfl) (by exact (.cons (.cons .nil))) rfl (L _ rfl)) rfl ⟨rfl, T0⟩ ⟨rfl, T0⟩ ?_
    refine swg (g := 64) rfl rfl (core_call (E := E) hG hX Tryd.call38 rfl hN (rsubI_says m n ws vs (by omega) (by omega) h h2) (L _ rfl)) rfl ⟨rfl, rfl, T0⟩ T0 ?_
    refine swg (g := 64) rfl rfl (core_call (E := E) hG hX Tryd.call18 rfl hN (sameT rfl (nw_ite (by decide) (by omega))) (L _ rfl)) rfl ⟨rfl, rfl, T0⟩ T0 ?_
    refine sw (core_pick_t rfl (L _ rfl)) ⟨rfl, rfl, T0⟩ T0 ?_
    refine sw (core_move (L _ rfl)) ⟨rfl, T0⟩ T0 ?_
    refine swg (g := 73) rfl rfl (core_loadP Tryd.isAgg24 Tryd.sizeOf24 (by rfl) (by exact (.cons (.cons .nil))) rfl (L _ rfl)) rfl ⟨rfl, T0⟩ ⟨rfl, T0⟩ ?_
    refine swg (g := 73) rfl rfl (core_loadP Tryd.isAgg24 Tryd.sizeOf24 (by rfl) (by exact (.cons (.cons .nil))) rfl (L _ rfl)) rfl ⟨rfl, T0⟩ ⟨rfl, T0⟩ ?_
    refine swg (g := 73) rfl rfl (core_call (E := E) hG hX Tryd.call39 rfl hN (mul_says m n ws vs (by omega) (by omega) h h2) (L _ rfl)) rfl ⟨rfl, rfl, T0⟩ T0 ?_
    refine swg (g := 73) rfl rfl (core_loadP Tryd.isAgg24 Tryd.sizeOf24 (by rfl) (by exact (.cons (.cons .nil))) rfl (L _ rfl)) rfl ⟨rfl, T0⟩ ⟨rfl, T0⟩ ?_
    refine swg (g := 73) rfl rfl (core_loadP Tryd.isAgg24 Tryd.sizeOf24 (by rfl) (by exact (.cons (.cons .nil))) rfl (L _ rfl)) rfl ⟨rfl, T0⟩ ⟨rfl, T0⟩ ?_
    refine swg (g := 73) rfl rfl (core_call (E := E) hG hX Tryd.call40 rfl hN (rmulI_says m n ws vs (by omega) (by omega) h h2) (L _ rfl)) rfl ⟨rfl, rfl, T0⟩ T0 ?_
    refine swg (g := 73) rfl rfl (core_call (E := E) hG hX Tryd.call18 rfl hN (sameT rfl (nw_ite (by decide) (by omega))) (L _ rfl)) rfl ⟨rfl, rfl, T0⟩ T0 ?_
    refine sw (core_pick_t rfl (L _ rfl)) ⟨rfl, rfl, T0⟩ T0 ?_
    refine sw (core_assign (L _ rfl)) ⟨rfl, T0⟩ T0 ?_
    refine seq_nil ⟨aoks [⟨[2], [2], [57], []⟩, ⟨[3], [3], [58], []⟩, ⟨[57, 58], [], [59], []⟩, ⟨[2], [2], [60], []⟩, ⟨[3], [3], [61], []⟩, ⟨[60, 61], [], [62], []⟩, ⟨[59, 62], [], [63], []⟩, ⟨[63], [], [64], []⟩, ⟨[64, 2], [2], [65], []⟩, ⟨[64, 3], [3], [66], []⟩, ⟨[64, 65, 66], [], [67], []⟩, ⟨[64, 2], [2], [68], []⟩, ⟨[64, 3], [3], [69], []⟩, ⟨[64, 68, 69], [], [70], []⟩, ⟨[64, 67, 70], [], [71], []⟩, ⟨[64, 71], [], [72], []⟩, ⟨[72], [], [73], []⟩, ⟨[73, 2], [2], [74], []⟩, ⟨[73, 3], [3], [75], []⟩, ⟨[73, 74, 75], [], [76], []⟩, ⟨[73, 2], [2], [77], []⟩, ⟨[73, 3], [3], [78], []⟩, ⟨[73, 77, 78], [], [79], []⟩, ⟨[73, 76, 79], [], [80], []⟩, ⟨[73, 80], [], [81], []⟩, ⟨[81], [], [19], []⟩] (by rfl) (by rfl) (by decide), [(2, _), (3, _), (5, _), (6, _), (7, _), (8, _), (9, _), (10, _), (11, _), (12, _), (13, _), (14, _), (15, _), (16, _), (17, _), (18, _), (19, _)], [(2, _), (3, _), (5, _), (6, _), (8, _), (9, _), (11, _), (12, _), (13, _), (15, _), (16, _), (17, _)], ⟨rfl, rfl, rfl, rfl, rfl, rfl, rfl, rfl, rfl, rfl, rfl, rfl, rfl, rfl, rfl, rfl, rfl, T0⟩, ⟨rfl, rfl, rfl, rfl, rfl, rfl, rfl, rfl, rfl, rfl, rfl, rfl, T0⟩, ?_⟩
    refine exd (by rfl) ?_
    refine sw (core_loadP Tryd.isAgg24 Tryd.sizeOf24 (by rfl) (by exact (.cons (.cons .nil))) rfl (L _ rfl)) ⟨rfl, T0⟩ ⟨rfl, T0⟩ ?_
    refine sw (core_loadP Tryd.isAgg24 Tryd.sizeOf24 (by rfl) (by exact (.cons (.cons .nil))) rfl (L _ rfl)) ⟨rfl, T0⟩ ⟨rfl, T0⟩ ?_
    refine sw (core_call (E := E) hG hX Tryd.call18 rfl hN (sameT rfl b7) (L _ rfl)) ⟨rfl, rfl, T0⟩ T0 ?_
    refine sw (core_move (L _ rfl)) ⟨rfl, T0⟩ T0 ?_
    refine swg (g := 85) rfl (by simp) (core_loadP Tryd.isAgg24 Tryd.sizeOf24 (by rfl) (by exact (.cons (.cons .nil))) rfl (L _ rfl)) rfl ⟨rfl, T0⟩ ⟨rfl, T0⟩ ?_
    refine swg (g := 85) rfl (by simp) (core_loadP Tryd.isAgg24 Tryd.sizeOf24 (by rfl) (by exact (.cons (.cons .nil))) rfl (L _ rfl)) rfl ⟨rfl, T0⟩ ⟨rfl, T0⟩ ?_
    refine swg (g := 85) rfl (by simp) (core_call (E := E) hG hX Tryd.call18 rfl hN (sameT rfl b8) (L _ rfl)) rfl ⟨rfl, rfl, T0⟩ T0 ?_
    refine sw (core_pick_t (by simp) (L _ rfl)) ⟨rfl, rfl, T0⟩ T0 ?_
    refine sw (core_move (L _ rfl)) ⟨rfl, T0⟩ T0 ?_
    refine swg (g := 90) rfl (by simp) (core_move (L _ rfl)) rfl ⟨rfl, T0⟩ T0 ?_
    refine swg (g := 90) rfl (by simp) (core_move (L _ rfl)) rfl ⟨rfl, T0⟩ T0 ?_
    refine swg (g := 90) rfl (by simp) (core_eql (L _ rfl)) rfl ⟨rfl, rfl, T0⟩ T0 ?_
    refine sw (core_pick_t (by simp) (L _ rfl)) ⟨rfl, rfl, T0⟩ T0 ?_
    refine sw (core_move (L _ rfl)) ⟨rfl, T0⟩ T0 ?_
    refine swg (g := 95) rfl (by simp) (core_loadP Tryd.isAgg24 Tryd.sizeOf24 (by rfl) (by exact (.cons (.cons .nil))) rfl (L _ rfl)) rfl ⟨rfl, T0⟩ ⟨rfl, T0⟩ ?_
    refine swg (g := 95) rfl (by simp) (core_loadP Tryd.isAgg24 Tryd.sizeOf24 (by rfl) (by exact (.cons (.cons .nil))) rfl (L _ rfl)) rfl ⟨rfl, T0⟩ ⟨rfl, T0⟩ ?_
    refine swg (g := 95) rfl (by simp) (core_call (E := E) hG hX Tryd.call41 rfl hN (gcd_says m n ws vs (by omega) (by omega) h h2) (L _ rfl)) rfl ⟨rfl, rfl, T0⟩ T0 ?_
    refine swg (g := 95) rfl (by simp) (core_loadP Tryd.isAgg24 Tryd.sizeOf24 (by rfl) (by exact (.cons (.cons .nil))) rfl (L _ rfl)) rfl ⟨rfl, T0⟩ ⟨rfl, T0⟩ ?_
    refine swg (g := 95) rfl (by simp) (core_loadP Tryd.isAgg24 Tryd.sizeOf24 (by rfl) (by exact (.cons (.cons .nil))) rfl (L _ rfl)) rfl ⟨rfl, T0⟩ ⟨rfl, T0⟩ ?_
    refine swg (g := 95) rfl (by simp) (core_call (E := E) hG hX Tryd.call42 rfl hN (rgcd_says m n ws vs (by omega) (by omega) h h2) (L _ rfl)) rfl ⟨rfl, rfl, T0⟩ T0 ?_
    refine swg (g := 95) rfl (by simp) (core_call (E := E) hG hX Tryd.call18 rfl hN (sameT rfl (nw_ite (by decide) (by omega))) (L _ rfl)) rfl ⟨rfl, rfl, T0⟩ T0 ?_
    refine sw (core_pick_t (by simp) (L _ rfl)) ⟨rfl, rfl, T0⟩ T0 ?_
    refine sw (core_assign (L _ rfl)) ⟨rfl, T0⟩ T0 ?_
    refine seq_nil ⟨aoks [⟨[5], [5], [82], []⟩, ⟨[8], [8], [83], []⟩, ⟨[82, 83], [], [84], []⟩, ⟨[84], [], [85], []⟩, ⟨[85, 6], [6], [86], []⟩, ⟨[85, 9], [9], [87], []⟩, ⟨[85, 86, 87], [], [88], []⟩, ⟨[85, 88], [], [89], []⟩, ⟨[89], [], [90], []⟩, ⟨[90, 7], [], [91], []⟩, ⟨[90, 10], [], [92], []⟩, ⟨[90, 91, 92], [], [93], []⟩, ⟨[90, 93], [], [94], []⟩, ⟨[94], [], [95], []⟩, ⟨[95, 2], [2], [96], []⟩, ⟨[95, 3], [3], [97], []⟩, ⟨[95, 96, 97], [], [98], []⟩, ⟨[95, 2], [2], [99], []⟩, ⟨[95, 3], [3], [100], []⟩, ⟨[95, 99, 100], [], [101], []⟩, ⟨[95, 98, 101], [], [102], []⟩, ⟨[95, 102], [], [103], []⟩, ⟨[103], [], [20], []⟩] (by rfl) (by rfl) (by decide), [(11, _), (12, _), (13, _), (14, _), (15, _), (16, _), (17, _), (18, _), (19, _), (20, _)], [(11, _), (12, _), (13, _), (15, _), (16, _), (17, _)], ⟨rfl, rfl, rfl, rfl, rfl, rfl, rfl, rfl, rfl, rfl, T0⟩, ⟨rfl, rfl, rfl, rfl, rfl, rfl, T0⟩, ?_⟩
    refine exr ?_
    refine sw (core_call (E := E) hG hX Tryd.call13 rfl hN sane_says (L _ rfl)) T0 T0 ?_
    refine sw (core_move (L _ rfl)) ⟨rfl, T0⟩ T0 ?_
    refine swg (g := 105) rfl (by simp) (core_move (L _ rfl)) rfl ⟨rfl, T0⟩ T0 ?_
    refine sw (core_pick_t (by simp) (L _ rfl)) ⟨rfl, rfl, T0⟩ T0 ?_
    refine sw (core_move (L _ rfl)) ⟨rfl, T0⟩ T0 ?_
    refine swg (g := 108) rfl (by simp) (core_move (L _ rfl)) rfl ⟨rfl, T0⟩ T0 ?_
    refine sw (core_pick_t (by simp) (L _ rfl)) ⟨rfl, rfl, T0⟩ T0 ?_
    refine sw (core_move (L _ rfl)) ⟨rfl, T0⟩ T0 ?_
    refine swg (g := 111) rfl (by simp) (core_loadP Tryd.isAgg24 Tryd.sizeOf24 (by rfl) (by exact (.cons (.cons .nil))) rfl (L _ rfl)) rfl ⟨rfl, T0⟩ ⟨rfl, T0⟩ ?_
    refine swg (g := 111) rfl (by simp) (core_loadP Tryd.isAgg24 Tryd.sizeOf24 (by rfl) (by exact (.cons (.cons .nil))) rfl (L _ rfl)) rfl ⟨rfl, T0⟩ ⟨rfl, T0⟩ ?_
    refine swg (g := 111) rfl (by simp) (core_call (E := E) hG hX Tryd.call18 rfl hN (sameT rfl (nw_ite (by decide) (by omega))) (L _ rfl)) rfl ⟨rfl, rfl, T0⟩ T0 ?_
    refine sw (core_pick_t (by simp) (L _ rfl)) ⟨rfl, rfl, T0⟩ T0 ?_
    refine sw (core_move (L _ rfl)) ⟨rfl, T0⟩ T0 ?_
    refine swg (g := 116) rfl (by simp) (core_loadP Tryd.isAgg24 Tryd.sizeOf24 (by rfl) (by exact (.cons (.cons .nil))) rfl (L _ rfl)) rfl ⟨rfl, T0⟩ ⟨rfl, T0⟩ ?_
    refine swg (g := 116) rfl (by simp) (core_loadP Tryd.isAgg24 Tryd.sizeOf24 (by rfl) (by exact (.cons (.cons .nil))) rfl (L _ rfl)) rfl ⟨rfl, T0⟩ ⟨rfl, T0⟩ ?_
    refine swg (g := 116) rfl (by simp) (core_call (E := E) hG hX Tryd.call18 rfl hN (sameT rfl (nw_ite (by decide) (by omega))) (L _ rfl)) rfl ⟨rfl, rfl, T0⟩ T0 ?_
    refine sw (core_pick_t (by simp) (L _ rfl)) ⟨rfl, rfl, T0⟩ T0 ?_
    refine sw (core_move (L _ rfl)) ⟨rfl, T0⟩ T0 ?_
    refine swg (g := 121) rfl (by simp) (core_loadP Tryd.isAgg24 Tryd.sizeOf24 (by rfl) (by exact (.cons (.cons .nil))) rfl (L _ rfl)) rfl ⟨rfl, T0⟩ ⟨rfl, T0⟩ ?_
    refine swg (g := 121) rfl (by simp) (core_loadP Tryd.isAgg24 Tryd.sizeOf24 (by rfl) (by exact (.cons (.cons .nil))) rfl (L _ rfl)) rfl ⟨rfl, T0⟩ ⟨rfl, T0⟩ ?_
    refine swg (g := 121) rfl (by simp) (core_call (E := E) hG hX Tryd.call18 rfl hN (sameT rfl (nw_ite (by decide) (by omega))) (L _ rfl)) rfl ⟨rfl, rfl, T0⟩ T0 ?_
    refine sw (core_pick_t (by simp) (L _ rfl)) ⟨rfl, rfl, T0⟩ T0 ?_
    refine sw (core_move (L _ rfl)) ⟨rfl, T0⟩ T0 ?_
    refine swg (g := 126) rfl (by simp) (core_move (L _ rfl)) rfl ⟨rfl, T0⟩ T0 ?_
    refine swg (g := 126) rfl (by simp) (core_move (L _ rfl)) rfl ⟨rfl, T0⟩ T0 ?_
    refine swg (g := 126) rfl (by simp) (core_eql (L _ rfl)) rfl ⟨rfl, rfl, T0⟩ T0 ?_
    refine sw (core_pick_t (by simp) (L _ rfl)) ⟨rfl, rfl, T0⟩ T0 ?_
    refine sw (core_assign (L _ rfl)) ⟨rfl, T0⟩ T0 ?_
    refine seq_nil ⟨[(4, _)], [], ⟨rfl, T0⟩, trivial, ?_⟩
    refine ex_ret ?_
    refine ⟨.inr rfl, ResVs.cast (.cons (.tmp rfl) .nil) ?_⟩
    simp

end Go.Proofs.YtebkelnibecmjaaDoor.N
