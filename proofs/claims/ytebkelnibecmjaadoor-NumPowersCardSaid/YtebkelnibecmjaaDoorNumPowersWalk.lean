/- Part NumPowersWalk of the proof: lemmas for the walks of the given functions. No statement of its own. -/
import Derived.Test.YtebkelnibecmjaaDoorSpec
set_option linter.unusedVariables false
set_option linter.unusedSimpArgs false
set_option linter.deprecated false
namespace Go.Proofs.YtebkelnibecmjaaDoor.N
open Go Go.Proofs.YtebkelnibecmjaaDoor.SH Go.Proofs.YtebkelnibecmjaaDoor.NumA
theorem nw_small1 {a : Int} (h : a.natAbs ≤ 1) : nw a ≤ 1 := nw_le (by omega)
theorem nw_powV (c : Bool) (A n : Int) : nw (powV c A n) ≤ nw A + 40000 := by
  unfold powV
  split
  · rename_i h
    by_cases hb : bl A.natAbs ≤ 1
    · have h1 : A.natAbs < 2 := by have := (bl_spec (n := A.natAbs) (k := 1)).1 hb; simpa using this
      have : nw (A ^ n.toNat) ≤ 1 := nw_small1 (by
        rw [Int.natAbs_pow]
        have := Nat.pow_le_pow_left (show A.natAbs ≤ 1 by omega) n.toNat
        rwa [Nat.one_pow] at this)
      omega
    · have := pow_nw (A := A) (e := n.toNat) (.inr (by
        unfold powE at h
        split at h
        · split at h
          · omega
          · split at h
            · omega
            · rename_i hq
              have h0 : n.toNat ≤ 1048576 / bl A.natAbs := Nat.le_of_not_lt fun hh => hq ⟨by omega, hh⟩
              have h2 : bl A.natAbs * n.toNat ≤ bl A.natAbs * (1048576 / bl A.natAbs) := Nat.mul_le_mul_left _ h0
              have h3 := Nat.mul_div_le 1048576 (bl A.natAbs)
              omega
        · omega))
      omega
  · rw [nw_zero.2 rfl]; exact Nat.zero_le _
set_option maxRecDepth 100000 in
set_option maxHeartbeats 4000000 in
theorem powers_says (m : Bool) (ws : List Int) (n : Int) (h : Wd ws) (hn0 : -9223372036854775808 ≤ n) (hn1 : n < 9223372036854775808) : Says E 5 [pI m ws, vZ n] (bZ true) := by
  refine says_of (xs := [bZ true]) Tryd.func5 rfl Tryd.ntmps5 Tryd.results5 (by simp) fun F hG hX0 hnt hdf P0 => ?_
  have L := ltn hnt
  have hX : ∀ b, F.X b → E.ng ≤ b := fun b h => absurd h (hX0 b)
  have hN := ng_le hG
  refine exr ?_
  refine swb (core_box (k := 2) (n := 2) (.pagg (.cons (.cons .nil))) rfl rfl (P0 _ rfl) (L _ rfl)) ⟨rfl, trivial⟩ trivial ⟨rfl, rfl⟩ ?_
  refine sw (core_assign (L _ rfl)) ⟨rfl, trivial⟩ trivial ?_
  refine seq_nil ⟨[(1, _), (2, _)], [(2, _)], ⟨rfl, rfl, trivial⟩, ⟨rfl, trivial⟩, ?_⟩
  refine ex_seq ?_
  refine exr ?_
  refine sw (core_loadP Tryd.isAgg24 Tryd.sizeOf24 (by rfl) (by exact (.cons (.cons .nil))) rfl (L _ rfl)) ⟨rfl, trivial⟩ ⟨rfl, trivial⟩ ?_
  refine sw (core_loadP Tryd.isAgg24 Tryd.sizeOf24 (by rfl) (by exact (.cons (.cons .nil))) rfl (L _ rfl)) ⟨rfl, trivial⟩ ⟨rfl, trivial⟩ ?_
  refine sw (core_loadP Tryd.isAgg24 Tryd.sizeOf24 (by rfl) (by exact (.cons (.cons .nil))) rfl (L _ rfl)) ⟨rfl, trivial⟩ ⟨rfl, trivial⟩ ?_
  refine sw (core_call (E := E) hG hX Tryd.call12 rfl hN (lshort_says 40 m m m ws ws ws) (L _ rfl)) ⟨rfl, rfl, rfl, rfl, trivial⟩ trivial ?_
  refine sw (core_not (L _ rfl)) ⟨rfl, trivial⟩ trivial ?_
  refine seq_nil ⟨[(1, _), (2, _), (18, _)], [(2, _)], ⟨rfl, rfl, rfl, trivial⟩, ⟨rfl, trivial⟩, ?_⟩
  refine ex_if rfl (fun hc => ?_) (fun hc => ?_)
  · refine exr ?_
    refine sw (core_call (E := E) hG hX Tryd.call13 rfl hN sane_says (L _ rfl)) trivial trivial ?_
    refine sw (core_assign (L _ rfl)) ⟨rfl, trivial⟩ trivial ?_
    refine seq_nil ⟨[(4, _)], [], ⟨rfl, trivial⟩, trivial, ?_⟩
    refine ex_ret ?_
    refine ⟨.inr rfl, ResVs.cast (.cons (.tmp rfl) .nil) ?_⟩
    rfl
  · have hc := ndf hc
    have l1 : ws.length ≤ 40 := by omega
    have k1 := nw_val (m := m) h
    have k2 := nw_powV (canon m ws) (sg m (val ws)) n
    have hsq : nw (if canon m ws = true then if sg m (val ws) < 0 then 0 else sqZ (sg m (val ws)) else 0) < 99999999 := by
      have z0 : nw (0 : Int) = 0 := nw_zero.2 rfl
      split
      · split
        · omega
        · rename_i hneg
          obtain ⟨i0, i1, i2⟩ := sq_ex (a := sg m (val ws)) (by omega)
          have : nw (sqZ (sg m (val ws))) ≤ nw (sg m (val ws)) := nw_mono (by
            have : sqZ (sg m (val ws)) * sqZ (sg m (val ws)) ≥ sqZ (sg m (val ws)) ∨ sqZ (sg m (val ws)) = 0 := by
              by_cases e : sqZ (sg m (val ws)) = 0
              · exact .inr e
              · left
                have := Int.mul_le_mul_of_nonneg_left (show (1 : Int) ≤ sqZ (sg m (val ws)) by omega) i0
                omega
            rcases this with h | h <;> omega)
          omega
      · omega
    refine ex_skip (show Exec _ _ _ _ _ from ?_)
    refine exr ?_
    refine sw (core_loadP Tryd.isAgg24 Tryd.sizeOf24 (by rfl) (by exact (.cons (.cons .nil))) rfl (L _ rfl)) ⟨rfl, trivial⟩ ⟨rfl, trivial⟩ ?_
    refine sw (core_call (E := E) hG hX Tryd.call43 rfl hN (sqrt_says m ws (by omega) h) (L _ rfl)) ⟨rfl, trivial⟩ trivial ?_
    refine sw (core_move (L _ rfl)) ⟨rfl, trivial⟩ trivial ?_
    refine sw (core_extract rfl (L _ rfl)) ⟨rfl, trivial⟩ trivial ?_
    refine sw (core_extract rfl (L _ rfl)) ⟨rfl, trivial⟩ trivial ?_
    refine swb (core_alloc (k := 5) (n := 2) Tryd.zeroValue24 (.cons rfl (.cons rfl .nil)) rfl (P0 _ rfl) (L _ rfl)) trivial trivial ⟨rfl, rfl⟩ ?_
    refine sb (core_storeM Tryd.sizeOf24 (by rfl) (.pagg (.cons (.cons .nil))) rfl (.put (.put .here))) ⟨rfl, rfl, trivial⟩ ⟨rfl, trivial⟩ ?_
    refine sw (core_assign (L _ rfl)) ⟨rfl, trivial⟩ trivial ?_
    refine seq_nil ⟨[(1, _), (2, _), (5, _), (6, _)], [(2, _), (5, _)], ⟨rfl, rfl, rfl, rfl, trivial⟩, ⟨rfl, rfl, trivial⟩, ?_⟩
    refine exr ?_
    refine sw (core_loadP Tryd.isAgg24 Tryd.sizeOf24 (by rfl) (by exact (.cons (.cons .nil))) rfl (L _ rfl)) ⟨rfl, trivial⟩ ⟨rfl, trivial⟩ ?_
    refine sw (core_call (E := E) hG hX Tryd.call44 rfl hN (rsqrt_says m ws (by omega) h) (L _ rfl)) ⟨rfl, trivial⟩ trivial ?_
    refine sw (core_move (L _ rfl)) ⟨rfl, trivial⟩ trivial ?_
    refine sw (core_extract rfl (L _ rfl)) ⟨rfl, trivial⟩ trivial ?_
    refine sw (core_extract rfl (L _ rfl)) ⟨rfl, trivial⟩ trivial ?_
    refine swb (core_alloc (k := 7) (n := 2) Tryd.zeroValue24 (.cons rfl (.cons rfl .nil)) rfl (P0 _ rfl) (L _ rfl)) trivial trivial ⟨rfl, rfl⟩ ?_
    refine sb (core_storeM Tryd.sizeOf24 (by rfl) (.pagg (.cons (.cons .nil))) rfl (.put (.put .here))) ⟨rfl, rfl, trivial⟩ ⟨rfl, trivial⟩ ?_
    refine sw (core_assign (L _ rfl)) ⟨rfl, trivial⟩ trivial ?_
    refine seq_nil ⟨[(1, _), (2, _), (5, _), (6, _), (7, _), (8, _)], [(2, _), (5, _), (7, _)], ⟨rfl, rfl, rfl, rfl, rfl, rfl, trivial⟩, ⟨rfl, rfl, rfl, trivial⟩, ?_⟩
    refine ex_seq ?_
    refine exr ?_
    refine sw (core_loadP Tryd.isAgg24 Tryd.sizeOf24 (by rfl) (by exact (.cons (.cons .nil))) rfl (L _ rfl)) ⟨rfl, trivial⟩ ⟨rfl, trivial⟩ ?_
    refine sw (core_loadP Tryd.isAgg24 Tryd.sizeOf24 (by rfl) (by exact (.cons (.cons .nil))) rfl (L _ rfl)) ⟨rfl, trivial⟩ ⟨rfl, trivial⟩ ?_
    refine sw (core_call (E := E) hG hX Tryd.call18 rfl hN (sameT rfl hsq) (L _ rfl)) ⟨rfl, rfl, trivial⟩ trivial ?_
    refine sw (core_not (L _ rfl)) ⟨rfl, trivial⟩ trivial ?_
    refine sw (core_move (L _ rfl)) ⟨rfl, trivial⟩ trivial ?_
    refine swg (g := 34) rfl (by simp) (core_move (L _ rfl)) rfl ⟨rfl, trivial⟩ trivial ?_
    refine swg (g := 34) rfl (by simp) (core_move (L _ rfl)) rfl ⟨rfl, trivial⟩ trivial ?_
    refine swg (g := 34) rfl (by simp) (core_neq (L _ rfl)) rfl ⟨rfl, rfl, trivial⟩ trivial ?_
    refine sw (core_pick_f (by simp) (L _ rfl)) ⟨rfl, rfl, trivial⟩ trivial ?_
    refine seq_nil ⟨[(1, _), (2, _), (38, _)], [(2, _)], ⟨rfl, rfl, rfl, trivial⟩, ⟨rfl, trivial⟩, ?_⟩
    refine ex_if rfl (fun hx => ?_) (fun hx => ?_)
    · exact absurd hx (by simp)
    · refine ex_skip (show Exec _ _ _ _ _ from ?_)
      refine ex_seq ?_
      refine exr ?_
      refine sw (core_loadP Tryd.isAgg24 Tryd.sizeOf24 (by rfl) (by exact (.cons (.cons .nil))) rfl (L _ rfl)) ⟨rfl, trivial⟩ ⟨rfl, trivial⟩ ?_
      refine sw (core_call (E := E) hG hX Tryd.call22 rfl hN (rbits_says m ws (by omega) h) (L _ rfl)) ⟨rfl, trivial⟩ trivial ?_
      refine sw (core_assign (L _ rfl)) ⟨rfl, trivial⟩ trivial ?_
      refine seq_nil ⟨[(1, _), (2, _), (9, _)], [(2, _)], ⟨rfl, rfl, rfl, trivial⟩, ⟨rfl, trivial⟩, ?_⟩
      obtain ⟨K, hK⟩ : ∃ K : Nat, (K : Int) = if canon m ws = true then (bl (val ws).toNat : Int) else 0 := by
        by_cases e : canon m ws = true
        · exact ⟨bl (val ws).toNat, by rw [if_pos e]⟩
        · exact ⟨0, by rw [if_neg e]; rfl⟩
      rw [← hK]
      obtain ⟨q1, hq1⟩ : ∃ q1, q1 = 5000 / K := ⟨_, rfl⟩
      obtain ⟨q2, hq2⟩ : ∃ q2, q2 = 1048576 / K := ⟨_, rfl⟩
      have hb1 : q1 ≤ 5000 := by rw [hq1]; exact Nat.div_le_self _ _
      have hb2 : q2 ≤ 1048576 := by rw [hq2]; exact Nat.div_le_self _ _
      refine exm (sl := [(54, vb (decide (1 < K ∧ (q1 : Int) < n ∧ n ≤ (q2 : Int))))]) (sl0 := [(1, _), (2, _)]) (hb := []) (hb0 := [(2, _)]) ⟨rfl, rfl, trivial⟩ ⟨rfl, trivial⟩ ?_ ?_
      · rcases p3 (1 < K) ((q1 : Int) < n) with h1 | ⟨h1, h2⟩ | ⟨h1, h2⟩
        · refine sw (core_move (L _ rfl)) ⟨rfl, trivial⟩ trivial ?_
          refine sw (core_gtr (L _ rfl)) ⟨rfl, rfl, trivial⟩ trivial ?_
          refine sw (core_move (L _ rfl)) ⟨rfl, trivial⟩ trivial ?_
          refine swn (g := 43) rfl (decide_eq_false (by omega)) (L _ rfl) rfl ?_
          refine swn (g := 43) rfl (decide_eq_false (by omega)) (L _ rfl) rfl ?_
          refine swn (g := 43) rfl (decide_eq_false (by omega)) (L _ rfl) rfl ?_
          refine swn (g := 43) rfl (decide_eq_false (by omega)) (L _ rfl) rfl ?_
          refine sw (core_pick_f (decide_eq_false (by omega)) (L _ rfl)) ⟨rfl, rfl, trivial⟩ trivial ?_
          refine sw (core_move (L _ rfl)) ⟨rfl, trivial⟩ trivial ?_
          refine swn (g := 49) rfl rfl (L _ rfl) rfl ?_
          refine swn (g := 49) rfl rfl (L _ rfl) rfl ?_
          refine swn (g := 49) rfl rfl (L _ rfl) rfl ?_
          refine swn (g := 49) rfl rfl (L _ rfl) rfl ?_
          refine sw (core_pick_f rfl (L _ rfl)) ⟨rfl, rfl, trivial⟩ trivial ?_
          exact seq_nil ⟨⟨ob rfl (decide_eq_false (fun c => h1 c.1)).symm, rfl, rfl, trivial⟩, ⟨rfl, trivial⟩⟩
        · refine sw (core_move (L _ rfl)) ⟨rfl, trivial⟩ trivial ?_
          refine sw (core_gtr (L _ rfl)) ⟨rfl, rfl, trivial⟩ trivial ?_
          refine sw (core_move (L _ rfl)) ⟨rfl, trivial⟩ trivial ?_
          refine swg (g := 43) rfl (decide_eq_true (by omega)) (core_move (L _ rfl)) rfl ⟨rfl, trivial⟩ trivial ?_
          refine swg (g := 43) rfl (decide_eq_true (by omega)) (core_move (L _ rfl)) rfl ⟨rfl, trivial⟩ trivial ?_
          refine swg (g := 43) rfl (decide_eq_true (by omega)) (core_quo (L _ rfl) (by omega) (tdiv64 (show _ = (q1 : Int) by rw [hq1]; rfl) (by omega) (by omega))) rfl ⟨rfl, rfl, trivial⟩ trivial ?_
          refine swg (g := 43) rfl (decide_eq_true (by omega)) (core_gtr (L _ rfl)) rfl ⟨rfl, rfl, trivial⟩ trivial ?_
          refine sw (core_pick_t (decide_eq_true (by omega)) (L _ rfl)) ⟨rfl, rfl, trivial⟩ trivial ?_
          refine sw (core_move (L _ rfl)) ⟨rfl, trivial⟩ trivial ?_
          refine swn (g := 49) rfl (decide_eq_false (by omega)) (L _ rfl) rfl ?_
          refine swn (g := 49) rfl (decide_eq_false (by omega)) (L _ rfl) rfl ?_
          refine swn (g := 49) rfl (decide_eq_false (by omega)) (L _ rfl) rfl ?_
          refine swn (g := 49) rfl (decide_eq_false (by omega)) (L _ rfl) rfl ?_
          refine sw (core_pick_f (decide_eq_false (by omega)) (L _ rfl)) ⟨rfl, rfl, trivial⟩ trivial ?_
          exact seq_nil ⟨⟨ob rfl (decide_eq_false (fun c => h2 c.2.1)).symm, rfl, rfl, trivial⟩, ⟨rfl, trivial⟩⟩
        · refine sw (core_move (L _ rfl)) ⟨rfl, trivial⟩ trivial ?_
          refine sw (core_gtr (L _ rfl)) ⟨rfl, rfl, trivial⟩ trivial ?_
          refine sw (core_move (L _ rfl)) ⟨rfl, trivial⟩ trivial ?_
          refine swg (g := 43) rfl (decide_eq_true (by omega)) (core_move (L _ rfl)) rfl ⟨rfl, trivial⟩ trivial ?_
          refine swg (g := 43) rfl (decide_eq_true (by omega)) (core_move (L _ rfl)) rfl ⟨rfl, trivial⟩ trivial ?_
          refine swg (g := 43) rfl (decide_eq_true (by omega)) (core_quo (L _ rfl) (by omega) (tdiv64 (show _ = (q1 : Int) by rw [hq1]; rfl) (by omega) (by omega))) rfl ⟨rfl, rfl, trivial⟩ trivial ?_
          refine swg (g := 43) rfl (decide_eq_true (by omega)) (core_gtr (L _ rfl)) rfl ⟨rfl, rfl, trivial⟩ trivial ?_
          refine sw (core_pick_t (decide_eq_true (by omega)) (L _ rfl)) ⟨rfl, rfl, trivial⟩ trivial ?_
          refine sw (core_move (L _ rfl)) ⟨rfl, trivial⟩ trivial ?_
          refine swg (g := 49) rfl (decide_eq_true (by omega)) (core_move (L _ rfl)) rfl ⟨rfl, trivial⟩ trivial ?_
          refine swg (g := 49) rfl (decide_eq_true (by omega)) (core_move (L _ rfl)) rfl ⟨rfl, trivial⟩ trivial ?_
          refine swg (g := 49) rfl (decide_eq_true (by omega)) (core_quo (L _ rfl) (by omega) (tdiv64 (show _ = (q2 : Int) by rw [hq2]; rfl) (by omega) (by omega))) rfl ⟨rfl, rfl, trivial⟩ trivial ?_
          refine swg (g := 49) rfl (decide_eq_true (by omega)) (core_leq (L _ rfl)) rfl ⟨rfl, rfl, trivial⟩ trivial ?_
          refine sw (core_pick_t (decide_eq_true (by omega)) (L _ rfl)) ⟨rfl, rfl, trivial⟩ trivial ?_
          exact seq_nil ⟨⟨ob rfl (dec_eq ⟨fun c => ⟨h1, h2, c⟩, fun c => c.2.2⟩), rfl, rfl, trivial⟩, ⟨rfl, trivial⟩⟩
      refine ex_if rfl (fun hy => ?_) (fun hy => ?_)
      · refine exr ?_
        refine sw (core_call (E := E) hG hX Tryd.call13 rfl hN sane_says (L _ rfl)) trivial trivial ?_
        refine sw (core_assign (L _ rfl)) ⟨rfl, trivial⟩ trivial ?_
        refine seq_nil ⟨[(4, _)], [], ⟨rfl, trivial⟩, trivial, ?_⟩
        refine ex_ret ?_
        refine ⟨.inr rfl, ResVs.cast (.cons (.tmp rfl) .nil) ?_⟩
        rfl
      · refine ex_skip (show Exec _ _ _ _ _ from ?_)
        refine exr ?_
        refine sw (core_loadP Tryd.isAgg24 Tryd.sizeOf24 (by rfl) (by exact (.cons (.cons .nil))) rfl (L _ rfl)) ⟨rfl, trivial⟩ ⟨rfl, trivial⟩ ?_
        refine sw (core_move (L _ rfl)) ⟨rfl, trivial⟩ trivial ?_
        refine sw (core_call (E := E) hG hX Tryd.call45 rfl hN (pow_says m ws n (by omega) h hn0 hn1) (L _ rfl)) ⟨rfl, rfl, trivial⟩ trivial ?_
        refine sw (core_move (L _ rfl)) ⟨rfl, trivial⟩ trivial ?_
        refine sw (core_extract rfl (L _ rfl)) ⟨rfl, trivial⟩ trivial ?_
        refine sw (core_extract rfl (L _ rfl)) ⟨rfl, trivial⟩ trivial ?_
        refine swb (core_alloc (k := 10) (n := 2) Tryd.zeroValue24 (.cons rfl (.cons rfl .nil)) rfl (P0 _ rfl) (L _ rfl)) trivial trivial ⟨rfl, rfl⟩ ?_
        refine sb (core_storeM Tryd.sizeOf24 (by rfl) (.pagg (.cons (.cons .nil))) rfl (.put (.put .here))) ⟨rfl, rfl, trivial⟩ ⟨rfl, trivial⟩ ?_
        refine sw (core_assign (L _ rfl)) ⟨rfl, trivial⟩ trivial ?_
        refine seq_nil ⟨[(1, _), (2, _), (10, _), (11, _)], [(2, _), (10, _)], ⟨rfl, rfl, rfl, rfl, trivial⟩, ⟨rfl, rfl, trivial⟩, ?_⟩
        refine exr ?_
        refine sw (core_loadP Tryd.isAgg24 Tryd.sizeOf24 (by rfl) (by exact (.cons (.cons .nil))) rfl (L _ rfl)) ⟨rfl, trivial⟩ ⟨rfl, trivial⟩ ?_
        refine sw (core_move (L _ rfl)) ⟨rfl, trivial⟩ trivial ?_
        refine sw (core_call (E := E) hG hX Tryd.call46 rfl hN (rpow_says m ws n (by omega) h hn0 hn1) (L _ rfl)) ⟨rfl, rfl, trivial⟩ trivial ?_
        refine sw (core_move (L _ rfl)) ⟨rfl, trivial⟩ trivial ?_
        refine sw (core_extract rfl (L _ rfl)) ⟨rfl, trivial⟩ trivial ?_
        refine sw (core_extract rfl (L _ rfl)) ⟨rfl, trivial⟩ trivial ?_
        refine swb (core_alloc (k := 12) (n := 2) Tryd.zeroValue24 (.cons rfl (.cons rfl .nil)) rfl (P0 _ rfl) (L _ rfl)) trivial trivial ⟨rfl, rfl⟩ ?_
        refine sb (core_storeM Tryd.sizeOf24 (by rfl) (.pagg (.cons (.cons .nil))) rfl (.put (.put .here))) ⟨rfl, rfl, trivial⟩ ⟨rfl, trivial⟩ ?_
        refine sw (core_assign (L _ rfl)) ⟨rfl, trivial⟩ trivial ?_
        refine seq_nil ⟨[(10, _), (11, _), (12, _), (13, _)], [(10, _), (12, _)], ⟨rfl, rfl, rfl, rfl, trivial⟩, ⟨rfl, rfl, trivial⟩, ?_⟩
        refine exr ?_
        refine sw (core_call (E := E) hG hX Tryd.call13 rfl hN sane_says (L _ rfl)) trivial trivial ?_
        refine sw (core_move (L _ rfl)) ⟨rfl, trivial⟩ trivial ?_
        refine swg (g := 69) rfl (by simp) (core_loadP Tryd.isAgg24 Tryd.sizeOf24 (by rfl) (by exact (.cons (.cons .nil))) rfl (L _ rfl)) rfl ⟨rfl, trivial⟩ ⟨rfl, trivial⟩ ?_
        refine swg (g := 69) rfl (by simp) (core_loadP Tryd.isAgg24 Tryd.sizeOf24 (by rfl) (by exact (.cons (.cons .nil))) rfl (L _ rfl)) rfl ⟨rfl, trivial⟩ ⟨rfl, trivial⟩ ?_
        refine swg (g := 69) rfl (by simp) (core_call (E := E) hG hX Tryd.call18 rfl hN (sameT rfl (by omega)) (L _ rfl)) rfl ⟨rfl, rfl, trivial⟩ trivial ?_
        refine sw (core_pick_t (by simp) (L _ rfl)) ⟨rfl, rfl, trivial⟩ trivial ?_
        refine sw (core_move (L _ rfl)) ⟨rfl, trivial⟩ trivial ?_
        refine swg (g := 74) rfl (by simp) (core_move (L _ rfl)) rfl ⟨rfl, trivial⟩ trivial ?_
        refine swg (g := 74) rfl (by simp) (core_move (L _ rfl)) rfl ⟨rfl, trivial⟩ trivial ?_
        refine swg (g := 74) rfl (by simp) (core_eql (L _ rfl)) rfl ⟨rfl, rfl, trivial⟩ trivial ?_
        refine sw (core_pick_t (by simp) (L _ rfl)) ⟨rfl, rfl, trivial⟩ trivial ?_
        refine sw (core_assign (L _ rfl)) ⟨rfl, trivial⟩ trivial ?_
        refine seq_nil ⟨[(4, _)], [], ⟨rfl, trivial⟩, trivial, ?_⟩
        refine ex_ret ?_
        refine ⟨.inr rfl, ResVs.cast (.cons (.tmp rfl) .nil) ?_⟩
        simp

end Go.Proofs.YtebkelnibecmjaaDoor.N
