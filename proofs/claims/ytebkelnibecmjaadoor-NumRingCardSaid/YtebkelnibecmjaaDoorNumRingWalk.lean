/- Part NumRingWalk of the proof: lemmas for the walks of the given functions. No statement of its own. -/
import Derived.Test.YtebkelnibecmjaaDoorHelp
set_option linter.unusedVariables false
set_option linter.unusedSimpArgs false
set_option linter.deprecated false
namespace Go.Proofs.YtebkelnibecmjaaDoor.N
open Go Go.Proofs.YtebkelnibecmjaaDoor.SH Go.Proofs.YtebkelnibecmjaaDoor.NumA
set_option maxRecDepth 100000 in
set_option maxHeartbeats 4000000 in
theorem ring_no (m n l : Bool) (ws vs us : List Int) (hn : ¬ (((ws.length : Int) ≤ 60 ∧ (vs.length : Int) ≤ 60 ∧ (us.length : Int) ≤ 60) ∧ canon m ws = true ∧ canon n vs = true ∧ canon l us = true)) : Says E 7 [pI m ws, pI n vs, pI l us] (bZ true) := by
  refine says_of (xs := [bZ true]) Tryd.func7 rfl Tryd.ntmps7 Tryd.results7 (by simp) fun F hG hX0 hnt hdf P0 => ?_
  have L := ltn hnt
  have hX : ∀ b, F.X b → E.ng ≤ b := fun b h => absurd h (hX0 b)
  have hN := ng_le hG
  refine exr ?_
  refine swb (core_box (k := 3) (n := 2) (.pagg (.cons (.cons .nil))) rfl rfl (P0 _ rfl) (L _ rfl)) ⟨rfl, trivial⟩ trivial ⟨rfl, rfl⟩ ?_
  refine swb (core_box (k := 4) (n := 2) (.pagg (.cons (.cons .nil))) rfl rfl (P0 _ rfl) (L _ rfl)) ⟨rfl, trivial⟩ trivial ⟨rfl, rfl⟩ ?_
  refine swb (core_box (k := 5) (n := 2) (.pagg (.cons (.cons .nil))) rfl rfl (P0 _ rfl) (L _ rfl)) ⟨rfl, trivial⟩ trivial ⟨rfl, rfl⟩ ?_
  refine sw (core_assign (L _ rfl)) ⟨rfl, trivial⟩ trivial ?_
  refine seq_nil ⟨[(3, _), (4, _), (5, _)], [(3, _), (4, _), (5, _)], ⟨rfl, rfl, rfl, trivial⟩, ⟨rfl, rfl, rfl, trivial⟩, ?_⟩
  refine ex_seq ?_
  refine exm (sl := [(35, vb true)]) (sl0 := [(3, _), (4, _), (5, _)]) (hb := []) (hb0 := [(3, _), (4, _), (5, _)]) ⟨rfl, rfl, rfl, trivial⟩ ⟨rfl, rfl, rfl, trivial⟩ ?_ ?_
  · rcases p4 hn with h1 | ⟨h1, h2⟩ | ⟨h1, h2, h3⟩ | ⟨h1, h2, h3, h4⟩
    · refine sw (core_loadP Tryd.isAgg24 Tryd.sizeOf24 (by rfl) (by exact (.cons (.cons .nil))) rfl (L _ rfl)) ⟨rfl, trivial⟩ ⟨rfl, trivial⟩ ?_
      refine sw (core_loadP Tryd.isAgg24 Tryd.sizeOf24 (by rfl) (by exact (.cons (.cons .nil))) rfl (L _ rfl)) ⟨rfl, trivial⟩ ⟨rfl, trivial⟩ ?_
      refine sw (core_loadP Tryd.isAgg24 Tryd.sizeOf24 (by rfl) (by exact (.cons (.cons .nil))) rfl (L _ rfl)) ⟨rfl, trivial⟩ ⟨rfl, trivial⟩ ?_
      refine sw (core_call (E := E) hG hX Tryd.call12 rfl hN (lshort_says 60 m n l ws vs us) (L _ rfl)) ⟨rfl, rfl, rfl, rfl, trivial⟩ trivial ?_
      refine sw (core_not (L _ rfl)) ⟨rfl, trivial⟩ trivial ?_
      refine sw (core_move (L _ rfl)) ⟨rfl, trivial⟩ trivial ?_
      refine swn (g := 21) rfl (by simp [h1]) (L _ rfl) rfl ?_
      refine swn (g := 21) rfl (by simp [h1]) (L _ rfl) rfl ?_
      refine swn (g := 21) rfl (by simp [h1]) (L _ rfl) rfl ?_
      refine sw (core_pick_t (by simp [h1]) (L _ rfl)) ⟨rfl, rfl, trivial⟩ trivial ?_
      refine sw (core_move (L _ rfl)) ⟨rfl, trivial⟩ trivial ?_
      refine swn (g := 26) rfl (by simp [h1]) (L _ rfl) rfl ?_
      refine swn (g := 26) rfl (by simp [h1]) (L _ rfl) rfl ?_
      refine swn (g := 26) rfl (by simp [h1]) (L _ rfl) rfl ?_
      refine sw (core_pick_t rfl (L _ rfl)) ⟨rfl, rfl, trivial⟩ trivial ?_
      refine sw (core_move (L _ rfl)) ⟨rfl, trivial⟩ trivial ?_
      refine swn (g := 31) rfl (by simp [h1]) (L _ rfl) rfl ?_
      refine swn (g := 31) rfl (by simp [h1]) (L _ rfl) rfl ?_
      refine swn (g := 31) rfl (by simp [h1]) (L _ rfl) rfl ?_
      refine sw (core_pick_t rfl (L _ rfl)) ⟨rfl, rfl, trivial⟩ trivial ?_
      exact seq_nil ⟨⟨ob rfl rfl, rfl, rfl, rfl, trivial⟩, ⟨rfl, rfl, rfl, trivial⟩⟩
    · refine sw (core_loadP Tryd.isAgg24 Tryd.sizeOf24 (by rfl) (by exact (.cons (.cons .nil))) rfl (L _ rfl)) ⟨rfl, trivial⟩ ⟨rfl, trivial⟩ ?_
      refine sw (core_loadP Tryd.isAgg24 Tryd.sizeOf24 (by rfl) (by exact (.cons (.cons .nil))) rfl (L _ rfl)) ⟨rfl, trivial⟩ ⟨rfl, trivial⟩ ?_
      refine sw (core_loadP Tryd.isAgg24 Tryd.sizeOf24 (by rfl) (by exact (.cons (.cons .nil))) rfl (L _ rfl)) ⟨rfl, trivial⟩ ⟨rfl, trivial⟩ ?_
      refine sw (core_call (E := E) hG hX Tryd.call12 rfl hN (lshort_says 60 m n l ws vs us) (L _ rfl)) ⟨rfl, rfl, rfl, rfl, trivial⟩ trivial ?_
      refine sw (core_not (L _ rfl)) ⟨rfl, trivial⟩ trivial ?_
      refine sw (core_move (L _ rfl)) ⟨rfl, trivial⟩ trivial ?_
      refine swg (g := 21) rfl (by simp [h1]) (core_loadP Tryd.isAgg24 Tryd.sizeOf24 (by rfl) (by exact (.cons (.cons .nil))) rfl (L _ rfl)) rfl ⟨rfl, trivial⟩ ⟨rfl, trivial⟩ ?_
      refine swg (g := 21) rfl (by simp [h1]) (core_call (E := E) hG hX Tryd.call17 rfl hN (ris_says m ws (by omega)) (L _ rfl)) rfl ⟨rfl, trivial⟩ trivial ?_
      refine swg (g := 21) rfl (by simp [h1]) (core_not (L _ rfl)) rfl ⟨rfl, trivial⟩ trivial ?_
      refine sw (core_pick_f (by simp [h1]) (L _ rfl)) ⟨rfl, rfl, trivial⟩ trivial ?_
      refine sw (core_move (L _ rfl)) ⟨rfl, trivial⟩ trivial ?_
      refine swn (g := 26) rfl (by simp [h2]) (L _ rfl) rfl ?_
      refine swn (g := 26) rfl (by simp [h2]) (L _ rfl) rfl ?_
      refine swn (g := 26) rfl (by simp [h2]) (L _ rfl) rfl ?_
      refine sw (core_pick_t (by simp [h2]) (L _ rfl)) ⟨rfl, rfl, trivial⟩ trivial ?_
      refine sw (core_move (L _ rfl)) ⟨rfl, trivial⟩ trivial ?_
      refine swn (g := 31) rfl rfl (L _ rfl) rfl ?_
      refine swn (g := 31) rfl rfl (L _ rfl) rfl ?_
      refine swn (g := 31) rfl rfl (L _ rfl) rfl ?_
      refine sw (core_pick_t rfl (L _ rfl)) ⟨rfl, rfl, trivial⟩ trivial ?_
      exact seq_nil ⟨⟨ob rfl rfl, rfl, rfl, rfl, trivial⟩, ⟨rfl, rfl, rfl, trivial⟩⟩
    · refine sw (core_loadP Tryd.isAgg24 Tryd.sizeOf24 (by rfl) (by exact (.cons (.cons .nil))) rfl (L _ rfl)) ⟨rfl, trivial⟩ ⟨rfl, trivial⟩ ?_
      refine sw (core_loadP Tryd.isAgg24 Tryd.sizeOf24 (by rfl) (by exact (.cons (.cons .nil))) rfl (L _ rfl)) ⟨rfl, trivial⟩ ⟨rfl, trivial⟩ ?_
      refine sw (core_loadP Tryd.isAgg24 Tryd.sizeOf24 (by rfl) (by exact (.cons (.cons .nil))) rfl (L _ rfl)) ⟨rfl, trivial⟩ ⟨rfl, trivial⟩ ?_
      refine sw (core_call (E := E) hG hX Tryd.call12 rfl hN (lshort_says 60 m n l ws vs us) (L _ rfl)) ⟨rfl, rfl, rfl, rfl, trivial⟩ trivial ?_
      refine sw (core_not (L _ rfl)) ⟨rfl, trivial⟩ trivial ?_
      refine sw (core_move (L _ rfl)) ⟨rfl, trivial⟩ trivial ?_
      refine swg (g := 21) rfl (by simp [h1]) (core_loadP Tryd.isAgg24 Tryd.sizeOf24 (by rfl) (by exact (.cons (.cons .nil))) rfl (L _ rfl)) rfl ⟨rfl, trivial⟩ ⟨rfl, trivial⟩ ?_
      refine swg (g := 21) rfl (by simp [h1]) (core_call (E := E) hG hX Tryd.call17 rfl hN (ris_says m ws (by omega)) (L _ rfl)) rfl ⟨rfl, trivial⟩ trivial ?_
      refine swg (g := 21) rfl (by simp [h1]) (core_not (L _ rfl)) rfl ⟨rfl, trivial⟩ trivial ?_
      refine sw (core_pick_f (by simp [h1]) (L _ rfl)) ⟨rfl, rfl, trivial⟩ trivial ?_
      refine sw (core_move (L _ rfl)) ⟨rfl, trivial⟩ trivial ?_
      refine swg (g := 26) rfl (by simp [h2]) (core_loadP Tryd.isAgg24 Tryd.sizeOf24 (by rfl) (by exact (.cons (.cons .nil))) rfl (L _ rfl)) rfl ⟨rfl, trivial⟩ ⟨rfl, trivial⟩ ?_
      refine swg (g := 26) rfl (by simp [h2]) (core_call (E := E) hG hX Tryd.call17 rfl hN (ris_says n vs (by omega)) (L _ rfl)) rfl ⟨rfl, trivial⟩ trivial ?_
      refine swg (g := 26) rfl (by simp [h2]) (core_not (L _ rfl)) rfl ⟨rfl, trivial⟩ trivial ?_
      refine sw (core_pick_f (by simp [h2]) (L _ rfl)) ⟨rfl, rfl, trivial⟩ trivial ?_
      refine sw (core_move (L _ rfl)) ⟨rfl, trivial⟩ trivial ?_
      refine swn (g := 31) rfl (by simp [h3]) (L _ rfl) rfl ?_
      refine swn (g := 31) rfl (by simp [h3]) (L _ rfl) rfl ?_
      refine swn (g := 31) rfl (by simp [h3]) (L _ rfl) rfl ?_
      refine sw (core_pick_t (by simp [h3]) (L _ rfl)) ⟨rfl, rfl, trivial⟩ trivial ?_
      exact seq_nil ⟨⟨ob rfl rfl, rfl, rfl, rfl, trivial⟩, ⟨rfl, rfl, rfl, trivial⟩⟩
    · refine sw (core_loadP Tryd.isAgg24 Tryd.sizeOf24 (by rfl) (by exact (.cons (.cons .nil))) rfl (L _ rfl)) ⟨rfl, trivial⟩ ⟨rfl, trivial⟩ ?_
      refine sw (core_loadP Tryd.isAgg24 Tryd.sizeOf24 (by rfl) (by exact (.cons (.cons .nil))) rfl (L _ rfl)) ⟨rfl, trivial⟩ ⟨rfl, trivial⟩ ?_
      refine sw (core_loadP Tryd.isAgg24 Tryd.sizeOf24 (by rfl) (by exact (.cons (.cons .nil))) rfl (L _ rfl)) ⟨rfl, trivial⟩ ⟨rfl, trivial⟩ ?_
      refine sw (core_call (E := E) hG hX Tryd.call12 rfl hN (lshort_says 60 m n l ws vs us) (L _ rfl)) ⟨rfl, rfl, rfl, rfl, trivial⟩ trivial ?_
      refine sw (core_not (L _ rfl)) ⟨rfl, trivial⟩ trivial ?_
      refine sw (core_move (L _ rfl)) ⟨rfl, trivial⟩ trivial ?_
      refine swg (g := 21) rfl (by simp [h1]) (core_loadP Tryd.isAgg24 Tryd.sizeOf24 (by rfl) (by exact (.cons (.cons .nil))) rfl (L _ rfl)) rfl ⟨rfl, trivial⟩ ⟨rfl, trivial⟩ ?_
      refine swg (g := 21) rfl (by simp [h1]) (core_call (E := E) hG hX Tryd.call17 rfl hN (ris_says m ws (by omega)) (L _ rfl)) rfl ⟨rfl, trivial⟩ trivial ?_
      refine swg (g := 21) rfl (by simp [h1]) (core_not (L _ rfl)) rfl ⟨rfl, trivial⟩ trivial ?_
      refine sw (core_pick_f (by simp [h1]) (L _ rfl)) ⟨rfl, rfl, trivial⟩ trivial ?_
      refine sw (core_move (L _ rfl)) ⟨rfl, trivial⟩ trivial ?_
      refine swg (g := 26) rfl (by simp [h2]) (core_loadP Tryd.isAgg24 Tryd.sizeOf24 (by rfl) (by exact (.cons (.cons .nil))) rfl (L _ rfl)) rfl ⟨rfl, trivial⟩ ⟨rfl, trivial⟩ ?_
      refine swg (g := 26) rfl (by simp [h2]) (core_call (E := E) hG hX Tryd.call17 rfl hN (ris_says n vs (by omega)) (L _ rfl)) rfl ⟨rfl, trivial⟩ trivial ?_
      refine swg (g := 26) rfl (by simp [h2]) (core_not (L _ rfl)) rfl ⟨rfl, trivial⟩ trivial ?_
      refine sw (core_pick_f (by simp [h2]) (L _ rfl)) ⟨rfl, rfl, trivial⟩ trivial ?_
      refine sw (core_move (L _ rfl)) ⟨rfl, trivial⟩ trivial ?_
      refine swg (g := 31) rfl (by simp [h3]) (core_loadP Tryd.isAgg24 Tryd.sizeOf24 (by rfl) (by exact (.cons (.cons .nil))) rfl (L _ rfl)) rfl ⟨rfl, trivial⟩ ⟨rfl, trivial⟩ ?_
      refine swg (g := 31) rfl (by simp [h3]) (core_call (E := E) hG hX Tryd.call17 rfl hN (ris_says l us (by omega)) (L _ rfl)) rfl ⟨rfl, trivial⟩ trivial ?_
      refine swg (g := 31) rfl (by simp [h3]) (core_not (L _ rfl)) rfl ⟨rfl, trivial⟩ trivial ?_
      refine sw (core_pick_f (by simp [h3]) (L _ rfl)) ⟨rfl, rfl, trivial⟩ trivial ?_
      exact seq_nil ⟨⟨ob rfl (by simp [h4]), rfl, rfl, rfl, trivial⟩, ⟨rfl, rfl, rfl, trivial⟩⟩
  refine ex_if rfl (fun hc => ?_) (fun hc => ?_)
  · refine exr ?_
    refine sw (core_call (E := E) hG hX Tryd.call13 rfl hN sane_says (L _ rfl)) trivial trivial ?_
    refine sw (core_assign (L _ rfl)) ⟨rfl, trivial⟩ trivial ?_
    refine seq_nil ⟨[(6, _)], [], ⟨rfl, trivial⟩, trivial, ?_⟩
    refine ex_ret ?_
    refine ⟨.inr rfl, ResVs.cast (.cons (.tmp rfl) .nil) ?_⟩
    rfl
  · cases hc

set_option maxRecDepth 100000 in
set_option maxHeartbeats 4000000 in
theorem ring_z (a b c : Int) (ha : nw a ≤ 60) (hb : nw b ≤ 60) (hc : nw c ≤ 60) : Says E 7 [pZ a, pZ b, pZ c] (bZ true) := by
  refine says_of (xs := [bZ true]) Tryd.func7 rfl Tryd.ntmps7 Tryd.results7 (by simp) fun F hG hX0 hnt hdf P0 => ?_
  have L := ltn hnt
  have hX : ∀ b, F.X b → E.ng ≤ b := fun b h => absurd h (hX0 b)
  have hN := ng_le hG
  have k1 := nw_add a b
  have k2 := nw_add b c
  have k3 := nw_mul a b
  have k4 := nw_mul b c
  have k5 := nw_add (a + b) c
  have k6 := nw_mul (a * b) c
  have k7 := nw_mul a (b + c)
  have k8 := nw_mul a c
  have k9 := nw_sub a b
  have k10 := nw_add a c
  have k11 := nw_neg a
  have z0 : nw (0 : Int) = 0 := nw_zero.2 rfl
  have z1 := nw_one
  refine exr ?_
  refine swb (core_box (k := 3) (n := 2) (.pagg (.cons (.cons .nil))) rfl rfl (P0 _ rfl) (L _ rfl)) ⟨rfl, trivial⟩ trivial ⟨rfl, rfl⟩ ?_
  refine swb (core_box (k := 4) (n := 2) (.pagg (.cons (.cons .nil))) rfl rfl (P0 _ rfl) (L _ rfl)) ⟨rfl, trivial⟩ trivial ⟨rfl, rfl⟩ ?_
  refine swb (core_box (k := 5) (n := 2) (.pagg (.cons (.cons .nil))) rfl rfl (P0 _ rfl) (L _ rfl)) ⟨rfl, trivial⟩ trivial ⟨rfl, rfl⟩ ?_
  refine sw (core_assign (L _ rfl)) ⟨rfl, trivial⟩ trivial ?_
  refine seq_nil ⟨[(3, _), (4, _), (5, _)], [(3, _), (4, _), (5, _)], ⟨rfl, rfl, rfl, trivial⟩, ⟨rfl, rfl, rfl, trivial⟩, ?_⟩
  refine ex_seq ?_
  refine exr ?_
  refine sw (core_loadP Tryd.isAgg24 Tryd.sizeOf24 (by rfl) (by exact (.cons (.cons .nil))) rfl (L _ rfl)) ⟨rfl, trivial⟩ ⟨rfl, trivial⟩ ?_
  refine sw (core_loadP Tryd.isAgg24 Tryd.sizeOf24 (by rfl) (by exact (.cons (.cons .nil))) rfl (L _ rfl)) ⟨rfl, trivial⟩ ⟨rfl, trivial⟩ ?_
  refine sw (core_loadP Tryd.isAgg24 Tryd.sizeOf24 (by rfl) (by exact (.cons (.cons .nil))) rfl (L _ rfl)) ⟨rfl, trivial⟩ ⟨rfl, trivial⟩ ?_
  refine sw (core_call (E := E) hG hX Tryd.call12 rfl hN (lshortZ (by omega) (by omega) (by omega)) (L _ rfl)) ⟨rfl, rfl, rfl, rfl, trivial⟩ trivial ?_
  refine sw (core_not (L _ rfl)) ⟨rfl, trivial⟩ trivial ?_
  refine sw (core_move (L _ rfl)) ⟨rfl, trivial⟩ trivial ?_
  refine swg (g := 21) rfl rfl (core_loadP Tryd.isAgg24 Tryd.sizeOf24 (by rfl) (by exact (.cons (.cons .nil))) rfl (L _ rfl)) rfl ⟨rfl, trivial⟩ ⟨rfl, trivial⟩ ?_
  refine swg (g := 21) rfl rfl (core_call (E := E) hG hX Tryd.call17 rfl hN (risZ a (by omega)) (L _ rfl)) rfl ⟨rfl, trivial⟩ trivial ?_
  refine swg (g := 21) rfl rfl (core_not (L _ rfl)) rfl ⟨rfl, trivial⟩ trivial ?_
  refine sw (core_pick_f rfl (L _ rfl)) ⟨rfl, rfl, trivial⟩ trivial ?_
  refine sw (core_move (L _ rfl)) ⟨rfl, trivial⟩ trivial ?_
  refine swg (g := 26) rfl rfl (core_loadP Tryd.isAgg24 Tryd.sizeOf24 (by rfl) (by exact (.cons (.cons .nil))) rfl (L _ rfl)) rfl ⟨rfl, trivial⟩ ⟨rfl, trivial⟩ ?_
  refine swg (g := 26) rfl rfl (core_call (E := E) hG hX Tryd.call17 rfl hN (risZ b (by omega)) (L _ rfl)) rfl ⟨rfl, trivial⟩ trivial ?_
  refine swg (g := 26) rfl rfl (core_not (L _ rfl)) rfl ⟨rfl, trivial⟩ trivial ?_
  refine sw (core_pick_f rfl (L _ rfl)) ⟨rfl, rfl, trivial⟩ trivial ?_
  refine sw (core_move (L _ rfl)) ⟨rfl, trivial⟩ trivial ?_
  refine swg (g := 31) rfl rfl (core_loadP Tryd.isAgg24 Tryd.sizeOf24 (by rfl) (by exact (.cons (.cons .nil))) rfl (L _ rfl)) rfl ⟨rfl, trivial⟩ ⟨rfl, trivial⟩ ?_
  refine swg (g := 31) rfl rfl (core_call (E := E) hG hX Tryd.call17 rfl hN (risZ c (by omega)) (L _ rfl)) rfl ⟨rfl, trivial⟩ trivial ?_
  refine swg (g := 31) rfl rfl (core_not (L _ rfl)) rfl ⟨rfl, trivial⟩ trivial ?_
  refine sw (core_pick_f rfl (L _ rfl)) ⟨rfl, rfl, trivial⟩ trivial ?_
  refine seq_nil ⟨[(3, _), (4, _), (5, _), (35, _)], [(3, _), (4, _), (5, _)], ⟨rfl, rfl, rfl, rfl, trivial⟩, ⟨rfl, rfl, rfl, trivial⟩, ?_⟩
  refine ex_if rfl (fun hx => ?_) (fun hx => ?_)
  · cases hx
  · refine ex_skip (show Exec _ _ _ _ _ from ?_)
    refine exd (by rfl) ?_
    refine sw (core_loadP Tryd.isAgg24 Tryd.sizeOf24 (by rfl) (by exact (.cons (.cons .nil))) rfl (L _ rfl)) ⟨rfl, trivial⟩ ⟨rfl, trivial⟩ ?_
    refine sw (core_loadP Tryd.isAgg24 Tryd.sizeOf24 (by rfl) (by exact (.cons (.cons .nil))) rfl (L _ rfl)) ⟨rfl, trivial⟩ ⟨rfl, trivial⟩ ?_
    refine sw (core_call (E := E) hG hX Tryd.call35 rfl hN (addZ a b (by omega) (by omega)) (L _ rfl)) ⟨rfl, rfl, trivial⟩ trivial ?_
    refine sw (core_loadP Tryd.isAgg24 Tryd.sizeOf24 (by rfl) (by exact (.cons (.cons .nil))) rfl (L _ rfl)) ⟨rfl, trivial⟩ ⟨rfl, trivial⟩ ?_
    refine sw (core_loadP Tryd.isAgg24 Tryd.sizeOf24 (by rfl) (by exact (.cons (.cons .nil))) rfl (L _ rfl)) ⟨rfl, trivial⟩ ⟨rfl, trivial⟩ ?_
    refine sw (core_call (E := E) hG hX Tryd.call35 rfl hN (addZ b c (by omega) (by omega)) (L _ rfl)) ⟨rfl, rfl, trivial⟩ trivial ?_
    refine swb (core_alloc (k := 7) (n := 2) Tryd.zeroValue24 (.cons rfl (.cons rfl .nil)) rfl (P0 _ rfl) (L _ rfl)) trivial trivial ⟨rfl, rfl⟩ ?_
    refine swb (core_alloc (k := 8) (n := 2) Tryd.zeroValue24 (.cons rfl (.cons rfl .nil)) rfl (P0 _ rfl) (L _ rfl)) trivial trivial ⟨rfl, rfl⟩ ?_
    refine sb (core_storeM Tryd.sizeOf24 (by rfl) (.pagg (.cons (.cons .nil))) rfl (.put (.put .here))) ⟨rfl, rfl, trivial⟩ ⟨rfl, trivial⟩ ?_
    refine sb (core_storeM Tryd.sizeOf24 (by rfl) (.pagg (.cons (.cons .nil))) rfl (.put (.put .here))) ⟨rfl, rfl, trivial⟩ ⟨rfl, trivial⟩ ?_
    refine seq_nil ⟨aok rfl rfl, [(3, _), (4, _), (5, _), (7, _), (8, _)], [(3, _), (4, _), (5, _), (7, _), (8, _)], ⟨rfl, rfl, rfl, rfl, rfl, trivial⟩, ⟨rfl, rfl, rfl, rfl, rfl, trivial⟩, ?_⟩
    refine exd (by rfl) ?_
    refine sw (core_loadP Tryd.isAgg24 Tryd.sizeOf24 (by rfl) (by exact (.cons (.cons .nil))) rfl (L _ rfl)) ⟨rfl, trivial⟩ ⟨rfl, trivial⟩ ?_
    refine sw (core_loadP Tryd.isAgg24 Tryd.sizeOf24 (by rfl) (by exact (.cons (.cons .nil))) rfl (L _ rfl)) ⟨rfl, trivial⟩ ⟨rfl, trivial⟩ ?_
    refine sw (core_call (E := E) hG hX Tryd.call39 rfl hN (mulZ a b (by omega) (by omega)) (L _ rfl)) ⟨rfl, rfl, trivial⟩ trivial ?_
    refine sw (core_loadP Tryd.isAgg24 Tryd.sizeOf24 (by rfl) (by exact (.cons (.cons .nil))) rfl (L _ rfl)) ⟨rfl, trivial⟩ ⟨rfl, trivial⟩ ?_
    refine sw (core_loadP Tryd.isAgg24 Tryd.sizeOf24 (by rfl) (by exact (.cons (.cons .nil))) rfl (L _ rfl)) ⟨rfl, trivial⟩ ⟨rfl, trivial⟩ ?_
    refine sw (core_call (E := E) hG hX Tryd.call39 rfl hN (mulZ b c (by omega) (by omega)) (L _ rfl)) ⟨rfl, rfl, trivial⟩ trivial ?_
    refine swb (core_alloc (k := 9) (n := 2) Tryd.zeroValue24 (.cons rfl (.cons rfl .nil)) rfl (P0 _ rfl) (L _ rfl)) trivial trivial ⟨rfl, rfl⟩ ?_
    refine swb (core_alloc (k := 10) (n := 2) Tryd.zeroValue24 (.cons rfl (.cons rfl .nil)) rfl (P0 _ rfl) (L _ rfl)) trivial trivial ⟨rfl, rfl⟩ ?_
    refine sb (core_storeM Tryd.sizeOf24 (by rfl) (.pagg (.cons (.cons .nil))) rfl (.put (.put .here))) ⟨rfl, rfl, trivial⟩ ⟨rfl, trivial⟩ ?_
    refine sb (core_storeM Tryd.sizeOf24 (by rfl) (.pagg (.cons (.cons .nil))) rfl (.put (.put .here))) ⟨rfl, rfl, trivial⟩ ⟨rfl, trivial⟩ ?_
    refine seq_nil ⟨aok rfl rfl, [(3, _), (4, _), (5, _), (7, _), (8, _), (9, _), (10, _)], [(3, _), (4, _), (5, _), (7, _), (8, _), (9, _), (10, _)], ⟨rfl, rfl, rfl, rfl, rfl, rfl, rfl, trivial⟩, ⟨rfl, rfl, rfl, rfl, rfl, rfl, rfl, trivial⟩, ?_⟩
    refine exd (by rfl) ?_
    refine sw (core_loadP Tryd.isAgg24 Tryd.sizeOf24 (by rfl) (by exact (.cons (.cons .nil))) rfl (L _ rfl)) ⟨rfl, trivial⟩ ⟨rfl, trivial⟩ ?_
    refine sw (core_loadP Tryd.isAgg24 Tryd.sizeOf24 (by rfl) (by exact (.cons (.cons .nil))) rfl (L _ rfl)) ⟨rfl, trivial⟩ ⟨rfl, trivial⟩ ?_
    refine sw (core_loadP Tryd.isAgg24 Tryd.sizeOf24 (by rfl) (by exact (.cons (.cons .nil))) rfl (L _ rfl)) ⟨rfl, trivial⟩ ⟨rfl, trivial⟩ ?_
    refine sw (core_call (E := E) hG hX Tryd.call35 rfl hN (addZ b a (by omega) (by omega)) (L _ rfl)) ⟨rfl, rfl, trivial⟩ trivial ?_
    refine sw (core_call (E := E) hG hX Tryd.call18 rfl hN (sameT (Int.add_comm a b) (by omega)) (L _ rfl)) ⟨rfl, rfl, trivial⟩ trivial ?_
    refine sw (core_move (L _ rfl)) ⟨rfl, trivial⟩ trivial ?_
    refine swg (g := 54) rfl rfl (core_loadP Tryd.isAgg24 Tryd.sizeOf24 (by rfl) (by exact (.cons (.cons .nil))) rfl (L _ rfl)) rfl ⟨rfl, trivial⟩ ⟨rfl, trivial⟩ ?_
    refine swg (g := 54) rfl rfl (core_loadP Tryd.isAgg24 Tryd.sizeOf24 (by rfl) (by exact (.cons (.cons .nil))) rfl (L _ rfl)) rfl ⟨rfl, trivial⟩ ⟨rfl, trivial⟩ ?_
    refine swg (g := 54) rfl rfl (core_call (E := E) hG hX Tryd.call35 rfl hN (addZ (a + b) c (by omega) (by omega)) (L _ rfl)) rfl ⟨rfl, rfl, trivial⟩ trivial ?_
    refine swg (g := 54) rfl rfl (core_loadP Tryd.isAgg24 Tryd.sizeOf24 (by rfl) (by exact (.cons (.cons .nil))) rfl (L _ rfl)) rfl ⟨rfl, trivial⟩ ⟨rfl, trivial⟩ ?_
    refine swg (g := 54) rfl rfl (core_loadP Tryd.isAgg24 Tryd.sizeOf24 (by rfl) (by exact (.cons (.cons .nil))) rfl (L _ rfl)) rfl ⟨rfl, trivial⟩ ⟨rfl, trivial⟩ ?_
    refine swg (g := 54) rfl rfl (core_call (E := E) hG hX Tryd.call35 rfl hN (addZ a (b + c) (by omega) (by omega)) (L _ rfl)) rfl ⟨rfl, rfl, trivial⟩ trivial ?_
    refine swg (g := 54) rfl rfl (core_call (E := E) hG hX Tryd.call18 rfl hN (sameT (Int.add_assoc a b c) (by omega)) (L _ rfl)) rfl ⟨rfl, rfl, trivial⟩ trivial ?_
    refine sw (core_pick_t rfl (L _ rfl)) ⟨rfl, rfl, trivial⟩ trivial ?_
    refine sw (core_move (L _ rfl)) ⟨rfl, trivial⟩ trivial ?_
    refine swg (g := 63) rfl rfl (core_loadP Tryd.isAgg24 Tryd.sizeOf24 (by rfl) (by exact (.cons (.cons .nil))) rfl (L _ rfl)) rfl ⟨rfl, trivial⟩ ⟨rfl, trivial⟩ ?_
    refine swg (g := 63) rfl rfl (core_call (E := E) hG hX Tryd.call19 rfl hN (of_says 0 (by decide) (by decide)) (L _ rfl)) rfl ⟨rfl, trivial⟩ trivial ?_
    refine swg (g := 63) rfl rfl (core_call (E := E) hG hX Tryd.call35 rfl hN (addZ a 0 (by omega) (by omega)) (L _ rfl)) rfl ⟨rfl, rfl, trivial⟩ trivial ?_
    refine swg (g := 63) rfl rfl (core_loadP Tryd.isAgg24 Tryd.sizeOf24 (by rfl) (by exact (.cons (.cons .nil))) rfl (L _ rfl)) rfl ⟨rfl, trivial⟩ ⟨rfl, trivial⟩ ?_
    refine swg (g := 63) rfl rfl (core_call (E := E) hG hX Tryd.call18 rfl hN (sameT (Int.add_zero a) (by rw [Int.add_zero]; omega)) (L _ rfl)) rfl ⟨rfl, rfl, trivial⟩ trivial ?_
    refine sw (core_pick_t rfl (L _ rfl)) ⟨rfl, rfl, trivial⟩ trivial ?_
    refine sw (core_move (L _ rfl)) ⟨rfl, trivial⟩ trivial ?_
    refine swg (g := 70) rfl rfl (core_loadP Tryd.isAgg24 Tryd.sizeOf24 (by rfl) (by exact (.cons (.cons .nil))) rfl (L _ rfl)) rfl ⟨rfl, trivial⟩ ⟨rfl, trivial⟩ ?_
    refine swg (g := 70) rfl rfl (core_loadP Tryd.isAgg24 Tryd.sizeOf24 (by rfl) (by exact (.cons (.cons .nil))) rfl (L _ rfl)) rfl ⟨rfl, trivial⟩ ⟨rfl, trivial⟩ ?_
    refine swg (g := 70) rfl rfl (core_call (E := E) hG hX Tryd.call37 rfl hN (subZ (a + b) b (by omega) (by omega)) (L _ rfl)) rfl ⟨rfl, rfl, trivial⟩ trivial ?_
    refine swg (g := 70) rfl rfl (core_loadP Tryd.isAgg24 Tryd.sizeOf24 (by rfl) (by exact (.cons (.cons .nil))) rfl (L _ rfl)) rfl ⟨rfl, trivial⟩ ⟨rfl, trivial⟩ ?_
    refine swg (g := 70) rfl rfl (core_call (E := E) hG hX Tryd.call18 rfl hN (sameT (Int.add_sub_cancel a b) (by rw [Int.add_sub_cancel]; omega)) (L _ rfl)) rfl ⟨rfl, rfl, trivial⟩ trivial ?_
    refine sw (core_pick_t rfl (L _ rfl)) ⟨rfl, rfl, trivial⟩ trivial ?_
    refine sw (core_assign (L _ rfl)) ⟨rfl, trivial⟩ trivial ?_
    refine seq_nil ⟨aoks [⟨[7], [7], [49], []⟩, ⟨[4], [4], [50], []⟩, ⟨[3], [3], [51], []⟩, ⟨[50, 51], [], [52], []⟩, ⟨[49, 52], [], [53], []⟩, ⟨[53], [], [54], []⟩, ⟨[54, 7], [7], [55], []⟩, ⟨[54, 5], [5], [56], []⟩, ⟨[54, 55, 56], [], [57], []⟩, ⟨[54, 3], [3], [58], []⟩, ⟨[54, 8], [8], [59], []⟩, ⟨[54, 58, 59], [], [60], []⟩, ⟨[54, 57, 60], [], [61], []⟩, ⟨[54, 61], [], [62], []⟩, ⟨[62], [], [63], []⟩, ⟨[63, 3], [3], [64], []⟩, ⟨[63], [], [65], []⟩, ⟨[63, 64, 65], [], [66], []⟩, ⟨[63, 3], [3], [67], []⟩, ⟨[63, 66, 67], [], [68], []⟩, ⟨[63, 68], [], [69], []⟩, ⟨[69], [], [70], []⟩, ⟨[70, 7], [7], [71], []⟩, ⟨[70, 4], [4], [72], []⟩, ⟨[70, 71, 72], [], [73], []⟩, ⟨[70, 3], [3], [74], []⟩, ⟨[70, 73, 74], [], [75], []⟩, ⟨[70, 75], [], [76], []⟩, ⟨[76], [], [11], []⟩] (by rfl) (by rfl) (by decide), [(3, _), (4, _), (5, _), (8, _), (9, _), (10, _), (11, _)], [(3, _), (4, _), (5, _), (8, _), (9, _), (10, _)], ⟨rfl, rfl, rfl, rfl, rfl, rfl, rfl, trivial⟩, ⟨rfl, rfl, rfl, rfl, rfl, rfl, trivial⟩, ?_⟩
    refine exd (by rfl) ?_
    refine sw (core_loadP Tryd.isAgg24 Tryd.sizeOf24 (by rfl) (by exact (.cons (.cons .nil))) rfl (L _ rfl)) ⟨rfl, trivial⟩ ⟨rfl, trivial⟩ ?_
    refine sw (core_loadP Tryd.isAgg24 Tryd.sizeOf24 (by rfl) (by exact (.cons (.cons .nil))) rfl (L _ rfl)) ⟨rfl, trivial⟩ ⟨rfl, trivial⟩ ?_
    refine sw (core_loadP Tryd.isAgg24 Tryd.sizeOf24 (by rfl) (by exact (.cons (.cons .nil))) rfl (L _ rfl)) ⟨rfl, trivial⟩ ⟨rfl, trivial⟩ ?_
    refine sw (core_call (E := E) hG hX Tryd.call39 rfl hN (mulZ b a (by omega) (by omega)) (L _ rfl)) ⟨rfl, rfl, trivial⟩ trivial ?_
    refine sw (core_call (E := E) hG hX Tryd.call18 rfl hN (sameT (Int.mul_comm a b) (by omega)) (L _ rfl)) ⟨rfl, rfl, trivial⟩ trivial ?_
    refine sw (core_move (L _ rfl)) ⟨rfl, trivial⟩ trivial ?_
    refine swg (g := 82) rfl rfl (core_loadP Tryd.isAgg24 Tryd.sizeOf24 (by rfl) (by exact (.cons (.cons .nil))) rfl (L _ rfl)) rfl ⟨rfl, trivial⟩ ⟨rfl, trivial⟩ ?_
    refine swg (g := 82) rfl rfl (core_loadP Tryd.isAgg24 Tryd.sizeOf24 (by rfl) (by exact (.cons (.cons .nil))) rfl (L _ rfl)) rfl ⟨rfl, trivial⟩ ⟨rfl, trivial⟩ ?_
    refine swg (g := 82) rfl rfl (core_call (E := E) hG hX Tryd.call39 rfl hN (mulZ (a * b) c (by omega) (by omega)) (L _ rfl)) rfl ⟨rfl, rfl, trivial⟩ trivial ?_
    refine swg (g := 82) rfl rfl (core_loadP Tryd.isAgg24 Tryd.sizeOf24 (by rfl) (by exact (.cons (.cons .nil))) rfl (L _ rfl)) rfl ⟨rfl, trivial⟩ ⟨rfl, trivial⟩ ?_
    refine swg (g := 82) rfl rfl (core_loadP Tryd.isAgg24 Tryd.sizeOf24 (by rfl) (by exact (.cons (.cons .nil))) rfl (L _ rfl)) rfl ⟨rfl, trivial⟩ ⟨rfl, trivial⟩ ?_
    refine swg (g := 82) rfl rfl (core_call (E := E) hG hX Tryd.call39 rfl hN (mulZ a (b * c) (by omega) (by omega)) (L _ rfl)) rfl ⟨rfl, rfl, trivial⟩ trivial ?_
    refine swg (g := 82) rfl rfl (core_call (E := E) hG hX Tryd.call18 rfl hN (sameT (Int.mul_assoc a b c) (by omega)) (L _ rfl)) rfl ⟨rfl, rfl, trivial⟩ trivial ?_
    refine sw (core_pick_t rfl (L _ rfl)) ⟨rfl, rfl, trivial⟩ trivial ?_
    refine sw (core_move (L _ rfl)) ⟨rfl, trivial⟩ trivial ?_
    refine swg (g := 91) rfl rfl (core_loadP Tryd.isAgg24 Tryd.sizeOf24 (by rfl) (by exact (.cons (.cons .nil))) rfl (L _ rfl)) rfl ⟨rfl, trivial⟩ ⟨rfl, trivial⟩ ?_
    refine swg (g := 91) rfl rfl (core_call (E := E) hG hX Tryd.call19 rfl hN (of_says 1 (by decide) (by decide)) (L _ rfl)) rfl ⟨rfl, trivial⟩ trivial ?_
    refine swg (g := 91) rfl rfl (core_call (E := E) hG hX Tryd.call39 rfl hN (mulZ a 1 (by omega) (by omega)) (L _ rfl)) rfl ⟨rfl, rfl, trivial⟩ trivial ?_
    refine swg (g := 91) rfl rfl (core_loadP Tryd.isAgg24 Tryd.sizeOf24 (by rfl) (by exact (.cons (.cons .nil))) rfl (L _ rfl)) rfl ⟨rfl, trivial⟩ ⟨rfl, trivial⟩ ?_
    refine swg (g := 91) rfl rfl (core_call (E := E) hG hX Tryd.call18 rfl hN (sameT (Int.mul_one a) (by rw [Int.mul_one]; omega)) (L _ rfl)) rfl ⟨rfl, rfl, trivial⟩ trivial ?_
    refine sw (core_pick_t rfl (L _ rfl)) ⟨rfl, rfl, trivial⟩ trivial ?_
    refine sw (core_assign (L _ rfl)) ⟨rfl, trivial⟩ trivial ?_
    refine seq_nil ⟨aoks [⟨[9], [9], [77], []⟩, ⟨[4], [4], [78], []⟩, ⟨[3], [3], [79], []⟩, ⟨[78, 79], [], [80], []⟩, ⟨[77, 80], [], [81], []⟩, ⟨[81], [], [82], []⟩, ⟨[82, 9], [9], [83], []⟩, ⟨[82, 5], [5], [84], []⟩, ⟨[82, 83, 84], [], [85], []⟩, ⟨[82, 3], [3], [86], []⟩, ⟨[82, 10], [10], [87], []⟩, ⟨[82, 86, 87], [], [88], []⟩, ⟨[82, 85, 88], [], [89], []⟩, ⟨[82, 89], [], [90], []⟩, ⟨[90], [], [91], []⟩, ⟨[91, 3], [3], [92], []⟩, ⟨[91], [], [93], []⟩, ⟨[91, 92, 93], [], [94], []⟩, ⟨[91, 3], [3], [95], []⟩, ⟨[91, 94, 95], [], [96], []⟩, ⟨[91, 96], [], [97], []⟩, ⟨[97], [], [12], []⟩] (by rfl) (by rfl) (by decide), [(3, _), (4, _), (5, _), (8, _), (9, _), (10, _), (11, _), (12, _)], [(3, _), (4, _), (5, _), (8, _), (9, _), (10, _)], ⟨rfl, rfl, rfl, rfl, rfl, rfl, rfl, rfl, trivial⟩, ⟨rfl, rfl, rfl, rfl, rfl, rfl, trivial⟩, ?_⟩
    refine exd (by rfl) ?_
    refine sw (core_loadP Tryd.isAgg24 Tryd.sizeOf24 (by rfl) (by exact (.cons (.cons .nil))) rfl (L _ rfl)) ⟨rfl, trivial⟩ ⟨rfl, trivial⟩ ?_
    refine sw (core_loadP Tryd.isAgg24 Tryd.sizeOf24 (by rfl) (by exact (.cons (.cons .nil))) rfl (L _ rfl)) ⟨rfl, trivial⟩ ⟨rfl, trivial⟩ ?_
    refine sw (core_call (E := E) hG hX Tryd.call39 rfl hN (mulZ a (b + c) (by omega) (by omega)) (L _ rfl)) ⟨rfl, rfl, trivial⟩ trivial ?_
    refine sw (core_loadP Tryd.isAgg24 Tryd.sizeOf24 (by rfl) (by exact (.cons (.cons .nil))) rfl (L _ rfl)) ⟨rfl, trivial⟩ ⟨rfl, trivial⟩ ?_
    refine sw (core_loadP Tryd.isAgg24 Tryd.sizeOf24 (by rfl) (by exact (.cons (.cons .nil))) rfl (L _ rfl)) ⟨rfl, trivial⟩ ⟨rfl, trivial⟩ ?_
    refine sw (core_loadP Tryd.isAgg24 Tryd.sizeOf24 (by rfl) (by exact (.cons (.cons .nil))) rfl (L _ rfl)) ⟨rfl, trivial⟩ ⟨rfl, trivial⟩ ?_
    refine sw (core_call (E := E) hG hX Tryd.call39 rfl hN (mulZ a c (by omega) (by omega)) (L _ rfl)) ⟨rfl, rfl, trivial⟩ trivial ?_
    refine sw (core_call (E := E) hG hX Tryd.call35 rfl hN (addZ (a * b) (a * c) (by omega) (by omega)) (L _ rfl)) ⟨rfl, rfl, trivial⟩ trivial ?_
    refine sw (core_call (E := E) hG hX Tryd.call18 rfl hN (sameT (Int.mul_add a b c) (by omega)) (L _ rfl)) ⟨rfl, rfl, trivial⟩ trivial ?_
    refine sw (core_move (L _ rfl)) ⟨rfl, trivial⟩ trivial ?_
    refine swg (g := 107) rfl rfl (core_loadP Tryd.isAgg24 Tryd.sizeOf24 (by rfl) (by exact (.cons (.cons .nil))) rfl (L _ rfl)) rfl ⟨rfl, trivial⟩ ⟨rfl, trivial⟩ ?_
    refine swg (g := 107) rfl rfl (core_loadP Tryd.isAgg24 Tryd.sizeOf24 (by rfl) (by exact (.cons (.cons .nil))) rfl (L _ rfl)) rfl ⟨rfl, trivial⟩ ⟨rfl, trivial⟩ ?_
    refine swg (g := 107) rfl rfl (core_call (E := E) hG hX Tryd.call27 rfl hN (negZ a (by omega)) (L _ rfl)) rfl ⟨rfl, trivial⟩ trivial ?_
    refine swg (g := 107) rfl rfl (core_call (E := E) hG hX Tryd.call35 rfl hN (addZ a (-a) (by omega) (by omega)) (L _ rfl)) rfl ⟨rfl, rfl, trivial⟩ trivial ?_
    refine swg (g := 107) rfl rfl (core_call (E := E) hG hX Tryd.call19 rfl hN (of_says 0 (by decide) (by decide)) (L _ rfl)) rfl ⟨rfl, trivial⟩ trivial ?_
    refine swg (g := 107) rfl rfl (core_call (E := E) hG hX Tryd.call18 rfl hN (sameT (Int.add_right_neg a) (by rw [Int.add_right_neg]; omega)) (L _ rfl)) rfl ⟨rfl, rfl, trivial⟩ trivial ?_
    refine sw (core_pick_t rfl (L _ rfl)) ⟨rfl, rfl, trivial⟩ trivial ?_
    refine sw (core_assign (L _ rfl)) ⟨rfl, trivial⟩ trivial ?_
    refine seq_nil ⟨aoks [⟨[3], [3], [98], []⟩, ⟨[8], [8], [99], []⟩, ⟨[98, 99], [], [100], []⟩, ⟨[9], [9], [101], []⟩, ⟨[3], [3], [102], []⟩, ⟨[5], [5], [103], []⟩, ⟨[102, 103], [], [104], []⟩, ⟨[101, 104], [], [105], []⟩, ⟨[100, 105], [], [106], []⟩, ⟨[106], [], [107], []⟩, ⟨[107, 3], [3], [108], []⟩, ⟨[107, 3], [3], [109], []⟩, ⟨[107, 109], [], [110], []⟩, ⟨[107, 108, 110], [], [111], []⟩, ⟨[107], [], [112], []⟩, ⟨[107, 111, 112], [], [113], []⟩, ⟨[107, 113], [], [114], []⟩, ⟨[114], [], [13], []⟩] (by rfl) (by rfl) (by decide), [(3, _), (4, _), (5, _), (8, _), (10, _), (11, _), (12, _), (13, _)], [(3, _), (4, _), (5, _), (8, _), (10, _)], ⟨rfl, rfl, rfl, rfl, rfl, rfl, rfl, rfl, trivial⟩, ⟨rfl, rfl, rfl, rfl, rfl, trivial⟩, ?_⟩
    refine exr ?_
    refine sw (core_loadP Tryd.isAgg24 Tryd.sizeOf24 (by rfl) (by exact (.cons (.cons .nil))) rfl (L _ rfl)) ⟨rfl, trivial⟩ ⟨rfl, trivial⟩ ?_
    refine sw (core_loadP Tryd.isAgg24 Tryd.sizeOf24 (by rfl) (by exact (.cons (.cons .nil))) rfl (L _ rfl)) ⟨rfl, trivial⟩ ⟨rfl, trivial⟩ ?_
    refine sw (core_call (E := E) hG hX Tryd.call25 rfl hN (cmpZ a b (by omega) (by omega)) (L _ rfl)) ⟨rfl, rfl, trivial⟩ trivial ?_
    refine sw (core_assign (L _ rfl)) ⟨rfl, trivial⟩ trivial ?_
    refine seq_nil ⟨[(3, _), (4, _), (5, _), (8, _), (10, _), (11, _), (12, _), (13, _), (14, _)], [(3, _), (4, _), (5, _), (8, _), (10, _)], ⟨rfl, rfl, rfl, rfl, rfl, rfl, rfl, rfl, rfl, trivial⟩, ⟨rfl, rfl, rfl, rfl, rfl, trivial⟩, ?_⟩
    have s1 := sign3 (a - b)
    have s2 := sign3 (b - c)
    have s3 := sign3 (a - c)
    have s4 := sign3 (b - a)
    have s5 := sign3 ((a + c) - (b + c))
    rw [← cz] at s1 s2 s3 s4 s5
    have d1 := cz a b
    refine exmd (sl := [(15, vb true)]) (sl0 := [(3, _), (5, _), (10, _), (11, _), (12, _), (13, _), (14, _)]) (hb := []) (hb0 := [(3, _), (5, _), (10, _)]) (by rfl) ⟨rfl, rfl, rfl, rfl, rfl, rfl, rfl, trivial⟩ ⟨rfl, rfl, rfl, trivial⟩ ?_ ?_
    · rcases (show 0 < cmpI a b ∨ (¬ 0 < cmpI a b ∧ 0 < cmpI b c) ∨ (¬ 0 < cmpI a b ∧ ¬ 0 < cmpI b c ∧ cmpI a c ≤ 0) by omega) with c1 | ⟨c1, c2⟩ | ⟨c1, c2, c3⟩
      · refine sw (core_move (L _ rfl)) ⟨rfl, trivial⟩ trivial ?_
        refine sw (core_loadP Tryd.isAgg24 Tryd.sizeOf24 (by rfl) (by exact (.cons (.cons .nil))) rfl (L _ rfl)) ⟨rfl, trivial⟩ ⟨rfl, trivial⟩ ?_
        refine sw (core_loadP Tryd.isAgg24 Tryd.sizeOf24 (by rfl) (by exact (.cons (.cons .nil))) rfl (L _ rfl)) ⟨rfl, trivial⟩ ⟨rfl, trivial⟩ ?_
        refine sw (core_call (E := E) hG hX Tryd.call37 rfl hN (subZ a b (by omega) (by omega)) (L _ rfl)) ⟨rfl, rfl, trivial⟩ trivial ?_
        refine sw (core_call (E := E) hG hX Tryd.call23 rfl hN (signZ (a - b) (by omega)) (L _ rfl)) ⟨rfl, trivial⟩ trivial ?_
        refine sw (core_eql (L _ rfl)) ⟨rfl, rfl, trivial⟩ trivial ?_
        refine sw (core_move (L _ rfl)) ⟨rfl, trivial⟩ trivial ?_
        refine swg (g := 124) rfl (decide_eq_true (by omega)) (core_move (L _ rfl)) rfl ⟨rfl, trivial⟩ trivial ?_
        refine swg (g := 124) rfl (decide_eq_true (by omega)) (core_loadP Tryd.isAgg24 Tryd.sizeOf24 (by rfl) (by exact (.cons (.cons .nil))) rfl (L _ rfl)) rfl ⟨rfl, trivial⟩ ⟨rfl, trivial⟩ ?_
        refine swg (g := 124) rfl (decide_eq_true (by omega)) (core_loadP Tryd.isAgg24 Tryd.sizeOf24 (by rfl) (by exact (.cons (.cons .nil))) rfl (L _ rfl)) rfl ⟨rfl, trivial⟩ ⟨rfl, trivial⟩ ?_
        refine swg (g := 124) rfl (decide_eq_true (by omega)) (core_call (E := E) hG hX Tryd.call25 rfl hN (cmpZ b a (by omega) (by omega)) (L _ rfl)) rfl ⟨rfl, rfl, trivial⟩ trivial ?_
        refine swg (g := 124) rfl (decide_eq_true (by omega)) (core_neg (L _ rfl) (w64 (by omega) (by omega))) rfl ⟨rfl, trivial⟩ trivial ?_
        refine swg (g := 124) rfl (decide_eq_true (by omega)) (core_eql (L _ rfl)) rfl ⟨rfl, rfl, trivial⟩ trivial ?_
        refine sw (core_pick_t (decide_eq_true (by omega)) (L _ rfl)) ⟨rfl, rfl, trivial⟩ trivial ?_
        refine sw (core_move (L _ rfl)) ⟨rfl, trivial⟩ trivial ?_
        refine swg (g := 132) rfl (decide_eq_true (by omega)) (core_move (L _ rfl)) rfl ⟨rfl, trivial⟩ trivial ?_
        refine swg (g := 132) rfl (decide_eq_true (by omega)) (core_loadP Tryd.isAgg24 Tryd.sizeOf24 (by rfl) (by exact (.cons (.cons .nil))) rfl (L _ rfl)) rfl ⟨rfl, trivial⟩ ⟨rfl, trivial⟩ ?_
        refine swg (g := 132) rfl (decide_eq_true (by omega)) (core_loadP Tryd.isAgg24 Tryd.sizeOf24 (by rfl) (by exact (.cons (.cons .nil))) rfl (L _ rfl)) rfl ⟨rfl, trivial⟩ ⟨rfl, trivial⟩ ?_
        refine swg (g := 132) rfl (decide_eq_true (by omega)) (core_call (E := E) hG hX Tryd.call35 rfl hN (addZ a c (by omega) (by omega)) (L _ rfl)) rfl ⟨rfl, rfl, trivial⟩ trivial ?_
        refine swg (g := 132) rfl (decide_eq_true (by omega)) (core_loadP Tryd.isAgg24 Tryd.sizeOf24 (by rfl) (by exact (.cons (.cons .nil))) rfl (L _ rfl)) rfl ⟨rfl, trivial⟩ ⟨rfl, trivial⟩ ?_
        refine swg (g := 132) rfl (decide_eq_true (by omega)) (core_call (E := E) hG hX Tryd.call25 rfl hN (cmpZ (a + c) (b + c) (by omega) (by omega)) (L _ rfl)) rfl ⟨rfl, rfl, trivial⟩ trivial ?_
        refine swg (g := 132) rfl (decide_eq_true (by omega)) (core_eql (L _ rfl)) rfl ⟨rfl, rfl, trivial⟩ trivial ?_
        refine sw (core_pick_t (decide_eq_true (by omega)) (L _ rfl)) ⟨rfl, rfl, trivial⟩ trivial ?_
        refine sw (core_move (L _ rfl)) ⟨rfl, trivial⟩ trivial ?_
        refine swg (g := 141) rfl (decide_eq_true (by omega)) (core_move (L _ rfl)) rfl ⟨rfl, trivial⟩ trivial ?_
        refine swg (g := 141) rfl (decide_eq_true (by omega)) (core_gtr (L _ rfl)) rfl ⟨rfl, rfl, trivial⟩ trivial ?_
        refine swg (g := 141) rfl (decide_eq_true (by omega)) (core_move (L _ rfl)) rfl ⟨rfl, trivial⟩ trivial ?_
        refine swn (g := 144) rfl (decide_eq_true (by omega)) (L _ rfl) rfl ?_
        refine swn (g := 144) rfl (decide_eq_true (by omega)) (L _ rfl) rfl ?_
        refine swn (g := 144) rfl (decide_eq_true (by omega)) (L _ rfl) rfl ?_
        refine swn (g := 144) rfl (decide_eq_true (by omega)) (L _ rfl) rfl ?_
        refine swg (g := 141) rfl (decide_eq_true (by omega)) (core_pick_t (decide_eq_true (by omega)) (L _ rfl)) rfl ⟨rfl, rfl, trivial⟩ trivial ?_
        refine swg (g := 141) rfl (decide_eq_true (by omega)) (core_move (L _ rfl)) rfl ⟨rfl, trivial⟩ trivial ?_
        refine swn (g := 150) rfl rfl (L _ rfl) rfl ?_
        refine swn (g := 150) rfl rfl (L _ rfl) rfl ?_
        refine swn (g := 150) rfl rfl (L _ rfl) rfl ?_
        refine swn (g := 150) rfl rfl (L _ rfl) rfl ?_
        refine swg (g := 141) rfl (decide_eq_true (by omega)) (core_pick_t rfl (L _ rfl)) rfl ⟨rfl, rfl, trivial⟩ trivial ?_
        refine sw (core_pick_t (decide_eq_true (by omega)) (L _ rfl)) ⟨rfl, rfl, trivial⟩ trivial ?_
        refine sw (core_assign (L _ rfl)) ⟨rfl, trivial⟩ trivial ?_
        exact seq_nil ⟨aoks [⟨[14], [], [118], []⟩, ⟨[3], [3], [119], []⟩, ⟨[4], [4], [120], []⟩, ⟨[119, 120], [], [121], []⟩, ⟨[121], [], [122], []⟩, ⟨[118, 122], [], [123], []⟩, ⟨[123], [], [124], []⟩, ⟨[124, 14], [], [125], []⟩, ⟨[124, 4], [4], [126], []⟩, ⟨[124, 3], [3], [127], []⟩, ⟨[124, 126, 127], [], [128], []⟩, ⟨[124, 128], [], [129], []⟩, ⟨[124, 125, 129], [], [130], []⟩, ⟨[124, 130], [], [131], []⟩, ⟨[131], [], [132], []⟩, ⟨[132, 14], [], [133], []⟩, ⟨[132, 3], [3], [134], []⟩, ⟨[132, 5], [5], [135], []⟩, ⟨[132, 134, 135], [], [136], []⟩, ⟨[132, 8], [8], [137], []⟩, ⟨[132, 136, 137], [], [138], []⟩, ⟨[132, 133, 138], [], [139], []⟩, ⟨[132, 139], [], [140], []⟩, ⟨[140], [], [141], []⟩, ⟨[141, 14], [], [142], []⟩, ⟨[141, 142], [], [143], []⟩, ⟨[141, 143], [], [144], []⟩, ⟨[144], [], [145], []⟩, ⟨[144], [], [146], []⟩, ⟨[144], [], [147], []⟩, ⟨[144], [], [148], []⟩, ⟨[141, 144], [], [149], []⟩, ⟨[141, 149], [], [150], []⟩, ⟨[150], [], [151], []⟩, ⟨[150], [], [152], []⟩, ⟨[150], [], [153], []⟩, ⟨[150], [], [154], []⟩, ⟨[141, 150], [], [155], []⟩, ⟨[141, 155], [], [156], []⟩, ⟨[156], [], [15], []⟩] (by rfl) (by rfl) (by decide), ⟨ob rfl rfl, rfl, rfl, rfl, rfl, rfl, rfl, rfl, trivial⟩, ⟨rfl, rfl, rfl, trivial⟩⟩
      · refine sw (core_move (L _ rfl)) ⟨rfl, trivial⟩ trivial ?_
        refine sw (core_loadP Tryd.isAgg24 Tryd.sizeOf24 (by rfl) (by exact (.cons (.cons .nil))) rfl (L _ rfl)) ⟨rfl, trivial⟩ ⟨rfl, trivial⟩ ?_
        refine sw (core_loadP Tryd.isAgg24 Tryd.sizeOf24 (by rfl) (by exact (.cons (.cons .nil))) rfl (L _ rfl)) ⟨rfl, trivial⟩ ⟨rfl, trivial⟩ ?_
        refine sw (core_call (E := E) hG hX Tryd.call37 rfl hN (subZ a b (by omega) (by omega)) (L _ rfl)) ⟨rfl, rfl, trivial⟩ trivial ?_
        refine sw (core_call (E := E) hG hX Tryd.call23 rfl hN (signZ (a - b) (by omega)) (L _ rfl)) ⟨rfl, trivial⟩ trivial ?_
        refine sw (core_eql (L _ rfl)) ⟨rfl, rfl, trivial⟩ trivial ?_
        refine sw (core_move (L _ rfl)) ⟨rfl, trivial⟩ trivial ?_
        refine swg (g := 124) rfl (decide_eq_true (by omega)) (core_move (L _ rfl)) rfl ⟨rfl, trivial⟩ trivial ?_
        refine swg (g := 124) rfl (decide_eq_true (by omega)) (core_loadP Tryd.isAgg24 Tryd.sizeOf24 (by rfl) (by exact (.cons (.cons .nil))) rfl (L _ rfl)) rfl ⟨rfl, trivial⟩ ⟨rfl, trivial⟩ ?_
        refine swg (g := 124) rfl (decide_eq_true (by omega)) (core_loadP Tryd.isAgg24 Tryd.sizeOf24 (by rfl) (by exact (.cons (.cons .nil))) rfl (L _ rfl)) rfl ⟨rfl, trivial⟩ ⟨rfl, trivial⟩ ?_
        refine swg (g := 124) rfl (decide_eq_true (by omega)) (core_call (E := E) hG hX Tryd.call25 rfl hN (cmpZ b a (by omega) (by omega)) (L _ rfl)) rfl ⟨rfl, rfl, trivial⟩ trivial ?_
        refine swg (g := 124) rfl (decide_eq_true (by omega)) (core_neg (L _ rfl) (w64 (by omega) (by omega))) rfl ⟨rfl, trivial⟩ trivial ?_
        refine swg (g := 124) rfl (decide_eq_true (by omega)) (core_eql (L _ rfl)) rfl ⟨rfl, rfl, trivial⟩ trivial ?_
        refine sw (core_pick_t (decide_eq_true (by omega)) (L _ rfl)) ⟨rfl, rfl, trivial⟩ trivial ?_
        refine sw (core_move (L _ rfl)) ⟨rfl, trivial⟩ trivial ?_
        refine swg (g := 132) rfl (decide_eq_true (by omega)) (core_move (L _ rfl)) rfl ⟨rfl, trivial⟩ trivial ?_
        refine swg (g := 132) rfl (decide_eq_true (by omega)) (core_loadP Tryd.isAgg24 Tryd.sizeOf24 (by rfl) (by exact (.cons (.cons .nil))) rfl (L _ rfl)) rfl ⟨rfl, trivial⟩ ⟨rfl, trivial⟩ ?_
        refine swg (g := 132) rfl (decide_eq_true (by omega)) (core_loadP Tryd.isAgg24 Tryd.sizeOf24 (by rfl) (by exact (.cons (.cons .nil))) rfl (L _ rfl)) rfl ⟨rfl, trivial⟩ ⟨rfl, trivial⟩ ?_
        refine swg (g := 132) rfl (decide_eq_true (by omega)) (core_call (E := E) hG hX Tryd.call35 rfl hN (addZ a c (by omega) (by omega)) (L _ rfl)) rfl ⟨rfl, rfl, trivial⟩ trivial ?_
        refine swg (g := 132) rfl (decide_eq_true (by omega)) (core_loadP Tryd.isAgg24 Tryd.sizeOf24 (by rfl) (by exact (.cons (.cons .nil))) rfl (L _ rfl)) rfl ⟨rfl, trivial⟩ ⟨rfl, trivial⟩ ?_
        refine swg (g := 132) rfl (decide_eq_true (by omega)) (core_call (E := E) hG hX Tryd.call25 rfl hN (cmpZ (a + c) (b + c) (by omega) (by omega)) (L _ rfl)) rfl ⟨rfl, rfl, trivial⟩ trivial ?_
        refine swg (g := 132) rfl (decide_eq_true (by omega)) (core_eql (L _ rfl)) rfl ⟨rfl, rfl, trivial⟩ trivial ?_
        refine sw (core_pick_t (decide_eq_true (by omega)) (L _ rfl)) ⟨rfl, rfl, trivial⟩ trivial ?_
        refine sw (core_move (L _ rfl)) ⟨rfl, trivial⟩ trivial ?_
        refine swg (g := 141) rfl (decide_eq_true (by omega)) (core_move (L _ rfl)) rfl ⟨rfl, trivial⟩ trivial ?_
        refine swg (g := 141) rfl (decide_eq_true (by omega)) (core_gtr (L _ rfl)) rfl ⟨rfl, rfl, trivial⟩ trivial ?_
        refine swg (g := 141) rfl (decide_eq_true (by omega)) (core_move (L _ rfl)) rfl ⟨rfl, trivial⟩ trivial ?_
        refine swg (g := 144) rfl (decide_eq_false (by omega)) (core_loadP Tryd.isAgg24 Tryd.sizeOf24 (by rfl) (by exact (.cons (.cons .nil))) rfl (L _ rfl)) rfl ⟨rfl, trivial⟩ ⟨rfl, trivial⟩ ?_
        refine swg (g := 144) rfl (decide_eq_false (by omega)) (core_loadP Tryd.isAgg24 Tryd.sizeOf24 (by rfl) (by exact (.cons (.cons .nil))) rfl (L _ rfl)) rfl ⟨rfl, trivial⟩ ⟨rfl, trivial⟩ ?_
        refine swg (g := 144) rfl (decide_eq_false (by omega)) (core_call (E := E) hG hX Tryd.call25 rfl hN (cmpZ b c (by omega) (by omega)) (L _ rfl)) rfl ⟨rfl, rfl, trivial⟩ trivial ?_
        refine swg (g := 144) rfl (decide_eq_false (by omega)) (core_gtr (L _ rfl)) rfl ⟨rfl, rfl, trivial⟩ trivial ?_
        refine swg (g := 141) rfl (decide_eq_true (by omega)) (core_pick_f (decide_eq_false (by omega)) (L _ rfl)) rfl ⟨rfl, rfl, trivial⟩ trivial ?_
        refine swg (g := 141) rfl (decide_eq_true (by omega)) (core_move (L _ rfl)) rfl ⟨rfl, trivial⟩ trivial ?_
        refine swn (g := 150) rfl (decide_eq_true (by omega)) (L _ rfl) rfl ?_
        refine swn (g := 150) rfl (decide_eq_true (by omega)) (L _ rfl) rfl ?_
        refine swn (g := 150) rfl (decide_eq_true (by omega)) (L _ rfl) rfl ?_
        refine swn (g := 150) rfl (decide_eq_true (by omega)) (L _ rfl) rfl ?_
        refine swg (g := 141) rfl (decide_eq_true (by omega)) (core_pick_t (decide_eq_true (by omega)) (L _ rfl)) rfl ⟨rfl, rfl, trivial⟩ trivial ?_
        refine sw (core_pick_t (decide_eq_true (by omega)) (L _ rfl)) ⟨rfl, rfl, trivial⟩ trivial ?_
        refine sw (core_assign (L _ rfl)) ⟨rfl, trivial⟩ trivial ?_
        exact seq_nil ⟨aoks [⟨[14], [], [118], []⟩, ⟨[3], [3], [119], []⟩, ⟨[4], [4], [120], []⟩, ⟨[119, 120], [], [121], []⟩, ⟨[121], [], [122], []⟩, ⟨[118, 122], [], [123], []⟩, ⟨[123], [], [124], []⟩, ⟨[124, 14], [], [125], []⟩, ⟨[124, 4], [4], [126], []⟩, ⟨[124, 3], [3], [127], []⟩, ⟨[124, 126, 127], [], [128], []⟩, ⟨[124, 128], [], [129], []⟩, ⟨[124, 125, 129], [], [130], []⟩, ⟨[124, 130], [], [131], []⟩, ⟨[131], [], [132], []⟩, ⟨[132, 14], [], [133], []⟩, ⟨[132, 3], [3], [134], []⟩, ⟨[132, 5], [5], [135], []⟩, ⟨[132, 134, 135], [], [136], []⟩, ⟨[132, 8], [8], [137], []⟩, ⟨[132, 136, 137], [], [138], []⟩, ⟨[132, 133, 138], [], [139], []⟩, ⟨[132, 139], [], [140], []⟩, ⟨[140], [], [141], []⟩, ⟨[141, 14], [], [142], []⟩, ⟨[141, 142], [], [143], []⟩, ⟨[141, 143], [], [144], []⟩, ⟨[144, 4], [4], [145], []⟩, ⟨[144, 5], [5], [146], []⟩, ⟨[144, 145, 146], [], [147], []⟩, ⟨[144, 147], [], [148], []⟩, ⟨[141, 144, 148], [], [149], []⟩, ⟨[141, 149], [], [150], []⟩, ⟨[150], [], [151], []⟩, ⟨[150], [], [152], []⟩, ⟨[150], [], [153], []⟩, ⟨[150], [], [154], []⟩, ⟨[141, 150], [], [155], []⟩, ⟨[141, 155], [], [156], []⟩, ⟨[156], [], [15], []⟩] (by rfl) (by rfl) (by decide), ⟨ob rfl rfl, rfl, rfl, rfl, rfl, rfl, rfl, rfl, trivial⟩, ⟨rfl, rfl, rfl, trivial⟩⟩
      · refine sw (core_move (L _ rfl)) ⟨rfl, trivial⟩ trivial ?_
        refine sw (core_loadP Tryd.isAgg24 Tryd.sizeOf24 (by rfl) (by exact (.cons (.cons .nil))) rfl (L _ rfl)) ⟨rfl, trivial⟩ ⟨rfl, trivial⟩ ?_
        refine sw (core_loadP Tryd.isAgg24 Tryd.sizeOf24 (by rfl) (by exact (.cons (.cons .nil))) rfl (L _ rfl)) ⟨rfl, trivial⟩ ⟨rfl, trivial⟩ ?_
        refine sw (core_call (E := E) hG hX Tryd.call37 rfl hN (subZ a b (by omega) (by omega)) (L _ rfl)) ⟨rfl, rfl, trivial⟩ trivial ?_
        refine sw (core_call (E := E) hG hX Tryd.call23 rfl hN (signZ (a - b) (by omega)) (L _ rfl)) ⟨rfl, trivial⟩ trivial ?_
        refine sw (core_eql (L _ rfl)) ⟨rfl, rfl, trivial⟩ trivial ?_
        refine sw (core_move (L _ rfl)) ⟨rfl, trivial⟩ trivial ?_
        refine swg (g := 124) rfl (decide_eq_true (by omega)) (core_move (L _ rfl)) rfl ⟨rfl, trivial⟩ trivial ?_
        refine swg (g := 124) rfl (decide_eq_true (by omega)) (core_loadP Tryd.isAgg24 Tryd.sizeOf24 (by rfl) (by exact (.cons (.cons .nil))) rfl (L _ rfl)) rfl ⟨rfl, trivial⟩ ⟨rfl, trivial⟩ ?_
        refine swg (g := 124) rfl (decide_eq_true (by omega)) (core_loadP Tryd.isAgg24 Tryd.sizeOf24 (by rfl) (by exact (.cons (.cons .nil))) rfl (L _ rfl)) rfl ⟨rfl, trivial⟩ ⟨rfl, trivial⟩ ?_
        refine swg (g := 124) rfl (decide_eq_true (by omega)) (core_call (E := E) hG hX Tryd.call25 rfl hN (cmpZ b a (by omega) (by omega)) (L _ rfl)) rfl ⟨rfl, rfl, trivial⟩ trivial ?_
        refine swg (g := 124) rfl (decide_eq_true (by omega)) (core_neg (L _ rfl) (w64 (by omega) (by omega))) rfl ⟨rfl, trivial⟩ trivial ?_
        refine swg (g := 124) rfl (decide_eq_true (by omega)) (core_eql (L _ rfl)) rfl ⟨rfl, rfl, trivial⟩ trivial ?_
        refine sw (core_pick_t (decide_eq_true (by omega)) (L _ rfl)) ⟨rfl, rfl, trivial⟩ trivial ?_
        refine sw (core_move (L _ rfl)) ⟨rfl, trivial⟩ trivial ?_
        refine swg (g := 132) rfl (decide_eq_true (by omega)) (core_move (L _ rfl)) rfl ⟨rfl, trivial⟩ trivial ?_
        refine swg (g := 132) rfl (decide_eq_true (by omega)) (core_loadP Tryd.isAgg24 Tryd.sizeOf24 (by rfl) (by exact (.cons (.cons .nil))) rfl (L _ rfl)) rfl ⟨rfl, trivial⟩ ⟨rfl, trivial⟩ ?_
        refine swg (g := 132) rfl (decide_eq_true (by omega)) (core_loadP Tryd.isAgg24 Tryd.sizeOf24 (by rfl) (by exact (.cons (.cons .nil))) rfl (L _ rfl)) rfl ⟨rfl, trivial⟩ ⟨rfl, trivial⟩ ?_
        refine swg (g := 132) rfl (decide_eq_true (by omega)) (core_call (E := E) hG hX Tryd.call35 rfl hN (addZ a c (by omega) (by omega)) (L _ rfl)) rfl ⟨rfl, rfl, trivial⟩ trivial ?_
        refine swg (g := 132) rfl (decide_eq_true (by omega)) (core_loadP Tryd.isAgg24 Tryd.sizeOf24 (by rfl) (by exact (.cons (.cons .nil))) rfl (L _ rfl)) rfl ⟨rfl, trivial⟩ ⟨rfl, trivial⟩ ?_
        refine swg (g := 132) rfl (decide_eq_true (by omega)) (core_call (E := E) hG hX Tryd.call25 rfl hN (cmpZ (a + c) (b + c) (by omega) (by omega)) (L _ rfl)) rfl ⟨rfl, rfl, trivial⟩ trivial ?_
        refine swg (g := 132) rfl (decide_eq_true (by omega)) (core_eql (L _ rfl)) rfl ⟨rfl, rfl, trivial⟩ trivial ?_
        refine sw (core_pick_t (decide_eq_true (by omega)) (L _ rfl)) ⟨rfl, rfl, trivial⟩ trivial ?_
        refine sw (core_move (L _ rfl)) ⟨rfl, trivial⟩ trivial ?_
        refine swg (g := 141) rfl (decide_eq_true (by omega)) (core_move (L _ rfl)) rfl ⟨rfl, trivial⟩ trivial ?_
        refine swg (g := 141) rfl (decide_eq_true (by omega)) (core_gtr (L _ rfl)) rfl ⟨rfl, rfl, trivial⟩ trivial ?_
        refine swg (g := 141) rfl (decide_eq_true (by omega)) (core_move (L _ rfl)) rfl ⟨rfl, trivial⟩ trivial ?_
        refine swg (g := 144) rfl (decide_eq_false (by omega)) (core_loadP Tryd.isAgg24 Tryd.sizeOf24 (by rfl) (by exact (.cons (.cons .nil))) rfl (L _ rfl)) rfl ⟨rfl, trivial⟩ ⟨rfl, trivial⟩ ?_
        refine swg (g := 144) rfl (decide_eq_false (by omega)) (core_loadP Tryd.isAgg24 Tryd.sizeOf24 (by rfl) (by exact (.cons (.cons .nil))) rfl (L _ rfl)) rfl ⟨rfl, trivial⟩ ⟨rfl, trivial⟩ ?_
        refine swg (g := 144) rfl (decide_eq_false (by omega)) (core_call (E := E) hG hX Tryd.call25 rfl hN (cmpZ b c (by omega) (by omega)) (L _ rfl)) rfl ⟨rfl, rfl, trivial⟩ trivial ?_
        refine swg (g := 144) rfl (decide_eq_false (by omega)) (core_gtr (L _ rfl)) rfl ⟨rfl, rfl, trivial⟩ trivial ?_
        refine swg (g := 141) rfl (decide_eq_true (by omega)) (core_pick_f (decide_eq_false (by omega)) (L _ rfl)) rfl ⟨rfl, rfl, trivial⟩ trivial ?_
        refine swg (g := 141) rfl (decide_eq_true (by omega)) (core_move (L _ rfl)) rfl ⟨rfl, trivial⟩ trivial ?_
        refine swg (g := 150) rfl (decide_eq_false (by omega)) (core_loadP Tryd.isAgg24 Tryd.sizeOf24 (by rfl) (by exact (.cons (.cons .nil))) rfl (L _ rfl)) rfl ⟨rfl, trivial⟩ ⟨rfl, trivial⟩ ?_
        refine swg (g := 150) rfl (decide_eq_false (by omega)) (core_loadP Tryd.isAgg24 Tryd.sizeOf24 (by rfl) (by exact (.cons (.cons .nil))) rfl (L _ rfl)) rfl ⟨rfl, trivial⟩ ⟨rfl, trivial⟩ ?_
        refine swg (g := 150) rfl (decide_eq_false (by omega)) (core_call (E := E) hG hX Tryd.call25 rfl hN (cmpZ a c (by omega) (by omega)) (L _ rfl)) rfl ⟨rfl, rfl, trivial⟩ trivial ?_
        refine swg (g := 150) rfl (decide_eq_false (by omega)) (core_leq (L _ rfl)) rfl ⟨rfl, rfl, trivial⟩ trivial ?_
        refine swg (g := 141) rfl (decide_eq_true (by omega)) (core_pick_f (decide_eq_false (by omega)) (L _ rfl)) rfl ⟨rfl, rfl, trivial⟩ trivial ?_
        refine sw (core_pick_t (decide_eq_true (by omega)) (L _ rfl)) ⟨rfl, rfl, trivial⟩ trivial ?_
        refine sw (core_assign (L _ rfl)) ⟨rfl, trivial⟩ trivial ?_
        exact seq_nil ⟨aoks [⟨[14], [], [118], []⟩, ⟨[3], [3], [119], []⟩, ⟨[4], [4], [120], []⟩, ⟨[119, 120], [], [121], []⟩, ⟨[121], [], [122], []⟩, ⟨[118, 122], [], [123], []⟩, ⟨[123], [], [124], []⟩, ⟨[124, 14], [], [125], []⟩, ⟨[124, 4], [4], [126], []⟩, ⟨[124, 3], [3], [127], []⟩, ⟨[124, 126, 127], [], [128], []⟩, ⟨[124, 128], [], [129], []⟩, ⟨[124, 125, 129], [], [130], []⟩, ⟨[124, 130], [], [131], []⟩, ⟨[131], [], [132], []⟩, ⟨[132, 14], [], [133], []⟩, ⟨[132, 3], [3], [134], []⟩, ⟨[132, 5], [5], [135], []⟩, ⟨[132, 134, 135], [], [136], []⟩, ⟨[132, 8], [8], [137], []⟩, ⟨[132, 136, 137], [], [138], []⟩, ⟨[132, 133, 138], [], [139], []⟩, ⟨[132, 139], [], [140], []⟩, ⟨[140], [], [141], []⟩, ⟨[141, 14], [], [142], []⟩, ⟨[141, 142], [], [143], []⟩, ⟨[141, 143], [], [144], []⟩, ⟨[144, 4], [4], [145], []⟩, ⟨[144, 5], [5], [146], []⟩, ⟨[144, 145, 146], [], [147], []⟩, ⟨[144, 147], [], [148], []⟩, ⟨[141, 144, 148], [], [149], []⟩, ⟨[141, 149], [], [150], []⟩, ⟨[150, 3], [3], [151], []⟩, ⟨[150, 5], [5], [152], []⟩, ⟨[150, 151, 152], [], [153], []⟩, ⟨[150, 153], [], [154], []⟩, ⟨[141, 150, 154], [], [155], []⟩, ⟨[141, 155], [], [156], []⟩, ⟨[156], [], [15], []⟩] (by rfl) (by rfl) (by decide), ⟨ob rfl (by simp [c3]), rfl, rfl, rfl, rfl, rfl, rfl, rfl, trivial⟩, ⟨rfl, rfl, rfl, trivial⟩⟩
    refine ex_seq ?_
    refine exr ?_
    refine sw (core_loadP Tryd.isAgg24 Tryd.sizeOf24 (by rfl) (by exact (.cons (.cons .nil))) rfl (L _ rfl)) ⟨rfl, trivial⟩ ⟨rfl, trivial⟩ ?_
    refine sw (core_call (E := E) hG hX Tryd.call23 rfl hN (signZ c (by omega)) (L _ rfl)) ⟨rfl, trivial⟩ trivial ?_
    refine sw (core_gtr (L _ rfl)) ⟨rfl, rfl, trivial⟩ trivial ?_
    refine seq_nil ⟨[(3, _), (5, _), (10, _), (11, _), (12, _), (13, _), (14, _), (15, _), (159, _)], [(3, _), (5, _), (10, _)], ⟨rfl, rfl, rfl, rfl, rfl, rfl, rfl, rfl, rfl, trivial⟩, ⟨rfl, rfl, rfl, trivial⟩, ?_⟩
    refine ex_if rfl (fun hs => ?_) (fun hs => ?_)
    · have hs := dt hs
      have hc0 : 0 < c := by rcases sign3 c with h | h | h <;> omega
      refine exd0 (by rfl) ?_
      refine sw (core_move (L _ rfl)) ⟨rfl, trivial⟩ trivial ?_
      refine sw (core_move (L _ rfl)) ⟨rfl, trivial⟩ trivial ?_
      refine swg (g := 161) rfl rfl (core_move (L _ rfl)) rfl ⟨rfl, trivial⟩ trivial ?_
      refine swg (g := 161) rfl rfl (core_loadP Tryd.isAgg24 Tryd.sizeOf24 (by rfl) (by exact (.cons (.cons .nil))) rfl (L _ rfl)) rfl ⟨rfl, trivial⟩ ⟨rfl, trivial⟩ ?_
      refine swg (g := 161) rfl rfl (core_loadP Tryd.isAgg24 Tryd.sizeOf24 (by rfl) (by exact (.cons (.cons .nil))) rfl (L _ rfl)) rfl ⟨rfl, trivial⟩ ⟨rfl, trivial⟩ ?_
      refine swg (g := 161) rfl rfl (core_call (E := E) hG hX Tryd.call39 rfl hN (mulZ a c (by omega) (by omega)) (L _ rfl)) rfl ⟨rfl, rfl, trivial⟩ trivial ?_
      refine swg (g := 161) rfl rfl (core_loadP Tryd.isAgg24 Tryd.sizeOf24 (by rfl) (by exact (.cons (.cons .nil))) rfl (L _ rfl)) rfl ⟨rfl, trivial⟩ ⟨rfl, trivial⟩ ?_
      refine swg (g := 161) rfl rfl (core_call (E := E) hG hX Tryd.call25 rfl hN (cmpZ (a * c) (b * c) (by omega) (by omega)) (L _ rfl)) rfl ⟨rfl, rfl, trivial⟩ trivial ?_
      refine swg (g := 161) rfl rfl (core_eql (L _ rfl)) rfl ⟨rfl, rfl, trivial⟩ trivial ?_
      refine sw (core_pick_t rfl (L _ rfl)) ⟨rfl, rfl, trivial⟩ trivial ?_
      refine sw (core_assign (L _ rfl)) ⟨rfl, trivial⟩ trivial ?_
      refine seq_nil ⟨aoks [⟨[15], [], [160], []⟩, ⟨[160], [], [161], []⟩, ⟨[161, 14], [], [162], []⟩, ⟨[161, 3], [3], [163], []⟩, ⟨[161, 5], [5], [164], []⟩, ⟨[161, 163, 164], [], [165], []⟩, ⟨[161, 10], [10], [166], []⟩, ⟨[161, 165, 166], [], [167], []⟩, ⟨[161, 162, 167], [], [168], []⟩, ⟨[161, 168], [], [169], []⟩, ⟨[169], [], [15], []⟩] (by rfl) (by rfl) (by decide), ?_⟩
      refine exr ?_
      refine sw (core_call (E := E) hG hX Tryd.call13 rfl hN sane_says (L _ rfl)) trivial trivial ?_
      refine sw (core_move (L _ rfl)) ⟨rfl, trivial⟩ trivial ?_
      refine swg (g := 171) rfl rfl (core_move (L _ rfl)) rfl ⟨rfl, trivial⟩ trivial ?_
      refine sw (core_pick_t rfl (L _ rfl)) ⟨rfl, rfl, trivial⟩ trivial ?_
      refine sw (core_move (L _ rfl)) ⟨rfl, trivial⟩ trivial ?_
      refine swg (g := 174) rfl rfl (core_move (L _ rfl)) rfl ⟨rfl, trivial⟩ trivial ?_
      refine sw (core_pick_t rfl (L _ rfl)) ⟨rfl, rfl, trivial⟩ trivial ?_
      refine sw (core_move (L _ rfl)) ⟨rfl, trivial⟩ trivial ?_
      refine swg (g := 177) rfl rfl (core_move (L _ rfl)) rfl ⟨rfl, trivial⟩ trivial ?_
      refine sw (core_pick_t rfl (L _ rfl)) ⟨rfl, rfl, trivial⟩ trivial ?_
      refine sw (core_move (L _ rfl)) ⟨rfl, trivial⟩ trivial ?_
      refine swg (g := 180) rfl rfl (core_move (L _ rfl)) rfl ⟨rfl, trivial⟩ trivial ?_
      refine sw (core_pick_t rfl (L _ rfl)) ⟨rfl, rfl, trivial⟩ trivial ?_
      refine sw (core_assign (L _ rfl)) ⟨rfl, trivial⟩ trivial ?_
      refine seq_nil ⟨[(6, _)], [], ⟨rfl, trivial⟩, trivial, ?_⟩
      refine ex_ret ?_
      refine ⟨.inr rfl, ResVs.cast (.cons (.tmp rfl) .nil) ?_⟩
      rw [cmp_mul hc0, decide_eq_true rfl]
    · refine ex_skip (show Exec _ _ _ _ _ from ?_)
      refine exr ?_
      refine sw (core_call (E := E) hG hX Tryd.call13 rfl hN sane_says (L _ rfl)) trivial trivial ?_
      refine sw (core_move (L _ rfl)) ⟨rfl, trivial⟩ trivial ?_
      refine swg (g := 171) rfl rfl (core_move (L _ rfl)) rfl ⟨rfl, trivial⟩ trivial ?_
      refine sw (core_pick_t rfl (L _ rfl)) ⟨rfl, rfl, trivial⟩ trivial ?_
      refine sw (core_move (L _ rfl)) ⟨rfl, trivial⟩ trivial ?_
      refine swg (g := 174) rfl rfl (core_move (L _ rfl)) rfl ⟨rfl, trivial⟩ trivial ?_
      refine sw (core_pick_t rfl (L _ rfl)) ⟨rfl, rfl, trivial⟩ trivial ?_
      refine sw (core_move (L _ rfl)) ⟨rfl, trivial⟩ trivial ?_
      refine swg (g := 177) rfl rfl (core_move (L _ rfl)) rfl ⟨rfl, trivial⟩ trivial ?_
      refine sw (core_pick_t rfl (L _ rfl)) ⟨rfl, rfl, trivial⟩ trivial ?_
      refine sw (core_move (L _ rfl)) ⟨rfl, trivial⟩ trivial ?_
      refine swg (g := 180) rfl rfl (core_move (L _ rfl)) rfl ⟨rfl, trivial⟩ trivial ?_
      refine sw (core_pick_t rfl (L _ rfl)) ⟨rfl, rfl, trivial⟩ trivial ?_
      refine sw (core_assign (L _ rfl)) ⟨rfl, trivial⟩ trivial ?_
      refine seq_nil ⟨[(6, _)], [], ⟨rfl, trivial⟩, trivial, ?_⟩
      refine ex_ret ?_
      refine ⟨.inr rfl, ResVs.cast (.cons (.tmp rfl) .nil) ?_⟩
      rfl

theorem ring_says (m n l : Bool) (ws vs us : List Int) (h : Wd ws) (h2 : Wd vs) (h3 : Wd us) : Says E 7 [pI m ws, pI n vs, pI l us] (bZ true) := by
  by_cases hn : ((ws.length : Int) ≤ 60 ∧ (vs.length : Int) ≤ 60 ∧ (us.length : Int) ≤ 60) ∧ canon m ws = true ∧ canon n vs = true ∧ canon l us = true
  · obtain ⟨⟨l1, l2, l3⟩, c1, c2, c3⟩ := hn
    rw [pI_eq h c1, pI_eq h2 c2, pI_eq h3 c3]
    have k1 := nw_val (m := m) h
    have k2 := nw_val (m := n) h2
    have k3 := nw_val (m := l) h3
    exact ring_z _ _ _ (by omega) (by omega) (by omega)
  · exact ring_no m n l ws vs us hn
end Go.Proofs.YtebkelnibecmjaaDoor.N
