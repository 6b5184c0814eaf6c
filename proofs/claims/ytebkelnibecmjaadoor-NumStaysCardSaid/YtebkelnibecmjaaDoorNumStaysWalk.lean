/- Part NumStaysWalk of the proof: lemmas for the walks of the given functions. No statement of its own. -/
import Derived.Test.YtebkelnibecmjaaDoorHelp
set_option linter.unusedVariables false
set_option linter.unusedSimpArgs false
set_option linter.deprecated false
namespace Go.Proofs.YtebkelnibecmjaaDoor.N
open Go Go.Proofs.YtebkelnibecmjaaDoor.SH Go.Proofs.YtebkelnibecmjaaDoor.NumA
theorem q5 (a b c d : Prop) : a ∨ (¬ a ∧ b) ∨ (¬ a ∧ ¬ b ∧ c) ∨ (¬ a ∧ ¬ b ∧ ¬ c) := by
  by_cases ha : a
  · exact .inl ha
  · by_cases hb : b
    · exact .inr (.inl ⟨ha, hb⟩)
    · by_cases hc : c
      · exact .inr (.inr (.inl ⟨ha, hb, hc⟩))
      · exact .inr (.inr (.inr ⟨ha, hb, hc⟩))
theorem staysT (m : Bool) (ws : List Int) (hl : ws.length < 1000000000) : Says E 52 [pI m ws, pI m ws] (bZ true) := by
  have := rstays_says m m ws ws hl hl
  simpa using this
set_option maxRecDepth 100000 in
set_option maxHeartbeats 4000000 in
theorem stays_says (m n : Bool) (ws vs : List Int) (k : Int) (h : Wd ws) (h2 : Wd vs) (hk0 : -9223372036854775808 ≤ k) (hk1 : k < 9223372036854775808) : Says E 11 [pI m ws, pI n vs, vZ k] (bZ true) := by
  refine says_of (xs := [bZ true]) Tryd.func11 rfl Tryd.ntmps11 Tryd.results11 (by simp) fun F hG hX0 hnt hdf P0 => ?_
  have L := ltn hnt
  have hX : ∀ b, F.X b → E.ng ≤ b := fun b h => absurd h (hX0 b)
  have hN := ng_le hG
  refine exr ?_
  refine swb (core_box (k := 3) (n := 2) (.pagg (.cons (.cons .nil))) rfl rfl (P0 _ rfl) (L _ rfl)) ⟨rfl, trivial⟩ trivial ⟨rfl, rfl⟩ ?_
  refine swb (core_box (k := 4) (n := 2) (.pagg (.cons (.cons .nil))) rfl rfl (P0 _ rfl) (L _ rfl)) ⟨rfl, trivial⟩ trivial ⟨rfl, rfl⟩ ?_
  refine sw (core_assign (L _ rfl)) ⟨rfl, trivial⟩ trivial ?_
  refine seq_nil ⟨[(2, _), (3, _), (4, _)], [(3, _), (4, _)], ⟨rfl, rfl, rfl, trivial⟩, ⟨rfl, rfl, trivial⟩, ?_⟩
  refine ex_seq ?_
  refine exm (sl := [(26, vb (decide ((20 : Int) < ws.length ∨ (20 : Int) < vs.length ∨ k < -5 ∨ 20 < k)))]) (sl0 := [(2, _), (3, _), (4, _)]) (hb := []) (hb0 := [(3, _), (4, _)]) ⟨rfl, rfl, rfl, trivial⟩ ⟨rfl, rfl, trivial⟩ ?_ ?_
  · rcases q5 ((20 : Int) < ws.length) ((20 : Int) < vs.length) (k < -5) True with h3 | ⟨h3, h4⟩ | ⟨h3, h4, h5⟩ | ⟨h3, h4, h5⟩
    · refine sw (core_fieldAddr Tryd.underlying24 rfl Tryd.sizeOf22 (by decide) (by exact rfl) (L _ rfl)) ⟨rfl, trivial⟩ ⟨rfl, trivial⟩ ?_
      refine sw (core_load1 Tryd.isAgg22 (by rfl) (by rfl) (L _ rfl)) ⟨rfl, trivial⟩ ⟨rfl, trivial⟩ ?_
      refine sw (core_len Tryd.underlying22 (L _ rfl)) ⟨rfl, trivial⟩ trivial ?_
      refine sw (core_gtr (L _ rfl)) ⟨rfl, rfl, trivial⟩ trivial ?_
      refine sw (core_move (L _ rfl)) ⟨rfl, trivial⟩ trivial ?_
      refine swn (g := 13) rfl (decide_eq_true h3) (L _ rfl) rfl ?_
      refine swn (g := 13) rfl (decide_eq_true h3) (L _ rfl) rfl ?_
      refine swn (g := 13) rfl (decide_eq_true h3) (L _ rfl) rfl ?_
      refine swn (g := 13) rfl (decide_eq_true h3) (L _ rfl) rfl ?_
      refine sw (core_pick_t (decide_eq_true h3) (L _ rfl)) ⟨rfl, rfl, trivial⟩ trivial ?_
      refine sw (core_move (L _ rfl)) ⟨rfl, trivial⟩ trivial ?_
      refine swn (g := 19) rfl rfl (L _ rfl) rfl ?_
      refine swn (g := 19) rfl rfl (L _ rfl) rfl ?_
      refine sw (core_pick_t rfl (L _ rfl)) ⟨rfl, rfl, trivial⟩ trivial ?_
      refine sw (core_move (L _ rfl)) ⟨rfl, trivial⟩ trivial ?_
      refine swn (g := 23) rfl rfl (L _ rfl) rfl ?_
      refine swn (g := 23) rfl rfl (L _ rfl) rfl ?_
      refine sw (core_pick_t rfl (L _ rfl)) ⟨rfl, rfl, trivial⟩ trivial ?_
      exact seq_nil ⟨⟨ob rfl (by simp [h3]), rfl, rfl, rfl, trivial⟩, ⟨rfl, rfl, trivial⟩⟩
    · refine sw (core_fieldAddr Tryd.underlying24 rfl Tryd.sizeOf22 (by decide) (by exact rfl) (L _ rfl)) ⟨rfl, trivial⟩ ⟨rfl, trivial⟩ ?_
      refine sw (core_load1 Tryd.isAgg22 (by rfl) (by rfl) (L _ rfl)) ⟨rfl, trivial⟩ ⟨rfl, trivial⟩ ?_
      refine sw (core_len Tryd.underlying22 (L _ rfl)) ⟨rfl, trivial⟩ trivial ?_
      refine sw (core_gtr (L _ rfl)) ⟨rfl, rfl, trivial⟩ trivial ?_
      refine sw (core_move (L _ rfl)) ⟨rfl, trivial⟩ trivial ?_
      refine swg (g := 13) rfl (decide_eq_false h3) (core_fieldAddr Tryd.underlying24 rfl Tryd.sizeOf22 (by decide) (by exact rfl) (L _ rfl)) rfl ⟨rfl, trivial⟩ ⟨rfl, trivial⟩ ?_
      refine swg (g := 13) rfl (decide_eq_false h3) (core_load1 Tryd.isAgg22 (by rfl) (by rfl) (L _ rfl)) rfl ⟨rfl, trivial⟩ ⟨rfl, trivial⟩ ?_
      refine swg (g := 13) rfl (decide_eq_false h3) (core_len Tryd.underlying22 (L _ rfl)) rfl ⟨rfl, trivial⟩ trivial ?_
      refine swg (g := 13) rfl (decide_eq_false h3) (core_gtr (L _ rfl)) rfl ⟨rfl, rfl, trivial⟩ trivial ?_
      refine sw (core_pick_f (decide_eq_false h3) (L _ rfl)) ⟨rfl, rfl, trivial⟩ trivial ?_
      refine sw (core_move (L _ rfl)) ⟨rfl, trivial⟩ trivial ?_
      refine swn (g := 19) rfl (decide_eq_true h4) (L _ rfl) rfl ?_
      refine swn (g := 19) rfl (decide_eq_true h4) (L _ rfl) rfl ?_
      refine sw (core_pick_t (decide_eq_true h4) (L _ rfl)) ⟨rfl, rfl, trivial⟩ trivial ?_
      refine sw (core_move (L _ rfl)) ⟨rfl, trivial⟩ trivial ?_
      refine swn (g := 23) rfl rfl (L _ rfl) rfl ?_
      refine swn (g := 23) rfl rfl (L _ rfl) rfl ?_
      refine sw (core_pick_t rfl (L _ rfl)) ⟨rfl, rfl, trivial⟩ trivial ?_
      exact seq_nil ⟨⟨ob rfl (by simp [h4]), rfl, rfl, rfl, trivial⟩, ⟨rfl, rfl, trivial⟩⟩
    · refine sw (core_fieldAddr Tryd.underlying24 rfl Tryd.sizeOf22 (by decide) (by exact rfl) (L _ rfl)) ⟨rfl, trivial⟩ ⟨rfl, trivial⟩ ?_
      refine sw (core_load1 Tryd.isAgg22 (by rfl) (by rfl) (L _ rfl)) ⟨rfl, trivial⟩ ⟨rfl, trivial⟩ ?_
      refine sw (core_len Tryd.underlying22 (L _ rfl)) ⟨rfl, trivial⟩ trivial ?_
      refine sw (core_gtr (L _ rfl)) ⟨rfl, rfl, trivial⟩ trivial ?_
      refine sw (core_move (L _ rfl)) ⟨rfl, trivial⟩ trivial ?_
      refine swg (g := 13) rfl (decide_eq_false h3) (core_fieldAddr Tryd.underlying24 rfl Tryd.sizeOf22 (by decide) (by exact rfl) (L _ rfl)) rfl ⟨rfl, trivial⟩ ⟨rfl, trivial⟩ ?_
      refine swg (g := 13) rfl (decide_eq_false h3) (core_load1 Tryd.isAgg22 (by rfl) (by rfl) (L _ rfl)) rfl ⟨rfl, trivial⟩ ⟨rfl, trivial⟩ ?_
      refine swg (g := 13) rfl (decide_eq_false h3) (core_len Tryd.underlying22 (L _ rfl)) rfl ⟨rfl, trivial⟩ trivial ?_
      refine swg (g := 13) rfl (decide_eq_false h3) (core_gtr (L _ rfl)) rfl ⟨rfl, rfl, trivial⟩ trivial ?_
      refine sw (core_pick_f (decide_eq_false h3) (L _ rfl)) ⟨rfl, rfl, trivial⟩ trivial ?_
      refine sw (core_move (L _ rfl)) ⟨rfl, trivial⟩ trivial ?_
      refine swg (g := 19) rfl (decide_eq_false h4) (core_move (L _ rfl)) rfl ⟨rfl, trivial⟩ trivial ?_
      refine swg (g := 19) rfl (decide_eq_false h4) (core_lss (L _ rfl)) rfl ⟨rfl, rfl, trivial⟩ trivial ?_
      refine sw (core_pick_f (decide_eq_false h4) (L _ rfl)) ⟨rfl, rfl, trivial⟩ trivial ?_
      refine sw (core_move (L _ rfl)) ⟨rfl, trivial⟩ trivial ?_
      refine swn (g := 23) rfl (decide_eq_true h5) (L _ rfl) rfl ?_
      refine swn (g := 23) rfl (decide_eq_true h5) (L _ rfl) rfl ?_
      refine sw (core_pick_t (decide_eq_true h5) (L _ rfl)) ⟨rfl, rfl, trivial⟩ trivial ?_
      exact seq_nil ⟨⟨ob rfl (by simp [h5]), rfl, rfl, rfl, trivial⟩, ⟨rfl, rfl, trivial⟩⟩
    · refine sw (core_fieldAddr Tryd.underlying24 rfl Tryd.sizeOf22 (by decide) (by exact rfl) (L _ rfl)) ⟨rfl, trivial⟩ ⟨rfl, trivial⟩ ?_
      refine sw (core_load1 Tryd.isAgg22 (by rfl) (by rfl) (L _ rfl)) ⟨rfl, trivial⟩ ⟨rfl, trivial⟩ ?_
      refine sw (core_len Tryd.underlying22 (L _ rfl)) ⟨rfl, trivial⟩ trivial ?_
      refine sw (core_gtr (L _ rfl)) ⟨rfl, rfl, trivial⟩ trivial ?_
      refine sw (core_move (L _ rfl)) ⟨rfl, trivial⟩ trivial ?_
      refine swg (g := 13) rfl (decide_eq_false h3) (core_fieldAddr Tryd.underlying24 rfl Tryd.sizeOf22 (by decide) (by exact rfl) (L _ rfl)) rfl ⟨rfl, trivial⟩ ⟨rfl, trivial⟩ ?_
      refine swg (g := 13) rfl (decide_eq_false h3) (core_load1 Tryd.isAgg22 (by rfl) (by rfl) (L _ rfl)) rfl ⟨rfl, trivial⟩ ⟨rfl, trivial⟩ ?_
      refine swg (g := 13) rfl (decide_eq_false h3) (core_len Tryd.underlying22 (L _ rfl)) rfl ⟨rfl, trivial⟩ trivial ?_
      refine swg (g := 13) rfl (decide_eq_false h3) (core_gtr (L _ rfl)) rfl ⟨rfl, rfl, trivial⟩ trivial ?_
      refine sw (core_pick_f (decide_eq_false h3) (L _ rfl)) ⟨rfl, rfl, trivial⟩ trivial ?_
      refine sw (core_move (L _ rfl)) ⟨rfl, trivial⟩ trivial ?_
      refine swg (g := 19) rfl (decide_eq_false h4) (core_move (L _ rfl)) rfl ⟨rfl, trivial⟩ trivial ?_
      refine swg (g := 19) rfl (decide_eq_false h4) (core_lss (L _ rfl)) rfl ⟨rfl, rfl, trivial⟩ trivial ?_
      refine sw (core_pick_f (decide_eq_false h4) (L _ rfl)) ⟨rfl, rfl, trivial⟩ trivial ?_
      refine sw (core_move (L _ rfl)) ⟨rfl, trivial⟩ trivial ?_
      refine swg (g := 23) rfl (decide_eq_false h5) (core_move (L _ rfl)) rfl ⟨rfl, trivial⟩ trivial ?_
      refine swg (g := 23) rfl (decide_eq_false h5) (core_gtr (L _ rfl)) rfl ⟨rfl, rfl, trivial⟩ trivial ?_
      refine sw (core_pick_f (decide_eq_false h5) (L _ rfl)) ⟨rfl, rfl, trivial⟩ trivial ?_
      exact seq_nil ⟨⟨ob rfl (by simp [h3, h4, h5]), rfl, rfl, rfl, trivial⟩, ⟨rfl, rfl, trivial⟩⟩
  refine ex_if rfl (fun hc => ?_) (fun hc => ?_)
  · refine exr ?_
    refine sw (core_call (E := E) hG hX Tryd.call13 rfl hN sane_says (L _ rfl)) trivial trivial ?_
    refine sw (core_assign (L _ rfl)) ⟨rfl, trivial⟩ trivial ?_
    refine seq_nil ⟨[(6, _)], [], ⟨rfl, trivial⟩, trivial, ?_⟩
    refine ex_ret ?_
    refine ⟨.inr rfl, ResVs.cast (.cons (.tmp rfl) .nil) ?_⟩
    rfl
  · have hc := df hc
    have l1 : ws.length ≤ 20 := by omega
    have l2 : vs.length ≤ 20 := by omega
    refine ex_skip (show Exec _ _ _ _ _ from ?_)
    refine exd (by rfl) ?_
    refine sw (core_loadP Tryd.isAgg24 Tryd.sizeOf24 (by rfl) (by exact (.cons (.cons .nil))) rfl (L _ rfl)) ⟨rfl, trivial⟩ ⟨rfl, trivial⟩ ?_
    refine sw (core_call (E := E) hG hX Tryd.call51 rfl hN (rclone_says m ws (by omega)) (L _ rfl)) ⟨rfl, trivial⟩ trivial ?_
    refine sw (core_loadP Tryd.isAgg24 Tryd.sizeOf24 (by rfl) (by exact (.cons (.cons .nil))) rfl (L _ rfl)) ⟨rfl, trivial⟩ ⟨rfl, trivial⟩ ?_
    refine sw (core_call (E := E) hG hX Tryd.call51 rfl hN (rclone_says n vs (by omega)) (L _ rfl)) ⟨rfl, trivial⟩ trivial ?_
    refine swb (core_alloc (k := 7) (n := 2) Tryd.zeroValue24 (.cons rfl (.cons rfl .nil)) rfl (P0 _ rfl) (L _ rfl)) trivial trivial ⟨rfl, rfl⟩ ?_
    refine swb (core_alloc (k := 8) (n := 2) Tryd.zeroValue24 (.cons rfl (.cons rfl .nil)) rfl (P0 _ rfl) (L _ rfl)) trivial trivial ⟨rfl, rfl⟩ ?_
    refine sb (core_storeM Tryd.sizeOf24 (by rfl) (.pagg (.cons (.cons .nil))) rfl (.put (.put .here))) ⟨rfl, rfl, trivial⟩ ⟨rfl, trivial⟩ ?_
    refine sb (core_storeM Tryd.sizeOf24 (by rfl) (.pagg (.cons (.cons .nil))) rfl (.put (.put .here))) ⟨rfl, rfl, trivial⟩ ⟨rfl, trivial⟩ ?_
    refine seq_nil ⟨aok rfl rfl, [(2, _), (3, _), (4, _), (7, _), (8, _)], [(3, _), (4, _), (7, _), (8, _)], ⟨rfl, rfl, rfl, rfl, rfl, trivial⟩, ⟨rfl, rfl, rfl, rfl, trivial⟩, ?_⟩
    refine exr ?_
    refine sw (core_loadP Tryd.isAgg24 Tryd.sizeOf24 (by rfl) (by exact (.cons (.cons .nil))) rfl (L _ rfl)) ⟨rfl, trivial⟩ ⟨rfl, trivial⟩ ?_
    refine sw (core_call (E := E) hG hX Tryd.call16 rfl hN (is_says m ws (by omega)) (L _ rfl)) ⟨rfl, trivial⟩ trivial ?_
    refine seq_nil ⟨[(2, _), (3, _), (4, _), (7, _), (8, _)], [(3, _), (4, _), (7, _), (8, _)], ⟨rfl, rfl, rfl, rfl, rfl, trivial⟩, ⟨rfl, rfl, rfl, rfl, trivial⟩, ?_⟩
    refine exr ?_
    refine sw (core_loadP Tryd.isAgg24 Tryd.sizeOf24 (by rfl) (by exact (.cons (.cons .nil))) rfl (L _ rfl)) ⟨rfl, trivial⟩ ⟨rfl, trivial⟩ ?_
    refine sw (core_call (E := E) hG hX Tryd.call14 rfl hN (small_says m ws (by omega) h) (L _ rfl)) ⟨rfl, trivial⟩ trivial ?_
    refine seq_nil ⟨[(2, _), (3, _), (4, _), (7, _), (8, _)], [(3, _), (4, _), (7, _), (8, _)], ⟨rfl, rfl, rfl, rfl, rfl, trivial⟩, ⟨rfl, rfl, rfl, rfl, trivial⟩, ?_⟩
    refine exr ?_
    refine sw (core_loadP Tryd.isAgg24 Tryd.sizeOf24 (by rfl) (by exact (.cons (.cons .nil))) rfl (L _ rfl)) ⟨rfl, trivial⟩ ⟨rfl, trivial⟩ ?_
    refine sw (core_call (E := E) hG hX Tryd.call21 rfl hN (bits_says m ws (by omega) h) (L _ rfl)) ⟨rfl, trivial⟩ trivial ?_
    refine seq_nil ⟨[(2, _), (3, _), (4, _), (7, _), (8, _)], [(3, _), (4, _), (7, _), (8, _)], ⟨rfl, rfl, rfl, rfl, rfl, trivial⟩, ⟨rfl, rfl, rfl, rfl, trivial⟩, ?_⟩
    refine exr ?_
    refine sw (core_loadP Tryd.isAgg24 Tryd.sizeOf24 (by rfl) (by exact (.cons (.cons .nil))) rfl (L _ rfl)) ⟨rfl, trivial⟩ ⟨rfl, trivial⟩ ?_
    refine sw (core_call (E := E) hG hX Tryd.call23 rfl hN (sign_says m ws (by omega) h) (L _ rfl)) ⟨rfl, trivial⟩ trivial ?_
    refine seq_nil ⟨[(2, _), (3, _), (4, _), (7, _), (8, _)], [(3, _), (4, _), (7, _), (8, _)], ⟨rfl, rfl, rfl, rfl, rfl, trivial⟩, ⟨rfl, rfl, rfl, rfl, trivial⟩, ?_⟩
    refine exr ?_
    refine sw (core_loadP Tryd.isAgg24 Tryd.sizeOf24 (by rfl) (by exact (.cons (.cons .nil))) rfl (L _ rfl)) ⟨rfl, trivial⟩ ⟨rfl, trivial⟩ ?_
    refine sw (core_loadP Tryd.isAgg24 Tryd.sizeOf24 (by rfl) (by exact (.cons (.cons .nil))) rfl (L _ rfl)) ⟨rfl, trivial⟩ ⟨rfl, trivial⟩ ?_
    refine sw (core_call (E := E) hG hX Tryd.call25 rfl hN (cmp_says m n ws vs (by omega) (by omega) h h2) (L _ rfl)) ⟨rfl, rfl, trivial⟩ trivial ?_
    refine seq_nil ⟨[(2, _), (3, _), (4, _), (7, _), (8, _)], [(3, _), (4, _), (7, _), (8, _)], ⟨rfl, rfl, rfl, rfl, rfl, trivial⟩, ⟨rfl, rfl, rfl, rfl, trivial⟩, ?_⟩
    refine exr ?_
    refine sw (core_loadP Tryd.isAgg24 Tryd.sizeOf24 (by rfl) (by exact (.cons (.cons .nil))) rfl (L _ rfl)) ⟨rfl, trivial⟩ ⟨rfl, trivial⟩ ?_
    refine sw (core_call (E := E) hG hX Tryd.call27 rfl hN (neg_says m ws (by omega) h) (L _ rfl)) ⟨rfl, trivial⟩ trivial ?_
    refine seq_nil ⟨[(2, _), (3, _), (4, _), (7, _), (8, _)], [(3, _), (4, _), (7, _), (8, _)], ⟨rfl, rfl, rfl, rfl, rfl, trivial⟩, ⟨rfl, rfl, rfl, rfl, trivial⟩, ?_⟩
    refine exr ?_
    refine sw (core_loadP Tryd.isAgg24 Tryd.sizeOf24 (by rfl) (by exact (.cons (.cons .nil))) rfl (L _ rfl)) ⟨rfl, trivial⟩ ⟨rfl, trivial⟩ ?_
    refine sw (core_call (E := E) hG hX Tryd.call29 rfl hN (abs_says m ws (by omega) h) (L _ rfl)) ⟨rfl, trivial⟩ trivial ?_
    refine seq_nil ⟨[(2, _), (3, _), (4, _), (7, _), (8, _)], [(3, _), (4, _), (7, _), (8, _)], ⟨rfl, rfl, rfl, rfl, rfl, trivial⟩, ⟨rfl, rfl, rfl, rfl, trivial⟩, ?_⟩
    refine exr ?_
    refine sw (core_loadP Tryd.isAgg24 Tryd.sizeOf24 (by rfl) (by exact (.cons (.cons .nil))) rfl (L _ rfl)) ⟨rfl, trivial⟩ ⟨rfl, trivial⟩ ?_
    refine sw (core_loadP Tryd.isAgg24 Tryd.sizeOf24 (by rfl) (by exact (.cons (.cons .nil))) rfl (L _ rfl)) ⟨rfl, trivial⟩ ⟨rfl, trivial⟩ ?_
    refine sw (core_call (E := E) hG hX Tryd.call35 rfl hN (add_says m n ws vs (by omega) (by omega) h h2) (L _ rfl)) ⟨rfl, rfl, trivial⟩ trivial ?_
    refine seq_nil ⟨[(2, _), (3, _), (4, _), (7, _), (8, _)], [(3, _), (4, _), (7, _), (8, _)], ⟨rfl, rfl, rfl, rfl, rfl, trivial⟩, ⟨rfl, rfl, rfl, rfl, trivial⟩, ?_⟩
    refine exr ?_
    refine sw (core_loadP Tryd.isAgg24 Tryd.sizeOf24 (by rfl) (by exact (.cons (.cons .nil))) rfl (L _ rfl)) ⟨rfl, trivial⟩ ⟨rfl, trivial⟩ ?_
    refine sw (core_loadP Tryd.isAgg24 Tryd.sizeOf24 (by rfl) (by exact (.cons (.cons .nil))) rfl (L _ rfl)) ⟨rfl, trivial⟩ ⟨rfl, trivial⟩ ?_
    refine sw (core_call (E := E) hG hX Tryd.call37 rfl hN (sub_says m n ws vs (by omega) (by omega) h h2) (L _ rfl)) ⟨rfl, rfl, trivial⟩ trivial ?_
    refine seq_nil ⟨[(2, _), (3, _), (4, _), (7, _), (8, _)], [(3, _), (4, _), (7, _), (8, _)], ⟨rfl, rfl, rfl, rfl, rfl, trivial⟩, ⟨rfl, rfl, rfl, rfl, trivial⟩, ?_⟩
    refine exr ?_
    refine sw (core_loadP Tryd.isAgg24 Tryd.sizeOf24 (by rfl) (by exact (.cons (.cons .nil))) rfl (L _ rfl)) ⟨rfl, trivial⟩ ⟨rfl, trivial⟩ ?_
    refine sw (core_loadP Tryd.isAgg24 Tryd.sizeOf24 (by rfl) (by exact (.cons (.cons .nil))) rfl (L _ rfl)) ⟨rfl, trivial⟩ ⟨rfl, trivial⟩ ?_
    refine sw (core_call (E := E) hG hX Tryd.call39 rfl hN (mul_says m n ws vs (by omega) (by omega) h h2) (L _ rfl)) ⟨rfl, rfl, trivial⟩ trivial ?_
    refine seq_nil ⟨[(2, _), (3, _), (4, _), (7, _), (8, _)], [(3, _), (4, _), (7, _), (8, _)], ⟨rfl, rfl, rfl, rfl, rfl, trivial⟩, ⟨rfl, rfl, rfl, rfl, trivial⟩, ?_⟩
    refine exr ?_
    refine sw (core_loadP Tryd.isAgg24 Tryd.sizeOf24 (by rfl) (by exact (.cons (.cons .nil))) rfl (L _ rfl)) ⟨rfl, trivial⟩ ⟨rfl, trivial⟩ ?_
    refine sw (core_loadP Tryd.isAgg24 Tryd.sizeOf24 (by rfl) (by exact (.cons (.cons .nil))) rfl (L _ rfl)) ⟨rfl, trivial⟩ ⟨rfl, trivial⟩ ?_
    refine sw (core_call (E := E) hG hX Tryd.call31 rfl hN (div_says m n ws vs (by omega) (by omega) h h2) (L _ rfl)) ⟨rfl, rfl, trivial⟩ trivial ?_
    refine seq_nil ⟨[(2, _), (3, _), (4, _), (7, _), (8, _)], [(3, _), (4, _), (7, _), (8, _)], ⟨rfl, rfl, rfl, rfl, rfl, trivial⟩, ⟨rfl, rfl, rfl, rfl, trivial⟩, ?_⟩
    refine exr ?_
    refine sw (core_loadP Tryd.isAgg24 Tryd.sizeOf24 (by rfl) (by exact (.cons (.cons .nil))) rfl (L _ rfl)) ⟨rfl, trivial⟩ ⟨rfl, trivial⟩ ?_
    refine sw (core_move (L _ rfl)) ⟨rfl, trivial⟩ trivial ?_
    refine sw (core_call (E := E) hG hX Tryd.call45 rfl hN (pow_says m ws k (by omega) h hk0 hk1) (L _ rfl)) ⟨rfl, rfl, trivial⟩ trivial ?_
    refine seq_nil ⟨[(3, _), (4, _), (7, _), (8, _)], [(3, _), (4, _), (7, _), (8, _)], ⟨rfl, rfl, rfl, rfl, trivial⟩, ⟨rfl, rfl, rfl, rfl, trivial⟩, ?_⟩
    refine exr ?_
    refine sw (core_loadP Tryd.isAgg24 Tryd.sizeOf24 (by rfl) (by exact (.cons (.cons .nil))) rfl (L _ rfl)) ⟨rfl, trivial⟩ ⟨rfl, trivial⟩ ?_
    refine sw (core_loadP Tryd.isAgg24 Tryd.sizeOf24 (by rfl) (by exact (.cons (.cons .nil))) rfl (L _ rfl)) ⟨rfl, trivial⟩ ⟨rfl, trivial⟩ ?_
    refine sw (core_call (E := E) hG hX Tryd.call41 rfl hN (gcd_says m n ws vs (by omega) (by omega) h h2) (L _ rfl)) ⟨rfl, rfl, trivial⟩ trivial ?_
    refine seq_nil ⟨[(3, _), (4, _), (7, _), (8, _)], [(3, _), (4, _), (7, _), (8, _)], ⟨rfl, rfl, rfl, rfl, trivial⟩, ⟨rfl, rfl, rfl, rfl, trivial⟩, ?_⟩
    refine exr ?_
    refine sw (core_loadP Tryd.isAgg24 Tryd.sizeOf24 (by rfl) (by exact (.cons (.cons .nil))) rfl (L _ rfl)) ⟨rfl, trivial⟩ ⟨rfl, trivial⟩ ?_
    refine sw (core_loadP Tryd.isAgg24 Tryd.sizeOf24 (by rfl) (by exact (.cons (.cons .nil))) rfl (L _ rfl)) ⟨rfl, trivial⟩ ⟨rfl, trivial⟩ ?_
    refine sw (core_call (E := E) hG hX Tryd.call33 rfl hN (bez_says m n ws vs (by omega) (by omega) h h2) (L _ rfl)) ⟨rfl, rfl, trivial⟩ trivial ?_
    refine seq_nil ⟨[(3, _), (4, _), (7, _), (8, _)], [(3, _), (4, _), (7, _), (8, _)], ⟨rfl, rfl, rfl, rfl, trivial⟩, ⟨rfl, rfl, rfl, rfl, trivial⟩, ?_⟩
    refine exr ?_
    refine sw (core_loadP Tryd.isAgg24 Tryd.sizeOf24 (by rfl) (by exact (.cons (.cons .nil))) rfl (L _ rfl)) ⟨rfl, trivial⟩ ⟨rfl, trivial⟩ ?_
    refine sw (core_call (E := E) hG hX Tryd.call43 rfl hN (sqrt_says m ws (by omega) h) (L _ rfl)) ⟨rfl, trivial⟩ trivial ?_
    refine seq_nil ⟨[(3, _), (4, _), (7, _), (8, _)], [(3, _), (4, _), (7, _), (8, _)], ⟨rfl, rfl, rfl, rfl, trivial⟩, ⟨rfl, rfl, rfl, rfl, trivial⟩, ?_⟩
    refine exr ?_
    refine sw (core_loadP Tryd.isAgg24 Tryd.sizeOf24 (by rfl) (by exact (.cons (.cons .nil))) rfl (L _ rfl)) ⟨rfl, trivial⟩ ⟨rfl, trivial⟩ ?_
    refine sw (core_call (E := E) hG hX Tryd.call49 rfl hN (print_says m ws (by omega) h) (L _ rfl)) ⟨rfl, trivial⟩ trivial ?_
    refine seq_nil ⟨[(3, _), (4, _), (7, _), (8, _)], [(3, _), (4, _), (7, _), (8, _)], ⟨rfl, rfl, rfl, rfl, trivial⟩, ⟨rfl, rfl, rfl, rfl, trivial⟩, ?_⟩
    refine exr ?_
    refine sw (core_call (E := E) hG hX Tryd.call13 rfl hN sane_says (L _ rfl)) trivial trivial ?_
    refine sw (core_move (L _ rfl)) ⟨rfl, trivial⟩ trivial ?_
    refine swg (g := 73) rfl rfl (core_loadP Tryd.isAgg24 Tryd.sizeOf24 (by rfl) (by exact (.cons (.cons .nil))) rfl (L _ rfl)) rfl ⟨rfl, trivial⟩ ⟨rfl, trivial⟩ ?_
    refine swg (g := 73) rfl rfl (core_loadP Tryd.isAgg24 Tryd.sizeOf24 (by rfl) (by exact (.cons (.cons .nil))) rfl (L _ rfl)) rfl ⟨rfl, trivial⟩ ⟨rfl, trivial⟩ ?_
    refine swg (g := 73) rfl rfl (core_call (E := E) hG hX Tryd.call52 rfl hN (staysT m ws (by omega)) (L _ rfl)) rfl ⟨rfl, rfl, trivial⟩ trivial ?_
    refine sw (core_pick_t rfl (L _ rfl)) ⟨rfl, rfl, trivial⟩ trivial ?_
    refine sw (core_move (L _ rfl)) ⟨rfl, trivial⟩ trivial ?_
    refine swg (g := 78) rfl rfl (core_loadP Tryd.isAgg24 Tryd.sizeOf24 (by rfl) (by exact (.cons (.cons .nil))) rfl (L _ rfl)) rfl ⟨rfl, trivial⟩ ⟨rfl, trivial⟩ ?_
    refine swg (g := 78) rfl rfl (core_loadP Tryd.isAgg24 Tryd.sizeOf24 (by rfl) (by exact (.cons (.cons .nil))) rfl (L _ rfl)) rfl ⟨rfl, trivial⟩ ⟨rfl, trivial⟩ ?_
    refine swg (g := 78) rfl rfl (core_call (E := E) hG hX Tryd.call52 rfl hN (staysT n vs (by omega)) (L _ rfl)) rfl ⟨rfl, rfl, trivial⟩ trivial ?_
    refine sw (core_pick_t rfl (L _ rfl)) ⟨rfl, rfl, trivial⟩ trivial ?_
    refine sw (core_assign (L _ rfl)) ⟨rfl, trivial⟩ trivial ?_
    refine seq_nil ⟨[(6, _)], [], ⟨rfl, trivial⟩, trivial, ?_⟩
    refine ex_ret ?_
    refine ⟨.inr rfl, ResVs.cast (.cons (.tmp rfl) .nil) ?_⟩
    rfl

end Go.Proofs.YtebkelnibecmjaaDoor.N
