/- Part WalkB of the proof: lemmas for the walks of the given functions. No statement of its own. -/
import Derived.Test.YtebkelnibecmjaaDoorWalkA
import Derived.Test.YtebkelnibecmjaaDoorPlain
set_option linter.unusedVariables false
set_option linter.unusedSimpArgs false
set_option linter.deprecated false
namespace Go.Proofs.YtebkelnibecmjaaDoor.N
open Go Go.Proofs.YtebkelnibecmjaaDoor.SH Go.Proofs.YtebkelnibecmjaaDoor.NumA
set_option maxRecDepth 100000 in
set_option maxHeartbeats 4000000 in
theorem rnative_says (neg : Bool) (ws : List Int) (hl : ws.length < 1000000000) (h : Wd ws) (ht : Tr ws) : Says E 65 [pI neg ws] (.tup [vZ (if val ws < 4611686018427387904 then sg neg (val ws) else 0), bZ (decide (val ws < 4611686018427387904))]) := by
  refine says_of (xs := [vZ (if val ws < 4611686018427387904 then sg neg (val ws) else 0), bZ (decide (val ws < 4611686018427387904))]) Tryd.func65 rfl Tryd.ntmps65 Tryd.results65 (by simp) fun F hG hX0 hnt hdf P0 => ?_
  have L := ltn hnt
  have hX : ∀ b, F.X b → E.ng ≤ b := fun b h => absurd h (hX0 b)
  have hN := ng_le hG
  have hw := h.getD 0
  have hw1 := h.getD 1
  have hv := val_nonneg h
  refine exr ?_
  refine swb (core_box (k := 1) (n := 2) (.pagg (.cons (.cons .nil))) rfl rfl (P0 _ rfl) (L _ rfl)) ⟨rfl, T0⟩ T0 ⟨rfl, rfl⟩ ?_
  refine sw (core_assign (L _ rfl)) ⟨rfl, T0⟩ T0 ?_
  refine sw (core_assign (L _ rfl)) ⟨rfl, T0⟩ T0 ?_
  refine seq_nil ⟨[(1, _)], [(1, _)], ⟨rfl, T0⟩, ⟨rfl, T0⟩, ?_⟩
  refine exd (by rfl) ?_
  refine sw (core_fieldAddr Tryd.underlying24 rfl Tryd.sizeOf22 (by decide) (by exact rfl) (L _ rfl)) ⟨rfl, T0⟩ ⟨rfl, T0⟩ ?_
  refine sw (core_load1 Tryd.isAgg22 (by rfl) (by rfl) (L _ rfl)) ⟨rfl, T0⟩ ⟨rfl, T0⟩ ?_
  refine sw (core_call (E := E) hG hX Tryd.call54 rfl hN (rword_says ws hl h 0 (by omega)) (L _ rfl)) ⟨rfl, rfl, T0⟩ T0 ?_
  refine sw (core_fieldAddr Tryd.underlying24 rfl Tryd.sizeOf22 (by decide) (by exact rfl) (L _ rfl)) ⟨rfl, T0⟩ ⟨rfl, T0⟩ ?_
  refine sw (core_load1 Tryd.isAgg22 (by rfl) (by rfl) (L _ rfl)) ⟨rfl, T0⟩ ⟨rfl, T0⟩ ?_
  refine sw (core_call (E := E) hG hX Tryd.call54 rfl hN (rword_says ws hl h 1 (by omega)) (L _ rfl)) ⟨rfl, rfl, T0⟩ T0 ?_
  refine sw (core_shl (L _ rfl) (by decide) (shlE (c := 4294967296) (by rfl) (fu64 (by omega) (by omega)))) ⟨rfl, rfl, T0⟩ T0 ?_
  refine sw (core_or (L _ rfl) (or64 (b := ws.getD 1 0) 32 rfl hw.1 hw.2 hw1.1 (by decide) (by omega) (by omega))) ⟨rfl, rfl, T0⟩ T0 ?_
  refine sw (core_assign (L _ rfl)) ⟨rfl, T0⟩ T0 ?_
  refine seq_nil ⟨aoks [⟨[1], [1], [5], []⟩, ⟨[5], [1], [6], []⟩, ⟨[6], [], [7], []⟩, ⟨[1], [1], [8], []⟩, ⟨[8], [1], [9], []⟩, ⟨[9], [], [10], []⟩, ⟨[10], [], [11], []⟩, ⟨[7, 11], [], [12], []⟩, ⟨[12], [], [4], []⟩] (by rfl) (by rfl) (by decide), [(1, _), (4, vw (ws.getD 0 0 + ws.getD 1 0 * 4294967296))], [(1, _)], ⟨rfl, rfl, T0⟩, ⟨rfl, T0⟩, ?_⟩
  refine ex_seq ?_
  refine exm (sl := [(20, vb (!decide (val ws < 4611686018427387904)))]) (sl0 := [(1, _), (4, _)]) (hb := []) (hb0 := [(1, _)]) ⟨rfl, rfl, T0⟩ ⟨rfl, T0⟩ ?_ ?_
  · by_cases hc : 2 < ws.length
    · have hb := big2 h ht hc
      refine sw (core_fieldAddr Tryd.underlying24 rfl Tryd.sizeOf22 (by decide) (by exact rfl) (L _ rfl)) ⟨rfl, T0⟩ ⟨rfl, T0⟩ ?_
      refine sw (core_load1 Tryd.isAgg22 (by rfl) (by rfl) (L _ rfl)) ⟨rfl, T0⟩ ⟨rfl, T0⟩ ?_
      refine sw (core_len Tryd.underlying22 (L _ rfl)) ⟨rfl, T0⟩ T0 ?_
      refine sw (core_gtr (L _ rfl)) ⟨rfl, rfl, T0⟩ T0 ?_
      refine sw (core_move (L _ rfl)) ⟨rfl, T0⟩ T0 ?_
      refine swn (g := 17) rfl (decide_eq_true (by omega)) (L _ rfl) rfl ?_
      refine swn (g := 17) rfl (decide_eq_true (by omega)) (L _ rfl) rfl ?_
      refine sw (core_pick_t (decide_eq_true (by omega)) (L _ rfl)) ⟨rfl, rfl, T0⟩ T0 ?_
      exact seq_nil ⟨⟨ob rfl (by simp; omega), rfl, rfl, T0⟩, ⟨rfl, T0⟩⟩
    · have hb := two_words h (by omega)
      refine sw (core_fieldAddr Tryd.underlying24 rfl Tryd.sizeOf22 (by decide) (by exact rfl) (L _ rfl)) ⟨rfl, T0⟩ ⟨rfl, T0⟩ ?_
      refine sw (core_load1 Tryd.isAgg22 (by rfl) (by rfl) (L _ rfl)) ⟨rfl, T0⟩ ⟨rfl, T0⟩ ?_
      refine sw (core_len Tryd.underlying22 (L _ rfl)) ⟨rfl, T0⟩ T0 ?_
      refine sw (core_gtr (L _ rfl)) ⟨rfl, rfl, T0⟩ T0 ?_
      refine sw (core_move (L _ rfl)) ⟨rfl, T0⟩ T0 ?_
      refine swg (g := 17) rfl (decide_eq_false (by omega)) (core_move (L _ rfl)) rfl ⟨rfl, T0⟩ T0 ?_
      refine swg (g := 17) rfl (decide_eq_false (by omega)) (core_geq (L _ rfl)) rfl ⟨rfl, rfl, T0⟩ T0 ?_
      refine sw (core_pick_f (decide_eq_false (by omega)) (L _ rfl)) ⟨rfl, rfl, T0⟩ T0 ?_
      exact seq_nil ⟨⟨ob rfl (by rw [hb]; simp only [← decide_not]; exact dec_eq (by omega)), rfl, rfl, T0⟩, ⟨rfl, T0⟩⟩
  refine ex_if rfl (fun hd => ?_) (fun hd => ?_)
  · have hd := ndt hd
    refine exr ?_
    refine sw (core_assign (L _ rfl)) ⟨rfl, T0⟩ T0 ?_
    refine sw (core_assign (L _ rfl)) ⟨rfl, T0⟩ T0 ?_
    refine seq_nil ⟨[(2, _), (3, _)], [], ⟨rfl, rfl, T0⟩, trivial, ?_⟩
    refine ex_ret ?_
    refine ⟨.inr rfl, ResVs.cast (.cons (.tmp rfl) (.cons (.tmp rfl) .nil)) ?_⟩
    rw [if_neg hd, decide_eq_false hd]
  · have hd := ndf hd
    have hb := two_words h (len_two h ht hd)
    refine ex_skip (show Exec _ _ _ _ _ from ?_)
    refine ex_seq ?_
    refine exr ?_
    refine sw (core_fieldAddr Tryd.underlying24 rfl Tryd.sizeOf4 (by decide) (by exact rfl) (L _ rfl)) ⟨rfl, T0⟩ ⟨rfl, T0⟩ ?_
    refine sw (core_load1 Tryd.isAgg4 (by rfl) (by rfl) (L _ rfl)) ⟨rfl, T0⟩ ⟨rfl, T0⟩ ?_
    refine seq_nil ⟨[(4, _), (22, _)], [], ⟨rfl, rfl, T0⟩, trivial, ?_⟩
    refine ex_if rfl (fun hn => ?_) (fun hn => ?_)
    · refine exr ?_
      refine sw (core_move (L _ rfl)) ⟨rfl, T0⟩ T0 ?_
      refine sw (core_conv Tryd.underlying52 Tryd.underlying3 (L _ rfl) (w64 (by omega) (by omega))) ⟨rfl, T0⟩ T0 ?_
      refine sw (core_neg (L _ rfl) (w64 (by omega) (by omega))) ⟨rfl, T0⟩ T0 ?_
      refine sw (core_assign (L _ rfl)) ⟨rfl, T0⟩ T0 ?_
      refine sw (core_assign (L _ rfl)) ⟨rfl, T0⟩ T0 ?_
      refine seq_nil ⟨[(2, _), (3, _)], [], ⟨rfl, rfl, T0⟩, trivial, ?_⟩
      refine ex_ret ?_
      refine ⟨.inr rfl, ResVs.cast (.cons (.tmp rfl) (.cons (.tmp rfl) .nil)) ?_⟩
      rw [if_pos hd, decide_eq_true hd, hb, hn]; simp [sg]
    · refine ex_skip (show Exec _ _ _ _ _ from ?_)
      refine exr ?_
      refine sw (core_move (L _ rfl)) ⟨rfl, T0⟩ T0 ?_
      refine sw (core_conv Tryd.underlying52 Tryd.underlying3 (L _ rfl) (w64 (by omega) (by omega))) ⟨rfl, T0⟩ T0 ?_
      refine sw (core_assign (L _ rfl)) ⟨rfl, T0⟩ T0 ?_
      refine sw (core_assign (L _ rfl)) ⟨rfl, T0⟩ T0 ?_
      refine seq_nil ⟨[(2, _), (3, _)], [], ⟨rfl, rfl, T0⟩, trivial, ?_⟩
      refine ex_ret ?_
      refine ⟨.inr rfl, ResVs.cast (.cons (.tmp rfl) (.cons (.tmp rfl) .nil)) ?_⟩
      rw [if_pos hd, decide_eq_true hd, hb, hn]; simp [sg]

set_option maxRecDepth 100000 in
set_option maxHeartbeats 4000000 in
theorem radd_says (ws vs : List Int) (hl : ws.length < 100000000) (hl2 : vs.length < 100000000) (h : Wd ws) (h2 : Wd vs) : Says E 67 [pW ws, pW vs] (pW (digs (val ws + val vs).toNat)) := by
  refine says_of (xs := [pW (digs (val ws + val vs).toNat)]) Tryd.func67 rfl Tryd.ntmps67 Tryd.results67 (by simp) fun F hG hX0 hnt hdf P0 => ?_
  have L := ltn hnt
  have hX : ∀ b, F.X b → E.ng ≤ b := fun b h => absurd h (hX0 b)
  have hN := ng_le hG
  have hv := val_nonneg h
  have hv2 := val_nonneg h2
  obtain ⟨n, hn⟩ : ∃ n, n = max ws.length vs.length := ⟨_, rfl⟩
  refine exr ?_
  refine sw (core_assign (L _ rfl)) ⟨rfl, T0⟩ T0 ?_
  refine seq_nil ⟨[(0, _), (1, _)], [], ⟨rfl, rfl, T0⟩, trivial, ?_⟩
  refine exr ?_
  refine sw (core_assign (L _ rfl)) ⟨rfl, T0⟩ T0 ?_
  refine seq_nil ⟨[(0, _), (1, _), (5, _)], [], ⟨rfl, rfl, rfl, T0⟩, trivial, ?_⟩
  refine exr ?_
  refine sw (core_assign (L _ rfl)) ⟨rfl, T0⟩ T0 ?_
  refine seq_nil ⟨[(0, _), (1, _), (5, _), (6, _)], [], ⟨rfl, rfl, rfl, rfl, T0⟩, trivial, ?_⟩
  refine ex_seq ?_
  refine exr ?_
  refine sw (core_assign (L _ rfl)) ⟨rfl, T0⟩ T0 ?_
  refine seq_nil ⟨[(0, _), (1, _), (5, _), (6, _), (7, _)], [], ⟨rfl, rfl, rfl, rfl, rfl, T0⟩, trivial, ?_⟩
  refine ex_block ?_
  refine exlp (α := (Nat × List Int × Int)) (fun x => [(7, vi (x.1:Int)), (6, vw x.2.2), (5, .ref 34 0 x.2.1.length x.2.1.length)]) (fun x => [(34, ⟨53, 1, .pure (encW x.2.1)⟩)]) (fun x => AddAt ws vs n x ∧ 0 < x.1) (fun x => n - x.1) (n + 1) (sl := [(0, _), (1, _)]) (hb := []) ⟨rfl, rfl, T0⟩ T0 ?_ ?_
  · refine ex_seq ?_
    refine exm (sl := [(18, vb (decide (0 < n)))]) (sl0 := [(0, _), (1, _), (5, _), (6, _), (7, _)]) (hb := []) (hb0 := []) ⟨rfl, rfl, rfl, rfl, rfl, T0⟩ T0 ?_ ?_
    · by_cases hc : 0 < ws.length
      · refine sw (core_move (L _ rfl)) ⟨rfl, T0⟩ T0 ?_
        refine sw (core_move (L _ rfl)) ⟨rfl, T0⟩ T0 ?_
        refine sw (core_len Tryd.underlying22 (L _ rfl)) ⟨rfl, T0⟩ T0 ?_
        refine sw (core_lss (L _ rfl)) ⟨rfl, rfl, T0⟩ T0 ?_
        refine sw (core_move (L _ rfl)) ⟨rfl, T0⟩ T0 ?_
        refine swn (g := 13) rfl (decide_eq_true (by omega)) (L _ rfl) rfl ?_
        refine swn (g := 13) rfl (decide_eq_true (by omega)) (L _ rfl) rfl ?_
        refine swn (g := 13) rfl (decide_eq_true (by omega)) (L _ rfl) rfl ?_
        refine swn (g := 13) rfl (decide_eq_true (by omega)) (L _ rfl) rfl ?_
        refine sw (core_pick_t (decide_eq_true (by omega)) (L _ rfl)) ⟨rfl, rfl, T0⟩ T0 ?_
        exact seq_nil ⟨⟨ob rfl (by simp; omega), rfl, rfl, rfl, rfl, rfl, T0⟩, T0⟩
      · refine sw (core_move (L _ rfl)) ⟨rfl, T0⟩ T0 ?_
        refine sw (core_move (L _ rfl)) ⟨rfl, T0⟩ T0 ?_
        refine sw (core_len Tryd.underlying22 (L _ rfl)) ⟨rfl, T0⟩ T0 ?_
        refine sw (core_lss (L _ rfl)) ⟨rfl, rfl, T0⟩ T0 ?_
        refine sw (core_move (L _ rfl)) ⟨rfl, T0⟩ T0 ?_
        refine swg (g := 13) rfl (decide_eq_false (by omega)) (core_move (L _ rfl)) rfl ⟨rfl, T0⟩ T0 ?_
        refine swg (g := 13) rfl (decide_eq_false (by omega)) (core_move (L _ rfl)) rfl ⟨rfl, T0⟩ T0 ?_
        refine swg (g := 13) rfl (decide_eq_false (by omega)) (core_len Tryd.underlying22 (L _ rfl)) rfl ⟨rfl, T0⟩ T0 ?_
        refine swg (g := 13) rfl (decide_eq_false (by omega)) (core_lss (L _ rfl)) rfl ⟨rfl, rfl, T0⟩ T0 ?_
        refine sw (core_pick_f (decide_eq_false (by omega)) (L _ rfl)) ⟨rfl, rfl, T0⟩ T0 ?_
        exact seq_nil ⟨⟨ob rfl (dec_eq (by omega)), rfl, rfl, rfl, rfl, rfl, T0⟩, T0⟩
    refine ex_if rfl (fun hd => ?_) (fun hd => ?_)
    · have hd := dt hd
      have hw := h.getD 0
      have hw2 := h2.getD 0
      have key := (AddAt.zero ws vs n).next h h2 hd
      refine ex_skip (show Exec _ _ _ _ _ from ?_)
      refine ex_seq ?_
      refine ex_block ?_
      refine exr ?_
      refine sw (core_move (L _ rfl)) ⟨rfl, T0⟩ T0 ?_
      refine sw (core_move (L _ rfl)) ⟨rfl, T0⟩ T0 ?_
      refine sw (core_call (E := E) hG hX Tryd.call54 rfl hN (rword_says ws (by omega) h 0 (by omega)) (L _ rfl)) ⟨rfl, rfl, T0⟩ T0 ?_
      refine sw (core_move (L _ rfl)) ⟨rfl, T0⟩ T0 ?_
      refine sw (core_move (L _ rfl)) ⟨rfl, T0⟩ T0 ?_
      refine sw (core_call (E := E) hG hX Tryd.call54 rfl hN (rword_says vs (by omega) h2 0 (by omega)) (L _ rfl)) ⟨rfl, rfl, T0⟩ T0 ?_
      refine sw (core_add (L _ rfl) (fu64 (by omega) (by omega))) ⟨rfl, rfl, T0⟩ T0 ?_
      refine sw (core_move (L _ rfl)) ⟨rfl, T0⟩ T0 ?_
      refine sw (core_add (L _ rfl) (fu64 (by omega) (by omega))) ⟨rfl, rfl, T0⟩ T0 ?_
      refine sw (core_assign (L _ rfl)) ⟨rfl, T0⟩ T0 ?_
      refine seq_nil ⟨[(0, _), (1, _), (5, _), (7, _), (8, _)], [], ⟨rfl, rfl, rfl, rfl, rfl, T0⟩, trivial, ?_⟩
      refine exr ?_
      refine sw (core_move (L _ rfl)) ⟨rfl, T0⟩ T0 ?_
      refine sw (core_move (L _ rfl)) ⟨rfl, T0⟩ T0 ?_
      refine sw (core_conv Tryd.underlying52 Tryd.underlying53 (L _ rfl) wu32) ⟨rfl, T0⟩ T0 ?_
      refine sw (core_bsI (vs := [_]) Tryd.underlying22 Tryd.typeInfo53 rfl rfl (by decide) (by decide) rfl (zs_made (.cons rfl .nil) rfl) rfl (.cons rfl (.atom rfl) rfl (.put .here) .nil) (.cons .nil) (L _ rfl)) ⟨rfl, T0⟩ T0 ?_
      refine swb (apN (k := 34) (sz := 1) Tryd.underlying22 Tryd.underlying22 Tryd.typeInfo53 rfl rfl rfl (by decide) (by simp) rfl (by first | (simp [Tryd.t53]; done) | (simp [Tryd.t53]; omega)) (by omega) (P0 _ rfl) (L _ rfl)) ⟨rfl, rfl, T0⟩ T0 ⟨rfl, rfl⟩ ?_
      refine sw (core_assign (L _ rfl)) ⟨rfl, T0⟩ T0 ?_
      refine seq_nil ⟨[(0, _), (1, _), (5, _), (7, _), (8, _)], [(34, _)], ⟨rfl, rfl, rfl, rfl, rfl, T0⟩, ⟨rfl, T0⟩, ?_⟩
      refine exr0 ?_
      refine sw (core_move (L _ rfl)) ⟨rfl, T0⟩ T0 ?_
      refine sw (core_shr (L _ rfl) (by decide) (shrE (c := 4294967296) (by rfl) (by decide))) ⟨rfl, rfl, T0⟩ T0 ?_
      refine sw (core_assign (L _ rfl)) ⟨rfl, T0⟩ T0 ?_
      refine seq_nil ?_
      refine exr0 ?_
      refine sw (core_move (L _ rfl)) ⟨rfl, T0⟩ T0 ?_
      refine sw (core_add (L _ rfl) (w64 (by omega) (by omega))) ⟨rfl, rfl, T0⟩ T0 ?_
      refine sw (core_assign (L _ rfl)) ⟨rfl, T0⟩ T0 ?_
      refine seq_nil ?_
      exact ⟨(1, [(ws.getD 0 0 + vs.getD 0 0 + 0) % 4294967296], (ws.getD 0 0 + vs.getD 0 0 + 0) / 4294967296), ⟨key, Nat.one_pos⟩, (by simp only; omega), le_of ⟨(by first | exact rfl | exact oi (by omega) rfl), (by first | exact rfl | exact oi (by omega) rfl), (by first | exact rfl | exact oi (by omega) rfl), rfl, rfl, T0⟩ ⟨rfl, T0⟩⟩
    · have hd := df hd
      refine ex_exit (show Exec _ _ _ _ _ from ?_)
      refine exr ?_
      refine sw (core_move (L _ rfl)) ⟨rfl, T0⟩ T0 ?_
      refine sw (core_move (L _ rfl)) ⟨rfl, T0⟩ T0 ?_
      refine sw (core_conv Tryd.underlying52 Tryd.underlying53 (L _ rfl) wu32) ⟨rfl, T0⟩ T0 ?_
      refine sw (core_bsI (vs := [_]) Tryd.underlying22 Tryd.typeInfo53 rfl rfl (by decide) (by decide) rfl (zs_made (.cons rfl .nil) rfl) rfl (.cons rfl (.atom rfl) rfl (.put .here) .nil) (.cons .nil) (L _ rfl)) ⟨rfl, T0⟩ T0 ?_
      refine swb (apN (k := 41) (sz := 1) Tryd.underlying22 Tryd.underlying22 Tryd.typeInfo53 rfl rfl rfl (by decide) (by simp) rfl (by first | (simp [Tryd.t53]; done) | (simp [Tryd.t53]; omega)) (by omega) (P0 _ rfl) (L _ rfl)) ⟨rfl, rfl, T0⟩ T0 ⟨rfl, rfl⟩ ?_
      refine sw (core_assign (L _ rfl)) ⟨rfl, T0⟩ T0 ?_
      refine seq_nil ⟨[(5, _)], [(41, _)], ⟨rfl, T0⟩, ⟨rfl, T0⟩, ?_⟩
      refine ex_cv [41] (sl := [(5, _)]) (hb := []) (own_none hX0) ⟨⟨_, rfl, (.ref rfl rfl (by exact (by simp)) (by first | rfl | omega))⟩, T0⟩ T0 ?_
      refine exr ?_
      refine sw (core_move (L _ rfl)) ⟨rfl, T0⟩ T0 ?_
      refine sw (core_call (E := E) hG hX Tryd.call76 rfl hN (rtrim_says [0] (by simp)) (L _ rfl)) ⟨rfl, T0⟩ T0 ?_
      refine sw (core_assign (L _ rfl)) ⟨rfl, T0⟩ T0 ?_
      refine seq_nil ⟨[(4, _)], [], ⟨rfl, T0⟩, trivial, ?_⟩
      refine ex_ret ?_
      refine ⟨.inr rfl, ResVs.cast (.cons (.tmp rfl) .nil) ?_⟩
      have e1 : ws = [] := List.eq_nil_of_length_eq_zero (by omega)
      have e2 : vs = [] := List.eq_nil_of_length_eq_zero (by omega)
      rw [e1, e2]; simp [trim, trimN, val, digs_zero]
  · intro x hx
    obtain ⟨i, ys, c⟩ := x
    obtain ⟨hx, hi0⟩ := hx
    have hlen := hx.len
    have hle := hx.le
    have hc0 := hx.c0
    have hc1 := hx.c1
    simp only at hlen hle hc0 hc1 hi0
    dsimp only
    have hw := h.getD i
    have hw2 := h2.getD i
    refine ex_seq ?_
    refine exm (sl := [(18, vb (decide (i < n)))]) (sl0 := [(0, _), (1, _), (5, _), (6, _), (7, _)]) (hb := []) (hb0 := [(34, _)]) ⟨rfl, rfl, rfl, rfl, rfl, T0⟩ ⟨rfl, T0⟩ ?_ ?_
    · by_cases hc : i < ws.length
      · refine sw (core_move (L _ rfl)) ⟨rfl, T0⟩ T0 ?_
        refine sw (core_move (L _ rfl)) ⟨rfl, T0⟩ T0 ?_
        refine sw (core_len Tryd.underlying22 (L _ rfl)) ⟨rfl, T0⟩ T0 ?_
        refine sw (core_lss (L _ rfl)) ⟨rfl, rfl, T0⟩ T0 ?_
        refine sw (core_move (L _ rfl)) ⟨rfl, T0⟩ T0 ?_
        refine swn (g := 13) rfl (decide_eq_true (by omega)) (L _ rfl) rfl ?_
        refine swn (g := 13) rfl (decide_eq_true (by omega)) (L _ rfl) rfl ?_
        refine swn (g := 13) rfl (decide_eq_true (by omega)) (L _ rfl) rfl ?_
        refine swn (g := 13) rfl (decide_eq_true (by omega)) (L _ rfl) rfl ?_
        refine sw (core_pick_t (decide_eq_true (by omega)) (L _ rfl)) ⟨rfl, rfl, T0⟩ T0 ?_
        exact seq_nil ⟨⟨ob rfl (by simp; omega), rfl, rfl, rfl, rfl, rfl, T0⟩, ⟨rfl, T0⟩⟩
      · refine sw (core_move (L _ rfl)) ⟨rfl, T0⟩ T0 ?_
        refine sw (core_move (L _ rfl)) ⟨rfl, T0⟩ T0 ?_
        refine sw (core_len Tryd.underlying22 (L _ rfl)) ⟨rfl, T0⟩ T0 ?_
        refine sw (core_lss (L _ rfl)) ⟨rfl, rfl, T0⟩ T0 ?_
        refine sw (core_move (L _ rfl)) ⟨rfl, T0⟩ T0 ?_
        refine swg (g := 13) rfl (decide_eq_false (by omega)) (core_move (L _ rfl)) rfl ⟨rfl, T0⟩ T0 ?_
        refine swg (g := 13) rfl (decide_eq_false (by omega)) (core_move (L _ rfl)) rfl ⟨rfl, T0⟩ T0 ?_
        refine swg (g := 13) rfl (decide_eq_false (by omega)) (core_len Tryd.underlying22 (L _ rfl)) rfl ⟨rfl, T0⟩ T0 ?_
        refine swg (g := 13) rfl (decide_eq_false (by omega)) (core_lss (L _ rfl)) rfl ⟨rfl, rfl, T0⟩ T0 ?_
        refine sw (core_pick_f (decide_eq_false (by omega)) (L _ rfl)) ⟨rfl, rfl, T0⟩ T0 ?_
        exact seq_nil ⟨⟨ob rfl (dec_eq (by omega)), rfl, rfl, rfl, rfl, rfl, T0⟩, ⟨rfl, T0⟩⟩
    refine ex_if rfl (fun hd => ?_) (fun hd => ?_)
    · have hd := dt hd
      have key := hx.next h h2 hd
      refine ex_skip (show Exec _ _ _ _ _ from ?_)
      refine ex_seq ?_
      refine ex_block ?_
      refine exr ?_
      refine sw (core_move (L _ rfl)) ⟨rfl, T0⟩ T0 ?_
      refine sw (core_move (L _ rfl)) ⟨rfl, T0⟩ T0 ?_
      refine sw (core_call (E := E) hG hX Tryd.call54 rfl hN (rword_says ws (by omega) h i (by omega)) (L _ rfl)) ⟨rfl, rfl, T0⟩ T0 ?_
      refine sw (core_move (L _ rfl)) ⟨rfl, T0⟩ T0 ?_
      refine sw (core_move (L _ rfl)) ⟨rfl, T0⟩ T0 ?_
      refine sw (core_call (E := E) hG hX Tryd.call54 rfl hN (rword_says vs (by omega) h2 i (by omega)) (L _ rfl)) ⟨rfl, rfl, T0⟩ T0 ?_
      refine sw (core_add (L _ rfl) (fu64 (by omega) (by omega))) ⟨rfl, rfl, T0⟩ T0 ?_
      refine sw (core_move (L _ rfl)) ⟨rfl, T0⟩ T0 ?_
      refine sw (core_add (L _ rfl) (fu64 (by omega) (by omega))) ⟨rfl, rfl, T0⟩ T0 ?_
      refine sw (core_assign (L _ rfl)) ⟨rfl, T0⟩ T0 ?_
      refine seq_nil ⟨[(0, _), (1, _), (5, _), (7, _), (8, _)], [(34, _)], ⟨rfl, rfl, rfl, rfl, rfl, T0⟩, ⟨rfl, T0⟩, ?_⟩
      refine exr ?_
      refine sw (core_move (L _ rfl)) ⟨rfl, T0⟩ T0 ?_
      refine sw (core_move (L _ rfl)) ⟨rfl, T0⟩ T0 ?_
      refine sw (core_conv Tryd.underlying52 Tryd.underlying53 (L _ rfl) wu32) ⟨rfl, T0⟩ T0 ?_
      refine sw (core_bsI (vs := [_]) Tryd.underlying22 Tryd.typeInfo53 rfl rfl (by decide) (by decide) rfl (zs_made (.cons rfl .nil) rfl) rfl (.cons rfl (.atom rfl) rfl (.put .here) .nil) (.cons .nil) (L _ rfl)) ⟨rfl, T0⟩ T0 ?_
      refine swb (apP (sz := 1) Tryd.underlying22 Tryd.underlying22 Tryd.typeInfo53 rfl rfl rfl (by decide) (by exact (by simp)) (by omega) (by simp) rfl rfl rfl (by first | (simp [Tryd.t53]; done) | (simp [Tryd.t53]; omega)) (by omega) (P0 _ rfl) (L _ rfl)) ⟨rfl, rfl, T0⟩ ⟨rfl, T0⟩ T0 ?_
      refine sw (core_assign (L _ rfl)) ⟨rfl, T0⟩ T0 ?_
      refine seq_nil ⟨[(0, _), (1, _), (5, _), (7, _), (8, _)], [(34, _)], ⟨rfl, rfl, rfl, rfl, rfl, T0⟩, ⟨rfl, T0⟩, ?_⟩
      refine exr0 ?_
      refine sw (core_move (L _ rfl)) ⟨rfl, T0⟩ T0 ?_
      refine sw (core_shr (L _ rfl) (by decide) (shrE (c := 4294967296) (by rfl) (by decide))) ⟨rfl, rfl, T0⟩ T0 ?_
      refine sw (core_assign (L _ rfl)) ⟨rfl, T0⟩ T0 ?_
      refine seq_nil ?_
      refine exr0 ?_
      refine sw (core_move (L _ rfl)) ⟨rfl, T0⟩ T0 ?_
      refine sw (core_add (L _ rfl) (w64 (by omega) (by omega))) ⟨rfl, rfl, T0⟩ T0 ?_
      refine sw (core_assign (L _ rfl)) ⟨rfl, T0⟩ T0 ?_
      refine seq_nil ?_
      exact ⟨(i + 1, ys ++ [(ws.getD i 0 + vs.getD i 0 + c) % 4294967296], (ws.getD i 0 + vs.getD i 0 + c) / 4294967296), ⟨key, Nat.succ_pos _⟩, (by simp only; omega), le_of ⟨(by first | exact rfl | exact oi (by omega) rfl), (by first | exact rfl | exact oi (by omega) rfl), ov rfl (by simp), rfl, rfl, T0⟩ ⟨obl rfl (by rw [encW_app]), T0⟩⟩
    · have hd := df hd
      have hi : i = n := by omega
      subst hi
      have hwd : Wd (ys ++ [c % 4294967296]) := hx.wd.snoc (by omega) (by omega)
      have he : val (ys ++ [c % 4294967296]) = val ws + val vs := by
        have := hx.eq
        simp only at this
        rw [take_all (by omega), take_all (by omega)] at this
        rw [val_snoc, hlen, ← this, Int.emod_eq_of_lt hc0 (by omega)]
      refine ex_exit (show Exec _ _ _ _ _ from ?_)
      refine exr ?_
      refine sw (core_move (L _ rfl)) ⟨rfl, T0⟩ T0 ?_
      refine sw (core_move (L _ rfl)) ⟨rfl, T0⟩ T0 ?_
      refine sw (core_conv Tryd.underlying52 Tryd.underlying53 (L _ rfl) wu32) ⟨rfl, T0⟩ T0 ?_
      refine sw (core_bsI (vs := [_]) Tryd.underlying22 Tryd.typeInfo53 rfl rfl (by decide) (by decide) rfl (zs_made (.cons rfl .nil) rfl) rfl (.cons rfl (.atom rfl) rfl (.put .here) .nil) (.cons .nil) (L _ rfl)) ⟨rfl, T0⟩ T0 ?_
      refine swb (apP (sz := 1) Tryd.underlying22 Tryd.underlying22 Tryd.typeInfo53 rfl rfl rfl (by decide) (by exact (by simp)) (by omega) (by simp) rfl rfl rfl (by first | (simp [Tryd.t53]; done) | (simp [Tryd.t53]; omega)) (by omega) (P0 _ rfl) (L _ rfl)) ⟨rfl, rfl, T0⟩ ⟨rfl, T0⟩ T0 ?_
      refine sw (core_assign (L _ rfl)) ⟨rfl, T0⟩ T0 ?_
      refine seq_nil ⟨[(5, .ref 34 0 (ys ++ [c % 4294967296]).length (ys ++ [c % 4294967296]).length)], [(34, ⟨53, 1, .pure (encW (ys ++ [c % 4294967296]))⟩)], ⟨ov rfl (by simp), T0⟩, ⟨obl rfl (by rw [encW_app]), T0⟩, ?_⟩
      refine ex_cv [34] (sl := [(5, _)]) (hb := []) (own_none hX0) ⟨⟨_, rfl, (.ref rfl rfl (by exact (by simp)) (by first | rfl | omega))⟩, T0⟩ T0 ?_
      refine exr ?_
      refine sw (core_move (L _ rfl)) ⟨rfl, T0⟩ T0 ?_
      refine sw (core_call (E := E) hG hX Tryd.call76 rfl hN (rtrim_says (ys ++ [c % 4294967296]) (by simp; omega)) (L _ rfl)) ⟨rfl, T0⟩ T0 ?_
      refine sw (core_assign (L _ rfl)) ⟨rfl, T0⟩ T0 ?_
      refine seq_nil ⟨[(4, _)], [], ⟨rfl, T0⟩, trivial, ?_⟩
      refine ex_ret ?_
      refine ⟨.inr rfl, ResVs.cast (.cons (.tmp rfl) .nil) ?_⟩
      rw [trim_eq_digs hwd, he]

set_option maxRecDepth 100000 in
set_option maxHeartbeats 4000000 in
theorem rsub_says (ws vs : List Int) (hl : ws.length < 100000000) (hl2 : vs.length ≤ ws.length) (h : Wd ws) (h2 : Wd vs) (hle0 : val vs ≤ val ws) : Says E 68 [pW ws, pW vs] (pW (digs (val ws - val vs).toNat)) := by
  refine says_of (xs := [pW (digs (val ws - val vs).toNat)]) Tryd.func68 rfl Tryd.ntmps68 Tryd.results68 (by simp) fun F hG hX0 hnt hdf P0 => ?_
  have L := ltn hnt
  have hX : ∀ b, F.X b → E.ng ≤ b := fun b h => absurd h (hX0 b)
  have hN := ng_le hG
  have hv := val_nonneg h
  have hv2 := val_nonneg h2
  obtain ⟨n, hn⟩ : ∃ n, n = ws.length := ⟨_, rfl⟩
  refine exr ?_
  refine sw (core_assign (L _ rfl)) ⟨rfl, T0⟩ T0 ?_
  refine seq_nil ⟨[(0, _), (1, _)], [], ⟨rfl, rfl, T0⟩, trivial, ?_⟩
  refine exr ?_
  refine sw (core_assign (L _ rfl)) ⟨rfl, T0⟩ T0 ?_
  refine seq_nil ⟨[(0, _), (1, _), (5, _)], [], ⟨rfl, rfl, rfl, T0⟩, trivial, ?_⟩
  refine exr ?_
  refine sw (core_assign (L _ rfl)) ⟨rfl, T0⟩ T0 ?_
  refine seq_nil ⟨[(0, _), (1, _), (5, _), (6, _)], [], ⟨rfl, rfl, rfl, rfl, T0⟩, trivial, ?_⟩
  refine ex_seq ?_
  refine exr ?_
  refine sw (core_assign (L _ rfl)) ⟨rfl, T0⟩ T0 ?_
  refine seq_nil ⟨[(0, _), (1, _), (5, _), (6, _), (7, _)], [], ⟨rfl, rfl, rfl, rfl, rfl, T0⟩, trivial, ?_⟩
  refine ex_block ?_
  refine exlp (α := (Nat × List Int × Int)) (fun x => [(7, vi (x.1:Int)), (6, vw x.2.2), (5, .ref 29 0 x.2.1.length x.2.1.length)]) (fun x => [(29, ⟨53, 1, .pure (encW x.2.1)⟩)]) (fun x => SubAt ws vs n x ∧ 0 < x.1) (fun x => n - x.1) (n + 1) (sl := [(0, _), (1, _)]) (hb := []) ⟨rfl, rfl, T0⟩ T0 ?_ ?_
  · refine ex_seq ?_
    refine exr ?_
    refine sw (core_move (L _ rfl)) ⟨rfl, T0⟩ T0 ?_
    refine sw (core_move (L _ rfl)) ⟨rfl, T0⟩ T0 ?_
    refine sw (core_len Tryd.underlying22 (L _ rfl)) ⟨rfl, T0⟩ T0 ?_
    refine sw (core_lss (L _ rfl)) ⟨rfl, rfl, T0⟩ T0 ?_
    refine seq_nil ⟨[(0, _), (1, _), (5, _), (6, _), (7, _), (12, _)], [], ⟨rfl, rfl, rfl, rfl, rfl, rfl, T0⟩, trivial, ?_⟩
    refine ex_if rfl (fun hd => ?_) (fun hd => ?_)
    · have hd := dt hd
      have hw := h.getD 0
      have hw2 := h2.getD 0
      have key := (SubAt.zero ws vs n).next h h2 (by omega)
      refine ex_skip (show Exec _ _ _ _ _ from ?_)
      refine ex_seq ?_
      refine ex_block ?_
      refine exr ?_
      refine sw (core_move (L _ rfl)) ⟨rfl, T0⟩ T0 ?_
      refine sw (core_move (L _ rfl)) ⟨rfl, T0⟩ T0 ?_
      refine sw (core_call (E := E) hG hX Tryd.call54 rfl hN (rword_says ws (by omega) h 0 (by omega)) (L _ rfl)) ⟨rfl, rfl, T0⟩ T0 ?_
      refine sw (core_add (L _ rfl) (fu64 (by omega) (by omega))) ⟨rfl, rfl, T0⟩ T0 ?_
      refine sw (core_move (L _ rfl)) ⟨rfl, T0⟩ T0 ?_
      refine sw (core_move (L _ rfl)) ⟨rfl, T0⟩ T0 ?_
      refine sw (core_call (E := E) hG hX Tryd.call54 rfl hN (rword_says vs (by omega) h2 0 (by omega)) (L _ rfl)) ⟨rfl, rfl, T0⟩ T0 ?_
      refine sw (core_sub (L _ rfl) (fu64 (by omega) (by omega))) ⟨rfl, rfl, T0⟩ T0 ?_
      refine sw (core_move (L _ rfl)) ⟨rfl, T0⟩ T0 ?_
      refine sw (core_sub (L _ rfl) (fu64 (by omega) (by omega))) ⟨rfl, rfl, T0⟩ T0 ?_
      refine sw (core_assign (L _ rfl)) ⟨rfl, T0⟩ T0 ?_
      refine seq_nil ⟨[(0, _), (1, _), (5, _), (7, _), (8, _)], [], ⟨rfl, rfl, rfl, rfl, rfl, T0⟩, trivial, ?_⟩
      refine exr ?_
      refine sw (core_move (L _ rfl)) ⟨rfl, T0⟩ T0 ?_
      refine sw (core_move (L _ rfl)) ⟨rfl, T0⟩ T0 ?_
      refine sw (core_conv Tryd.underlying52 Tryd.underlying53 (L _ rfl) wu32) ⟨rfl, T0⟩ T0 ?_
      refine sw (core_bsI (vs := [_]) Tryd.underlying22 Tryd.typeInfo53 rfl rfl (by decide) (by decide) rfl (zs_made (.cons rfl .nil) rfl) rfl (.cons rfl (.atom rfl) rfl (.put .here) .nil) (.cons .nil) (L _ rfl)) ⟨rfl, T0⟩ T0 ?_
      refine swb (apN (k := 29) (sz := 1) Tryd.underlying22 Tryd.underlying22 Tryd.typeInfo53 rfl rfl rfl (by decide) (by simp) rfl (by first | (simp [Tryd.t53]; done) | (simp [Tryd.t53]; omega)) (by omega) (P0 _ rfl) (L _ rfl)) ⟨rfl, rfl, T0⟩ T0 ⟨rfl, rfl⟩ ?_
      refine sw (core_assign (L _ rfl)) ⟨rfl, T0⟩ T0 ?_
      refine seq_nil ⟨[(0, _), (1, _), (5, _), (7, _), (8, _)], [(29, _)], ⟨rfl, rfl, rfl, rfl, rfl, T0⟩, ⟨rfl, T0⟩, ?_⟩
      refine exr0 ?_
      refine sw (core_move (L _ rfl)) ⟨rfl, T0⟩ T0 ?_
      refine sw (core_shr (L _ rfl) (by decide) (shrE (c := 4294967296) (by rfl) (by decide))) ⟨rfl, rfl, T0⟩ T0 ?_
      refine sw (core_sub (L _ rfl) (fu64 (by omega) (by omega))) ⟨rfl, rfl, T0⟩ T0 ?_
      refine sw (core_assign (L _ rfl)) ⟨rfl, T0⟩ T0 ?_
      refine seq_nil ?_
      refine exr0 ?_
      refine sw (core_move (L _ rfl)) ⟨rfl, T0⟩ T0 ?_
      refine sw (core_add (L _ rfl) (w64 (by omega) (by omega))) ⟨rfl, rfl, T0⟩ T0 ?_
      refine sw (core_assign (L _ rfl)) ⟨rfl, T0⟩ T0 ?_
      refine seq_nil ?_
      exact ⟨(1, [(ws.getD 0 0 - vs.getD 0 0 - 0) % 4294967296], if ws.getD 0 0 < vs.getD 0 0 + 0 then 1 else 0), ⟨key, Nat.one_pos⟩, (by simp only; omega), le_of ⟨(by first | exact rfl | exact oi (by omega) rfl), oi (by simp only; split <;> omega) rfl, (by first | exact rfl | exact oi (by omega) rfl), rfl, rfl, T0⟩ ⟨obl rfl (by simp only [encW, List.map_cons, List.map_nil]; rw [sub_word]), T0⟩⟩
    · have hd := df hd
      have e1 : ws = [] := List.eq_nil_of_length_eq_zero (by omega)
      have e2 : vs = [] := List.eq_nil_of_length_eq_zero (by omega)
      refine ex_exit (show Exec _ _ _ _ _ from ?_)
      refine ex_cv [] (sl := [(5, _)]) (hb := []) (own_none hX0) ⟨⟨_, rfl, (.p .nil)⟩, T0⟩ T0 ?_
      refine exr ?_
      refine sw (core_move (L _ rfl)) ⟨rfl, T0⟩ T0 ?_
      refine sw (core_call (E := E) hG hX Tryd.call76 rfl hN (rtrim_says [] (by simp)) (L _ rfl)) ⟨rfl, T0⟩ T0 ?_
      refine sw (core_assign (L _ rfl)) ⟨rfl, T0⟩ T0 ?_
      refine seq_nil ⟨[(4, _)], [], ⟨rfl, T0⟩, trivial, ?_⟩
      refine ex_ret ?_
      refine ⟨.inr rfl, ResVs.cast (.cons (.tmp rfl) .nil) ?_⟩
      rw [e1, e2]; simp [trim, trimN, val, digs_zero]
  · intro x hx
    obtain ⟨i, ys, c⟩ := x
    obtain ⟨hx, hi0⟩ := hx
    have hlen := hx.len
    have hle := hx.le
    have hc0 := hx.c0
    have hc1 := hx.c1
    simp only at hlen hle hc0 hc1 hi0
    dsimp only
    have hw := h.getD i
    have hw2 := h2.getD i
    refine ex_seq ?_
    refine exr ?_
    refine sw (core_move (L _ rfl)) ⟨rfl, T0⟩ T0 ?_
    refine sw (core_move (L _ rfl)) ⟨rfl, T0⟩ T0 ?_
    refine sw (core_len Tryd.underlying22 (L _ rfl)) ⟨rfl, T0⟩ T0 ?_
    refine sw (core_lss (L _ rfl)) ⟨rfl, rfl, T0⟩ T0 ?_
    refine seq_nil ⟨[(0, _), (1, _), (5, _), (6, _), (7, _), (12, _)], [(29, _)], ⟨rfl, rfl, rfl, rfl, rfl, rfl, T0⟩, ⟨rfl, T0⟩, ?_⟩
    refine ex_if rfl (fun hd => ?_) (fun hd => ?_)
    · have hd := dt hd
      have key := hx.next h h2 (by omega)
      refine ex_skip (show Exec _ _ _ _ _ from ?_)
      refine ex_seq ?_
      refine ex_block ?_
      refine exr ?_
      refine sw (core_move (L _ rfl)) ⟨rfl, T0⟩ T0 ?_
      refine sw (core_move (L _ rfl)) ⟨rfl, T0⟩ T0 ?_
      refine sw (core_call (E := E) hG hX Tryd.call54 rfl hN (rword_says ws (by omega) h i (by omega)) (L _ rfl)) ⟨rfl, rfl, T0⟩ T0 ?_
      refine sw (core_add (L _ rfl) (fu64 (by omega) (by omega))) ⟨rfl, rfl, T0⟩ T0 ?_
      refine sw (core_move (L _ rfl)) ⟨rfl, T0⟩ T0 ?_
      refine sw (core_move (L _ rfl)) ⟨rfl, T0⟩ T0 ?_
      refine sw (core_call (E := E) hG hX Tryd.call54 rfl hN (rword_says vs (by omega) h2 i (by omega)) (L _ rfl)) ⟨rfl, rfl, T0⟩ T0 ?_
      refine sw (core_sub (L _ rfl) (fu64 (by omega) (by omega))) ⟨rfl, rfl, T0⟩ T0 ?_
      refine sw (core_move (L _ rfl)) ⟨rfl, T0⟩ T0 ?_
      refine sw (core_sub (L _ rfl) (fu64 (by omega) (by omega))) ⟨rfl, rfl, T0⟩ T0 ?_
      refine sw (core_assign (L _ rfl)) ⟨rfl, T0⟩ T0 ?_
      refine seq_nil ⟨[(0, _), (1, _), (5, _), (7, _), (8, _)], [(29, _)], ⟨rfl, rfl, rfl, rfl, rfl, T0⟩, ⟨rfl, T0⟩, ?_⟩
      refine exr ?_
      refine sw (core_move (L _ rfl)) ⟨rfl, T0⟩ T0 ?_
      refine sw (core_move (L _ rfl)) ⟨rfl, T0⟩ T0 ?_
      refine sw (core_conv Tryd.underlying52 Tryd.underlying53 (L _ rfl) wu32) ⟨rfl, T0⟩ T0 ?_
      refine sw (core_bsI (vs := [_]) Tryd.underlying22 Tryd.typeInfo53 rfl rfl (by decide) (by decide) rfl (zs_made (.cons rfl .nil) rfl) rfl (.cons rfl (.atom rfl) rfl (.put .here) .nil) (.cons .nil) (L _ rfl)) ⟨rfl, T0⟩ T0 ?_
      refine swb (apP (sz := 1) Tryd.underlying22 Tryd.underlying22 Tryd.typeInfo53 rfl rfl rfl (by decide) (by exact (by simp)) (by omega) (by simp) rfl rfl rfl (by first | (simp [Tryd.t53]; done) | (simp [Tryd.t53]; omega)) (by omega) (P0 _ rfl) (L _ rfl)) ⟨rfl, rfl, T0⟩ ⟨rfl, T0⟩ T0 ?_
      refine sw (core_assign (L _ rfl)) ⟨rfl, T0⟩ T0 ?_
      refine seq_nil ⟨[(0, _), (1, _), (5, _), (7, _), (8, _)], [(29, _)], ⟨rfl, rfl, rfl, rfl, rfl, T0⟩, ⟨rfl, T0⟩, ?_⟩
      refine exr0 ?_
      refine sw (core_move (L _ rfl)) ⟨rfl, T0⟩ T0 ?_
      refine sw (core_shr (L _ rfl) (by decide) (shrE (c := 4294967296) (by rfl) (by decide))) ⟨rfl, rfl, T0⟩ T0 ?_
      refine sw (core_sub (L _ rfl) (fu64 (by omega) (by omega))) ⟨rfl, rfl, T0⟩ T0 ?_
      refine sw (core_assign (L _ rfl)) ⟨rfl, T0⟩ T0 ?_
      refine seq_nil ?_
      refine exr0 ?_
      refine sw (core_move (L _ rfl)) ⟨rfl, T0⟩ T0 ?_
      refine sw (core_add (L _ rfl) (w64 (by omega) (by omega))) ⟨rfl, rfl, T0⟩ T0 ?_
      refine sw (core_assign (L _ rfl)) ⟨rfl, T0⟩ T0 ?_
      refine seq_nil ?_
      exact ⟨(i + 1, ys ++ [(ws.getD i 0 - vs.getD i 0 - c) % 4294967296], if ws.getD i 0 < vs.getD i 0 + c then 1 else 0), ⟨key, Nat.succ_pos _⟩, (by simp only; omega), le_of ⟨(by first | exact rfl | exact oi (by omega) rfl), oi (by simp only; split <;> omega) rfl, ov rfl (by simp), rfl, rfl, T0⟩ ⟨obl rfl (by rw [encW_app, sub_word]), T0⟩⟩
    · have hd := df hd
      have hi : i = n := by omega
      subst hi
      obtain ⟨e1, e2⟩ : c = 0 ∧ ys = digN i (val ws - val vs) := sub_end h h2 hle0 (by omega) (by omega) hx
      refine ex_exit (show Exec _ _ _ _ _ from ?_)
      refine ex_cv [29] (sl := [(5, _)]) (hb := []) (own_none hX0) ⟨⟨_, rfl, (.ref rfl rfl (by exact (by simp)) (by first | rfl | omega))⟩, T0⟩ T0 ?_
      refine exr ?_
      refine sw (core_move (L _ rfl)) ⟨rfl, T0⟩ T0 ?_
      refine sw (core_call (E := E) hG hX Tryd.call76 rfl hN (rtrim_says ys (by omega)) (L _ rfl)) ⟨rfl, T0⟩ T0 ?_
      refine sw (core_assign (L _ rfl)) ⟨rfl, T0⟩ T0 ?_
      refine seq_nil ⟨[(4, _)], [], ⟨rfl, T0⟩, trivial, ?_⟩
      refine ex_ret ?_
      refine ⟨.inr rfl, ResVs.cast (.cons (.tmp rfl) .nil) ?_⟩
      have hy : val ys = val ws - val vs := by rw [e2, val_digN (by omega) (by have := val_lt h; rw [← hn] at this; omega)]
      rw [trim_eq_digs hx.wd]; simp only; rw [hy]

end Go.Proofs.YtebkelnibecmjaaDoor.N
namespace Go.Proofs.YtebkelnibecmjaaDoor.N
open Go Go.Proofs.YtebkelnibecmjaaDoor.SH Go.Proofs.YtebkelnibecmjaaDoor.NumA
set_option maxRecDepth 100000 in
set_option maxHeartbeats 4000000 in
theorem rmul_says (ws vs : List Int) (hl : ws.length < 400000000) (hl2 : vs.length < 400000000) (h : Wd ws) (h2 : Wd vs) : Says E 72 [pW ws, pW vs] (pW (digs (val ws * val vs).toNat)) := by
  refine says_of (xs := [pW (digs (val ws * val vs).toNat)]) Tryd.func72 rfl Tryd.ntmps72 Tryd.results72 (by simp) fun F hG hX0 hnt hdf P0 => ?_
  have L := ltn hnt
  have hX : ∀ b, F.X b → E.ng ≤ b := fun b h => absurd h (hX0 b)
  have hN := ng_le hG
  refine exr ?_
  refine sw (core_assign (L _ rfl)) ⟨rfl, T0⟩ T0 ?_
  refine seq_nil ⟨[(0, _), (1, _)], [], ⟨rfl, rfl, T0⟩, trivial, ?_⟩
  refine exr ?_
  refine sw (core_move (L _ rfl)) ⟨rfl, T0⟩ T0 ?_
  refine sw (core_len Tryd.underlying22 (L _ rfl)) ⟨rfl, T0⟩ T0 ?_
  refine sw (core_move (L _ rfl)) ⟨rfl, T0⟩ T0 ?_
  refine sw (core_len Tryd.underlying22 (L _ rfl)) ⟨rfl, T0⟩ T0 ?_
  refine sw (core_add (L _ rfl) (w64 (by omega) (by omega))) ⟨rfl, rfl, T0⟩ T0 ?_
  refine swb (core_make1 (k := 15) Tryd.underlying22 Tryd.typeInfo53 rfl rfl rfl rfl (show _ = ((ws.length + vs.length : Nat) : Int) by omega) (show _ = ((ws.length + vs.length : Nat) : Int) by omega) (Nat.le_refl _) (by simp [Tryd.t53]; omega) (by omega) (P0 _ rfl) (L _ rfl)) ⟨rfl, rfl, T0⟩ T0 ⟨rfl, rfl⟩ ?_
  refine sw (core_assign (L _ rfl)) ⟨rfl, T0⟩ T0 ?_
  refine seq_nil ⟨[(0, _), (1, _), (5, _)], [(15, _)], ⟨rfl, rfl, rfl, T0⟩, ⟨rfl, T0⟩, ?_⟩
  refine ex_seq ?_
  refine exr ?_
  refine sw (core_assign (L _ rfl)) ⟨rfl, T0⟩ T0 ?_
  refine seq_nil ⟨[(0, _), (1, _), (5, _), (6, _)], [(15, _)], ⟨rfl, rfl, rfl, rfl, T0⟩, ⟨rfl, T0⟩, ?_⟩
  refine ex_block ?_
  refine exl (α := (Nat × List Int)) (fun x => [(6, vi (x.1:Int))]) (fun x => [(15, ⟨53, 1, .pure (encW x.2)⟩)]) (fun x => MulAt ws vs x) (fun x => ws.length - x.1) (((0 : Nat), List.replicate (ws.length + vs.length) (0 : Int))) (sl := [(0, _), (1, _), (5, _)]) (hb := []) ?_ ⟨(by first | exact rfl | exact oi (by omega) rfl), rfl, rfl, rfl, T0⟩ ⟨obl rfl (by rw [encW_rep]), T0⟩ ?_
  · exact MulAt.zero ws vs
  intro x hx
  obtain ⟨i, r⟩ := x
  have hlen := hx.len
  have hle := hx.le
  simp only at hlen hle
  dsimp only
  refine ex_seq ?_
  refine exr ?_
  refine sw (core_move (L _ rfl)) ⟨rfl, T0⟩ T0 ?_
  refine sw (core_move (L _ rfl)) ⟨rfl, T0⟩ T0 ?_
  refine sw (core_len Tryd.underlying22 (L _ rfl)) ⟨rfl, T0⟩ T0 ?_
  refine sw (core_lss (L _ rfl)) ⟨rfl, rfl, T0⟩ T0 ?_
  refine seq_nil ⟨[(0, _), (1, _), (5, _), (6, _), (19, _)], [(15, _)], ⟨rfl, rfl, rfl, rfl, rfl, T0⟩, ⟨rfl, T0⟩, ?_⟩
  refine ex_if rfl (fun he => ?_) (fun he => ?_)
  · have he := dt he
    have hw := h.getD i
    refine ex_skip (show Exec _ _ _ _ _ from ?_)
    refine ex_seq ?_
    refine ex_block ?_
    refine exr ?_
    refine sw (core_assign (L _ rfl)) ⟨rfl, T0⟩ T0 ?_
    refine seq_nil ⟨[(0, _), (1, _), (5, _), (6, _), (7, _)], [(15, _)], ⟨rfl, rfl, rfl, rfl, rfl, T0⟩, ⟨rfl, T0⟩, ?_⟩
    refine ex_seq ?_
    refine exr ?_
    refine sw (core_assign (L _ rfl)) ⟨rfl, T0⟩ T0 ?_
    refine seq_nil ⟨[(0, _), (1, _), (5, _), (6, _), (7, _), (8, _)], [(15, _)], ⟨rfl, rfl, rfl, rfl, rfl, rfl, T0⟩, ⟨rfl, T0⟩, ?_⟩
    refine ex_block ?_
    refine exl (α := (Nat × List Int × Int)) (fun y => [(8, vi (y.1:Int)), (7, vw y.2.2)]) (fun y => [(15, ⟨53, 1, .pure (encW y.2.1)⟩)]) (fun y => MulIn ws vs i y) (fun y => vs.length - y.1) (((0 : Nat), r, (0 : Int))) (sl := [(0, _), (1, _), (5, _), (6, _)]) (hb := []) ?_ ⟨(by first | exact rfl | exact oi (by omega) rfl), (by first | exact rfl | exact oi (by omega) rfl), rfl, rfl, rfl, rfl, T0⟩ ⟨rfl, T0⟩ ?_
    · exact MulIn.zero h h2 hx (by omega)
    intro y hy
    obtain ⟨j, s, c⟩ := y
    have hlen2 := hy.len
    have hle2 := hy.le
    have hc0 := hy.c0
    have hc1 := hy.c1
    simp only at hlen2 hle2 hc0 hc1
    dsimp only
    refine ex_seq ?_
    refine exr ?_
    refine sw (core_move (L _ rfl)) ⟨rfl, T0⟩ T0 ?_
    refine sw (core_move (L _ rfl)) ⟨rfl, T0⟩ T0 ?_
    refine sw (core_len Tryd.underlying22 (L _ rfl)) ⟨rfl, T0⟩ T0 ?_
    refine sw (core_lss (L _ rfl)) ⟨rfl, rfl, T0⟩ T0 ?_
    refine seq_nil ⟨[(0, _), (1, _), (5, _), (6, _), (7, _), (8, _), (25, _)], [(15, _)], ⟨rfl, rfl, rfl, rfl, rfl, rfl, rfl, T0⟩, ⟨rfl, T0⟩, ?_⟩
    refine ex_if rfl (fun hf => ?_) (fun hf => ?_)
    · have hf := dt hf
      have hv := h2.getD j
      have hb := mul_bd hw hv
      have hs := hy.wd.getD (i + j)
      simp only at hs
      obtain ⟨key, k1, k2⟩ := hy.next h h2 (by omega) (by omega) rfl
      refine ex_skip (show Exec _ _ _ _ _ from ?_)
      refine ex_seq ?_
      refine ex_block ?_
      refine exd (by rfl) ?_
      refine sw (core_move (L _ rfl)) ⟨rfl, T0⟩ T0 ?_
      refine sw (core_move (L _ rfl)) ⟨rfl, T0⟩ T0 ?_
      refine sw (ixJ Tryd.underlying22 Tryd.sizeOf53 (j := i) (by first | exact rfl | omega) (by omega) (by simp) (L _ rfl)) ⟨rfl, rfl, T0⟩ T0 ?_
      refine sw (core_loadI1 Tryd.isAgg53 (by first | exact getW (by omega) | rfl) (L _ rfl)) ⟨rfl, T0⟩ T0 ?_
      refine sw (core_conv Tryd.underlying53 Tryd.underlying52 (L _ rfl) (fu64 (by omega) (by omega))) ⟨rfl, T0⟩ T0 ?_
      refine sw (core_move (L _ rfl)) ⟨rfl, T0⟩ T0 ?_
      refine sw (core_move (L _ rfl)) ⟨rfl, T0⟩ T0 ?_
      refine sw (ixJ Tryd.underlying22 Tryd.sizeOf53 (j := j) (by first | exact rfl | omega) (by omega) (by simp) (L _ rfl)) ⟨rfl, rfl, T0⟩ T0 ?_
      refine sw (core_loadI1 Tryd.isAgg53 (by first | exact getW (by omega) | rfl) (L _ rfl)) ⟨rfl, T0⟩ T0 ?_
      refine sw (core_conv Tryd.underlying53 Tryd.underlying52 (L _ rfl) (fu64 (by omega) (by omega))) ⟨rfl, T0⟩ T0 ?_
      refine sw (core_mul (L _ rfl) (fu64 (by omega) (by omega))) ⟨rfl, rfl, T0⟩ T0 ?_
      refine sw (core_move (L _ rfl)) ⟨rfl, T0⟩ T0 ?_
      refine sw (core_move (L _ rfl)) ⟨rfl, T0⟩ T0 ?_
      refine sw (core_move (L _ rfl)) ⟨rfl, T0⟩ T0 ?_
      refine sw (core_add (L _ rfl) (w64 (by omega) (by omega))) ⟨rfl, rfl, T0⟩ T0 ?_
      refine sw (ixR0 Tryd.underlying22 Tryd.sizeOf53 (by exact (by simp; omega)) (j := i + j) (by first | exact rfl | omega) (by omega) (L _ rfl)) ⟨rfl, rfl, T0⟩ ⟨rfl, T0⟩ ?_
      refine sw (core_load1 Tryd.isAgg53 (by exact (by simp; omega)) (getC (by first | exact getW (by omega) | rfl)) (L _ rfl)) ⟨rfl, T0⟩ ⟨rfl, T0⟩ ?_
      refine sw (core_conv Tryd.underlying53 Tryd.underlying52 (L _ rfl) (fu64 (by omega) (by omega))) ⟨rfl, T0⟩ T0 ?_
      refine sw (core_add (L _ rfl) (fu64 (by omega) (by omega))) ⟨rfl, rfl, T0⟩ T0 ?_
      refine sw (core_move (L _ rfl)) ⟨rfl, T0⟩ T0 ?_
      refine sw (core_add (L _ rfl) (fu64 (by omega) (by omega))) ⟨rfl, rfl, T0⟩ T0 ?_
      refine sw (core_assign (L _ rfl)) ⟨rfl, T0⟩ T0 ?_
      refine seq_nil ⟨aoks [⟨[0], [], [28], []⟩, ⟨[6], [], [29], []⟩, ⟨[28, 29], [], [30], []⟩, ⟨[30], [], [31], []⟩, ⟨[31], [], [32], []⟩, ⟨[1], [], [33], []⟩, ⟨[8], [], [34], []⟩, ⟨[33, 34], [], [35], []⟩, ⟨[35], [], [36], []⟩, ⟨[36], [], [37], []⟩, ⟨[32, 37], [], [38], []⟩, ⟨[5], [], [39], []⟩, ⟨[6], [], [40], []⟩, ⟨[8], [], [41], []⟩, ⟨[40, 41], [], [42], []⟩, ⟨[39, 42], [15], [43], []⟩, ⟨[43], [15], [44], []⟩, ⟨[44], [], [45], []⟩, ⟨[38, 45], [], [46], []⟩, ⟨[7], [], [47], []⟩, ⟨[46, 47], [], [48], []⟩, ⟨[48], [], [9], []⟩] (by rfl) (by rfl) (by decide), [(0, _), (1, _), (5, _), (6, _), (8, _), (9, _)], [(15, _)], ⟨rfl, rfl, rfl, rfl, rfl, rfl, T0⟩, ⟨rfl, T0⟩, ?_⟩
      refine exr ?_
      refine sw (core_move (L _ rfl)) ⟨rfl, T0⟩ T0 ?_
      refine sw (core_move (L _ rfl)) ⟨rfl, T0⟩ T0 ?_
      refine sw (core_move (L _ rfl)) ⟨rfl, T0⟩ T0 ?_
      refine sw (core_add (L _ rfl) (w64 (by omega) (by omega))) ⟨rfl, rfl, T0⟩ T0 ?_
      refine sw (core_move (L _ rfl)) ⟨rfl, T0⟩ T0 ?_
      refine sw (core_conv Tryd.underlying52 Tryd.underlying53 (L _ rfl) wu32) ⟨rfl, T0⟩ T0 ?_
      refine sw (ixR0 Tryd.underlying22 Tryd.sizeOf53 (by exact (by simp; omega)) (j := i + j) (by first | exact rfl | omega) (by omega) (L _ rfl)) ⟨rfl, rfl, T0⟩ ⟨rfl, T0⟩ ?_
      refine sb (core_store1 Tryd.sizeOf53 (by exact (by simp; omega)) (.atom rfl) (by omega)) ⟨rfl, rfl, T0⟩ ⟨rfl, T0⟩ ?_
      refine seq_nil ⟨[(0, _), (1, _), (5, _), (6, _), (8, _), (9, _)], [(15, _)], ⟨rfl, rfl, rfl, rfl, rfl, rfl, T0⟩, ⟨rfl, T0⟩, ?_⟩
      refine exr0 ?_
      refine sw (core_move (L _ rfl)) ⟨rfl, T0⟩ T0 ?_
      refine sw (core_shr (L _ rfl) (by decide) (shrE (c := 4294967296) (by rfl) (by decide))) ⟨rfl, rfl, T0⟩ T0 ?_
      refine sw (core_assign (L _ rfl)) ⟨rfl, T0⟩ T0 ?_
      refine seq_nil ?_
      refine exr0 ?_
      refine sw (core_move (L _ rfl)) ⟨rfl, T0⟩ T0 ?_
      refine sw (core_add (L _ rfl) (w64 (by omega) (by omega))) ⟨rfl, rfl, T0⟩ T0 ?_
      refine sw (core_assign (L _ rfl)) ⟨rfl, T0⟩ T0 ?_
      refine seq_nil ?_
      exact ⟨(j + 1, s.set (i + j) ((ws.getD i 0 * vs.getD j 0 + s.getD (i + j) 0 + c) % 4294967296), (ws.getD i 0 * vs.getD j 0 + s.getD (i + j) 0 + c) / 4294967296), key, (by simp only; omega), le_of ⟨(by first | exact rfl | exact oi (by omega) rfl), (by first | exact rfl | exact oi (by omega) rfl), rfl, rfl, rfl, rfl, T0⟩ ⟨obl rfl (by rw [encW_set]), T0⟩⟩
    · have hf := df hf
      have hj : j = vs.length := by omega
      subst hj
      refine ex_exit (show Exec _ _ _ _ _ from ?_)
      refine exr0 ?_
      refine sw (core_move (L _ rfl)) ⟨rfl, T0⟩ T0 ?_
      refine sw (core_move (L _ rfl)) ⟨rfl, T0⟩ T0 ?_
      refine sw (core_move (L _ rfl)) ⟨rfl, T0⟩ T0 ?_
      refine sw (core_len Tryd.underlying22 (L _ rfl)) ⟨rfl, T0⟩ T0 ?_
      refine sw (core_add (L _ rfl) (w64 (by omega) (by omega))) ⟨rfl, rfl, T0⟩ T0 ?_
      refine sw (core_move (L _ rfl)) ⟨rfl, T0⟩ T0 ?_
      refine sw (core_conv Tryd.underlying52 Tryd.underlying53 (L _ rfl) (fu32 (by omega) (by omega))) ⟨rfl, T0⟩ T0 ?_
      refine sw (ixR0 Tryd.underlying22 Tryd.sizeOf53 (by exact (by simp; omega)) (j := i + vs.length) (by first | exact rfl | omega) (by omega) (L _ rfl)) ⟨rfl, rfl, T0⟩ ⟨rfl, T0⟩ ?_
      refine sb (core_store1 Tryd.sizeOf53 (by exact (by simp; omega)) (.atom rfl) (by omega)) ⟨rfl, rfl, T0⟩ ⟨rfl, T0⟩ ?_
      refine seq_nil ?_
      refine exr0 ?_
      refine sw (core_move (L _ rfl)) ⟨rfl, T0⟩ T0 ?_
      refine sw (core_add (L _ rfl) (w64 (by omega) (by omega))) ⟨rfl, rfl, T0⟩ T0 ?_
      refine sw (core_assign (L _ rfl)) ⟨rfl, T0⟩ T0 ?_
      refine seq_nil ?_
      exact ⟨(i + 1, s.set (i + vs.length) c), hy.done (by omega), (by simp only; omega), le_of ⟨(by first | exact rfl | exact oi (by omega) rfl), rfl, rfl, rfl, T0⟩ ⟨obl rfl (by rw [encW_set]), T0⟩⟩
  · have he := df he
    have hi : i = ws.length := by omega
    subst hi
    have e : val r = val ws * val vs := by
      have := hx.eq
      simpa only [List.take_length] using this
    refine ex_exit (show Exec _ _ _ _ _ from ?_)
    refine ex_cv [15] (sl := [(5, _)]) (hb := []) (own_none hX0) ⟨⟨_, rfl, (.ref rfl rfl (by exact (by simp; omega)) (by first | rfl | omega))⟩, T0⟩ T0 ?_
    rw [← hlen]
    refine exr ?_
    refine sw (core_move (L _ rfl)) ⟨rfl, T0⟩ T0 ?_
    refine sw (core_call (E := E) hG hX Tryd.call76 rfl hN (rtrim_says r (by omega)) (L _ rfl)) ⟨rfl, T0⟩ T0 ?_
    refine sw (core_assign (L _ rfl)) ⟨rfl, T0⟩ T0 ?_
    refine seq_nil ⟨[(4, _)], [], ⟨rfl, T0⟩, trivial, ?_⟩
    refine ex_ret ?_
    refine ⟨.inr rfl, ResVs.cast (.cons (.tmp rfl) .nil) ?_⟩
    rw [trim_eq_digs hx.wd]; simp only; rw [e]

set_option maxRecDepth 100000 in
set_option maxHeartbeats 4000000 in
theorem rmulI_says (m n : Bool) (ws vs : List Int) (hl : ws.length < 400000000) (hl2 : vs.length < 400000000) (h : Wd ws) (h2 : Wd vs) : Says E 40 [pI m ws, pI n vs] (pZ (if canon m ws = true ∧ canon n vs = true then sg m (val ws) * sg n (val vs) else 0)) := by
  refine says_of (xs := [pZ (if canon m ws = true ∧ canon n vs = true then sg m (val ws) * sg n (val vs) else 0)]) Tryd.func40 rfl Tryd.ntmps40 Tryd.results40 (by simp) fun F hG hX0 hnt hdf P0 => ?_
  have L := ltn hnt
  have hX : ∀ b, F.X b → E.ng ≤ b := fun b h => absurd h (hX0 b)
  have hN := ng_le hG
  have hv := val_nonneg h
  have hv2 := val_nonneg h2
  have hvv : 0 ≤ val ws * val vs := Int.mul_nonneg hv hv2
  have hml := mul_len h h2
  refine exr ?_
  refine swb (core_box (k := 2) (n := 2) (.pagg (.cons (.cons .nil))) rfl rfl (P0 _ rfl) (L _ rfl)) ⟨rfl, T0⟩ T0 ⟨rfl, rfl⟩ ?_
  refine swb (core_box (k := 3) (n := 2) (.pagg (.cons (.cons .nil))) rfl rfl (P0 _ rfl) (L _ rfl)) ⟨rfl, T0⟩ T0 ⟨rfl, rfl⟩ ?_
  refine swb (core_alloc (k := 4) (n := 2) Tryd.zeroValue24 (.cons rfl (.cons rfl .nil)) rfl (P0 _ rfl) (L _ rfl)) trivial trivial ⟨rfl, rfl⟩ ?_
  refine seq_nil ⟨[(2, _), (3, _), (4, _)], [(2, _), (3, _), (4, _)], ⟨rfl, rfl, rfl, T0⟩, ⟨rfl, rfl, rfl, T0⟩, ?_⟩
  refine ex_seq ?_
  refine exm (sl := [(12, vb (!(canon m ws && canon n vs)))]) (sl0 := [(2, _), (3, _), (4, _)]) (hb := []) (hb0 := [(2, _), (3, _), (4, _)]) ⟨rfl, rfl, rfl, T0⟩ ⟨rfl, rfl, rfl, T0⟩ ?_ ?_
  · by_cases hc : canon m ws = true
    · refine sw (core_loadP Tryd.isAgg24 Tryd.sizeOf24 (by rfl) (by exact (.cons (.cons .nil))) rfl (L _ rfl)) ⟨rfl, T0⟩ ⟨rfl, T0⟩ ?_
      refine sw (core_call (E := E) hG hX Tryd.call17 rfl hN (ris_says m ws (by omega)) (L _ rfl)) ⟨rfl, T0⟩ T0 ?_
      refine sw (core_not (L _ rfl)) ⟨rfl, T0⟩ T0 ?_
      refine sw (core_move (L _ rfl)) ⟨rfl, T0⟩ T0 ?_
      refine swg (g := 8) rfl (by simp [hc]) (core_loadP Tryd.isAgg24 Tryd.sizeOf24 (by rfl) (by exact (.cons (.cons .nil))) rfl (L _ rfl)) rfl ⟨rfl, T0⟩ ⟨rfl, T0⟩ ?_
      refine swg (g := 8) rfl (by simp [hc]) (core_call (E := E) hG hX Tryd.call17 rfl hN (ris_says n vs (by omega)) (L _ rfl)) rfl ⟨rfl, T0⟩ T0 ?_
      refine swg (g := 8) rfl (by simp [hc]) (core_not (L _ rfl)) rfl ⟨rfl, T0⟩ T0 ?_
      refine sw (core_pick_f (by simp [hc]) (L _ rfl)) ⟨rfl, rfl, T0⟩ T0 ?_
      exact seq_nil ⟨⟨ob rfl (by simp [hc]), rfl, rfl, rfl, T0⟩, ⟨rfl, rfl, rfl, T0⟩⟩
    · refine sw (core_loadP Tryd.isAgg24 Tryd.sizeOf24 (by rfl) (by exact (.cons (.cons .nil))) rfl (L _ rfl)) ⟨rfl, T0⟩ ⟨rfl, T0⟩ ?_
      refine sw (core_call (E := E) hG hX Tryd.call17 rfl hN (ris_says m ws (by omega)) (L _ rfl)) ⟨rfl, T0⟩ T0 ?_
      refine sw (core_not (L _ rfl)) ⟨rfl, T0⟩ T0 ?_
      refine sw (core_move (L _ rfl)) ⟨rfl, T0⟩ T0 ?_
      refine swn (g := 8) rfl (by simp [hc]) (L _ rfl) rfl ?_
      refine swn (g := 8) rfl (by simp [hc]) (L _ rfl) rfl ?_
      refine swn (g := 8) rfl (by simp [hc]) (L _ rfl) rfl ?_
      refine sw (core_pick_t (by simp [hc]) (L _ rfl)) ⟨rfl, rfl, T0⟩ T0 ?_
      exact seq_nil ⟨⟨ob rfl (by simp [hc]), rfl, rfl, rfl, T0⟩, ⟨rfl, rfl, rfl, T0⟩⟩
  refine ex_if rfl (fun hc => ?_) (fun hc => ?_)
  · have hc : ¬ (canon m ws = true ∧ canon n vs = true) := by rintro ⟨h1, h2⟩; simp [h1, h2] at hc
    refine exr ?_
    refine sw (core_pc (core_buildP (vs := []) Tryd.underlying24 Tryd.zeroValue24 (.cons rfl (.cons rfl .nil)) ((Places.cons Tryd.sizeOf4 (Places.cons Tryd.sizeOf22 Places.nil))).to rfl .nil (.cons (.cons .nil)) (L _ rfl)) (.agg (.cons .same (.cons .nil .nil)))) T0 T0 ?_
    refine sb (core_storeM Tryd.sizeOf24 (by rfl) (.pagg (.cons (.cons .nil))) rfl (.put (.put .here))) ⟨rfl, rfl, T0⟩ ⟨rfl, T0⟩ ?_
    refine seq_nil ⟨[(4, _)], [(4, _)], ⟨rfl, T0⟩, ⟨rfl, T0⟩, ?_⟩
    refine ex_ret ?_
    refine ⟨.inr rfl, ResVs.cast (.cons (.agg rfl rfl rfl Tryd.isAgg24 Tryd.sizeOf24 (.cons (.cons .nil))) .nil) ?_⟩
    rw [if_neg hc, pZ_zero]; rfl
  · have hc : canon m ws = true ∧ canon n vs = true := by simpa using hc
    have es : sg (m != n) (val ws * val vs) = sg m (val ws) * sg n (val vs) := by cases m <;> cases n <;> simp [sg, Int.mul_neg, Int.neg_mul]
    refine ex_skip (show Exec _ _ _ _ _ from ?_)
    refine exd (by rfl) ?_
    refine sw (core_fieldAddr Tryd.underlying24 rfl Tryd.sizeOf4 (by decide) (by exact rfl) (L _ rfl)) ⟨rfl, T0⟩ ⟨rfl, T0⟩ ?_
    refine sw (core_load1 Tryd.isAgg4 (by rfl) (by rfl) (L _ rfl)) ⟨rfl, T0⟩ ⟨rfl, T0⟩ ?_
    refine sw (core_fieldAddr Tryd.underlying24 rfl Tryd.sizeOf4 (by decide) (by exact rfl) (L _ rfl)) ⟨rfl, T0⟩ ⟨rfl, T0⟩ ?_
    refine sw (core_load1 Tryd.isAgg4 (by rfl) (by rfl) (L _ rfl)) ⟨rfl, T0⟩ ⟨rfl, T0⟩ ?_
    refine sw (core_bne Tryd.underlying4 (L _ rfl)) ⟨rfl, rfl, T0⟩ T0 ?_
    refine sw (core_fieldAddr Tryd.underlying24 rfl Tryd.sizeOf22 (by decide) (by exact rfl) (L _ rfl)) ⟨rfl, T0⟩ ⟨rfl, T0⟩ ?_
    refine sw (core_load1 Tryd.isAgg22 (by rfl) (by rfl) (L _ rfl)) ⟨rfl, T0⟩ ⟨rfl, T0⟩ ?_
    refine sw (core_fieldAddr Tryd.underlying24 rfl Tryd.sizeOf22 (by decide) (by exact rfl) (L _ rfl)) ⟨rfl, T0⟩ ⟨rfl, T0⟩ ?_
    refine sw (core_load1 Tryd.isAgg22 (by rfl) (by rfl) (L _ rfl)) ⟨rfl, T0⟩ ⟨rfl, T0⟩ ?_
    refine sw (core_call (E := E) hG hX Tryd.call72 rfl hN (rmul_says ws vs hl hl2 h h2) (L _ rfl)) ⟨rfl, rfl, T0⟩ T0 ?_
    refine sw (core_call (E := E) hG hX Tryd.call56 rfl hN (rmade_says (m != n) (digs (val ws * val vs).toNat) (by omega) (wd_digs _)) (L _ rfl)) ⟨rfl, rfl, T0⟩ T0 ?_
    refine sb (core_storeM Tryd.sizeOf24 (by rfl) (.pagg (.cons (.cons .nil))) rfl (.put (.put .here))) ⟨rfl, rfl, T0⟩ ⟨rfl, T0⟩ ?_
    refine seq_nil ⟨aoks [⟨[2], [2], [14], []⟩, ⟨[14], [2], [15], []⟩, ⟨[3], [3], [16], []⟩, ⟨[16], [3], [17], []⟩, ⟨[15, 17], [], [18], []⟩, ⟨[2], [2], [19], []⟩, ⟨[19], [2], [20], []⟩, ⟨[3], [3], [21], []⟩, ⟨[21], [3], [22], []⟩, ⟨[20, 22], [], [23], []⟩, ⟨[18, 23], [], [24], []⟩, ⟨[4, 24], [4], [], [4]⟩] (by rfl) (by rfl) (by decide), [(4, _)], [(4, _)], ⟨rfl, T0⟩, ⟨rfl, T0⟩, ?_⟩
    refine ex_ret ?_
    refine ⟨.inr rfl, ResVs.cast (.cons (.agg rfl rfl rfl Tryd.isAgg24 Tryd.sizeOf24 (.cons (.cons .nil))) .nil) ?_⟩
    rw [if_pos hc, val_digs_int hvv, es]

set_option maxRecDepth 100000 in
set_option maxHeartbeats 4000000 in
theorem raddI_says (m n : Bool) (ws vs : List Int) (hl : ws.length < 99999999) (hl2 : vs.length < 99999999) (h : Wd ws) (h2 : Wd vs) : Says E 36 [pI m ws, pI n vs] (pZ (if canon m ws = true ∧ canon n vs = true then sg m (val ws) + sg n (val vs) else 0)) := by
  refine says_of (xs := [pZ (if canon m ws = true ∧ canon n vs = true then sg m (val ws) + sg n (val vs) else 0)]) Tryd.func36 rfl Tryd.ntmps36 Tryd.results36 (by simp) fun F hG hX0 hnt hdf P0 => ?_
  have L := ltn hnt
  have hX : ∀ b, F.X b → E.ng ≤ b := fun b h => absurd h (hX0 b)
  have hN := ng_le hG
  have hv := val_nonneg h
  have hv2 := val_nonneg h2
  have hal := add_len h h2
  refine exr ?_
  refine swb (core_box (k := 2) (n := 2) (.pagg (.cons (.cons .nil))) rfl rfl (P0 _ rfl) (L _ rfl)) ⟨rfl, T0⟩ T0 ⟨rfl, rfl⟩ ?_
  refine swb (core_box (k := 3) (n := 2) (.pagg (.cons (.cons .nil))) rfl rfl (P0 _ rfl) (L _ rfl)) ⟨rfl, T0⟩ T0 ⟨rfl, rfl⟩ ?_
  refine swb (core_alloc (k := 4) (n := 2) Tryd.zeroValue24 (.cons rfl (.cons rfl .nil)) rfl (P0 _ rfl) (L _ rfl)) trivial trivial ⟨rfl, rfl⟩ ?_
  refine seq_nil ⟨[(2, _), (3, _), (4, _)], [(2, _), (3, _), (4, _)], ⟨rfl, rfl, rfl, T0⟩, ⟨rfl, rfl, rfl, T0⟩, ?_⟩
  refine ex_seq ?_
  refine exm (sl := [(16, vb (!(canon m ws && canon n vs)))]) (sl0 := [(2, _), (3, _), (4, _)]) (hb := []) (hb0 := [(2, _), (3, _), (4, _)]) ⟨rfl, rfl, rfl, T0⟩ ⟨rfl, rfl, rfl, T0⟩ ?_ ?_
  · by_cases hc : canon m ws = true
    · refine sw (core_loadP Tryd.isAgg24 Tryd.sizeOf24 (by rfl) (by exact (.cons (.cons .nil))) rfl (L _ rfl)) ⟨rfl, T0⟩ ⟨rfl, T0⟩ ?_
      refine sw (core_call (E := E) hG hX Tryd.call17 rfl hN (ris_says m ws (by omega)) (L _ rfl)) ⟨rfl, T0⟩ T0 ?_
      refine sw (core_not (L _ rfl)) ⟨rfl, T0⟩ T0 ?_
      refine sw (core_move (L _ rfl)) ⟨rfl, T0⟩ T0 ?_
      refine swg (g := 12) rfl (by simp [hc]) (core_loadP Tryd.isAgg24 Tryd.sizeOf24 (by rfl) (by exact (.cons (.cons .nil))) rfl (L _ rfl)) rfl ⟨rfl, T0⟩ ⟨rfl, T0⟩ ?_
      refine swg (g := 12) rfl (by simp [hc]) (core_call (E := E) hG hX Tryd.call17 rfl hN (ris_says n vs (by omega)) (L _ rfl)) rfl ⟨rfl, T0⟩ T0 ?_
      refine swg (g := 12) rfl (by simp [hc]) (core_not (L _ rfl)) rfl ⟨rfl, T0⟩ T0 ?_
      refine sw (core_pick_f (by simp [hc]) (L _ rfl)) ⟨rfl, rfl, T0⟩ T0 ?_
      exact seq_nil ⟨⟨ob rfl (by simp [hc]), rfl, rfl, rfl, T0⟩, ⟨rfl, rfl, rfl, T0⟩⟩
    · refine sw (core_loadP Tryd.isAgg24 Tryd.sizeOf24 (by rfl) (by exact (.cons (.cons .nil))) rfl (L _ rfl)) ⟨rfl, T0⟩ ⟨rfl, T0⟩ ?_
      refine sw (core_call (E := E) hG hX Tryd.call17 rfl hN (ris_says m ws (by omega)) (L _ rfl)) ⟨rfl, T0⟩ T0 ?_
      refine sw (core_not (L _ rfl)) ⟨rfl, T0⟩ T0 ?_
      refine sw (core_move (L _ rfl)) ⟨rfl, T0⟩ T0 ?_
      refine swn (g := 12) rfl (by simp [hc]) (L _ rfl) rfl ?_
      refine swn (g := 12) rfl (by simp [hc]) (L _ rfl) rfl ?_
      refine swn (g := 12) rfl (by simp [hc]) (L _ rfl) rfl ?_
      refine sw (core_pick_t (by simp [hc]) (L _ rfl)) ⟨rfl, rfl, T0⟩ T0 ?_
      exact seq_nil ⟨⟨ob rfl (by simp [hc]), rfl, rfl, rfl, T0⟩, ⟨rfl, rfl, rfl, T0⟩⟩
  refine ex_if rfl (fun hc => ?_) (fun hc => ?_)
  · have hc : ¬ (canon m ws = true ∧ canon n vs = true) := by rintro ⟨h1, h2⟩; simp [h1, h2] at hc
    refine exr ?_
    refine sw (core_pc (core_buildP (vs := []) Tryd.underlying24 Tryd.zeroValue24 (.cons rfl (.cons rfl .nil)) ((Places.cons Tryd.sizeOf4 (Places.cons Tryd.sizeOf22 Places.nil))).to rfl .nil (.cons (.cons .nil)) (L _ rfl)) (.agg (.cons .same (.cons .nil .nil)))) T0 T0 ?_
    refine sb (core_storeM Tryd.sizeOf24 (by rfl) (.pagg (.cons (.cons .nil))) rfl (.put (.put .here))) ⟨rfl, rfl, T0⟩ ⟨rfl, T0⟩ ?_
    refine seq_nil ⟨[(4, _)], [(4, _)], ⟨rfl, T0⟩, ⟨rfl, T0⟩, ?_⟩
    refine ex_ret ?_
    refine ⟨.inr rfl, ResVs.cast (.cons (.agg rfl rfl rfl Tryd.isAgg24 Tryd.sizeOf24 (.cons (.cons .nil))) .nil) ?_⟩
    rw [if_neg hc, pZ_zero]; rfl
  · have hc : canon m ws = true ∧ canon n vs = true := by simpa using hc
    have ht := (canon_tr hc.1).1
    have ht2 := (canon_tr hc.2).1
    rw [if_pos hc]
    refine ex_skip (show Exec _ _ _ _ _ from ?_)
    refine exr ?_
    refine sw (core_loadP Tryd.isAgg24 Tryd.sizeOf24 (by rfl) (by exact (.cons (.cons .nil))) rfl (L _ rfl)) ⟨rfl, T0⟩ ⟨rfl, T0⟩ ?_
    refine sw (core_call (E := E) hG hX Tryd.call65 rfl hN (rnative_says m ws (by omega) h ht) (L _ rfl)) ⟨rfl, T0⟩ T0 ?_
    refine sw (core_move (L _ rfl)) ⟨rfl, T0⟩ T0 ?_
    refine sw (core_extract rfl (L _ rfl)) ⟨rfl, T0⟩ T0 ?_
    refine sw (core_extract rfl (L _ rfl)) ⟨rfl, T0⟩ T0 ?_
    refine sw (core_assign (L _ rfl)) ⟨rfl, T0⟩ T0 ?_
    refine sw (core_assign (L _ rfl)) ⟨rfl, T0⟩ T0 ?_
    refine seq_nil ⟨[(2, _), (3, _), (4, _), (5, _), (6, _)], [(2, _), (3, _), (4, _)], ⟨rfl, rfl, rfl, rfl, rfl, T0⟩, ⟨rfl, rfl, rfl, T0⟩, ?_⟩
    refine exr ?_
    refine sw (core_loadP Tryd.isAgg24 Tryd.sizeOf24 (by rfl) (by exact (.cons (.cons .nil))) rfl (L _ rfl)) ⟨rfl, T0⟩ ⟨rfl, T0⟩ ?_
    refine sw (core_call (E := E) hG hX Tryd.call65 rfl hN (rnative_says n vs (by omega) h2 ht2) (L _ rfl)) ⟨rfl, T0⟩ T0 ?_
    refine sw (core_move (L _ rfl)) ⟨rfl, T0⟩ T0 ?_
    refine sw (core_extract rfl (L _ rfl)) ⟨rfl, T0⟩ T0 ?_
    refine sw (core_extract rfl (L _ rfl)) ⟨rfl, T0⟩ T0 ?_
    refine sw (core_assign (L _ rfl)) ⟨rfl, T0⟩ T0 ?_
    refine sw (core_assign (L _ rfl)) ⟨rfl, T0⟩ T0 ?_
    refine seq_nil ⟨[(2, _), (3, _), (4, _), (5, _), (6, _), (7, _), (8, _)], [(2, _), (3, _), (4, _)], ⟨rfl, rfl, rfl, rfl, rfl, rfl, rfl, T0⟩, ⟨rfl, rfl, rfl, T0⟩, ?_⟩
    refine ex_seq ?_
    refine exm (sl := [(31, vb (decide (val ws < 4611686018427387904 ∧ val vs < 4611686018427387904)))]) (sl0 := [(2, _), (3, _), (4, _), (5, _), (7, _)]) (hb := []) (hb0 := [(2, _), (3, _), (4, _)]) ⟨rfl, rfl, rfl, rfl, rfl, T0⟩ ⟨rfl, rfl, rfl, T0⟩ ?_ ?_
    · by_cases hd : val ws < 4611686018427387904
      · refine sw (core_move (L _ rfl)) ⟨rfl, T0⟩ T0 ?_
        refine sw (core_move (L _ rfl)) ⟨rfl, T0⟩ T0 ?_
        refine swg (g := 29) rfl (decide_eq_true hd) (core_move (L _ rfl)) rfl ⟨rfl, T0⟩ T0 ?_
        refine sw (core_pick_t (decide_eq_true hd) (L _ rfl)) ⟨rfl, rfl, T0⟩ T0 ?_
        exact seq_nil ⟨⟨ob rfl (dec_eq (by omega)), rfl, rfl, rfl, rfl, rfl, T0⟩, ⟨rfl, rfl, rfl, T0⟩⟩
      · refine sw (core_move (L _ rfl)) ⟨rfl, T0⟩ T0 ?_
        refine sw (core_move (L _ rfl)) ⟨rfl, T0⟩ T0 ?_
        refine swn (g := 29) rfl (decide_eq_false hd) (L _ rfl) rfl ?_
        refine sw (core_pick_f (decide_eq_false hd) (L _ rfl)) ⟨rfl, rfl, T0⟩ T0 ?_
        exact seq_nil ⟨⟨ob rfl (by simp [hd]), rfl, rfl, rfl, rfl, rfl, T0⟩, ⟨rfl, rfl, rfl, T0⟩⟩
    refine ex_if rfl (fun hd => ?_) (fun hd => ?_)
    · have hd := dt hd
      rw [if_pos hd.1, if_pos hd.2]
      have b1 := sg_bd m hv hd.1
      have b2 := sg_bd n hv2 hd.2
      refine exr ?_
      refine sw (core_move (L _ rfl)) ⟨rfl, T0⟩ T0 ?_
      refine sw (core_move (L _ rfl)) ⟨rfl, T0⟩ T0 ?_
      refine sw (core_add (L _ rfl) (w64 (by omega) (by omega))) ⟨rfl, rfl, T0⟩ T0 ?_
      refine sw (core_call (E := E) hG hX Tryd.call20 rfl hN (rof_says (sg m (val ws) + sg n (val vs)) (by omega) (by omega)) (L _ rfl)) ⟨rfl, T0⟩ T0 ?_
      refine sb (core_storeM Tryd.sizeOf24 (by rfl) (.pagg (.cons (.cons .nil))) rfl (.put (.put .here))) ⟨rfl, rfl, T0⟩ ⟨rfl, T0⟩ ?_
      refine seq_nil ⟨[(4, _)], [(4, _)], ⟨rfl, T0⟩, ⟨rfl, T0⟩, ?_⟩
      refine ex_ret ?_
      refine ⟨.inr rfl, ResVs.cast (.cons (.agg rfl rfl rfl Tryd.isAgg24 Tryd.sizeOf24 (.cons (.cons .nil))) .nil) ?_⟩
      rfl
    · refine ex_skip (show Exec _ _ _ _ _ from ?_)
      refine ex_seq ?_
      refine exr ?_
      refine sw (core_fieldAddr Tryd.underlying24 rfl Tryd.sizeOf4 (by decide) (by exact rfl) (L _ rfl)) ⟨rfl, T0⟩ ⟨rfl, T0⟩ ?_
      refine sw (core_load1 Tryd.isAgg4 (by rfl) (by rfl) (L _ rfl)) ⟨rfl, T0⟩ ⟨rfl, T0⟩ ?_
      refine sw (core_fieldAddr Tryd.underlying24 rfl Tryd.sizeOf4 (by decide) (by exact rfl) (L _ rfl)) ⟨rfl, T0⟩ ⟨rfl, T0⟩ ?_
      refine sw (core_load1 Tryd.isAgg4 (by rfl) (by rfl) (L _ rfl)) ⟨rfl, T0⟩ ⟨rfl, T0⟩ ?_
      refine sw (core_beq Tryd.underlying4 (L _ rfl)) ⟨rfl, rfl, T0⟩ T0 ?_
      refine seq_nil ⟨[(2, _), (3, _), (4, _), (40, _)], [(2, _), (3, _), (4, _)], ⟨rfl, rfl, rfl, rfl, T0⟩, ⟨rfl, rfl, rfl, T0⟩, ?_⟩
      refine ex_if rfl (fun hs => ?_) (fun hs => ?_)
      · have hs : m = n := by simpa using hs
        subst hs
        refine exd (by rfl) ?_
        refine sw (core_fieldAddr Tryd.underlying24 rfl Tryd.sizeOf4 (by decide) (by exact rfl) (L _ rfl)) ⟨rfl, T0⟩ ⟨rfl, T0⟩ ?_
        refine sw (core_load1 Tryd.isAgg4 (by rfl) (by rfl) (L _ rfl)) ⟨rfl, T0⟩ ⟨rfl, T0⟩ ?_
        refine sw (core_fieldAddr Tryd.underlying24 rfl Tryd.sizeOf22 (by decide) (by exact rfl) (L _ rfl)) ⟨rfl, T0⟩ ⟨rfl, T0⟩ ?_
        refine sw (core_load1 Tryd.isAgg22 (by rfl) (by rfl) (L _ rfl)) ⟨rfl, T0⟩ ⟨rfl, T0⟩ ?_
        refine sw (core_fieldAddr Tryd.underlying24 rfl Tryd.sizeOf22 (by decide) (by exact rfl) (L _ rfl)) ⟨rfl, T0⟩ ⟨rfl, T0⟩ ?_
        refine sw (core_load1 Tryd.isAgg22 (by rfl) (by rfl) (L _ rfl)) ⟨rfl, T0⟩ ⟨rfl, T0⟩ ?_
        refine sw (core_call (E := E) hG hX Tryd.call67 rfl hN (radd_says ws vs (by omega) (by omega) h h2) (L _ rfl)) ⟨rfl, rfl, T0⟩ T0 ?_
        refine sw (core_call (E := E) hG hX Tryd.call56 rfl hN (rmade_says m (digs (val ws + val vs).toNat) (by omega) (wd_digs _)) (L _ rfl)) ⟨rfl, rfl, T0⟩ T0 ?_
        refine sb (core_storeM Tryd.sizeOf24 (by rfl) (.pagg (.cons (.cons .nil))) rfl (.put (.put .here))) ⟨rfl, rfl, T0⟩ ⟨rfl, T0⟩ ?_
        refine seq_nil ⟨aoks [⟨[2], [2], [41], []⟩, ⟨[41], [2], [42], []⟩, ⟨[2], [2], [43], []⟩, ⟨[43], [2], [44], []⟩, ⟨[3], [3], [45], []⟩, ⟨[45], [3], [46], []⟩, ⟨[44, 46], [], [47], []⟩, ⟨[42, 47], [], [48], []⟩, ⟨[4, 48], [4], [], [4]⟩] (by rfl) (by rfl) (by decide), [(4, _)], [(4, _)], ⟨rfl, T0⟩, ⟨rfl, T0⟩, ?_⟩
        refine ex_ret ?_
        refine ⟨.inr rfl, ResVs.cast (.cons (.agg rfl rfl rfl Tryd.isAgg24 Tryd.sizeOf24 (.cons (.cons .nil))) .nil) ?_⟩
        rw [val_digs_int (by omega), sg_add]
      · have hs : m ≠ n := by simpa using hs
        refine ex_skip (show Exec _ _ _ _ _ from ?_)
        refine ex_seq ?_
        refine exr ?_
        refine sw (core_fieldAddr Tryd.underlying24 rfl Tryd.sizeOf22 (by decide) (by exact rfl) (L _ rfl)) ⟨rfl, T0⟩ ⟨rfl, T0⟩ ?_
        refine sw (core_load1 Tryd.isAgg22 (by rfl) (by rfl) (L _ rfl)) ⟨rfl, T0⟩ ⟨rfl, T0⟩ ?_
        refine sw (core_fieldAddr Tryd.underlying24 rfl Tryd.sizeOf22 (by decide) (by exact rfl) (L _ rfl)) ⟨rfl, T0⟩ ⟨rfl, T0⟩ ?_
        refine sw (core_load1 Tryd.isAgg22 (by rfl) (by rfl) (L _ rfl)) ⟨rfl, T0⟩ ⟨rfl, T0⟩ ?_
        refine sw (core_call (E := E) hG hX Tryd.call61 rfl hN (rcmp_says ws vs (by omega) (by omega) h h2 ht ht2) (L _ rfl)) ⟨rfl, rfl, T0⟩ T0 ?_
        refine sw (core_geq (L _ rfl)) ⟨rfl, rfl, T0⟩ T0 ?_
        refine seq_nil ⟨[(2, _), (3, _), (4, _), (54, _)], [(2, _), (3, _), (4, _)], ⟨rfl, rfl, rfl, rfl, T0⟩, ⟨rfl, rfl, rfl, T0⟩, ?_⟩
        refine ex_if rfl (fun he => ?_) (fun he => ?_)
        · have he := cmpI_ge (dt he)
          have hsl := sub_len h h2 he
          refine exd (by rfl) ?_
          refine sw (core_fieldAddr Tryd.underlying24 rfl Tryd.sizeOf4 (by decide) (by exact rfl) (L _ rfl)) ⟨rfl, T0⟩ ⟨rfl, T0⟩ ?_
          refine sw (core_load1 Tryd.isAgg4 (by rfl) (by rfl) (L _ rfl)) ⟨rfl, T0⟩ ⟨rfl, T0⟩ ?_
          refine sw (core_fieldAddr Tryd.underlying24 rfl Tryd.sizeOf22 (by decide) (by exact rfl) (L _ rfl)) ⟨rfl, T0⟩ ⟨rfl, T0⟩ ?_
          refine sw (core_load1 Tryd.isAgg22 (by rfl) (by rfl) (L _ rfl)) ⟨rfl, T0⟩ ⟨rfl, T0⟩ ?_
          refine sw (core_fieldAddr Tryd.underlying24 rfl Tryd.sizeOf22 (by decide) (by exact rfl) (L _ rfl)) ⟨rfl, T0⟩ ⟨rfl, T0⟩ ?_
          refine sw (core_load1 Tryd.isAgg22 (by rfl) (by rfl) (L _ rfl)) ⟨rfl, T0⟩ ⟨rfl, T0⟩ ?_
          refine sw (core_call (E := E) hG hX Tryd.call68 rfl hN (rsub_says ws vs (by omega) (len_le h h2 ht2 he) h h2 he) (L _ rfl)) ⟨rfl, rfl, T0⟩ T0 ?_
          refine sw (core_call (E := E) hG hX Tryd.call56 rfl hN (rmade_says m (digs (val ws - val vs).toNat) (by omega) (wd_digs _)) (L _ rfl)) ⟨rfl, rfl, T0⟩ T0 ?_
          refine sb (core_storeM Tryd.sizeOf24 (by rfl) (.pagg (.cons (.cons .nil))) rfl (.put (.put .here))) ⟨rfl, rfl, T0⟩ ⟨rfl, T0⟩ ?_
          refine seq_nil ⟨aoks [⟨[2], [2], [55], []⟩, ⟨[55], [2], [56], []⟩, ⟨[2], [2], [57], []⟩, ⟨[57], [2], [58], []⟩, ⟨[3], [3], [59], []⟩, ⟨[59], [3], [60], []⟩, ⟨[58, 60], [], [61], []⟩, ⟨[56, 61], [], [62], []⟩, ⟨[4, 62], [4], [], [4]⟩] (by rfl) (by rfl) (by decide), [(4, _)], [(4, _)], ⟨rfl, T0⟩, ⟨rfl, T0⟩, ?_⟩
          refine ex_ret ?_
          refine ⟨.inr rfl, ResVs.cast (.cons (.agg rfl rfl rfl Tryd.isAgg24 Tryd.sizeOf24 (.cons (.cons .nil))) .nil) ?_⟩
          rw [val_digs_int (by omega), sg_sub hs]
        · have he := cmpI_lt (df he)
          have hsl := sub_len h2 h (by omega)
          refine ex_skip (show Exec _ _ _ _ _ from ?_)
          refine exd (by rfl) ?_
          refine sw (core_fieldAddr Tryd.underlying24 rfl Tryd.sizeOf4 (by decide) (by exact rfl) (L _ rfl)) ⟨rfl, T0⟩ ⟨rfl, T0⟩ ?_
          refine sw (core_load1 Tryd.isAgg4 (by rfl) (by rfl) (L _ rfl)) ⟨rfl, T0⟩ ⟨rfl, T0⟩ ?_
          refine sw (core_fieldAddr Tryd.underlying24 rfl Tryd.sizeOf22 (by decide) (by exact rfl) (L _ rfl)) ⟨rfl, T0⟩ ⟨rfl, T0⟩ ?_
          refine sw (core_load1 Tryd.isAgg22 (by rfl) (by rfl) (L _ rfl)) ⟨rfl, T0⟩ ⟨rfl, T0⟩ ?_
          refine sw (core_fieldAddr Tryd.underlying24 rfl Tryd.sizeOf22 (by decide) (by exact rfl) (L _ rfl)) ⟨rfl, T0⟩ ⟨rfl, T0⟩ ?_
          refine sw (core_load1 Tryd.isAgg22 (by rfl) (by rfl) (L _ rfl)) ⟨rfl, T0⟩ ⟨rfl, T0⟩ ?_
          refine sw (core_call (E := E) hG hX Tryd.call68 rfl hN (rsub_says vs ws (by omega) (len_le h2 h ht (by omega)) h2 h (by omega)) (L _ rfl)) ⟨rfl, rfl, T0⟩ T0 ?_
          refine sw (core_call (E := E) hG hX Tryd.call56 rfl hN (rmade_says n (digs (val vs - val ws).toNat) (by omega) (wd_digs _)) (L _ rfl)) ⟨rfl, rfl, T0⟩ T0 ?_
          refine sb (core_storeM Tryd.sizeOf24 (by rfl) (.pagg (.cons (.cons .nil))) rfl (.put (.put .here))) ⟨rfl, rfl, T0⟩ ⟨rfl, T0⟩ ?_
          refine seq_nil ⟨aoks [⟨[3], [3], [63], []⟩, ⟨[63], [3], [64], []⟩, ⟨[3], [3], [65], []⟩, ⟨[65], [3], [66], []⟩, ⟨[2], [2], [67], []⟩, ⟨[67], [2], [68], []⟩, ⟨[66, 68], [], [69], []⟩, ⟨[64, 69], [], [70], []⟩, ⟨[4, 70], [4], [], [4]⟩] (by rfl) (by rfl) (by decide), [(4, _)], [(4, _)], ⟨rfl, T0⟩, ⟨rfl, T0⟩, ?_⟩
          refine ex_ret ?_
          refine ⟨.inr rfl, ResVs.cast (.cons (.agg rfl rfl rfl Tryd.isAgg24 Tryd.sizeOf24 (.cons (.cons .nil))) .nil) ?_⟩
          rw [val_digs_int (by omega), sg_sub hs.symm, Int.add_comm]

set_option maxRecDepth 100000 in
set_option maxHeartbeats 4000000 in
theorem rsubI_says (m n : Bool) (ws vs : List Int) (hl : ws.length < 99999999) (hl2 : vs.length < 99999999) (h : Wd ws) (h2 : Wd vs) : Says E 38 [pI m ws, pI n vs] (pZ (if canon m ws = true ∧ canon n vs = true then sg m (val ws) - sg n (val vs) else 0)) := by
  refine says_of (xs := [pZ (if canon m ws = true ∧ canon n vs = true then sg m (val ws) - sg n (val vs) else 0)]) Tryd.func38 rfl Tryd.ntmps38 Tryd.results38 (by simp) fun F hG hX0 hnt hdf P0 => ?_
  have L := ltn hnt
  have hX : ∀ b, F.X b → E.ng ≤ b := fun b h => absurd h (hX0 b)
  have hN := ng_le hG
  refine exr ?_
  refine swb (core_box (k := 2) (n := 2) (.pagg (.cons (.cons .nil))) rfl rfl (P0 _ rfl) (L _ rfl)) ⟨rfl, T0⟩ T0 ⟨rfl, rfl⟩ ?_
  refine swb (core_box (k := 3) (n := 2) (.pagg (.cons (.cons .nil))) rfl rfl (P0 _ rfl) (L _ rfl)) ⟨rfl, T0⟩ T0 ⟨rfl, rfl⟩ ?_
  refine swb (core_alloc (k := 4) (n := 2) Tryd.zeroValue24 (.cons rfl (.cons rfl .nil)) rfl (P0 _ rfl) (L _ rfl)) trivial trivial ⟨rfl, rfl⟩ ?_
  refine seq_nil ⟨[(2, _), (3, _), (4, _)], [(2, _), (3, _), (4, _)], ⟨rfl, rfl, rfl, T0⟩, ⟨rfl, rfl, rfl, T0⟩, ?_⟩
  refine ex_seq ?_
  refine exm (sl := [(12, vb (!(canon m ws && canon n vs)))]) (sl0 := [(2, _), (3, _), (4, _)]) (hb := []) (hb0 := [(2, _), (3, _), (4, _)]) ⟨rfl, rfl, rfl, T0⟩ ⟨rfl, rfl, rfl, T0⟩ ?_ ?_
  · by_cases hc : canon m ws = true
    · refine sw (core_loadP Tryd.isAgg24 Tryd.sizeOf24 (by rfl) (by exact (.cons (.cons .nil))) rfl (L _ rfl)) ⟨rfl, T0⟩ ⟨rfl, T0⟩ ?_
      refine sw (core_call (E := E) hG hX Tryd.call17 rfl hN (ris_says m ws (by omega)) (L _ rfl)) ⟨rfl, T0⟩ T0 ?_
      refine sw (core_not (L _ rfl)) ⟨rfl, T0⟩ T0 ?_
      refine sw (core_move (L _ rfl)) ⟨rfl, T0⟩ T0 ?_
      refine swg (g := 8) rfl (by simp [hc]) (core_loadP Tryd.isAgg24 Tryd.sizeOf24 (by rfl) (by exact (.cons (.cons .nil))) rfl (L _ rfl)) rfl ⟨rfl, T0⟩ ⟨rfl, T0⟩ ?_
      refine swg (g := 8) rfl (by simp [hc]) (core_call (E := E) hG hX Tryd.call17 rfl hN (ris_says n vs (by omega)) (L _ rfl)) rfl ⟨rfl, T0⟩ T0 ?_
      refine swg (g := 8) rfl (by simp [hc]) (core_not (L _ rfl)) rfl ⟨rfl, T0⟩ T0 ?_
      refine sw (core_pick_f (by simp [hc]) (L _ rfl)) ⟨rfl, rfl, T0⟩ T0 ?_
      exact seq_nil ⟨⟨ob rfl (by simp [hc]), rfl, rfl, rfl, T0⟩, ⟨rfl, rfl, rfl, T0⟩⟩
    · refine sw (core_loadP Tryd.isAgg24 Tryd.sizeOf24 (by rfl) (by exact (.cons (.cons .nil))) rfl (L _ rfl)) ⟨rfl, T0⟩ ⟨rfl, T0⟩ ?_
      refine sw (core_call (E := E) hG hX Tryd.call17 rfl hN (ris_says m ws (by omega)) (L _ rfl)) ⟨rfl, T0⟩ T0 ?_
      refine sw (core_not (L _ rfl)) ⟨rfl, T0⟩ T0 ?_
      refine sw (core_move (L _ rfl)) ⟨rfl, T0⟩ T0 ?_
      refine swn (g := 8) rfl (by simp [hc]) (L _ rfl) rfl ?_
      refine swn (g := 8) rfl (by simp [hc]) (L _ rfl) rfl ?_
      refine swn (g := 8) rfl (by simp [hc]) (L _ rfl) rfl ?_
      refine sw (core_pick_t (by simp [hc]) (L _ rfl)) ⟨rfl, rfl, T0⟩ T0 ?_
      exact seq_nil ⟨⟨ob rfl (by simp [hc]), rfl, rfl, rfl, T0⟩, ⟨rfl, rfl, rfl, T0⟩⟩
  refine ex_if rfl (fun hc => ?_) (fun hc => ?_)
  · have hc : ¬ (canon m ws = true ∧ canon n vs = true) := by rintro ⟨h1, h2⟩; simp [h1, h2] at hc
    refine exr ?_
    refine sw (core_pc (core_buildP (vs := []) Tryd.underlying24 Tryd.zeroValue24 (.cons rfl (.cons rfl .nil)) ((Places.cons Tryd.sizeOf4 (Places.cons Tryd.sizeOf22 Places.nil))).to rfl .nil (.cons (.cons .nil)) (L _ rfl)) (.agg (.cons .same (.cons .nil .nil)))) T0 T0 ?_
    refine sb (core_storeM Tryd.sizeOf24 (by rfl) (.pagg (.cons (.cons .nil))) rfl (.put (.put .here))) ⟨rfl, rfl, T0⟩ ⟨rfl, T0⟩ ?_
    refine seq_nil ⟨[(4, _)], [(4, _)], ⟨rfl, T0⟩, ⟨rfl, T0⟩, ?_⟩
    refine ex_ret ?_
    refine ⟨.inr rfl, ResVs.cast (.cons (.agg rfl rfl rfl Tryd.isAgg24 Tryd.sizeOf24 (.cons (.cons .nil))) .nil) ?_⟩
    rw [if_neg hc, pZ_zero]; rfl
  · have hc : canon m ws = true ∧ canon n vs = true := by simpa using hc
    have hq : (-(sg n (val vs))).natAbs = (val vs).toNat := by have := val_nonneg h2; cases n <;> simp [sg] <;> omega
    have hql : (digs (-(sg n (val vs))).natAbs).length = vs.length := by rw [hq, digs_val h2 (canon_tr hc.2).1]
    refine ex_skip (show Exec _ _ _ _ _ from ?_)
    refine exd (by rfl) ?_
    refine sw (core_loadP Tryd.isAgg24 Tryd.sizeOf24 (by rfl) (by exact (.cons (.cons .nil))) rfl (L _ rfl)) ⟨rfl, T0⟩ ⟨rfl, T0⟩ ?_
    refine sw (core_loadP Tryd.isAgg24 Tryd.sizeOf24 (by rfl) (by exact (.cons (.cons .nil))) rfl (L _ rfl)) ⟨rfl, T0⟩ ⟨rfl, T0⟩ ?_
    refine sw (core_call (E := E) hG hX Tryd.call28 rfl hN (rneg_says n vs (by omega) h2) (L _ rfl)) ⟨rfl, T0⟩ T0 ?_
    refine sw (core_call (E := E) hG hX Tryd.call36 rfl hN (raddI_says m (decide ((if canon n vs = true then -(sg n (val vs)) else 0) < 0)) ws (digs (if canon n vs = true then -(sg n (val vs)) else 0).natAbs) hl (by rw [if_pos hc.2, hql]; omega) h (wd_digs _)) (L _ rfl)) ⟨rfl, rfl, T0⟩ T0 ?_
    refine sb (core_storeM Tryd.sizeOf24 (by rfl) (.pagg (.cons (.cons .nil))) rfl (.put (.put .here))) ⟨rfl, rfl, T0⟩ ⟨rfl, T0⟩ ?_
    refine seq_nil ⟨aoks [⟨[2], [2], [14], []⟩, ⟨[3], [3], [15], []⟩, ⟨[15], [], [16], []⟩, ⟨[14, 16], [], [17], []⟩, ⟨[4, 17], [4], [], [4]⟩] (by rfl) (by rfl) (by decide), [(4, _)], [(4, _)], ⟨rfl, T0⟩, ⟨rfl, T0⟩, ?_⟩
    refine ex_ret ?_
    refine ⟨.inr rfl, ResVs.cast (.cons (.agg rfl rfl rfl Tryd.isAgg24 Tryd.sizeOf24 (.cons (.cons .nil))) .nil) ?_⟩
    rw [if_pos hc, if_pos ⟨hc.1, canon_digs _⟩, sg_digs, if_pos hc.2, Int.sub_eq_add_neg]

end Go.Proofs.YtebkelnibecmjaaDoor.N
namespace Go.Proofs.YtebkelnibecmjaaDoor.N
open Go Go.Proofs.YtebkelnibecmjaaDoor.SH Go.Proofs.YtebkelnibecmjaaDoor.NumA
set_option maxRecDepth 100000 in
set_option maxHeartbeats 4000000 in
theorem short_says (ws : List Int) (d : Int) (hl : ws.length < 1000000000) (h : Wd ws) (hd : 0 < d ∧ d < 4294967296) : SaysX E 77 [.ref 1000 0 ws.length ws.length, .p (oZ d)] [(1000, ⟨53, 1, .pure (encW ws)⟩)] [(1000, ⟨53, 1, .pure (encW (digN ws.length (val ws / d)))⟩)] (oZ (val ws % d)) := by
  refine saysX_of (xs := [oZ (val ws % d)]) Tryd.func77 rfl Tryd.ntmps77 Tryd.results77 (by simp) rfl (sub_of rfl) fun F hG hX hnt hdf P0 hXp => ?_
  have L := ltn hnt
  have hN := ng_le hG
  refine exr ?_
  refine sw (core_assign (L _ rfl)) ⟨rfl, T0⟩ T0 ?_
  refine seq_nil ⟨[(0, _), (1, _)], [(1000, _)], ⟨rfl, rfl, T0⟩, ⟨rfl, T0⟩, ?_⟩
  refine exr ?_
  refine sw (core_assign (L _ rfl)) ⟨rfl, T0⟩ T0 ?_
  refine seq_nil ⟨[(0, _), (1, _), (5, _)], [(1000, _)], ⟨rfl, rfl, rfl, T0⟩, ⟨rfl, T0⟩, ?_⟩
  refine ex_seq ?_
  refine exr ?_
  refine sw (core_move (L _ rfl)) ⟨rfl, T0⟩ T0 ?_
  refine sw (core_lenR Tryd.underlying22 (by exact (by simp)) (L _ rfl)) ⟨rfl, T0⟩ ⟨rfl, T0⟩ ?_
  refine sw (core_sub (L _ rfl) (w64 (by omega) (by omega))) ⟨rfl, rfl, T0⟩ T0 ?_
  refine sw (core_assign (L _ rfl)) ⟨rfl, T0⟩ T0 ?_
  refine seq_nil ⟨[(0, _), (1, _), (5, _), (6, _)], [(1000, _)], ⟨rfl, rfl, rfl, rfl, T0⟩, ⟨rfl, T0⟩, ?_⟩
  refine ex_block ?_
  refine exl (α := (Nat × List Int × Int)) (fun x => [(6, vi ((x.1:Int) - 1)), (5, vw x.2.2)]) (fun x => [(1000, ⟨53, 1, .pure (encW (ws.take x.1 ++ x.2.1))⟩)]) (fun x => ShortAt ws d x) (fun x => x.1) ((ws.length, ([] : List Int), (0 : Int))) (sl := [(0, _), (1, _)]) (hb := []) ?_ ⟨(by first | exact rfl | exact oi (by omega) rfl), (by first | exact rfl | exact oi (by omega) rfl), rfl, rfl, T0⟩ ⟨obl rfl (by simp), T0⟩ ?_
  · exact ShortAt.start ws d
  intro x hx
  obtain ⟨n, qs, r⟩ := x
  have hle := hx.le
  have hq : qs.length = ws.length - n := by have := hx.q; simp only at this; rw [this, digN_length]
  have hr : 0 ≤ r ∧ r < d := by have := hx.r; simp only at this; rw [this]; exact ⟨Int.emod_nonneg _ (by omega), Int.emod_lt_of_pos _ hd.1⟩
  simp only at hle
  dsimp only
  refine ex_seq ?_
  refine exr ?_
  refine sw (core_move (L _ rfl)) ⟨rfl, T0⟩ T0 ?_
  refine sw (core_geq (L _ rfl)) ⟨rfl, rfl, T0⟩ T0 ?_
  refine seq_nil ⟨[(0, _), (1, _), (5, _), (6, _), (11, _)], [(1000, _)], ⟨rfl, rfl, rfl, rfl, rfl, T0⟩, ⟨rfl, T0⟩, ?_⟩
  refine ex_if rfl (fun he => ?_) (fun he => ?_)
  · have he := dt he
    obtain ⟨key, k1, k2⟩ := hx.next h hd.1 (by omega)
    have hw := h.getD (n - 1)
    have hg : (ws.take n ++ qs).getD (n - 1) 0 = ws.getD (n - 1) 0 := getD_head (by omega) (by omega)
    refine ex_skip (show Exec _ _ _ _ _ from ?_)
    refine ex_seq ?_
    refine ex_block ?_
    refine exr ?_
    refine sw (core_move (L _ rfl)) ⟨rfl, T0⟩ T0 ?_
    refine sw (core_shl (L _ rfl) (by decide) (shlE (c := 4294967296) (by rfl) (fu64 (by omega) (by omega)))) ⟨rfl, rfl, T0⟩ T0 ?_
    refine sw (core_move (L _ rfl)) ⟨rfl, T0⟩ T0 ?_
    refine sw (core_move (L _ rfl)) ⟨rfl, T0⟩ T0 ?_
    refine sw (ixR0 Tryd.underlying22 Tryd.sizeOf53 (by exact (by simp; omega)) (j := n - 1) (by first | exact rfl | omega) (by omega) (L _ rfl)) ⟨rfl, rfl, T0⟩ ⟨rfl, T0⟩ ?_
    refine sw (core_load1 Tryd.isAgg53 (by exact (by simp; omega)) (getC (getW (ws := ws.take n ++ qs) (i := n - 1) (by simp; omega))) (L _ rfl)) ⟨rfl, T0⟩ ⟨rfl, T0⟩ ?_
    refine sw (core_conv Tryd.underlying53 Tryd.underlying52 (L _ rfl) (show _ = ws.getD (n - 1) 0 by rw [hg]; exact w64u (by omega) (by omega))) ⟨rfl, T0⟩ T0 ?_
    refine sw (core_or (L _ rfl) (or64' (b := r) 32 rfl hw.1 hw.2 hr.1 (by decide) (by omega) (by omega))) ⟨rfl, rfl, T0⟩ T0 ?_
    refine sw (core_assign (L _ rfl)) ⟨rfl, T0⟩ T0 ?_
    refine seq_nil ⟨[(0, _), (1, _), (5, vw (r * 4294967296 + ws.getD (n - 1) 0)), (6, _)], [(1000, _)], ⟨rfl, rfl, oi (by omega) rfl, rfl, T0⟩, ⟨rfl, T0⟩, ?_⟩
    refine exr ?_
    refine sw (core_move (L _ rfl)) ⟨rfl, T0⟩ T0 ?_
    refine sw (core_move (L _ rfl)) ⟨rfl, T0⟩ T0 ?_
    refine sw (core_move (L _ rfl)) ⟨rfl, T0⟩ T0 ?_
    refine sw (core_move (L _ rfl)) ⟨rfl, T0⟩ T0 ?_
    refine sw (core_conv Tryd.underlying53 Tryd.underlying52 (L _ rfl) (fu64 (by omega) (by omega))) ⟨rfl, T0⟩ T0 ?_
    refine sw (core_quo (L _ rfl) (by omega) (tdivE (by omega) (by omega))) ⟨rfl, rfl, T0⟩ T0 ?_
    refine sw (core_conv Tryd.underlying52 Tryd.underlying53 (L _ rfl) (fu32 (by omega) (by omega))) ⟨rfl, T0⟩ T0 ?_
    refine sw (ixR0 Tryd.underlying22 Tryd.sizeOf53 (by exact (by simp; omega)) (j := n - 1) (by first | exact rfl | omega) (by omega) (L _ rfl)) ⟨rfl, rfl, T0⟩ ⟨rfl, T0⟩ ?_
    refine sb (core_store1 Tryd.sizeOf53 (by exact (by simp; omega)) (.atom rfl) (by omega)) ⟨rfl, rfl, T0⟩ ⟨rfl, T0⟩ ?_
    refine seq_nil ⟨[(0, _), (1, _), (5, _), (6, _)], [(1000, _)], ⟨rfl, rfl, rfl, rfl, T0⟩, ⟨rfl, T0⟩, ?_⟩
    refine exr0 ?_
    refine sw (core_move (L _ rfl)) ⟨rfl, T0⟩ T0 ?_
    refine sw (core_move (L _ rfl)) ⟨rfl, T0⟩ T0 ?_
    refine sw (core_conv Tryd.underlying53 Tryd.underlying52 (L _ rfl) (fu64 (by omega) (by omega))) ⟨rfl, T0⟩ T0 ?_
    refine sw (core_rem (L _ rfl) (by omega) (tmodE (by omega) (by omega))) ⟨rfl, rfl, T0⟩ T0 ?_
    refine sw (core_assign (L _ rfl)) ⟨rfl, T0⟩ T0 ?_
    refine seq_nil ?_
    refine exr0 ?_
    refine sw (core_move (L _ rfl)) ⟨rfl, T0⟩ T0 ?_
    refine sw (core_sub (L _ rfl) (w64 (by omega) (by omega))) ⟨rfl, rfl, T0⟩ T0 ?_
    refine sw (core_assign (L _ rfl)) ⟨rfl, T0⟩ T0 ?_
    refine seq_nil ?_
    exact ⟨(n - 1, (r * 4294967296 + ws.getD (n - 1) 0) / d :: qs, (r * 4294967296 + ws.getD (n - 1) 0) % d), key, (by simp only; omega), le_of ⟨(by first | exact rfl | exact oi (by omega) rfl), (by first | exact rfl | exact oi (by omega) rfl), rfl, rfl, T0⟩ ⟨obl rfl (by rw [encW_set, set_last (by simp; omega), List.take_take, Nat.min_eq_left (by omega)]), T0⟩⟩
  · have he := df he
    have hn : n = 0 := by omega
    subst hn
    have e1 : r = val ws % d := by simpa using hx.r
    have e2 : qs = digN ws.length (val ws / d) := by simpa using hx.q
    refine ex_exit (show Exec _ _ _ _ _ from ?_)
    refine exr ?_
    refine sw (core_move (L _ rfl)) ⟨rfl, T0⟩ T0 ?_
    refine sw (core_conv Tryd.underlying52 Tryd.underlying53 (L _ rfl) (fu32 (by omega) (by omega))) ⟨rfl, T0⟩ T0 ?_
    refine sw (core_assign (L _ rfl)) ⟨rfl, T0⟩ T0 ?_
    refine seq_nil ⟨[(4, _)], [(1000, _)], ⟨rfl, T0⟩, ⟨rfl, T0⟩, ?_⟩
    refine ex_ret ?_
    refine ⟨.inr rfl, ResVs.cast (.cons (.tmp rfl) .nil) ?_, ⟨obl rfl (by simp [e2]), T0⟩⟩
    rw [e1]

end Go.Proofs.YtebkelnibecmjaaDoor.N
namespace Go.Proofs.YtebkelnibecmjaaDoor.N
open Go Go.Proofs.YtebkelnibecmjaaDoor.SH Go.Proofs.YtebkelnibecmjaaDoor.NumA
set_option maxRecDepth 100000 in
set_option maxHeartbeats 4000000 in
theorem shifted_says (ws : List Int) (k : Nat) (hl : ws.length < 999999999) (h : Wd ws) (hk : k < 32) : SaysO E 81 [pW ws, vZ k] 53 1 (ws.length + 1) (encW (digN (ws.length + 1) (val ws * 2 ^ k))) := by
  refine saysO_of (k := 11) (tot := ws.length + 1) Tryd.func81 rfl Tryd.ntmps81 Tryd.results81 (by simp) fun F hG hX0 hnt hdf P0 => ?_
  have L := ltn hnt
  have hX : ∀ b, F.X b → E.ng ≤ b := fun b h => absurd h (hX0 b)
  have hN := ng_le hG
  refine exr ?_
  refine sw (core_assign (L _ rfl)) ⟨rfl, T0⟩ T0 ?_
  refine seq_nil ⟨[(0, _), (1, _)], [], ⟨rfl, rfl, T0⟩, trivial, ?_⟩
  refine exr ?_
  refine sw (core_move (L _ rfl)) ⟨rfl, T0⟩ T0 ?_
  refine sw (core_len Tryd.underlying22 (L _ rfl)) ⟨rfl, T0⟩ T0 ?_
  refine sw (core_add (L _ rfl) (w64 (by omega) (by omega))) ⟨rfl, rfl, T0⟩ T0 ?_
  refine swb (core_make1 (k := 11) Tryd.underlying22 Tryd.typeInfo53 rfl rfl rfl rfl (show _ = ((ws.length + 1 : Nat) : Int) by omega) (show _ = ((ws.length + 1 : Nat) : Int) by omega) (Nat.le_refl _) (by simp [Tryd.t53]; omega) (by omega) (P0 _ rfl) (L _ rfl)) ⟨rfl, rfl, T0⟩ T0 ⟨rfl, rfl⟩ ?_
  refine sw (core_assign (L _ rfl)) ⟨rfl, T0⟩ T0 ?_
  refine seq_nil ⟨[(0, _), (1, _), (5, _)], [(11, _)], ⟨rfl, rfl, rfl, T0⟩, ⟨rfl, T0⟩, ?_⟩
  refine ex_seq ?_
  refine exr ?_
  refine sw (core_move (L _ rfl)) ⟨rfl, T0⟩ T0 ?_
  refine sw (core_len Tryd.underlying22 (L _ rfl)) ⟨rfl, T0⟩ T0 ?_
  refine sw (core_move (L _ rfl)) ⟨rfl, T0⟩ T0 ?_
  refine seq_nil ⟨[(1, _), (5, _), (12, _), (13, _), (14, _)], [(11, _)], ⟨rfl, rfl, rfl, rfl, rfl, T0⟩, ⟨rfl, T0⟩, ?_⟩
  refine ex_block ?_
  refine exl (α := (Nat × List Int × Int)) (fun x => [(14, vi (x.1:Int))]) (fun x => [(11, ⟨53, 1, .pure (encW (x.2.1 ++ x.2.2 :: List.replicate (ws.length - x.1) 0))⟩)]) (fun x => ShiftAt ws k x) (fun x => ws.length - x.1) (((0 : Nat), ([] : List Int), (0 : Int))) (sl := [(1, _), (5, _), (12, _), (13, _)]) (hb := []) ?_ ⟨(by first | exact rfl | exact oi (by omega) rfl), rfl, rfl, rfl, rfl, T0⟩ ⟨obl rfl (by rw [encW_rep]; rfl), T0⟩ ?_
  · exact ShiftAt.zero ws k
  intro x hx
  obtain ⟨i, ys, c⟩ := x
  have hlen := hx.len
  have hle := hx.le
  have h0 := hx.h0
  have h1 := hx.h1
  simp only at hlen hle h0 h1
  dsimp only
  refine exr ?_
  refine sw (core_lss (L _ rfl)) ⟨rfl, rfl, T0⟩ T0 ?_
  refine seq_nil ⟨[(1, _), (5, _), (12, _), (13, _), (14, _), (15, _)], [(11, _)], ⟨rfl, rfl, rfl, rfl, rfl, rfl, T0⟩, ⟨rfl, T0⟩, ?_⟩
  refine ex_seq ?_
  refine ex_if rfl (fun he => ?_) (fun he => ?_)
  · have he := dt he
    have hw := h.getD i
    have key := hx.next h (by omega)
    have kq0 := key.h0
    have kq1 := key.h1
    simp only at kq0 kq1
    have hp := pow32 (Nat.le_of_lt hk)
    have sa := shl_add (Nat.le_of_lt hk) (ws.getD i 0) h0 h1
    have hg : (ys ++ c :: List.replicate (ws.length - i) 0).getD i 0 = c := by rw [List.getD_eq_getElem?_getD, List.getElem?_append_right (by omega), hlen, Nat.sub_self]; rfl
    refine ex_skip (show Exec _ _ _ _ _ from ?_)
    refine ex_seq ?_
    refine ex_block ?_
    refine exr ?_
    refine sw (core_move (L _ rfl)) ⟨rfl, T0⟩ T0 ?_
    refine sw (ixJ Tryd.underlying22 Tryd.sizeOf53 (j := i) (by first | exact rfl | omega) (by omega) (by simp) (L _ rfl)) ⟨rfl, rfl, T0⟩ T0 ?_
    refine sw (core_loadI1 Tryd.isAgg53 (by first | exact getW (by omega) | rfl) (L _ rfl)) ⟨rfl, T0⟩ T0 ?_
    refine sw (core_assign (L _ rfl)) ⟨rfl, T0⟩ T0 ?_
    refine sw (core_assign (L _ rfl)) ⟨rfl, T0⟩ T0 ?_
    refine seq_nil ⟨[(1, _), (5, _), (6, _), (7, _), (12, _), (13, _), (14, _)], [(11, _)], ⟨rfl, rfl, rfl, rfl, rfl, rfl, rfl, T0⟩, ⟨rfl, T0⟩, ?_⟩
    refine exd (by rfl) ?_
    refine sw (core_move (L _ rfl)) ⟨rfl, T0⟩ T0 ?_
    refine sw (core_move (L _ rfl)) ⟨rfl, T0⟩ T0 ?_
    refine sw (ixR0 Tryd.underlying22 Tryd.sizeOf53 (by exact (by simp; omega)) (j := i) (by first | exact rfl | omega) (by omega) (L _ rfl)) ⟨rfl, rfl, T0⟩ ⟨rfl, T0⟩ ?_
    refine sw (core_load1 Tryd.isAgg53 (by exact (by simp; omega)) (getC (getW (by simp; omega))) (L _ rfl)) ⟨rfl, T0⟩ ⟨rfl, T0⟩ ?_
    refine sw (core_move (L _ rfl)) ⟨rfl, T0⟩ T0 ?_
    refine sw (core_move (L _ rfl)) ⟨rfl, T0⟩ T0 ?_
    refine sw (core_shl (L _ rfl) (by omega) (shl32k (Nat.le_of_lt hk))) ⟨rfl, rfl, T0⟩ T0 ?_
    refine sw (core_or (L _ rfl) (show _ = (ws.getD i 0 * 2 ^ k + c) % 4294967296 by rw [hg, or32 (b := ws.getD i 0 % 2 ^ (32 - k)) k rfl h0 h1 sa.2.2.1 (Nat.le_of_lt hk) sa.2.2.2 sa.2.1, sa.1])) ⟨rfl, rfl, T0⟩ T0 ?_
    refine sw (ixR0 Tryd.underlying22 Tryd.sizeOf53 (by exact (by simp; omega)) (j := i) (by first | exact rfl | omega) (by omega) (L _ rfl)) ⟨rfl, rfl, T0⟩ ⟨rfl, T0⟩ ?_
    refine sb (core_store1 Tryd.sizeOf53 (by exact (by simp; omega)) (.atom rfl) (by omega)) ⟨rfl, rfl, T0⟩ ⟨rfl, T0⟩ ?_
    refine seq_nil ⟨aoks [⟨[5], [], [19], []⟩, ⟨[6], [], [20], []⟩, ⟨[19, 20], [11], [21], []⟩, ⟨[21], [11], [22], []⟩, ⟨[7], [], [23], []⟩, ⟨[1], [], [24], []⟩, ⟨[23, 24], [], [25], []⟩, ⟨[22, 25], [], [26], []⟩, ⟨[19, 20], [11], [27], []⟩, ⟨[27, 26], [11], [], [11]⟩] (by rfl) (by rfl) (by decide), [(1, _), (5, _), (6, _), (7, _), (12, _), (13, _), (14, _)], [(11, _)], ⟨rfl, rfl, rfl, rfl, rfl, rfl, rfl, T0⟩, ⟨rfl, T0⟩, ?_⟩
    refine exr0 ?_
    refine sw (core_move (L _ rfl)) ⟨rfl, T0⟩ T0 ?_
    refine sw (core_move (L _ rfl)) ⟨rfl, T0⟩ T0 ?_
    refine sw (core_add (L _ rfl) (w64 (by omega) (by omega))) ⟨rfl, rfl, T0⟩ T0 ?_
    refine sw (core_move (L _ rfl)) ⟨rfl, T0⟩ T0 ?_
    refine sw (core_conv Tryd.underlying53 Tryd.underlying52 (L _ rfl) (fu64 (by omega) (by omega))) ⟨rfl, T0⟩ T0 ?_
    refine sw (core_move (L _ rfl)) ⟨rfl, T0⟩ T0 ?_
    refine sw (core_sub (L _ rfl) (w64 (by omega) (by omega))) ⟨rfl, rfl, T0⟩ T0 ?_
    refine sw (core_shr (L _ rfl) (by omega) (show _ = (ws.getD i 0 * 2 ^ k + c) / 4294967296 by rw [shl_div (Nat.le_of_lt hk) _ h0 h1]; exact shr64s hk)) ⟨rfl, rfl, T0⟩ T0 ?_
    refine sw (core_conv Tryd.underlying52 Tryd.underlying53 (L _ rfl) (fu32 (by omega) (by omega))) ⟨rfl, T0⟩ T0 ?_
    refine sw (ixR0 Tryd.underlying22 Tryd.sizeOf53 (by exact (List.length_set.trans (by simp; omega))) (j := i + 1) (by first | exact rfl | omega) (by omega) (L _ rfl)) ⟨rfl, rfl, T0⟩ ⟨rfl, T0⟩ ?_
    refine sb (core_store1 Tryd.sizeOf53 (by exact (List.length_set.trans (by simp; omega))) (.atom rfl) (by omega)) ⟨rfl, rfl, T0⟩ ⟨rfl, T0⟩ ?_
    refine seq_nil ?_
    refine exr0 ?_
    refine sw (core_add (L _ rfl) (w64 (by omega) (by omega))) ⟨rfl, rfl, T0⟩ T0 ?_
    refine sw (core_move (L _ rfl)) ⟨rfl, T0⟩ T0 ?_
    refine seq_nil ?_
    exact ⟨(i + 1, ys ++ [(ws.getD i 0 * 2 ^ k + c) % 4294967296], (ws.getD i 0 * 2 ^ k + c) / 4294967296), key, (by simp only; omega), le_of ⟨(by first | exact rfl | exact oi (by omega) rfl), rfl, rfl, rfl, rfl, T0⟩ ⟨obl rfl (by simp only; rw [encW_set, encW_set, shift_fill hlen (by omega)]), T0⟩⟩
  · have he := df he
    have hi : i = ws.length := by omega
    subst hi
    obtain ⟨e1, e2⟩ := hx.end_ (by omega)
    refine ex_exit (show Exec _ _ _ _ _ from ?_)
    refine exr ?_
    refine sw (core_move (L _ rfl)) ⟨rfl, T0⟩ T0 ?_
    refine sw (core_assign (L _ rfl)) ⟨rfl, T0⟩ T0 ?_
    refine seq_nil ⟨[(4, _)], [(11, _)], ⟨rfl, T0⟩, ⟨rfl, T0⟩, ?_⟩
    refine ex_ret ?_
    refine ⟨.inr rfl, rfl, _, rfl, by simp; omega, ?_, by simp [digN_length]⟩
    rw [← e1, Nat.sub_self]; exact List.take_of_length_le (by simp; omega)

end Go.Proofs.YtebkelnibecmjaaDoor.N
namespace Go.Proofs.YtebkelnibecmjaaDoor.N
open Go Go.Proofs.YtebkelnibecmjaaDoor.SH Go.Proofs.YtebkelnibecmjaaDoor.NumA
set_option maxRecDepth 100000 in
set_option maxHeartbeats 4000000 in
theorem pair_says (ws : List Int) (hl : ws.length < 1000000000) (h : Wd ws) : Says E 73 [pW ws] (.tup [uZ (if ws.length ≤ 2 then val ws else 0), bZ (decide (ws.length ≤ 2))]) := by
  refine says_of (xs := [uZ (if ws.length ≤ 2 then val ws else 0), bZ (decide (ws.length ≤ 2))]) Tryd.func73 rfl Tryd.ntmps73 Tryd.results73 (by simp) fun F hG hX0 hnt hdf P0 => ?_
  have L := ltn hnt
  have hX : ∀ b, F.X b → E.ng ≤ b := fun b h => absurd h (hX0 b)
  have hN := ng_le hG
  have hw := h.getD 0
  have hw1 := h.getD 1
  refine exr ?_
  refine sw (core_assign (L _ rfl)) ⟨rfl, T0⟩ T0 ?_
  refine sw (core_assign (L _ rfl)) ⟨rfl, T0⟩ T0 ?_
  refine seq_nil ⟨[(0, _)], [], ⟨rfl, T0⟩, trivial, ?_⟩
  refine ex_seq ?_
  refine exr ?_
  refine sw (core_move (L _ rfl)) ⟨rfl, T0⟩ T0 ?_
  refine sw (core_len Tryd.underlying22 (L _ rfl)) ⟨rfl, T0⟩ T0 ?_
  refine seq_nil ⟨[(0, _), (5, _)], [], ⟨rfl, rfl, T0⟩, trivial, ?_⟩
  refine ex_block ?_
  refine exr ?_
  refine sw (core_eql (L _ rfl)) ⟨rfl, rfl, T0⟩ T0 ?_
  refine sw (core_assign (L _ rfl)) ⟨rfl, T0⟩ T0 ?_
  refine seq_nil ⟨[(0, _), (5, _), (6, _)], [], ⟨rfl, rfl, rfl, T0⟩, trivial, ?_⟩
  refine ex_if rfl (fun h0 => ?_) (fun h0 => ?_)
  · have h0 := dt h0
    have e : ws = [] := List.eq_nil_of_length_eq_zero (by omega)
    refine exr ?_
    refine sw (core_assign (L _ rfl)) ⟨rfl, T0⟩ T0 ?_
    refine sw (core_assign (L _ rfl)) ⟨rfl, T0⟩ T0 ?_
    refine seq_nil ⟨[(2, _), (3, _)], [], ⟨rfl, rfl, T0⟩, trivial, ?_⟩
    refine ex_ret ?_
    refine ⟨.inr rfl, ResVs.cast (.cons (.tmp rfl) (.cons (.tmp rfl) .nil)) ?_⟩
    rw [e]; rfl
  · have h0 := df h0
    refine exr ?_
    refine sw (core_eql (L _ rfl)) ⟨rfl, rfl, T0⟩ T0 ?_
    refine sw (core_assign (L _ rfl)) ⟨rfl, T0⟩ T0 ?_
    refine seq_nil ⟨[(0, _), (5, _), (8, _)], [], ⟨rfl, rfl, rfl, T0⟩, trivial, ?_⟩
    refine ex_if rfl (fun h1 => ?_) (fun h1 => ?_)
    · have h1 := dt h1
      refine exr ?_
      refine sw (core_move (L _ rfl)) ⟨rfl, T0⟩ T0 ?_
      refine sw (ixJ Tryd.underlying22 Tryd.sizeOf53 (j := 0) rfl (by omega) (by simp) (L _ rfl)) ⟨rfl, rfl, T0⟩ T0 ?_
      refine sw (core_loadI1 Tryd.isAgg53 (by first | exact getW (by omega) | rfl) (L _ rfl)) ⟨rfl, T0⟩ T0 ?_
      refine sw (core_conv Tryd.underlying53 Tryd.underlying52 (L _ rfl) (fu64 (by omega) (by omega))) ⟨rfl, T0⟩ T0 ?_
      refine sw (core_assign (L _ rfl)) ⟨rfl, T0⟩ T0 ?_
      refine sw (core_assign (L _ rfl)) ⟨rfl, T0⟩ T0 ?_
      refine seq_nil ⟨[(2, _), (3, _)], [], ⟨rfl, rfl, T0⟩, trivial, ?_⟩
      refine ex_ret ?_
      refine ⟨.inr rfl, ResVs.cast (.cons (.tmp rfl) (.cons (.tmp rfl) .nil)) ?_⟩
      rw [if_pos (by omega), decide_eq_true (by omega), val_one (by omega)]
    · have h1 := df h1
      refine exr ?_
      refine sw (core_eql (L _ rfl)) ⟨rfl, rfl, T0⟩ T0 ?_
      refine sw (core_assign (L _ rfl)) ⟨rfl, T0⟩ T0 ?_
      refine seq_nil ⟨[(0, _), (14, _)], [], ⟨rfl, rfl, T0⟩, trivial, ?_⟩
      refine ex_if rfl (fun h2 => ?_) (fun h2 => ?_)
      · have h2 := dt h2
        refine exd (by rfl) ?_
        refine sw (core_move (L _ rfl)) ⟨rfl, T0⟩ T0 ?_
        refine sw (ixJ Tryd.underlying22 Tryd.sizeOf53 (j := 1) rfl (by omega) (by simp) (L _ rfl)) ⟨rfl, rfl, T0⟩ T0 ?_
        refine sw (core_loadI1 Tryd.isAgg53 (by first | exact getW (by omega) | rfl) (L _ rfl)) ⟨rfl, T0⟩ T0 ?_
        refine sw (core_conv Tryd.underlying53 Tryd.underlying52 (L _ rfl) (fu64 (by omega) (by omega))) ⟨rfl, T0⟩ T0 ?_
        refine sw (core_shl (L _ rfl) (by decide) (shlE (c := 4294967296) (by rfl) (fu64 (by omega) (by omega)))) ⟨rfl, rfl, T0⟩ T0 ?_
        refine sw (core_move (L _ rfl)) ⟨rfl, T0⟩ T0 ?_
        refine sw (ixJ Tryd.underlying22 Tryd.sizeOf53 (j := 0) rfl (by omega) (by simp) (L _ rfl)) ⟨rfl, rfl, T0⟩ T0 ?_
        refine sw (core_loadI1 Tryd.isAgg53 (by first | exact getW (by omega) | rfl) (L _ rfl)) ⟨rfl, T0⟩ T0 ?_
        refine sw (core_conv Tryd.underlying53 Tryd.underlying52 (L _ rfl) (fu64 (by omega) (by omega))) ⟨rfl, T0⟩ T0 ?_
        refine sw (core_or (L _ rfl) (or64' (b := ws.getD 1 0) 32 rfl hw.1 hw.2 hw1.1 (by decide) (by omega) (by omega))) ⟨rfl, rfl, T0⟩ T0 ?_
        refine sw (core_assign (L _ rfl)) ⟨rfl, T0⟩ T0 ?_
        refine sw (core_assign (L _ rfl)) ⟨rfl, T0⟩ T0 ?_
        refine seq_nil ⟨aoks [⟨[0], [], [16], []⟩, ⟨[16], [], [17], []⟩, ⟨[17], [], [18], []⟩, ⟨[18], [], [19], []⟩, ⟨[19], [], [20], []⟩, ⟨[0], [], [21], []⟩, ⟨[21], [], [22], []⟩, ⟨[22], [], [23], []⟩, ⟨[23], [], [24], []⟩, ⟨[20, 24], [], [25], []⟩, ⟨[25], [], [2], []⟩, ⟨[], [], [3], []⟩] (by rfl) (by rfl) (by decide), [(2, _), (3, _)], [], ⟨rfl, rfl, T0⟩, trivial, ?_⟩
        refine ex_ret ?_
        refine ⟨.inr rfl, ResVs.cast (.cons (.tmp rfl) (.cons (.tmp rfl) .nil)) ?_⟩
        rw [if_pos (by omega), decide_eq_true (by omega), ← two_words h (by omega)]; rfl
      · have h2 := df h2
        refine ex_skip (show Exec _ _ _ _ _ from ?_)
        refine exr ?_
        refine sw (core_assign (L _ rfl)) ⟨rfl, T0⟩ T0 ?_
        refine sw (core_assign (L _ rfl)) ⟨rfl, T0⟩ T0 ?_
        refine seq_nil ⟨[(2, _), (3, _)], [], ⟨rfl, rfl, T0⟩, trivial, ?_⟩
        refine ex_ret ?_
        refine ⟨.inr rfl, ResVs.cast (.cons (.tmp rfl) (.cons (.tmp rfl) .nil)) ?_⟩
        rw [if_neg (by omega), decide_eq_false (by omega)]

set_option maxRecDepth 100000 in
set_option maxHeartbeats 4000000 in
theorem words_says (n : Int) (h0 : 0 ≤ n) (h1 : n < 18446744073709551616) : Says E 79 [uZ n] (pW (digN 2 n)) := by
  refine says_of (xs := [pW (digN 2 n)]) Tryd.func79 rfl Tryd.ntmps79 Tryd.results79 (by simp) fun F hG hX0 hnt hdf P0 => ?_
  have L := ltn hnt
  have hX : ∀ b, F.X b → E.ng ≤ b := fun b h => absurd h (hX0 b)
  have hN := ng_le hG
  refine exr ?_
  refine sw (core_assign (L _ rfl)) ⟨rfl, T0⟩ T0 ?_
  refine seq_nil ⟨[(0, _)], [], ⟨rfl, T0⟩, trivial, ?_⟩
  refine exr ?_
  refine sw (core_move (L _ rfl)) ⟨rfl, T0⟩ T0 ?_
  refine sw (core_conv Tryd.underlying52 Tryd.underlying53 (L _ rfl) wu32) ⟨rfl, T0⟩ T0 ?_
  refine sw (core_move (L _ rfl)) ⟨rfl, T0⟩ T0 ?_
  refine sw (core_shr (L _ rfl) (by decide) (shrE (c := 4294967296) (by rfl) (by decide))) ⟨rfl, rfl, T0⟩ T0 ?_
  refine sw (core_conv Tryd.underlying52 Tryd.underlying53 (L _ rfl) wu32) ⟨rfl, T0⟩ T0 ?_
  refine sw (core_bsI (vs := [_, _]) Tryd.underlying22 Tryd.typeInfo53 rfl rfl (by decide) (by decide) rfl (zs_made (.cons rfl .nil) rfl) rfl (.cons rfl (.atom rfl) rfl (.put .here) (.cons rfl (.atom rfl) rfl (.skip (.put .here)) .nil)) (.cons (.cons .nil)) (L _ rfl)) ⟨rfl, rfl, T0⟩ T0 ?_
  refine sw (core_assign (L _ rfl)) ⟨rfl, T0⟩ T0 ?_
  refine seq_nil ⟨[(2, _)], [], ⟨rfl, T0⟩, trivial, ?_⟩
  refine ex_ret ?_
  refine ⟨.inr rfl, ResVs.cast (.cons (.tmp rfl) .nil) ?_⟩
  simp [digN, encW]

set_option maxRecDepth 100000 in
set_option maxHeartbeats 4000000 in
theorem lz_says (x : Int) (h0 : 0 ≤ x) (h1 : x < 4294967296) : Says E 80 [oZ x] (vZ (32 - (bl x.toNat : Int))) := by
  refine says_of (xs := [vZ (32 - (bl x.toNat : Int))]) Tryd.func80 rfl Tryd.ntmps80 Tryd.results80 (by simp) fun F hG hX0 hnt hdf P0 => ?_
  have L := ltn hnt
  have hX : ∀ b, F.X b → E.ng ≤ b := fun b h => absurd h (hX0 b)
  have hN := ng_le hG
  have hb := bl32 h1
  refine exr ?_
  refine sw (core_assign (L _ rfl)) ⟨rfl, T0⟩ T0 ?_
  refine seq_nil ⟨[(0, _)], [], ⟨rfl, T0⟩, trivial, ?_⟩
  refine exr ?_
  refine sw (core_move (L _ rfl)) ⟨rfl, T0⟩ T0 ?_
  refine sw (core_call (E := E) hG hX Tryd.call57 rfl hN (len32_says x h0 h1) (L _ rfl)) ⟨rfl, T0⟩ T0 ?_
  refine sw (core_sub (L _ rfl) (w64 (by omega) (by omega))) ⟨rfl, rfl, T0⟩ T0 ?_
  refine sw (core_assign (L _ rfl)) ⟨rfl, T0⟩ T0 ?_
  refine seq_nil ⟨[(2, _)], [], ⟨rfl, T0⟩, trivial, ?_⟩
  refine ex_ret ?_
  refine ⟨.inr rfl, ResVs.cast (.cons (.tmp rfl) .nil) ?_⟩
  rfl

set_option maxRecDepth 100000 in
set_option maxHeartbeats 4000000 in
theorem rsmall_says (neg : Bool) (ws : List Int) (hl : ws.length < 1000000000) (h : Wd ws) : Says E 15 [pI neg ws] (.tup [vZ (if canon neg ws = true ∧ -9223372036854775808 ≤ sg neg (val ws) ∧ sg neg (val ws) < 9223372036854775808 then sg neg (val ws) else 0), vZ (if canon neg ws = true then if -9223372036854775808 ≤ sg neg (val ws) ∧ sg neg (val ws) < 9223372036854775808 then 0 else 2 else 3)]) := by
  refine says_of (xs := [vZ (if canon neg ws = true ∧ -9223372036854775808 ≤ sg neg (val ws) ∧ sg neg (val ws) < 9223372036854775808 then sg neg (val ws) else 0), vZ (if canon neg ws = true then if -9223372036854775808 ≤ sg neg (val ws) ∧ sg neg (val ws) < 9223372036854775808 then 0 else 2 else 3)]) Tryd.func15 rfl Tryd.ntmps15 Tryd.results15 (by simp) fun F hG hX0 hnt hdf P0 => ?_
  have L := ltn hnt
  have hX : ∀ b, F.X b → E.ng ≤ b := fun b h => absurd h (hX0 b)
  have hN := ng_le hG
  have hw := h.getD 0
  have hw1 := h.getD 1
  refine exr ?_
  refine swb (core_box (k := 1) (n := 2) (.pagg (.cons (.cons .nil))) rfl rfl (P0 _ rfl) (L _ rfl)) ⟨rfl, T0⟩ T0 ⟨rfl, rfl⟩ ?_
  refine sw (core_assign (L _ rfl)) ⟨rfl, T0⟩ T0 ?_
  refine sw (core_assign (L _ rfl)) ⟨rfl, T0⟩ T0 ?_
  refine seq_nil ⟨[(1, _)], [(1, _)], ⟨rfl, T0⟩, ⟨rfl, T0⟩, ?_⟩
  refine ex_seq ?_
  refine exr ?_
  refine sw (core_loadP Tryd.isAgg24 Tryd.sizeOf24 (by rfl) (by exact (.cons (.cons .nil))) rfl (L _ rfl)) ⟨rfl, T0⟩ ⟨rfl, T0⟩ ?_
  refine sw (core_call (E := E) hG hX Tryd.call17 rfl hN (ris_says neg ws hl) (L _ rfl)) ⟨rfl, T0⟩ T0 ?_
  refine sw (core_not (L _ rfl)) ⟨rfl, T0⟩ T0 ?_
  refine seq_nil ⟨[(1, _), (7, _)], [(1, _)], ⟨rfl, rfl, T0⟩, ⟨rfl, T0⟩, ?_⟩
  refine ex_if rfl (fun hc => ?_) (fun hc => ?_)
  · have hc : canon neg ws = false := by simpa using hc
    refine exr ?_
    refine sw (core_assign (L _ rfl)) ⟨rfl, T0⟩ T0 ?_
    refine sw (core_assign (L _ rfl)) ⟨rfl, T0⟩ T0 ?_
    refine seq_nil ⟨[(2, _), (3, _)], [], ⟨rfl, rfl, T0⟩, trivial, ?_⟩
    refine ex_ret ?_
    refine ⟨.inr rfl, ResVs.cast (.cons (.tmp rfl) (.cons (.tmp rfl) .nil)) ?_⟩
    simp [hc]
  · have hc : canon neg ws = true := by simpa using hc
    have hv := val_nonneg h
    obtain ⟨u, hu⟩ : ∃ u, u = ws.getD 0 0 + ws.getD 1 0 * 4294967296 := ⟨_, rfl⟩
    refine ex_skip (show Exec _ _ _ _ _ from ?_)
    refine exd (by rfl) ?_
    refine sw (core_fieldAddr Tryd.underlying24 rfl Tryd.sizeOf22 (by decide) (by exact rfl) (L _ rfl)) ⟨rfl, T0⟩ ⟨rfl, T0⟩ ?_
    refine sw (core_load1 Tryd.isAgg22 (by rfl) (by rfl) (L _ rfl)) ⟨rfl, T0⟩ ⟨rfl, T0⟩ ?_
    refine sw (core_call (E := E) hG hX Tryd.call54 rfl hN (rword_says ws hl h 0 (by omega)) (L _ rfl)) ⟨rfl, rfl, T0⟩ T0 ?_
    refine sw (core_fieldAddr Tryd.underlying24 rfl Tryd.sizeOf22 (by decide) (by exact rfl) (L _ rfl)) ⟨rfl, T0⟩ ⟨rfl, T0⟩ ?_
    refine sw (core_load1 Tryd.isAgg22 (by rfl) (by rfl) (L _ rfl)) ⟨rfl, T0⟩ ⟨rfl, T0⟩ ?_
    refine sw (core_call (E := E) hG hX Tryd.call54 rfl hN (rword_says ws hl h 1 (by omega)) (L _ rfl)) ⟨rfl, rfl, T0⟩ T0 ?_
    refine sw (core_shl (L _ rfl) (by decide) (shlE (c := 4294967296) (by rfl) (fu64 (by omega) (by omega)))) ⟨rfl, rfl, T0⟩ T0 ?_
    refine sw (core_or (L _ rfl) (or64 (b := ws.getD 1 0) 32 rfl hw.1 hw.2 hw1.1 (by decide) (by omega) (by omega))) ⟨rfl, rfl, T0⟩ T0 ?_
    refine sw (core_assign (L _ rfl)) ⟨rfl, T0⟩ T0 ?_
    refine seq_nil ⟨aoks [⟨[1], [1], [8], []⟩, ⟨[8], [1], [9], []⟩, ⟨[9], [], [10], []⟩, ⟨[1], [1], [11], []⟩, ⟨[11], [1], [12], []⟩, ⟨[12], [], [13], []⟩, ⟨[13], [], [14], []⟩, ⟨[10, 14], [], [15], []⟩, ⟨[15], [], [4], []⟩] (by rfl) (by rfl) (by decide), [(1, _), (4, vw u)], [(1, _)], ⟨rfl, oi (by omega) rfl, T0⟩, ⟨rfl, T0⟩, ?_⟩
    refine ex_seq ?_
    refine exm (sl := [(36, vb (!decide (ws.length ≤ 2 ∧ (neg = true → u ≤ 9223372036854775808) ∧ (neg = false → u < 9223372036854775808))))]) (sl0 := [(1, _), (4, _)]) (hb := []) (hb0 := [(1, _)]) ⟨rfl, rfl, T0⟩ ⟨rfl, T0⟩ ?_ ?_
    · rcases small_cases neg ws.length u with ⟨q1⟩ | ⟨q1, q2, q3⟩ | ⟨q1, q2, q3⟩ | ⟨q1, q2⟩
      · refine sw (core_fieldAddr Tryd.underlying24 rfl Tryd.sizeOf22 (by decide) (by exact rfl) (L _ rfl)) ⟨rfl, T0⟩ ⟨rfl, T0⟩ ?_
        refine sw (core_load1 Tryd.isAgg22 (by rfl) (by rfl) (L _ rfl)) ⟨rfl, T0⟩ ⟨rfl, T0⟩ ?_
        refine sw (core_len Tryd.underlying22 (L _ rfl)) ⟨rfl, T0⟩ T0 ?_
        refine sw (core_gtr (L _ rfl)) ⟨rfl, rfl, T0⟩ T0 ?_
        refine sw (core_move (L _ rfl)) ⟨rfl, T0⟩ T0 ?_
        refine swn (g := 20) rfl (decide_eq_true (by omega)) (L _ rfl) rfl ?_
        refine swn (g := 20) rfl (decide_eq_true (by omega)) (L _ rfl) rfl ?_
        refine swn (g := 20) rfl (decide_eq_true (by omega)) (L _ rfl) rfl ?_
        refine swu (g := 23) rfl (L _ rfl) rfl ?_
        refine swu (g := 23) rfl (L _ rfl) rfl ?_
        refine swn (g := 20) rfl (decide_eq_true (by omega)) (L _ rfl) rfl ?_
        refine sw (core_pick_t (decide_eq_true (by omega)) (L _ rfl)) ⟨rfl, rfl, T0⟩ T0 ?_
        refine sw (core_move (L _ rfl)) ⟨rfl, T0⟩ T0 ?_
        refine swn (g := 28) rfl rfl (L _ rfl) rfl ?_
        refine swn (g := 28) rfl rfl (L _ rfl) rfl ?_
        refine swn (g := 28) rfl rfl (L _ rfl) rfl ?_
        refine swn (g := 28) rfl rfl (L _ rfl) rfl ?_
        refine swu (g := 32) rfl (L _ rfl) rfl ?_
        refine swu (g := 32) rfl (L _ rfl) rfl ?_
        refine swn (g := 28) rfl rfl (L _ rfl) rfl ?_
        refine sw (core_pick_t rfl (L _ rfl)) ⟨rfl, rfl, T0⟩ T0 ?_
        exact seq_nil ⟨⟨ob rfl (by rw [decide_eq_false (by omega)]; rfl), rfl, rfl, T0⟩, ⟨rfl, T0⟩⟩
      · refine sw (core_fieldAddr Tryd.underlying24 rfl Tryd.sizeOf22 (by decide) (by exact rfl) (L _ rfl)) ⟨rfl, T0⟩ ⟨rfl, T0⟩ ?_
        refine sw (core_load1 Tryd.isAgg22 (by rfl) (by rfl) (L _ rfl)) ⟨rfl, T0⟩ ⟨rfl, T0⟩ ?_
        refine sw (core_len Tryd.underlying22 (L _ rfl)) ⟨rfl, T0⟩ T0 ?_
        refine sw (core_gtr (L _ rfl)) ⟨rfl, rfl, T0⟩ T0 ?_
        refine sw (core_move (L _ rfl)) ⟨rfl, T0⟩ T0 ?_
        refine swg (g := 20) rfl (decide_eq_false (by omega)) (core_fieldAddr Tryd.underlying24 rfl Tryd.sizeOf4 (by decide) (by exact rfl) (L _ rfl)) rfl ⟨rfl, T0⟩ ⟨rfl, T0⟩ ?_
        refine swg (g := 20) rfl (decide_eq_false (by omega)) (core_load1 Tryd.isAgg4 (by rfl) (by rfl) (L _ rfl)) rfl ⟨rfl, T0⟩ ⟨rfl, T0⟩ ?_
        refine swg (g := 20) rfl (decide_eq_false (by omega)) (core_move (L _ rfl)) rfl ⟨rfl, T0⟩ T0 ?_
        refine swg (g := 23) rfl q2 (core_move (L _ rfl)) rfl ⟨rfl, T0⟩ T0 ?_
        refine swg (g := 23) rfl q2 (core_gtr (L _ rfl)) rfl ⟨rfl, rfl, T0⟩ T0 ?_
        refine swg (g := 20) rfl (decide_eq_false (by omega)) (core_pick_t q2 (L _ rfl)) rfl ⟨rfl, rfl, T0⟩ T0 ?_
        refine sw (core_pick_f (decide_eq_false (by omega)) (L _ rfl)) ⟨rfl, rfl, T0⟩ T0 ?_
        refine sw (core_move (L _ rfl)) ⟨rfl, T0⟩ T0 ?_
        refine swn (g := 28) rfl (decide_eq_true q3) (L _ rfl) rfl ?_
        refine swn (g := 28) rfl (decide_eq_true q3) (L _ rfl) rfl ?_
        refine swn (g := 28) rfl (decide_eq_true q3) (L _ rfl) rfl ?_
        refine swn (g := 28) rfl (decide_eq_true q3) (L _ rfl) rfl ?_
        refine swu (g := 32) rfl (L _ rfl) rfl ?_
        refine swu (g := 32) rfl (L _ rfl) rfl ?_
        refine swn (g := 28) rfl (decide_eq_true q3) (L _ rfl) rfl ?_
        refine sw (core_pick_t (decide_eq_true q3) (L _ rfl)) ⟨rfl, rfl, T0⟩ T0 ?_
        exact seq_nil ⟨⟨ob rfl (by rw [decide_eq_false (fun h => by have := h.2.1 q2; omega)]; rfl), rfl, rfl, T0⟩, ⟨rfl, T0⟩⟩
      · refine sw (core_fieldAddr Tryd.underlying24 rfl Tryd.sizeOf22 (by decide) (by exact rfl) (L _ rfl)) ⟨rfl, T0⟩ ⟨rfl, T0⟩ ?_
        refine sw (core_load1 Tryd.isAgg22 (by rfl) (by rfl) (L _ rfl)) ⟨rfl, T0⟩ ⟨rfl, T0⟩ ?_
        refine sw (core_len Tryd.underlying22 (L _ rfl)) ⟨rfl, T0⟩ T0 ?_
        refine sw (core_gtr (L _ rfl)) ⟨rfl, rfl, T0⟩ T0 ?_
        refine sw (core_move (L _ rfl)) ⟨rfl, T0⟩ T0 ?_
        refine swg (g := 20) rfl (decide_eq_false (by omega)) (core_fieldAddr Tryd.underlying24 rfl Tryd.sizeOf4 (by decide) (by exact rfl) (L _ rfl)) rfl ⟨rfl, T0⟩ ⟨rfl, T0⟩ ?_
        refine swg (g := 20) rfl (decide_eq_false (by omega)) (core_load1 Tryd.isAgg4 (by rfl) (by rfl) (L _ rfl)) rfl ⟨rfl, T0⟩ ⟨rfl, T0⟩ ?_
        refine swg (g := 20) rfl (decide_eq_false (by omega)) (core_move (L _ rfl)) rfl ⟨rfl, T0⟩ T0 ?_
        refine swg (g := 23) rfl q2 (core_move (L _ rfl)) rfl ⟨rfl, T0⟩ T0 ?_
        refine swg (g := 23) rfl q2 (core_gtr (L _ rfl)) rfl ⟨rfl, rfl, T0⟩ T0 ?_
        refine swg (g := 20) rfl (decide_eq_false (by omega)) (core_pick_t q2 (L _ rfl)) rfl ⟨rfl, rfl, T0⟩ T0 ?_
        refine sw (core_pick_f (decide_eq_false (by omega)) (L _ rfl)) ⟨rfl, rfl, T0⟩ T0 ?_
        refine sw (core_move (L _ rfl)) ⟨rfl, T0⟩ T0 ?_
        refine swg (g := 28) rfl (decide_eq_false (by omega)) (core_fieldAddr Tryd.underlying24 rfl Tryd.sizeOf4 (by decide) (by exact rfl) (L _ rfl)) rfl ⟨rfl, T0⟩ ⟨rfl, T0⟩ ?_
        refine swg (g := 28) rfl (decide_eq_false (by omega)) (core_load1 Tryd.isAgg4 (by rfl) (by rfl) (L _ rfl)) rfl ⟨rfl, T0⟩ ⟨rfl, T0⟩ ?_
        refine swg (g := 28) rfl (decide_eq_false (by omega)) (core_not (L _ rfl)) rfl ⟨rfl, T0⟩ T0 ?_
        refine swg (g := 28) rfl (decide_eq_false (by omega)) (core_move (L _ rfl)) rfl ⟨rfl, T0⟩ T0 ?_
        refine swn (g := 32) rfl (show (!neg) = false by rw [q2]; rfl) (L _ rfl) rfl ?_
        refine swn (g := 32) rfl (show (!neg) = false by rw [q2]; rfl) (L _ rfl) rfl ?_
        refine swg (g := 28) rfl (decide_eq_false (by omega)) (core_pick_f (show (!neg) = false by rw [q2]; rfl) (L _ rfl)) rfl ⟨rfl, rfl, T0⟩ T0 ?_
        refine sw (core_pick_f (decide_eq_false (by omega)) (L _ rfl)) ⟨rfl, rfl, T0⟩ T0 ?_
        exact seq_nil ⟨⟨ob rfl (by rw [decide_eq_true (fit1 q1 q2 q3)]; rfl), rfl, rfl, T0⟩, ⟨rfl, T0⟩⟩
      · refine sw (core_fieldAddr Tryd.underlying24 rfl Tryd.sizeOf22 (by decide) (by exact rfl) (L _ rfl)) ⟨rfl, T0⟩ ⟨rfl, T0⟩ ?_
        refine sw (core_load1 Tryd.isAgg22 (by rfl) (by rfl) (L _ rfl)) ⟨rfl, T0⟩ ⟨rfl, T0⟩ ?_
        refine sw (core_len Tryd.underlying22 (L _ rfl)) ⟨rfl, T0⟩ T0 ?_
        refine sw (core_gtr (L _ rfl)) ⟨rfl, rfl, T0⟩ T0 ?_
        refine sw (core_move (L _ rfl)) ⟨rfl, T0⟩ T0 ?_
        refine swg (g := 20) rfl (decide_eq_false (by omega)) (core_fieldAddr Tryd.underlying24 rfl Tryd.sizeOf4 (by decide) (by exact rfl) (L _ rfl)) rfl ⟨rfl, T0⟩ ⟨rfl, T0⟩ ?_
        refine swg (g := 20) rfl (decide_eq_false (by omega)) (core_load1 Tryd.isAgg4 (by rfl) (by rfl) (L _ rfl)) rfl ⟨rfl, T0⟩ ⟨rfl, T0⟩ ?_
        refine swg (g := 20) rfl (decide_eq_false (by omega)) (core_move (L _ rfl)) rfl ⟨rfl, T0⟩ T0 ?_
        refine swn (g := 23) rfl q2 (L _ rfl) rfl ?_
        refine swn (g := 23) rfl q2 (L _ rfl) rfl ?_
        refine swg (g := 20) rfl (decide_eq_false (by omega)) (core_pick_f q2 (L _ rfl)) rfl ⟨rfl, rfl, T0⟩ T0 ?_
        refine sw (core_pick_f (decide_eq_false (by omega)) (L _ rfl)) ⟨rfl, rfl, T0⟩ T0 ?_
        refine sw (core_move (L _ rfl)) ⟨rfl, T0⟩ T0 ?_
        refine swg (g := 28) rfl rfl (core_fieldAddr Tryd.underlying24 rfl Tryd.sizeOf4 (by decide) (by exact rfl) (L _ rfl)) rfl ⟨rfl, T0⟩ ⟨rfl, T0⟩ ?_
        refine swg (g := 28) rfl rfl (core_load1 Tryd.isAgg4 (by rfl) (by rfl) (L _ rfl)) rfl ⟨rfl, T0⟩ ⟨rfl, T0⟩ ?_
        refine swg (g := 28) rfl rfl (core_not (L _ rfl)) rfl ⟨rfl, T0⟩ T0 ?_
        refine swg (g := 28) rfl rfl (core_move (L _ rfl)) rfl ⟨rfl, T0⟩ T0 ?_
        refine swg (g := 32) rfl (show (!neg) = true by rw [q2]; rfl) (core_move (L _ rfl)) rfl ⟨rfl, T0⟩ T0 ?_
        refine swg (g := 32) rfl (show (!neg) = true by rw [q2]; rfl) (core_geq (L _ rfl)) rfl ⟨rfl, rfl, T0⟩ T0 ?_
        refine swg (g := 28) rfl rfl (core_pick_t (show (!neg) = true by rw [q2]; rfl) (L _ rfl)) rfl ⟨rfl, rfl, T0⟩ T0 ?_
        refine sw (core_pick_f rfl (L _ rfl)) ⟨rfl, rfl, T0⟩ T0 ?_
        exact seq_nil ⟨⟨ob rfl (fit2 q1 q2), rfl, rfl, T0⟩, ⟨rfl, T0⟩⟩
    refine ex_if rfl (fun hd => ?_) (fun hd => ?_)
    · have hd : ¬ (ws.length ≤ 2 ∧ (neg = true → u ≤ 9223372036854775808) ∧ (neg = false → u < 9223372036854775808)) := ndt hd
      have hx := unfit h (canon_tr hc).1 hu hd
      refine exr ?_
      refine sw (core_assign (L _ rfl)) ⟨rfl, T0⟩ T0 ?_
      refine sw (core_assign (L _ rfl)) ⟨rfl, T0⟩ T0 ?_
      refine seq_nil ⟨[(2, _), (3, _)], [], ⟨rfl, rfl, T0⟩, trivial, ?_⟩
      refine ex_ret ?_
      refine ⟨.inr rfl, ResVs.cast (.cons (.tmp rfl) (.cons (.tmp rfl) .nil)) ?_⟩
      rw [if_neg (fun h => hx h.2), if_pos hc, if_neg hx]
    · have hd : ws.length ≤ 2 ∧ (neg = true → u ≤ 9223372036854775808) ∧ (neg = false → u < 9223372036854775808) := ndf hd
      have huv : u = val ws := by rw [hu, two_words h hd.1]
      refine ex_skip (show Exec _ _ _ _ _ from ?_)
      refine ex_seq ?_
      refine exr ?_
      refine sw (core_fieldAddr Tryd.underlying24 rfl Tryd.sizeOf4 (by decide) (by exact rfl) (L _ rfl)) ⟨rfl, T0⟩ ⟨rfl, T0⟩ ?_
      refine sw (core_load1 Tryd.isAgg4 (by rfl) (by rfl) (L _ rfl)) ⟨rfl, T0⟩ ⟨rfl, T0⟩ ?_
      refine seq_nil ⟨[(4, _), (38, _)], [], ⟨rfl, rfl, T0⟩, trivial, ?_⟩
      refine ex_if rfl (fun hn => ?_) (fun hn => ?_)
      · have hn2 := hd.2.1 hn
        have hx : -9223372036854775808 ≤ sg neg (val ws) ∧ sg neg (val ws) < 9223372036854775808 := by rw [hn]; simp [sg]; omega
        refine exr ?_
        refine sw (core_move (L _ rfl)) ⟨rfl, T0⟩ T0 ?_
        refine sw (core_neg (L _ rfl) wu64) ⟨rfl, T0⟩ T0 ?_
        refine sw (core_conv Tryd.underlying52 Tryd.underlying3 (L _ rfl) (show _ = -(val ws) by rw [IntKind.wrap_i64]; omega)) ⟨rfl, T0⟩ T0 ?_
        refine sw (core_assign (L _ rfl)) ⟨rfl, T0⟩ T0 ?_
        refine sw (core_assign (L _ rfl)) ⟨rfl, T0⟩ T0 ?_
        refine seq_nil ⟨[(2, _), (3, _)], [], ⟨rfl, rfl, T0⟩, trivial, ?_⟩
        refine ex_ret ?_
        refine ⟨.inr rfl, ResVs.cast (.cons (.tmp rfl) (.cons (.tmp rfl) .nil)) ?_⟩
        rw [if_pos ⟨hc, hx⟩, if_pos hc, if_pos hx, hn]; simp [sg]
      · have hn2 := hd.2.2 hn
        have hx : -9223372036854775808 ≤ sg neg (val ws) ∧ sg neg (val ws) < 9223372036854775808 := by rw [hn]; simp [sg]; omega
        refine ex_skip (show Exec _ _ _ _ _ from ?_)
        refine exr ?_
        refine sw (core_move (L _ rfl)) ⟨rfl, T0⟩ T0 ?_
        refine sw (core_conv Tryd.underlying52 Tryd.underlying3 (L _ rfl) (w64 (by omega) (by omega))) ⟨rfl, T0⟩ T0 ?_
        refine sw (core_assign (L _ rfl)) ⟨rfl, T0⟩ T0 ?_
        refine sw (core_assign (L _ rfl)) ⟨rfl, T0⟩ T0 ?_
        refine seq_nil ⟨[(2, _), (3, _)], [], ⟨rfl, rfl, T0⟩, trivial, ?_⟩
        refine ex_ret ?_
        refine ⟨.inr rfl, ResVs.cast (.cons (.tmp rfl) (.cons (.tmp rfl) .nil)) ?_⟩
        rw [if_pos ⟨hc, hx⟩, if_pos hc, if_pos hx, hn, huv]; simp [sg]

end Go.Proofs.YtebkelnibecmjaaDoor.N
namespace Go.Proofs.YtebkelnibecmjaaDoor.N
open Go Go.Proofs.YtebkelnibecmjaaDoor.SH Go.Proofs.YtebkelnibecmjaaDoor.NumA
set_option maxRecDepth 100000 in
set_option maxHeartbeats 4000000 in
theorem rclone_says (neg : Bool) (ws : List Int) (hl : ws.length < 1000000000) : Says E 51 [pI neg ws] (pI neg ws) := by
  refine says_of (xs := [pI neg ws]) Tryd.func51 rfl Tryd.ntmps51 Tryd.results51 (by simp) fun F hG hX0 hnt hdf P0 => ?_
  have L := ltn hnt
  have hX : ∀ b, F.X b → E.ng ≤ b := fun b h => absurd h (hX0 b)
  have hN := ng_le hG
  refine exr ?_
  refine swb (core_box (k := 1) (n := 2) (.pagg (.cons (.cons .nil))) rfl rfl (P0 _ rfl) (L _ rfl)) ⟨rfl, T0⟩ T0 ⟨rfl, rfl⟩ ?_
  refine swb (core_alloc (k := 2) (n := 2) Tryd.zeroValue24 (.cons rfl (.cons rfl .nil)) rfl (P0 _ rfl) (L _ rfl)) trivial trivial ⟨rfl, rfl⟩ ?_
  refine seq_nil ⟨[(1, _), (2, _)], [(1, _), (2, _)], ⟨rfl, rfl, T0⟩, ⟨rfl, rfl, T0⟩, ?_⟩
  refine exd (by rfl) ?_
  refine sw (core_fieldAddr Tryd.underlying24 rfl Tryd.sizeOf4 (by decide) (by exact rfl) (L _ rfl)) ⟨rfl, T0⟩ ⟨rfl, T0⟩ ?_
  refine sw (core_load1 Tryd.isAgg4 (by rfl) (by rfl) (L _ rfl)) ⟨rfl, T0⟩ ⟨rfl, T0⟩ ?_
  refine swb (core_bs0R (k := 5) (sz := 1) Tryd.underlying22 Tryd.typeInfo53 (P0 _ rfl) (L _ rfl)) trivial trivial ⟨rfl, rfl⟩ ?_
  refine sw (core_fieldAddr Tryd.underlying24 rfl Tryd.sizeOf22 (by decide) (by exact rfl) (L _ rfl)) ⟨rfl, T0⟩ ⟨rfl, T0⟩ ?_
  refine sw (core_load1 Tryd.isAgg22 (by rfl) (by rfl) (L _ rfl)) ⟨rfl, T0⟩ ⟨rfl, T0⟩ ?_
  refine swb (apP (sz := 1) Tryd.underlying22 Tryd.underlying22 Tryd.typeInfo53 rfl rfl rfl (by decide) (by exact rfl) (by omega) (by simp) rfl rfl rfl (by first | (simp [Tryd.t53]; done) | (simp [Tryd.t53]; omega)) (by omega) (P0 _ rfl) (L _ rfl)) ⟨rfl, rfl, T0⟩ ⟨rfl, T0⟩ T0 ?_
  refine sw (core_buildA (vs := [_, _]) Tryd.underlying24 Tryd.zeroValue24 (.cons rfl (.cons rfl .nil)) ((Places.cons Tryd.sizeOf4 (Places.cons Tryd.sizeOf22 Places.nil))).to rfl (.cons rfl (.atom rfl) rfl (.put .here) (.cons rfl .ref rfl (.skip (.put .here)) .nil)) (L _ rfl)) ⟨rfl, rfl, T0⟩ T0 ?_
  refine sb (core_storeM Tryd.sizeOf24 (by rfl) .agg rfl (.put (.put .here))) ⟨rfl, rfl, T0⟩ ⟨rfl, T0⟩ ?_
  refine seq_nil ⟨aok rfl rfl, [(2, _)], [(2, _), (5, _)], ⟨rfl, T0⟩, ⟨rfl, rfl, T0⟩, ?_⟩
  refine ex_cv [5] (sl := [(2, _)]) (hb := [(2, _)]) (own_none hX0) ⟨⟨_, rfl, .same⟩, T0⟩ ⟨⟨rfl, _, rfl, (.mix (.cons .same (.cons (.ref rfl rfl (by exact (by simp)) (by first | rfl | omega)) .nil)))⟩, T0⟩ ?_
  refine ex_ret ?_
  refine ⟨.inr rfl, ResVs.cast (.cons (.agg rfl rfl rfl Tryd.isAgg24 Tryd.sizeOf24 (.cons (.cons .nil))) .nil) ?_⟩
  simp

set_option maxRecDepth 100000 in
set_option maxHeartbeats 4000000 in
theorem rstays_says (m n : Bool) (ws vs : List Int) (hl : ws.length < 1000000000) (hl2 : vs.length < 1000000000) : Says E 52 [pI m ws, pI n vs] (bZ (decide (m = n ∧ ws = vs))) := by
  refine says_of (xs := [bZ (decide (m = n ∧ ws = vs))]) Tryd.func52 rfl Tryd.ntmps52 Tryd.results52 (by simp) fun F hG hX0 hnt hdf P0 => ?_
  have L := ltn hnt
  have hX : ∀ b, F.X b → E.ng ≤ b := fun b h => absurd h (hX0 b)
  have hN := ng_le hG
  refine exr ?_
  refine swb (core_box (k := 2) (n := 2) (.pagg (.cons (.cons .nil))) rfl rfl (P0 _ rfl) (L _ rfl)) ⟨rfl, T0⟩ T0 ⟨rfl, rfl⟩ ?_
  refine swb (core_box (k := 3) (n := 2) (.pagg (.cons (.cons .nil))) rfl rfl (P0 _ rfl) (L _ rfl)) ⟨rfl, T0⟩ T0 ⟨rfl, rfl⟩ ?_
  refine sw (core_assign (L _ rfl)) ⟨rfl, T0⟩ T0 ?_
  refine seq_nil ⟨[(2, _), (3, _)], [(2, _), (3, _)], ⟨rfl, rfl, T0⟩, ⟨rfl, rfl, T0⟩, ?_⟩
  refine ex_seq ?_
  refine exm (sl := [(19, vb (!decide (m = n ∧ ws.length = vs.length)))]) (sl0 := [(2, _), (3, _)]) (hb := []) (hb0 := [(2, _), (3, _)]) ⟨rfl, rfl, T0⟩ ⟨rfl, rfl, T0⟩ ?_ ?_
  · by_cases hc : m = n
    · refine sw (core_fieldAddr Tryd.underlying24 rfl Tryd.sizeOf4 (by decide) (by exact rfl) (L _ rfl)) ⟨rfl, T0⟩ ⟨rfl, T0⟩ ?_
      refine sw (core_load1 Tryd.isAgg4 (by rfl) (by rfl) (L _ rfl)) ⟨rfl, T0⟩ ⟨rfl, T0⟩ ?_
      refine sw (core_fieldAddr Tryd.underlying24 rfl Tryd.sizeOf4 (by decide) (by exact rfl) (L _ rfl)) ⟨rfl, T0⟩ ⟨rfl, T0⟩ ?_
      refine sw (core_load1 Tryd.isAgg4 (by rfl) (by rfl) (L _ rfl)) ⟨rfl, T0⟩ ⟨rfl, T0⟩ ?_
      refine sw (core_bne Tryd.underlying4 (L _ rfl)) ⟨rfl, rfl, T0⟩ T0 ?_
      refine sw (core_move (L _ rfl)) ⟨rfl, T0⟩ T0 ?_
      refine swg (g := 11) rfl (by simp [hc]) (core_fieldAddr Tryd.underlying24 rfl Tryd.sizeOf22 (by decide) (by exact rfl) (L _ rfl)) rfl ⟨rfl, T0⟩ ⟨rfl, T0⟩ ?_
      refine swg (g := 11) rfl (by simp [hc]) (core_load1 Tryd.isAgg22 (by rfl) (by rfl) (L _ rfl)) rfl ⟨rfl, T0⟩ ⟨rfl, T0⟩ ?_
      refine swg (g := 11) rfl (by simp [hc]) (core_len Tryd.underlying22 (L _ rfl)) rfl ⟨rfl, T0⟩ T0 ?_
      refine swg (g := 11) rfl (by simp [hc]) (core_fieldAddr Tryd.underlying24 rfl Tryd.sizeOf22 (by decide) (by exact rfl) (L _ rfl)) rfl ⟨rfl, T0⟩ ⟨rfl, T0⟩ ?_
      refine swg (g := 11) rfl (by simp [hc]) (core_load1 Tryd.isAgg22 (by rfl) (by rfl) (L _ rfl)) rfl ⟨rfl, T0⟩ ⟨rfl, T0⟩ ?_
      refine swg (g := 11) rfl (by simp [hc]) (core_len Tryd.underlying22 (L _ rfl)) rfl ⟨rfl, T0⟩ T0 ?_
      refine swg (g := 11) rfl (by simp [hc]) (core_neq (L _ rfl)) rfl ⟨rfl, rfl, T0⟩ T0 ?_
      refine sw (core_pick_f (by simp [hc]) (L _ rfl)) ⟨rfl, rfl, T0⟩ T0 ?_
      exact seq_nil ⟨⟨ob rfl (by simp [hc]; omega), rfl, rfl, T0⟩, ⟨rfl, rfl, T0⟩⟩
    · refine sw (core_fieldAddr Tryd.underlying24 rfl Tryd.sizeOf4 (by decide) (by exact rfl) (L _ rfl)) ⟨rfl, T0⟩ ⟨rfl, T0⟩ ?_
      refine sw (core_load1 Tryd.isAgg4 (by rfl) (by rfl) (L _ rfl)) ⟨rfl, T0⟩ ⟨rfl, T0⟩ ?_
      refine sw (core_fieldAddr Tryd.underlying24 rfl Tryd.sizeOf4 (by decide) (by exact rfl) (L _ rfl)) ⟨rfl, T0⟩ ⟨rfl, T0⟩ ?_
      refine sw (core_load1 Tryd.isAgg4 (by rfl) (by rfl) (L _ rfl)) ⟨rfl, T0⟩ ⟨rfl, T0⟩ ?_
      refine sw (core_bne Tryd.underlying4 (L _ rfl)) ⟨rfl, rfl, T0⟩ T0 ?_
      refine sw (core_move (L _ rfl)) ⟨rfl, T0⟩ T0 ?_
      refine swn (g := 11) rfl (by simpa using hc) (L _ rfl) rfl ?_
      refine swn (g := 11) rfl (by simpa using hc) (L _ rfl) rfl ?_
      refine swn (g := 11) rfl (by simpa using hc) (L _ rfl) rfl ?_
      refine swn (g := 11) rfl (by simpa using hc) (L _ rfl) rfl ?_
      refine swn (g := 11) rfl (by simpa using hc) (L _ rfl) rfl ?_
      refine swn (g := 11) rfl (by simpa using hc) (L _ rfl) rfl ?_
      refine swn (g := 11) rfl (by simpa using hc) (L _ rfl) rfl ?_
      refine sw (core_pick_t (by simpa using hc) (L _ rfl)) ⟨rfl, rfl, T0⟩ T0 ?_
      exact seq_nil ⟨⟨ob rfl (by simp [hc]), rfl, rfl, T0⟩, ⟨rfl, rfl, T0⟩⟩
  refine ex_if rfl (fun hd => ?_) (fun hd => ?_)
  · have hd : ¬ (m = n ∧ ws.length = vs.length) := by rintro ⟨h1, h2⟩; simp [h1, h2] at hd
    refine exr ?_
    refine sw (core_assign (L _ rfl)) ⟨rfl, T0⟩ T0 ?_
    refine seq_nil ⟨[(4, _)], [], ⟨rfl, T0⟩, trivial, ?_⟩
    refine ex_ret ?_
    refine ⟨.inr rfl, ResVs.cast (.cons (.tmp rfl) .nil) ?_⟩
    rw [eq_comm]; congr 3; simp only [decide_eq_false_iff_not]; exact fun h => hd ⟨h.1, by rw [h.2]⟩
  · have hd : m = n ∧ ws.length = vs.length := by simpa using hd
    refine ex_skip (show Exec _ _ _ _ _ from ?_)
    refine ex_seq ?_
    refine exr ?_
    refine sw (core_assign (L _ rfl)) ⟨rfl, T0⟩ T0 ?_
    refine seq_nil ⟨[(2, _), (3, _), (5, _)], [(2, _), (3, _)], ⟨rfl, rfl, rfl, T0⟩, ⟨rfl, rfl, T0⟩, ?_⟩
    refine ex_block ?_
    refine exl (α := Nat) (fun i => [(5, vi (i:Int))]) (fun i => []) (fun i => i ≤ ws.length ∧ ws.take i = vs.take i) (fun i => ws.length - i) (0) (sl := [(2, _), (3, _)]) (hb := [(2, _), (3, _)]) ?_ ⟨(by first | exact rfl | exact oi (by omega) rfl), rfl, rfl, T0⟩ ⟨rfl, rfl, T0⟩ ?_
    · exact ⟨Nat.zero_le _, rfl⟩
    intro i hi
    refine ex_seq ?_
    refine exr ?_
    refine sw (core_move (L _ rfl)) ⟨rfl, T0⟩ T0 ?_
    refine sw (core_fieldAddr Tryd.underlying24 rfl Tryd.sizeOf22 (by decide) (by exact rfl) (L _ rfl)) ⟨rfl, T0⟩ ⟨rfl, T0⟩ ?_
    refine sw (core_load1 Tryd.isAgg22 (by rfl) (by rfl) (L _ rfl)) ⟨rfl, T0⟩ ⟨rfl, T0⟩ ?_
    refine sw (core_len Tryd.underlying22 (L _ rfl)) ⟨rfl, T0⟩ T0 ?_
    refine sw (core_lss (L _ rfl)) ⟨rfl, rfl, T0⟩ T0 ?_
    refine seq_nil ⟨[(2, _), (3, _), (5, _), (24, _)], [(2, _), (3, _)], ⟨rfl, rfl, rfl, rfl, T0⟩, ⟨rfl, rfl, T0⟩, ?_⟩
    refine ex_if rfl (fun he => ?_) (fun he => ?_)
    · have he := dt he
      refine ex_skip (show Exec _ _ _ _ _ from ?_)
      refine ex_seq ?_
      refine ex_block ?_
      refine exd (by rfl) ?_
      refine sw (core_fieldAddr Tryd.underlying24 rfl Tryd.sizeOf22 (by decide) (by exact rfl) (L _ rfl)) ⟨rfl, T0⟩ ⟨rfl, T0⟩ ?_
      refine sw (core_load1 Tryd.isAgg22 (by rfl) (by rfl) (L _ rfl)) ⟨rfl, T0⟩ ⟨rfl, T0⟩ ?_
      refine sw (core_move (L _ rfl)) ⟨rfl, T0⟩ T0 ?_
      refine sw (ixJ Tryd.underlying22 Tryd.sizeOf53 (j := i) (by first | exact rfl | omega) (by omega) (by simp) (L _ rfl)) ⟨rfl, rfl, T0⟩ T0 ?_
      refine sw (core_loadI1 Tryd.isAgg53 (by first | exact getW (by omega) | rfl) (L _ rfl)) ⟨rfl, T0⟩ T0 ?_
      refine sw (core_fieldAddr Tryd.underlying24 rfl Tryd.sizeOf22 (by decide) (by exact rfl) (L _ rfl)) ⟨rfl, T0⟩ ⟨rfl, T0⟩ ?_
      refine sw (core_load1 Tryd.isAgg22 (by rfl) (by rfl) (L _ rfl)) ⟨rfl, T0⟩ ⟨rfl, T0⟩ ?_
      refine sw (core_move (L _ rfl)) ⟨rfl, T0⟩ T0 ?_
      refine sw (ixJ Tryd.underlying22 Tryd.sizeOf53 (j := i) (by first | exact rfl | omega) (by omega) (by simp) (L _ rfl)) ⟨rfl, rfl, T0⟩ T0 ?_
      refine sw (core_loadI1 Tryd.isAgg53 (by first | exact getW (by omega) | rfl) (L _ rfl)) ⟨rfl, T0⟩ T0 ?_
      refine sw (core_neq (L _ rfl)) ⟨rfl, rfl, T0⟩ T0 ?_
      refine seq_nil ⟨aoks [⟨[2], [2], [27], []⟩, ⟨[27], [2], [28], []⟩, ⟨[5], [], [29], []⟩, ⟨[28, 29], [], [30], []⟩, ⟨[30], [], [31], []⟩, ⟨[3], [3], [32], []⟩, ⟨[32], [3], [33], []⟩, ⟨[5], [], [34], []⟩, ⟨[33, 34], [], [35], []⟩, ⟨[35], [], [36], []⟩, ⟨[31, 36], [], [37], []⟩] (by rfl) (by rfl) (by decide), [(2, _), (3, _), (5, _), (37, _)], [(2, _), (3, _)], ⟨rfl, rfl, rfl, rfl, T0⟩, ⟨rfl, rfl, T0⟩, ?_⟩
      refine ex_if rfl (fun hf => ?_) (fun hf => ?_)
      · have hf := ndt hf
        refine exr ?_
        refine sw (core_assign (L _ rfl)) ⟨rfl, T0⟩ T0 ?_
        refine seq_nil ⟨[(4, _)], [], ⟨rfl, T0⟩, trivial, ?_⟩
        refine ex_ret ?_
        refine ⟨.inr rfl, ResVs.cast (.cons (.tmp rfl) .nil) ?_⟩
        rw [eq_comm]; congr 3; simp only [decide_eq_false_iff_not]; exact fun h => hf (by rw [h.2])
      · have hf := ndf hf
        refine ex_skip (show Exec _ _ _ _ _ from ?_)
        refine exr0 ?_
        refine sw (core_move (L _ rfl)) ⟨rfl, T0⟩ T0 ?_
        refine sw (core_add (L _ rfl) (w64 (by omega) (by omega))) ⟨rfl, rfl, T0⟩ T0 ?_
        refine sw (core_assign (L _ rfl)) ⟨rfl, T0⟩ T0 ?_
        refine seq_nil ?_
        exact ⟨i + 1, ⟨by omega, take_succ_eq (by omega) hd.2 hi.2 hf⟩, by omega, le_of ⟨(by first | exact rfl | exact oi (by omega) rfl), rfl, rfl, T0⟩ ⟨rfl, rfl, T0⟩⟩
    · have he := df he
      refine ex_exit (show Exec _ _ _ _ _ from ?_)
      refine exr ?_
      refine sw (core_assign (L _ rfl)) ⟨rfl, T0⟩ T0 ?_
      refine seq_nil ⟨[(4, _)], [], ⟨rfl, T0⟩, trivial, ?_⟩
      refine ex_ret ?_
      refine ⟨.inr rfl, ResVs.cast (.cons (.tmp rfl) .nil) ?_⟩
      have e : ws = vs := by have := hi.2; rwa [List.take_of_length_le (by omega), List.take_of_length_le (by omega)] at this
      rw [eq_comm]; congr 3; simp [hd.1, e]

set_option maxRecDepth 100000 in
set_option maxHeartbeats 4000000 in
theorem rbyWord_says (ws : List Int) (d : Int) (hl : ws.length < 999999999) (h : Wd ws) (hd : 0 < d ∧ d < 4294967296) : Says E 87 [pW ws, uZ d] (.tup [pW (digs (val ws / d).toNat), pW (digs (val ws % d).toNat)]) := by
  refine says_of (xs := [pW (digs (val ws / d).toNat), pW (digs (val ws % d).toNat)]) Tryd.func87 rfl Tryd.ntmps87 Tryd.results87 (by simp) fun F hG hX0 hnt hdf P0 => ?_
  have L := ltn hnt
  have hX : ∀ b, F.X b → E.ng ≤ b := fun b h => absurd h (hX0 b)
  have hN := ng_le hG
  have hv := val_nonneg h
  refine exr ?_
  refine sw (core_assign (L _ rfl)) ⟨rfl, T0⟩ T0 ?_
  refine sw (core_assign (L _ rfl)) ⟨rfl, T0⟩ T0 ?_
  refine seq_nil ⟨[(0, _), (1, _)], [], ⟨rfl, rfl, T0⟩, trivial, ?_⟩
  refine exr ?_
  refine sw (core_move (L _ rfl)) ⟨rfl, T0⟩ T0 ?_
  refine sw (core_len Tryd.underlying22 (L _ rfl)) ⟨rfl, T0⟩ T0 ?_
  refine swb (core_make1 (k := 11) Tryd.underlying22 Tryd.typeInfo53 rfl rfl rfl rfl rfl rfl (Nat.le_refl _) (by simp [Tryd.t53]; omega) (by omega) (P0 _ rfl) (L _ rfl)) ⟨rfl, rfl, T0⟩ T0 ⟨rfl, rfl⟩ ?_
  refine sw (core_assign (L _ rfl)) ⟨rfl, T0⟩ T0 ?_
  refine seq_nil ⟨[(0, _), (1, _), (4, _)], [(11, _)], ⟨rfl, rfl, rfl, T0⟩, ⟨rfl, T0⟩, ?_⟩
  refine exr ?_
  refine sw (core_assign (L _ rfl)) ⟨rfl, T0⟩ T0 ?_
  refine seq_nil ⟨[(0, _), (1, _), (4, _), (6, _)], [(11, _)], ⟨rfl, rfl, rfl, rfl, T0⟩, ⟨rfl, T0⟩, ?_⟩
  refine ex_seq ?_
  refine exr ?_
  refine sw (core_move (L _ rfl)) ⟨rfl, T0⟩ T0 ?_
  refine sw (core_len Tryd.underlying22 (L _ rfl)) ⟨rfl, T0⟩ T0 ?_
  refine sw (core_sub (L _ rfl) (w64 (by omega) (by omega))) ⟨rfl, rfl, T0⟩ T0 ?_
  refine sw (core_assign (L _ rfl)) ⟨rfl, T0⟩ T0 ?_
  refine seq_nil ⟨[(0, _), (1, _), (4, _), (6, _), (7, _)], [(11, _)], ⟨rfl, rfl, rfl, rfl, rfl, T0⟩, ⟨rfl, T0⟩, ?_⟩
  refine ex_block ?_
  refine exl (α := (Nat × List Int × Int)) (fun x => [(7, vi ((x.1:Int) - 1)), (6, vw x.2.2)]) (fun x => [(11, ⟨53, 1, .pure (encW (List.replicate x.1 0 ++ x.2.1))⟩)]) (fun x => ShortAt ws d x) (fun x => x.1) ((ws.length, ([] : List Int), (0 : Int))) (sl := [(0, _), (1, _), (4, _)]) (hb := []) ?_ ⟨(by first | exact rfl | exact oi (by omega) rfl), (by first | exact rfl | exact oi (by omega) rfl), rfl, rfl, rfl, T0⟩ ⟨obl rfl (by rw [encW_rep]; simp), T0⟩ ?_
  · exact ShortAt.start ws d
  intro x hx
  obtain ⟨n, qs, r⟩ := x
  have hle := hx.le
  have hq : qs.length = ws.length - n := by have := hx.q; simp only at this; rw [this, digN_length]
  have hr : 0 ≤ r ∧ r < d := by have := hx.r; simp only at this; rw [this]; exact ⟨Int.emod_nonneg _ (by omega), Int.emod_lt_of_pos _ hd.1⟩
  simp only at hle
  dsimp only
  refine ex_seq ?_
  refine exr ?_
  refine sw (core_move (L _ rfl)) ⟨rfl, T0⟩ T0 ?_
  refine sw (core_geq (L _ rfl)) ⟨rfl, rfl, T0⟩ T0 ?_
  refine seq_nil ⟨[(0, _), (1, _), (4, _), (6, _), (7, _), (16, _)], [(11, _)], ⟨rfl, rfl, rfl, rfl, rfl, rfl, T0⟩, ⟨rfl, T0⟩, ?_⟩
  refine ex_if rfl (fun he => ?_) (fun he => ?_)
  · have he := dt he
    obtain ⟨key, k1, k2⟩ := hx.next h hd.1 (by omega)
    have hw := h.getD (n - 1)
    refine ex_skip (show Exec _ _ _ _ _ from ?_)
    refine ex_seq ?_
    refine ex_block ?_
    refine exr ?_
    refine sw (core_move (L _ rfl)) ⟨rfl, T0⟩ T0 ?_
    refine sw (core_shl (L _ rfl) (by decide) (shlE (c := 4294967296) (by rfl) (fu64 (by omega) (by omega)))) ⟨rfl, rfl, T0⟩ T0 ?_
    refine sw (core_move (L _ rfl)) ⟨rfl, T0⟩ T0 ?_
    refine sw (core_move (L _ rfl)) ⟨rfl, T0⟩ T0 ?_
    refine sw (ixJ Tryd.underlying22 Tryd.sizeOf53 (j := n - 1) (by first | exact rfl | omega) (by omega) (by simp) (L _ rfl)) ⟨rfl, rfl, T0⟩ T0 ?_
    refine sw (core_loadI1 Tryd.isAgg53 (by first | exact getW (by omega) | rfl) (L _ rfl)) ⟨rfl, T0⟩ T0 ?_
    refine sw (core_conv Tryd.underlying53 Tryd.underlying52 (L _ rfl) (fu64 (by omega) (by omega))) ⟨rfl, T0⟩ T0 ?_
    refine sw (core_or (L _ rfl) (or64' (b := r) 32 rfl hw.1 hw.2 hr.1 (by decide) (by omega) (by omega))) ⟨rfl, rfl, T0⟩ T0 ?_
    refine sw (core_assign (L _ rfl)) ⟨rfl, T0⟩ T0 ?_
    refine seq_nil ⟨[(0, _), (1, _), (4, _), (7, _), (8, vw (r * 4294967296 + ws.getD (n - 1) 0))], [(11, _)], ⟨rfl, rfl, rfl, rfl, oi (by omega) rfl, T0⟩, ⟨rfl, T0⟩, ?_⟩
    refine exr ?_
    refine sw (core_move (L _ rfl)) ⟨rfl, T0⟩ T0 ?_
    refine sw (core_move (L _ rfl)) ⟨rfl, T0⟩ T0 ?_
    refine sw (core_move (L _ rfl)) ⟨rfl, T0⟩ T0 ?_
    refine sw (core_move (L _ rfl)) ⟨rfl, T0⟩ T0 ?_
    refine sw (core_quo (L _ rfl) (by omega) (tdivE (by omega) (by omega))) ⟨rfl, rfl, T0⟩ T0 ?_
    refine sw (core_conv Tryd.underlying52 Tryd.underlying53 (L _ rfl) (fu32 (by omega) (by omega))) ⟨rfl, T0⟩ T0 ?_
    refine sw (ixR0 Tryd.underlying22 Tryd.sizeOf53 (by exact (by simp; omega)) (j := n - 1) (by first | exact rfl | omega) (by omega) (L _ rfl)) ⟨rfl, rfl, T0⟩ ⟨rfl, T0⟩ ?_
    refine sb (core_store1 Tryd.sizeOf53 (by exact (by simp; omega)) (.atom rfl) (by omega)) ⟨rfl, rfl, T0⟩ ⟨rfl, T0⟩ ?_
    refine seq_nil ⟨[(0, _), (1, _), (4, _), (7, _), (8, _)], [(11, _)], ⟨rfl, rfl, rfl, rfl, rfl, T0⟩, ⟨rfl, T0⟩, ?_⟩
    refine exr0 ?_
    refine sw (core_move (L _ rfl)) ⟨rfl, T0⟩ T0 ?_
    refine sw (core_move (L _ rfl)) ⟨rfl, T0⟩ T0 ?_
    refine sw (core_rem (L _ rfl) (by omega) (tmodE (by omega) (by omega))) ⟨rfl, rfl, T0⟩ T0 ?_
    refine sw (core_assign (L _ rfl)) ⟨rfl, T0⟩ T0 ?_
    refine seq_nil ?_
    refine exr0 ?_
    refine sw (core_move (L _ rfl)) ⟨rfl, T0⟩ T0 ?_
    refine sw (core_sub (L _ rfl) (w64 (by omega) (by omega))) ⟨rfl, rfl, T0⟩ T0 ?_
    refine sw (core_assign (L _ rfl)) ⟨rfl, T0⟩ T0 ?_
    refine seq_nil ?_
    exact ⟨(n - 1, (r * 4294967296 + ws.getD (n - 1) 0) / d :: qs, (r * 4294967296 + ws.getD (n - 1) 0) % d), key, (by simp only; omega), le_of ⟨(by first | exact rfl | exact oi (by omega) rfl), (by first | exact rfl | exact oi (by omega) rfl), rfl, rfl, rfl, T0⟩ ⟨obl rfl (by rw [encW_set, set_last (by simp; omega)]; simp), T0⟩⟩
  · have he := df he
    have hn : n = 0 := by omega
    subst hn
    have e1 : r = val ws % d := by simpa using hx.r
    have e2 : qs = digN ws.length (val ws / d) := by simpa using hx.q
    have hql : qs.length = ws.length := by omega
    refine ex_exit (show Exec _ _ _ _ _ from ?_)
    refine ex_cv [11] (sl := [(4, _), (6, _)]) (hb := []) (own_none hX0) ⟨⟨_, rfl, (.ref rfl rfl (by exact (by simp; omega)) (by first | rfl | omega))⟩, ⟨_, rfl, .same⟩, T0⟩ T0 ?_
    rw [← hql]
    simp only [List.replicate_zero, List.nil_append]
    refine exr ?_
    refine sw (core_move (L _ rfl)) ⟨rfl, T0⟩ T0 ?_
    refine sw (core_call (E := E) hG hX Tryd.call76 rfl hN (rtrim_says qs (by omega)) (L _ rfl)) ⟨rfl, T0⟩ T0 ?_
    refine sw (core_move (L _ rfl)) ⟨rfl, T0⟩ T0 ?_
    refine sw (core_conv Tryd.underlying52 Tryd.underlying53 (L _ rfl) (fu32 (by omega) (by omega))) ⟨rfl, T0⟩ T0 ?_
    refine sw (core_bsI (vs := [_]) Tryd.underlying22 Tryd.typeInfo53 rfl rfl (by decide) (by decide) rfl (zs_made (.cons rfl .nil) rfl) rfl (.cons rfl (.atom rfl) rfl (.put .here) .nil) (.cons .nil) (L _ rfl)) ⟨rfl, T0⟩ T0 ?_
    refine sw (core_call (E := E) hG hX Tryd.call76 rfl hN (rtrim_says [r] (by simp)) (L _ rfl)) ⟨rfl, T0⟩ T0 ?_
    refine sw (core_assign (L _ rfl)) ⟨rfl, T0⟩ T0 ?_
    refine sw (core_assign (L _ rfl)) ⟨rfl, T0⟩ T0 ?_
    refine seq_nil ⟨[(4, _), (5, _)], [], ⟨rfl, rfl, T0⟩, trivial, ?_⟩
    refine ex_ret ?_
    refine ⟨.inr rfl, ResVs.cast (.cons (.tmp rfl) (.cons (.tmp rfl) .nil)) ?_⟩
    have q1 : 0 ≤ val ws / d := Int.ediv_nonneg hv (by omega)
    have q2 : val ws / d < 4294967296 ^ ws.length := by
      have := val_lt h
      have h3 : val ws / d ≤ val ws := Int.ediv_le_self _ hv
      omega
    rw [trim_eq_digs (by rw [e2]; exact digN_wd _ _), trim_eq_digs (ws := [r]) (by simp [Wd]; omega), e2, val_digN q1 q2, ← e1]
    simp [val]

end Go.Proofs.YtebkelnibecmjaaDoor.N
namespace Go.Proofs.YtebkelnibecmjaaDoor.N
open Go Go.Proofs.YtebkelnibecmjaaDoor.SH Go.Proofs.YtebkelnibecmjaaDoor.NumA
set_option maxRecDepth 100000 in
set_option maxHeartbeats 4000000 in
theorem runshift_says (ws : List Int) (s : Nat) (hl : ws.length < 100000000) (h : Wd ws) (hs : s ≤ 32) : Says E 88 [pW ws, vZ s] (pW (digs (val ws / 2 ^ s).toNat)) := by
  refine says_of (xs := [pW (digs (val ws / 2 ^ s).toNat)]) Tryd.func88 rfl Tryd.ntmps88 Tryd.results88 (by simp) fun F hG hX0 hnt hdf P0 => ?_
  have L := ltn hnt
  have hX : ∀ b, F.X b → E.ng ≤ b := fun b h => absurd h (hX0 b)
  have hN := ng_le hG
  have hv := val_nonneg h
  obtain ⟨n, hn⟩ : ∃ n, n = ws.length := ⟨_, rfl⟩
  refine exr ?_
  refine sw (core_assign (L _ rfl)) ⟨rfl, T0⟩ T0 ?_
  refine seq_nil ⟨[(0, _), (1, _)], [], ⟨rfl, rfl, T0⟩, trivial, ?_⟩
  refine exr ?_
  refine sw (core_assign (L _ rfl)) ⟨rfl, T0⟩ T0 ?_
  refine seq_nil ⟨[(0, _), (1, _), (5, _)], [], ⟨rfl, rfl, rfl, T0⟩, trivial, ?_⟩
  refine ex_seq ?_
  refine exr ?_
  refine sw (core_assign (L _ rfl)) ⟨rfl, T0⟩ T0 ?_
  refine seq_nil ⟨[(0, _), (1, _), (5, _), (6, _)], [], ⟨rfl, rfl, rfl, rfl, T0⟩, trivial, ?_⟩
  refine ex_block ?_
  refine exlp (α := (Nat × List Int)) (fun x => [(6, vi (x.1:Int)), (5, .ref 27 0 x.2.length x.2.length)]) (fun x => [(27, ⟨53, 1, .pure (encW x.2)⟩)]) (fun x => UnAt ws s x ∧ 0 < x.1) (fun x => n - x.1) (n + 1) (sl := [(0, _), (1, _)]) (hb := []) ⟨rfl, rfl, T0⟩ T0 ?_ ?_
  · refine ex_seq ?_
    refine exr ?_
    refine sw (core_move (L _ rfl)) ⟨rfl, T0⟩ T0 ?_
    refine sw (core_move (L _ rfl)) ⟨rfl, T0⟩ T0 ?_
    refine sw (core_len Tryd.underlying22 (L _ rfl)) ⟨rfl, T0⟩ T0 ?_
    refine sw (core_lss (L _ rfl)) ⟨rfl, rfl, T0⟩ T0 ?_
    refine seq_nil ⟨[(0, _), (1, _), (5, _), (6, _), (10, _)], [], ⟨rfl, rfl, rfl, rfl, rfl, T0⟩, trivial, ?_⟩
    refine ex_if rfl (fun hd => ?_) (fun hd => ?_)
    · have hd := dt hd
      have hw := h.getD 0
      have hw1 := h.getD 1
      have key := (UnAt.zero ws s).next h hs (by omega)
      have hb := shr_bd (s := s) (a := ws.getD 0 0 + ws.getD 1 0 * 4294967296) (by omega) (by omega)
      refine ex_skip (show Exec _ _ _ _ _ from ?_)
      refine ex_seq ?_
      refine ex_block ?_
      refine exr0 ?_
      refine sw (core_move (L _ rfl)) ⟨rfl, T0⟩ T0 ?_
      refine sw (core_move (L _ rfl)) ⟨rfl, T0⟩ T0 ?_
      refine sw (core_move (L _ rfl)) ⟨rfl, T0⟩ T0 ?_
      refine sw (core_call (E := E) hG hX Tryd.call54 rfl hN (rword_says ws (by omega) h 0 (by omega)) (L _ rfl)) ⟨rfl, rfl, T0⟩ T0 ?_
      refine sw (core_move (L _ rfl)) ⟨rfl, T0⟩ T0 ?_
      refine sw (core_move (L _ rfl)) ⟨rfl, T0⟩ T0 ?_
      refine sw (core_add (L _ rfl) (w64 (by omega) (by omega))) ⟨rfl, rfl, T0⟩ T0 ?_
      refine sw (core_call (E := E) hG hX Tryd.call54 rfl hN (rword_says ws (by omega) h 1 (by omega)) (L _ rfl)) ⟨rfl, rfl, T0⟩ T0 ?_
      refine sw (core_shl (L _ rfl) (by decide) (shlE (c := 4294967296) (by rfl) (fu64 (by omega) (by omega)))) ⟨rfl, rfl, T0⟩ T0 ?_
      refine sw (core_or (L _ rfl) (or64 (b := ws.getD 1 0) 32 rfl hw.1 hw.2 hw1.1 (by decide) (by omega) (by omega))) ⟨rfl, rfl, T0⟩ T0 ?_
      refine sw (core_move (L _ rfl)) ⟨rfl, T0⟩ T0 ?_
      refine sw (core_shr (L _ rfl) (by omega) (shr64k (by omega))) ⟨rfl, rfl, T0⟩ T0 ?_
      refine sw (core_conv Tryd.underlying52 Tryd.underlying53 (L _ rfl) wu32) ⟨rfl, T0⟩ T0 ?_
      refine sw (core_bsI (vs := [_]) Tryd.underlying22 Tryd.typeInfo53 rfl rfl (by decide) (by decide) rfl (zs_made (.cons rfl .nil) rfl) rfl (.cons rfl (.atom rfl) rfl (.put .here) .nil) (.cons .nil) (L _ rfl)) ⟨rfl, T0⟩ T0 ?_
      refine swb (apN (k := 27) (sz := 1) Tryd.underlying22 Tryd.underlying22 Tryd.typeInfo53 rfl rfl rfl (by decide) (by simp) rfl (by first | (simp [Tryd.t53]; done) | (simp [Tryd.t53]; omega)) (by omega) (P0 _ rfl) (L _ rfl)) ⟨rfl, rfl, T0⟩ T0 ⟨rfl, rfl⟩ ?_
      refine sw (core_assign (L _ rfl)) ⟨rfl, T0⟩ T0 ?_
      refine seq_nil ?_
      refine exr0 ?_
      refine sw (core_move (L _ rfl)) ⟨rfl, T0⟩ T0 ?_
      refine sw (core_add (L _ rfl) (w64 (by omega) (by omega))) ⟨rfl, rfl, T0⟩ T0 ?_
      refine sw (core_assign (L _ rfl)) ⟨rfl, T0⟩ T0 ?_
      refine seq_nil ?_
      exact ⟨(1, [(ws.getD 0 0 + ws.getD 1 0 * 4294967296) / 2 ^ s % 4294967296]), ⟨key, Nat.one_pos⟩, (by simp only; omega), le_of ⟨(by first | exact rfl | exact oi (by omega) rfl), (by first | exact rfl | exact oi (by omega) rfl), rfl, rfl, T0⟩ ⟨rfl, T0⟩⟩
    · have hd := df hd
      have e1 : ws = [] := List.eq_nil_of_length_eq_zero (by omega)
      refine ex_exit (show Exec _ _ _ _ _ from ?_)
      refine ex_cv [] (sl := [(5, _)]) (hb := []) (own_none hX0) ⟨⟨_, rfl, (.p .nil)⟩, T0⟩ T0 ?_
      refine exr ?_
      refine sw (core_move (L _ rfl)) ⟨rfl, T0⟩ T0 ?_
      refine sw (core_call (E := E) hG hX Tryd.call76 rfl hN (rtrim_says [] (by simp)) (L _ rfl)) ⟨rfl, T0⟩ T0 ?_
      refine sw (core_assign (L _ rfl)) ⟨rfl, T0⟩ T0 ?_
      refine seq_nil ⟨[(4, _)], [], ⟨rfl, T0⟩, trivial, ?_⟩
      refine ex_ret ?_
      refine ⟨.inr rfl, ResVs.cast (.cons (.tmp rfl) .nil) ?_⟩
      rw [e1]; simp [trim, trimN, val, digs_zero]
  · intro x hx
    obtain ⟨i, ys⟩ := x
    obtain ⟨hx, hi0⟩ := hx
    have hlen := hx.len
    have hle := hx.le
    simp only at hlen hle hi0
    dsimp only
    refine ex_seq ?_
    refine exr ?_
    refine sw (core_move (L _ rfl)) ⟨rfl, T0⟩ T0 ?_
    refine sw (core_move (L _ rfl)) ⟨rfl, T0⟩ T0 ?_
    refine sw (core_len Tryd.underlying22 (L _ rfl)) ⟨rfl, T0⟩ T0 ?_
    refine sw (core_lss (L _ rfl)) ⟨rfl, rfl, T0⟩ T0 ?_
    refine seq_nil ⟨[(0, _), (1, _), (5, _), (6, _), (10, _)], [(27, _)], ⟨rfl, rfl, rfl, rfl, rfl, T0⟩, ⟨rfl, T0⟩, ?_⟩
    refine ex_if rfl (fun hd => ?_) (fun hd => ?_)
    · have hd := dt hd
      have hw := h.getD i
      have hw1 := h.getD (i + 1)
      have key := hx.next h hs (by omega)
      have hb := shr_bd (s := s) (a := ws.getD i 0 + ws.getD (i + 1) 0 * 4294967296) (by omega) (by omega)
      refine ex_skip (show Exec _ _ _ _ _ from ?_)
      refine ex_seq ?_
      refine ex_block ?_
      refine exr0 ?_
      refine sw (core_move (L _ rfl)) ⟨rfl, T0⟩ T0 ?_
      refine sw (core_move (L _ rfl)) ⟨rfl, T0⟩ T0 ?_
      refine sw (core_move (L _ rfl)) ⟨rfl, T0⟩ T0 ?_
      refine sw (core_call (E := E) hG hX Tryd.call54 rfl hN (rword_says ws (by omega) h i (by omega)) (L _ rfl)) ⟨rfl, rfl, T0⟩ T0 ?_
      refine sw (core_move (L _ rfl)) ⟨rfl, T0⟩ T0 ?_
      refine sw (core_move (L _ rfl)) ⟨rfl, T0⟩ T0 ?_
      refine sw (core_add (L _ rfl) (w64 (by omega) (by omega))) ⟨rfl, rfl, T0⟩ T0 ?_
      refine sw (core_call (E := E) hG hX Tryd.call54 rfl hN (rword_says ws (by omega) h (i + 1) (by omega)) (L _ rfl)) ⟨rfl, rfl, T0⟩ T0 ?_
      refine sw (core_shl (L _ rfl) (by decide) (shlE (c := 4294967296) (by rfl) (fu64 (by omega) (by omega)))) ⟨rfl, rfl, T0⟩ T0 ?_
      refine sw (core_or (L _ rfl) (or64 (b := ws.getD (i + 1) 0) 32 rfl hw.1 hw.2 hw1.1 (by decide) (by omega) (by omega))) ⟨rfl, rfl, T0⟩ T0 ?_
      refine sw (core_move (L _ rfl)) ⟨rfl, T0⟩ T0 ?_
      refine sw (core_shr (L _ rfl) (by omega) (shr64k (by omega))) ⟨rfl, rfl, T0⟩ T0 ?_
      refine sw (core_conv Tryd.underlying52 Tryd.underlying53 (L _ rfl) wu32) ⟨rfl, T0⟩ T0 ?_
      refine sw (core_bsI (vs := [_]) Tryd.underlying22 Tryd.typeInfo53 rfl rfl (by decide) (by decide) rfl (zs_made (.cons rfl .nil) rfl) rfl (.cons rfl (.atom rfl) rfl (.put .here) .nil) (.cons .nil) (L _ rfl)) ⟨rfl, T0⟩ T0 ?_
      refine swb (apP (sz := 1) Tryd.underlying22 Tryd.underlying22 Tryd.typeInfo53 rfl rfl rfl (by decide) (by exact (by simp)) (by omega) (by simp) rfl rfl rfl (by first | (simp [Tryd.t53]; done) | (simp [Tryd.t53]; omega)) (by omega) (P0 _ rfl) (L _ rfl)) ⟨rfl, rfl, T0⟩ ⟨rfl, T0⟩ T0 ?_
      refine sw (core_assign (L _ rfl)) ⟨rfl, T0⟩ T0 ?_
      refine seq_nil ?_
      refine exr0 ?_
      refine sw (core_move (L _ rfl)) ⟨rfl, T0⟩ T0 ?_
      refine sw (core_add (L _ rfl) (w64 (by omega) (by omega))) ⟨rfl, rfl, T0⟩ T0 ?_
      refine sw (core_assign (L _ rfl)) ⟨rfl, T0⟩ T0 ?_
      refine seq_nil ?_
      exact ⟨(i + 1, ys ++ [(ws.getD i 0 + ws.getD (i + 1) 0 * 4294967296) / 2 ^ s % 4294967296]), ⟨key, Nat.succ_pos _⟩, (by simp only; omega), le_of ⟨(by first | exact rfl | exact oi (by omega) rfl), ov rfl (by simp), rfl, rfl, T0⟩ ⟨obl rfl (by rw [encW_app]; rfl), T0⟩⟩
    · have hd := df hd
      have hi : i = ws.length := by omega
      subst hi
      have e := hx.end_
      refine ex_exit (show Exec _ _ _ _ _ from ?_)
      refine ex_cv [27] (sl := [(5, _)]) (hb := []) (own_none hX0) ⟨⟨_, rfl, (.ref rfl rfl (by exact (by simp)) (by first | rfl | omega))⟩, T0⟩ T0 ?_
      refine exr ?_
      refine sw (core_move (L _ rfl)) ⟨rfl, T0⟩ T0 ?_
      refine sw (core_call (E := E) hG hX Tryd.call76 rfl hN (rtrim_says ys (by omega)) (L _ rfl)) ⟨rfl, T0⟩ T0 ?_
      refine sw (core_assign (L _ rfl)) ⟨rfl, T0⟩ T0 ?_
      refine seq_nil ⟨[(4, _)], [], ⟨rfl, T0⟩, trivial, ?_⟩
      refine ex_ret ?_
      refine ⟨.inr rfl, ResVs.cast (.cons (.tmp rfl) .nil) ?_⟩
      rw [trim_eq_digs hx.wd]; simp only; rw [e]

end Go.Proofs.YtebkelnibecmjaaDoor.N
namespace Go.Proofs.YtebkelnibecmjaaDoor.N
open Go Go.Proofs.YtebkelnibecmjaaDoor.SH Go.Proofs.YtebkelnibecmjaaDoor.NumA
set_option maxRecDepth 100000 in
set_option maxHeartbeats 4000000 in
theorem rtrimR_says (ws : List Int) (hl : ws.length < 1000000000) : SaysR E 76 [.ref 1000 0 ws.length ws.length] [(1000, ⟨53, 1, .pure (encW ws)⟩)] [(1000, ⟨53, 1, .pure (encW ws)⟩)] (.ref 1000 0 (trimN ws ws.length) ws.length) := by
  refine saysR_of Tryd.func76 rfl Tryd.ntmps76 Tryd.results76 (by simp) rfl (sub_of rfl) fun F hG hX hnt hdf P0 hXp => ?_
  have L := ltn hnt
  have hN := ng_le hG
  refine exr ?_
  refine sw (core_assign (L _ rfl)) ⟨rfl, T0⟩ T0 ?_
  refine seq_nil ⟨[(0, _)], [(1000, _)], ⟨rfl, T0⟩, ⟨rfl, T0⟩, ?_⟩
  refine exr ?_
  refine sw (core_move (L _ rfl)) ⟨rfl, T0⟩ T0 ?_
  refine sw (core_lenR Tryd.underlying22 (by exact (by simp)) (L _ rfl)) ⟨rfl, T0⟩ ⟨rfl, T0⟩ ?_
  refine sw (core_assign (L _ rfl)) ⟨rfl, T0⟩ T0 ?_
  refine seq_nil ⟨[(0, _), (3, _)], [(1000, _)], ⟨rfl, rfl, T0⟩, ⟨rfl, T0⟩, ?_⟩
  refine ex_seq ?_
  refine ex_block ?_
  refine exl (α := Nat) (fun n => [(3, vi (n:Int))]) (fun n => []) (fun n => n ≤ ws.length ∧ trimN ws n = trimN ws ws.length) (fun n => n) (ws.length) (sl := [(0, _)]) (hb := [(1000, _)]) ?_ ⟨(by first | exact rfl | exact oi (by omega) rfl), rfl, T0⟩ ⟨rfl, T0⟩ ?_
  · exact ⟨Nat.le_refl _, rfl⟩
  intro n hn
  refine ex_seq ?_
  refine exm (sl := [(15, vb (decide (0 < n ∧ ws.getD (n - 1) 0 = 0)))]) (sl0 := [(0, _), (3, _)]) (hb := []) (hb0 := [(1000, _)]) ⟨rfl, rfl, T0⟩ ⟨rfl, T0⟩ ?_ ?_
  · by_cases h : n = 0
    · refine sw (core_move (L _ rfl)) ⟨rfl, T0⟩ T0 ?_
      refine sw (core_gtr (L _ rfl)) ⟨rfl, rfl, T0⟩ T0 ?_
      refine sw (core_move (L _ rfl)) ⟨rfl, T0⟩ T0 ?_
      refine swn (g := 8) rfl (by simp [h]) (L _ rfl) rfl ?_
      refine swn (g := 8) rfl (by simp [h]) (L _ rfl) rfl ?_
      refine swn (g := 8) rfl (by simp [h]) (L _ rfl) rfl ?_
      refine swn (g := 8) rfl (by simp [h]) (L _ rfl) rfl ?_
      refine swn (g := 8) rfl (by simp [h]) (L _ rfl) rfl ?_
      refine swn (g := 8) rfl (by simp [h]) (L _ rfl) rfl ?_
      refine sw (core_pick_f (by simp [h]) (L _ rfl)) ⟨rfl, rfl, T0⟩ T0 ?_
      exact seq_nil ⟨⟨ob rfl (by simp [h]), rfl, rfl, T0⟩, ⟨rfl, T0⟩⟩
    · refine sw (core_move (L _ rfl)) ⟨rfl, T0⟩ T0 ?_
      refine sw (core_gtr (L _ rfl)) ⟨rfl, rfl, T0⟩ T0 ?_
      refine sw (core_move (L _ rfl)) ⟨rfl, T0⟩ T0 ?_
      refine swg (g := 8) rfl (by simp; omega) (core_move (L _ rfl)) rfl ⟨rfl, T0⟩ T0 ?_
      refine swg (g := 8) rfl (by simp; omega) (core_move (L _ rfl)) rfl ⟨rfl, T0⟩ T0 ?_
      refine swg (g := 8) rfl (by simp; omega) (core_sub (L _ rfl) (w64 (by omega) (by omega))) rfl ⟨rfl, rfl, T0⟩ T0 ?_
      refine swg (g := 8) rfl (by simp; omega) (ixR0 Tryd.underlying22 Tryd.sizeOf53 (by exact (by simp)) (j := n - 1) (by first | exact rfl | omega) (by omega) (L _ rfl)) rfl ⟨rfl, rfl, T0⟩ ⟨rfl, T0⟩ ?_
      refine swg (g := 8) rfl (by simp; omega) (core_load1 Tryd.isAgg53 (by exact (by simp)) (getC (by first | exact getW (by omega) | rfl)) (L _ rfl)) rfl ⟨rfl, T0⟩ ⟨rfl, T0⟩ ?_
      refine swg (g := 8) rfl (by simp; omega) (core_eql (L _ rfl)) rfl ⟨rfl, rfl, T0⟩ T0 ?_
      refine sw (core_pick_t (by simp; omega) (L _ rfl)) ⟨rfl, rfl, T0⟩ T0 ?_
      exact seq_nil ⟨⟨ob rfl (by simp; omega), rfl, rfl, T0⟩, ⟨rfl, T0⟩⟩
  refine ex_if rfl (fun hc => ?_) (fun hc => ?_)
  · have hc := dt hc
    refine ex_skip (show Exec _ _ _ _ _ from ?_)
    refine ex_block ?_
    refine exr0 ?_
    refine sw (core_move (L _ rfl)) ⟨rfl, T0⟩ T0 ?_
    refine sw (core_sub (L _ rfl) (w64 (by omega) (by omega))) ⟨rfl, rfl, T0⟩ T0 ?_
    refine sw (core_assign (L _ rfl)) ⟨rfl, T0⟩ T0 ?_
    refine seq_nil ?_
    exact ⟨n - 1, ⟨by omega, by rw [← hn.2]; conv => rhs; rw [show n = (n - 1) + 1 by omega]; simp only [trimN, hc.2, if_true]⟩, by omega, le_of ⟨(by first | exact rfl | exact oi (by omega) rfl), rfl, T0⟩ ⟨rfl, T0⟩⟩
  · have hc := df hc
    have e : trimN ws ws.length = n := by
      rw [← hn.2]
      cases n with
      | zero => rfl
      | succ n => simp only [trimN]; rw [if_neg]; intro h; exact hc ⟨by omega, by simpa using h⟩
    rw [e]
    refine ex_exit (show Exec _ _ _ _ _ from ?_)
    refine exr ?_
    refine sw (core_move (L _ rfl)) ⟨rfl, T0⟩ T0 ?_
    refine sw (core_move (L _ rfl)) ⟨rfl, T0⟩ T0 ?_
    refine sw (slR_hi Tryd.underlying22 Tryd.sizeOf53 rfl (by exact (by simp)) (h := n) (by first | exact rfl | omega) (by omega) (L _ rfl)) ⟨rfl, rfl, T0⟩ ⟨rfl, T0⟩ ?_
    refine sw (core_assign (L _ rfl)) ⟨rfl, T0⟩ T0 ?_
    refine seq_nil ⟨[(2, _)], [(1000, _)], ⟨rfl, T0⟩, ⟨rfl, T0⟩, ?_⟩
    refine ex_ret ?_
    refine ⟨.inr rfl, rfl, ⟨rfl, T0⟩⟩

end Go.Proofs.YtebkelnibecmjaaDoor.N
namespace Go.Proofs.YtebkelnibecmjaaDoor.N
open Go Go.Proofs.YtebkelnibecmjaaDoor.SH Go.Proofs.YtebkelnibecmjaaDoor.NumA
set_option maxRecDepth 100000 in
set_option maxHeartbeats 4000000 in
theorem rshifted_says (ws : List Int) (k : Nat) (hl : ws.length < 100000000) (h : Wd ws) (hk : k < 100000000) : SaysO E 74 [pW ws, vZ k] 53 1 (digs (val ws * 2 ^ k).toNat).length (encW (digs (val ws * 2 ^ k).toNat)) := by
  refine saysO_of (k := 14) (tot := k / 32 + ws.length + 1) Tryd.func74 rfl Tryd.ntmps74 Tryd.results74 (by simp) fun F hG hX0 hnt hdf P0 => ?_
  have L := ltn hnt
  have hX : ∀ b, F.X b → E.ng ≤ b := fun b h => absurd h (hX0 b)
  have hN := ng_le hG
  obtain ⟨q, hq⟩ : ∃ q, q = k / 32 := ⟨_, rfl⟩
  obtain ⟨s, hs⟩ : ∃ s, s = k % 32 := ⟨_, rfl⟩
  have hs32 : s < 32 := by omega
  rw [← hq]
  refine exr ?_
  refine sw (core_assign (L _ rfl)) ⟨rfl, T0⟩ T0 ?_
  refine seq_nil ⟨[(0, _), (1, _)], [], ⟨rfl, rfl, T0⟩, trivial, ?_⟩
  refine exr ?_
  refine sw (core_move (L _ rfl)) ⟨rfl, T0⟩ T0 ?_
  refine sw (core_quo (L _ rfl) (by decide) (tdiv64 (show _ = (q : Int) by omega))) ⟨rfl, rfl, T0⟩ T0 ?_
  refine sw (core_move (L _ rfl)) ⟨rfl, T0⟩ T0 ?_
  refine sw (core_len Tryd.underlying22 (L _ rfl)) ⟨rfl, T0⟩ T0 ?_
  refine sw (core_add (L _ rfl) (w64 (by omega) (by omega))) ⟨rfl, rfl, T0⟩ T0 ?_
  refine sw (core_add (L _ rfl) (w64 (by omega) (by omega))) ⟨rfl, rfl, T0⟩ T0 ?_
  refine swb (core_make1 (k := 14) Tryd.underlying22 Tryd.typeInfo53 rfl rfl rfl rfl (show _ = ((q + ws.length + 1 : Nat) : Int) by omega) (show _ = ((q + ws.length + 1 : Nat) : Int) by omega) (Nat.le_refl _) (by simp [Tryd.t53]; omega) (by omega) (P0 _ rfl) (L _ rfl)) ⟨rfl, rfl, T0⟩ T0 ⟨rfl, rfl⟩ ?_
  refine sw (core_assign (L _ rfl)) ⟨rfl, T0⟩ T0 ?_
  refine seq_nil ⟨[(0, _), (1, _), (5, _)], [(14, _)], ⟨rfl, rfl, rfl, T0⟩, ⟨rfl, T0⟩, ?_⟩
  refine ex_seq ?_
  refine exr ?_
  refine sw (core_assign (L _ rfl)) ⟨rfl, T0⟩ T0 ?_
  refine seq_nil ⟨[(0, _), (1, _), (5, _), (6, _)], [(14, _)], ⟨rfl, rfl, rfl, rfl, T0⟩, ⟨rfl, T0⟩, ?_⟩
  refine ex_block ?_
  refine exl (α := (Nat × List Int × Int)) (fun x => [(6, vi (x.1:Int))]) (fun x => [(14, ⟨53, 1, .pure (encW (List.replicate q 0 ++ (x.2.1 ++ x.2.2 :: List.replicate (ws.length - x.1) 0)))⟩)]) (fun x => ShiftAt ws s x) (fun x => ws.length - x.1) (((0 : Nat), ([] : List Int), (0 : Int))) (sl := [(0, _), (1, _), (5, _)]) (hb := []) ?_ ⟨(by first | exact rfl | exact oi (by omega) rfl), rfl, rfl, rfl, T0⟩ ⟨obl rfl (by rw [encW_rep, shift_start]), T0⟩ ?_
  · exact ShiftAt.zero ws s
  intro x hx
  obtain ⟨i, ys, c⟩ := x
  have hlen := hx.len
  have hle := hx.le
  have h0 := hx.h0
  have h1 := hx.h1
  simp only at hlen hle h0 h1
  dsimp only
  refine ex_seq ?_
  refine exr ?_
  refine sw (core_move (L _ rfl)) ⟨rfl, T0⟩ T0 ?_
  refine sw (core_move (L _ rfl)) ⟨rfl, T0⟩ T0 ?_
  refine sw (core_len Tryd.underlying22 (L _ rfl)) ⟨rfl, T0⟩ T0 ?_
  refine sw (core_lss (L _ rfl)) ⟨rfl, rfl, T0⟩ T0 ?_
  refine seq_nil ⟨[(0, _), (1, _), (5, _), (6, _), (18, _)], [(14, _)], ⟨rfl, rfl, rfl, rfl, rfl, T0⟩, ⟨rfl, T0⟩, ?_⟩
  refine ex_if rfl (fun he => ?_) (fun he => ?_)
  · have he := dt he
    have hw := h.getD i
    have key := hx.next h (by omega)
    have kq0 := key.h0
    have kq1 := key.h1
    simp only at kq0 kq1
    have hp := pow32 (Nat.le_of_lt hs32)
    have sa := shl_add (Nat.le_of_lt hs32) (ws.getD i 0) h0 h1
    have sbd := shl_bd hs32 hw
    have sd : ws.getD i 0 * 2 ^ s / 4294967296 = (ws.getD i 0 * 2 ^ s + c) / 4294967296 := by
      rw [shl_div (Nat.le_of_lt hs32) _ h0 h1]
      have := shl_div (Nat.le_of_lt hs32) (ws.getD i 0) (c := 0) (Int.le_refl _) (by omega)
      simpa using this
    have hg : (List.replicate q 0 ++ (ys ++ c :: List.replicate (ws.length - i) 0)).getD (i + q) 0 = c := shift_get hlen
    refine ex_skip (show Exec _ _ _ _ _ from ?_)
    refine ex_seq ?_
    refine ex_block ?_
    refine exr ?_
    refine sw (core_move (L _ rfl)) ⟨rfl, T0⟩ T0 ?_
    refine sw (core_move (L _ rfl)) ⟨rfl, T0⟩ T0 ?_
    refine sw (ixJ Tryd.underlying22 Tryd.sizeOf53 (j := i) (by first | exact rfl | omega) (by omega) (by simp) (L _ rfl)) ⟨rfl, rfl, T0⟩ T0 ?_
    refine sw (core_loadI1 Tryd.isAgg53 (by first | exact getW (by omega) | rfl) (L _ rfl)) ⟨rfl, T0⟩ T0 ?_
    refine sw (core_conv Tryd.underlying53 Tryd.underlying52 (L _ rfl) (fu64 (by omega) (by omega))) ⟨rfl, T0⟩ T0 ?_
    refine sw (core_move (L _ rfl)) ⟨rfl, T0⟩ T0 ?_
    refine sw (core_rem (L _ rfl) (by decide) (show _ = (s : Int) by rw [Int.tmod_eq_emod_of_nonneg (by omega)]; omega)) ⟨rfl, rfl, T0⟩ T0 ?_
    refine sw (core_shl (L _ rfl) (by omega) (shl64k (by omega) sbd)) ⟨rfl, rfl, T0⟩ T0 ?_
    refine sw (core_assign (L _ rfl)) ⟨rfl, T0⟩ T0 ?_
    refine seq_nil ⟨[(0, _), (1, _), (5, _), (6, _), (7, _)], [(14, _)], ⟨rfl, rfl, rfl, rfl, rfl, T0⟩, ⟨rfl, T0⟩, ?_⟩
    refine exr ?_
    refine sw (core_move (L _ rfl)) ⟨rfl, T0⟩ T0 ?_
    refine sw (core_move (L _ rfl)) ⟨rfl, T0⟩ T0 ?_
    refine sw (core_move (L _ rfl)) ⟨rfl, T0⟩ T0 ?_
    refine sw (core_quo (L _ rfl) (by decide) (tdiv64 (show _ = (q : Int) by omega))) ⟨rfl, rfl, T0⟩ T0 ?_
    refine sw (core_add (L _ rfl) (w64 (by omega) (by omega))) ⟨rfl, rfl, T0⟩ T0 ?_
    refine sw (core_move (L _ rfl)) ⟨rfl, T0⟩ T0 ?_
    refine sw (core_move (L _ rfl)) ⟨rfl, T0⟩ T0 ?_
    refine sw (core_move (L _ rfl)) ⟨rfl, T0⟩ T0 ?_
    refine sw (core_quo (L _ rfl) (by decide) (tdiv64 (show _ = (q : Int) by omega))) ⟨rfl, rfl, T0⟩ T0 ?_
    refine sw (core_add (L _ rfl) (w64 (by omega) (by omega))) ⟨rfl, rfl, T0⟩ T0 ?_
    refine sw (ixR0 Tryd.underlying22 Tryd.sizeOf53 (by exact (by simp; omega)) (j := i + q) (by first | exact rfl | omega) (by omega) (L _ rfl)) ⟨rfl, rfl, T0⟩ ⟨rfl, T0⟩ ?_
    refine sw (core_load1 Tryd.isAgg53 (by exact (by simp; omega)) (getC (getW (by simp; omega))) (L _ rfl)) ⟨rfl, T0⟩ ⟨rfl, T0⟩ ?_
    refine sw (core_move (L _ rfl)) ⟨rfl, T0⟩ T0 ?_
    refine sw (core_conv Tryd.underlying52 Tryd.underlying53 (L _ rfl) wu32) ⟨rfl, T0⟩ T0 ?_
    refine sw (core_or (L _ rfl) (show _ = (ws.getD i 0 * 2 ^ s + c) % 4294967296 by rw [hg, or32 (b := ws.getD i 0 % 2 ^ (32 - s)) s (shl_mod (Nat.le_of_lt hs32) _) h0 h1 sa.2.2.1 (Nat.le_of_lt hs32) sa.2.2.2 sa.2.1, sa.1])) ⟨rfl, rfl, T0⟩ T0 ?_
    refine sw (ixR0 Tryd.underlying22 Tryd.sizeOf53 (by exact (by simp; omega)) (j := i + q) (by first | exact rfl | omega) (by omega) (L _ rfl)) ⟨rfl, rfl, T0⟩ ⟨rfl, T0⟩ ?_
    refine sb (core_store1 Tryd.sizeOf53 (by exact (by simp; omega)) (.atom rfl) (by omega)) ⟨rfl, rfl, T0⟩ ⟨rfl, T0⟩ ?_
    refine seq_nil ⟨[(0, _), (1, _), (5, _), (6, _), (7, _)], [(14, _)], ⟨rfl, rfl, rfl, rfl, rfl, T0⟩, ⟨rfl, T0⟩, ?_⟩
    refine exr0 ?_
    refine sw (core_move (L _ rfl)) ⟨rfl, T0⟩ T0 ?_
    refine sw (core_move (L _ rfl)) ⟨rfl, T0⟩ T0 ?_
    refine sw (core_move (L _ rfl)) ⟨rfl, T0⟩ T0 ?_
    refine sw (core_quo (L _ rfl) (by decide) (tdiv64 (show _ = (q : Int) by omega))) ⟨rfl, rfl, T0⟩ T0 ?_
    refine sw (core_add (L _ rfl) (w64 (by omega) (by omega))) ⟨rfl, rfl, T0⟩ T0 ?_
    refine sw (core_add (L _ rfl) (w64 (by omega) (by omega))) ⟨rfl, rfl, T0⟩ T0 ?_
    refine sw (core_move (L _ rfl)) ⟨rfl, T0⟩ T0 ?_
    refine sw (core_shr (L _ rfl) (by decide) (shrE (c := 4294967296) (by rfl) (by decide))) ⟨rfl, rfl, T0⟩ T0 ?_
    refine sw (core_conv Tryd.underlying52 Tryd.underlying53 (L _ rfl) (show _ = (ws.getD i 0 * 2 ^ s + c) / 4294967296 by rw [sd]; exact fu32 (by omega) (by omega))) ⟨rfl, T0⟩ T0 ?_
    refine sw (ixR0 Tryd.underlying22 Tryd.sizeOf53 (by exact (List.length_set.trans (by simp; omega))) (j := i + q + 1) (by first | exact rfl | omega) (by omega) (L _ rfl)) ⟨rfl, rfl, T0⟩ ⟨rfl, T0⟩ ?_
    refine sb (core_store1 Tryd.sizeOf53 (by exact (List.length_set.trans (by simp; omega))) (.atom rfl) (by omega)) ⟨rfl, rfl, T0⟩ ⟨rfl, T0⟩ ?_
    refine seq_nil ?_
    refine exr0 ?_
    refine sw (core_move (L _ rfl)) ⟨rfl, T0⟩ T0 ?_
    refine sw (core_add (L _ rfl) (w64 (by omega) (by omega))) ⟨rfl, rfl, T0⟩ T0 ?_
    refine sw (core_assign (L _ rfl)) ⟨rfl, T0⟩ T0 ?_
    refine seq_nil ?_
    exact ⟨(i + 1, ys ++ [(ws.getD i 0 * 2 ^ s + c) % 4294967296], (ws.getD i 0 * 2 ^ s + c) / 4294967296), key, (by simp only; omega), le_of ⟨(by first | exact rfl | exact oi (by omega) rfl), rfl, rfl, rfl, T0⟩ ⟨obl rfl (by simp only; rw [encW_set, encW_set, shift_fill2 hlen (by omega)]), T0⟩⟩
  · have he := df he
    have hi : i = ws.length := by omega
    subst hi
    obtain ⟨X, hX1⟩ : ∃ X, X = List.replicate q 0 ++ (ys ++ [c]) := ⟨_, rfl⟩
    have hXl : X.length = q + ws.length + 1 := by rw [hX1]; simp; omega
    have hXt := shift_end hx (by omega) hX1 (show k = 32 * q + s by omega)
    rw [Nat.sub_self, List.replicate_zero, ← hX1, ← hXl, hXt.2]
    refine ex_exit (show Exec _ _ _ _ _ from ?_)
    refine exr ?_
    refine sw (core_move (L _ rfl)) ⟨rfl, T0⟩ T0 ?_
    refine swB (core_callR (E := E) hG hX [14] hN (rtrimR_says X (by omega)) rfl rfl (args_fn (ys := [_]) Tryd.call76 rfl (by rfl)) (by rfl) (by rfl) (by rfl) (by rfl) (SameH.to (.cons rfl .nil)) (by rfl) (by rfl) (L _ rfl)) ⟨rfl, T0⟩ ⟨rfl, T0⟩ ?_
    refine sw (core_assign (L _ rfl)) ⟨rfl, T0⟩ T0 ?_
    refine seq_nil ⟨[(4, _)], [(14, _)], ⟨rfl, T0⟩, ⟨rfl, T0⟩, ?_⟩
    refine ex_ret ?_
    refine ⟨.inr rfl, rfl, _, rfl, by simp, ?_, by rw [encW_length, hXt.2]; simp⟩
    rw [Nat.mul_one, encW_take, ← hXt.1, trim]

end Go.Proofs.YtebkelnibecmjaaDoor.N
namespace Go.Proofs.YtebkelnibecmjaaDoor.N
open Go Go.Proofs.YtebkelnibecmjaaDoor.SH Go.Proofs.YtebkelnibecmjaaDoor.NumA
set_option maxRecDepth 100000 in
set_option maxHeartbeats 4000000 in
theorem guess_says (u0 u1 u2 d1 d2 : Int) (h0 : 0 ≤ u0 ∧ u0 < 4294967296) (h1 : 0 ≤ u1 ∧ u1 < 4294967296) (h2 : 0 ≤ u2 ∧ u2 < 4294967296) (hd1 : 2147483648 ≤ d1 ∧ d1 < 4294967296) (hd2 : 0 ≤ d2 ∧ d2 < 4294967296) : Says E 82 [.agg [oZ u0, oZ u1, oZ u2], oZ d1, oZ d2] (uZ (guessW u0 u1 u2 d1 d2)) := by
  refine says_of (xs := [uZ (guessW u0 u1 u2 d1 d2)]) Tryd.func82 rfl Tryd.ntmps82 Tryd.results82 (by simp) fun F hG hX0 hnt hdf P0 => ?_
  have L := ltn hnt
  have hX : ∀ b, F.X b → E.ng ≤ b := fun b h => absurd h (hX0 b)
  have hN := ng_le hG
  have hU0 : 0 ≤ u0 * 4294967296 + u1 := by omega
  have hqb : (u0 * 4294967296 + u1) / d1 < 18446744073709551616 := by have := Int.ediv_le_self d1 hU0; omega
  refine exr ?_
  refine swb (core_box (k := 3) (n := 3) (.pagg (.cons (.cons (.cons .nil)))) rfl rfl (P0 _ rfl) (L _ rfl)) ⟨rfl, T0⟩ T0 ⟨rfl, rfl⟩ ?_
  refine sw (core_assign (L _ rfl)) ⟨rfl, T0⟩ T0 ?_
  refine seq_nil ⟨[(1, _), (2, _), (3, _)], [(3, _)], ⟨rfl, rfl, rfl, T0⟩, ⟨rfl, T0⟩, ?_⟩
  refine exr ?_
  refine sw (core_indexAddrA Tryd.underlying81 Tryd.sizeOf53 (by rfl) (by decide) (by omega) (L _ rfl)) ⟨rfl, rfl, T0⟩ ⟨rfl, T0⟩ ?_
  refine sw (core_load1 Tryd.isAgg53 (by rfl) (by rfl) (L _ rfl)) ⟨rfl, T0⟩ ⟨rfl, T0⟩ ?_
  refine sw (core_conv Tryd.underlying53 Tryd.underlying52 (L _ rfl) (fu64 (by omega) (by omega))) ⟨rfl, T0⟩ T0 ?_
  refine sw (core_shl (L _ rfl) (by decide) (shlE (c := 4294967296) (by rfl) (fu64 (by omega) (by omega)))) ⟨rfl, rfl, T0⟩ T0 ?_
  refine sw (core_indexAddrA Tryd.underlying81 Tryd.sizeOf53 (by rfl) (by decide) (by omega) (L _ rfl)) ⟨rfl, rfl, T0⟩ ⟨rfl, T0⟩ ?_
  refine sw (core_load1 Tryd.isAgg53 (by rfl) (by rfl) (L _ rfl)) ⟨rfl, T0⟩ ⟨rfl, T0⟩ ?_
  refine sw (core_conv Tryd.underlying53 Tryd.underlying52 (L _ rfl) (fu64 (by omega) (by omega))) ⟨rfl, T0⟩ T0 ?_
  refine sw (core_or (L _ rfl) (or64' (b := u0) 32 rfl h1.1 h1.2 h0.1 (by decide) (by omega) (by omega))) ⟨rfl, rfl, T0⟩ T0 ?_
  refine sw (core_assign (L _ rfl)) ⟨rfl, T0⟩ T0 ?_
  refine seq_nil ⟨[(1, _), (2, _), (3, _), (7, vw (u0 * 4294967296 + u1))], [(3, _)], ⟨rfl, rfl, rfl, oi (by omega) rfl, T0⟩, ⟨rfl, T0⟩, ?_⟩
  refine exd (by rfl) ?_
  refine sw (core_move (L _ rfl)) ⟨rfl, T0⟩ T0 ?_
  refine sw (core_move (L _ rfl)) ⟨rfl, T0⟩ T0 ?_
  refine sw (core_conv Tryd.underlying53 Tryd.underlying52 (L _ rfl) (fu64 (by omega) (by omega))) ⟨rfl, T0⟩ T0 ?_
  refine sw (core_quo (L _ rfl) (by omega) (tdivE hU0 (by omega) hqb)) ⟨rfl, rfl, T0⟩ T0 ?_
  refine sw (core_move (L _ rfl)) ⟨rfl, T0⟩ T0 ?_
  refine sw (core_move (L _ rfl)) ⟨rfl, T0⟩ T0 ?_
  refine sw (core_conv Tryd.underlying53 Tryd.underlying52 (L _ rfl) (fu64 (by omega) (by omega))) ⟨rfl, T0⟩ T0 ?_
  refine sw (core_rem (L _ rfl) (by omega) (tmodE hU0 (by omega))) ⟨rfl, rfl, T0⟩ T0 ?_
  refine sw (core_assign (L _ rfl)) ⟨rfl, T0⟩ T0 ?_
  refine sw (core_assign (L _ rfl)) ⟨rfl, T0⟩ T0 ?_
  refine seq_nil ⟨aoks [⟨[7], [], [18], []⟩, ⟨[1], [], [19], []⟩, ⟨[19], [], [20], []⟩, ⟨[18, 20], [], [21], []⟩, ⟨[7], [], [22], []⟩, ⟨[1], [], [23], []⟩, ⟨[23], [], [24], []⟩, ⟨[22, 24], [], [25], []⟩, ⟨[21], [], [8], []⟩, ⟨[25], [], [9], []⟩] (by rfl) (by rfl) (by decide), [(1, _), (2, _), (3, _), (8, _), (9, _)], [(3, _)], ⟨rfl, rfl, rfl, rfl, rfl, T0⟩, ⟨rfl, T0⟩, ?_⟩
  refine ex_seq ?_
  refine ex_block ?_
  refine exl (α := (Nat × Int × Int)) (fun x => [(8, vw x.2.1), (9, vw x.2.2)]) (fun x => []) (fun x => GuessAt (u0 * 4294967296 + u1) u2 d1 d2 (guessW u0 u1 u2 d1 d2) x) (fun x => x.1) ((2, (u0 * 4294967296 + u1) / d1, (u0 * 4294967296 + u1) % d1)) (sl := [(1, _), (2, _), (3, _)]) (hb := [(3, _)]) ?_ ⟨(by first | exact rfl | exact oi (by omega) rfl), (by first | exact rfl | exact oi (by omega) rfl), rfl, rfl, rfl, T0⟩ ⟨rfl, T0⟩ ?_
  · exact GuessAt.start hU0 hd1
  intro x hx
  obtain ⟨n, q, r⟩ := x
  have hn := hx.n
  have hq0 := hx.q0
  have hr := hx.r
  have hqU := hx.qb hd1.1
  simp only at hn hq0 hr
  dsimp only
  refine ex_seq ?_
  refine exm (sl := [(40, vb (decide (4294967296 ≤ q ∨ r * 4294967296 + u2 < q * d2)))]) (sl0 := [(1, _), (2, _), (3, _), (8, _), (9, _)]) (hb := []) (hb0 := [(3, _)]) ⟨rfl, rfl, rfl, rfl, rfl, T0⟩ ⟨rfl, T0⟩ ?_ ?_
  · by_cases hq : 4294967296 ≤ q
    · refine sw (core_move (L _ rfl)) ⟨rfl, T0⟩ T0 ?_
      refine sw (core_geq (L _ rfl)) ⟨rfl, rfl, T0⟩ T0 ?_
      refine sw (core_move (L _ rfl)) ⟨rfl, T0⟩ T0 ?_
      refine swn (g := 28) rfl (decide_eq_true hq) (L _ rfl) rfl ?_
      refine swn (g := 28) rfl (decide_eq_true hq) (L _ rfl) rfl ?_
      refine swn (g := 28) rfl (decide_eq_true hq) (L _ rfl) rfl ?_
      refine swn (g := 28) rfl (decide_eq_true hq) (L _ rfl) rfl ?_
      refine swn (g := 28) rfl (decide_eq_true hq) (L _ rfl) rfl ?_
      refine swn (g := 28) rfl (decide_eq_true hq) (L _ rfl) rfl ?_
      refine swn (g := 28) rfl (decide_eq_true hq) (L _ rfl) rfl ?_
      refine swn (g := 28) rfl (decide_eq_true hq) (L _ rfl) rfl ?_
      refine swn (g := 28) rfl (decide_eq_true hq) (L _ rfl) rfl ?_
      refine swn (g := 28) rfl (decide_eq_true hq) (L _ rfl) rfl ?_
      refine swn (g := 28) rfl (decide_eq_true hq) (L _ rfl) rfl ?_
      refine sw (core_pick_t (decide_eq_true hq) (L _ rfl)) ⟨rfl, rfl, T0⟩ T0 ?_
      exact seq_nil ⟨⟨ob rfl (by simp [hq]), rfl, rfl, rfl, rfl, rfl, T0⟩, ⟨rfl, T0⟩⟩
    · refine sw (core_move (L _ rfl)) ⟨rfl, T0⟩ T0 ?_
      refine sw (core_geq (L _ rfl)) ⟨rfl, rfl, T0⟩ T0 ?_
      refine sw (core_move (L _ rfl)) ⟨rfl, T0⟩ T0 ?_
      refine swg (g := 28) rfl (decide_eq_false hq) (core_move (L _ rfl)) rfl ⟨rfl, T0⟩ T0 ?_
      refine swg (g := 28) rfl (decide_eq_false hq) (core_move (L _ rfl)) rfl ⟨rfl, T0⟩ T0 ?_
      refine swg (g := 28) rfl (decide_eq_false hq) (core_conv Tryd.underlying53 Tryd.underlying52 (L _ rfl) (fu64 (by omega) (by omega))) rfl ⟨rfl, T0⟩ T0 ?_
      refine swg (g := 28) rfl (decide_eq_false hq) (core_mul (L _ rfl) (fu64 (mul_bd ⟨hq0, by omega⟩ hd2).1 (by have := mul_bd (x := q) ⟨hq0, by omega⟩ hd2; omega))) rfl ⟨rfl, rfl, T0⟩ T0 ?_
      refine swg (g := 28) rfl (decide_eq_false hq) (core_move (L _ rfl)) rfl ⟨rfl, T0⟩ T0 ?_
      refine swg (g := 28) rfl (decide_eq_false hq) (core_shl (L _ rfl) (by decide) (shlE (c := 4294967296) (by rfl) (fu64 (by omega) (by omega)))) rfl ⟨rfl, rfl, T0⟩ T0 ?_
      refine swg (g := 28) rfl (decide_eq_false hq) (core_indexAddrA Tryd.underlying81 Tryd.sizeOf53 (by rfl) (by decide) (by omega) (L _ rfl)) rfl ⟨rfl, rfl, T0⟩ ⟨rfl, T0⟩ ?_
      refine swg (g := 28) rfl (decide_eq_false hq) (core_load1 Tryd.isAgg53 (by rfl) (by rfl) (L _ rfl)) rfl ⟨rfl, T0⟩ ⟨rfl, T0⟩ ?_
      refine swg (g := 28) rfl (decide_eq_false hq) (core_conv Tryd.underlying53 Tryd.underlying52 (L _ rfl) (fu64 (by omega) (by omega))) rfl ⟨rfl, T0⟩ T0 ?_
      refine swg (g := 28) rfl (decide_eq_false hq) (core_or (L _ rfl) (or64' (b := r) 32 rfl h2.1 h2.2 hr.1 (by decide) (by omega) (by omega))) rfl ⟨rfl, rfl, T0⟩ T0 ?_
      refine swg (g := 28) rfl (decide_eq_false hq) (core_gtr (L _ rfl)) rfl ⟨rfl, rfl, T0⟩ T0 ?_
      refine sw (core_pick_f (decide_eq_false hq) (L _ rfl)) ⟨rfl, rfl, T0⟩ T0 ?_
      exact seq_nil ⟨⟨ob rfl (dec_eq (by omega)), rfl, rfl, rfl, rfl, rfl, T0⟩, ⟨rfl, T0⟩⟩
  refine ex_if rfl (fun hb => ?_) (fun hb => ?_)
  · have hb := dt hb
    obtain ⟨b1, b2, b3⟩ := hx.bad hb h2.1 (by omega)
    refine ex_skip (show Exec _ _ _ _ _ from ?_)
    refine ex_block ?_
    refine exr ?_
    refine sw (core_move (L _ rfl)) ⟨rfl, T0⟩ T0 ?_
    refine sw (core_sub (L _ rfl) (fu64 (by omega) (by omega))) ⟨rfl, rfl, T0⟩ T0 ?_
    refine sw (core_assign (L _ rfl)) ⟨rfl, T0⟩ T0 ?_
    refine seq_nil ⟨[(1, _), (2, _), (3, _), (8, _), (9, _)], [(3, _)], ⟨rfl, rfl, rfl, rfl, rfl, T0⟩, ⟨rfl, T0⟩, ?_⟩
    refine exr ?_
    refine sw (core_move (L _ rfl)) ⟨rfl, T0⟩ T0 ?_
    refine sw (core_move (L _ rfl)) ⟨rfl, T0⟩ T0 ?_
    refine sw (core_conv Tryd.underlying53 Tryd.underlying52 (L _ rfl) (fu64 (by omega) (by omega))) ⟨rfl, T0⟩ T0 ?_
    refine sw (core_add (L _ rfl) (fu64 (by omega) (by omega))) ⟨rfl, rfl, T0⟩ T0 ?_
    refine sw (core_assign (L _ rfl)) ⟨rfl, T0⟩ T0 ?_
    refine seq_nil ⟨[(1, _), (2, _), (3, _), (8, _), (9, _)], [(3, _)], ⟨rfl, rfl, rfl, rfl, rfl, T0⟩, ⟨rfl, T0⟩, ?_⟩
    refine exr ?_
    refine sw (core_move (L _ rfl)) ⟨rfl, T0⟩ T0 ?_
    refine sw (core_geq (L _ rfl)) ⟨rfl, rfl, T0⟩ T0 ?_
    refine seq_nil ⟨[(1, _), (2, _), (3, _), (8, _), (9, _), (48, _)], [(3, _)], ⟨rfl, rfl, rfl, rfl, rfl, rfl, T0⟩, ⟨rfl, T0⟩, ?_⟩
    refine ex_if rfl (fun hc => ?_) (fun hc => ?_)
    · have hc := dt hc
      refine ex_exit (show Exec _ _ _ _ _ from ?_)
      refine exr ?_
      refine sw (core_move (L _ rfl)) ⟨rfl, T0⟩ T0 ?_
      refine sw (core_assign (L _ rfl)) ⟨rfl, T0⟩ T0 ?_
      refine seq_nil ⟨[(6, _)], [], ⟨rfl, T0⟩, trivial, ?_⟩
      refine ex_ret ?_
      refine ⟨.inr rfl, ResVs.cast (.cons (.tmp rfl) .nil) ?_⟩
      rw [b2 (by omega)]
    · have hc := df hc
      refine ex_skip ?_
      exact ⟨(n - 1, q - 1, r + d1), b3 (by omega), (by simp only; omega), le_of ⟨(by first | exact rfl | exact oi (by omega) rfl), (by first | exact rfl | exact oi (by omega) rfl), rfl, rfl, rfl, T0⟩ ⟨rfl, T0⟩⟩
  · have hb := df hb
    refine ex_exit (show Exec _ _ _ _ _ from ?_)
    refine exr ?_
    refine sw (core_move (L _ rfl)) ⟨rfl, T0⟩ T0 ?_
    refine sw (core_assign (L _ rfl)) ⟨rfl, T0⟩ T0 ?_
    refine seq_nil ⟨[(6, _)], [], ⟨rfl, T0⟩, trivial, ?_⟩
    refine ex_ret ?_
    refine ⟨.inr rfl, ResVs.cast (.cons (.tmp rfl) .nil) ?_⟩
    rw [hx.good hb]

end Go.Proofs.YtebkelnibecmjaaDoor.N
namespace Go.Proofs.YtebkelnibecmjaaDoor.N
open Go Go.Proofs.YtebkelnibecmjaaDoor.SH Go.Proofs.YtebkelnibecmjaaDoor.NumA
theorem getM {xs ys win zs : List Int} {j : Nat} (hl : ys.length = j) (hj : j < win.length) : (encW (xs ++ ((ys ++ win.drop j) ++ zs)))[xs.length + j]? = some (.a (.int .u32 (win.getD j 0))) := by
  rw [getW (by simp; omega), mid_get hl hj]
set_option maxRecDepth 100000 in
set_option maxHeartbeats 4000000 in
theorem take_says (xs win zs vs : List Int) (q : Int) (N : Nat) (hNN : xs.length + (win.length + zs.length) = N) (hN2 : N < 1000000000) (h : Wd win) (hlw : win.length = vs.length + 1) (h2 : Wd vs) (hq : 0 ≤ q ∧ q < 4294967296) (hq1 : (q - 1) * val vs ≤ val win) : SaysX E 83 [.ref 1000 0 N N, .p (pW vs), .p (vZ xs.length), .p (uZ q)] [(1000, ⟨53, 1, .pure (encW (xs ++ (win ++ zs)))⟩)] [(1000, ⟨53, 1, .pure (encW (xs ++ (digN win.length (val win - (if q * val vs ≤ val win then q else q - 1) * val vs) ++ zs)))⟩)] (bZ (decide (q * val vs ≤ val win))) := by
  refine saysX_of (xs := [bZ (decide (q * val vs ≤ val win))]) Tryd.func83 rfl Tryd.ntmps83 Tryd.results83 (by simp) rfl (sub_of rfl) fun F hG hX hnt hdf P0 hXp => ?_
  have L := ltn hnt
  have hN := ng_le hG
  refine exr ?_
  refine sw (core_assign (L _ rfl)) ⟨rfl, T0⟩ T0 ?_
  refine seq_nil ⟨[(0, _), (1, _), (2, _), (3, _)], [(1000, _)], ⟨rfl, rfl, rfl, rfl, T0⟩, ⟨rfl, T0⟩, ?_⟩
  refine exr ?_
  refine sw (core_assign (L _ rfl)) ⟨rfl, T0⟩ T0 ?_
  refine sw (core_assign (L _ rfl)) ⟨rfl, T0⟩ T0 ?_
  refine seq_nil ⟨[(0, _), (1, _), (2, _), (3, _), (9, _), (10, _)], [(1000, _)], ⟨rfl, rfl, rfl, rfl, rfl, rfl, T0⟩, ⟨rfl, T0⟩, ?_⟩
  refine ex_seq ?_
  refine exr ?_
  refine sw (core_move (L _ rfl)) ⟨rfl, T0⟩ T0 ?_
  refine sw (core_len Tryd.underlying22 (L _ rfl)) ⟨rfl, T0⟩ T0 ?_
  refine sw (core_move (L _ rfl)) ⟨rfl, T0⟩ T0 ?_
  refine seq_nil ⟨[(0, _), (1, _), (2, _), (3, _), (9, _), (10, _), (20, _), (21, _), (22, _)], [(1000, _)], ⟨rfl, rfl, rfl, rfl, rfl, rfl, rfl, rfl, rfl, T0⟩, ⟨rfl, T0⟩, ?_⟩
  refine ex_block ?_
  refine exl (α := (Nat × List Int × Int × Int)) (fun x => [(22, vi (x.1:Int)), (9, vw x.2.2.2), (10, vw x.2.2.1)]) (fun x => [(1000, ⟨53, 1, .pure (encW (xs ++ ((x.2.1 ++ win.drop x.1) ++ zs)))⟩)]) (fun x => TakeAt win vs q x ∧ x.1 ≤ vs.length) (fun x => vs.length - x.1) (((0 : Nat), ([] : List Int), (0 : Int), (0 : Int))) (sl := [(0, _), (1, _), (2, _), (3, _), (20, _), (21, _)]) (hb := []) ?_ ⟨(by first | exact rfl | exact oi (by omega) rfl), (by first | exact rfl | exact oi (by omega) rfl), (by first | exact rfl | exact oi (by omega) rfl), rfl, rfl, rfl, rfl, rfl, rfl, T0⟩ ⟨obl rfl (by simp), T0⟩ ?_
  · exact ⟨TakeAt.zero win vs q, Nat.zero_le _⟩
  intro x hx
  obtain ⟨j, ys, c, b⟩ := x
  obtain ⟨hx, hjl⟩ := hx
  have hlen := hx.len
  have c0 := hx.c0
  have c1 := hx.c1
  have hb := hx.b
  simp only at hlen hjl c0 c1 hb
  dsimp only
  have hu := h.getD j
  refine exr ?_
  refine sw (core_lss (L _ rfl)) ⟨rfl, rfl, T0⟩ T0 ?_
  refine seq_nil ⟨[(0, _), (1, _), (2, _), (3, _), (9, _), (10, _), (20, _), (21, _), (22, _), (23, _)], [(1000, _)], ⟨rfl, rfl, rfl, rfl, rfl, rfl, rfl, rfl, rfl, rfl, T0⟩, ⟨rfl, T0⟩, ?_⟩
  refine ex_seq ?_
  refine ex_if rfl (fun he => ?_) (fun he => ?_)
  · have he := dt he
    have hw := h2.getD j
    have tb := take_bd hq hw ⟨c0, c1⟩
    have mb := mul_bd hq hw
    have key := hx.next h2 hq (by omega) (p := q * vs.getD j 0 + c) rfl rfl rfl hu
    refine ex_skip (show Exec _ _ _ _ _ from ?_)
    refine ex_seq ?_
    refine ex_block ?_
    refine exr ?_
    refine sw (core_move (L _ rfl)) ⟨rfl, T0⟩ T0 ?_
    refine sw (ixJ Tryd.underlying22 Tryd.sizeOf53 (j := j) (by first | exact rfl | omega) (by omega) (by simp) (L _ rfl)) ⟨rfl, rfl, T0⟩ T0 ?_
    refine sw (core_loadI1 Tryd.isAgg53 (by first | exact getW (by omega) | rfl) (L _ rfl)) ⟨rfl, T0⟩ T0 ?_
    refine sw (core_assign (L _ rfl)) ⟨rfl, T0⟩ T0 ?_
    refine sw (core_assign (L _ rfl)) ⟨rfl, T0⟩ T0 ?_
    refine seq_nil ⟨[(0, _), (1, _), (2, _), (3, _), (9, _), (10, _), (11, _), (12, _), (20, _), (21, _), (22, _)], [(1000, _)], ⟨rfl, rfl, rfl, rfl, rfl, rfl, rfl, rfl, rfl, rfl, rfl, T0⟩, ⟨rfl, T0⟩, ?_⟩
    refine exr ?_
    refine sw (core_move (L _ rfl)) ⟨rfl, T0⟩ T0 ?_
    refine sw (core_move (L _ rfl)) ⟨rfl, T0⟩ T0 ?_
    refine sw (core_conv Tryd.underlying53 Tryd.underlying52 (L _ rfl) (fu64 (by omega) (by omega))) ⟨rfl, T0⟩ T0 ?_
    refine sw (core_mul (L _ rfl) (fu64 (by omega) (by omega))) ⟨rfl, rfl, T0⟩ T0 ?_
    refine sw (core_move (L _ rfl)) ⟨rfl, T0⟩ T0 ?_
    refine sw (core_add (L _ rfl) (fu64 (by omega) (by omega))) ⟨rfl, rfl, T0⟩ T0 ?_
    refine sw (core_assign (L _ rfl)) ⟨rfl, T0⟩ T0 ?_
    refine seq_nil ⟨[(0, _), (1, _), (2, _), (3, _), (9, _), (11, _), (13, _), (20, _), (21, _), (22, _)], [(1000, _)], ⟨rfl, rfl, rfl, rfl, rfl, rfl, rfl, rfl, rfl, rfl, T0⟩, ⟨rfl, T0⟩, ?_⟩
    refine exr ?_
    refine sw (core_move (L _ rfl)) ⟨rfl, T0⟩ T0 ?_
    refine sw (core_shr (L _ rfl) (by decide) (shrE (c := 4294967296) (by rfl) (by decide))) ⟨rfl, rfl, T0⟩ T0 ?_
    refine sw (core_assign (L _ rfl)) ⟨rfl, T0⟩ T0 ?_
    refine seq_nil ⟨[(0, _), (1, _), (2, _), (3, _), (9, _), (10, _), (11, _), (13, _), (20, _), (21, _), (22, _)], [(1000, _)], ⟨rfl, rfl, rfl, rfl, rfl, rfl, rfl, rfl, rfl, rfl, rfl, T0⟩, ⟨rfl, T0⟩, ?_⟩
    refine exr ?_
    refine sw (core_move (L _ rfl)) ⟨rfl, T0⟩ T0 ?_
    refine sw (core_move (L _ rfl)) ⟨rfl, T0⟩ T0 ?_
    refine sw (core_move (L _ rfl)) ⟨rfl, T0⟩ T0 ?_
    refine sw (core_add (L _ rfl) (w64 (by omega) (by omega))) ⟨rfl, rfl, T0⟩ T0 ?_
    refine sw (ixR0 Tryd.underlying22 Tryd.sizeOf53 (by exact (by simp; omega)) (j := xs.length + j) (by first | exact rfl | omega) (by omega) (L _ rfl)) ⟨rfl, rfl, T0⟩ ⟨rfl, T0⟩ ?_
    refine sw (core_load1 Tryd.isAgg53 (by exact (by simp; omega)) (getC (getM hlen (by omega))) (L _ rfl)) ⟨rfl, T0⟩ ⟨rfl, T0⟩ ?_
    refine sw (core_conv Tryd.underlying53 Tryd.underlying52 (L _ rfl) (fu64 (by omega) (by omega))) ⟨rfl, T0⟩ T0 ?_
    refine sw (core_move (L _ rfl)) ⟨rfl, T0⟩ T0 ?_
    refine sw (core_and (L _ rfl) (and32 (by omega) (by omega))) ⟨rfl, rfl, T0⟩ T0 ?_
    refine sw (core_move (L _ rfl)) ⟨rfl, T0⟩ T0 ?_
    refine sw (core_sub64 s64 (by omega) (by omega) (by omega) rfl rfl (L _ rfl)) ⟨rfl, rfl, rfl, T0⟩ T0 ?_
    refine sw (core_move (L _ rfl)) ⟨rfl, T0⟩ T0 ?_
    refine sw (core_extract rfl (L _ rfl)) ⟨rfl, T0⟩ T0 ?_
    refine sw (core_extract rfl (L _ rfl)) ⟨rfl, T0⟩ T0 ?_
    refine sw (core_assign (L _ rfl)) ⟨rfl, T0⟩ T0 ?_
    refine sw (core_assign (L _ rfl)) ⟨rfl, T0⟩ T0 ?_
    refine seq_nil ⟨[(0, _), (1, _), (2, _), (3, _), (10, _), (11, _), (14, _), (15, _), (20, _), (21, _), (22, _)], [(1000, _)], ⟨rfl, rfl, rfl, rfl, rfl, rfl, rfl, rfl, rfl, rfl, rfl, T0⟩, ⟨rfl, T0⟩, ?_⟩
    refine exr ?_
    refine sw (core_move (L _ rfl)) ⟨rfl, T0⟩ T0 ?_
    refine sw (core_move (L _ rfl)) ⟨rfl, T0⟩ T0 ?_
    refine sw (core_move (L _ rfl)) ⟨rfl, T0⟩ T0 ?_
    refine sw (core_add (L _ rfl) (w64 (by omega) (by omega))) ⟨rfl, rfl, T0⟩ T0 ?_
    refine sw (core_move (L _ rfl)) ⟨rfl, T0⟩ T0 ?_
    refine sw (core_conv Tryd.underlying52 Tryd.underlying53 (L _ rfl) (show _ = (win.getD j 0 - (q * vs.getD j 0 + c) % 4294967296 - b) % 4294967296 by rw [wu32]; omega)) ⟨rfl, T0⟩ T0 ?_
    refine sw (ixR0 Tryd.underlying22 Tryd.sizeOf53 (by exact (by simp; omega)) (j := xs.length + j) (by first | exact rfl | omega) (by omega) (L _ rfl)) ⟨rfl, rfl, T0⟩ ⟨rfl, T0⟩ ?_
    refine sb (core_store1 Tryd.sizeOf53 (by exact (by simp; omega)) (.atom rfl) (by omega)) ⟨rfl, rfl, T0⟩ ⟨rfl, T0⟩ ?_
    refine seq_nil ⟨[(0, _), (1, _), (2, _), (3, _), (10, _), (15, _), (20, _), (21, _), (22, _)], [(1000, _)], ⟨rfl, rfl, rfl, rfl, rfl, rfl, rfl, rfl, rfl, T0⟩, ⟨rfl, T0⟩, ?_⟩
    refine exr0 ?_
    refine sw (core_move (L _ rfl)) ⟨rfl, T0⟩ T0 ?_
    refine sw (core_assign (L _ rfl)) ⟨rfl, T0⟩ T0 ?_
    refine seq_nil ?_
    refine exr0 ?_
    refine sw (core_add (L _ rfl) (w64 (by omega) (by omega))) ⟨rfl, rfl, T0⟩ T0 ?_
    refine sw (core_move (L _ rfl)) ⟨rfl, T0⟩ T0 ?_
    refine seq_nil ?_
    exact ⟨(j + 1, ys ++ [(win.getD j 0 - (q * vs.getD j 0 + c) % 4294967296 - b) % 4294967296], (q * vs.getD j 0 + c) / 4294967296, if win.getD j 0 < (q * vs.getD j 0 + c) % 4294967296 + b then 1 else 0), ⟨key, by simp only; omega⟩, (by simp only; omega), le_of ⟨(by first | exact rfl | exact oi (by omega) rfl), (by first | exact rfl | exact oi (by omega) rfl), (by first | exact rfl | exact oi (by omega) rfl), rfl, rfl, rfl, rfl, rfl, rfl, T0⟩ ⟨obl rfl (by rw [encW_set, mid_set hlen (by omega)]), T0⟩⟩
  · have he := df he
    have hj : j = vs.length := by omega
    subst hj
    have ec : c % 4294967296 = c := Int.emod_eq_of_lt c0 c1
    have key := hx.next h2 hq (by omega) (p := c) (d := (win.getD vs.length 0 - c - b) % 4294967296) (b' := if win.getD vs.length 0 < c + b then 1 else 0) (by rw [getD_out (Nat.le_refl _)]; simp) (by rw [ec]) (by rw [ec]) hu
    rw [← hlw] at key
    have hw1 := key.wd
    have hl1 := key.len
    have hb1 := key.b
    simp only at hw1 hl1 hb1
    obtain ⟨w1, hw1e⟩ : ∃ w1, w1 = ys ++ [(win.getD vs.length 0 - c - b) % 4294967296] := ⟨_, rfl⟩
    obtain ⟨b1, hb1e⟩ : ∃ b1 : Int, b1 = if win.getD vs.length 0 < c + b then 1 else 0 := ⟨_, rfl⟩
    rw [← hw1e, ← hb1e] at key
    rw [← hw1e] at hw1 hl1
    rw [← hb1e] at hb1
    obtain ⟨-, hk2, hk3⟩ := key.end_ h (by omega) h2 hq
    have hmid := mid_set (xs := xs) (zs := zs) hlen (show vs.length < win.length by omega) ((win.getD vs.length 0 - c - b) % 4294967296)
    rw [← hw1e, List.drop_of_length_le (show win.length ≤ vs.length + 1 by omega), List.append_nil] at hmid
    refine ex_exit (show Exec _ _ _ _ _ from ?_)
    refine exr ?_
    refine sw (core_move (L _ rfl)) ⟨rfl, T0⟩ T0 ?_
    refine sw (core_move (L _ rfl)) ⟨rfl, T0⟩ T0 ?_
    refine sw (core_move (L _ rfl)) ⟨rfl, T0⟩ T0 ?_
    refine sw (core_len Tryd.underlying22 (L _ rfl)) ⟨rfl, T0⟩ T0 ?_
    refine sw (core_add (L _ rfl) (w64 (by omega) (by omega))) ⟨rfl, rfl, T0⟩ T0 ?_
    refine sw (ixR0 Tryd.underlying22 Tryd.sizeOf53 (by exact (by simp; omega)) (j := xs.length + vs.length) (by first | exact rfl | omega) (by omega) (L _ rfl)) ⟨rfl, rfl, T0⟩ ⟨rfl, T0⟩ ?_
    refine sw (core_load1 Tryd.isAgg53 (by exact (by simp; omega)) (getC (getM hlen (by omega))) (L _ rfl)) ⟨rfl, T0⟩ ⟨rfl, T0⟩ ?_
    refine sw (core_conv Tryd.underlying53 Tryd.underlying52 (L _ rfl) (fu64 (by omega) (by omega))) ⟨rfl, T0⟩ T0 ?_
    refine sw (core_move (L _ rfl)) ⟨rfl, T0⟩ T0 ?_
    refine sw (core_move (L _ rfl)) ⟨rfl, T0⟩ T0 ?_
    refine sw (core_sub64 s64 (by omega) (by omega) (by omega) rfl rfl (L _ rfl)) ⟨rfl, rfl, rfl, T0⟩ T0 ?_
    refine sw (core_move (L _ rfl)) ⟨rfl, T0⟩ T0 ?_
    refine sw (core_extract rfl (L _ rfl)) ⟨rfl, T0⟩ T0 ?_
    refine sw (core_extract rfl (L _ rfl)) ⟨rfl, T0⟩ T0 ?_
    refine sw (core_assign (L _ rfl)) ⟨rfl, T0⟩ T0 ?_
    refine sw (core_assign (L _ rfl)) ⟨rfl, T0⟩ T0 ?_
    refine seq_nil ⟨[(0, _), (1, _), (2, _), (9, _), (16, _)], [(1000, _)], ⟨rfl, rfl, rfl, rfl, rfl, T0⟩, ⟨rfl, T0⟩, ?_⟩
    rw [← hb1e]
    refine exr ?_
    refine sw (core_move (L _ rfl)) ⟨rfl, T0⟩ T0 ?_
    refine sw (core_move (L _ rfl)) ⟨rfl, T0⟩ T0 ?_
    refine sw (core_move (L _ rfl)) ⟨rfl, T0⟩ T0 ?_
    refine sw (core_len Tryd.underlying22 (L _ rfl)) ⟨rfl, T0⟩ T0 ?_
    refine sw (core_add (L _ rfl) (w64 (by omega) (by omega))) ⟨rfl, rfl, T0⟩ T0 ?_
    refine sw (core_move (L _ rfl)) ⟨rfl, T0⟩ T0 ?_
    refine sw (core_conv Tryd.underlying52 Tryd.underlying53 (L _ rfl) (show _ = (win.getD vs.length 0 - c - b) % 4294967296 by rw [wu32]; omega)) ⟨rfl, T0⟩ T0 ?_
    refine sw (ixR0 Tryd.underlying22 Tryd.sizeOf53 (by exact (by simp; omega)) (j := xs.length + vs.length) (by first | exact rfl | omega) (by omega) (L _ rfl)) ⟨rfl, rfl, T0⟩ ⟨rfl, T0⟩ ?_
    refine sb (core_store1 Tryd.sizeOf53 (by exact (by simp; omega)) (.atom rfl) (by omega)) ⟨rfl, rfl, T0⟩ ⟨rfl, T0⟩ ?_
    refine seq_nil ⟨[(0, _), (1, _), (2, _), (9, _)], [(1000, _)], ⟨rfl, rfl, rfl, rfl, T0⟩, ⟨rfl, T0⟩, ?_⟩
    rw [encW_set, hmid]
    refine ex_seq ?_
    refine exr ?_
    refine sw (core_move (L _ rfl)) ⟨rfl, T0⟩ T0 ?_
    refine sw (core_eql (L _ rfl)) ⟨rfl, rfl, T0⟩ T0 ?_
    refine seq_nil ⟨[(0, _), (1, _), (2, _), (81, _)], [(1000, _)], ⟨rfl, rfl, rfl, rfl, T0⟩, ⟨rfl, T0⟩, ?_⟩
    refine ex_if rfl (fun hz => ?_) (fun hz => ?_)
    · have hz := dt hz
      rw [hz] at key
      have hf := take_fin h (by omega) h2 hq key
      refine exr ?_
      refine sw (core_assign (L _ rfl)) ⟨rfl, T0⟩ T0 ?_
      refine seq_nil ⟨[(8, _)], [(1000, _)], ⟨rfl, T0⟩, ⟨rfl, T0⟩, ?_⟩
      refine ex_ret ?_
      refine ⟨.inr rfl, ResVs.cast (.cons (.tmp rfl) .nil) ?_, ⟨obl rfl (by rw [if_pos hf.1, hf.2]), T0⟩⟩
      rw [decide_eq_true hf.1]
    · have hz := df hz
      have hb11 : b1 = 1 := by omega
      have hnot : ¬ q * val vs ≤ val win := fun hh => hz (hk3.2 hh)
      rw [hb11] at hk2
      refine ex_skip (show Exec _ _ _ _ _ from ?_)
      refine exr ?_
      refine sw (core_assign (L _ rfl)) ⟨rfl, T0⟩ T0 ?_
      refine seq_nil ⟨[(0, _), (1, _), (2, _), (17, _)], [(1000, _)], ⟨rfl, rfl, rfl, rfl, T0⟩, ⟨rfl, T0⟩, ?_⟩
      refine ex_seq ?_
      refine exr ?_
      refine sw (core_move (L _ rfl)) ⟨rfl, T0⟩ T0 ?_
      refine sw (core_len Tryd.underlying22 (L _ rfl)) ⟨rfl, T0⟩ T0 ?_
      refine sw (core_move (L _ rfl)) ⟨rfl, T0⟩ T0 ?_
      refine seq_nil ⟨[(0, _), (1, _), (2, _), (17, _), (82, _), (83, _), (84, _)], [(1000, _)], ⟨rfl, rfl, rfl, rfl, rfl, rfl, rfl, T0⟩, ⟨rfl, T0⟩, ?_⟩
      refine ex_block ?_
      refine exl (α := (Nat × List Int × Int)) (fun y => [(84, vi (y.1:Int)), (17, vu y.2.2)]) (fun y => [(1000, ⟨53, 1, .pure (encW (xs ++ ((y.2.1 ++ w1.drop y.1) ++ zs)))⟩)]) (fun y => BackAt w1 vs y ∧ y.1 ≤ vs.length) (fun y => vs.length - y.1) (((0 : Nat), ([] : List Int), (0 : Int))) (sl := [(0, _), (1, _), (2, _), (82, _), (83, _)]) (hb := []) ?_ ⟨(by first | exact rfl | exact oi (by omega) rfl), (by first | exact rfl | exact oi (by omega) rfl), rfl, rfl, rfl, rfl, rfl, T0⟩ ⟨obl rfl (by simp), T0⟩ ?_
      · exact ⟨BackAt.zero w1 vs, Nat.zero_le _⟩
      intro y hy
      obtain ⟨k, zs2, e⟩ := y
      obtain ⟨hy, hkl⟩ := hy
      have hlen2 := hy.len
      have hec := hy.c
      simp only at hlen2 hec hkl
      dsimp only
      have hu1 := hw1.getD k
      refine exr ?_
      refine sw (core_lss (L _ rfl)) ⟨rfl, rfl, T0⟩ T0 ?_
      refine seq_nil ⟨[(0, _), (1, _), (2, _), (17, _), (82, _), (83, _), (84, _), (85, _)], [(1000, _)], ⟨rfl, rfl, rfl, rfl, rfl, rfl, rfl, rfl, T0⟩, ⟨rfl, T0⟩, ?_⟩
      refine ex_seq ?_
      refine ex_if rfl (fun hf => ?_) (fun hf => ?_)
      · have hf := dt hf
        have hw := h2.getD k
        refine ex_skip (show Exec _ _ _ _ _ from ?_)
        refine ex_seq ?_
        refine ex_block ?_
        refine exr ?_
        refine sw (core_move (L _ rfl)) ⟨rfl, T0⟩ T0 ?_
        refine sw (ixJ Tryd.underlying22 Tryd.sizeOf53 (j := k) (by first | exact rfl | omega) (by omega) (by simp) (L _ rfl)) ⟨rfl, rfl, T0⟩ T0 ?_
        refine sw (core_loadI1 Tryd.isAgg53 (by first | exact getW (by omega) | rfl) (L _ rfl)) ⟨rfl, T0⟩ T0 ?_
        refine sw (core_assign (L _ rfl)) ⟨rfl, T0⟩ T0 ?_
        refine sw (core_assign (L _ rfl)) ⟨rfl, T0⟩ T0 ?_
        refine seq_nil ⟨[(0, _), (1, _), (2, _), (17, _), (18, _), (19, _), (82, _), (83, _), (84, _)], [(1000, _)], ⟨rfl, rfl, rfl, rfl, rfl, rfl, rfl, rfl, rfl, T0⟩, ⟨rfl, T0⟩, ?_⟩
        refine exr0 ?_
        refine sw (core_move (L _ rfl)) ⟨rfl, T0⟩ T0 ?_
        refine sw (core_move (L _ rfl)) ⟨rfl, T0⟩ T0 ?_
        refine sw (core_move (L _ rfl)) ⟨rfl, T0⟩ T0 ?_
        refine sw (core_add (L _ rfl) (w64 (by omega) (by omega))) ⟨rfl, rfl, T0⟩ T0 ?_
        refine sw (core_move (L _ rfl)) ⟨rfl, T0⟩ T0 ?_
        refine sw (core_move (L _ rfl)) ⟨rfl, T0⟩ T0 ?_
        refine sw (core_move (L _ rfl)) ⟨rfl, T0⟩ T0 ?_
        refine sw (core_add (L _ rfl) (w64 (by omega) (by omega))) ⟨rfl, rfl, T0⟩ T0 ?_
        refine sw (ixR0 Tryd.underlying22 Tryd.sizeOf53 (by exact (by simp; omega)) (j := xs.length + k) (by first | exact rfl | omega) (by omega) (L _ rfl)) ⟨rfl, rfl, T0⟩ ⟨rfl, T0⟩ ?_
        refine sw (core_load1 Tryd.isAgg53 (by exact (by simp; omega)) (getC (getM hlen2 (by omega))) (L _ rfl)) ⟨rfl, T0⟩ ⟨rfl, T0⟩ ?_
        refine sw (core_move (L _ rfl)) ⟨rfl, T0⟩ T0 ?_
        refine sw (core_move (L _ rfl)) ⟨rfl, T0⟩ T0 ?_
        refine sw (core_call (E := E) hG hX Tryd.call92 rfl hN (add32_says (w1.getD k 0) (vs.getD k 0) e hu1 hw (by omega)) (L _ rfl)) ⟨rfl, rfl, rfl, T0⟩ T0 ?_
        refine sw (core_move (L _ rfl)) ⟨rfl, T0⟩ T0 ?_
        refine sw (core_extract rfl (L _ rfl)) ⟨rfl, T0⟩ T0 ?_
        refine sw (core_extract rfl (L _ rfl)) ⟨rfl, T0⟩ T0 ?_
        refine sw (ixR0 Tryd.underlying22 Tryd.sizeOf53 (by exact (by simp; omega)) (j := xs.length + k) (by first | exact rfl | omega) (by omega) (L _ rfl)) ⟨rfl, rfl, T0⟩ ⟨rfl, T0⟩ ?_
        refine sb (core_store1 Tryd.sizeOf53 (by exact (by simp; omega)) (.atom rfl) (by omega)) ⟨rfl, rfl, T0⟩ ⟨rfl, T0⟩ ?_
        refine sw (core_assign (L _ rfl)) ⟨rfl, T0⟩ T0 ?_
        refine seq_nil ?_
        refine exr0 ?_
        refine sw (core_add (L _ rfl) (w64 (by omega) (by omega))) ⟨rfl, rfl, T0⟩ T0 ?_
        refine sw (core_move (L _ rfl)) ⟨rfl, T0⟩ T0 ?_
        refine seq_nil ?_
        exact ⟨(k + 1, zs2 ++ [(w1.getD k 0 + vs.getD k 0 + e) % 4294967296], (w1.getD k 0 + vs.getD k 0 + e) / 4294967296), ⟨hy.next hw1 h2 (by omega) rfl, by simp only; omega⟩, (by simp only; omega), le_of ⟨(by first | exact rfl | exact oi (by omega) rfl), (by first | exact rfl | exact oi (by omega) rfl), rfl, rfl, rfl, rfl, rfl, T0⟩ ⟨obl rfl (by rw [encW_set, mid_set hlen2 (by omega)]), T0⟩⟩
      · have hf := df hf
        have hk : k = vs.length := by omega
        subst hk
        have key2 := hy.next hw1 h2 (by omega) (s := w1.getD vs.length 0 + e) (by rw [getD_out (Nat.le_refl vs.length)]; omega)
        rw [← hlw] at key2
        have hfin := back_fin (by omega) h2 hk2 hl1 key2 hq1
        have hmid2 := mid_set (xs := xs) (zs := zs) hlen2 (show vs.length < w1.length by omega) ((w1.getD vs.length 0 + e) % 4294967296)
        rw [List.drop_of_length_le (show w1.length ≤ vs.length + 1 by omega), List.append_nil, hfin.1] at hmid2
        refine ex_exit (show Exec _ _ _ _ _ from ?_)
        refine exr ?_
        refine sw (core_move (L _ rfl)) ⟨rfl, T0⟩ T0 ?_
        refine sw (core_move (L _ rfl)) ⟨rfl, T0⟩ T0 ?_
        refine sw (core_move (L _ rfl)) ⟨rfl, T0⟩ T0 ?_
        refine sw (core_len Tryd.underlying22 (L _ rfl)) ⟨rfl, T0⟩ T0 ?_
        refine sw (core_add (L _ rfl) (w64 (by omega) (by omega))) ⟨rfl, rfl, T0⟩ T0 ?_
        refine sw (ixR0 Tryd.underlying22 Tryd.sizeOf53 (by exact (by simp; omega)) (j := xs.length + vs.length) (by first | exact rfl | omega) (by omega) (L _ rfl)) ⟨rfl, rfl, T0⟩ ⟨rfl, T0⟩ ?_
        refine sw (core_load1 Tryd.isAgg53 (by exact (by simp; omega)) (getC (getM hlen2 (by omega))) (L _ rfl)) ⟨rfl, T0⟩ ⟨rfl, T0⟩ ?_
        refine sw (core_move (L _ rfl)) ⟨rfl, T0⟩ T0 ?_
        refine sw (core_add (L _ rfl) wu32) ⟨rfl, rfl, T0⟩ T0 ?_
        refine sw (ixR0 Tryd.underlying22 Tryd.sizeOf53 (by exact (by simp; omega)) (j := xs.length + vs.length) (by first | exact rfl | omega) (by omega) (L _ rfl)) ⟨rfl, rfl, T0⟩ ⟨rfl, T0⟩ ?_
        refine sb (core_store1 Tryd.sizeOf53 (by exact (by simp; omega)) (.atom rfl) (by omega)) ⟨rfl, rfl, T0⟩ ⟨rfl, T0⟩ ?_
        refine seq_nil ⟨[], [(1000, _)], trivial, ⟨rfl, T0⟩, ?_⟩
        rw [encW_set, hmid2]
        refine exr ?_
        refine sw (core_assign (L _ rfl)) ⟨rfl, T0⟩ T0 ?_
        refine seq_nil ⟨[(8, _)], [(1000, _)], ⟨rfl, T0⟩, ⟨rfl, T0⟩, ?_⟩
        refine ex_ret ?_
        refine ⟨.inr rfl, ResVs.cast (.cons (.tmp rfl) .nil) ?_, ⟨obl rfl (by rw [if_neg hnot]), T0⟩⟩
        rw [decide_eq_false hnot]

end Go.Proofs.YtebkelnibecmjaaDoor.N
