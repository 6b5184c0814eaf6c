/- Part ValuesWalk of the proof: lemmas for the walks of the given functions. No statement of its own. -/
import Derived.Test.YtebkelnibecmjaaDoorWalkC
set_option linter.unusedVariables false
set_option linter.unusedSimpArgs false
set_option linter.deprecated false
namespace Go.Proofs.YtebkelnibecmjaaDoor.N
open Go Go.Proofs.YtebkelnibecmjaaDoor.SH Go.Proofs.YtebkelnibecmjaaDoor.NumA
theorem nw_if {c : Prop} [Decidable c] {a : Int} {k : Nat} (hk : 0 < k) (h : nw a < k) : nw (if c then a else 0) < k := by
  split
  · exact h
  · rw [nw_zero.2 rfl]; exact hk
theorem nw_sg {m : Bool} {ws : List Int} (h : Wd ws) {k : Nat} (hl : ws.length < k) : nw (sg m (val ws)) < k := by
  have := nw_val (m := m) h; omega
set_option maxRecDepth 100000 in
set_option maxHeartbeats 4000000 in
theorem numValues_says (m n : Bool) (ws vs : List Int) (k : Int) (h : Wd ws) (h2 : Wd vs) (hk0 : -9223372036854775808 ≤ k) (hk1 : k < 9223372036854775808) : Says E 3 [pI m ws, pI n vs, vZ k] (bZ true) := by
  refine says_of (xs := [bZ true]) Tryd.func3 rfl Tryd.ntmps3 Tryd.results3 (by simp) fun F hG hX0 hnt hdf P0 => ?_
  have L := ltn hnt
  have hX : ∀ b, F.X b → E.ng ≤ b := fun b h => absurd h (hX0 b)
  have hN := ng_le hG
  refine exr ?_
  refine swb (core_box (k := 3) (n := 2) (.pagg (.cons (.cons .nil))) rfl rfl (P0 _ rfl) (L _ rfl)) ⟨rfl, trivial⟩ trivial ⟨rfl, rfl⟩ ?_
  refine swb (core_box (k := 4) (n := 2) (.pagg (.cons (.cons .nil))) rfl rfl (P0 _ rfl) (L _ rfl)) ⟨rfl, trivial⟩ trivial ⟨rfl, rfl⟩ ?_
  refine sw (core_assign (L _ rfl)) ⟨rfl, trivial⟩ trivial ?_
  refine seq_nil ⟨[(2, _), (3, _), (4, _)], [(3, _), (4, _)], ⟨rfl, rfl, rfl, trivial⟩, ⟨rfl, rfl, trivial⟩, ?_⟩
  refine ex_seq ?_
  refine exr ?_
  refine sw (core_loadP Tryd.isAgg24 Tryd.sizeOf24 (by rfl) (by exact (.cons (.cons .nil))) rfl (L _ rfl)) ⟨rfl, trivial⟩ ⟨rfl, trivial⟩ ?_
  refine sw (core_loadP Tryd.isAgg24 Tryd.sizeOf24 (by rfl) (by exact (.cons (.cons .nil))) rfl (L _ rfl)) ⟨rfl, trivial⟩ ⟨rfl, trivial⟩ ?_
  refine sw (core_loadP Tryd.isAgg24 Tryd.sizeOf24 (by rfl) (by exact (.cons (.cons .nil))) rfl (L _ rfl)) ⟨rfl, trivial⟩ ⟨rfl, trivial⟩ ?_
  refine sw (core_call (E := E) hG hX Tryd.call12 rfl hN (lshort_says 1000 m n n ws vs vs) (L _ rfl)) ⟨rfl, rfl, rfl, rfl, trivial⟩ trivial ?_
  refine sw (core_not (L _ rfl)) ⟨rfl, trivial⟩ trivial ?_
  refine seq_nil ⟨[(2, _), (3, _), (4, _), (16, _)], [(3, _), (4, _)], ⟨rfl, rfl, rfl, rfl, trivial⟩, ⟨rfl, rfl, trivial⟩, ?_⟩
  refine ex_if rfl (fun hc => ?_) (fun hc => ?_)
  · refine exr ?_
    refine sw (core_call (E := E) hG hX Tryd.call13 rfl hN sane_says (L _ rfl)) trivial trivial ?_
    refine sw (core_assign (L _ rfl)) ⟨rfl, trivial⟩ trivial ?_
    refine seq_nil ⟨[(6, _)], [], ⟨rfl, trivial⟩, trivial, ?_⟩
    refine ex_ret ?_
    refine ⟨.inr rfl, ResVs.cast (.cons (.tmp rfl) .nil) ?_⟩
    rfl
  · have hc := ndf hc
    have l1 := nw_sg (m := m) h (k := 2000) (by omega)
    refine ex_skip (show Exec _ _ _ _ _ from ?_)
    refine exr ?_
    refine sw (core_loadP Tryd.isAgg24 Tryd.sizeOf24 (by rfl) (by exact (.cons (.cons .nil))) rfl (L _ rfl)) ⟨rfl, trivial⟩ ⟨rfl, trivial⟩ ?_
    refine sw (core_call (E := E) hG hX Tryd.call14 rfl hN (small_says m ws (by omega) h) (L _ rfl)) ⟨rfl, trivial⟩ trivial ?_
    refine sw (core_move (L _ rfl)) ⟨rfl, trivial⟩ trivial ?_
    refine sw (core_extract rfl (L _ rfl)) ⟨rfl, trivial⟩ trivial ?_
    refine sw (core_extract rfl (L _ rfl)) ⟨rfl, trivial⟩ trivial ?_
    refine sw (core_assign (L _ rfl)) ⟨rfl, trivial⟩ trivial ?_
    refine sw (core_assign (L _ rfl)) ⟨rfl, trivial⟩ trivial ?_
    refine seq_nil ⟨[(2, _), (3, _), (4, _), (7, _), (8, _)], [(3, _), (4, _)], ⟨rfl, rfl, rfl, rfl, rfl, trivial⟩, ⟨rfl, rfl, trivial⟩, ?_⟩
    refine exr ?_
    refine sw (core_loadP Tryd.isAgg24 Tryd.sizeOf24 (by rfl) (by exact (.cons (.cons .nil))) rfl (L _ rfl)) ⟨rfl, trivial⟩ ⟨rfl, trivial⟩ ?_
    refine sw (core_call (E := E) hG hX Tryd.call15 rfl hN (rsmall_says m ws (by omega) h) (L _ rfl)) ⟨rfl, trivial⟩ trivial ?_
    refine sw (core_move (L _ rfl)) ⟨rfl, trivial⟩ trivial ?_
    refine sw (core_extract rfl (L _ rfl)) ⟨rfl, trivial⟩ trivial ?_
    refine sw (core_extract rfl (L _ rfl)) ⟨rfl, trivial⟩ trivial ?_
    refine sw (core_assign (L _ rfl)) ⟨rfl, trivial⟩ trivial ?_
    refine sw (core_assign (L _ rfl)) ⟨rfl, trivial⟩ trivial ?_
    refine seq_nil ⟨[(2, _), (3, _), (4, _), (7, _), (8, _), (9, _), (10, _)], [(3, _), (4, _)], ⟨rfl, rfl, rfl, rfl, rfl, rfl, rfl, trivial⟩, ⟨rfl, rfl, trivial⟩, ?_⟩
    refine exd (by rfl) ?_
    refine sw (core_loadP Tryd.isAgg24 Tryd.sizeOf24 (by rfl) (by exact (.cons (.cons .nil))) rfl (L _ rfl)) ⟨rfl, trivial⟩ ⟨rfl, trivial⟩ ?_
    refine sw (core_call (E := E) hG hX Tryd.call16 rfl hN (is_says m ws (by omega)) (L _ rfl)) ⟨rfl, trivial⟩ trivial ?_
    refine sw (core_loadP Tryd.isAgg24 Tryd.sizeOf24 (by rfl) (by exact (.cons (.cons .nil))) rfl (L _ rfl)) ⟨rfl, trivial⟩ ⟨rfl, trivial⟩ ?_
    refine sw (core_call (E := E) hG hX Tryd.call17 rfl hN (ris_says m ws (by omega)) (L _ rfl)) ⟨rfl, trivial⟩ trivial ?_
    refine sw (core_beq Tryd.underlying4 (L _ rfl)) ⟨rfl, rfl, trivial⟩ trivial ?_
    refine sw (core_move (L _ rfl)) ⟨rfl, trivial⟩ trivial ?_
    refine swg (g := 33) rfl (by simp) (core_move (L _ rfl)) rfl ⟨rfl, trivial⟩ trivial ?_
    refine swg (g := 33) rfl (by simp) (core_call (E := E) hG hX Tryd.call19 rfl hN (of_says k hk0 hk1) (L _ rfl)) rfl ⟨rfl, trivial⟩ trivial ?_
    refine swg (g := 33) rfl (by simp) (core_move (L _ rfl)) rfl ⟨rfl, trivial⟩ trivial ?_
    refine swg (g := 33) rfl (by simp) (core_call (E := E) hG hX Tryd.call20 rfl hN (rof_says k hk0 hk1) (L _ rfl)) rfl ⟨rfl, trivial⟩ trivial ?_
    refine swg (g := 33) rfl (by simp) (core_call (E := E) hG hX Tryd.call18 rfl hN (sameT rfl (by have := nw2 (a := k) (by omega) (by omega); omega)) (L _ rfl)) rfl ⟨rfl, rfl, trivial⟩ trivial ?_
    refine sw (core_pick_t (by simp) (L _ rfl)) ⟨rfl, rfl, trivial⟩ trivial ?_
    refine sw (core_move (L _ rfl)) ⟨rfl, trivial⟩ trivial ?_
    refine swg (g := 40) rfl (by simp) (core_move (L _ rfl)) rfl ⟨rfl, trivial⟩ trivial ?_
    refine swg (g := 40) rfl (by simp) (core_move (L _ rfl)) rfl ⟨rfl, trivial⟩ trivial ?_
    refine swg (g := 40) rfl (by simp) (core_eql (L _ rfl)) rfl ⟨rfl, rfl, trivial⟩ trivial ?_
    refine sw (core_pick_t (by simp) (L _ rfl)) ⟨rfl, rfl, trivial⟩ trivial ?_
    refine sw (core_move (L _ rfl)) ⟨rfl, trivial⟩ trivial ?_
    refine swg (g := 45) rfl (by simp) (core_move (L _ rfl)) rfl ⟨rfl, trivial⟩ trivial ?_
    refine swg (g := 45) rfl (by simp) (core_move (L _ rfl)) rfl ⟨rfl, trivial⟩ trivial ?_
    refine swg (g := 45) rfl (by simp) (core_eql (L _ rfl)) rfl ⟨rfl, rfl, trivial⟩ trivial ?_
    refine sw (core_pick_t (by simp) (L _ rfl)) ⟨rfl, rfl, trivial⟩ trivial ?_
    refine sw (core_move (L _ rfl)) ⟨rfl, trivial⟩ trivial ?_
    refine swg (g := 50) rfl (by simp) (core_loadP Tryd.isAgg24 Tryd.sizeOf24 (by rfl) (by exact (.cons (.cons .nil))) rfl (L _ rfl)) rfl ⟨rfl, trivial⟩ ⟨rfl, trivial⟩ ?_
    refine swg (g := 50) rfl (by simp) (core_call (E := E) hG hX Tryd.call21 rfl hN (bits_says m ws (by omega) h) (L _ rfl)) rfl ⟨rfl, trivial⟩ trivial ?_
    refine swg (g := 50) rfl (by simp) (core_loadP Tryd.isAgg24 Tryd.sizeOf24 (by rfl) (by exact (.cons (.cons .nil))) rfl (L _ rfl)) rfl ⟨rfl, trivial⟩ ⟨rfl, trivial⟩ ?_
    refine swg (g := 50) rfl (by simp) (core_call (E := E) hG hX Tryd.call22 rfl hN (rbits_says m ws (by omega) h) (L _ rfl)) rfl ⟨rfl, trivial⟩ trivial ?_
    refine swg (g := 50) rfl (by simp) (core_eql (L _ rfl)) rfl ⟨rfl, rfl, trivial⟩ trivial ?_
    refine sw (core_pick_t (by simp) (L _ rfl)) ⟨rfl, rfl, trivial⟩ trivial ?_
    refine sw (core_assign (L _ rfl)) ⟨rfl, trivial⟩ trivial ?_
    refine seq_nil ⟨aoks [⟨[3], [3], [28], []⟩, ⟨[28], [], [29], []⟩, ⟨[3], [3], [30], []⟩, ⟨[30], [], [31], []⟩, ⟨[29, 31], [], [32], []⟩, ⟨[32], [], [33], []⟩, ⟨[33, 2], [], [34], []⟩, ⟨[33, 34], [], [35], []⟩, ⟨[33, 2], [], [36], []⟩, ⟨[33, 36], [], [37], []⟩, ⟨[33, 35, 37], [], [38], []⟩, ⟨[33, 38], [], [39], []⟩, ⟨[39], [], [40], []⟩, ⟨[40, 7], [], [41], []⟩, ⟨[40, 9], [], [42], []⟩, ⟨[40, 41, 42], [], [43], []⟩, ⟨[40, 43], [], [44], []⟩, ⟨[44], [], [45], []⟩, ⟨[45, 8], [], [46], []⟩, ⟨[45, 10], [], [47], []⟩, ⟨[45, 46, 47], [], [48], []⟩, ⟨[45, 48], [], [49], []⟩, ⟨[49], [], [50], []⟩, ⟨[50, 3], [3], [51], []⟩, ⟨[50, 51], [], [52], []⟩, ⟨[50, 3], [3], [53], []⟩, ⟨[50, 53], [], [54], []⟩, ⟨[50, 52, 54], [], [55], []⟩, ⟨[50, 55], [], [56], []⟩, ⟨[56], [], [11], []⟩] (by rfl) (by rfl) (by decide), [(3, _), (4, _), (11, _)], [(3, _), (4, _)], ⟨rfl, rfl, rfl, trivial⟩, ⟨rfl, rfl, trivial⟩, ?_⟩
    refine exd (by rfl) ?_
    refine sw (core_call (E := E) hG hX Tryd.call13 rfl hN sane_says (L _ rfl)) trivial trivial ?_
    refine sw (core_move (L _ rfl)) ⟨rfl, trivial⟩ trivial ?_
    refine swg (g := 58) rfl (by simp) (core_move (L _ rfl)) rfl ⟨rfl, trivial⟩ trivial ?_
    refine sw (core_pick_t (by simp) (L _ rfl)) ⟨rfl, rfl, trivial⟩ trivial ?_
    refine sw (core_move (L _ rfl)) ⟨rfl, trivial⟩ trivial ?_
    refine swg (g := 61) rfl (by simp) (core_loadP Tryd.isAgg24 Tryd.sizeOf24 (by rfl) (by exact (.cons (.cons .nil))) rfl (L _ rfl)) rfl ⟨rfl, trivial⟩ ⟨rfl, trivial⟩ ?_
    refine swg (g := 61) rfl (by simp) (core_call (E := E) hG hX Tryd.call23 rfl hN (sign_says m ws (by omega) h) (L _ rfl)) rfl ⟨rfl, trivial⟩ trivial ?_
    refine swg (g := 61) rfl (by simp) (core_loadP Tryd.isAgg24 Tryd.sizeOf24 (by rfl) (by exact (.cons (.cons .nil))) rfl (L _ rfl)) rfl ⟨rfl, trivial⟩ ⟨rfl, trivial⟩ ?_
    refine swg (g := 61) rfl (by simp) (core_call (E := E) hG hX Tryd.call24 rfl hN (rsign_says m ws (by omega) h) (L _ rfl)) rfl ⟨rfl, trivial⟩ trivial ?_
    refine swg (g := 61) rfl (by simp) (core_eql (L _ rfl)) rfl ⟨rfl, rfl, trivial⟩ trivial ?_
    refine sw (core_pick_t (by simp) (L _ rfl)) ⟨rfl, rfl, trivial⟩ trivial ?_
    refine sw (core_move (L _ rfl)) ⟨rfl, trivial⟩ trivial ?_
    refine swg (g := 68) rfl (by simp) (core_loadP Tryd.isAgg24 Tryd.sizeOf24 (by rfl) (by exact (.cons (.cons .nil))) rfl (L _ rfl)) rfl ⟨rfl, trivial⟩ ⟨rfl, trivial⟩ ?_
    refine swg (g := 68) rfl (by simp) (core_loadP Tryd.isAgg24 Tryd.sizeOf24 (by rfl) (by exact (.cons (.cons .nil))) rfl (L _ rfl)) rfl ⟨rfl, trivial⟩ ⟨rfl, trivial⟩ ?_
    refine swg (g := 68) rfl (by simp) (core_call (E := E) hG hX Tryd.call25 rfl hN (cmp_says m n ws vs (by omega) (by omega) h h2) (L _ rfl)) rfl ⟨rfl, rfl, trivial⟩ trivial ?_
    refine swg (g := 68) rfl (by simp) (core_loadP Tryd.isAgg24 Tryd.sizeOf24 (by rfl) (by exact (.cons (.cons .nil))) rfl (L _ rfl)) rfl ⟨rfl, trivial⟩ ⟨rfl, trivial⟩ ?_
    refine swg (g := 68) rfl (by simp) (core_loadP Tryd.isAgg24 Tryd.sizeOf24 (by rfl) (by exact (.cons (.cons .nil))) rfl (L _ rfl)) rfl ⟨rfl, trivial⟩ ⟨rfl, trivial⟩ ?_
    refine swg (g := 68) rfl (by simp) (core_call (E := E) hG hX Tryd.call26 rfl hN (rcmpI_says m n ws vs (by omega) (by omega) h h2) (L _ rfl)) rfl ⟨rfl, rfl, trivial⟩ trivial ?_
    refine swg (g := 68) rfl (by simp) (core_eql (L _ rfl)) rfl ⟨rfl, rfl, trivial⟩ trivial ?_
    refine sw (core_pick_t (by simp) (L _ rfl)) ⟨rfl, rfl, trivial⟩ trivial ?_
    refine sw (core_move (L _ rfl)) ⟨rfl, trivial⟩ trivial ?_
    refine swg (g := 77) rfl (by simp) (core_loadP Tryd.isAgg24 Tryd.sizeOf24 (by rfl) (by exact (.cons (.cons .nil))) rfl (L _ rfl)) rfl ⟨rfl, trivial⟩ ⟨rfl, trivial⟩ ?_
    refine swg (g := 77) rfl (by simp) (core_call (E := E) hG hX Tryd.call27 rfl hN (neg_says m ws (by omega) h) (L _ rfl)) rfl ⟨rfl, trivial⟩ trivial ?_
    refine swg (g := 77) rfl (by simp) (core_loadP Tryd.isAgg24 Tryd.sizeOf24 (by rfl) (by exact (.cons (.cons .nil))) rfl (L _ rfl)) rfl ⟨rfl, trivial⟩ ⟨rfl, trivial⟩ ?_
    refine swg (g := 77) rfl (by simp) (core_call (E := E) hG hX Tryd.call28 rfl hN (rneg_says m ws (by omega) h) (L _ rfl)) rfl ⟨rfl, trivial⟩ trivial ?_
    refine swg (g := 77) rfl (by simp) (core_call (E := E) hG hX Tryd.call18 rfl hN (sameT rfl (nw_if (by omega) (by rw [nw_neg]; omega))) (L _ rfl)) rfl ⟨rfl, rfl, trivial⟩ trivial ?_
    refine sw (core_pick_t (by simp) (L _ rfl)) ⟨rfl, rfl, trivial⟩ trivial ?_
    refine sw (core_move (L _ rfl)) ⟨rfl, trivial⟩ trivial ?_
    refine swg (g := 84) rfl (by simp) (core_loadP Tryd.isAgg24 Tryd.sizeOf24 (by rfl) (by exact (.cons (.cons .nil))) rfl (L _ rfl)) rfl ⟨rfl, trivial⟩ ⟨rfl, trivial⟩ ?_
    refine swg (g := 84) rfl (by simp) (core_call (E := E) hG hX Tryd.call29 rfl hN (abs_says m ws (by omega) h) (L _ rfl)) rfl ⟨rfl, trivial⟩ trivial ?_
    refine swg (g := 84) rfl (by simp) (core_loadP Tryd.isAgg24 Tryd.sizeOf24 (by rfl) (by exact (.cons (.cons .nil))) rfl (L _ rfl)) rfl ⟨rfl, trivial⟩ ⟨rfl, trivial⟩ ?_
    refine swg (g := 84) rfl (by simp) (core_call (E := E) hG hX Tryd.call30 rfl hN (rabs_says m ws (by omega) h) (L _ rfl)) rfl ⟨rfl, trivial⟩ trivial ?_
    refine swg (g := 84) rfl (by simp) (core_call (E := E) hG hX Tryd.call18 rfl hN (sameT rfl (nw_if (by omega) (Nat.lt_of_le_of_lt (nw_mono (b := sg m (val ws)) (by omega)) (by omega)))) (L _ rfl)) rfl ⟨rfl, rfl, trivial⟩ trivial ?_
    refine sw (core_pick_t (by simp) (L _ rfl)) ⟨rfl, rfl, trivial⟩ trivial ?_
    refine sw (core_assign (L _ rfl)) ⟨rfl, trivial⟩ trivial ?_
    refine seq_nil ⟨aoks [⟨[], [], [57], []⟩, ⟨[57], [], [58], []⟩, ⟨[58, 11], [], [59], []⟩, ⟨[58, 59], [], [60], []⟩, ⟨[60], [], [61], []⟩, ⟨[61, 3], [3], [62], []⟩, ⟨[61, 62], [], [63], []⟩, ⟨[61, 3], [3], [64], []⟩, ⟨[61, 64], [], [65], []⟩, ⟨[61, 63, 65], [], [66], []⟩, ⟨[61, 66], [], [67], []⟩, ⟨[67], [], [68], []⟩, ⟨[68, 3], [3], [69], []⟩, ⟨[68, 4], [4], [70], []⟩, ⟨[68, 69, 70], [], [71], []⟩, ⟨[68, 3], [3], [72], []⟩, ⟨[68, 4], [4], [73], []⟩, ⟨[68, 72, 73], [], [74], []⟩, ⟨[68, 71, 74], [], [75], []⟩, ⟨[68, 75], [], [76], []⟩, ⟨[76], [], [77], []⟩, ⟨[77, 3], [3], [78], []⟩, ⟨[77, 78], [], [79], []⟩, ⟨[77, 3], [3], [80], []⟩, ⟨[77, 80], [], [81], []⟩, ⟨[77, 79, 81], [], [82], []⟩, ⟨[77, 82], [], [83], []⟩, ⟨[83], [], [84], []⟩, ⟨[84, 3], [3], [85], []⟩, ⟨[84, 85], [], [86], []⟩, ⟨[84, 3], [3], [87], []⟩, ⟨[84, 87], [], [88], []⟩, ⟨[84, 86, 88], [], [89], []⟩, ⟨[84, 89], [], [90], []⟩, ⟨[90], [], [6], []⟩] (by rfl) (by rfl) (by decide), [(6, _)], [], ⟨rfl, trivial⟩, trivial, ?_⟩
    refine ex_ret ?_
    refine ⟨.inr rfl, ResVs.cast (.cons (.tmp rfl) .nil) ?_⟩
    rfl

end Go.Proofs.YtebkelnibecmjaaDoor.N
