/- Part Spec of the proof: lemmas for the walks of the given functions. No statement of its own. -/
import Derived.Test.YtebkelnibecmjaaDoorHelp
import Derived.Test.YtebkelnibecmjaaDoorText
set_option linter.unusedVariables false
set_option linter.unusedSimpArgs false
set_option linter.deprecated false
namespace Go.Proofs.YtebkelnibecmjaaDoor.N
open Go Go.Proofs.YtebkelnibecmjaaDoor.SH Go.Proofs.YtebkelnibecmjaaDoor.NumA
theorem getM2 {xs ys win zs : List Int} {i j : Nat} (hx : xs.length = i) (hl : ys.length = j) (hj : j < win.length) : (encW (xs ++ ((ys ++ win.drop j) ++ zs)))[i + j]? = some (.a (.int .u32 (win.getD j 0))) := by
  subst hx; exact getM hl hj
theorem mid_set2 {xs ys win zs : List Int} {i j : Nat} (hx : xs.length = i) (hl : ys.length = j) (hj : j < win.length) {d : Int} : (xs ++ ((ys ++ win.drop j) ++ zs)).set (i + j) d = xs ++ (((ys ++ [d]) ++ win.drop (j + 1)) ++ zs) := by
  subst hx; exact mid_set hl hj d
set_option maxRecDepth 100000 in
set_option maxHeartbeats 4000000 in
theorem rdivW_says (ws vs : List Int) (hl : ws.length < 90000000) (hl2 : vs.length < 90000000) (h : Wd ws) (h2 : Wd vs) (ht : Tr ws) (ht2 : Tr vs) (hv : 0 < val vs) : Says E 66 [pW ws, pW vs] (.tup [pW (digs (val ws / val vs).toNat), pW (digs (val ws % val vs).toNat)]) := by
  refine says_of (xs := [pW (digs (val ws / val vs).toNat), pW (digs (val ws % val vs).toNat)]) Tryd.func66 rfl Tryd.ntmps66 Tryd.results66 (by simp) fun F hG hX0 hnt hdf P0 => ?_
  have L := ltn hnt
  have hX : ∀ b, F.X b → E.ng ≤ b := fun b h => absurd h (hX0 b)
  have hN := ng_le hG
  have a0 := val_nonneg h
  have q0 := Int.ediv_nonneg a0 (Int.le_of_lt hv)
  have r0 := Int.emod_nonneg (val ws) (show val vs ≠ 0 by omega)
  have r1 := Int.emod_lt_of_pos (val ws) hv
  refine exr ?_
  refine sw (core_assign (L _ rfl)) ⟨rfl, T0⟩ T0 ?_
  refine sw (core_assign (L _ rfl)) ⟨rfl, T0⟩ T0 ?_
  refine seq_nil ⟨[(0, _), (1, _)], [], ⟨rfl, rfl, T0⟩, trivial, ?_⟩
  refine ex_seq ?_
  refine exr ?_
  refine sw (core_move (L _ rfl)) ⟨rfl, T0⟩ T0 ?_
  refine sw (core_move (L _ rfl)) ⟨rfl, T0⟩ T0 ?_
  refine sw (core_call (E := E) hG hX Tryd.call61 rfl hN (rcmp_says ws vs (by omega) (by omega) h h2 ht ht2) (L _ rfl)) ⟨rfl, rfl, T0⟩ T0 ?_
  refine sw (core_lss (L _ rfl)) ⟨rfl, rfl, T0⟩ T0 ?_
  refine seq_nil ⟨[(0, _), (1, _), (22, _)], [], ⟨rfl, rfl, rfl, T0⟩, trivial, ?_⟩
  refine ex_if rfl (fun hc => ?_) (fun hc => ?_)
  · have hc := dt hc
    rw [cmpI_neg] at hc
    refine exr ?_
    refine sw (core_move (L _ rfl)) ⟨rfl, T0⟩ T0 ?_
    refine sw (core_assign (L _ rfl)) ⟨rfl, T0⟩ T0 ?_
    refine sw (core_assign (L _ rfl)) ⟨rfl, T0⟩ T0 ?_
    refine seq_nil ⟨[(4, _), (5, _)], [], ⟨rfl, rfl, T0⟩, trivial, ?_⟩
    refine ex_cv [] (sl := [(4, _), (5, _)]) (hb := []) (own_none hX0) ⟨⟨_, rfl, (.p .nil)⟩, ⟨_, rfl, .same⟩, T0⟩ T0 ?_
    refine ex_ret ?_
    refine ⟨.inr rfl, ResVs.cast (.cons (.tmp rfl) (.cons (.tmp rfl) .nil)) ?_⟩
    rw [Int.ediv_eq_zero_of_lt a0 hc, Int.emod_eq_of_lt a0 hc, digs_val h ht]; simp [digs_zero, encW]
  · have hc := df hc
    have hge : val vs ≤ val ws := by rw [cmpI_neg] at hc; omega
    have hlen := len_le h h2 ht2 hge
    refine ex_skip (show Exec _ _ _ _ _ from ?_)
    refine ex_seq ?_
    refine exr ?_
    refine sw (core_move (L _ rfl)) ⟨rfl, T0⟩ T0 ?_
    refine sw (core_len Tryd.underlying22 (L _ rfl)) ⟨rfl, T0⟩ T0 ?_
    refine sw (core_eql (L _ rfl)) ⟨rfl, rfl, T0⟩ T0 ?_
    refine seq_nil ⟨[(0, _), (1, _), (26, _)], [], ⟨rfl, rfl, rfl, T0⟩, trivial, ?_⟩
    refine ex_if rfl (fun h1 => ?_) (fun h1 => ?_)
    · have h1 := dt h1
      have hl1 : vs.length = 1 := by omega
      have hv1 := val_one hl1
      have hvb := val_lt1 h2 (by omega)
      have a1 := rbyWord_says ws (vs.getD 0 0) (by omega) h (by omega)
      rw [hv1] at a1
      refine exr ?_
      refine sw (core_move (L _ rfl)) ⟨rfl, T0⟩ T0 ?_
      refine sw (core_move (L _ rfl)) ⟨rfl, T0⟩ T0 ?_
      refine sw (ixJ Tryd.underlying22 Tryd.sizeOf53 (j := 0) rfl (by omega) (by simp) (L _ rfl)) ⟨rfl, rfl, T0⟩ T0 ?_
      refine sw (core_loadI1 Tryd.isAgg53 (by first | exact getW (by omega) | rfl) (L _ rfl)) ⟨rfl, T0⟩ T0 ?_
      refine sw (core_conv Tryd.underlying53 Tryd.underlying52 (L _ rfl) (show _ = val vs by rw [hv1]; exact w64u (by omega) (by omega))) ⟨rfl, T0⟩ T0 ?_
      refine sw (core_call (E := E) hG hX Tryd.call87 rfl hN a1 (L _ rfl)) ⟨rfl, rfl, T0⟩ T0 ?_
      refine sw (core_extract rfl (L _ rfl)) ⟨rfl, T0⟩ T0 ?_
      refine sw (core_extract rfl (L _ rfl)) ⟨rfl, T0⟩ T0 ?_
      refine sw (core_assign (L _ rfl)) ⟨rfl, T0⟩ T0 ?_
      refine sw (core_assign (L _ rfl)) ⟨rfl, T0⟩ T0 ?_
      refine seq_nil ⟨[(4, _), (5, _)], [], ⟨rfl, rfl, T0⟩, trivial, ?_⟩
      refine ex_ret ?_
      refine ⟨.inr rfl, ResVs.cast (.cons (.tmp rfl) (.cons (.tmp rfl) .nil)) ?_⟩
      rfl
    · have h1 := df h1
      have hvn : vs.length ≠ 0 := by
        intro e
        rw [List.eq_nil_of_length_eq_zero e] at hv; simp [val] at hv
      obtain ⟨m, hm⟩ : ∃ m, vs.length = m + 2 := ⟨vs.length - 2, by omega⟩
      have htw := h2.getD (vs.length - 1)
      have hbl := bl32 htw.2
      obtain ⟨k, hk⟩ : ∃ k : Nat, k + bl (vs.getD (vs.length - 1) 0).toNat = 32 := ⟨32 - bl (vs.getD (vs.length - 1) 0).toNat, by omega⟩
      have hbv := bl_val h2 ht2 (fun e => by rw [e] at hm; simp at hm)
      obtain ⟨W, hW⟩ : ∃ W, W = digs (val ws * 2 ^ k).toNat ++ [0, 0] := ⟨_, rfl⟩
      obtain ⟨Dv, hDe⟩ : ∃ Dv, Dv = digs (val vs * 2 ^ k).toNat := ⟨_, rfl⟩
      obtain ⟨k32, -, hDpos, hDlt, hDv, hDl, htop, hWv, hWd, hDwd, hWl, hWl2, hstart⟩ := rdiv_start h h2 ht2 hm hk hge hW hDe
      have hlW : (digs (val ws * 2 ^ k).toNat).length + 2 = W.length := by rw [hW]; simp
      refine ex_skip (show Exec _ _ _ _ _ from ?_)
      refine exr ?_
      refine sw (core_move (L _ rfl)) ⟨rfl, T0⟩ T0 ?_
      refine sw (core_len Tryd.underlying22 (L _ rfl)) ⟨rfl, T0⟩ T0 ?_
      refine sw (core_mul (L _ rfl) (w64 (by omega) (by omega))) ⟨rfl, rfl, T0⟩ T0 ?_
      refine sw (core_move (L _ rfl)) ⟨rfl, T0⟩ T0 ?_
      refine sw (core_call (E := E) hG hX Tryd.call58 rfl hN (rbitsOf_says vs (by omega) h2 ht2) (L _ rfl)) ⟨rfl, T0⟩ T0 ?_
      refine sw (core_sub (L _ rfl) (show _ = (k : Int) by rw [hbv, show (32 * (vs.length : Int) - (32 * ((vs.length : Int) - 1) + (bl (vs.getD (vs.length - 1) 0).toNat : Int))) = (k : Int) by omega]; exact w64 (by omega) (by omega))) ⟨rfl, rfl, T0⟩ T0 ?_
      refine sw (core_assign (L _ rfl)) ⟨rfl, T0⟩ T0 ?_
      refine seq_nil ⟨[(0, _), (1, _), (6, _)], [], ⟨rfl, rfl, rfl, T0⟩, trivial, ?_⟩
      refine exr ?_
      refine sw (core_move (L _ rfl)) ⟨rfl, T0⟩ T0 ?_
      refine sw (core_move (L _ rfl)) ⟨rfl, T0⟩ T0 ?_
      refine sw (core_call (E := E) hG hX Tryd.call74 rfl hN (rshifted_says vs k (by omega) h2 (by omega)).data (L _ rfl)) ⟨rfl, rfl, T0⟩ T0 ?_
      refine sw (core_assign (L _ rfl)) ⟨rfl, T0⟩ T0 ?_
      refine seq_nil ⟨[(0, _), (6, _), (7, _)], [], ⟨rfl, rfl, rfl, T0⟩, trivial, ?_⟩
      rw [← hDe]
      refine exr ?_
      refine sw (core_move (L _ rfl)) ⟨rfl, T0⟩ T0 ?_
      refine sw (core_move (L _ rfl)) ⟨rfl, T0⟩ T0 ?_
      refine swb (core_callO (E := E) (k := 46) hG hX Tryd.call74 rfl hN (rshifted_says ws k (by omega) h (by omega)) (P0 _ rfl) (L _ rfl)) ⟨rfl, rfl, T0⟩ T0 ⟨rfl, rfl⟩ ?_
      refine sw (core_bsI (vs := [_, _]) Tryd.underlying22 Tryd.typeInfo53 rfl rfl (by decide) (by decide) rfl (zs_made (.cons rfl .nil) rfl) rfl (.cons rfl (.atom rfl) rfl (.put .here) (.cons rfl (.atom rfl) rfl (.skip (.put .here)) .nil)) (.cons (.cons .nil)) (L _ rfl)) ⟨rfl, rfl, T0⟩ T0 ?_
      refine swb (apP (sz := 1) Tryd.underlying22 Tryd.underlying22 Tryd.typeInfo53 rfl rfl rfl (by decide) (by exact (by simp)) (by omega) (by simp) rfl rfl rfl (by first | (simp [Tryd.t53]; done) | (simp [Tryd.t53]; omega)) (by omega) (P0 _ rfl) (L _ rfl)) ⟨rfl, rfl, T0⟩ ⟨rfl, T0⟩ T0 ?_
      refine sw (core_assign (L _ rfl)) ⟨rfl, T0⟩ T0 ?_
      refine seq_nil ⟨[(5, _), (6, _), (7, _)], [(46, _)], ⟨rfl, rfl, rfl, T0⟩, ⟨rfl, T0⟩, ?_⟩
      rw [show encW (digs (val ws * 2 ^ k).toNat) ++ [Pure.a (Value.int IntKind.u32 0), Pure.a (Value.int IntKind.u32 0)] = encW W by rw [hW]; simp [encW]]
      rw [show (digs (val ws * 2 ^ k).toNat).length * 1 + 2 * 1 = W.length by omega, hlW]
      refine exr ?_
      refine sw (core_move (L _ rfl)) ⟨rfl, T0⟩ T0 ?_
      refine sw (core_len Tryd.underlying22 (L _ rfl)) ⟨rfl, T0⟩ T0 ?_
      refine sw (core_assign (L _ rfl)) ⟨rfl, T0⟩ T0 ?_
      refine seq_nil ⟨[(5, _), (6, _), (7, _), (8, _)], [(46, _)], ⟨rfl, rfl, rfl, rfl, T0⟩, ⟨rfl, T0⟩, ?_⟩
      refine exr ?_
      refine sw (core_move (L _ rfl)) ⟨rfl, T0⟩ T0 ?_
      refine sw (core_lenR Tryd.underlying22 (by exact (by simp)) (L _ rfl)) ⟨rfl, T0⟩ ⟨rfl, T0⟩ ?_
      refine sw (core_move (L _ rfl)) ⟨rfl, T0⟩ T0 ?_
      refine sw (core_sub (L _ rfl) (w64 (by omega) (by omega))) ⟨rfl, rfl, T0⟩ T0 ?_
      refine swb (core_make1 (k := 55) Tryd.underlying22 Tryd.typeInfo53 rfl rfl rfl rfl (show _ = ((W.length - (m + 2) : Nat) : Int) by omega) (show _ = ((W.length - (m + 2) : Nat) : Int) by omega) (Nat.le_refl _) (by simp [Tryd.t53]; omega) (by omega) (P0 _ rfl) (L _ rfl)) ⟨rfl, rfl, T0⟩ T0 ⟨rfl, rfl⟩ ?_
      refine sw (core_assign (L _ rfl)) ⟨rfl, T0⟩ T0 ?_
      refine seq_nil ⟨[(4, _), (5, _), (6, _), (7, _), (8, _)], [(46, _), (55, _)], ⟨rfl, rfl, rfl, rfl, rfl, T0⟩, ⟨rfl, rfl, T0⟩, ?_⟩
      refine ex_seq ?_
      refine exr ?_
      refine sw (core_move (L _ rfl)) ⟨rfl, T0⟩ T0 ?_
      refine sw (core_lenR Tryd.underlying22 (by exact (by simp)) (L _ rfl)) ⟨rfl, T0⟩ ⟨rfl, T0⟩ ?_
      refine sw (core_move (L _ rfl)) ⟨rfl, T0⟩ T0 ?_
      refine sw (core_sub (L _ rfl) (w64 (by omega) (by omega))) ⟨rfl, rfl, T0⟩ T0 ?_
      refine sw (core_sub (L _ rfl) (w64 (by omega) (by omega))) ⟨rfl, rfl, T0⟩ T0 ?_
      refine sw (core_assign (L _ rfl)) ⟨rfl, T0⟩ T0 ?_
      refine seq_nil ⟨[(4, _), (5, _), (6, _), (7, _), (8, _), (9, _)], [(46, _), (55, _)], ⟨rfl, rfl, rfl, rfl, rfl, rfl, T0⟩, ⟨rfl, rfl, T0⟩, ?_⟩
      refine ex_block ?_
      refine exl (α := (Nat × Int × List Int)) (fun x => [(9, vi ((x.1:Int) - 1))]) (fun x => [(46, ⟨53, 1, .pure (encW (restAt W (m + 2) x.1 x.2.1))⟩), (55, ⟨53, 1, .pure (encW (List.replicate x.1 0 ++ x.2.2))⟩)]) (fun x => PartAt W (m + 2) (val Dv) x) (fun x => x.1) ((W.length - (m + 2), val (W.drop (W.length - (m + 2))), ([] : List Int))) (sl := [(4, _), (5, _), (6, _), (7, _), (8, _)]) (hb := []) ?_ ⟨oi (by omega) rfl, rfl, rfl, rfl, rfl, rfl, T0⟩ ⟨obl rfl (by rw [restAt_start hWd (by omega)]), obl rfl (by rw [encW_rep, List.append_nil]), T0⟩ ?_
      · exact hstart
      intro x hx
      obtain ⟨r, R, qs⟩ := x
      have hle := hx.le
      have hr := hx.r
      have hlq := hx.len
      simp only at hle hr hlq
      dsimp only
      refine ex_seq ?_
      refine exr ?_
      refine sw (core_move (L _ rfl)) ⟨rfl, T0⟩ T0 ?_
      refine sw (core_geq (L _ rfl)) ⟨rfl, rfl, T0⟩ T0 ?_
      refine seq_nil ⟨[(4, _), (5, _), (6, _), (7, _), (8, _), (9, _), (62, _)], [(46, _), (55, _)], ⟨rfl, rfl, rfl, rfl, rfl, rfl, rfl, T0⟩, ⟨rfl, rfl, T0⟩, ?_⟩
      refine ex_if rfl (fun he => ?_) (fun he => ?_)
      · have he := dt he
        obtain ⟨i, rfl⟩ : ∃ i, r = i + 1 := ⟨r - 1, by omega⟩
        have ei : (((i + 1 : Nat) : Int) - 1) = (i : Int) := by omega
        rw [ei]
        obtain ⟨w1, w2, w3, w4⟩ := hx.win hWd hDlt
        obtain ⟨win, hwin⟩ : ∃ win, win = W.getD i 0 :: digN (m + 2) R := ⟨_, rfl⟩
        rw [← hwin] at w1 w2 w3 w4
        obtain ⟨zs, hzs⟩ : ∃ zs : List Int, zs = List.replicate (W.length - (m + 2) - (i + 1)) 0 := ⟨_, rfl⟩
        have hzl : zs.length = W.length - (m + 2) - (i + 1) := by rw [hzs, List.length_replicate]
        rw [restAt_win (by omega), ← hwin, ← hzs]
        obtain ⟨xs, hxs⟩ : ∃ xs, xs = W.take i := ⟨_, rfl⟩
        have hti : xs.length = i := by rw [hxs]; simp; omega
        rw [← hxs]
        obtain ⟨-, g1, g2, g3, g4, g5⟩ := guess_first w1 hDwd (n := m) w2 hDl htop w4
        have hu0 := w1.getD (m + 2)
        have hu1 := w1.getD (m + 1)
        have hd1 := hDwd.getD (m + 1)
        have key := hx.next hWd hDpos w3
        obtain ⟨U, hU⟩ : ∃ U, U = win.getD (m + 2) 0 * 4294967296 + win.getD (m + 1) 0 := ⟨_, rfl⟩
        rw [← hU] at g4 g5
        have hUq0 : 0 ≤ U / Dv.getD (m + 1) 0 := Int.ediv_nonneg (by omega) (by omega)
        have hUq1 : U / Dv.getD (m + 1) 0 ≤ U := Int.ediv_le_self _ (by omega)
        refine ex_skip (show Exec _ _ _ _ _ from ?_)
        refine ex_seq ?_
        refine ex_block ?_
        refine exd (by rfl) ?_
        refine sw (core_move (L _ rfl)) ⟨rfl, T0⟩ T0 ?_
        refine sw (core_move (L _ rfl)) ⟨rfl, T0⟩ T0 ?_
        refine sw (core_move (L _ rfl)) ⟨rfl, T0⟩ T0 ?_
        refine sw (core_add (L _ rfl) (w64 (by omega) (by omega))) ⟨rfl, rfl, T0⟩ T0 ?_
        refine sw (ixR0 Tryd.underlying22 Tryd.sizeOf53 (by exact (by simp [restAt_length hle] <;> omega)) (j := i + (m + 2)) (by first | exact rfl | omega) (by omega) (L _ rfl)) ⟨rfl, rfl, T0⟩ ⟨rfl, T0⟩ ?_
        refine sw (core_load1 Tryd.isAgg53 (by exact (by simp [restAt_length hle] <;> omega)) (getC (getP hti (by omega))) (L _ rfl)) ⟨rfl, T0⟩ ⟨rfl, T0⟩ ?_
        refine sw (core_conv Tryd.underlying53 Tryd.underlying52 (L _ rfl) (fu64 (by omega) (by omega))) ⟨rfl, T0⟩ T0 ?_
        refine sw (core_shl (L _ rfl) (by decide) (shlE (c := 4294967296) (by rfl) (fu64 (by omega) (by omega)))) ⟨rfl, rfl, T0⟩ T0 ?_
        refine sw (core_move (L _ rfl)) ⟨rfl, T0⟩ T0 ?_
        refine sw (core_move (L _ rfl)) ⟨rfl, T0⟩ T0 ?_
        refine sw (core_move (L _ rfl)) ⟨rfl, T0⟩ T0 ?_
        refine sw (core_add (L _ rfl) (w64 (by omega) (by omega))) ⟨rfl, rfl, T0⟩ T0 ?_
        refine sw (core_sub (L _ rfl) (w64 (by omega) (by omega))) ⟨rfl, rfl, T0⟩ T0 ?_
        refine sw (ixR0 Tryd.underlying22 Tryd.sizeOf53 (by exact (by simp [restAt_length hle] <;> omega)) (j := i + (m + 1)) (by first | exact rfl | omega) (by omega) (L _ rfl)) ⟨rfl, rfl, T0⟩ ⟨rfl, T0⟩ ?_
        refine sw (core_load1 Tryd.isAgg53 (by exact (by simp [restAt_length hle] <;> omega)) (getC (getP hti (by omega))) (L _ rfl)) ⟨rfl, T0⟩ ⟨rfl, T0⟩ ?_
        refine sw (core_conv Tryd.underlying53 Tryd.underlying52 (L _ rfl) (fu64 (by omega) (by omega))) ⟨rfl, T0⟩ T0 ?_
        refine sw (core_or (L _ rfl) (or64' (b := win.getD (m + 2) 0) 32 rfl hu1.1 hu1.2 hu0.1 (by decide) (by omega) (by omega))) ⟨rfl, rfl, T0⟩ T0 ?_
        refine sw (core_assign (L _ rfl)) ⟨rfl, T0⟩ T0 ?_
        refine seq_nil ⟨aoks [⟨[5], [], [65], []⟩, ⟨[9], [], [66], []⟩, ⟨[8], [], [67], []⟩, ⟨[66, 67], [], [68], []⟩, ⟨[65, 68], [46], [69], []⟩, ⟨[69], [46], [70], []⟩, ⟨[70], [], [71], []⟩, ⟨[71], [], [72], []⟩, ⟨[5], [], [73], []⟩, ⟨[9], [], [74], []⟩, ⟨[8], [], [75], []⟩, ⟨[74, 75], [], [76], []⟩, ⟨[76], [], [77], []⟩, ⟨[73, 77], [46], [78], []⟩, ⟨[78], [46], [79], []⟩, ⟨[79], [], [80], []⟩, ⟨[72, 80], [], [81], []⟩, ⟨[81], [], [10], []⟩] (by rfl) (by rfl) (by decide), [(4, _), (5, _), (6, _), (7, _), (8, _), (9, _), (10, vw U)], [(46, _), (55, _)], ⟨rfl, rfl, rfl, rfl, rfl, rfl, oi (by omega) rfl, T0⟩, ⟨rfl, rfl, T0⟩, ?_⟩
        refine exr ?_
        refine sw (core_move (L _ rfl)) ⟨rfl, T0⟩ T0 ?_
        refine sw (core_move (L _ rfl)) ⟨rfl, T0⟩ T0 ?_
        refine sw (core_move (L _ rfl)) ⟨rfl, T0⟩ T0 ?_
        refine sw (core_sub (L _ rfl) (w64 (by omega) (by omega))) ⟨rfl, rfl, T0⟩ T0 ?_
        refine sw (ixJ Tryd.underlying22 Tryd.sizeOf53 (j := m + 1) (by first | exact rfl | omega) (by omega) (by simp) (L _ rfl)) ⟨rfl, rfl, T0⟩ T0 ?_
        refine sw (core_loadI1 Tryd.isAgg53 (by first | exact getW (by omega) | rfl) (L _ rfl)) ⟨rfl, T0⟩ T0 ?_
        refine sw (core_conv Tryd.underlying53 Tryd.underlying52 (L _ rfl) (fu64 (by omega) (by omega))) ⟨rfl, T0⟩ T0 ?_
        refine sw (core_quo (L _ rfl) (by omega) (tdivE (by omega) (by omega))) ⟨rfl, rfl, T0⟩ T0 ?_
        refine sw (core_assign (L _ rfl)) ⟨rfl, T0⟩ T0 ?_
        refine seq_nil ⟨[(4, _), (5, _), (6, _), (7, _), (8, _), (9, _), (11, _)], [(46, _), (55, _)], ⟨rfl, rfl, rfl, rfl, rfl, rfl, rfl, T0⟩, ⟨rfl, rfl, T0⟩, ?_⟩
        refine ex_seq ?_
        refine exr ?_
        refine sw (core_move (L _ rfl)) ⟨rfl, T0⟩ T0 ?_
        refine sw (core_gtr (L _ rfl)) ⟨rfl, rfl, T0⟩ T0 ?_
        refine seq_nil ⟨[(4, _), (5, _), (6, _), (7, _), (8, _), (9, _), (11, _), (91, _)], [(46, _), (55, _)], ⟨rfl, rfl, rfl, rfl, rfl, rfl, rfl, rfl, T0⟩, ⟨rfl, rfl, T0⟩, ?_⟩
        obtain ⟨q, hq⟩ : ∃ q, q = if 4294967295 < U / Dv.getD (m + 1) 0 then 4294967295 else U / Dv.getD (m + 1) 0 := ⟨_, rfl⟩
        have hqb : val win / val Dv ≤ q ∧ 0 ≤ q ∧ q < 4294967296 := by rw [hq]; split <;> omega
        refine ex_cut (sl := [(11, vw q)]) (sl0 := [(4, _), (5, _), (6, _), (7, _), (8, _), (9, _)]) (hb := []) (hb0 := [(46, _), (55, _)]) ⟨rfl, rfl, rfl, rfl, rfl, rfl, T0⟩ ⟨rfl, rfl, T0⟩ ?_ ?_
        · refine ex_if rfl (fun hg => ?_) (fun hg => ?_)
          · have hg := dt hg
            refine exr0 ?_
            refine sw (core_assign (L _ rfl)) ⟨rfl, T0⟩ T0 ?_
            refine seq_nil ?_
            exact ⟨⟨oi (by rw [hq, if_pos hg]) rfl, (by first | exact rfl | exact oi (by omega) rfl), (by first | exact rfl | exact oi (by omega) rfl), (by first | exact rfl | exact oi (by omega) rfl), (by first | exact rfl | exact oi (by omega) rfl), (by first | exact rfl | exact oi (by omega) rfl), (by first | exact rfl | exact oi (by omega) rfl), T0⟩, ⟨rfl, rfl, T0⟩⟩
          · have hg := df hg
            refine ex_skip ?_
            exact ⟨⟨oi (by rw [hq, if_neg hg]) rfl, (by first | exact rfl | exact oi (by omega) rfl), (by first | exact rfl | exact oi (by omega) rfl), (by first | exact rfl | exact oi (by omega) rfl), (by first | exact rfl | exact oi (by omega) rfl), (by first | exact rfl | exact oi (by omega) rfl), (by first | exact rfl | exact oi (by omega) rfl), T0⟩, ⟨rfl, rfl, T0⟩⟩
        · refine exr ?_
          refine sw (core_assign (L _ rfl)) ⟨rfl, T0⟩ T0 ?_
          refine sw (core_assign (L _ rfl)) ⟨rfl, T0⟩ T0 ?_
          refine seq_nil ⟨[(4, _), (5, _), (6, _), (7, _), (8, _), (9, _), (11, _), (12, _), (13, _)], [(46, _), (55, _)], ⟨rfl, rfl, rfl, rfl, rfl, rfl, rfl, rfl, rfl, T0⟩, ⟨rfl, rfl, T0⟩, ?_⟩
          refine ex_seq ?_
          refine exr ?_
          refine sw (core_assign (L _ rfl)) ⟨rfl, T0⟩ T0 ?_
          refine seq_nil ⟨[(4, _), (5, _), (6, _), (7, _), (8, _), (9, _), (11, _), (12, _), (13, _), (14, _)], [(46, _), (55, _)], ⟨rfl, rfl, rfl, rfl, rfl, rfl, rfl, rfl, rfl, rfl, T0⟩, ⟨rfl, rfl, T0⟩, ?_⟩
          refine ex_block ?_
          refine exl (α := (Nat × List Int × Int × Int)) (fun y => [(14, vi (y.1:Int)), (12, vw y.2.2.1), (13, vw y.2.2.2)]) (fun y => [(46, ⟨53, 1, .pure (encW (xs ++ ((y.2.1 ++ win.drop y.1) ++ zs)))⟩)]) (fun y => TakeAt win Dv q y) (fun y => win.length - y.1) (((0 : Nat), ([] : List Int), (0 : Int), (0 : Int))) (sl := [(4, _), (5, _), (6, _), (7, _), (8, _), (9, _), (11, _)]) (hb := [(55, _)]) ?_ ⟨(by first | exact rfl | exact oi (by omega) rfl), (by first | exact rfl | exact oi (by omega) rfl), (by first | exact rfl | exact oi (by omega) rfl), rfl, rfl, rfl, rfl, rfl, rfl, rfl, T0⟩ ⟨obl rfl (by simp), rfl, T0⟩ ?_
          · exact TakeAt.zero win Dv q
          intro y hy
          obtain ⟨j, ys, c, b⟩ := y
          have hylen := hy.len
          have hyle := hy.le
          have c0 := hy.c0
          have c1 := hy.c1
          have hb := hy.b
          simp only at hylen hyle c0 c1 hb
          dsimp only
          have hu := w1.getD j
          have hwd := hDwd.getD j
          refine ex_seq ?_
          refine exr ?_
          refine sw (core_move (L _ rfl)) ⟨rfl, T0⟩ T0 ?_
          refine sw (core_move (L _ rfl)) ⟨rfl, T0⟩ T0 ?_
          refine sw (core_leq (L _ rfl)) ⟨rfl, rfl, T0⟩ T0 ?_
          refine seq_nil ⟨[(4, _), (5, _), (6, _), (7, _), (8, _), (9, _), (11, _), (12, _), (13, _), (14, _), (94, _)], [(46, _), (55, _)], ⟨rfl, rfl, rfl, rfl, rfl, rfl, rfl, rfl, rfl, rfl, rfl, T0⟩, ⟨rfl, rfl, T0⟩, ?_⟩
          refine ex_if rfl (fun hf => ?_) (fun hf => ?_)
          · have hf := dt hf
            have tb := take_bd ⟨hqb.2.1, hqb.2.2⟩ hwd ⟨c0, c1⟩
            have mb := mul_bd ⟨hqb.2.1, hqb.2.2⟩ hwd
            rw [Int.mul_comm] at mb
            obtain ⟨p, hp⟩ : ∃ p, p = q * Dv.getD j 0 + c := ⟨_, rfl⟩
            have hp2 : Dv.getD j 0 * q + c = p := by rw [hp, Int.mul_comm]
            rw [← hp] at tb
            have key2 := hy.next hDwd ⟨hqb.2.1, hqb.2.2⟩ (by omega) hp rfl rfl hu
            refine ex_skip (show Exec _ _ _ _ _ from ?_)
            refine ex_seq ?_
            refine ex_block ?_
            refine exr ?_
            refine sw (core_move (L _ rfl)) ⟨rfl, T0⟩ T0 ?_
            refine sw (core_move (L _ rfl)) ⟨rfl, T0⟩ T0 ?_
            refine sw (core_call (E := E) hG hX Tryd.call54 rfl hN (rword_says Dv (by omega) hDwd j (by omega)) (L _ rfl)) ⟨rfl, rfl, T0⟩ T0 ?_
            refine sw (core_move (L _ rfl)) ⟨rfl, T0⟩ T0 ?_
            refine sw (core_mul (L _ rfl) (fu64 (by omega) (by omega))) ⟨rfl, rfl, T0⟩ T0 ?_
            refine sw (core_move (L _ rfl)) ⟨rfl, T0⟩ T0 ?_
            refine sw (core_add (L _ rfl) (fu64 (by omega) (by omega))) ⟨rfl, rfl, T0⟩ T0 ?_
            refine sw (core_assign (L _ rfl)) ⟨rfl, T0⟩ T0 ?_
            refine seq_nil ⟨[(4, _), (5, _), (6, _), (7, _), (8, _), (9, _), (11, _), (13, _), (14, _), (15, vw p)], [(46, _), (55, _)], ⟨rfl, rfl, rfl, rfl, rfl, rfl, rfl, rfl, rfl, oi hp2 rfl, T0⟩, ⟨rfl, rfl, T0⟩, ?_⟩
            refine exr ?_
            refine sw (core_move (L _ rfl)) ⟨rfl, T0⟩ T0 ?_
            refine sw (core_shr (L _ rfl) (by decide) (shrE (c := 4294967296) (by rfl) (by decide))) ⟨rfl, rfl, T0⟩ T0 ?_
            refine sw (core_assign (L _ rfl)) ⟨rfl, T0⟩ T0 ?_
            refine seq_nil ⟨[(4, _), (5, _), (6, _), (7, _), (8, _), (9, _), (11, _), (12, _), (13, _), (14, _), (15, _)], [(46, _), (55, _)], ⟨rfl, rfl, rfl, rfl, rfl, rfl, rfl, rfl, rfl, rfl, rfl, T0⟩, ⟨rfl, rfl, T0⟩, ?_⟩
            refine exr ?_
            refine sw (core_move (L _ rfl)) ⟨rfl, T0⟩ T0 ?_
            refine sw (core_move (L _ rfl)) ⟨rfl, T0⟩ T0 ?_
            refine sw (core_move (L _ rfl)) ⟨rfl, T0⟩ T0 ?_
            refine sw (core_add (L _ rfl) (w64 (by omega) (by omega))) ⟨rfl, rfl, T0⟩ T0 ?_
            refine sw (ixR0 Tryd.underlying22 Tryd.sizeOf53 (by exact (by simp; omega)) (j := i + j) (by first | exact rfl | omega) (by omega) (L _ rfl)) ⟨rfl, rfl, T0⟩ ⟨rfl, T0⟩ ?_
            refine sw (core_load1 Tryd.isAgg53 (by exact (by simp; omega)) (getC (getM2 hti hylen (by omega))) (L _ rfl)) ⟨rfl, T0⟩ ⟨rfl, T0⟩ ?_
            refine sw (core_conv Tryd.underlying53 Tryd.underlying52 (L _ rfl) (fu64 (by omega) (by omega))) ⟨rfl, T0⟩ T0 ?_
            refine sw (core_add (L _ rfl) (fu64 (by omega) (by omega))) ⟨rfl, rfl, T0⟩ T0 ?_
            refine sw (core_move (L _ rfl)) ⟨rfl, T0⟩ T0 ?_
            refine sw (core_and (L _ rfl) (and32 (by omega) (by omega))) ⟨rfl, rfl, T0⟩ T0 ?_
            refine sw (core_sub (L _ rfl) (fu64 (by omega) (by omega))) ⟨rfl, rfl, T0⟩ T0 ?_
            refine sw (core_move (L _ rfl)) ⟨rfl, T0⟩ T0 ?_
            refine sw (core_sub (L _ rfl) (fu64 (by omega) (by omega))) ⟨rfl, rfl, T0⟩ T0 ?_
            refine sw (core_assign (L _ rfl)) ⟨rfl, T0⟩ T0 ?_
            refine seq_nil ⟨[(4, _), (5, _), (6, _), (7, _), (8, _), (9, _), (11, _), (12, _), (14, _), (16, _)], [(46, _), (55, _)], ⟨rfl, rfl, rfl, rfl, rfl, rfl, rfl, rfl, rfl, rfl, T0⟩, ⟨rfl, rfl, T0⟩, ?_⟩
            refine exr ?_
            refine sw (core_move (L _ rfl)) ⟨rfl, T0⟩ T0 ?_
            refine sw (core_move (L _ rfl)) ⟨rfl, T0⟩ T0 ?_
            refine sw (core_move (L _ rfl)) ⟨rfl, T0⟩ T0 ?_
            refine sw (core_add (L _ rfl) (w64 (by omega) (by omega))) ⟨rfl, rfl, T0⟩ T0 ?_
            refine sw (core_move (L _ rfl)) ⟨rfl, T0⟩ T0 ?_
            refine sw (core_conv Tryd.underlying52 Tryd.underlying53 (L _ rfl) (show _ = (win.getD j 0 - p % 4294967296 - b) % 4294967296 by rw [wu32]; omega)) ⟨rfl, T0⟩ T0 ?_
            refine sw (ixR0 Tryd.underlying22 Tryd.sizeOf53 (by exact (by simp; omega)) (j := i + j) (by first | exact rfl | omega) (by omega) (L _ rfl)) ⟨rfl, rfl, T0⟩ ⟨rfl, T0⟩ ?_
            refine sb (core_store1 Tryd.sizeOf53 (by exact (by simp; omega)) (.atom rfl) (by omega)) ⟨rfl, rfl, T0⟩ ⟨rfl, T0⟩ ?_
            refine seq_nil ⟨[(4, _), (5, _), (6, _), (7, _), (8, _), (9, _), (11, _), (12, _), (14, _), (16, _)], [(46, _), (55, _)], ⟨rfl, rfl, rfl, rfl, rfl, rfl, rfl, rfl, rfl, rfl, T0⟩, ⟨rfl, rfl, T0⟩, ?_⟩
            refine exr0 ?_
            refine sw (core_move (L _ rfl)) ⟨rfl, T0⟩ T0 ?_
            refine sw (core_shr (L _ rfl) (by decide) (shrE (c := 4294967296) (by rfl) (by decide))) ⟨rfl, rfl, T0⟩ T0 ?_
            refine sw (core_sub (L _ rfl) wu64) ⟨rfl, rfl, T0⟩ T0 ?_
            refine sw (core_assign (L _ rfl)) ⟨rfl, T0⟩ T0 ?_
            refine seq_nil ?_
            refine exr0 ?_
            refine sw (core_move (L _ rfl)) ⟨rfl, T0⟩ T0 ?_
            refine sw (core_add (L _ rfl) (w64 (by omega) (by omega))) ⟨rfl, rfl, T0⟩ T0 ?_
            refine sw (core_assign (L _ rfl)) ⟨rfl, T0⟩ T0 ?_
            refine seq_nil ?_
            exact ⟨(j + 1, ys ++ [(win.getD j 0 - p % 4294967296 - b) % 4294967296], p / 4294967296, if win.getD j 0 < p % 4294967296 + b then 1 else 0), key2, (by simp only; omega), le_of ⟨(by first | exact rfl | exact oi (by omega) rfl), (by first | exact rfl | exact oi (by omega) rfl), oi (by simp only; split <;> omega) rfl, rfl, rfl, rfl, rfl, rfl, rfl, rfl, T0⟩ ⟨obl rfl (by rw [encW_set, mid_set2 hti hylen (by omega)]), rfl, T0⟩⟩
          · have hf := df hf
            have hj : j = win.length := by omega
            subst hj
            have hst := LowerAt.start w1 (by omega) hDwd ⟨hqb.2.1, hqb.2.2⟩ hqb.1 hy
            have el : ys ++ win.drop win.length = ys := by simp
            refine ex_exit (show Exec _ _ _ _ _ from ?_)
            refine ex_seq ?_
            refine ex_block ?_
            refine exl (α := (Int × List Int × Int)) (fun z => [(11, vw z.1), (13, vw z.2.2)]) (fun z => [(46, ⟨53, 1, .pure (encW (xs ++ (z.2.1 ++ zs)))⟩)]) (fun z => LowerAt win Dv z) (fun z => z.1.toNat) ((q, ys, b)) (sl := [(4, _), (5, _), (6, _), (7, _), (8, _), (9, _)]) (hb := [(55, _)]) ?_ ⟨(by first | exact rfl | exact oi (by omega) rfl), (by first | exact rfl | exact oi (by omega) rfl), rfl, rfl, rfl, rfl, rfl, rfl, T0⟩ ⟨obl rfl (by rw [el]), rfl, T0⟩ ?_
            · exact hst
            intro z hz
            obtain ⟨q, v1, b⟩ := z
            have zlen := hz.len
            have zwd := hz.wd
            have zb := hz.b
            have zq := hz.q
            simp only at zlen zwd zb zq
            dsimp only
            refine ex_seq ?_
            refine exr ?_
            refine sw (core_move (L _ rfl)) ⟨rfl, T0⟩ T0 ?_
            refine sw (core_gtr (L _ rfl)) ⟨rfl, rfl, T0⟩ T0 ?_
            refine seq_nil ⟨[(4, _), (5, _), (6, _), (7, _), (8, _), (9, _), (11, _), (13, _), (130, _)], [(46, _), (55, _)], ⟨rfl, rfl, rfl, rfl, rfl, rfl, rfl, rfl, rfl, T0⟩, ⟨rfl, rfl, T0⟩, ?_⟩
            refine ex_if rfl (fun hg => ?_) (fun hg => ?_)
            · have hg := dt hg
              have hb1 : b = 1 := by omega
              subst hb1
              have hqp := hz.pos w1 hDpos
              refine ex_skip (show Exec _ _ _ _ _ from ?_)
              refine ex_block ?_
              refine exr ?_
              refine sw (core_move (L _ rfl)) ⟨rfl, T0⟩ T0 ?_
              refine sw (core_sub (L _ rfl) (fu64 (by omega) (by omega))) ⟨rfl, rfl, T0⟩ T0 ?_
              refine sw (core_assign (L _ rfl)) ⟨rfl, T0⟩ T0 ?_
              refine seq_nil ⟨[(4, _), (5, _), (6, _), (7, _), (8, _), (9, _), (11, _), (13, _)], [(46, _), (55, _)], ⟨rfl, rfl, rfl, rfl, rfl, rfl, rfl, rfl, T0⟩, ⟨rfl, rfl, T0⟩, ?_⟩
              refine exr ?_
              refine sw (core_assign (L _ rfl)) ⟨rfl, T0⟩ T0 ?_
              refine seq_nil ⟨[(4, _), (5, _), (6, _), (7, _), (8, _), (9, _), (11, _), (12, _), (13, _)], [(46, _), (55, _)], ⟨rfl, rfl, rfl, rfl, rfl, rfl, rfl, rfl, rfl, T0⟩, ⟨rfl, rfl, T0⟩, ?_⟩
              refine ex_seq ?_
              refine exr ?_
              refine sw (core_assign (L _ rfl)) ⟨rfl, T0⟩ T0 ?_
              refine seq_nil ⟨[(4, _), (5, _), (6, _), (7, _), (8, _), (9, _), (11, _), (12, _), (13, _), (17, _)], [(46, _), (55, _)], ⟨rfl, rfl, rfl, rfl, rfl, rfl, rfl, rfl, rfl, rfl, T0⟩, ⟨rfl, rfl, T0⟩, ?_⟩
              refine ex_block ?_
              refine exl (α := (Nat × List Int × Int)) (fun y => [(17, vi (y.1:Int)), (12, vw y.2.2)]) (fun y => [(46, ⟨53, 1, .pure (encW (xs ++ ((y.2.1 ++ v1.drop y.1) ++ zs)))⟩)]) (fun y => BackAt v1 Dv y) (fun y => win.length - y.1) (((0 : Nat), ([] : List Int), (0 : Int))) (sl := [(4, _), (5, _), (6, _), (7, _), (8, _), (9, _), (11, _), (13, _)]) (hb := [(55, _)]) ?_ ⟨(by first | exact rfl | exact oi (by omega) rfl), (by first | exact rfl | exact oi (by omega) rfl), rfl, rfl, rfl, rfl, rfl, rfl, rfl, rfl, T0⟩ ⟨obl rfl (by simp), rfl, T0⟩ ?_
              · exact BackAt.zero v1 Dv
              intro y hy
              obtain ⟨j, us, e⟩ := y
              have hylen := hy.len
              have hyle := hy.le
              have hc := hy.c
              simp only at hylen hyle hc
              dsimp only
              have hu := zwd.getD j
              have hwd := hDwd.getD j
              refine ex_seq ?_
              refine exr ?_
              refine sw (core_move (L _ rfl)) ⟨rfl, T0⟩ T0 ?_
              refine sw (core_move (L _ rfl)) ⟨rfl, T0⟩ T0 ?_
              refine sw (core_leq (L _ rfl)) ⟨rfl, rfl, T0⟩ T0 ?_
              refine seq_nil ⟨[(4, _), (5, _), (6, _), (7, _), (8, _), (9, _), (11, _), (12, _), (13, _), (17, _), (135, _)], [(46, _), (55, _)], ⟨rfl, rfl, rfl, rfl, rfl, rfl, rfl, rfl, rfl, rfl, rfl, T0⟩, ⟨rfl, rfl, T0⟩, ?_⟩
              refine ex_if rfl (fun hf => ?_) (fun hf => ?_)
              · have hf := dt hf
                have key2 := hy.next zwd hDwd (by omega) rfl
                refine ex_skip (show Exec _ _ _ _ _ from ?_)
                refine ex_seq ?_
                refine ex_block ?_
                refine exd (by rfl) ?_
                refine sw (core_move (L _ rfl)) ⟨rfl, T0⟩ T0 ?_
                refine sw (core_move (L _ rfl)) ⟨rfl, T0⟩ T0 ?_
                refine sw (core_move (L _ rfl)) ⟨rfl, T0⟩ T0 ?_
                refine sw (core_add (L _ rfl) (w64 (by omega) (by omega))) ⟨rfl, rfl, T0⟩ T0 ?_
                refine sw (ixR0 Tryd.underlying22 Tryd.sizeOf53 (by exact (by simp; omega)) (j := i + j) (by first | exact rfl | omega) (by omega) (L _ rfl)) ⟨rfl, rfl, T0⟩ ⟨rfl, T0⟩ ?_
                refine sw (core_load1 Tryd.isAgg53 (by exact (by simp; omega)) (getC (getM2 hti hylen (by omega))) (L _ rfl)) ⟨rfl, T0⟩ ⟨rfl, T0⟩ ?_
                refine sw (core_conv Tryd.underlying53 Tryd.underlying52 (L _ rfl) (fu64 (by omega) (by omega))) ⟨rfl, T0⟩ T0 ?_
                refine sw (core_move (L _ rfl)) ⟨rfl, T0⟩ T0 ?_
                refine sw (core_move (L _ rfl)) ⟨rfl, T0⟩ T0 ?_
                refine sw (core_call (E := E) hG hX Tryd.call54 rfl hN (rword_says Dv (by omega) hDwd j (by omega)) (L _ rfl)) ⟨rfl, rfl, T0⟩ T0 ?_
                refine sw (core_add (L _ rfl) (fu64 (by omega) (by omega))) ⟨rfl, rfl, T0⟩ T0 ?_
                refine sw (core_move (L _ rfl)) ⟨rfl, T0⟩ T0 ?_
                refine sw (core_add (L _ rfl) (fu64 (by omega) (by omega))) ⟨rfl, rfl, T0⟩ T0 ?_
                refine sw (core_assign (L _ rfl)) ⟨rfl, T0⟩ T0 ?_
                refine seq_nil ⟨aoks [⟨[5], [], [138], []⟩, ⟨[9], [], [139], []⟩, ⟨[17], [], [140], []⟩, ⟨[139, 140], [], [141], []⟩, ⟨[138, 141], [46], [142], []⟩, ⟨[142], [46], [143], []⟩, ⟨[143], [], [144], []⟩, ⟨[7], [], [145], []⟩, ⟨[17], [], [146], []⟩, ⟨[145, 146], [], [147], []⟩, ⟨[144, 147], [], [148], []⟩, ⟨[12], [], [149], []⟩, ⟨[148, 149], [], [150], []⟩, ⟨[150], [], [18], []⟩] (by rfl) (by rfl) (by decide), [(4, _), (5, _), (6, _), (7, _), (8, _), (9, _), (11, _), (13, _), (17, _), (18, _)], [(46, _), (55, _)], ⟨rfl, rfl, rfl, rfl, rfl, rfl, rfl, rfl, rfl, rfl, T0⟩, ⟨rfl, rfl, T0⟩, ?_⟩
                refine exr ?_
                refine sw (core_move (L _ rfl)) ⟨rfl, T0⟩ T0 ?_
                refine sw (core_move (L _ rfl)) ⟨rfl, T0⟩ T0 ?_
                refine sw (core_move (L _ rfl)) ⟨rfl, T0⟩ T0 ?_
                refine sw (core_add (L _ rfl) (w64 (by omega) (by omega))) ⟨rfl, rfl, T0⟩ T0 ?_
                refine sw (core_move (L _ rfl)) ⟨rfl, T0⟩ T0 ?_
                refine sw (core_conv Tryd.underlying52 Tryd.underlying53 (L _ rfl) wu32) ⟨rfl, T0⟩ T0 ?_
                refine sw (ixR0 Tryd.underlying22 Tryd.sizeOf53 (by exact (by simp; omega)) (j := i + j) (by first | exact rfl | omega) (by omega) (L _ rfl)) ⟨rfl, rfl, T0⟩ ⟨rfl, T0⟩ ?_
                refine sb (core_store1 Tryd.sizeOf53 (by exact (by simp; omega)) (.atom rfl) (by omega)) ⟨rfl, rfl, T0⟩ ⟨rfl, T0⟩ ?_
                refine seq_nil ⟨[(4, _), (5, _), (6, _), (7, _), (8, _), (9, _), (11, _), (13, _), (17, _), (18, _)], [(46, _), (55, _)], ⟨rfl, rfl, rfl, rfl, rfl, rfl, rfl, rfl, rfl, rfl, T0⟩, ⟨rfl, rfl, T0⟩, ?_⟩
                refine exr0 ?_
                refine sw (core_move (L _ rfl)) ⟨rfl, T0⟩ T0 ?_
                refine sw (core_shr (L _ rfl) (by decide) (shrE (c := 4294967296) (by rfl) (by decide))) ⟨rfl, rfl, T0⟩ T0 ?_
                refine sw (core_assign (L _ rfl)) ⟨rfl, T0⟩ T0 ?_
                refine seq_nil ?_
                refine exr0 ?_
                refine sw (core_move (L _ rfl)) ⟨rfl, T0⟩ T0 ?_
                refine sw (core_add (L _ rfl) (w64 (by omega) (by omega))) ⟨rfl, rfl, T0⟩ T0 ?_
                refine sw (core_assign (L _ rfl)) ⟨rfl, T0⟩ T0 ?_
                refine seq_nil ?_
                exact ⟨(j + 1, us ++ [(v1.getD j 0 + Dv.getD j 0 + e) % 4294967296], (v1.getD j 0 + Dv.getD j 0 + e) / 4294967296), key2, (by simp only; omega), le_of ⟨(by first | exact rfl | exact oi (by omega) rfl), (by first | exact rfl | exact oi (by omega) rfl), rfl, rfl, rfl, rfl, rfl, rfl, rfl, rfl, T0⟩ ⟨obl rfl (by rw [encW_set, mid_set2 hti hylen (by omega)]), rfl, T0⟩⟩
              · have hf := df hf
                have hj : j = win.length := by omega
                subst hj
                obtain ⟨lm, -⟩ := hz.more w1 (by omega) hDwd hDpos hy
                have el : us ++ v1.drop win.length = us := by rw [← zlen]; simp
                refine ex_exit (show Exec _ _ _ _ _ from ?_)
                refine exr0 ?_
                refine sw (core_move (L _ rfl)) ⟨rfl, T0⟩ T0 ?_
                refine sw (core_move (L _ rfl)) ⟨rfl, T0⟩ T0 ?_
                refine sw (core_sub (L _ rfl) (fu64 (by omega) (by omega))) ⟨rfl, rfl, T0⟩ T0 ?_
                refine sw (core_assign (L _ rfl)) ⟨rfl, T0⟩ T0 ?_
                refine seq_nil ?_
                exact ⟨(q - 1, us, 1 - e), lm, (by simp only; omega), le_of ⟨(by first | exact rfl | exact oi (by omega) rfl), (by first | exact rfl | exact oi (by omega) rfl), rfl, rfl, rfl, rfl, rfl, rfl, T0⟩ ⟨obl rfl (by rw [el]), rfl, T0⟩⟩
            · have hg := df hg
              have hb0 : b = 0 := by omega
              subst hb0
              obtain ⟨d1, d2⟩ := hz.done w1 hDpos
              have hrest : xs ++ (digN win.length (val win % val Dv) ++ zs) = restAt W (m + 2) i (val win % val Dv) := by
                rw [w2, hzs, hxs, restAt_next (Int.emod_nonneg _ (by omega)) (by have := Int.emod_lt_of_pos (val win) hDpos; omega) (by omega)]
              rw [d2, hrest, d1]
              refine ex_exit (show Exec _ _ _ _ _ from ?_)
              refine exr0 ?_
              refine sw (core_move (L _ rfl)) ⟨rfl, T0⟩ T0 ?_
              refine sw (core_move (L _ rfl)) ⟨rfl, T0⟩ T0 ?_
              refine sw (core_move (L _ rfl)) ⟨rfl, T0⟩ T0 ?_
              refine sw (core_conv Tryd.underlying52 Tryd.underlying53 (L _ rfl) (fu32 (by omega) (by omega))) ⟨rfl, T0⟩ T0 ?_
              refine sw (ixR0 Tryd.underlying22 Tryd.sizeOf53 (by exact (by simp; omega)) (j := i) (by first | exact rfl | omega) (by omega) (L _ rfl)) ⟨rfl, rfl, T0⟩ ⟨rfl, T0⟩ ?_
              refine sb (core_store1 Tryd.sizeOf53 (by exact (by simp; omega)) (.atom rfl) (by omega)) ⟨rfl, rfl, T0⟩ ⟨rfl, T0⟩ ?_
              refine seq_nil ?_
              refine exr0 ?_
              refine sw (core_move (L _ rfl)) ⟨rfl, T0⟩ T0 ?_
              refine sw (core_sub (L _ rfl) (w64 (by omega) (by omega))) ⟨rfl, rfl, T0⟩ T0 ?_
              refine sw (core_assign (L _ rfl)) ⟨rfl, T0⟩ T0 ?_
              refine seq_nil ?_
              exact ⟨(i, val win % val Dv, val win / val Dv :: qs), key, (by simp only; omega), le_of ⟨(by first | exact rfl | exact oi (by omega) rfl), rfl, rfl, rfl, rfl, rfl, T0⟩ ⟨rfl, obl rfl (by rw [encW_set, q_set]), T0⟩⟩
      · have he := df he
        have hr0 : r = 0 := by omega
        subst hr0
        have heq := hx.eq
        have hqw := hx.wd
        simp only [List.drop_zero] at heq hqw
        rw [hDv, hWv] at heq
        rw [hDv] at hr
        obtain ⟨pe1, pe2⟩ := part_end hv heq hr
        obtain ⟨X, hXe⟩ : ∃ X, X = restAt W (m + 2) 0 R := ⟨_, rfl⟩
        have hXl : X.length = W.length := by rw [hXe, restAt_length (by omega)]
        have hXw : Wd X := by rw [hXe]; exact restAt_wd hWd
        have hXv : val X = R := by
          rw [hXe, rest_zero, val_append, val_rep, Int.mul_zero, Int.add_zero, val_digN hr.1 (by rw [hDv] at hDlt; omega)]
        rw [← hXe]
        simp only [List.replicate_zero, List.nil_append]
        refine ex_exit (show Exec _ _ _ _ _ from ?_)
        refine ex_cv [46, 55] (sl := [(4, _), (5, _), (6, _)]) (hb := []) (own_none hX0) ⟨⟨_, rfl, (.ref rfl rfl (by exact (by simp; omega)) (by first | rfl | omega))⟩, ⟨_, rfl, (.ref rfl rfl (by exact (by simp [restAt_length hle] <;> omega)) (by first | rfl | omega))⟩, ⟨_, rfl, .same⟩, T0⟩ T0 ?_
        have a1 : Says E 76 [.sl (W.length - (m + 2)) (encW qs)] (pW (digs (val ws / val vs).toNat)) := by
          have := rtrim_says qs (by omega)
          rw [trim_eq_digs hqw, pe1] at this
          rw [show W.length - (m + 2) = qs.length by omega]; exact this
        have a2 : Says E 76 [.sl W.length (encW X)] (pW (digs R.toNat)) := by
          have := rtrim_says X (by omega)
          rw [trim_eq_digs hXw, hXv] at this
          rw [← hXl]; exact this
        have dl : (digs R.toNat).length ≤ m + 2 := dlen hr.1 (by rw [hDv] at hDlt; omega)
        have a3 := runshift_says (digs R.toNat) k (by omega) (wd_digs _) (by omega)
        rw [val_digs, show ((R.toNat : Nat) : Int) = R by omega, pe2] at a3
        refine exr ?_
        refine sw (core_move (L _ rfl)) ⟨rfl, T0⟩ T0 ?_
        refine sw (core_call (E := E) hG hX Tryd.call76 rfl hN a1 (L _ rfl)) ⟨rfl, T0⟩ T0 ?_
        refine sw (core_move (L _ rfl)) ⟨rfl, T0⟩ T0 ?_
        refine sw (core_call (E := E) hG hX Tryd.call76 rfl hN a2 (L _ rfl)) ⟨rfl, T0⟩ T0 ?_
        refine sw (core_move (L _ rfl)) ⟨rfl, T0⟩ T0 ?_
        refine sw (core_call (E := E) hG hX Tryd.call88 rfl hN a3 (L _ rfl)) ⟨rfl, rfl, T0⟩ T0 ?_
        refine sw (core_assign (L _ rfl)) ⟨rfl, T0⟩ T0 ?_
        refine sw (core_assign (L _ rfl)) ⟨rfl, T0⟩ T0 ?_
        refine seq_nil ⟨[(4, _), (5, _)], [], ⟨rfl, rfl, T0⟩, trivial, ?_⟩
        refine ex_ret ?_
        refine ⟨.inr rfl, ResVs.cast (.cons (.tmp rfl) (.cons (.tmp rfl) .nil)) ?_⟩
        rfl

end Go.Proofs.YtebkelnibecmjaaDoor.N
namespace Go.Proofs.YtebkelnibecmjaaDoor.N
open Go Go.Proofs.YtebkelnibecmjaaDoor.SH Go.Proofs.YtebkelnibecmjaaDoor.NumA
theorem emod_small' {b c : Int} (h0 : 0 ≤ c) (h1 : c < b.natAbs) : c % b = c := by
  by_cases hb : 0 < b
  · exact Int.emod_eq_of_lt h0 (by omega)
  · obtain ⟨d, rfl⟩ : ∃ d, b = -d := ⟨-b, by omega⟩
    rw [Int.emod_neg]; exact Int.emod_eq_of_lt h0 (by omega)
theorem div_back' {a b c : Int} (hb : b ≠ 0) (h0 : 0 ≤ c) (h1 : c < b.natAbs) : (a * b + c) / b = a ∧ (a * b + c) % b = c := by
  have e1 : (a * b + c) % b = c := by
    rw [Int.add_comm, Int.add_mul_emod_self_right]; exact emod_small' h0 h1
  refine ⟨?_, e1⟩
  have := Int.mul_ediv_add_emod (a * b + c) b
  rw [e1] at this
  have e2 : b * ((a * b + c) / b) = b * a := by rw [Int.mul_comm b a]; omega
  exact Int.eq_of_mul_eq_mul_left hb e2
/-- Go's quotient and remainder, put right. -/
theorem put_right {x y : Int} (hy : y ≠ 0) : (0 ≤ x.tmod y → x.tdiv y = x / y ∧ x.tmod y = x % y) ∧ (x.tmod y < 0 → x.tmod y + (if y < 0 - y then 0 - y else y) = x % y ∧ (x - x % y).tdiv y = x / y) ∧ -(y.natAbs : Int) < x.tmod y ∧ x.tmod y < y.natAbs ∧ (x.tdiv y).natAbs ≤ x.natAbs ∧ (x / y).natAbs ≤ x.natAbs + 1 := by
  have h1 := Int.mul_tdiv_add_tmod x y
  have h2 : (x.tmod y).natAbs < y.natAbs := by
    rw [Int.natAbs_tmod]; exact Nat.mod_lt _ (by omega)
  have h3 := Int.natAbs_tdiv_le_natAbs x y
  have hmax : (if y < 0 - y then 0 - y else y) = (y.natAbs : Int) := by split <;> omega
  have key1 : 0 ≤ x.tmod y → x.tdiv y = x / y ∧ x.tmod y = x % y := fun h => by
    obtain ⟨e1, e2⟩ := div_back' (a := x.tdiv y) (b := y) (c := x.tmod y) hy h (by omega)
    rw [show x.tdiv y * y + x.tmod y = x by rw [Int.mul_comm]; exact h1] at e1 e2
    exact ⟨e1.symm, e2.symm⟩
  have key2 : x.tmod y < 0 → ∃ a : Int, a.natAbs ≤ x.natAbs + 1 ∧ x = a * y + (x.tmod y + y.natAbs) := fun h => by
    rcases (show y < 0 ∨ 0 < y by omega) with c | c
    · refine ⟨x.tdiv y + 1, by omega, ?_⟩
      have e : (y.natAbs : Int) = -y := by omega
      have e2 : (x.tdiv y + 1) * y = y * x.tdiv y + y := by grind
      rw [e, e2]; omega
    · refine ⟨x.tdiv y - 1, by omega, ?_⟩
      have e : (y.natAbs : Int) = y := by omega
      have e2 : (x.tdiv y - 1) * y = y * x.tdiv y - y := by grind
      rw [e, e2]; omega
  refine ⟨key1, fun h => ?_, by omega, by omega, h3, ?_⟩
  · obtain ⟨a, -, ha⟩ := key2 h
    clear key1 key2
    obtain ⟨e1, e2⟩ := div_back' (a := a) (b := y) (c := x.tmod y + y.natAbs) hy (by omega) (by omega)
    rw [← ha] at e1 e2
    refine ⟨by rw [hmax, e2], ?_⟩
    rw [e2, e1, show x - (x.tmod y + (y.natAbs : Int)) = a * y from Int.sub_eq_iff_eq_add.2 ha, Int.mul_tdiv_cancel _ hy]
  · by_cases h : 0 ≤ x.tmod y
    · rw [← (key1 h).1]; exact Nat.le_succ_of_le h3
    · obtain ⟨a, hal, ha⟩ := key2 (Int.not_le.1 h)
      clear key1 key2
      obtain ⟨e1, -⟩ := div_back' (a := a) (b := y) (c := x.tmod y + y.natAbs) hy (by omega) (by omega)
      rw [← ha] at e1
      rw [e1]; exact hal
set_option maxRecDepth 100000 in
set_option maxHeartbeats 4000000 in
theorem rdiv_says (m n : Bool) (ws vs : List Int) (hl : ws.length < 9999999) (hl2 : vs.length < 9999999) (h : Wd ws) (h2 : Wd vs) : Says E 32 [pI m ws, pI n vs] (.tup [pZ (dQ m n ws vs), pZ (dR m n ws vs), vZ (dE m n ws vs)]) := by
  refine says_of (xs := [pZ (dQ m n ws vs), pZ (dR m n ws vs), vZ (dE m n ws vs)]) Tryd.func32 rfl Tryd.ntmps32 Tryd.results32 (by simp) fun F hG hX0 hnt hdf P0 => ?_
  have L := ltn hnt
  have hX : ∀ b, F.X b → E.ng ≤ b := fun b h => absurd h (hX0 b)
  have hN := ng_le hG
  refine exr ?_
  refine swb (core_box (k := 2) (n := 2) (.pagg (.cons (.cons .nil))) rfl rfl (P0 _ rfl) (L _ rfl)) ⟨rfl, T0⟩ T0 ⟨rfl, rfl⟩ ?_
  refine swb (core_box (k := 3) (n := 2) (.pagg (.cons (.cons .nil))) rfl rfl (P0 _ rfl) (L _ rfl)) ⟨rfl, T0⟩ T0 ⟨rfl, rfl⟩ ?_
  refine swb (core_alloc (k := 4) (n := 2) Tryd.zeroValue24 (.cons rfl (.cons rfl .nil)) rfl (P0 _ rfl) (L _ rfl)) trivial trivial ⟨rfl, rfl⟩ ?_
  refine swb (core_alloc (k := 5) (n := 2) Tryd.zeroValue24 (.cons rfl (.cons rfl .nil)) rfl (P0 _ rfl) (L _ rfl)) trivial trivial ⟨rfl, rfl⟩ ?_
  refine sw (core_assign (L _ rfl)) ⟨rfl, T0⟩ T0 ?_
  refine seq_nil ⟨[(2, _), (3, _), (4, _), (5, _)], [(2, _), (3, _), (4, _), (5, _)], ⟨rfl, rfl, rfl, rfl, T0⟩, ⟨rfl, rfl, rfl, rfl, T0⟩, ?_⟩
  refine ex_seq ?_
  refine exm (sl := [(22, vb (decide (¬ (canon m ws = true ∧ canon n vs = true))))]) (sl0 := [(2, _), (3, _), (4, _), (5, _)]) (hb := []) (hb0 := [(2, _), (3, _), (4, _), (5, _)]) ⟨rfl, rfl, rfl, rfl, T0⟩ ⟨rfl, rfl, rfl, rfl, T0⟩ ?_ ?_
  · by_cases hca : canon m ws = true
    · refine sw (core_loadP Tryd.isAgg24 Tryd.sizeOf24 (by rfl) (by exact (.cons (.cons .nil))) rfl (L _ rfl)) ⟨rfl, T0⟩ ⟨rfl, T0⟩ ?_
      refine sw (core_call (E := E) hG hX Tryd.call17 rfl hN (ris_says m ws (by omega)) (L _ rfl)) ⟨rfl, T0⟩ T0 ?_
      refine sw (core_not (L _ rfl)) ⟨rfl, T0⟩ T0 ?_
      refine sw (core_move (L _ rfl)) ⟨rfl, T0⟩ T0 ?_
      refine swg (g := 18) rfl (by simp [hca]) (core_loadP Tryd.isAgg24 Tryd.sizeOf24 (by rfl) (by exact (.cons (.cons .nil))) rfl (L _ rfl)) rfl ⟨rfl, T0⟩ ⟨rfl, T0⟩ ?_
      refine swg (g := 18) rfl (by simp [hca]) (core_call (E := E) hG hX Tryd.call17 rfl hN (ris_says n vs (by omega)) (L _ rfl)) rfl ⟨rfl, T0⟩ T0 ?_
      refine swg (g := 18) rfl (by simp [hca]) (core_not (L _ rfl)) rfl ⟨rfl, T0⟩ T0 ?_
      refine sw (core_pick_f (by simp [hca]) (L _ rfl)) ⟨rfl, rfl, T0⟩ T0 ?_
      exact seq_nil ⟨⟨ob rfl (by simp [hca]), rfl, rfl, rfl, rfl, T0⟩, ⟨rfl, rfl, rfl, rfl, T0⟩⟩
    · refine sw (core_loadP Tryd.isAgg24 Tryd.sizeOf24 (by rfl) (by exact (.cons (.cons .nil))) rfl (L _ rfl)) ⟨rfl, T0⟩ ⟨rfl, T0⟩ ?_
      refine sw (core_call (E := E) hG hX Tryd.call17 rfl hN (ris_says m ws (by omega)) (L _ rfl)) ⟨rfl, T0⟩ T0 ?_
      refine sw (core_not (L _ rfl)) ⟨rfl, T0⟩ T0 ?_
      refine sw (core_move (L _ rfl)) ⟨rfl, T0⟩ T0 ?_
      refine swn (g := 18) rfl (by simp [hca]) (L _ rfl) rfl ?_
      refine swn (g := 18) rfl (by simp [hca]) (L _ rfl) rfl ?_
      refine swn (g := 18) rfl (by simp [hca]) (L _ rfl) rfl ?_
      refine sw (core_pick_t (by simp [hca]) (L _ rfl)) ⟨rfl, rfl, T0⟩ T0 ?_
      exact seq_nil ⟨⟨ob rfl (by simp [hca]), rfl, rfl, rfl, rfl, T0⟩, ⟨rfl, rfl, rfl, rfl, T0⟩⟩
  refine ex_if rfl (fun hc => ?_) (fun hc => ?_)
  · have hc := dt hc
    refine exd (by rfl) ?_
    refine sw (core_pc (core_loadP Tryd.isAgg24 Tryd.sizeOf24 (by rfl) (by exact (.cons (.cons .nil))) rfl (L _ rfl)) (.agg (.cons .same (.cons .nil .nil)))) ⟨rfl, T0⟩ ⟨rfl, T0⟩ ?_
    refine sw (core_pc (core_loadP Tryd.isAgg24 Tryd.sizeOf24 (by rfl) (by exact (.cons (.cons .nil))) rfl (L _ rfl)) (.agg (.cons .same (.cons .nil .nil)))) ⟨rfl, T0⟩ ⟨rfl, T0⟩ ?_
    refine sb (core_storeM Tryd.sizeOf24 (by rfl) (.pagg (.cons (.cons .nil))) rfl (.put (.put .here))) ⟨rfl, rfl, T0⟩ ⟨rfl, T0⟩ ?_
    refine sb (core_storeM Tryd.sizeOf24 (by rfl) (.pagg (.cons (.cons .nil))) rfl (.put (.put .here))) ⟨rfl, rfl, T0⟩ ⟨rfl, T0⟩ ?_
    refine sw (core_assign (L _ rfl)) ⟨rfl, T0⟩ T0 ?_
    refine seq_nil ⟨aoks [⟨[4], [4], [23], []⟩, ⟨[5], [5], [24], []⟩, ⟨[4, 23], [4], [], [4]⟩, ⟨[5, 24], [5], [], [5]⟩, ⟨[], [], [6], []⟩] (by rfl) (by rfl) (by decide), [(4, _), (5, _), (6, _)], [(4, _), (5, _)], ⟨rfl, rfl, rfl, T0⟩, ⟨rfl, rfl, T0⟩, ?_⟩
    refine ex_ret ?_
    refine ⟨.inr rfl, ResVs.cast (.cons (.agg rfl rfl rfl Tryd.isAgg24 Tryd.sizeOf24 (.cons (.cons .nil))) (.cons (.agg rfl rfl rfl Tryd.isAgg24 Tryd.sizeOf24 (.cons (.cons .nil))) (.cons (.tmp rfl) .nil))) ?_⟩
    rw [dQ, dR, dE, if_neg hc, if_neg (fun hh => hc ⟨hh.1, hh.2.1⟩), if_neg hc, pZ_zero]; rfl
  · have hc := Decidable.not_not.1 (df hc)
    have ht := (canon_tr hc.1).1
    have ht2 := (canon_tr hc.2).1
    refine ex_skip (show Exec _ _ _ _ _ from ?_)
    refine ex_seq ?_
    refine exr ?_
    refine sw (core_fieldAddr Tryd.underlying24 rfl Tryd.sizeOf22 (by decide) (by exact rfl) (L _ rfl)) ⟨rfl, T0⟩ ⟨rfl, T0⟩ ?_
    refine sw (core_load1 Tryd.isAgg22 (by rfl) (by rfl) (L _ rfl)) ⟨rfl, T0⟩ ⟨rfl, T0⟩ ?_
    refine sw (core_len Tryd.underlying22 (L _ rfl)) ⟨rfl, T0⟩ T0 ?_
    refine sw (core_eql (L _ rfl)) ⟨rfl, rfl, T0⟩ T0 ?_
    refine seq_nil ⟨[(2, _), (3, _), (4, _), (5, _), (28, _)], [(2, _), (3, _), (4, _), (5, _)], ⟨rfl, rfl, rfl, rfl, rfl, T0⟩, ⟨rfl, rfl, rfl, rfl, T0⟩, ?_⟩
    refine ex_if rfl (fun hz => ?_) (fun hz => ?_)
    · have hz := dt hz
      have e : vs = [] := List.eq_nil_of_length_eq_zero (by omega)
      subst e
      have e0 : sg n (val []) = 0 := by cases n <;> rfl
      refine exd (by rfl) ?_
      refine sw (core_pc (core_loadP Tryd.isAgg24 Tryd.sizeOf24 (by rfl) (by exact (.cons (.cons .nil))) rfl (L _ rfl)) (.agg (.cons .same (.cons .nil .nil)))) ⟨rfl, T0⟩ ⟨rfl, T0⟩ ?_
      refine sw (core_pc (core_loadP Tryd.isAgg24 Tryd.sizeOf24 (by rfl) (by exact (.cons (.cons .nil))) rfl (L _ rfl)) (.agg (.cons .same (.cons .nil .nil)))) ⟨rfl, T0⟩ ⟨rfl, T0⟩ ?_
      refine sb (core_storeM Tryd.sizeOf24 (by rfl) (.pagg (.cons (.cons .nil))) rfl (.put (.put .here))) ⟨rfl, rfl, T0⟩ ⟨rfl, T0⟩ ?_
      refine sb (core_storeM Tryd.sizeOf24 (by rfl) (.pagg (.cons (.cons .nil))) rfl (.put (.put .here))) ⟨rfl, rfl, T0⟩ ⟨rfl, T0⟩ ?_
      refine sw (core_assign (L _ rfl)) ⟨rfl, T0⟩ T0 ?_
      refine seq_nil ⟨aoks [⟨[4], [4], [29], []⟩, ⟨[5], [5], [30], []⟩, ⟨[4, 29], [4], [], [4]⟩, ⟨[5, 30], [5], [], [5]⟩, ⟨[], [], [6], []⟩] (by rfl) (by rfl) (by decide), [(4, _), (5, _), (6, _)], [(4, _), (5, _)], ⟨rfl, rfl, rfl, T0⟩, ⟨rfl, rfl, T0⟩, ?_⟩
      refine ex_ret ?_
      refine ⟨.inr rfl, ResVs.cast (.cons (.agg rfl rfl rfl Tryd.isAgg24 Tryd.sizeOf24 (.cons (.cons .nil))) (.cons (.agg rfl rfl rfl Tryd.isAgg24 Tryd.sizeOf24 (.cons (.cons .nil))) (.cons (.tmp rfl) .nil))) ?_⟩
      rw [dQ, dR, dE, if_pos hc, if_neg (fun hh => hh.2.2 rfl), if_pos hc, if_pos (show ([] : List Int).length = 0 from rfl), e0, Int.ediv_zero, pZ_zero]; rfl
    · have hz := df hz
      have hv := val_pos h2 ht2 (by omega)
      have a0 := val_nonneg h
      have r0 := Int.emod_nonneg (val ws) (show val vs ≠ 0 by omega)
      have q0 := Int.ediv_nonneg a0 (Int.le_of_lt hv)
      have r1 := Int.emod_lt_of_pos (val ws) hv
      have q1 := Int.ediv_le_self (val vs) a0
      have dsg := div_sg (m := m) (n := n) a0 hv
      have hQ : dQ m n ws vs = sg m (val ws) / sg n (val vs) := by rw [dQ, if_pos hc]
      have hR : dR m n ws vs = sg m (val ws) % sg n (val vs) := by rw [dR, if_pos ⟨hc.1, hc.2, by omega⟩]
      have hE : dE m n ws vs = 0 := by rw [dE, if_pos hc, if_neg (by omega)]
      rw [hQ, hR, hE]
      refine ex_skip (show Exec _ _ _ _ _ from ?_)
      refine exr ?_
      refine sw (core_loadP Tryd.isAgg24 Tryd.sizeOf24 (by rfl) (by exact (.cons (.cons .nil))) rfl (L _ rfl)) ⟨rfl, T0⟩ ⟨rfl, T0⟩ ?_
      refine sw (core_call (E := E) hG hX Tryd.call65 rfl hN (rnative_says m ws (by omega) h ht) (L _ rfl)) ⟨rfl, T0⟩ T0 ?_
      refine sw (core_move (L _ rfl)) ⟨rfl, T0⟩ T0 ?_
      refine sw (core_extract rfl (L _ rfl)) ⟨rfl, T0⟩ T0 ?_
      refine sw (core_extract rfl (L _ rfl)) ⟨rfl, T0⟩ T0 ?_
      refine sw (core_assign (L _ rfl)) ⟨rfl, T0⟩ T0 ?_
      refine sw (core_assign (L _ rfl)) ⟨rfl, T0⟩ T0 ?_
      refine seq_nil ⟨[(2, _), (3, _), (4, _), (5, _), (7, _), (8, _)], [(2, _), (3, _), (4, _), (5, _)], ⟨rfl, rfl, rfl, rfl, rfl, rfl, T0⟩, ⟨rfl, rfl, rfl, rfl, T0⟩, ?_⟩
      refine exr ?_
      refine sw (core_loadP Tryd.isAgg24 Tryd.sizeOf24 (by rfl) (by exact (.cons (.cons .nil))) rfl (L _ rfl)) ⟨rfl, T0⟩ ⟨rfl, T0⟩ ?_
      refine sw (core_call (E := E) hG hX Tryd.call65 rfl hN (rnative_says n vs (by omega) h2 ht2) (L _ rfl)) ⟨rfl, T0⟩ T0 ?_
      refine sw (core_move (L _ rfl)) ⟨rfl, T0⟩ T0 ?_
      refine sw (core_extract rfl (L _ rfl)) ⟨rfl, T0⟩ T0 ?_
      refine sw (core_extract rfl (L _ rfl)) ⟨rfl, T0⟩ T0 ?_
      refine sw (core_assign (L _ rfl)) ⟨rfl, T0⟩ T0 ?_
      refine sw (core_assign (L _ rfl)) ⟨rfl, T0⟩ T0 ?_
      refine seq_nil ⟨[(2, _), (3, _), (4, _), (5, _), (7, _), (8, _), (9, _), (10, _)], [(2, _), (3, _), (4, _), (5, _)], ⟨rfl, rfl, rfl, rfl, rfl, rfl, rfl, rfl, T0⟩, ⟨rfl, rfl, rfl, rfl, T0⟩, ?_⟩
      refine ex_seq ?_
      refine exm (sl := [(44, vb (decide (val ws < 4611686018427387904 ∧ val vs < 4611686018427387904)))]) (sl0 := [(2, _), (3, _), (4, _), (5, _), (7, _), (9, _)]) (hb := []) (hb0 := [(2, _), (3, _), (4, _), (5, _)]) ⟨rfl, rfl, rfl, rfl, rfl, rfl, T0⟩ ⟨rfl, rfl, rfl, rfl, T0⟩ ?_ ?_
      · by_cases hs1 : val ws < 4611686018427387904
        · refine sw (core_move (L _ rfl)) ⟨rfl, T0⟩ T0 ?_
          refine sw (core_move (L _ rfl)) ⟨rfl, T0⟩ T0 ?_
          refine swg (g := 42) rfl (decide_eq_true hs1) (core_move (L _ rfl)) rfl ⟨rfl, T0⟩ T0 ?_
          refine sw (core_pick_t (decide_eq_true hs1) (L _ rfl)) ⟨rfl, rfl, T0⟩ T0 ?_
          exact seq_nil ⟨⟨ob rfl (dec_eq ⟨fun c => ⟨hs1, c⟩, fun c => c.2⟩), rfl, rfl, rfl, rfl, rfl, rfl, T0⟩, ⟨rfl, rfl, rfl, rfl, T0⟩⟩
        · refine sw (core_move (L _ rfl)) ⟨rfl, T0⟩ T0 ?_
          refine sw (core_move (L _ rfl)) ⟨rfl, T0⟩ T0 ?_
          refine swn (g := 42) rfl (decide_eq_false hs1) (L _ rfl) rfl ?_
          refine sw (core_pick_f (decide_eq_false hs1) (L _ rfl)) ⟨rfl, rfl, T0⟩ T0 ?_
          exact seq_nil ⟨⟨ob rfl (decide_eq_false (fun c => hs1 c.1)).symm, rfl, rfl, rfl, rfl, rfl, rfl, T0⟩, ⟨rfl, rfl, rfl, rfl, T0⟩⟩
      refine ex_if rfl (fun hs => ?_) (fun hs => ?_)
      · have hs := dt hs
        rw [if_pos hs.1, if_pos hs.2]
        obtain ⟨x, hx⟩ : ∃ x, x = sg m (val ws) := ⟨_, rfl⟩
        obtain ⟨y, hy⟩ : ∃ y, y = sg n (val vs) := ⟨_, rfl⟩
        have bx : x.natAbs < 4611686018427387904 := by rw [hx]; unfold sg; split <;> omega
        have by' : y.natAbs < 4611686018427387904 ∧ y ≠ 0 := by rw [hy]; unfold sg; split <;> omega
        rw [← hx, ← hy]
        obtain ⟨p1, p2, p3, p4, p5, p6⟩ := put_right (x := x) by'.2
        have m0 := Int.emod_nonneg x by'.2
        have m1 := Int.emod_lt x by'.2
        refine exd (by rfl) ?_
        refine sw (core_move (L _ rfl)) ⟨rfl, T0⟩ T0 ?_
        refine sw (core_move (L _ rfl)) ⟨rfl, T0⟩ T0 ?_
        refine sw (core_quo (L _ rfl) by'.2 (show _ = x.tdiv y from w64 (by omega) (by omega))) ⟨rfl, rfl, T0⟩ T0 ?_
        refine sw (core_move (L _ rfl)) ⟨rfl, T0⟩ T0 ?_
        refine sw (core_move (L _ rfl)) ⟨rfl, T0⟩ T0 ?_
        refine sw (core_rem (L _ rfl) by'.2 rfl) ⟨rfl, rfl, T0⟩ T0 ?_
        refine sw (core_assign (L _ rfl)) ⟨rfl, T0⟩ T0 ?_
        refine sw (core_assign (L _ rfl)) ⟨rfl, T0⟩ T0 ?_
        refine seq_nil ⟨aoks [⟨[7], [], [45], []⟩, ⟨[9], [], [46], []⟩, ⟨[45, 46], [], [47], []⟩, ⟨[7], [], [48], []⟩, ⟨[9], [], [49], []⟩, ⟨[48, 49], [], [50], []⟩, ⟨[47], [], [11], []⟩, ⟨[50], [], [12], []⟩] (by rfl) (by rfl) (by decide), [(4, _), (5, _), (7, _), (9, _), (11, _), (12, _)], [(4, _), (5, _)], ⟨rfl, rfl, rfl, rfl, rfl, rfl, T0⟩, ⟨rfl, rfl, T0⟩, ?_⟩
        refine ex_seq ?_
        refine exr ?_
        refine sw (core_move (L _ rfl)) ⟨rfl, T0⟩ T0 ?_
        refine sw (core_lss (L _ rfl)) ⟨rfl, rfl, T0⟩ T0 ?_
        refine seq_nil ⟨[(4, _), (5, _), (7, _), (9, _), (11, _), (12, _), (52, _)], [(4, _), (5, _)], ⟨rfl, rfl, rfl, rfl, rfl, rfl, rfl, T0⟩, ⟨rfl, rfl, T0⟩, ?_⟩
        refine ex_cut (sl := [(11, vi (x / y)), (12, vi (x % y))]) (sl0 := [(4, _), (5, _)]) (hb := []) (hb0 := [(4, _), (5, _)]) ⟨rfl, rfl, T0⟩ ⟨rfl, rfl, T0⟩ ?_ ?_
        · refine ex_if rfl (fun ht => ?_) (fun ht => ?_)
          · have ht := dt ht
            obtain ⟨e1, e2⟩ := p2 ht
            refine exr ?_
            refine sw (core_move (L _ rfl)) ⟨rfl, T0⟩ T0 ?_
            refine sw (core_move (L _ rfl)) ⟨rfl, T0⟩ T0 ?_
            refine sw (core_move (L _ rfl)) ⟨rfl, T0⟩ T0 ?_
            refine sw (core_neg (L _ rfl) (show _ = 0 - y from w64 (by omega) (by omega))) ⟨rfl, T0⟩ T0 ?_
            refine sw (core_max (L _ rfl)) ⟨rfl, rfl, T0⟩ T0 ?_
            refine sw (core_add (L _ rfl) (show _ = x % y by rw [e1]; exact w64 (by omega) (by omega))) ⟨rfl, rfl, T0⟩ T0 ?_
            refine sw (core_assign (L _ rfl)) ⟨rfl, T0⟩ T0 ?_
            refine seq_nil ⟨[(4, _), (5, _), (7, _), (9, _), (12, _)], [(4, _), (5, _)], ⟨rfl, rfl, rfl, rfl, rfl, T0⟩, ⟨rfl, rfl, T0⟩, ?_⟩
            refine exr0 ?_
            refine sw (core_move (L _ rfl)) ⟨rfl, T0⟩ T0 ?_
            refine sw (core_move (L _ rfl)) ⟨rfl, T0⟩ T0 ?_
            refine sw (core_sub (L _ rfl) (show _ = x - x % y from w64 (by omega) (by omega))) ⟨rfl, rfl, T0⟩ T0 ?_
            refine sw (core_move (L _ rfl)) ⟨rfl, T0⟩ T0 ?_
            refine sw (core_quo (L _ rfl) by'.2 (show _ = x / y by rw [e2]; exact w64 (by omega) (by omega))) ⟨rfl, rfl, T0⟩ T0 ?_
            refine sw (core_assign (L _ rfl)) ⟨rfl, T0⟩ T0 ?_
            refine seq_nil ?_
            exact ⟨⟨(by first | exact rfl | exact oi (by omega) rfl), (by first | exact rfl | exact oi (by omega) rfl), (by first | exact rfl | exact oi (by omega) rfl), (by first | exact rfl | exact oi (by omega) rfl), T0⟩, ⟨rfl, rfl, T0⟩⟩
          · have ht := df ht
            obtain ⟨e1, e2⟩ := p1 (by omega)
            refine ex_skip ?_
            exact ⟨⟨oi e1 rfl, oi e2 rfl, (by first | exact rfl | exact oi (by omega) rfl), (by first | exact rfl | exact oi (by omega) rfl), T0⟩, ⟨rfl, rfl, T0⟩⟩
        · refine exr ?_
          refine sw (core_move (L _ rfl)) ⟨rfl, T0⟩ T0 ?_
          refine sw (core_call (E := E) hG hX Tryd.call20 rfl hN (rof_says (x / y) (by omega) (by omega)) (L _ rfl)) ⟨rfl, T0⟩ T0 ?_
          refine sw (core_move (L _ rfl)) ⟨rfl, T0⟩ T0 ?_
          refine sw (core_call (E := E) hG hX Tryd.call20 rfl hN (rof_says (x % y) (by omega) (by omega)) (L _ rfl)) ⟨rfl, T0⟩ T0 ?_
          refine sb (core_storeM Tryd.sizeOf24 (by rfl) (.pagg (.cons (.cons .nil))) rfl (.put (.put .here))) ⟨rfl, rfl, T0⟩ ⟨rfl, T0⟩ ?_
          refine sb (core_storeM Tryd.sizeOf24 (by rfl) (.pagg (.cons (.cons .nil))) rfl (.put (.put .here))) ⟨rfl, rfl, T0⟩ ⟨rfl, T0⟩ ?_
          refine sw (core_assign (L _ rfl)) ⟨rfl, T0⟩ T0 ?_
          refine seq_nil ⟨[(4, _), (5, _), (6, _)], [(4, _), (5, _)], ⟨rfl, rfl, rfl, T0⟩, ⟨rfl, rfl, T0⟩, ?_⟩
          refine ex_ret ?_
          refine ⟨.inr rfl, ResVs.cast (.cons (.agg rfl rfl rfl Tryd.isAgg24 Tryd.sizeOf24 (.cons (.cons .nil))) (.cons (.agg rfl rfl rfl Tryd.isAgg24 Tryd.sizeOf24 (.cons (.cons .nil))) (.cons (.tmp rfl) .nil))) ?_⟩
          rfl
      · have hs := df hs
        have dq1 : (digs (val ws / val vs).toNat).length ≤ ws.length := dlen q0 (by have := val_lt h; omega)
        have dr1 : (digs (val ws % val vs).toNat).length ≤ vs.length := dlen r0 (by have := val_lt h2; omega)
        have vq : val (digs (val ws / val vs).toNat) = val ws / val vs := by rw [val_digs]; omega
        have vr : val (digs (val ws % val vs).toNat) = val ws % val vs := by rw [val_digs]; omega
        rw [dsg.1, dsg.2]
        refine ex_skip (show Exec _ _ _ _ _ from ?_)
        refine exr ?_
        refine sw (core_fieldAddr Tryd.underlying24 rfl Tryd.sizeOf22 (by decide) (by exact rfl) (L _ rfl)) ⟨rfl, T0⟩ ⟨rfl, T0⟩ ?_
        refine sw (core_load1 Tryd.isAgg22 (by rfl) (by rfl) (L _ rfl)) ⟨rfl, T0⟩ ⟨rfl, T0⟩ ?_
        refine sw (core_fieldAddr Tryd.underlying24 rfl Tryd.sizeOf22 (by decide) (by exact rfl) (L _ rfl)) ⟨rfl, T0⟩ ⟨rfl, T0⟩ ?_
        refine sw (core_load1 Tryd.isAgg22 (by rfl) (by rfl) (L _ rfl)) ⟨rfl, T0⟩ ⟨rfl, T0⟩ ?_
        refine sw (core_call (E := E) hG hX Tryd.call66 rfl hN (rdivW_says ws vs (by omega) (by omega) h h2 ht ht2 hv) (L _ rfl)) ⟨rfl, rfl, T0⟩ T0 ?_
        refine sw (core_move (L _ rfl)) ⟨rfl, T0⟩ T0 ?_
        refine sw (core_extract rfl (L _ rfl)) ⟨rfl, T0⟩ T0 ?_
        refine sw (core_extract rfl (L _ rfl)) ⟨rfl, T0⟩ T0 ?_
        refine sw (core_assign (L _ rfl)) ⟨rfl, T0⟩ T0 ?_
        refine sw (core_assign (L _ rfl)) ⟨rfl, T0⟩ T0 ?_
        refine seq_nil ⟨[(2, _), (3, _), (4, _), (5, _), (13, _), (14, _)], [(2, _), (3, _), (4, _), (5, _)], ⟨rfl, rfl, rfl, rfl, rfl, rfl, T0⟩, ⟨rfl, rfl, rfl, rfl, T0⟩, ?_⟩
        refine ex_seq ?_
        refine exm (sl := [(82, vb (decide (m = true ∧ val ws % val vs ≠ 0)))]) (sl0 := [(2, _), (3, _), (4, _), (5, _), (13, _), (14, _)]) (hb := []) (hb0 := [(2, _), (3, _), (4, _), (5, _)]) ⟨rfl, rfl, rfl, rfl, rfl, rfl, T0⟩ ⟨rfl, rfl, rfl, rfl, T0⟩ ?_ ?_
        · by_cases hm : m = true
          · refine sw (core_fieldAddr Tryd.underlying24 rfl Tryd.sizeOf4 (by decide) (by exact rfl) (L _ rfl)) ⟨rfl, T0⟩ ⟨rfl, T0⟩ ?_
            refine sw (core_load1 Tryd.isAgg4 (by rfl) (by rfl) (L _ rfl)) ⟨rfl, T0⟩ ⟨rfl, T0⟩ ?_
            refine sw (core_move (L _ rfl)) ⟨rfl, T0⟩ T0 ?_
            refine swg (g := 78) rfl hm (core_move (L _ rfl)) rfl ⟨rfl, T0⟩ T0 ?_
            refine swg (g := 78) rfl hm (core_len Tryd.underlying22 (L _ rfl)) rfl ⟨rfl, T0⟩ T0 ?_
            refine swg (g := 78) rfl hm (core_gtr (L _ rfl)) rfl ⟨rfl, rfl, T0⟩ T0 ?_
            refine sw (core_pick_t hm (L _ rfl)) ⟨rfl, rfl, T0⟩ T0 ?_
            exact seq_nil ⟨⟨ob rfl (dec_eq (by have := digs_len_zero (n := (val ws % val vs).toNat); simp only [hm, true_and]; omega)), rfl, rfl, rfl, rfl, rfl, rfl, T0⟩, ⟨rfl, rfl, rfl, rfl, T0⟩⟩
          · refine sw (core_fieldAddr Tryd.underlying24 rfl Tryd.sizeOf4 (by decide) (by exact rfl) (L _ rfl)) ⟨rfl, T0⟩ ⟨rfl, T0⟩ ?_
            refine sw (core_load1 Tryd.isAgg4 (by rfl) (by rfl) (L _ rfl)) ⟨rfl, T0⟩ ⟨rfl, T0⟩ ?_
            refine sw (core_move (L _ rfl)) ⟨rfl, T0⟩ T0 ?_
            refine swn (g := 78) rfl (by simpa using hm) (L _ rfl) rfl ?_
            refine swn (g := 78) rfl (by simpa using hm) (L _ rfl) rfl ?_
            refine swn (g := 78) rfl (by simpa using hm) (L _ rfl) rfl ?_
            refine sw (core_pick_f (by simpa using hm) (L _ rfl)) ⟨rfl, rfl, T0⟩ T0 ?_
            exact seq_nil ⟨⟨ob rfl (decide_eq_false (fun c => hm c.1)).symm, rfl, rfl, rfl, rfl, rfl, rfl, T0⟩, ⟨rfl, rfl, rfl, rfl, T0⟩⟩
        refine ex_if rfl (fun hd => ?_) (fun hd => ?_)
        · have hd := dt hd
          rw [if_pos hd, if_pos hd]
          have a1 := radd_says (digs (val ws / val vs).toNat) [1] (by omega) (by simp) (wd_digs _) (fun w hw => by rw [List.mem_singleton] at hw; subst hw; decide)
          rw [vq, show val [1] = 1 by simp [val]] at a1
          have a2 := rsub_says vs (digs (val ws % val vs).toNat) (by omega) dr1 h2 (wd_digs _) (by omega)
          rw [vr] at a2
          have l1 : (digs (val ws / val vs + 1).toNat).length ≤ ws.length + 1 := dlen (by omega) (by have := val_lt h; have := powle (show ws.length ≤ ws.length + 1 by omega); have := Bsucc ws.length; have := Bpos ws.length; omega)
          have l2 : (digs (val vs - val ws % val vs).toNat).length ≤ vs.length := dlen (by omega) (by have := val_lt h2; omega)
          have a3 := rmade_says (m != n) (digs (val ws / val vs + 1).toNat) (by omega) (wd_digs _)
          rw [val_digs, show (((val ws / val vs + 1).toNat : Nat) : Int) = val ws / val vs + 1 by omega] at a3
          have a4 := rmade_says false (digs (val vs - val ws % val vs).toNat) (by omega) (wd_digs _)
          rw [val_digs, show (((val vs - val ws % val vs).toNat : Nat) : Int) = val vs - val ws % val vs by omega] at a4
          refine exd0 (by rfl) ?_
          refine sw (core_move (L _ rfl)) ⟨rfl, T0⟩ T0 ?_
          refine sw (core_bsI (vs := [_]) Tryd.underlying22 Tryd.typeInfo53 rfl rfl (by decide) (by decide) rfl (zs_made (.cons rfl .nil) rfl) rfl (.cons rfl (.atom rfl) rfl (.put .here) .nil) (.cons .nil) (L _ rfl)) ⟨rfl, T0⟩ T0 ?_
          refine sw (core_call (E := E) hG hX Tryd.call67 rfl hN a1 (L _ rfl)) ⟨rfl, rfl, T0⟩ T0 ?_
          refine sw (core_fieldAddr Tryd.underlying24 rfl Tryd.sizeOf22 (by decide) (by exact rfl) (L _ rfl)) ⟨rfl, T0⟩ ⟨rfl, T0⟩ ?_
          refine sw (core_load1 Tryd.isAgg22 (by rfl) (by rfl) (L _ rfl)) ⟨rfl, T0⟩ ⟨rfl, T0⟩ ?_
          refine sw (core_move (L _ rfl)) ⟨rfl, T0⟩ T0 ?_
          refine sw (core_call (E := E) hG hX Tryd.call68 rfl hN a2 (L _ rfl)) ⟨rfl, rfl, T0⟩ T0 ?_
          refine sw (core_assign (L _ rfl)) ⟨rfl, T0⟩ T0 ?_
          refine sw (core_assign (L _ rfl)) ⟨rfl, T0⟩ T0 ?_
          refine seq_nil ⟨aoks [⟨[13], [], [83], []⟩, ⟨[], [], [84], []⟩, ⟨[83, 84], [], [85], []⟩, ⟨[3], [3], [86], []⟩, ⟨[86], [3], [87], []⟩, ⟨[14], [], [88], []⟩, ⟨[87, 88], [], [89], []⟩, ⟨[85], [], [13], []⟩, ⟨[89], [], [14], []⟩] (by rfl) (by rfl) (by decide), ?_⟩
          refine exr ?_
          refine sw (core_fieldAddr Tryd.underlying24 rfl Tryd.sizeOf4 (by decide) (by exact rfl) (L _ rfl)) ⟨rfl, T0⟩ ⟨rfl, T0⟩ ?_
          refine sw (core_load1 Tryd.isAgg4 (by rfl) (by rfl) (L _ rfl)) ⟨rfl, T0⟩ ⟨rfl, T0⟩ ?_
          refine sw (core_fieldAddr Tryd.underlying24 rfl Tryd.sizeOf4 (by decide) (by exact rfl) (L _ rfl)) ⟨rfl, T0⟩ ⟨rfl, T0⟩ ?_
          refine sw (core_load1 Tryd.isAgg4 (by rfl) (by rfl) (L _ rfl)) ⟨rfl, T0⟩ ⟨rfl, T0⟩ ?_
          refine sw (core_bne Tryd.underlying4 (L _ rfl)) ⟨rfl, rfl, T0⟩ T0 ?_
          refine sw (core_move (L _ rfl)) ⟨rfl, T0⟩ T0 ?_
          refine sw (core_call (E := E) hG hX Tryd.call56 rfl hN a3 (L _ rfl)) ⟨rfl, rfl, T0⟩ T0 ?_
          refine sw (core_move (L _ rfl)) ⟨rfl, T0⟩ T0 ?_
          refine sw (core_call (E := E) hG hX Tryd.call56 rfl hN a4 (L _ rfl)) ⟨rfl, rfl, T0⟩ T0 ?_
          refine sb (core_storeM Tryd.sizeOf24 (by rfl) (.pagg (.cons (.cons .nil))) rfl (.put (.put .here))) ⟨rfl, rfl, T0⟩ ⟨rfl, T0⟩ ?_
          refine sb (core_storeM Tryd.sizeOf24 (by rfl) (.pagg (.cons (.cons .nil))) rfl (.put (.put .here))) ⟨rfl, rfl, T0⟩ ⟨rfl, T0⟩ ?_
          refine sw (core_assign (L _ rfl)) ⟨rfl, T0⟩ T0 ?_
          refine seq_nil ⟨[(4, _), (5, _), (6, _)], [(4, _), (5, _)], ⟨rfl, rfl, rfl, T0⟩, ⟨rfl, rfl, T0⟩, ?_⟩
          refine ex_ret ?_
          refine ⟨.inr rfl, ResVs.cast (.cons (.agg rfl rfl rfl Tryd.isAgg24 Tryd.sizeOf24 (.cons (.cons .nil))) (.cons (.agg rfl rfl rfl Tryd.isAgg24 Tryd.sizeOf24 (.cons (.cons .nil))) (.cons (.tmp rfl) .nil))) ?_⟩
          rfl
        · have hd := df hd
          rw [if_neg hd, if_neg hd]
          have a3 := rmade_says (m != n) (digs (val ws / val vs).toNat) (by omega) (wd_digs _)
          rw [vq] at a3
          have a4 := rmade_says false (digs (val ws % val vs).toNat) (by omega) (wd_digs _)
          rw [vr] at a4
          refine ex_skip (show Exec _ _ _ _ _ from ?_)
          refine exr ?_
          refine sw (core_fieldAddr Tryd.underlying24 rfl Tryd.sizeOf4 (by decide) (by exact rfl) (L _ rfl)) ⟨rfl, T0⟩ ⟨rfl, T0⟩ ?_
          refine sw (core_load1 Tryd.isAgg4 (by rfl) (by rfl) (L _ rfl)) ⟨rfl, T0⟩ ⟨rfl, T0⟩ ?_
          refine sw (core_fieldAddr Tryd.underlying24 rfl Tryd.sizeOf4 (by decide) (by exact rfl) (L _ rfl)) ⟨rfl, T0⟩ ⟨rfl, T0⟩ ?_
          refine sw (core_load1 Tryd.isAgg4 (by rfl) (by rfl) (L _ rfl)) ⟨rfl, T0⟩ ⟨rfl, T0⟩ ?_
          refine sw (core_bne Tryd.underlying4 (L _ rfl)) ⟨rfl, rfl, T0⟩ T0 ?_
          refine sw (core_move (L _ rfl)) ⟨rfl, T0⟩ T0 ?_
          refine sw (core_call (E := E) hG hX Tryd.call56 rfl hN a3 (L _ rfl)) ⟨rfl, rfl, T0⟩ T0 ?_
          refine sw (core_move (L _ rfl)) ⟨rfl, T0⟩ T0 ?_
          refine sw (core_call (E := E) hG hX Tryd.call56 rfl hN a4 (L _ rfl)) ⟨rfl, rfl, T0⟩ T0 ?_
          refine sb (core_storeM Tryd.sizeOf24 (by rfl) (.pagg (.cons (.cons .nil))) rfl (.put (.put .here))) ⟨rfl, rfl, T0⟩ ⟨rfl, T0⟩ ?_
          refine sb (core_storeM Tryd.sizeOf24 (by rfl) (.pagg (.cons (.cons .nil))) rfl (.put (.put .here))) ⟨rfl, rfl, T0⟩ ⟨rfl, T0⟩ ?_
          refine sw (core_assign (L _ rfl)) ⟨rfl, T0⟩ T0 ?_
          refine seq_nil ⟨[(4, _), (5, _), (6, _)], [(4, _), (5, _)], ⟨rfl, rfl, rfl, T0⟩, ⟨rfl, rfl, T0⟩, ?_⟩
          refine ex_ret ?_
          refine ⟨.inr rfl, ResVs.cast (.cons (.agg rfl rfl rfl Tryd.isAgg24 Tryd.sizeOf24 (.cons (.cons .nil))) (.cons (.agg rfl rfl rfl Tryd.isAgg24 Tryd.sizeOf24 (.cons (.cons .nil))) (.cons (.tmp rfl) .nil))) ?_⟩
          rfl

end Go.Proofs.YtebkelnibecmjaaDoor.N
namespace Go.Proofs.YtebkelnibecmjaaDoor.N
open Go Go.Proofs.YtebkelnibecmjaaDoor.SH Go.Proofs.YtebkelnibecmjaaDoor.NumA
theorem rdivZ (a b : Int) (ha : nw a < 9999999) (hb : nw b < 9999999) (h0 : b ≠ 0) : Says E 32 [pZ a, pZ b] (.tup [pZ (a / b), pZ (a % b), vZ 0]) := by
  have := rdiv_says (decide (a < 0)) (decide (b < 0)) (digs a.natAbs) (digs b.natAbs) ha hb (wd_digs _) (wd_digs _)
  have hl : (digs b.natAbs).length ≠ 0 := by rw [Ne, digs_len_zero]; omega
  rwa [dQ, dR, dE, if_pos ⟨canon_digs a, canon_digs b⟩, if_pos ⟨canon_digs a, canon_digs b, hl⟩, if_pos ⟨canon_digs a, canon_digs b⟩, if_neg hl, sg_digs, sg_digs] at this
theorem rmulZ2 (a b : Int) (ha : nw a < 99999999) (hb : nw b < 99999999) : Says E 40 [pZ a, pZ b] (pZ (a * b)) := by
  have := rmulI_says (decide (a < 0)) (decide (b < 0)) (digs a.natAbs) (digs b.natAbs) (by unfold nw at ha; omega) (by unfold nw at hb; omega) (wd_digs _) (wd_digs _)
  rwa [if_pos ⟨canon_digs a, canon_digs b⟩, sg_digs, sg_digs] at this
theorem rsubZ (a b : Int) (ha : nw a < 99999999) (hb : nw b < 99999999) : Says E 38 [pZ a, pZ b] (pZ (a - b)) := by
  have := rsubI_says (decide (a < 0)) (decide (b < 0)) (digs a.natAbs) (digs b.natAbs) (by unfold nw at ha; omega) (by unfold nw at hb; omega) (wd_digs _) (wd_digs _)
  rwa [if_pos ⟨canon_digs a, canon_digs b⟩, sg_digs, sg_digs] at this
theorem rabsZ (a : Int) (ha : nw a < 99999999) : Says E 30 [pZ a] (pZ a.natAbs) := by
  have := rabs_says (decide (a < 0)) (digs a.natAbs) (by unfold nw at ha; omega) (wd_digs _)
  rwa [if_pos (canon_digs a), sg_digs] at this
theorem rsignZ (a : Int) (ha : nw a < 99999999) : Says E 24 [pZ a] (vZ a.sign) := by
  have := rsign_says (decide (a < 0)) (digs a.natAbs) (by unfold nw at ha; omega) (wd_digs _)
  rwa [if_pos (canon_digs a), sg_digs] at this
set_option maxRecDepth 100000 in
set_option maxHeartbeats 4000000 in
theorem rquoZ (a b : Int) (ha : nw a < 9999999) (hb : nw b < 9999999) (h0 : b ≠ 0) : Says E 70 [pZ a, pZ b] (pZ (a / b)) := by
  refine says_of (xs := [pZ (a / b)]) Tryd.func70 rfl Tryd.ntmps70 Tryd.results70 (by simp) fun F hG hX0 hnt hdf P0 => ?_
  have L := ltn hnt
  have hX : ∀ b, F.X b → E.ng ≤ b := fun b h => absurd h (hX0 b)
  have hN := ng_le hG
  refine exr ?_
  refine swb (core_box (k := 2) (n := 2) (.pagg (.cons (.cons .nil))) rfl rfl (P0 _ rfl) (L _ rfl)) ⟨rfl, T0⟩ T0 ⟨rfl, rfl⟩ ?_
  refine swb (core_box (k := 3) (n := 2) (.pagg (.cons (.cons .nil))) rfl rfl (P0 _ rfl) (L _ rfl)) ⟨rfl, T0⟩ T0 ⟨rfl, rfl⟩ ?_
  refine swb (core_alloc (k := 4) (n := 2) Tryd.zeroValue24 (.cons rfl (.cons rfl .nil)) rfl (P0 _ rfl) (L _ rfl)) trivial trivial ⟨rfl, rfl⟩ ?_
  refine seq_nil ⟨[(2, _), (3, _), (4, _)], [(2, _), (3, _), (4, _)], ⟨rfl, rfl, rfl, T0⟩, ⟨rfl, rfl, rfl, T0⟩, ?_⟩
  refine exr ?_
  refine sw (core_loadP Tryd.isAgg24 Tryd.sizeOf24 (by rfl) (by exact (.cons (.cons .nil))) rfl (L _ rfl)) ⟨rfl, T0⟩ ⟨rfl, T0⟩ ?_
  refine sw (core_loadP Tryd.isAgg24 Tryd.sizeOf24 (by rfl) (by exact (.cons (.cons .nil))) rfl (L _ rfl)) ⟨rfl, T0⟩ ⟨rfl, T0⟩ ?_
  refine sw (core_call (E := E) hG hX Tryd.call32 rfl hN (rdivZ a b ha hb h0) (L _ rfl)) ⟨rfl, rfl, T0⟩ T0 ?_
  refine sw (core_move (L _ rfl)) ⟨rfl, T0⟩ T0 ?_
  refine sw (core_extract rfl (L _ rfl)) ⟨rfl, T0⟩ T0 ?_
  refine sw (core_extract rfl (L _ rfl)) ⟨rfl, T0⟩ T0 ?_
  refine sw (core_extract rfl (L _ rfl)) ⟨rfl, T0⟩ T0 ?_
  refine swb (core_alloc (k := 5) (n := 2) Tryd.zeroValue24 (.cons rfl (.cons rfl .nil)) rfl (P0 _ rfl) (L _ rfl)) trivial trivial ⟨rfl, rfl⟩ ?_
  refine swb (core_alloc (k := 6) (n := 2) Tryd.zeroValue24 (.cons rfl (.cons rfl .nil)) rfl (P0 _ rfl) (L _ rfl)) trivial trivial ⟨rfl, rfl⟩ ?_
  refine sb (core_storeM Tryd.sizeOf24 (by rfl) (.pagg (.cons (.cons .nil))) rfl (.put (.put .here))) ⟨rfl, rfl, T0⟩ ⟨rfl, T0⟩ ?_
  refine sb (core_storeM Tryd.sizeOf24 (by rfl) (.pagg (.cons (.cons .nil))) rfl (.put (.put .here))) ⟨rfl, rfl, T0⟩ ⟨rfl, T0⟩ ?_
  refine sw (core_assign (L _ rfl)) ⟨rfl, T0⟩ T0 ?_
  refine seq_nil ⟨[(4, _), (5, _)], [(4, _), (5, _)], ⟨rfl, rfl, T0⟩, ⟨rfl, rfl, T0⟩, ?_⟩
  refine exr ?_
  refine sw (core_loadP Tryd.isAgg24 Tryd.sizeOf24 (by rfl) (by exact (.cons (.cons .nil))) rfl (L _ rfl)) ⟨rfl, T0⟩ ⟨rfl, T0⟩ ?_
  refine sb (core_storeM Tryd.sizeOf24 (by rfl) (.pagg (.cons (.cons .nil))) rfl (.put (.put .here))) ⟨rfl, rfl, T0⟩ ⟨rfl, T0⟩ ?_
  refine seq_nil ⟨[(4, _)], [(4, _)], ⟨rfl, T0⟩, ⟨rfl, T0⟩, ?_⟩
  refine ex_ret ?_
  refine ⟨.inr rfl, ResVs.cast (.cons (.agg rfl rfl rfl Tryd.isAgg24 Tryd.sizeOf24 (.cons (.cons .nil))) .nil) ?_⟩
  rfl

set_option maxRecDepth 100000 in
set_option maxHeartbeats 4000000 in
theorem rmodZ (a b : Int) (ha : nw a < 9999999) (hb : nw b < 9999999) (h0 : b ≠ 0) : Says E 69 [pZ a, pZ b] (pZ (a % b)) := by
  refine says_of (xs := [pZ (a % b)]) Tryd.func69 rfl Tryd.ntmps69 Tryd.results69 (by simp) fun F hG hX0 hnt hdf P0 => ?_
  have L := ltn hnt
  have hX : ∀ b, F.X b → E.ng ≤ b := fun b h => absurd h (hX0 b)
  have hN := ng_le hG
  refine exr ?_
  refine swb (core_box (k := 2) (n := 2) (.pagg (.cons (.cons .nil))) rfl rfl (P0 _ rfl) (L _ rfl)) ⟨rfl, T0⟩ T0 ⟨rfl, rfl⟩ ?_
  refine swb (core_box (k := 3) (n := 2) (.pagg (.cons (.cons .nil))) rfl rfl (P0 _ rfl) (L _ rfl)) ⟨rfl, T0⟩ T0 ⟨rfl, rfl⟩ ?_
  refine swb (core_alloc (k := 4) (n := 2) Tryd.zeroValue24 (.cons rfl (.cons rfl .nil)) rfl (P0 _ rfl) (L _ rfl)) trivial trivial ⟨rfl, rfl⟩ ?_
  refine seq_nil ⟨[(2, _), (3, _), (4, _)], [(2, _), (3, _), (4, _)], ⟨rfl, rfl, rfl, T0⟩, ⟨rfl, rfl, rfl, T0⟩, ?_⟩
  refine exr ?_
  refine sw (core_loadP Tryd.isAgg24 Tryd.sizeOf24 (by rfl) (by exact (.cons (.cons .nil))) rfl (L _ rfl)) ⟨rfl, T0⟩ ⟨rfl, T0⟩ ?_
  refine sw (core_loadP Tryd.isAgg24 Tryd.sizeOf24 (by rfl) (by exact (.cons (.cons .nil))) rfl (L _ rfl)) ⟨rfl, T0⟩ ⟨rfl, T0⟩ ?_
  refine sw (core_call (E := E) hG hX Tryd.call32 rfl hN (rdivZ a b ha hb h0) (L _ rfl)) ⟨rfl, rfl, T0⟩ T0 ?_
  refine sw (core_move (L _ rfl)) ⟨rfl, T0⟩ T0 ?_
  refine sw (core_extract rfl (L _ rfl)) ⟨rfl, T0⟩ T0 ?_
  refine sw (core_extract rfl (L _ rfl)) ⟨rfl, T0⟩ T0 ?_
  refine sw (core_extract rfl (L _ rfl)) ⟨rfl, T0⟩ T0 ?_
  refine swb (core_alloc (k := 5) (n := 2) Tryd.zeroValue24 (.cons rfl (.cons rfl .nil)) rfl (P0 _ rfl) (L _ rfl)) trivial trivial ⟨rfl, rfl⟩ ?_
  refine swb (core_alloc (k := 6) (n := 2) Tryd.zeroValue24 (.cons rfl (.cons rfl .nil)) rfl (P0 _ rfl) (L _ rfl)) trivial trivial ⟨rfl, rfl⟩ ?_
  refine sb (core_storeM Tryd.sizeOf24 (by rfl) (.pagg (.cons (.cons .nil))) rfl (.put (.put .here))) ⟨rfl, rfl, T0⟩ ⟨rfl, T0⟩ ?_
  refine sb (core_storeM Tryd.sizeOf24 (by rfl) (.pagg (.cons (.cons .nil))) rfl (.put (.put .here))) ⟨rfl, rfl, T0⟩ ⟨rfl, T0⟩ ?_
  refine sw (core_assign (L _ rfl)) ⟨rfl, T0⟩ T0 ?_
  refine seq_nil ⟨[(4, _), (6, _)], [(4, _), (6, _)], ⟨rfl, rfl, T0⟩, ⟨rfl, rfl, T0⟩, ?_⟩
  refine exr ?_
  refine sw (core_loadP Tryd.isAgg24 Tryd.sizeOf24 (by rfl) (by exact (.cons (.cons .nil))) rfl (L _ rfl)) ⟨rfl, T0⟩ ⟨rfl, T0⟩ ?_
  refine sb (core_storeM Tryd.sizeOf24 (by rfl) (.pagg (.cons (.cons .nil))) rfl (.put (.put .here))) ⟨rfl, rfl, T0⟩ ⟨rfl, T0⟩ ?_
  refine seq_nil ⟨[(4, _)], [(4, _)], ⟨rfl, T0⟩, ⟨rfl, T0⟩, ?_⟩
  refine ex_ret ?_
  refine ⟨.inr rfl, ResVs.cast (.cons (.agg rfl rfl rfl Tryd.isAgg24 Tryd.sizeOf24 (.cons (.cons .nil))) .nil) ?_⟩
  rfl

theorem rnatZ (x : Nat) (hx : nw (x : Int) < 99999999) : Says E 65 [pZ (x : Int)] (.tup [vZ (if x < 4611686018427387904 then (x : Int) else 0), bZ (decide (x < 4611686018427387904))]) := by
  have := rnative_says (decide ((x : Int) < 0)) (digs (x : Int).natAbs) (by unfold nw at hx; omega) (wd_digs _) (digs_tr _)
  rw [sg_digs, val_digs] at this
  have e : (((x : Int).natAbs : Nat) : Int) = (x : Int) := by omega
  rw [e] at this
  have e2 : decide ((x : Int) < 4611686018427387904) = decide (x < 4611686018427387904) := dec_eq (by omega)
  rw [e2] at this
  by_cases c : x < 4611686018427387904
  · rw [if_pos (by omega)] at this; rwa [if_pos c]
  · rw [if_neg (by omega)] at this; rwa [if_neg c]
set_option maxRecDepth 100000 in
set_option maxHeartbeats 4000000 in
theorem rgcd_says (m n : Bool) (ws vs : List Int) (hl : ws.length < 999999) (hl2 : vs.length < 999999) (h : Wd ws) (h2 : Wd vs) : Says E 42 [pI m ws, pI n vs] (pZ (if canon m ws = true ∧ canon n vs = true then (Int.gcd (sg m (val ws)) (sg n (val vs)) : Int) else 0)) := by
  refine says_of (xs := [pZ (if canon m ws = true ∧ canon n vs = true then (Int.gcd (sg m (val ws)) (sg n (val vs)) : Int) else 0)]) Tryd.func42 rfl Tryd.ntmps42 Tryd.results42 (by simp) fun F hG hX0 hnt hdf P0 => ?_
  have L := ltn hnt
  have hX : ∀ b, F.X b → E.ng ≤ b := fun b h => absurd h (hX0 b)
  have hN := ng_le hG
  refine exr ?_
  refine swb (core_box (k := 2) (n := 2) (.pagg (.cons (.cons .nil))) rfl rfl (P0 _ rfl) (L _ rfl)) ⟨rfl, T0⟩ T0 ⟨rfl, rfl⟩ ?_
  refine swb (core_box (k := 3) (n := 2) (.pagg (.cons (.cons .nil))) rfl rfl (P0 _ rfl) (L _ rfl)) ⟨rfl, T0⟩ T0 ⟨rfl, rfl⟩ ?_
  refine swb (core_alloc (k := 4) (n := 2) Tryd.zeroValue24 (.cons rfl (.cons rfl .nil)) rfl (P0 _ rfl) (L _ rfl)) trivial trivial ⟨rfl, rfl⟩ ?_
  refine seq_nil ⟨[(2, _), (3, _), (4, _)], [(2, _), (3, _), (4, _)], ⟨rfl, rfl, rfl, T0⟩, ⟨rfl, rfl, rfl, T0⟩, ?_⟩
  refine ex_seq ?_
  refine exm (sl := [(18, vb (decide (¬ (canon m ws = true ∧ canon n vs = true))))]) (sl0 := [(2, _), (3, _), (4, _)]) (hb := []) (hb0 := [(2, _), (3, _), (4, _)]) ⟨rfl, rfl, rfl, T0⟩ ⟨rfl, rfl, rfl, T0⟩ ?_ ?_
  · by_cases hca : canon m ws = true
    · refine sw (core_loadP Tryd.isAgg24 Tryd.sizeOf24 (by rfl) (by exact (.cons (.cons .nil))) rfl (L _ rfl)) ⟨rfl, T0⟩ ⟨rfl, T0⟩ ?_
      refine sw (core_call (E := E) hG hX Tryd.call17 rfl hN (ris_says m ws (by omega)) (L _ rfl)) ⟨rfl, T0⟩ T0 ?_
      refine sw (core_not (L _ rfl)) ⟨rfl, T0⟩ T0 ?_
      refine sw (core_move (L _ rfl)) ⟨rfl, T0⟩ T0 ?_
      refine swg (g := 14) rfl (by simp [hca]) (core_loadP Tryd.isAgg24 Tryd.sizeOf24 (by rfl) (by exact (.cons (.cons .nil))) rfl (L _ rfl)) rfl ⟨rfl, T0⟩ ⟨rfl, T0⟩ ?_
      refine swg (g := 14) rfl (by simp [hca]) (core_call (E := E) hG hX Tryd.call17 rfl hN (ris_says n vs (by omega)) (L _ rfl)) rfl ⟨rfl, T0⟩ T0 ?_
      refine swg (g := 14) rfl (by simp [hca]) (core_not (L _ rfl)) rfl ⟨rfl, T0⟩ T0 ?_
      refine sw (core_pick_f (by simp [hca]) (L _ rfl)) ⟨rfl, rfl, T0⟩ T0 ?_
      exact seq_nil ⟨⟨ob rfl (by simp [hca]), rfl, rfl, rfl, T0⟩, ⟨rfl, rfl, rfl, T0⟩⟩
    · refine sw (core_loadP Tryd.isAgg24 Tryd.sizeOf24 (by rfl) (by exact (.cons (.cons .nil))) rfl (L _ rfl)) ⟨rfl, T0⟩ ⟨rfl, T0⟩ ?_
      refine sw (core_call (E := E) hG hX Tryd.call17 rfl hN (ris_says m ws (by omega)) (L _ rfl)) ⟨rfl, T0⟩ T0 ?_
      refine sw (core_not (L _ rfl)) ⟨rfl, T0⟩ T0 ?_
      refine sw (core_move (L _ rfl)) ⟨rfl, T0⟩ T0 ?_
      refine swn (g := 14) rfl (by simp [hca]) (L _ rfl) rfl ?_
      refine swn (g := 14) rfl (by simp [hca]) (L _ rfl) rfl ?_
      refine swn (g := 14) rfl (by simp [hca]) (L _ rfl) rfl ?_
      refine sw (core_pick_t (by simp [hca]) (L _ rfl)) ⟨rfl, rfl, T0⟩ T0 ?_
      exact seq_nil ⟨⟨ob rfl (by simp [hca]), rfl, rfl, rfl, T0⟩, ⟨rfl, rfl, rfl, T0⟩⟩
  refine ex_if rfl (fun hc => ?_) (fun hc => ?_)
  · have hc := dt hc
    refine exr ?_
    refine sw (core_pc (core_buildP (vs := []) Tryd.underlying24 Tryd.zeroValue24 (.cons rfl (.cons rfl .nil)) ((Places.cons Tryd.sizeOf4 (Places.cons Tryd.sizeOf22 Places.nil))).to rfl .nil (.cons (.cons .nil)) (L _ rfl)) (.agg (.cons .same (.cons .nil .nil)))) T0 T0 ?_
    refine sb (core_storeM Tryd.sizeOf24 (by rfl) (.pagg (.cons (.cons .nil))) rfl (.put (.put .here))) ⟨rfl, rfl, T0⟩ ⟨rfl, T0⟩ ?_
    refine seq_nil ⟨[(4, _)], [(4, _)], ⟨rfl, T0⟩, ⟨rfl, T0⟩, ?_⟩
    refine ex_ret ?_
    refine ⟨.inr rfl, ResVs.cast (.cons (.agg rfl rfl rfl Tryd.isAgg24 Tryd.sizeOf24 (.cons (.cons .nil))) .nil) ?_⟩
    rw [if_neg hc, pZ_zero]; rfl
  · have hc := Decidable.not_not.1 (df hc)
    have ab := rabs_says m ws (by omega) h
    have ab2 := rabs_says n vs (by omega) h2
    rw [if_pos hc.1] at ab
    rw [if_pos hc.2] at ab2
    have na := nw_val (m := m) h
    have nb := nw_val (m := n) h2
    rw [if_pos hc]
    obtain ⟨A, hA⟩ : ∃ A, A = sg m (val ws) := ⟨_, rfl⟩
    obtain ⟨B, hB⟩ : ∃ B, B = sg n (val vs) := ⟨_, rfl⟩
    rw [← hA] at ab na ⊢
    rw [← hB] at ab2 nb ⊢
    refine ex_skip (show Exec _ _ _ _ _ from ?_)
    refine exd (by rfl) ?_
    refine sw (core_loadP Tryd.isAgg24 Tryd.sizeOf24 (by rfl) (by exact (.cons (.cons .nil))) rfl (L _ rfl)) ⟨rfl, T0⟩ ⟨rfl, T0⟩ ?_
    refine sw (core_call (E := E) hG hX Tryd.call30 rfl hN ab (L _ rfl)) ⟨rfl, T0⟩ T0 ?_
    refine sw (core_loadP Tryd.isAgg24 Tryd.sizeOf24 (by rfl) (by exact (.cons (.cons .nil))) rfl (L _ rfl)) ⟨rfl, T0⟩ ⟨rfl, T0⟩ ?_
    refine sw (core_call (E := E) hG hX Tryd.call30 rfl hN ab2 (L _ rfl)) ⟨rfl, T0⟩ T0 ?_
    refine swb (core_alloc (k := 5) (n := 2) Tryd.zeroValue24 (.cons rfl (.cons rfl .nil)) rfl (P0 _ rfl) (L _ rfl)) trivial trivial ⟨rfl, rfl⟩ ?_
    refine swb (core_alloc (k := 6) (n := 2) Tryd.zeroValue24 (.cons rfl (.cons rfl .nil)) rfl (P0 _ rfl) (L _ rfl)) trivial trivial ⟨rfl, rfl⟩ ?_
    refine sb (core_storeM Tryd.sizeOf24 (by rfl) (.pagg (.cons (.cons .nil))) rfl (.put (.put .here))) ⟨rfl, rfl, T0⟩ ⟨rfl, T0⟩ ?_
    refine sb (core_storeM Tryd.sizeOf24 (by rfl) (.pagg (.cons (.cons .nil))) rfl (.put (.put .here))) ⟨rfl, rfl, T0⟩ ⟨rfl, T0⟩ ?_
    refine seq_nil ⟨aok rfl rfl, [(4, _), (5, _), (6, _)], [(4, _), (5, _), (6, _)], ⟨rfl, rfl, rfl, T0⟩, ⟨rfl, rfl, rfl, T0⟩, ?_⟩
    refine ex_seq ?_
    refine ex_block ?_
    refine exl (α := (Nat × Nat)) (fun x => []) (fun x => [(5, bI (x.1:Int)), (6, bI (x.2:Int))]) (fun x => Nat.gcd x.1 x.2 = Int.gcd A B ∧ x.1 ≤ max A.natAbs B.natAbs ∧ x.2 ≤ max A.natAbs B.natAbs) (fun x => x.2) ((A.natAbs, B.natAbs)) (sl := [(4, _), (5, _), (6, _)]) (hb := [(4, _)]) ?_ ⟨rfl, rfl, rfl, T0⟩ ⟨rfl, rfl, rfl, T0⟩ ?_
    · exact ⟨rfl, Nat.le_max_left _ _, Nat.le_max_right _ _⟩
    intro x hx
    obtain ⟨x, y⟩ := x
    obtain ⟨hg, hx, hy⟩ := hx
    simp only at hg hx hy
    dsimp only
    have hnx : nw (x : Int) < 999999 := by
      rcases (show x ≤ A.natAbs ∨ x ≤ B.natAbs by omega) with c | c
      · have := nw_mono (a := (x : Int)) (b := A) (by simpa using c); omega
      · have := nw_mono (a := (x : Int)) (b := B) (by simpa using c); omega
    have hny : nw (y : Int) < 999999 := by
      rcases (show y ≤ A.natAbs ∨ y ≤ B.natAbs by omega) with c | c
      · have := nw_mono (a := (y : Int)) (b := A) (by simpa using c); omega
      · have := nw_mono (a := (y : Int)) (b := B) (by simpa using c); omega
    refine ex_seq ?_
    refine exr ?_
    refine sw (core_fieldAddr Tryd.underlying24 rfl Tryd.sizeOf22 (by decide) (by exact rfl) (L _ rfl)) ⟨rfl, T0⟩ ⟨rfl, T0⟩ ?_
    refine sw (core_load1 Tryd.isAgg22 (by rfl) (by rfl) (L _ rfl)) ⟨rfl, T0⟩ ⟨rfl, T0⟩ ?_
    refine sw (core_len Tryd.underlying22 (L _ rfl)) ⟨rfl, T0⟩ T0 ?_
    refine sw (core_gtr (L _ rfl)) ⟨rfl, rfl, T0⟩ T0 ?_
    refine seq_nil ⟨[(4, _), (5, _), (6, _), (27, _)], [(4, _), (5, _), (6, _)], ⟨rfl, rfl, rfl, rfl, T0⟩, ⟨rfl, rfl, rfl, T0⟩, ?_⟩
    refine ex_if rfl (fun he => ?_) (fun he => ?_)
    · have he := dt he
      have hyp : 0 < y := by
        by_cases c : y = 0
        · subst c; simp [digs_zero] at he
        · omega
      refine ex_skip (show Exec _ _ _ _ _ from ?_)
      refine ex_block ?_
      refine exr ?_
      refine sw (core_loadP Tryd.isAgg24 Tryd.sizeOf24 (by rfl) (by exact (.cons (.cons .nil))) rfl (L _ rfl)) ⟨rfl, T0⟩ ⟨rfl, T0⟩ ?_
      refine sw (core_call (E := E) hG hX Tryd.call65 rfl hN (rnatZ x (by omega)) (L _ rfl)) ⟨rfl, T0⟩ T0 ?_
      refine sw (core_move (L _ rfl)) ⟨rfl, T0⟩ T0 ?_
      refine sw (core_extract rfl (L _ rfl)) ⟨rfl, T0⟩ T0 ?_
      refine sw (core_extract rfl (L _ rfl)) ⟨rfl, T0⟩ T0 ?_
      refine sw (core_assign (L _ rfl)) ⟨rfl, T0⟩ T0 ?_
      refine sw (core_assign (L _ rfl)) ⟨rfl, T0⟩ T0 ?_
      refine seq_nil ⟨[(4, _), (5, _), (6, _), (7, _), (8, _)], [(4, _), (5, _), (6, _)], ⟨rfl, rfl, rfl, rfl, rfl, T0⟩, ⟨rfl, rfl, rfl, T0⟩, ?_⟩
      refine exr ?_
      refine sw (core_loadP Tryd.isAgg24 Tryd.sizeOf24 (by rfl) (by exact (.cons (.cons .nil))) rfl (L _ rfl)) ⟨rfl, T0⟩ ⟨rfl, T0⟩ ?_
      refine sw (core_call (E := E) hG hX Tryd.call65 rfl hN (rnatZ y (by omega)) (L _ rfl)) ⟨rfl, T0⟩ T0 ?_
      refine sw (core_move (L _ rfl)) ⟨rfl, T0⟩ T0 ?_
      refine sw (core_extract rfl (L _ rfl)) ⟨rfl, T0⟩ T0 ?_
      refine sw (core_extract rfl (L _ rfl)) ⟨rfl, T0⟩ T0 ?_
      refine sw (core_assign (L _ rfl)) ⟨rfl, T0⟩ T0 ?_
      refine sw (core_assign (L _ rfl)) ⟨rfl, T0⟩ T0 ?_
      refine seq_nil ⟨[(4, _), (5, _), (6, _), (7, _), (8, _), (9, _), (10, _)], [(4, _), (5, _), (6, _)], ⟨rfl, rfl, rfl, rfl, rfl, rfl, rfl, T0⟩, ⟨rfl, rfl, rfl, T0⟩, ?_⟩
      refine ex_seq ?_
      refine exm (sl := [(41, vb (decide (x < 4611686018427387904 ∧ y < 4611686018427387904)))]) (sl0 := [(4, _), (5, _), (6, _), (7, _), (9, _)]) (hb := []) (hb0 := [(4, _), (5, _), (6, _)]) ⟨rfl, rfl, rfl, rfl, rfl, T0⟩ ⟨rfl, rfl, rfl, T0⟩ ?_ ?_
      · by_cases hs : x < 4611686018427387904
        · refine sw (core_move (L _ rfl)) ⟨rfl, T0⟩ T0 ?_
          refine sw (core_move (L _ rfl)) ⟨rfl, T0⟩ T0 ?_
          refine swg (g := 39) rfl (decide_eq_true hs) (core_move (L _ rfl)) rfl ⟨rfl, T0⟩ T0 ?_
          refine sw (core_pick_t (decide_eq_true hs) (L _ rfl)) ⟨rfl, rfl, T0⟩ T0 ?_
          exact seq_nil ⟨⟨ob rfl (dec_eq ⟨fun c => ⟨hs, c⟩, fun c => c.2⟩), rfl, rfl, rfl, rfl, rfl, T0⟩, ⟨rfl, rfl, rfl, T0⟩⟩
        · refine sw (core_move (L _ rfl)) ⟨rfl, T0⟩ T0 ?_
          refine sw (core_move (L _ rfl)) ⟨rfl, T0⟩ T0 ?_
          refine swn (g := 39) rfl (decide_eq_false hs) (L _ rfl) rfl ?_
          refine sw (core_pick_f (decide_eq_false hs) (L _ rfl)) ⟨rfl, rfl, T0⟩ T0 ?_
          exact seq_nil ⟨⟨ob rfl (decide_eq_false (fun c => hs c.1)).symm, rfl, rfl, rfl, rfl, rfl, T0⟩, ⟨rfl, rfl, rfl, T0⟩⟩
      refine ex_if rfl (fun hs => ?_) (fun hs => ?_)
      · have hs := dt hs
        rw [if_pos hs.1, if_pos hs.2]
        refine ex_seq ?_
        refine ex_block ?_
        refine exl (α := (Nat × Nat)) (fun z => [(7, vi (z.1:Int)), (9, vi (z.2:Int))]) (fun z => []) (fun z => Nat.gcd z.1 z.2 = Int.gcd A B ∧ z.1 < 4611686018427387904 ∧ z.2 < 4611686018427387904) (fun z => z.2) ((x, y)) (sl := [(4, _)]) (hb := [(4, _)]) ?_ ⟨(by first | exact rfl | exact oi (by omega) rfl), (by first | exact rfl | exact oi (by omega) rfl), rfl, T0⟩ ⟨rfl, T0⟩ ?_
        · exact ⟨hg, by simp only; omega, by simp only; omega⟩
        intro z hz
        obtain ⟨u, v⟩ := z
        obtain ⟨hg2, hu, hv⟩ := hz
        simp only at hg2 hu hv
        dsimp only
        refine ex_seq ?_
        refine exr ?_
        refine sw (core_move (L _ rfl)) ⟨rfl, T0⟩ T0 ?_
        refine sw (core_gtr (L _ rfl)) ⟨rfl, rfl, T0⟩ T0 ?_
        refine seq_nil ⟨[(4, _), (7, _), (9, _), (43, _)], [(4, _)], ⟨rfl, rfl, rfl, rfl, T0⟩, ⟨rfl, T0⟩, ?_⟩
        refine ex_if rfl (fun hf => ?_) (fun hf => ?_)
        · have hf := dt hf
          have hlt := Nat.mod_lt u (show 0 < v by omega)
          refine ex_skip (show Exec _ _ _ _ _ from ?_)
          refine ex_block ?_
          refine exd0 (by rfl) ?_
          refine sw (core_move (L _ rfl)) ⟨rfl, T0⟩ T0 ?_
          refine sw (core_move (L _ rfl)) ⟨rfl, T0⟩ T0 ?_
          refine sw (core_move (L _ rfl)) ⟨rfl, T0⟩ T0 ?_
          refine sw (core_rem (L _ rfl) (by omega) (show _ = ((u % v : Nat) : Int) by rw [Int.tmod_eq_emod_of_nonneg (by omega)]; rfl)) ⟨rfl, rfl, T0⟩ T0 ?_
          refine sw (core_assign (L _ rfl)) ⟨rfl, T0⟩ T0 ?_
          refine sw (core_assign (L _ rfl)) ⟨rfl, T0⟩ T0 ?_
          refine seq_nil ⟨aoks [⟨[9], [], [44], []⟩, ⟨[7], [], [45], []⟩, ⟨[9], [], [46], []⟩, ⟨[45, 46], [], [47], []⟩, ⟨[44], [], [7], []⟩, ⟨[47], [], [9], []⟩] (by rfl) (by rfl) (by decide), ?_⟩
          exact ⟨(v, u % v), ⟨by rw [← gcd_step]; exact hg2, hv, by simp only; omega⟩, (by simp only; omega), le_of ⟨(by first | exact rfl | exact oi (by omega) rfl), (by first | exact rfl | exact oi (by omega) rfl), rfl, T0⟩ ⟨rfl, T0⟩⟩
        · have hf := df hf
          have hv0 : v = 0 := by omega
          subst hv0
          rw [Nat.gcd_zero_right] at hg2
          subst hg2
          refine ex_exit (show Exec _ _ _ _ _ from ?_)
          refine exr ?_
          refine sw (core_move (L _ rfl)) ⟨rfl, T0⟩ T0 ?_
          refine sw (core_call (E := E) hG hX Tryd.call20 rfl hN (rof_says (Int.gcd A B : Nat) (by omega) (by omega)) (L _ rfl)) ⟨rfl, T0⟩ T0 ?_
          refine sb (core_storeM Tryd.sizeOf24 (by rfl) (.pagg (.cons (.cons .nil))) rfl (.put (.put .here))) ⟨rfl, rfl, T0⟩ ⟨rfl, T0⟩ ?_
          refine seq_nil ⟨[(4, _)], [(4, _)], ⟨rfl, T0⟩, ⟨rfl, T0⟩, ?_⟩
          refine ex_ret ?_
          refine ⟨.inr rfl, ResVs.cast (.cons (.agg rfl rfl rfl Tryd.isAgg24 Tryd.sizeOf24 (.cons (.cons .nil))) .nil) ?_⟩
          rfl
      · have hs := df hs
        have hml := Nat.mod_lt x hyp
        refine ex_skip (show Exec _ _ _ _ _ from ?_)
        refine exd0 (by rfl) ?_
        refine sw (core_loadP Tryd.isAgg24 Tryd.sizeOf24 (by rfl) (by exact (.cons (.cons .nil))) rfl (L _ rfl)) ⟨rfl, T0⟩ ⟨rfl, T0⟩ ?_
        refine sw (core_loadP Tryd.isAgg24 Tryd.sizeOf24 (by rfl) (by exact (.cons (.cons .nil))) rfl (L _ rfl)) ⟨rfl, T0⟩ ⟨rfl, T0⟩ ?_
        refine sw (core_loadP Tryd.isAgg24 Tryd.sizeOf24 (by rfl) (by exact (.cons (.cons .nil))) rfl (L _ rfl)) ⟨rfl, T0⟩ ⟨rfl, T0⟩ ?_
        refine sw (core_call (E := E) hG hX Tryd.call69 rfl hN (rmodZ (x : Int) (y : Int) (by omega) (by omega) (by omega)) (L _ rfl)) ⟨rfl, rfl, T0⟩ T0 ?_
        refine sb (core_storeM Tryd.sizeOf24 (by rfl) (.pagg (.cons (.cons .nil))) rfl (.put (.put .here))) ⟨rfl, rfl, T0⟩ ⟨rfl, T0⟩ ?_
        refine sb (core_storeM Tryd.sizeOf24 (by rfl) (.pagg (.cons (.cons .nil))) rfl (.put (.put .here))) ⟨rfl, rfl, T0⟩ ⟨rfl, T0⟩ ?_
        refine seq_nil ⟨aoks [⟨[6], [6], [50], []⟩, ⟨[5], [5], [51], []⟩, ⟨[6], [6], [52], []⟩, ⟨[51, 52], [], [53], []⟩, ⟨[5, 50], [5], [], [5]⟩, ⟨[6, 53], [6], [], [6]⟩] (by rfl) (by rfl) (by decide), ?_⟩
        exact ⟨(y, x % y), ⟨by rw [← gcd_step]; exact hg, hy, by simp only; omega⟩, (by simp only; omega), le_of ⟨rfl, rfl, rfl, T0⟩ ⟨rfl, rfl, rfl, T0⟩⟩
    · have he := df he
      have hy0 : y = 0 := by
        have : (digs (y : Int).natAbs).length = 0 := by omega
        rw [digs_len_zero] at this; omega
      subst hy0
      rw [Nat.gcd_zero_right] at hg
      subst hg
      refine ex_exit (show Exec _ _ _ _ _ from ?_)
      refine exr ?_
      refine sw (core_loadP Tryd.isAgg24 Tryd.sizeOf24 (by rfl) (by exact (.cons (.cons .nil))) rfl (L _ rfl)) ⟨rfl, T0⟩ ⟨rfl, T0⟩ ?_
      refine sb (core_storeM Tryd.sizeOf24 (by rfl) (.pagg (.cons (.cons .nil))) rfl (.put (.put .here))) ⟨rfl, rfl, T0⟩ ⟨rfl, T0⟩ ?_
      refine seq_nil ⟨[(4, _)], [(4, _)], ⟨rfl, T0⟩, ⟨rfl, T0⟩, ?_⟩
      refine ex_ret ?_
      refine ⟨.inr rfl, ResVs.cast (.cons (.agg rfl rfl rfl Tryd.isAgg24 Tryd.sizeOf24 (.cons (.cons .nil))) .nil) ?_⟩
      rfl

theorem rgcdZ (a b : Int) (ha : nw a < 999999) (hb : nw b < 999999) : Says E 42 [pZ a, pZ b] (pZ (Int.gcd a b : Int)) := by
  have := rgcd_says (decide (a < 0)) (decide (b < 0)) (digs a.natAbs) (digs b.natAbs) ha hb (wd_digs _) (wd_digs _)
  rwa [if_pos ⟨canon_digs a, canon_digs b⟩, sg_digs, sg_digs] at this
end Go.Proofs.YtebkelnibecmjaaDoor.N
namespace Go.Proofs.YtebkelnibecmjaaDoor.N
open Go Go.Proofs.YtebkelnibecmjaaDoor.SH Go.Proofs.YtebkelnibecmjaaDoor.NumA
theorem gcd_emod' (a b : Int) : Int.gcd (a % b) b = Int.gcd a b := by
  rw [Int.gcd_comm, Int.gcd_comm a b]
  have h1 := Int.mul_ediv_add_emod a b
  apply Nat.dvd_antisymm
  · apply Int.dvd_gcd
    · exact Int.gcd_dvd_left _ _
    · have d1 : ((Int.gcd b (a % b) : Nat) : Int) ∣ b := Int.gcd_dvd_left _ _
      have d2 : ((Int.gcd b (a % b) : Nat) : Int) ∣ a % b := Int.gcd_dvd_right _ _
      have := Int.dvd_add (Int.dvd_mul_of_dvd_left (c := a / b) d1) d2
      rwa [h1] at this
  · apply Int.dvd_gcd
    · exact Int.gcd_dvd_left _ _
    · have d1 : ((Int.gcd b a : Nat) : Int) ∣ b := Int.gcd_dvd_left _ _
      have d2 : ((Int.gcd b a : Nat) : Int) ∣ a := Int.gcd_dvd_right _ _
      have e : a % b = a - b * (a / b) := by omega
      rw [e]
      exact Int.dvd_sub d2 (Int.dvd_mul_of_dvd_left (c := a / b) d1)
theorem bez_emod {a b u : Int} (h : IsBez (a % b) b u) : IsBez a b u := by
  obtain ⟨h1, h2, h3⟩ := h
  rw [gcd_emod'] at h2 h3
  refine ⟨h1, h2, ?_⟩
  have e : (Int.gcd a b : Int) - u * a = ((Int.gcd a b : Int) - u * (a % b)) - b * (u * (a / b)) := by
    have := Int.mul_ediv_add_emod a b
    generalize a / b = q at *
    generalize a % b = r at *
    subst this
    grind
  rw [e]
  exact Int.dvd_sub h3 (Int.dvd_mul_right _ _)
/-- x, y, s, t of the specification. -/
def RbAt (a b : Int) (x : Nat × Nat × Int × Int) : Prop := BezAt a b (x.2.1, x.1, x.2.2.2, x.2.2.1) ∨ (a = 0 ∧ x.1 = 0 ∧ x.2.1 = b.natAbs ∧ x.2.2.2 = 0 ∧ x.2.2.1 = 1)
theorem RbAt.start {a b : Int} (hb : b ≠ 0) (ha : 0 ≤ a) : RbAt a b (a.natAbs, b.natAbs, 1, 0) := by
  by_cases h : a = 0
  · exact .inr ⟨h, by simp [h], rfl, rfl, rfl⟩
  · left
    have := BezAt.start (a := a) hb
    rwa [Int.sign_eq_one_of_pos (by omega)] at this
theorem RbAt.bd {a b : Int} {x y : Nat} {s t : Int} (hb : b ≠ 0) (h : RbAt a b (x, y, s, t)) : nw s ≤ nw b ∧ nw t ≤ nw b ∧ nw (x : Int) ≤ max (nw a) (nw b) ∧ nw (y : Int) ≤ max (nw a) (nw b) := by
  rcases h with h | ⟨h1, h2, h3, h4, h5⟩
  · have h1 := nw_le_of h.wb
    have h2 := nw_le_of h.ub
    have h3 := nw_max h.xb
    have h4 := nw_max h.yb
    exact ⟨h1, h2, h4, h3⟩
  · simp only at h2 h3 h4 h5
    subst h2 h3 h4 h5
    have z0 : nw (0 : Int) = 0 := nw_zero.2 rfl
    have hb1 : nw (1 : Int) ≤ nw b := nw_mono (by omega)
    have hb2 : nw ((b.natAbs : Nat) : Int) ≤ nw b := nw_mono (by omega)
    refine ⟨hb1, by omega, by simp only [Int.natCast_zero]; omega, by omega⟩
theorem RbAt.end_ {a b : Int} {y : Nat} {s t : Int} (hb : b ≠ 0) (h : RbAt a b (0, y, s, t)) : IsBez a b (t % ((b.natAbs : Int) / (Int.gcd a b : Int))) ∧ (b.natAbs : Int) / (Int.gcd a b : Int) ≠ 0 := by
  rcases h with h | ⟨h1, h2, h3, h4, h5⟩
  · exact (h.end_ hb).2
  · simp only at h2 h3 h4 h5
    subst h1 h4
    rw [Int.gcd_zero_left, Int.ediv_self (by omega), Int.zero_emod]
    refine ⟨⟨Int.le_refl 0, ?_, ?_⟩, by decide⟩
    · rw [Int.gcd_zero_left, Int.ediv_self (by omega)]; decide
    · rw [Int.gcd_zero_left, Int.zero_mul, Int.sub_zero]; exact Int.dvd_natAbs.2 (Int.dvd_refl b)
set_option maxRecDepth 100000 in
set_option maxHeartbeats 4000000 in
theorem rbez_says (m n : Bool) (ws vs : List Int) (hl : ws.length < 99999) (hl2 : vs.length < 99999) (h : Wd ws) (h2 : Wd vs) : Says E 34 [pI m ws, pI n vs] (.tup [pZ (if canon m ws = true ∧ canon n vs = true then (Int.gcd (sg m (val ws)) (sg n (val vs)) : Int) else 0), pZ (if canon m ws = true ∧ canon n vs = true then bU (sg m (val ws)) (sg n (val vs)) else 0), pZ (if canon m ws = true ∧ canon n vs = true then bV (sg m (val ws)) (sg n (val vs)) else 0), vZ (if canon m ws = true ∧ canon n vs = true then 0 else 3)]) := by
  refine says_of (xs := [pZ (if canon m ws = true ∧ canon n vs = true then (Int.gcd (sg m (val ws)) (sg n (val vs)) : Int) else 0), pZ (if canon m ws = true ∧ canon n vs = true then bU (sg m (val ws)) (sg n (val vs)) else 0), pZ (if canon m ws = true ∧ canon n vs = true then bV (sg m (val ws)) (sg n (val vs)) else 0), vZ (if canon m ws = true ∧ canon n vs = true then 0 else 3)]) Tryd.func34 rfl Tryd.ntmps34 Tryd.results34 (by simp) fun F hG hX0 hnt hdf P0 => ?_
  have L := ltn hnt
  have hX : ∀ b, F.X b → E.ng ≤ b := fun b h => absurd h (hX0 b)
  have hN := ng_le hG
  refine exr ?_
  refine swb (core_box (k := 2) (n := 2) (.pagg (.cons (.cons .nil))) rfl rfl (P0 _ rfl) (L _ rfl)) ⟨rfl, T0⟩ T0 ⟨rfl, rfl⟩ ?_
  refine swb (core_box (k := 3) (n := 2) (.pagg (.cons (.cons .nil))) rfl rfl (P0 _ rfl) (L _ rfl)) ⟨rfl, T0⟩ T0 ⟨rfl, rfl⟩ ?_
  refine swb (core_alloc (k := 4) (n := 2) Tryd.zeroValue24 (.cons rfl (.cons rfl .nil)) rfl (P0 _ rfl) (L _ rfl)) trivial trivial ⟨rfl, rfl⟩ ?_
  refine swb (core_alloc (k := 5) (n := 2) Tryd.zeroValue24 (.cons rfl (.cons rfl .nil)) rfl (P0 _ rfl) (L _ rfl)) trivial trivial ⟨rfl, rfl⟩ ?_
  refine swb (core_alloc (k := 6) (n := 2) Tryd.zeroValue24 (.cons rfl (.cons rfl .nil)) rfl (P0 _ rfl) (L _ rfl)) trivial trivial ⟨rfl, rfl⟩ ?_
  refine sw (core_assign (L _ rfl)) ⟨rfl, T0⟩ T0 ?_
  refine seq_nil ⟨[(2, _), (3, _), (4, _), (5, _), (6, _)], [(2, _), (3, _), (4, _), (5, _), (6, _)], ⟨rfl, rfl, rfl, rfl, rfl, T0⟩, ⟨rfl, rfl, rfl, rfl, rfl, T0⟩, ?_⟩
  refine ex_seq ?_
  refine exm (sl := [(22, vb (decide (¬ (canon m ws = true ∧ canon n vs = true))))]) (sl0 := [(2, _), (3, _), (4, _), (5, _), (6, _)]) (hb := []) (hb0 := [(2, _), (3, _), (4, _), (5, _), (6, _)]) ⟨rfl, rfl, rfl, rfl, rfl, T0⟩ ⟨rfl, rfl, rfl, rfl, rfl, T0⟩ ?_ ?_
  · by_cases hca : canon m ws = true
    · refine sw (core_loadP Tryd.isAgg24 Tryd.sizeOf24 (by rfl) (by exact (.cons (.cons .nil))) rfl (L _ rfl)) ⟨rfl, T0⟩ ⟨rfl, T0⟩ ?_
      refine sw (core_call (E := E) hG hX Tryd.call17 rfl hN (ris_says m ws (by omega)) (L _ rfl)) ⟨rfl, T0⟩ T0 ?_
      refine sw (core_not (L _ rfl)) ⟨rfl, T0⟩ T0 ?_
      refine sw (core_move (L _ rfl)) ⟨rfl, T0⟩ T0 ?_
      refine swg (g := 18) rfl (by simp [hca]) (core_loadP Tryd.isAgg24 Tryd.sizeOf24 (by rfl) (by exact (.cons (.cons .nil))) rfl (L _ rfl)) rfl ⟨rfl, T0⟩ ⟨rfl, T0⟩ ?_
      refine swg (g := 18) rfl (by simp [hca]) (core_call (E := E) hG hX Tryd.call17 rfl hN (ris_says n vs (by omega)) (L _ rfl)) rfl ⟨rfl, T0⟩ T0 ?_
      refine swg (g := 18) rfl (by simp [hca]) (core_not (L _ rfl)) rfl ⟨rfl, T0⟩ T0 ?_
      refine sw (core_pick_f (by simp [hca]) (L _ rfl)) ⟨rfl, rfl, T0⟩ T0 ?_
      exact seq_nil ⟨⟨ob rfl (by simp [hca]), rfl, rfl, rfl, rfl, rfl, T0⟩, ⟨rfl, rfl, rfl, rfl, rfl, T0⟩⟩
    · refine sw (core_loadP Tryd.isAgg24 Tryd.sizeOf24 (by rfl) (by exact (.cons (.cons .nil))) rfl (L _ rfl)) ⟨rfl, T0⟩ ⟨rfl, T0⟩ ?_
      refine sw (core_call (E := E) hG hX Tryd.call17 rfl hN (ris_says m ws (by omega)) (L _ rfl)) ⟨rfl, T0⟩ T0 ?_
      refine sw (core_not (L _ rfl)) ⟨rfl, T0⟩ T0 ?_
      refine sw (core_move (L _ rfl)) ⟨rfl, T0⟩ T0 ?_
      refine swn (g := 18) rfl (by simp [hca]) (L _ rfl) rfl ?_
      refine swn (g := 18) rfl (by simp [hca]) (L _ rfl) rfl ?_
      refine swn (g := 18) rfl (by simp [hca]) (L _ rfl) rfl ?_
      refine sw (core_pick_t (by simp [hca]) (L _ rfl)) ⟨rfl, rfl, T0⟩ T0 ?_
      exact seq_nil ⟨⟨ob rfl (by simp [hca]), rfl, rfl, rfl, rfl, rfl, T0⟩, ⟨rfl, rfl, rfl, rfl, rfl, T0⟩⟩
  refine ex_if rfl (fun hc => ?_) (fun hc => ?_)
  · have hc := dt hc
    refine exd (by rfl) ?_
    refine sw (core_pc (core_loadP Tryd.isAgg24 Tryd.sizeOf24 (by rfl) (by exact (.cons (.cons .nil))) rfl (L _ rfl)) (.agg (.cons .same (.cons .nil .nil)))) ⟨rfl, T0⟩ ⟨rfl, T0⟩ ?_
    refine sw (core_pc (core_loadP Tryd.isAgg24 Tryd.sizeOf24 (by rfl) (by exact (.cons (.cons .nil))) rfl (L _ rfl)) (.agg (.cons .same (.cons .nil .nil)))) ⟨rfl, T0⟩ ⟨rfl, T0⟩ ?_
    refine sw (core_pc (core_loadP Tryd.isAgg24 Tryd.sizeOf24 (by rfl) (by exact (.cons (.cons .nil))) rfl (L _ rfl)) (.agg (.cons .same (.cons .nil .nil)))) ⟨rfl, T0⟩ ⟨rfl, T0⟩ ?_
    refine sb (core_storeM Tryd.sizeOf24 (by rfl) (.pagg (.cons (.cons .nil))) rfl (.put (.put .here))) ⟨rfl, rfl, T0⟩ ⟨rfl, T0⟩ ?_
    refine sb (core_storeM Tryd.sizeOf24 (by rfl) (.pagg (.cons (.cons .nil))) rfl (.put (.put .here))) ⟨rfl, rfl, T0⟩ ⟨rfl, T0⟩ ?_
    refine sb (core_storeM Tryd.sizeOf24 (by rfl) (.pagg (.cons (.cons .nil))) rfl (.put (.put .here))) ⟨rfl, rfl, T0⟩ ⟨rfl, T0⟩ ?_
    refine sw (core_assign (L _ rfl)) ⟨rfl, T0⟩ T0 ?_
    refine seq_nil ⟨aoks [⟨[4], [4], [23], []⟩, ⟨[5], [5], [24], []⟩, ⟨[6], [6], [25], []⟩, ⟨[4, 23], [4], [], [4]⟩, ⟨[5, 24], [5], [], [5]⟩, ⟨[6, 25], [6], [], [6]⟩, ⟨[], [], [7], []⟩] (by rfl) (by rfl) (by decide), [(4, _), (5, _), (6, _), (7, _)], [(4, _), (5, _), (6, _)], ⟨rfl, rfl, rfl, rfl, T0⟩, ⟨rfl, rfl, rfl, T0⟩, ?_⟩
    refine ex_ret ?_
    refine ⟨.inr rfl, ResVs.cast (.cons (.agg rfl rfl rfl Tryd.isAgg24 Tryd.sizeOf24 (.cons (.cons .nil))) (.cons (.agg rfl rfl rfl Tryd.isAgg24 Tryd.sizeOf24 (.cons (.cons .nil))) (.cons (.agg rfl rfl rfl Tryd.isAgg24 Tryd.sizeOf24 (.cons (.cons .nil))) (.cons (.tmp rfl) .nil)))) ?_⟩
    rw [if_neg hc, if_neg hc, if_neg hc, if_neg hc, pZ_zero]; rfl
  · have hc := Decidable.not_not.1 (df hc)
    have na := nw_val (m := m) h
    have nb := nw_val (m := n) h2
    rw [if_pos hc, if_pos hc, if_pos hc, if_pos hc]
    rw [bI_eq h hc.1, bI_eq h2 hc.2]
    obtain ⟨A, hA⟩ : ∃ A, A = sg m (val ws) := ⟨_, rfl⟩
    obtain ⟨B, hB⟩ : ∃ B, B = sg n (val vs) := ⟨_, rfl⟩
    rw [← hA, ← hB]
    rw [← hA] at na
    rw [← hB] at nb
    have hgn : nw (Int.gcd A B : Int) ≤ max (nw A) (nw B) := nw_max (by
      by_cases e : B = 0
      · subst e; rw [Int.gcd_zero_right]; omega
      · have := Nat.le_of_dvd (by omega) (Nat.gcd_dvd_right A.natAbs B.natAbs); have : Int.gcd A B ≤ B.natAbs := this; omega)
    refine ex_skip (show Exec _ _ _ _ _ from ?_)
    refine exr ?_
    refine sw (core_loadP Tryd.isAgg24 Tryd.sizeOf24 (by rfl) (by exact (.cons (.cons .nil))) rfl (L _ rfl)) ⟨rfl, T0⟩ ⟨rfl, T0⟩ ?_
    refine sw (core_loadP Tryd.isAgg24 Tryd.sizeOf24 (by rfl) (by exact (.cons (.cons .nil))) rfl (L _ rfl)) ⟨rfl, T0⟩ ⟨rfl, T0⟩ ?_
    refine sw (core_call (E := E) hG hX Tryd.call42 rfl hN (rgcdZ A B (by omega) (by omega)) (L _ rfl)) ⟨rfl, rfl, T0⟩ T0 ?_
    refine sb (core_storeM Tryd.sizeOf24 (by rfl) (.pagg (.cons (.cons .nil))) rfl (.put (.put .here))) ⟨rfl, rfl, T0⟩ ⟨rfl, T0⟩ ?_
    refine seq_nil ⟨[(2, _), (3, _), (4, _), (5, _), (6, _)], [(2, _), (3, _), (4, _), (5, _), (6, _)], ⟨rfl, rfl, rfl, rfl, rfl, T0⟩, ⟨rfl, rfl, rfl, rfl, rfl, T0⟩, ?_⟩
    refine ex_seq ?_
    refine exr ?_
    refine sw (core_fieldAddr Tryd.underlying24 rfl Tryd.sizeOf22 (by decide) (by exact rfl) (L _ rfl)) ⟨rfl, T0⟩ ⟨rfl, T0⟩ ?_
    refine sw (core_load1 Tryd.isAgg22 (by rfl) (by rfl) (L _ rfl)) ⟨rfl, T0⟩ ⟨rfl, T0⟩ ?_
    refine sw (core_len Tryd.underlying22 (L _ rfl)) ⟨rfl, T0⟩ T0 ?_
    refine sw (core_eql (L _ rfl)) ⟨rfl, rfl, T0⟩ T0 ?_
    refine seq_nil ⟨[(2, _), (3, _), (4, _), (5, _), (6, _), (32, _)], [(2, _), (3, _), (4, _), (5, _), (6, _)], ⟨rfl, rfl, rfl, rfl, rfl, rfl, T0⟩, ⟨rfl, rfl, rfl, rfl, rfl, T0⟩, ?_⟩
    refine ex_if rfl (fun hz => ?_) (fun hz => ?_)
    · have hz := dt hz
      have hB0 : B = 0 := by
        have : nw B = 0 := by unfold nw; omega
        exact nw_zero.1 this
      have s3 := sign3 A
      refine exd (by rfl) ?_
      refine sw (core_loadP Tryd.isAgg24 Tryd.sizeOf24 (by rfl) (by exact (.cons (.cons .nil))) rfl (L _ rfl)) ⟨rfl, T0⟩ ⟨rfl, T0⟩ ?_
      refine sw (core_loadP Tryd.isAgg24 Tryd.sizeOf24 (by rfl) (by exact (.cons (.cons .nil))) rfl (L _ rfl)) ⟨rfl, T0⟩ ⟨rfl, T0⟩ ?_
      refine sw (core_call (E := E) hG hX Tryd.call24 rfl hN (rsignZ A (by omega)) (L _ rfl)) ⟨rfl, T0⟩ T0 ?_
      refine sw (core_call (E := E) hG hX Tryd.call20 rfl hN (rof_says A.sign (by omega) (by omega)) (L _ rfl)) ⟨rfl, T0⟩ T0 ?_
      refine sw (core_pc (core_buildP (vs := []) Tryd.underlying24 Tryd.zeroValue24 (.cons rfl (.cons rfl .nil)) ((Places.cons Tryd.sizeOf4 (Places.cons Tryd.sizeOf22 Places.nil))).to rfl .nil (.cons (.cons .nil)) (L _ rfl)) (.agg (.cons .same (.cons .nil .nil)))) T0 T0 ?_
      refine sb (core_storeM Tryd.sizeOf24 (by rfl) (.pagg (.cons (.cons .nil))) rfl (.put (.put .here))) ⟨rfl, rfl, T0⟩ ⟨rfl, T0⟩ ?_
      refine sb (core_storeM Tryd.sizeOf24 (by rfl) (.pagg (.cons (.cons .nil))) rfl (.put (.put .here))) ⟨rfl, rfl, T0⟩ ⟨rfl, T0⟩ ?_
      refine sb (core_storeM Tryd.sizeOf24 (by rfl) (.pagg (.cons (.cons .nil))) rfl (.put (.put .here))) ⟨rfl, rfl, T0⟩ ⟨rfl, T0⟩ ?_
      refine sw (core_assign (L _ rfl)) ⟨rfl, T0⟩ T0 ?_
      refine seq_nil ⟨aoks [⟨[4], [4], [33], []⟩, ⟨[2], [2], [34], []⟩, ⟨[34], [], [35], []⟩, ⟨[35], [], [36], []⟩, ⟨[], [], [37], []⟩, ⟨[4, 33], [4], [], [4]⟩, ⟨[5, 36], [5], [], [5]⟩, ⟨[6, 37], [6], [], [6]⟩, ⟨[], [], [7], []⟩] (by rfl) (by rfl) (by decide), [(4, _), (5, _), (6, _), (7, _)], [(4, _), (5, _), (6, _)], ⟨rfl, rfl, rfl, rfl, T0⟩, ⟨rfl, rfl, rfl, T0⟩, ?_⟩
      refine ex_ret ?_
      refine ⟨.inr rfl, ResVs.cast (.cons (.agg rfl rfl rfl Tryd.isAgg24 Tryd.sizeOf24 (.cons (.cons .nil))) (.cons (.agg rfl rfl rfl Tryd.isAgg24 Tryd.sizeOf24 (.cons (.cons .nil))) (.cons (.agg rfl rfl rfl Tryd.isAgg24 Tryd.sizeOf24 (.cons (.cons .nil))) (.cons (.tmp rfl) .nil)))) ?_⟩
      rw [bU, bV, if_pos hB0, if_pos hB0, pZ_zero]; rfl
    · have hz := df hz
      have hB0 : B ≠ 0 := by
        intro e
        subst e
        simp [digs_zero] at hz
      have m0 := Int.emod_nonneg A hB0
      have mn := nw_emod (a := A) hB0
      have hmn : ((A % B).natAbs : Int) = A % B := by omega
      refine ex_skip (show Exec _ _ _ _ _ from ?_)
      refine exd (by rfl) ?_
      refine sw (core_loadP Tryd.isAgg24 Tryd.sizeOf24 (by rfl) (by exact (.cons (.cons .nil))) rfl (L _ rfl)) ⟨rfl, T0⟩ ⟨rfl, T0⟩ ?_
      refine sw (core_loadP Tryd.isAgg24 Tryd.sizeOf24 (by rfl) (by exact (.cons (.cons .nil))) rfl (L _ rfl)) ⟨rfl, T0⟩ ⟨rfl, T0⟩ ?_
      refine sw (core_call (E := E) hG hX Tryd.call69 rfl hN (rmodZ A B (by omega) (by omega) hB0) (L _ rfl)) ⟨rfl, rfl, T0⟩ T0 ?_
      refine sw (core_loadP Tryd.isAgg24 Tryd.sizeOf24 (by rfl) (by exact (.cons (.cons .nil))) rfl (L _ rfl)) ⟨rfl, T0⟩ ⟨rfl, T0⟩ ?_
      refine sw (core_call (E := E) hG hX Tryd.call30 rfl hN (rabsZ B (by omega)) (L _ rfl)) ⟨rfl, T0⟩ T0 ?_
      refine swb (core_alloc (k := 8) (n := 2) Tryd.zeroValue24 (.cons rfl (.cons rfl .nil)) rfl (P0 _ rfl) (L _ rfl)) trivial trivial ⟨rfl, rfl⟩ ?_
      refine swb (core_alloc (k := 9) (n := 2) Tryd.zeroValue24 (.cons rfl (.cons rfl .nil)) rfl (P0 _ rfl) (L _ rfl)) trivial trivial ⟨rfl, rfl⟩ ?_
      refine sb (core_storeM Tryd.sizeOf24 (by rfl) (.pagg (.cons (.cons .nil))) rfl (.put (.put .here))) ⟨rfl, rfl, T0⟩ ⟨rfl, T0⟩ ?_
      refine sb (core_storeM Tryd.sizeOf24 (by rfl) (.pagg (.cons (.cons .nil))) rfl (.put (.put .here))) ⟨rfl, rfl, T0⟩ ⟨rfl, T0⟩ ?_
      refine seq_nil ⟨aok rfl rfl, [(2, _), (3, _), (4, _), (5, _), (6, _), (8, _), (9, _)], [(2, _), (3, _), (4, _), (5, _), (6, _), (8, _), (9, _)], ⟨rfl, rfl, rfl, rfl, rfl, rfl, rfl, T0⟩, ⟨rfl, rfl, rfl, rfl, rfl, rfl, rfl, T0⟩, ?_⟩
      refine exr ?_
      refine sw (core_call (E := E) hG hX Tryd.call20 rfl hN (rof_says 1 (by decide) (by decide)) (L _ rfl)) ⟨rfl, T0⟩ T0 ?_
      refine sw (core_pc (core_buildP (vs := []) Tryd.underlying24 Tryd.zeroValue24 (.cons rfl (.cons rfl .nil)) ((Places.cons Tryd.sizeOf4 (Places.cons Tryd.sizeOf22 Places.nil))).to rfl .nil (.cons (.cons .nil)) (L _ rfl)) (.agg (.cons .same (.cons .nil .nil)))) T0 T0 ?_
      refine swb (core_alloc (k := 10) (n := 2) Tryd.zeroValue24 (.cons rfl (.cons rfl .nil)) rfl (P0 _ rfl) (L _ rfl)) trivial trivial ⟨rfl, rfl⟩ ?_
      refine swb (core_alloc (k := 11) (n := 2) Tryd.zeroValue24 (.cons rfl (.cons rfl .nil)) rfl (P0 _ rfl) (L _ rfl)) trivial trivial ⟨rfl, rfl⟩ ?_
      refine sb (core_storeM Tryd.sizeOf24 (by rfl) (.pagg (.cons (.cons .nil))) rfl (.put (.put .here))) ⟨rfl, rfl, T0⟩ ⟨rfl, T0⟩ ?_
      refine sb (core_storeM Tryd.sizeOf24 (by rfl) (.pagg (.cons (.cons .nil))) rfl (.put (.put .here))) ⟨rfl, rfl, T0⟩ ⟨rfl, T0⟩ ?_
      refine seq_nil ⟨[(2, _), (3, _), (4, _), (5, _), (6, _), (8, _), (9, _), (10, _), (11, _)], [(2, _), (3, _), (4, _), (5, _), (6, _), (8, _), (9, _), (10, _), (11, _)], ⟨rfl, rfl, rfl, rfl, rfl, rfl, rfl, rfl, rfl, T0⟩, ⟨rfl, rfl, rfl, rfl, rfl, rfl, rfl, rfl, rfl, T0⟩, ?_⟩
      refine ex_seq ?_
      refine ex_block ?_
      refine exl (α := (Nat × Nat × Int × Int)) (fun x => []) (fun x => [(8, bI (x.1:Int)), (9, bI (x.2.1:Int)), (10, bI x.2.2.1), (11, bI x.2.2.2)]) (fun x => RbAt (A % B) B x) (fun x => x.1) (((A % B).natAbs, B.natAbs, 1, 0)) (sl := [(2, _), (3, _), (4, _), (5, _), (6, _), (8, _), (9, _), (10, _), (11, _)]) (hb := [(2, _), (3, _), (4, _), (5, _), (6, _)]) ?_ ⟨rfl, rfl, rfl, rfl, rfl, rfl, rfl, rfl, rfl, T0⟩ ⟨obl rfl (by rw [hmn]), rfl, rfl, obl rfl bI_zero.symm, rfl, rfl, rfl, rfl, rfl, T0⟩ ?_
      · exact RbAt.start hB0 m0
      intro x hx
      obtain ⟨x, y, s, t⟩ := x
      dsimp only
      obtain ⟨n1, n2, n3, n4⟩ := hx.bd hB0
      refine ex_seq ?_
      refine exr ?_
      refine sw (core_fieldAddr Tryd.underlying24 rfl Tryd.sizeOf22 (by decide) (by exact rfl) (L _ rfl)) ⟨rfl, T0⟩ ⟨rfl, T0⟩ ?_
      refine sw (core_load1 Tryd.isAgg22 (by rfl) (by rfl) (L _ rfl)) ⟨rfl, T0⟩ ⟨rfl, T0⟩ ?_
      refine sw (core_len Tryd.underlying22 (L _ rfl)) ⟨rfl, T0⟩ T0 ?_
      refine sw (core_gtr (L _ rfl)) ⟨rfl, rfl, T0⟩ T0 ?_
      refine seq_nil ⟨[(2, _), (3, _), (4, _), (5, _), (6, _), (8, _), (9, _), (10, _), (11, _), (48, _)], [(2, _), (3, _), (4, _), (5, _), (6, _), (8, _), (9, _), (10, _), (11, _)], ⟨rfl, rfl, rfl, rfl, rfl, rfl, rfl, rfl, rfl, rfl, T0⟩, ⟨rfl, rfl, rfl, rfl, rfl, rfl, rfl, rfl, rfl, T0⟩, ?_⟩
      refine ex_if rfl (fun he => ?_) (fun he => ?_)
      · have he := dt he
        have hxp : 0 < x := by
          by_cases c : x = 0
          · subst c; simp [digs_zero] at he
          · omega
        have hbz : BezAt (A % B) B (y, x, t, s) := by
          rcases hx with h | ⟨-, h2, -⟩
          · exact h
          · simp only at h2; omega
        obtain ⟨k1, k2⟩ := hbz.next hxp
        have k3 := nw_le_of k2
        have hml := Nat.mod_lt y hxp
        have hqn : nw ((y / x : Nat) : Int) ≤ nw (y : Int) := nw_mono (by rw [Int.natAbs_natCast, Int.natAbs_natCast]; exact Nat.div_le_self y x)
        have hrn : nw ((y % x : Nat) : Int) ≤ nw (y : Int) := nw_mono (by rw [Int.natAbs_natCast, Int.natAbs_natCast]; exact Nat.mod_le y x)
        refine ex_skip (show Exec _ _ _ _ _ from ?_)
        refine ex_block ?_
        refine exr ?_
        refine sw (core_loadP Tryd.isAgg24 Tryd.sizeOf24 (by rfl) (by exact (.cons (.cons .nil))) rfl (L _ rfl)) ⟨rfl, T0⟩ ⟨rfl, T0⟩ ?_
        refine sw (core_loadP Tryd.isAgg24 Tryd.sizeOf24 (by rfl) (by exact (.cons (.cons .nil))) rfl (L _ rfl)) ⟨rfl, T0⟩ ⟨rfl, T0⟩ ?_
        refine sw (core_call (E := E) hG hX Tryd.call32 rfl hN (rdivZ (y : Int) (x : Int) (by omega) (by omega) (by omega)) (L _ rfl)) ⟨rfl, rfl, T0⟩ T0 ?_
        refine sw (core_move (L _ rfl)) ⟨rfl, T0⟩ T0 ?_
        refine sw (core_extract rfl (L _ rfl)) ⟨rfl, T0⟩ T0 ?_
        refine sw (core_extract rfl (L _ rfl)) ⟨rfl, T0⟩ T0 ?_
        refine sw (core_extract rfl (L _ rfl)) ⟨rfl, T0⟩ T0 ?_
        refine swb (core_alloc (k := 12) (n := 2) Tryd.zeroValue24 (.cons rfl (.cons rfl .nil)) rfl (P0 _ rfl) (L _ rfl)) trivial trivial ⟨rfl, rfl⟩ ?_
        refine swb (core_alloc (k := 13) (n := 2) Tryd.zeroValue24 (.cons rfl (.cons rfl .nil)) rfl (P0 _ rfl) (L _ rfl)) trivial trivial ⟨rfl, rfl⟩ ?_
        refine sb (core_storeM Tryd.sizeOf24 (by rfl) (.pagg (.cons (.cons .nil))) rfl (.put (.put .here))) ⟨rfl, rfl, T0⟩ ⟨rfl, T0⟩ ?_
        refine sb (core_storeM Tryd.sizeOf24 (by rfl) (.pagg (.cons (.cons .nil))) rfl (.put (.put .here))) ⟨rfl, rfl, T0⟩ ⟨rfl, T0⟩ ?_
        refine sw (core_assign (L _ rfl)) ⟨rfl, T0⟩ T0 ?_
        refine seq_nil ⟨[(2, _), (3, _), (4, _), (5, _), (6, _), (8, _), (9, _), (10, _), (11, _), (12, _), (13, _)], [(2, _), (3, _), (4, _), (5, _), (6, _), (8, _), (9, _), (10, _), (11, _), (12, _), (13, _)], ⟨rfl, rfl, rfl, rfl, rfl, rfl, rfl, rfl, rfl, rfl, rfl, T0⟩, ⟨rfl, rfl, rfl, rfl, rfl, rfl, rfl, rfl, rfl, rfl, rfl, T0⟩, ?_⟩
        refine exd0 (by rfl) ?_
        refine sw (core_loadP Tryd.isAgg24 Tryd.sizeOf24 (by rfl) (by exact (.cons (.cons .nil))) rfl (L _ rfl)) ⟨rfl, T0⟩ ⟨rfl, T0⟩ ?_
        refine sw (core_loadP Tryd.isAgg24 Tryd.sizeOf24 (by rfl) (by exact (.cons (.cons .nil))) rfl (L _ rfl)) ⟨rfl, T0⟩ ⟨rfl, T0⟩ ?_
        refine sw (core_loadP Tryd.isAgg24 Tryd.sizeOf24 (by rfl) (by exact (.cons (.cons .nil))) rfl (L _ rfl)) ⟨rfl, T0⟩ ⟨rfl, T0⟩ ?_
        refine sw (core_loadP Tryd.isAgg24 Tryd.sizeOf24 (by rfl) (by exact (.cons (.cons .nil))) rfl (L _ rfl)) ⟨rfl, T0⟩ ⟨rfl, T0⟩ ?_
        refine sw (core_loadP Tryd.isAgg24 Tryd.sizeOf24 (by rfl) (by exact (.cons (.cons .nil))) rfl (L _ rfl)) ⟨rfl, T0⟩ ⟨rfl, T0⟩ ?_
        refine sw (core_call (E := E) hG hX Tryd.call40 rfl hN (rmulZ2 ((y / x : Nat) : Int) s (by omega) (by omega)) (L _ rfl)) ⟨rfl, rfl, T0⟩ T0 ?_
        refine sw (core_call (E := E) hG hX Tryd.call38 rfl hN (rsubZ t (((y / x : Nat) : Int) * s) (by omega) (by omega)) (L _ rfl)) ⟨rfl, rfl, T0⟩ T0 ?_
        refine sw (core_loadP Tryd.isAgg24 Tryd.sizeOf24 (by rfl) (by exact (.cons (.cons .nil))) rfl (L _ rfl)) ⟨rfl, T0⟩ ⟨rfl, T0⟩ ?_
        refine sb (core_storeM Tryd.sizeOf24 (by rfl) (.pagg (.cons (.cons .nil))) rfl (.put (.put .here))) ⟨rfl, rfl, T0⟩ ⟨rfl, T0⟩ ?_
        refine sb (core_storeM Tryd.sizeOf24 (by rfl) (.pagg (.cons (.cons .nil))) rfl (.put (.put .here))) ⟨rfl, rfl, T0⟩ ⟨rfl, T0⟩ ?_
        refine sb (core_storeM Tryd.sizeOf24 (by rfl) (.pagg (.cons (.cons .nil))) rfl (.put (.put .here))) ⟨rfl, rfl, T0⟩ ⟨rfl, T0⟩ ?_
        refine sb (core_storeM Tryd.sizeOf24 (by rfl) (.pagg (.cons (.cons .nil))) rfl (.put (.put .here))) ⟨rfl, rfl, T0⟩ ⟨rfl, T0⟩ ?_
        refine seq_nil ⟨aoks [⟨[13], [13], [56], []⟩, ⟨[8], [8], [57], []⟩, ⟨[11], [11], [58], []⟩, ⟨[12], [12], [59], []⟩, ⟨[10], [10], [60], []⟩, ⟨[59, 60], [], [61], []⟩, ⟨[58, 61], [], [62], []⟩, ⟨[10], [10], [63], []⟩, ⟨[8, 56], [8], [], [8]⟩, ⟨[9, 57], [9], [], [9]⟩, ⟨[10, 62], [10], [], [10]⟩, ⟨[11, 63], [11], [], [11]⟩] (by rfl) (by rfl) (by decide), ?_⟩
        exact ⟨(y % x, x, t - ((y / x : Nat) : Int) * s, s), .inl k1, (by simp only; omega), le_of ⟨rfl, rfl, rfl, rfl, rfl, rfl, rfl, rfl, rfl, T0⟩ ⟨rfl, rfl, rfl, rfl, rfl, rfl, rfl, rfl, rfl, T0⟩⟩
      · have he := df he
        have hx0 : x = 0 := by
          have : (digs (x : Int).natAbs).length = 0 := by omega
          rw [digs_len_zero] at this; omega
        subst hx0
        obtain ⟨z1, z2⟩ := hx.end_ hB0
        have z3 := bez_emod z1
        rw [gcd_emod'] at z2 z3
        have gp := gcd_pos (a := A) hB0
        have hbu := bezU_eq hB0 z3
        have bbd := bez_bd z3
        have sn := nw_ediv (a := (B.natAbs : Int)) (b := (Int.gcd A B : Int))
        have bn : nw (B.natAbs : Int) = nw B := by unfold nw; simp
        have d1 := rmodZ t ((B.natAbs : Int) / (Int.gcd A B : Int)) (by omega) (by omega) z2
        rw [← hbu] at d1 bbd
        have mn2 := nw_mul (bezU A B) A
        have sbn := nw_sub (Int.gcd A B : Int) (bezU A B * A)
        refine ex_exit (show Exec _ _ _ _ _ from ?_)
        refine exd (by rfl) ?_
        refine sw (core_loadP Tryd.isAgg24 Tryd.sizeOf24 (by rfl) (by exact (.cons (.cons .nil))) rfl (L _ rfl)) ⟨rfl, T0⟩ ⟨rfl, T0⟩ ?_
        refine sw (core_loadP Tryd.isAgg24 Tryd.sizeOf24 (by rfl) (by exact (.cons (.cons .nil))) rfl (L _ rfl)) ⟨rfl, T0⟩ ⟨rfl, T0⟩ ?_
        refine sw (core_call (E := E) hG hX Tryd.call30 rfl hN (rabsZ B (by omega)) (L _ rfl)) ⟨rfl, T0⟩ T0 ?_
        refine sw (core_loadP Tryd.isAgg24 Tryd.sizeOf24 (by rfl) (by exact (.cons (.cons .nil))) rfl (L _ rfl)) ⟨rfl, T0⟩ ⟨rfl, T0⟩ ?_
        refine sw (core_call (E := E) hG hX Tryd.call70 rfl hN (rquoZ (B.natAbs : Int) (Int.gcd A B : Int) (by omega) (by omega) (by omega)) (L _ rfl)) ⟨rfl, rfl, T0⟩ T0 ?_
        refine sw (core_call (E := E) hG hX Tryd.call69 rfl hN d1 (L _ rfl)) ⟨rfl, rfl, T0⟩ T0 ?_
        refine sb (core_storeM Tryd.sizeOf24 (by rfl) (.pagg (.cons (.cons .nil))) rfl (.put (.put .here))) ⟨rfl, rfl, T0⟩ ⟨rfl, T0⟩ ?_
        refine seq_nil ⟨aoks [⟨[11], [11], [64], []⟩, ⟨[3], [3], [65], []⟩, ⟨[65], [], [66], []⟩, ⟨[4], [4], [67], []⟩, ⟨[66, 67], [], [68], []⟩, ⟨[64, 68], [], [69], []⟩, ⟨[5, 69], [5], [], [5]⟩] (by rfl) (by rfl) (by decide), [(2, _), (3, _), (4, _), (5, _), (6, _)], [(2, _), (3, _), (4, _), (5, _), (6, _)], ⟨rfl, rfl, rfl, rfl, rfl, T0⟩, ⟨rfl, rfl, rfl, rfl, rfl, T0⟩, ?_⟩
        refine exd (by rfl) ?_
        refine sw (core_loadP Tryd.isAgg24 Tryd.sizeOf24 (by rfl) (by exact (.cons (.cons .nil))) rfl (L _ rfl)) ⟨rfl, T0⟩ ⟨rfl, T0⟩ ?_
        refine sw (core_loadP Tryd.isAgg24 Tryd.sizeOf24 (by rfl) (by exact (.cons (.cons .nil))) rfl (L _ rfl)) ⟨rfl, T0⟩ ⟨rfl, T0⟩ ?_
        refine sw (core_loadP Tryd.isAgg24 Tryd.sizeOf24 (by rfl) (by exact (.cons (.cons .nil))) rfl (L _ rfl)) ⟨rfl, T0⟩ ⟨rfl, T0⟩ ?_
        refine sw (core_loadP Tryd.isAgg24 Tryd.sizeOf24 (by rfl) (by exact (.cons (.cons .nil))) rfl (L _ rfl)) ⟨rfl, T0⟩ ⟨rfl, T0⟩ ?_
        refine sw (core_loadP Tryd.isAgg24 Tryd.sizeOf24 (by rfl) (by exact (.cons (.cons .nil))) rfl (L _ rfl)) ⟨rfl, T0⟩ ⟨rfl, T0⟩ ?_
        refine sw (core_call (E := E) hG hX Tryd.call40 rfl hN (rmulZ2 (bezU A B) A (by omega) (by omega)) (L _ rfl)) ⟨rfl, rfl, T0⟩ T0 ?_
        refine sw (core_call (E := E) hG hX Tryd.call38 rfl hN (rsubZ (Int.gcd A B : Int) (bezU A B * A) (by omega) (by omega)) (L _ rfl)) ⟨rfl, rfl, T0⟩ T0 ?_
        refine sw (core_loadP Tryd.isAgg24 Tryd.sizeOf24 (by rfl) (by exact (.cons (.cons .nil))) rfl (L _ rfl)) ⟨rfl, T0⟩ ⟨rfl, T0⟩ ?_
        refine sw (core_call (E := E) hG hX Tryd.call70 rfl hN (rquoZ ((Int.gcd A B : Int) - bezU A B * A) B (by omega) (by omega) hB0) (L _ rfl)) ⟨rfl, rfl, T0⟩ T0 ?_
        refine sb (core_storeM Tryd.sizeOf24 (by rfl) (.pagg (.cons (.cons .nil))) rfl (.put (.put .here))) ⟨rfl, rfl, T0⟩ ⟨rfl, T0⟩ ?_
        refine sb (core_storeM Tryd.sizeOf24 (by rfl) (.pagg (.cons (.cons .nil))) rfl (.put (.put .here))) ⟨rfl, rfl, T0⟩ ⟨rfl, T0⟩ ?_
        refine sb (core_storeM Tryd.sizeOf24 (by rfl) (.pagg (.cons (.cons .nil))) rfl (.put (.put .here))) ⟨rfl, rfl, T0⟩ ⟨rfl, T0⟩ ?_
        refine sw (core_assign (L _ rfl)) ⟨rfl, T0⟩ T0 ?_
        refine seq_nil ⟨aoks [⟨[4], [4], [70], []⟩, ⟨[5], [5], [71], []⟩, ⟨[4], [4], [72], []⟩, ⟨[5], [5], [73], []⟩, ⟨[2], [2], [74], []⟩, ⟨[73, 74], [], [75], []⟩, ⟨[72, 75], [], [76], []⟩, ⟨[3], [3], [77], []⟩, ⟨[76, 77], [], [78], []⟩, ⟨[4, 70], [4], [], [4]⟩, ⟨[5, 71], [5], [], [5]⟩, ⟨[6, 78], [6], [], [6]⟩, ⟨[], [], [7], []⟩] (by rfl) (by rfl) (by decide), [(4, _), (5, _), (6, _), (7, _)], [(4, _), (5, _), (6, _)], ⟨rfl, rfl, rfl, rfl, T0⟩, ⟨rfl, rfl, rfl, T0⟩, ?_⟩
        refine ex_ret ?_
        refine ⟨.inr rfl, ResVs.cast (.cons (.agg rfl rfl rfl Tryd.isAgg24 Tryd.sizeOf24 (.cons (.cons .nil))) (.cons (.agg rfl rfl rfl Tryd.isAgg24 Tryd.sizeOf24 (.cons (.cons .nil))) (.cons (.agg rfl rfl rfl Tryd.isAgg24 Tryd.sizeOf24 (.cons (.cons .nil))) (.cons (.tmp rfl) .nil)))) ?_⟩
        rw [bU, bV, if_neg hB0, if_neg hB0]

end Go.Proofs.YtebkelnibecmjaaDoor.N
