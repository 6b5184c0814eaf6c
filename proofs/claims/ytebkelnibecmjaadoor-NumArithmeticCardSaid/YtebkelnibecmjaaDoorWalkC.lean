/- Part WalkC of the proof: lemmas for the walks of the given functions. No statement of its own. -/
import Derived.Test.YtebkelnibecmjaaDoorWalkB
import Derived.Test.YtebkelnibecmjaaDoorPlain
import Derived.Test.YtebkelnibecmjaaDoorLogicB
set_option linter.unusedVariables false
set_option linter.unusedSimpArgs false
set_option linter.deprecated false
namespace Go.Proofs.YtebkelnibecmjaaDoor.N
open Go Go.Proofs.YtebkelnibecmjaaDoor.SH Go.Proofs.YtebkelnibecmjaaDoor.NumA
theorem getP {xs win zs : List Int} {i j : Nat} (hx : xs.length = i) (hj : j < win.length) : (encW (xs ++ (win ++ zs)))[i + j]? = some (.a (.int .u32 (win.getD j 0))) := by
  rw [getW (by simp; omega), part_mid hx hj]
theorem getU {ys L : List Int} {j i p q : Nat} (hl : ys.length = j) (hp : p = q) (hq : q = j + i) (hj : q < L.length) : (encW (ys ++ L.drop j))[p]? = some (.a (.int .u32 (L.getD q 0))) := by
  subst hp hq
  rw [getW (by simp; omega), tail_get hl]
set_option maxRecDepth 100000 in
set_option maxHeartbeats 4000000 in
theorem parted_says (ws vs : List Int) (hl : ws.length < 400000000) (hl2 : vs.length < 400000000) (h : Wd ws) (h2 : Wd vs) (ht : Tr ws) (ht2 : Tr vs) (hv : 0 < val vs) : Says E 63 [pW ws, pW vs] (.tup [pW (partQ ws vs), pW (partR ws vs)]) := by
  refine says_of (xs := [pW (partQ ws vs), pW (partR ws vs)]) Tryd.func63 rfl Tryd.ntmps63 Tryd.results63 (by simp) fun F hG hX0 hnt hdf P0 => ?_
  have L := ltn hnt
  have hX : ∀ b, F.X b → E.ng ≤ b := fun b h => absurd h (hX0 b)
  have hN := ng_le hG
  have a0 := val_nonneg h
  have q0 := Int.ediv_nonneg a0 (Int.le_of_lt hv)
  have q1 := Int.ediv_le_self (val vs) a0
  have r0 := Int.emod_nonneg (val ws) (show val vs ≠ 0 by omega)
  have r1 := Int.emod_lt_of_pos (val ws) hv
  refine exr ?_
  refine sw (core_assign (L _ rfl)) ⟨rfl, T0⟩ T0 ?_
  refine sw (core_assign (L _ rfl)) ⟨rfl, T0⟩ T0 ?_
  refine seq_nil ⟨[(0, _), (1, _)], [], ⟨rfl, rfl, T0⟩, trivial, ?_⟩
  refine ex_seq ?_
  refine exr ?_
  refine sw (core_move (L _ rfl)) ⟨rfl, T0⟩ T0 ?_
  refine sw (core_move (L _ rfl)) ⟨rfl, T0⟩ T0 ?_
  refine sw (core_call (E := E) hG hX Tryd.call60 rfl hN (compared_says ws vs (by omega) (by omega) h h2 ht ht2) (L _ rfl)) ⟨rfl, rfl, T0⟩ T0 ?_
  refine sw (core_lss (L _ rfl)) ⟨rfl, rfl, T0⟩ T0 ?_
  refine seq_nil ⟨[(0, _), (1, _), (20, _)], [], ⟨rfl, rfl, rfl, T0⟩, trivial, ?_⟩
  refine ex_if rfl (fun hc => ?_) (fun hc => ?_)
  · have hc := dt hc
    refine exr ?_
    refine sw (core_move (L _ rfl)) ⟨rfl, T0⟩ T0 ?_
    refine sw (core_assign (L _ rfl)) ⟨rfl, T0⟩ T0 ?_
    refine sw (core_assign (L _ rfl)) ⟨rfl, T0⟩ T0 ?_
    refine seq_nil ⟨[(4, _), (5, _)], [], ⟨rfl, rfl, T0⟩, trivial, ?_⟩
    refine ex_cv [] (sl := [(4, _), (5, _)]) (hb := []) (own_none hX0) ⟨⟨_, rfl, (.p .nil)⟩, ⟨_, rfl, .same⟩, T0⟩ T0 ?_
    refine ex_ret ?_
    refine ⟨.inr rfl, ResVs.cast (.cons (.tmp rfl) (.cons (.tmp rfl) .nil)) ?_⟩
    simp only [partQ, partR, if_pos hc]; rfl
  · have hc := df hc
    have hge : val vs ≤ val ws := by rw [cmpI_neg] at hc; omega
    have hlen := len_le h h2 ht2 hge
    refine ex_skip (show Exec _ _ _ _ _ from ?_)
    refine ex_seq ?_
    refine exr ?_
    refine sw (core_move (L _ rfl)) ⟨rfl, T0⟩ T0 ?_
    refine sw (core_call (E := E) hG hX Tryd.call73 rfl hN (pair_says ws (by omega) h) (L _ rfl)) ⟨rfl, T0⟩ T0 ?_
    refine sw (core_move (L _ rfl)) ⟨rfl, T0⟩ T0 ?_
    refine sw (core_extract rfl (L _ rfl)) ⟨rfl, T0⟩ T0 ?_
    refine sw (core_extract rfl (L _ rfl)) ⟨rfl, T0⟩ T0 ?_
    refine sw (core_assign (L _ rfl)) ⟨rfl, T0⟩ T0 ?_
    refine sw (core_assign (L _ rfl)) ⟨rfl, T0⟩ T0 ?_
    refine seq_nil ⟨[(0, _), (1, _), (6, _), (7, _)], [], ⟨rfl, rfl, rfl, rfl, T0⟩, trivial, ?_⟩
    refine exr ?_
    refine sw (core_move (L _ rfl)) ⟨rfl, T0⟩ T0 ?_
    refine seq_nil ⟨[(0, _), (1, _), (6, _), (27, _)], [], ⟨rfl, rfl, rfl, rfl, T0⟩, trivial, ?_⟩
    refine ex_if rfl (fun hp => ?_) (fun hp => ?_)
    · have hp := dt hp
      have s1 := small2 h hp
      have s2 := small2 h2 (by omega)
      rw [if_pos hp]
      refine exr ?_
      refine sw (core_move (L _ rfl)) ⟨rfl, T0⟩ T0 ?_
      refine sw (core_call (E := E) hG hX Tryd.call73 rfl hN (pair_says vs (by omega) h2) (L _ rfl)) ⟨rfl, T0⟩ T0 ?_
      refine sw (core_move (L _ rfl)) ⟨rfl, T0⟩ T0 ?_
      refine sw (core_extract rfl (L _ rfl)) ⟨rfl, T0⟩ T0 ?_
      refine sw (core_extract rfl (L _ rfl)) ⟨rfl, T0⟩ T0 ?_
      refine sw (core_assign (L _ rfl)) ⟨rfl, T0⟩ T0 ?_
      refine sw (core_assign (L _ rfl)) ⟨rfl, T0⟩ T0 ?_
      refine seq_nil ⟨[(6, _), (8, _)], [], ⟨rfl, rfl, T0⟩, trivial, ?_⟩
      rw [if_pos (show vs.length ≤ 2 by omega)]
      refine exd (by rfl) ?_
      refine sw (core_move (L _ rfl)) ⟨rfl, T0⟩ T0 ?_
      refine sw (core_move (L _ rfl)) ⟨rfl, T0⟩ T0 ?_
      refine sw (core_quo (L _ rfl) (by omega) (tdivE a0 (by omega))) ⟨rfl, rfl, T0⟩ T0 ?_
      refine sw (core_call (E := E) hG hX Tryd.call79 rfl hN (words_says (val ws / val vs) q0 (by omega)) (L _ rfl)) ⟨rfl, T0⟩ T0 ?_
      refine sw (core_move (L _ rfl)) ⟨rfl, T0⟩ T0 ?_
      refine sw (core_move (L _ rfl)) ⟨rfl, T0⟩ T0 ?_
      refine sw (core_rem (L _ rfl) (by omega) (tmodE a0 (by omega))) ⟨rfl, rfl, T0⟩ T0 ?_
      refine sw (core_call (E := E) hG hX Tryd.call79 rfl hN (words_says (val ws % val vs) r0 (by omega)) (L _ rfl)) ⟨rfl, T0⟩ T0 ?_
      refine sw (core_assign (L _ rfl)) ⟨rfl, T0⟩ T0 ?_
      refine sw (core_assign (L _ rfl)) ⟨rfl, T0⟩ T0 ?_
      refine seq_nil ⟨aoks [⟨[6], [], [33], []⟩, ⟨[8], [], [34], []⟩, ⟨[33, 34], [], [35], []⟩, ⟨[35], [], [36], []⟩, ⟨[6], [], [37], []⟩, ⟨[8], [], [38], []⟩, ⟨[37, 38], [], [39], []⟩, ⟨[39], [], [40], []⟩, ⟨[36], [], [4], []⟩, ⟨[40], [], [5], []⟩] (by rfl) (by rfl) (by decide), [(4, _), (5, _)], [], ⟨rfl, rfl, T0⟩, trivial, ?_⟩
      refine ex_ret ?_
      refine ⟨.inr rfl, ResVs.cast (.cons (.tmp rfl) (.cons (.tmp rfl) .nil)) ?_⟩
      simp only [partQ, partR, if_neg hc, if_pos hp]
    · have hp := df hp
      refine ex_skip (show Exec _ _ _ _ _ from ?_)
      refine ex_seq ?_
      refine exr ?_
      refine sw (core_move (L _ rfl)) ⟨rfl, T0⟩ T0 ?_
      refine sw (core_len Tryd.underlying22 (L _ rfl)) ⟨rfl, T0⟩ T0 ?_
      refine sw (core_eql (L _ rfl)) ⟨rfl, rfl, T0⟩ T0 ?_
      refine seq_nil ⟨[(0, _), (1, _), (43, _)], [], ⟨rfl, rfl, rfl, T0⟩, trivial, ?_⟩
      refine ex_if rfl (fun h1 => ?_) (fun h1 => ?_)
      · have h1 := dt h1
        have hl1 : vs.length = 1 := by omega
        have hv1 := val_one hl1
        have hvb := val_lt1 h2 (by omega)
        refine exr ?_
        refine sw (core_move (L _ rfl)) ⟨rfl, T0⟩ T0 ?_
        refine sw (core_len Tryd.underlying22 (L _ rfl)) ⟨rfl, T0⟩ T0 ?_
        refine swb (core_make1 (k := 46) Tryd.underlying22 Tryd.typeInfo53 rfl rfl rfl rfl rfl rfl (Nat.le_refl _) (by simp [Tryd.t53]; omega) (by omega) (P0 _ rfl) (L _ rfl)) ⟨rfl, rfl, T0⟩ T0 ⟨rfl, rfl⟩ ?_
        refine sw (core_assign (L _ rfl)) ⟨rfl, T0⟩ T0 ?_
        refine seq_nil ⟨[(0, _), (1, _), (4, _)], [(46, _)], ⟨rfl, rfl, rfl, T0⟩, ⟨rfl, T0⟩, ?_⟩
        refine exr ?_
        refine sw (core_move (L _ rfl)) ⟨rfl, T0⟩ T0 ?_
        refine sw (core_move (L _ rfl)) ⟨rfl, T0⟩ T0 ?_
        refine swb (core_copyI Tryd.underlying22 Tryd.typeInfo53 (by exact List.length_replicate) rfl (by simp) (L _ rfl)) ⟨rfl, rfl, T0⟩ ⟨rfl, T0⟩ T0 ?_
        refine seq_nil ⟨[(1, _), (4, _)], [(46, ⟨53, 1, .pure (encW ws)⟩)], ⟨rfl, rfl, T0⟩, ⟨obl rfl (by rw [List.take_of_length_le (by simp), List.drop_of_length_le (by simp), List.append_nil]), T0⟩, ?_⟩
        refine exr ?_
        refine sw (core_move (L _ rfl)) ⟨rfl, T0⟩ T0 ?_
        refine sw (core_move (L _ rfl)) ⟨rfl, T0⟩ T0 ?_
        refine sw (core_move (L _ rfl)) ⟨rfl, T0⟩ T0 ?_
        refine sw (ixJ Tryd.underlying22 Tryd.sizeOf53 (j := 0) rfl (by omega) (by simp) (L _ rfl)) ⟨rfl, rfl, T0⟩ T0 ?_
        refine sw (core_loadI1 Tryd.isAgg53 (by first | exact getW (by omega) | rfl) (L _ rfl)) ⟨rfl, T0⟩ T0 ?_
        refine swB (core_callX (E := E) hG hX [46] hN (short_says ws (vs.getD 0 0) (by omega) h (by omega)) rfl (args_fn (ys := [_, _]) Tryd.call77 rfl (by rfl)) (by rfl) (by rfl) (by rfl) (by rfl) (SameH.to (.cons (len_pure (by simp [digN_length])) .nil)) (by rfl) (by rfl) (L _ rfl)) ⟨rfl, rfl, T0⟩ ⟨rfl, T0⟩ ?_
        refine sw (core_bsI (vs := [_]) Tryd.underlying22 Tryd.typeInfo53 rfl rfl (by decide) (by decide) rfl (zs_made (.cons rfl .nil) rfl) rfl (.cons rfl (.atom rfl) rfl (.put .here) .nil) (.cons .nil) (L _ rfl)) ⟨rfl, T0⟩ T0 ?_
        refine sw (core_assign (L _ rfl)) ⟨rfl, T0⟩ T0 ?_
        refine sw (core_assign (L _ rfl)) ⟨rfl, T0⟩ T0 ?_
        refine seq_nil ⟨[(4, _), (5, _)], [(46, _)], ⟨rfl, rfl, T0⟩, ⟨rfl, T0⟩, ?_⟩
        refine ex_cv [46] (sl := [(4, _), (5, _)]) (hb := []) (own_none hX0) ⟨⟨_, rfl, (.ref rfl rfl (by exact (by simp [digN_length])) (by first | rfl | omega))⟩, ⟨_, rfl, .same⟩, T0⟩ T0 ?_
        refine ex_ret ?_
        refine ⟨.inr rfl, ResVs.cast (.cons (.tmp rfl) (.cons (.tmp rfl) .nil)) ?_⟩
        simp only [partQ, partR, if_neg hc, if_neg hp, if_pos hl1]; rw [hv1]; simp [digN_length, encW]
      · have h1 := df h1
        have htw := h2.getD (vs.length - 1)
        have hbl := bl32 htw.2
        have hvn : vs.length ≠ 0 := by
          intro e
          rw [List.eq_nil_of_length_eq_zero e] at hv; simp [val] at hv
        obtain ⟨m, hm⟩ : ∃ m, vs.length = m + 2 := ⟨vs.length - 2, by omega⟩
        refine ex_skip (show Exec _ _ _ _ _ from ?_)
        refine exr ?_
        refine sw (core_move (L _ rfl)) ⟨rfl, T0⟩ T0 ?_
        refine sw (core_move (L _ rfl)) ⟨rfl, T0⟩ T0 ?_
        refine sw (core_len Tryd.underlying22 (L _ rfl)) ⟨rfl, T0⟩ T0 ?_
        refine sw (core_sub (L _ rfl) (w64 (by omega) (by omega))) ⟨rfl, rfl, T0⟩ T0 ?_
        refine sw (ixJ Tryd.underlying22 Tryd.sizeOf53 (j := vs.length - 1) (by first | exact rfl | omega) (by omega) (by simp) (L _ rfl)) ⟨rfl, rfl, T0⟩ T0 ?_
        refine sw (core_loadI1 Tryd.isAgg53 (by first | exact getW (by omega) | rfl) (L _ rfl)) ⟨rfl, T0⟩ T0 ?_
        refine sw (core_call (E := E) hG hX Tryd.call80 rfl hN (lz_says (vs.getD (vs.length - 1) 0) htw.1 htw.2) (L _ rfl)) ⟨rfl, T0⟩ T0 ?_
        refine sw (core_assign (L _ rfl)) ⟨rfl, T0⟩ T0 ?_
        refine seq_nil ⟨[(0, _), (1, _), (10, _)], [], ⟨rfl, rfl, rfl, T0⟩, trivial, ?_⟩
        obtain ⟨k, hk⟩ : ∃ k : Nat, k + bl (vs.getD (vs.length - 1) 0).toNat = 32 := ⟨32 - bl (vs.getD (vs.length - 1) 0).toNat, by omega⟩
        have ek : (32 - (bl (vs.getD (vs.length - 1) 0).toNat : Int)) = (k : Int) := by omega
        rw [ek]
        obtain ⟨k32, -, hDpos, hDlt, hDv, htake, htop, hWv, hstart⟩ := part_start h h2 ht2 hm hk hlen
        refine exd (by rfl) ?_
        refine sw (core_move (L _ rfl)) ⟨rfl, T0⟩ T0 ?_
        refine sw (core_move (L _ rfl)) ⟨rfl, T0⟩ T0 ?_
        refine swb (core_callO (E := E) (k := 66) hG hX Tryd.call81 rfl hN (shifted_says ws k (by omega) h k32) (P0 _ rfl) (L _ rfl)) ⟨rfl, rfl, T0⟩ T0 ⟨rfl, rfl⟩ ?_
        refine sw (core_move (L _ rfl)) ⟨rfl, T0⟩ T0 ?_
        refine sw (core_move (L _ rfl)) ⟨rfl, T0⟩ T0 ?_
        refine swb (core_callO (E := E) (k := 69) hG hX Tryd.call81 rfl hN (shifted_says vs k (by omega) h2 k32) (P0 _ rfl) (L _ rfl)) ⟨rfl, rfl, T0⟩ T0 ⟨rfl, rfl⟩ ?_
        refine sw (core_move (L _ rfl)) ⟨rfl, T0⟩ T0 ?_
        refine sw (core_len Tryd.underlying22 (L _ rfl)) ⟨rfl, T0⟩ T0 ?_
        refine sw (slR_hi Tryd.underlying22 Tryd.sizeOf53 rfl (by exact (by first | (simp [digN_length]; done) | (simp; omega))) (by first | exact rfl | exact ixn (by omega)) (by omega) (L _ rfl)) ⟨rfl, rfl, T0⟩ ⟨rfl, T0⟩ ?_
        refine sw (core_assign (L _ rfl)) ⟨rfl, T0⟩ T0 ?_
        refine sw (core_assign (L _ rfl)) ⟨rfl, T0⟩ T0 ?_
        refine seq_nil ⟨aok rfl rfl, [(0, _), (1, _), (10, _), (11, _), (12, _)], [(66, _), (69, _)], ⟨rfl, rfl, rfl, rfl, rfl, T0⟩, ⟨rfl, rfl, T0⟩, ?_⟩
        refine ex_cv [69] (sl := [(0, _), (1, _), (10, _), (11, _), (12, _)]) (hb := [(66, _)]) (own_none hX0) ⟨⟨_, rfl, .same⟩, ⟨_, rfl, .same⟩, ⟨_, rfl, .same⟩, ⟨_, rfl, .same⟩, ⟨_, rfl, (.refo rfl rfl (by exact (by first | (simp [digN_length]; done) | (simp; omega))) rfl)⟩, T0⟩ ⟨⟨rfl, _, rfl, .same⟩, T0⟩ ?_
        rw [show vs.length + 1 = m + 3 by omega]
        obtain ⟨W, hW⟩ : ∃ W, W = digN (ws.length + 1) (val ws * 2 ^ k) := ⟨_, rfl⟩
        obtain ⟨Dv, hDe⟩ : ∃ Dv, Dv = digN (m + 2) (val vs * 2 ^ k) := ⟨_, rfl⟩
        have hWl : W.length = ws.length + 1 := by rw [hW, digN_length]
        have hWd : Wd W := by rw [hW]; exact digN_wd _ _
        have hDl : Dv.length = m + 2 := by rw [hDe, digN_length]
        have hDwd : Wd Dv := by rw [hDe]; exact digN_wd _ _
        have e12 : Pure.sl vs.length (List.take (vs.length * 1) (List.drop 0 (encW (digN (m + 3) (val vs * 2 ^ k))))) = pW Dv := by
          rw [List.drop_zero, Nat.mul_one, encW_take, hm, htake, ← hDe, pW, hDl]
        rw [e12, ← hW, Nat.mul_one (ws.length + 1)]
        rw [← hW] at hstart hWv
        rw [← hDe] at hDv htop
        rw [← hDv] at hstart hDpos hDlt
        refine exr ?_
        refine sw (core_move (L _ rfl)) ⟨rfl, T0⟩ T0 ?_
        refine sw (core_len Tryd.underlying22 (L _ rfl)) ⟨rfl, T0⟩ T0 ?_
        refine sw (core_assign (L _ rfl)) ⟨rfl, T0⟩ T0 ?_
        refine seq_nil ⟨[(0, _), (10, _), (11, _), (12, _), (13, _)], [(66, _)], ⟨rfl, rfl, rfl, rfl, rfl, T0⟩, ⟨rfl, T0⟩, ?_⟩
        refine exr ?_
        refine sw (core_move (L _ rfl)) ⟨rfl, T0⟩ T0 ?_
        refine sw (core_len Tryd.underlying22 (L _ rfl)) ⟨rfl, T0⟩ T0 ?_
        refine sw (core_move (L _ rfl)) ⟨rfl, T0⟩ T0 ?_
        refine sw (core_sub (L _ rfl) (w64 (by omega) (by omega))) ⟨rfl, rfl, T0⟩ T0 ?_
        refine sw (core_add (L _ rfl) (w64 (by omega) (by omega))) ⟨rfl, rfl, T0⟩ T0 ?_
        refine swb (core_make1 (k := 80) Tryd.underlying22 Tryd.typeInfo53 rfl rfl rfl rfl (show _ = ((ws.length - vs.length + 1 : Nat) : Int) by omega) (show _ = ((ws.length - vs.length + 1 : Nat) : Int) by omega) (Nat.le_refl _) (by simp [Tryd.t53]; omega) (by omega) (P0 _ rfl) (L _ rfl)) ⟨rfl, rfl, T0⟩ T0 ⟨rfl, rfl⟩ ?_
        refine sw (core_assign (L _ rfl)) ⟨rfl, T0⟩ T0 ?_
        refine seq_nil ⟨[(0, _), (4, _), (10, _), (11, _), (12, _), (13, _)], [(66, _), (80, _)], ⟨rfl, rfl, rfl, rfl, rfl, rfl, T0⟩, ⟨rfl, rfl, T0⟩, ?_⟩
        refine ex_seq ?_
        refine exr ?_
        refine sw (core_move (L _ rfl)) ⟨rfl, T0⟩ T0 ?_
        refine sw (core_len Tryd.underlying22 (L _ rfl)) ⟨rfl, T0⟩ T0 ?_
        refine sw (core_move (L _ rfl)) ⟨rfl, T0⟩ T0 ?_
        refine sw (core_sub (L _ rfl) (w64 (by omega) (by omega))) ⟨rfl, rfl, T0⟩ T0 ?_
        refine sw (core_assign (L _ rfl)) ⟨rfl, T0⟩ T0 ?_
        refine seq_nil ⟨[(4, _), (10, _), (11, _), (12, _), (13, _), (14, _)], [(66, _), (80, _)], ⟨rfl, rfl, rfl, rfl, rfl, rfl, T0⟩, ⟨rfl, rfl, T0⟩, ?_⟩
        refine ex_block ?_
        refine exl (α := (Nat × Int × List Int)) (fun x => [(14, vi ((x.1:Int) - 1))]) (fun x => [(66, ⟨53, 1, .pure (encW (restAt W (m + 2) x.1 x.2.1))⟩), (80, ⟨53, 1, .pure (encW (List.replicate x.1 0 ++ x.2.2))⟩)]) (fun x => PartAt W (m + 2) (val Dv) x) (fun x => x.1) ((ws.length + 1 - (m + 2), val (W.drop (ws.length + 1 - (m + 2))), ([] : List Int))) (sl := [(4, _), (10, _), (11, _), (12, _), (13, _)]) (hb := []) ?_ ⟨oi (by omega) rfl, rfl, rfl, rfl, rfl, rfl, T0⟩ ⟨obl rfl (by rw [← hWl, restAt_start hWd (by omega)]), obl rfl (by rw [encW_rep, List.append_nil, show ws.length - vs.length + 1 = ws.length + 1 - (m + 2) by omega]), T0⟩ ?_
        · exact hstart
        intro x hx
        obtain ⟨r, R, qs⟩ := x
        have hle := hx.le
        have hr := hx.r
        have hlq := hx.len
        simp only at hle hr hlq
        dsimp only
        refine ex_seq ?_
        refine exr ?_
        refine sw (core_move (L _ rfl)) ⟨rfl, T0⟩ T0 ?_
        refine sw (core_geq (L _ rfl)) ⟨rfl, rfl, T0⟩ T0 ?_
        refine seq_nil ⟨[(4, _), (10, _), (11, _), (12, _), (13, _), (14, _), (86, _)], [(66, _), (80, _)], ⟨rfl, rfl, rfl, rfl, rfl, rfl, rfl, T0⟩, ⟨rfl, rfl, T0⟩, ?_⟩
        refine ex_if rfl (fun he => ?_) (fun he => ?_)
        · have he := dt he
          obtain ⟨i, rfl⟩ : ∃ i, r = i + 1 := ⟨r - 1, by omega⟩
          have ei : (((i + 1 : Nat) : Int) - 1) = (i : Int) := by omega
          rw [ei]
          obtain ⟨w1, w2, w3, w4⟩ := hx.win hWd hDlt
          obtain ⟨win, hwin⟩ : ∃ win, win = W.getD i 0 :: digN (m + 2) R := ⟨_, rfl⟩
          rw [← hwin] at w1 w2 w3 w4
          obtain ⟨zs, hzs⟩ : ∃ zs : List Int, zs = List.replicate (W.length - (m + 2) - (i + 1)) 0 := ⟨_, rfl⟩
          have hzl : zs.length = W.length - (m + 2) - (i + 1) := by rw [hzs, List.length_replicate]
          rw [restAt_win (by omega), ← hwin, ← hzs]
          have hti : (W.take i).length = i := by simp; omega
          obtain ⟨q, hq⟩ : ∃ q, q = guessW (win.getD (m + 2) 0) (win.getD (m + 1) 0) (win.getD m 0) (Dv.getD (m + 1) 0) (Dv.getD m 0) := ⟨_, rfl⟩
          obtain ⟨g1, g2, g3⟩ := guess_ok w1 hDwd (n := m) w2 hDl htop w4 hq
          have gv0 := val_nonneg w1
          have gq0 := Int.ediv_nonneg gv0 (Int.le_of_lt hDpos)
          have gqB : val win / val Dv < 4294967296 := Int.ediv_lt_of_lt_mul hDpos w4
          have key := hx.next hWd hDpos w3
          refine ex_skip (show Exec _ _ _ _ _ from ?_)
          refine ex_seq ?_
          refine ex_block ?_
          refine exd (by rfl) ?_
          refine sw (core_move (L _ rfl)) ⟨rfl, T0⟩ T0 ?_
          refine sw (core_move (L _ rfl)) ⟨rfl, T0⟩ T0 ?_
          refine sw (core_move (L _ rfl)) ⟨rfl, T0⟩ T0 ?_
          refine sw (core_add (L _ rfl) (w64 (by omega) (by omega))) ⟨rfl, rfl, T0⟩ T0 ?_
          refine sw (ixR0 Tryd.underlying22 Tryd.sizeOf53 (by exact (by simp [restAt_length hle, hWl] <;> omega)) (j := i + (m + 2)) (by first | exact rfl | omega) (by omega) (L _ rfl)) ⟨rfl, rfl, T0⟩ ⟨rfl, T0⟩ ?_
          refine sw (core_load1 Tryd.isAgg53 (by exact (by simp [restAt_length hle, hWl] <;> omega)) (getC (getP hti (by omega))) (L _ rfl)) ⟨rfl, T0⟩ ⟨rfl, T0⟩ ?_
          refine sw (core_move (L _ rfl)) ⟨rfl, T0⟩ T0 ?_
          refine sw (core_move (L _ rfl)) ⟨rfl, T0⟩ T0 ?_
          refine sw (core_move (L _ rfl)) ⟨rfl, T0⟩ T0 ?_
          refine sw (core_add (L _ rfl) (w64 (by omega) (by omega))) ⟨rfl, rfl, T0⟩ T0 ?_
          refine sw (core_sub (L _ rfl) (w64 (by omega) (by omega))) ⟨rfl, rfl, T0⟩ T0 ?_
          refine sw (ixR0 Tryd.underlying22 Tryd.sizeOf53 (by exact (by simp [restAt_length hle, hWl] <;> omega)) (j := i + (m + 1)) (by first | exact rfl | omega) (by omega) (L _ rfl)) ⟨rfl, rfl, T0⟩ ⟨rfl, T0⟩ ?_
          refine sw (core_load1 Tryd.isAgg53 (by exact (by simp [restAt_length hle, hWl] <;> omega)) (getC (getP hti (by omega))) (L _ rfl)) ⟨rfl, T0⟩ ⟨rfl, T0⟩ ?_
          refine sw (core_move (L _ rfl)) ⟨rfl, T0⟩ T0 ?_
          refine sw (core_move (L _ rfl)) ⟨rfl, T0⟩ T0 ?_
          refine sw (core_move (L _ rfl)) ⟨rfl, T0⟩ T0 ?_
          refine sw (core_add (L _ rfl) (w64 (by omega) (by omega))) ⟨rfl, rfl, T0⟩ T0 ?_
          refine sw (core_sub (L _ rfl) (w64 (by omega) (by omega))) ⟨rfl, rfl, T0⟩ T0 ?_
          refine sw (ixR0 Tryd.underlying22 Tryd.sizeOf53 (by exact (by simp [restAt_length hle, hWl] <;> omega)) (j := i + m) (by first | exact rfl | omega) (by omega) (L _ rfl)) ⟨rfl, rfl, T0⟩ ⟨rfl, T0⟩ ?_
          refine sw (core_load1 Tryd.isAgg53 (by exact (by simp [restAt_length hle, hWl] <;> omega)) (getC (getP hti (by omega))) (L _ rfl)) ⟨rfl, T0⟩ ⟨rfl, T0⟩ ?_
          refine sw (core_buildArr (vs := [_, _, _]) Tryd.underlying81 Tryd.zeroValue81 (.cons rfl (.cons rfl (.cons rfl .nil))) Tryd.sizeOf53 rfl (.cons rfl (.atom rfl) rfl (.put .here) (.cons rfl (.atom rfl) rfl (.skip (.put .here)) (.cons rfl (.atom rfl) rfl (.skip (.skip (.put .here))) .nil))) (.cons (.cons (.cons .nil))) (L _ rfl)) ⟨rfl, rfl, rfl, T0⟩ T0 ?_
          refine sw (core_move (L _ rfl)) ⟨rfl, T0⟩ T0 ?_
          refine sw (core_move (L _ rfl)) ⟨rfl, T0⟩ T0 ?_
          refine sw (core_sub (L _ rfl) (w64 (by omega) (by omega))) ⟨rfl, rfl, T0⟩ T0 ?_
          refine sw (ixJ Tryd.underlying22 Tryd.sizeOf53 (j := m + 1) (by first | exact rfl | omega) (by omega) (by simp) (L _ rfl)) ⟨rfl, rfl, T0⟩ T0 ?_
          refine sw (core_loadI1 Tryd.isAgg53 (by first | exact getW (by omega) | rfl) (L _ rfl)) ⟨rfl, T0⟩ T0 ?_
          refine sw (core_move (L _ rfl)) ⟨rfl, T0⟩ T0 ?_
          refine sw (core_move (L _ rfl)) ⟨rfl, T0⟩ T0 ?_
          refine sw (core_sub (L _ rfl) (w64 (by omega) (by omega))) ⟨rfl, rfl, T0⟩ T0 ?_
          refine sw (ixJ Tryd.underlying22 Tryd.sizeOf53 (j := m) (by first | exact rfl | omega) (by omega) (by simp) (L _ rfl)) ⟨rfl, rfl, T0⟩ T0 ?_
          refine sw (core_loadI1 Tryd.isAgg53 (by first | exact getW (by omega) | rfl) (L _ rfl)) ⟨rfl, T0⟩ T0 ?_
          refine sw (core_call (E := E) hG hX Tryd.call82 rfl hN (guess_says (win.getD (m + 2) 0) (win.getD (m + 1) 0) (win.getD m 0) (Dv.getD (m + 1) 0) (Dv.getD m 0) (w1.getD _) (w1.getD _) (w1.getD _) ⟨htop, (hDwd.getD _).2⟩ (hDwd.getD _)) (L _ rfl)) ⟨rfl, rfl, rfl, T0⟩ T0 ?_
          refine sw (core_assign (L _ rfl)) ⟨rfl, T0⟩ T0 ?_
          refine seq_nil ⟨aoks [⟨[11], [], [89], []⟩, ⟨[14], [], [90], []⟩, ⟨[13], [], [91], []⟩, ⟨[90, 91], [], [92], []⟩, ⟨[89, 92], [66], [93], []⟩, ⟨[93], [66], [94], []⟩, ⟨[11], [], [95], []⟩, ⟨[14], [], [96], []⟩, ⟨[13], [], [97], []⟩, ⟨[96, 97], [], [98], []⟩, ⟨[98], [], [99], []⟩, ⟨[95, 99], [66], [100], []⟩, ⟨[100], [66], [101], []⟩, ⟨[11], [], [102], []⟩, ⟨[14], [], [103], []⟩, ⟨[13], [], [104], []⟩, ⟨[103, 104], [], [105], []⟩, ⟨[105], [], [106], []⟩, ⟨[102, 106], [66], [107], []⟩, ⟨[107], [66], [108], []⟩, ⟨[94, 101, 108], [], [109], []⟩, ⟨[12], [], [110], []⟩, ⟨[13], [], [111], []⟩, ⟨[111], [], [112], []⟩, ⟨[110, 112], [], [113], []⟩, ⟨[113], [], [114], []⟩, ⟨[12], [], [115], []⟩, ⟨[13], [], [116], []⟩, ⟨[116], [], [117], []⟩, ⟨[115, 117], [], [118], []⟩, ⟨[118], [], [119], []⟩, ⟨[109, 114, 119], [], [120], []⟩, ⟨[120], [], [15], []⟩] (by rfl) (by rfl) (by decide), [(4, _), (10, _), (11, _), (12, _), (13, _), (14, _), (15, _)], [(66, _), (80, _)], ⟨rfl, rfl, rfl, rfl, rfl, rfl, rfl, T0⟩, ⟨rfl, rfl, T0⟩, ?_⟩
          rw [← hq]
          have tk := take_says (W.take i) win zs Dv q (ws.length + 1) (by omega) (by omega) w1 (by omega) hDwd ⟨by omega, g2⟩ g3
          have tr := take_result hDpos g1 g3
          have hrest : W.take i ++ (digN win.length (val win % val Dv) ++ zs) = restAt W (m + 2) i (val win % val Dv) := by
            rw [w2, hzs, restAt_next (Int.emod_nonneg _ (by omega)) (by have := Int.emod_lt_of_pos (val win) hDpos; omega) (by omega)]
          rw [hti, tr.1, tr.2, hrest] at tk
          refine ex_seq ?_
          refine exr ?_
          refine sw (core_move (L _ rfl)) ⟨rfl, T0⟩ T0 ?_
          refine sw (core_move (L _ rfl)) ⟨rfl, T0⟩ T0 ?_
          refine sw (core_move (L _ rfl)) ⟨rfl, T0⟩ T0 ?_
          refine sw (core_move (L _ rfl)) ⟨rfl, T0⟩ T0 ?_
          refine swB (core_callX (E := E) hG hX [66] hN tk rfl (args_fn (ys := [_, _, _, _]) Tryd.call83 rfl (by rfl)) (by rfl) (by rfl) (by rfl) (by rfl) (SameH.to (.cons (len_pure (by rw [encW_length, encW_length, restAt_length (by omega)]; simp; omega)) .nil)) (by rfl) (by rfl) (L _ rfl)) ⟨rfl, rfl, rfl, rfl, T0⟩ ⟨rfl, T0⟩ ?_
          refine sw (core_not (L _ rfl)) ⟨rfl, T0⟩ T0 ?_
          refine seq_nil ⟨[(4, _), (10, _), (11, _), (12, _), (13, _), (14, _), (15, _), (126, _)], [(66, _), (80, _)], ⟨rfl, rfl, rfl, rfl, rfl, rfl, rfl, rfl, T0⟩, ⟨rfl, rfl, T0⟩, ?_⟩
          refine ex_if rfl (fun hb => ?_) (fun hb => ?_)
          · have hb := ndt hb
            have e : q - 1 = val win / val Dv := by rw [← tr.1, if_neg hb]
            refine exr0 ?_
            refine sw (core_move (L _ rfl)) ⟨rfl, T0⟩ T0 ?_
            refine sw (core_sub (L _ rfl) (fu64 (by omega) (by omega))) ⟨rfl, rfl, T0⟩ T0 ?_
            refine sw (core_assign (L _ rfl)) ⟨rfl, T0⟩ T0 ?_
            refine seq_nil ?_
            rw [e]
            refine exr0 ?_
            refine sw (core_move (L _ rfl)) ⟨rfl, T0⟩ T0 ?_
            refine sw (core_move (L _ rfl)) ⟨rfl, T0⟩ T0 ?_
            refine sw (core_move (L _ rfl)) ⟨rfl, T0⟩ T0 ?_
            refine sw (core_conv Tryd.underlying52 Tryd.underlying53 (L _ rfl) (fu32 (by omega) (by omega))) ⟨rfl, T0⟩ T0 ?_
            refine sw (ixR0 Tryd.underlying22 Tryd.sizeOf53 (by exact (by simp; omega)) (j := i) (by first | exact rfl | omega) (by omega) (L _ rfl)) ⟨rfl, rfl, T0⟩ ⟨rfl, T0⟩ ?_
            refine sb (core_store1 Tryd.sizeOf53 (by exact (by simp; omega)) (.atom rfl) (by omega)) ⟨rfl, rfl, T0⟩ ⟨rfl, T0⟩ ?_
            refine seq_nil ?_
            refine exr0 ?_
            refine sw (core_move (L _ rfl)) ⟨rfl, T0⟩ T0 ?_
            refine sw (core_sub (L _ rfl) (w64 (by omega) (by omega))) ⟨rfl, rfl, T0⟩ T0 ?_
            refine sw (core_assign (L _ rfl)) ⟨rfl, T0⟩ T0 ?_
            refine seq_nil ?_
            exact ⟨(i, val win % val Dv, val win / val Dv :: qs), key, (by simp only; omega), le_of ⟨(by first | exact rfl | exact oi (by omega) rfl), rfl, rfl, rfl, rfl, rfl, T0⟩ ⟨rfl, obl rfl (by rw [encW_set, q_set]), T0⟩⟩
          · have hb := ndf hb
            have e : q = val win / val Dv := by rw [← tr.1, if_pos hb]
            rw [e]
            refine ex_skip (show Exec _ _ _ _ _ from ?_)
            refine exr0 ?_
            refine sw (core_move (L _ rfl)) ⟨rfl, T0⟩ T0 ?_
            refine sw (core_move (L _ rfl)) ⟨rfl, T0⟩ T0 ?_
            refine sw (core_move (L _ rfl)) ⟨rfl, T0⟩ T0 ?_
            refine sw (core_conv Tryd.underlying52 Tryd.underlying53 (L _ rfl) (fu32 (by omega) (by omega))) ⟨rfl, T0⟩ T0 ?_
            refine sw (ixR0 Tryd.underlying22 Tryd.sizeOf53 (by exact (by simp; omega)) (j := i) (by first | exact rfl | omega) (by omega) (L _ rfl)) ⟨rfl, rfl, T0⟩ ⟨rfl, T0⟩ ?_
            refine sb (core_store1 Tryd.sizeOf53 (by exact (by simp; omega)) (.atom rfl) (by omega)) ⟨rfl, rfl, T0⟩ ⟨rfl, T0⟩ ?_
            refine seq_nil ?_
            refine exr0 ?_
            refine sw (core_move (L _ rfl)) ⟨rfl, T0⟩ T0 ?_
            refine sw (core_sub (L _ rfl) (w64 (by omega) (by omega))) ⟨rfl, rfl, T0⟩ T0 ?_
            refine sw (core_assign (L _ rfl)) ⟨rfl, T0⟩ T0 ?_
            refine seq_nil ?_
            exact ⟨(i, val win % val Dv, val win / val Dv :: qs), key, (by simp only; omega), le_of ⟨(by first | exact rfl | exact oi (by omega) rfl), rfl, rfl, rfl, rfl, rfl, T0⟩ ⟨rfl, obl rfl (by rw [encW_set, q_set]), T0⟩⟩
        · have he := df he
          have hr0 : r = 0 := by omega
          subst hr0
          have heq := hx.eq
          have hqw := hx.wd
          simp only [List.drop_zero] at heq hqw
          rw [hDv, hWv] at heq
          rw [hDv] at hr
          obtain ⟨pe1, pe2⟩ := part_end hv heq hr
          have hqs : qs = digN (ws.length - vs.length + 1) (val ws / val vs) := by
            rw [← pe1, show ws.length - vs.length + 1 = qs.length by omega]; exact (digN_val hqw).symm
          obtain ⟨X, hL⟩ : ∃ X, X = restAt W (m + 2) 0 R := ⟨_, rfl⟩
          have hLl : X.length = ws.length + 1 := by rw [hL, restAt_length (by omega), hWl]
          have hLw : Wd X := by rw [hL]; exact restAt_wd hWd
          have hL2 := hL
          rw [rest_zero] at hL2
          rw [← hL]
          refine ex_exit (show Exec _ _ _ _ _ from ?_)
          refine exr ?_
          refine sw (core_move (L _ rfl)) ⟨rfl, T0⟩ T0 ?_
          refine sw (core_move (L _ rfl)) ⟨rfl, T0⟩ T0 ?_
          refine sw (slR_hi Tryd.underlying22 Tryd.sizeOf53 rfl (by exact (by simp [restAt_length hle, hWl] <;> omega)) (h := vs.length) (by first | exact rfl | omega) (by omega) (L _ rfl)) ⟨rfl, rfl, T0⟩ ⟨rfl, T0⟩ ?_
          refine sw (core_assign (L _ rfl)) ⟨rfl, T0⟩ T0 ?_
          refine seq_nil ⟨[(4, _), (5, _), (10, _), (11, _)], [(66, _), (80, _)], ⟨rfl, rfl, rfl, rfl, T0⟩, ⟨rfl, rfl, T0⟩, ?_⟩
          refine ex_seq ?_
          refine exr ?_
          refine sw (core_move (L _ rfl)) ⟨rfl, T0⟩ T0 ?_
          refine sw (core_lenR Tryd.underlying22 (by exact (by simp [restAt_length hle, hWl] <;> omega)) (L _ rfl)) ⟨rfl, T0⟩ ⟨rfl, T0⟩ ?_
          refine sw (core_move (L _ rfl)) ⟨rfl, T0⟩ T0 ?_
          refine seq_nil ⟨[(4, _), (5, _), (10, _), (11, _), (138, _), (139, _)], [(66, _), (80, _)], ⟨rfl, rfl, rfl, rfl, rfl, rfl, T0⟩, ⟨rfl, rfl, T0⟩, ?_⟩
          refine ex_block ?_
          refine exl (α := (Nat × List Int)) (fun y => [(139, vi (y.1:Int))]) (fun y => [(66, ⟨53, 1, .pure (encW (y.2 ++ X.drop y.1))⟩)]) (fun y => UnAt X k y ∧ y.1 ≤ m + 2) (fun y => m + 2 - y.1) (((0 : Nat), ([] : List Int))) (sl := [(4, _), (5, _), (10, _), (11, _), (138, _)]) (hb := [(80, _)]) ?_ ⟨(by first | exact rfl | exact oi (by omega) rfl), rfl, rfl, rfl, rfl, rfl, T0⟩ ⟨obl rfl (by simp), rfl, T0⟩ ?_
          · exact ⟨UnAt.zero X k, Nat.zero_le _⟩
          intro y hy
          obtain ⟨j, ys⟩ := y
          obtain ⟨hy, hjl⟩ := hy
          have hyl := hy.len
          simp only at hyl hjl
          dsimp only
          refine exr ?_
          refine sw (core_lss (L _ rfl)) ⟨rfl, rfl, T0⟩ T0 ?_
          refine seq_nil ⟨[(4, _), (5, _), (10, _), (11, _), (138, _), (139, _), (140, _)], [(66, _), (80, _)], ⟨rfl, rfl, rfl, rfl, rfl, rfl, rfl, T0⟩, ⟨rfl, rfl, T0⟩, ?_⟩
          refine ex_seq ?_
          refine ex_if rfl (fun hf => ?_) (fun hf => ?_)
          · have hf := dt hf
            have u0 := hLw.getD j
            have u1 := hLw.getD (j + 1)
            have ub := shr_bd (s := k) (show 0 ≤ X.getD j 0 + X.getD (j + 1) 0 * 4294967296 by omega) (by omega)
            refine ex_skip (show Exec _ _ _ _ _ from ?_)
            refine ex_seq ?_
            refine ex_block ?_
            refine exr ?_
            refine sw (core_move (L _ rfl)) ⟨rfl, T0⟩ T0 ?_
            refine sw (core_assign (L _ rfl)) ⟨rfl, T0⟩ T0 ?_
            refine seq_nil ⟨[(4, _), (5, _), (10, _), (11, _), (16, _), (138, _), (139, _)], [(66, _), (80, _)], ⟨rfl, rfl, rfl, rfl, rfl, rfl, rfl, T0⟩, ⟨rfl, rfl, T0⟩, ?_⟩
            refine exd0 (by rfl) ?_
            refine sw (core_move (L _ rfl)) ⟨rfl, T0⟩ T0 ?_
            refine sw (core_move (L _ rfl)) ⟨rfl, T0⟩ T0 ?_
            refine sw (core_move (L _ rfl)) ⟨rfl, T0⟩ T0 ?_
            refine sw (core_move (L _ rfl)) ⟨rfl, T0⟩ T0 ?_
            refine sw (core_add (L _ rfl) (w64 (by omega) (by omega))) ⟨rfl, rfl, T0⟩ T0 ?_
            refine sw (ixR0 Tryd.underlying22 Tryd.sizeOf53 (by exact (by simp; omega)) (j := j + 1) (by first | exact rfl | omega) (by omega) (L _ rfl)) ⟨rfl, rfl, T0⟩ ⟨rfl, T0⟩ ?_
            refine sw (core_load1 Tryd.isAgg53 (by exact (by simp; omega)) (getC (getU (L := X) (p := j + 1) (q := j + 1) (i := 1) hyl rfl rfl (by omega))) (L _ rfl)) ⟨rfl, T0⟩ ⟨rfl, T0⟩ ?_
            refine sw (core_conv Tryd.underlying53 Tryd.underlying52 (L _ rfl) (fu64 (by omega) (by omega))) ⟨rfl, T0⟩ T0 ?_
            refine sw (core_shl (L _ rfl) (by decide) (shlE (c := 4294967296) (by rfl) (fu64 (by omega) (by omega)))) ⟨rfl, rfl, T0⟩ T0 ?_
            refine sw (core_move (L _ rfl)) ⟨rfl, T0⟩ T0 ?_
            refine sw (core_move (L _ rfl)) ⟨rfl, T0⟩ T0 ?_
            refine sw (ixR Tryd.underlying22 Tryd.sizeOf53 (by exact (by simp; omega)) (j := j) (by first | exact rfl | omega) (by omega) (L _ rfl)) ⟨rfl, rfl, T0⟩ ⟨rfl, T0⟩ ?_
            refine sw (core_load1 Tryd.isAgg53 (by exact (by simp; omega)) (getC (getU (L := X) (p := 0 + j) (q := j) (i := 0) hyl (by omega) rfl (by omega))) (L _ rfl)) ⟨rfl, T0⟩ ⟨rfl, T0⟩ ?_
            refine sw (core_conv Tryd.underlying53 Tryd.underlying52 (L _ rfl) (fu64 (by omega) (by omega))) ⟨rfl, T0⟩ T0 ?_
            refine sw (core_or (L _ rfl) (Eq.trans (or64' (b := X.getD (j + 1) 0) 32 rfl u0.1 u0.2 u1.1 (by decide) (by omega) (by omega)) (show _ = X.getD j 0 + X.getD (j + 1) 0 * 4294967296 by omega))) ⟨rfl, rfl, T0⟩ T0 ?_
            refine sw (core_move (L _ rfl)) ⟨rfl, T0⟩ T0 ?_
            refine sw (core_shr (L _ rfl) (by omega) (shr64k (by omega))) ⟨rfl, rfl, T0⟩ T0 ?_
            refine sw (core_conv Tryd.underlying52 Tryd.underlying53 (L _ rfl) wu32) ⟨rfl, T0⟩ T0 ?_
            refine sw (ixR Tryd.underlying22 Tryd.sizeOf53 (by exact (by simp; omega)) (j := j) (by first | exact rfl | omega) (by omega) (L _ rfl)) ⟨rfl, rfl, T0⟩ ⟨rfl, T0⟩ ?_
            refine sb (core_store1 Tryd.sizeOf53 (by exact (by simp; omega)) (.atom rfl) (by omega)) ⟨rfl, rfl, T0⟩ ⟨rfl, T0⟩ ?_
            refine seq_nil ⟨aoks [⟨[5], [], [142], []⟩, ⟨[16], [], [143], []⟩, ⟨[11], [], [144], []⟩, ⟨[16], [], [145], []⟩, ⟨[145], [], [146], []⟩, ⟨[144, 146], [66], [147], []⟩, ⟨[147], [66], [148], []⟩, ⟨[148], [], [149], []⟩, ⟨[149], [], [150], []⟩, ⟨[5], [], [151], []⟩, ⟨[16], [], [152], []⟩, ⟨[151, 152], [66], [153], []⟩, ⟨[153], [66], [154], []⟩, ⟨[154], [], [155], []⟩, ⟨[150, 155], [], [156], []⟩, ⟨[10], [], [157], []⟩, ⟨[156, 157], [], [158], []⟩, ⟨[158], [], [159], []⟩, ⟨[142, 143], [66], [160], []⟩, ⟨[160, 159], [66], [], [66]⟩] (by rfl) (by rfl) (by decide), ?_⟩
            refine exr0 ?_
            refine sw (core_add (L _ rfl) (w64 (by omega) (by omega))) ⟨rfl, rfl, T0⟩ T0 ?_
            refine sw (core_move (L _ rfl)) ⟨rfl, T0⟩ T0 ?_
            refine seq_nil ?_
            exact ⟨(j + 1, ys ++ [(X.getD j 0 + X.getD (j + 1) 0 * 4294967296) / 2 ^ k % 4294967296]), ⟨hy.next hLw (by omega) (by omega), by simp only; omega⟩, (by simp only; omega), le_of ⟨(by first | exact rfl | exact oi (by omega) rfl), rfl, rfl, rfl, rfl, rfl, T0⟩ ⟨obl rfl (by rw [encW_set, Nat.zero_add, tail_set hyl (by omega)]), rfl, T0⟩⟩
          · have hf := df hf
            have hj : j = m + 2 := by omega
            subst hj
            have hys := un_end hL2 hr.1 (by rw [← hDv] at hr; omega) hy
            rw [pe2] at hys
            refine ex_exit (show Exec _ _ _ _ _ from ?_)
            refine exr ?_
            refine sw (core_move (L _ rfl)) ⟨rfl, T0⟩ T0 ?_
            refine sw (core_move (L _ rfl)) ⟨rfl, T0⟩ T0 ?_
            refine sw (core_assign (L _ rfl)) ⟨rfl, T0⟩ T0 ?_
            refine sw (core_assign (L _ rfl)) ⟨rfl, T0⟩ T0 ?_
            refine seq_nil ⟨[(4, _), (5, _)], [(66, _), (80, _)], ⟨rfl, rfl, T0⟩, ⟨rfl, rfl, T0⟩, ?_⟩
            refine ex_cv [66, 80] (sl := [(4, _), (5, _)]) (hb := []) (own_none hX0) ⟨⟨_, rfl, (.ref rfl rfl (by exact (by simp; omega)) (by first | rfl | omega))⟩, ⟨_, rfl, (.refo rfl rfl (by exact (by simp; omega)) rfl)⟩, T0⟩ T0 ?_
            refine ex_ret ?_
            refine ⟨.inr rfl, ResVs.cast (.cons (.tmp rfl) (.cons (.tmp rfl) .nil)) ?_⟩
            simp only [partQ, partR, if_neg hc, if_neg hp, if_neg (show ¬ vs.length = 1 by omega)]; rw [← hqs, Nat.mul_one, List.drop_zero, encW_take, List.take_append_of_le_length (by omega), List.take_of_length_le (by omega), hys, hm]; simp [digN_length]; omega

end Go.Proofs.YtebkelnibecmjaaDoor.N
namespace Go.Proofs.YtebkelnibecmjaaDoor.N
open Go Go.Proofs.YtebkelnibecmjaaDoor.SH Go.Proofs.YtebkelnibecmjaaDoor.NumA
theorem z_ne {a b : Int} (h : a = b) : pZ a = pZ b := by rw [h]
set_option maxRecDepth 100000 in
set_option maxHeartbeats 4000000 in
theorem div_says (m n : Bool) (ws vs : List Int) (hl : ws.length < 99999999) (hl2 : vs.length < 99999999) (h : Wd ws) (h2 : Wd vs) : Says E 31 [pI m ws, pI n vs] (.tup [pZ (dQ m n ws vs), pZ (dR m n ws vs), vZ (dE m n ws vs)]) := by
  refine says_of (xs := [pZ (dQ m n ws vs), pZ (dR m n ws vs), vZ (dE m n ws vs)]) Tryd.func31 rfl Tryd.ntmps31 Tryd.results31 (by simp) fun F hG hX0 hnt hdf P0 => ?_
  have L := ltn hnt
  have hX : ∀ b, F.X b → E.ng ≤ b := fun b h => absurd h (hX0 b)
  have hN := ng_le hG
  refine exr ?_
  refine swb (core_box (k := 2) (n := 2) (.pagg (.cons (.cons .nil))) rfl rfl (P0 _ rfl) (L _ rfl)) ⟨rfl, T0⟩ T0 ⟨rfl, rfl⟩ ?_
  refine swb (core_box (k := 3) (n := 2) (.pagg (.cons (.cons .nil))) rfl rfl (P0 _ rfl) (L _ rfl)) ⟨rfl, T0⟩ T0 ⟨rfl, rfl⟩ ?_
  refine swb (core_alloc (k := 4) (n := 2) Tryd.zeroValue24 (.cons rfl (.cons rfl .nil)) rfl (P0 _ rfl) (L _ rfl)) trivial trivial ⟨rfl, rfl⟩ ?_
  refine swb (core_alloc (k := 5) (n := 2) Tryd.zeroValue24 (.cons rfl (.cons rfl .nil)) rfl (P0 _ rfl) (L _ rfl)) trivial trivial ⟨rfl, rfl⟩ ?_
  refine sw (core_assign (L _ rfl)) ⟨rfl, T0⟩ T0 ?_
  refine seq_nil ⟨[(2, _), (3, _), (4, _), (5, _)], [(2, _), (3, _), (4, _), (5, _)], ⟨rfl, rfl, rfl, rfl, T0⟩, ⟨rfl, rfl, rfl, rfl, T0⟩, ?_⟩
  refine ex_seq ?_
  refine exr ?_
  refine sw (core_loadP Tryd.isAgg24 Tryd.sizeOf24 (by rfl) (by exact (.cons (.cons .nil))) rfl (L _ rfl)) ⟨rfl, T0⟩ ⟨rfl, T0⟩ ?_
  refine sw (core_loadP Tryd.isAgg24 Tryd.sizeOf24 (by rfl) (by exact (.cons (.cons .nil))) rfl (L _ rfl)) ⟨rfl, T0⟩ ⟨rfl, T0⟩ ?_
  refine sw (core_bsI (vs := [_, _]) Tryd.underlying78 Tryd.typeInfo24 rfl rfl (by decide) (by decide) rfl (zs_made (.cons rfl (.cons rfl .nil)) rfl) rfl (.cons rfl (.pagg (.cons (.cons .nil))) rfl (.put (.put .here)) (.cons rfl (.pagg (.cons (.cons .nil))) rfl (.skip (.skip (.put (.put .here)))) .nil)) (.cons (.cons (.cons (.cons .nil)))) (L _ rfl)) ⟨rfl, rfl, T0⟩ T0 ?_
  refine sw (core_call (E := E) hG hX Tryd.call59 rfl hN (all_says [(m, ws), (n, vs)] (by simp) (by simp; omega)) (L _ rfl)) ⟨rfl, T0⟩ T0 ?_
  refine sw (core_not (L _ rfl)) ⟨rfl, T0⟩ T0 ?_
  refine seq_nil ⟨[(2, _), (3, _), (4, _), (5, _), (13, _)], [(2, _), (3, _), (4, _), (5, _)], ⟨rfl, rfl, rfl, rfl, rfl, T0⟩, ⟨rfl, rfl, rfl, rfl, T0⟩, ?_⟩
  refine ex_if rfl (fun hc => ?_) (fun hc => ?_)
  · have hc : ¬ (canon m ws = true ∧ canon n vs = true) := by rintro ⟨h1, h2⟩; simp [h1, h2] at hc
    refine exr ?_
    refine sw (core_pc (core_buildP (vs := []) Tryd.underlying24 Tryd.zeroValue24 (.cons rfl (.cons rfl .nil)) ((Places.cons Tryd.sizeOf4 (Places.cons Tryd.sizeOf22 Places.nil))).to rfl .nil (.cons (.cons .nil)) (L _ rfl)) (.agg (.cons .same (.cons .nil .nil)))) T0 T0 ?_
    refine sw (core_pc (core_buildP (vs := []) Tryd.underlying24 Tryd.zeroValue24 (.cons rfl (.cons rfl .nil)) ((Places.cons Tryd.sizeOf4 (Places.cons Tryd.sizeOf22 Places.nil))).to rfl .nil (.cons (.cons .nil)) (L _ rfl)) (.agg (.cons .same (.cons .nil .nil)))) T0 T0 ?_
    refine sb (core_storeM Tryd.sizeOf24 (by rfl) (.pagg (.cons (.cons .nil))) rfl (.put (.put .here))) ⟨rfl, rfl, T0⟩ ⟨rfl, T0⟩ ?_
    refine sb (core_storeM Tryd.sizeOf24 (by rfl) (.pagg (.cons (.cons .nil))) rfl (.put (.put .here))) ⟨rfl, rfl, T0⟩ ⟨rfl, T0⟩ ?_
    refine sw (core_assign (L _ rfl)) ⟨rfl, T0⟩ T0 ?_
    refine seq_nil ⟨[(4, _), (5, _), (6, _)], [(4, _), (5, _)], ⟨rfl, rfl, rfl, T0⟩, ⟨rfl, rfl, T0⟩, ?_⟩
    refine ex_ret ?_
    refine ⟨.inr rfl, ResVs.cast (.cons (.agg rfl rfl rfl Tryd.isAgg24 Tryd.sizeOf24 (.cons (.cons .nil))) (.cons (.agg rfl rfl rfl Tryd.isAgg24 Tryd.sizeOf24 (.cons (.cons .nil))) (.cons (.tmp rfl) .nil))) ?_⟩
    rw [dQ, dR, dE, if_neg hc, if_neg (fun hh => hc ⟨hh.1, hh.2.1⟩), if_neg hc, pZ_zero]; rfl
  · have hc : canon m ws = true ∧ canon n vs = true := by simpa using hc
    have ht := (canon_tr hc.1).1
    have ht2 := (canon_tr hc.2).1
    refine ex_skip (show Exec _ _ _ _ _ from ?_)
    refine ex_seq ?_
    refine exr ?_
    refine sw (core_fieldAddr Tryd.underlying24 rfl Tryd.sizeOf22 (by decide) (by exact rfl) (L _ rfl)) ⟨rfl, T0⟩ ⟨rfl, T0⟩ ?_
    refine sw (core_load1 Tryd.isAgg22 (by rfl) (by rfl) (L _ rfl)) ⟨rfl, T0⟩ ⟨rfl, T0⟩ ?_
    refine sw (core_len Tryd.underlying22 (L _ rfl)) ⟨rfl, T0⟩ T0 ?_
    refine sw (core_eql (L _ rfl)) ⟨rfl, rfl, T0⟩ T0 ?_
    refine seq_nil ⟨[(2, _), (3, _), (4, _), (5, _), (19, _)], [(2, _), (3, _), (4, _), (5, _)], ⟨rfl, rfl, rfl, rfl, rfl, T0⟩, ⟨rfl, rfl, rfl, rfl, T0⟩, ?_⟩
    refine ex_if rfl (fun hz => ?_) (fun hz => ?_)
    · have hz := dt hz
      have e : vs = [] := List.eq_nil_of_length_eq_zero (by omega)
      subst e
      have e0 : sg n (val []) = 0 := by cases n <;> rfl
      refine exr ?_
      refine sw (core_pc (core_buildP (vs := []) Tryd.underlying24 Tryd.zeroValue24 (.cons rfl (.cons rfl .nil)) ((Places.cons Tryd.sizeOf4 (Places.cons Tryd.sizeOf22 Places.nil))).to rfl .nil (.cons (.cons .nil)) (L _ rfl)) (.agg (.cons .same (.cons .nil .nil)))) T0 T0 ?_
      refine sw (core_pc (core_buildP (vs := []) Tryd.underlying24 Tryd.zeroValue24 (.cons rfl (.cons rfl .nil)) ((Places.cons Tryd.sizeOf4 (Places.cons Tryd.sizeOf22 Places.nil))).to rfl .nil (.cons (.cons .nil)) (L _ rfl)) (.agg (.cons .same (.cons .nil .nil)))) T0 T0 ?_
      refine sb (core_storeM Tryd.sizeOf24 (by rfl) (.pagg (.cons (.cons .nil))) rfl (.put (.put .here))) ⟨rfl, rfl, T0⟩ ⟨rfl, T0⟩ ?_
      refine sb (core_storeM Tryd.sizeOf24 (by rfl) (.pagg (.cons (.cons .nil))) rfl (.put (.put .here))) ⟨rfl, rfl, T0⟩ ⟨rfl, T0⟩ ?_
      refine sw (core_assign (L _ rfl)) ⟨rfl, T0⟩ T0 ?_
      refine seq_nil ⟨[(4, _), (5, _), (6, _)], [(4, _), (5, _)], ⟨rfl, rfl, rfl, T0⟩, ⟨rfl, rfl, T0⟩, ?_⟩
      refine ex_ret ?_
      refine ⟨.inr rfl, ResVs.cast (.cons (.agg rfl rfl rfl Tryd.isAgg24 Tryd.sizeOf24 (.cons (.cons .nil))) (.cons (.agg rfl rfl rfl Tryd.isAgg24 Tryd.sizeOf24 (.cons (.cons .nil))) (.cons (.tmp rfl) .nil))) ?_⟩
      rw [dQ, dR, dE, if_pos hc, if_neg (fun hh => hh.2.2 rfl), if_pos hc, if_pos (show ([] : List Int).length = 0 from rfl), e0, Int.ediv_zero, pZ_zero]; rfl
    · have hz := df hz
      have hv := val_pos h2 ht2 (by omega)
      have a0 := val_nonneg h
      have ps := part_spec h h2 ht ht2 hv
      have r0 := Int.emod_nonneg (val ws) (show val vs ≠ 0 by omega)
      have q0 := Int.ediv_nonneg a0 (Int.le_of_lt hv)
      have r1 := Int.emod_lt_of_pos (val ws) hv
      have q1 := Int.ediv_le_self (val vs) a0
      have dsg := div_sg (m := m) (n := n) a0 hv
      have hQ : dQ m n ws vs = sg m (val ws) / sg n (val vs) := by rw [dQ, if_pos hc]
      have hR : dR m n ws vs = sg m (val ws) % sg n (val vs) := by rw [dR, if_pos ⟨hc.1, hc.2, by omega⟩]
      have hE : dE m n ws vs = 0 := by rw [dE, if_pos hc, if_neg (by omega)]
      rw [hQ, hR, hE, dsg.1, dsg.2]
      refine ex_skip (show Exec _ _ _ _ _ from ?_)
      refine exr ?_
      refine sw (core_fieldAddr Tryd.underlying24 rfl Tryd.sizeOf22 (by decide) (by exact rfl) (L _ rfl)) ⟨rfl, T0⟩ ⟨rfl, T0⟩ ?_
      refine sw (core_load1 Tryd.isAgg22 (by rfl) (by rfl) (L _ rfl)) ⟨rfl, T0⟩ ⟨rfl, T0⟩ ?_
      refine sw (core_fieldAddr Tryd.underlying24 rfl Tryd.sizeOf22 (by decide) (by exact rfl) (L _ rfl)) ⟨rfl, T0⟩ ⟨rfl, T0⟩ ?_
      refine sw (core_load1 Tryd.isAgg22 (by rfl) (by rfl) (L _ rfl)) ⟨rfl, T0⟩ ⟨rfl, T0⟩ ?_
      refine sw (core_call (E := E) hG hX Tryd.call63 rfl hN (parted_says ws vs (by omega) (by omega) h h2 ht ht2 hv) (L _ rfl)) ⟨rfl, rfl, T0⟩ T0 ?_
      refine sw (core_move (L _ rfl)) ⟨rfl, T0⟩ T0 ?_
      refine sw (core_extract rfl (L _ rfl)) ⟨rfl, T0⟩ T0 ?_
      refine sw (core_extract rfl (L _ rfl)) ⟨rfl, T0⟩ T0 ?_
      refine sw (core_assign (L _ rfl)) ⟨rfl, T0⟩ T0 ?_
      refine sw (core_assign (L _ rfl)) ⟨rfl, T0⟩ T0 ?_
      refine seq_nil ⟨[(2, _), (3, _), (4, _), (5, _), (7, _), (8, _)], [(2, _), (3, _), (4, _), (5, _)], ⟨rfl, rfl, rfl, rfl, rfl, rfl, T0⟩, ⟨rfl, rfl, rfl, rfl, T0⟩, ?_⟩
      refine exr ?_
      refine sw (core_fieldAddr Tryd.underlying24 rfl Tryd.sizeOf4 (by decide) (by exact rfl) (L _ rfl)) ⟨rfl, T0⟩ ⟨rfl, T0⟩ ?_
      refine sw (core_load1 Tryd.isAgg4 (by rfl) (by rfl) (L _ rfl)) ⟨rfl, T0⟩ ⟨rfl, T0⟩ ?_
      refine sw (core_fieldAddr Tryd.underlying24 rfl Tryd.sizeOf4 (by decide) (by exact rfl) (L _ rfl)) ⟨rfl, T0⟩ ⟨rfl, T0⟩ ?_
      refine sw (core_load1 Tryd.isAgg4 (by rfl) (by rfl) (L _ rfl)) ⟨rfl, T0⟩ ⟨rfl, T0⟩ ?_
      refine sw (core_bne Tryd.underlying4 (L _ rfl)) ⟨rfl, rfl, T0⟩ T0 ?_
      refine sw (core_move (L _ rfl)) ⟨rfl, T0⟩ T0 ?_
      refine sw (core_call (E := E) hG hX Tryd.call62 rfl hN (made_says (m != n) (partQ ws vs) (by omega) ps.1) (L _ rfl)) ⟨rfl, rfl, T0⟩ T0 ?_
      refine sw (core_move (L _ rfl)) ⟨rfl, T0⟩ T0 ?_
      refine sw (core_call (E := E) hG hX Tryd.call62 rfl hN (made_says false (partR ws vs) (by omega) ps.2.1) (L _ rfl)) ⟨rfl, rfl, T0⟩ T0 ?_
      refine sb (core_storeM Tryd.sizeOf24 (by rfl) (.pagg (.cons (.cons .nil))) rfl (.put (.put .here))) ⟨rfl, rfl, T0⟩ ⟨rfl, T0⟩ ?_
      refine sb (core_storeM Tryd.sizeOf24 (by rfl) (.pagg (.cons (.cons .nil))) rfl (.put (.put .here))) ⟨rfl, rfl, T0⟩ ⟨rfl, T0⟩ ?_
      refine seq_nil ⟨[(2, _), (3, _), (4, _), (5, _)], [(2, _), (3, _), (4, _), (5, _)], ⟨rfl, rfl, rfl, rfl, T0⟩, ⟨rfl, rfl, rfl, rfl, T0⟩, ?_⟩
      rw [ps.2.2.1, ps.2.2.2.1]
      refine ex_seq ?_
      refine exm (sl := [(47, vb (decide (¬ (m = true ∧ val ws % val vs ≠ 0))))]) (sl0 := [(2, _), (3, _), (4, _), (5, _)]) (hb := []) (hb0 := [(2, _), (3, _), (4, _), (5, _)]) ⟨rfl, rfl, rfl, rfl, T0⟩ ⟨rfl, rfl, rfl, rfl, T0⟩ ?_ ?_
      · by_cases hm : m = true
        · refine sw (core_fieldAddr Tryd.underlying24 rfl Tryd.sizeOf4 (by decide) (by exact rfl) (L _ rfl)) ⟨rfl, T0⟩ ⟨rfl, T0⟩ ?_
          refine sw (core_load1 Tryd.isAgg4 (by rfl) (by rfl) (L _ rfl)) ⟨rfl, T0⟩ ⟨rfl, T0⟩ ?_
          refine sw (core_not (L _ rfl)) ⟨rfl, T0⟩ T0 ?_
          refine sw (core_move (L _ rfl)) ⟨rfl, T0⟩ T0 ?_
          refine swg (g := 42) rfl (by simp [hm]) (core_fieldAddr Tryd.underlying24 rfl Tryd.sizeOf22 (by decide) (by exact rfl) (L _ rfl)) rfl ⟨rfl, T0⟩ ⟨rfl, T0⟩ ?_
          refine swg (g := 42) rfl (by simp [hm]) (core_load1 Tryd.isAgg22 (by rfl) (by rfl) (L _ rfl)) rfl ⟨rfl, T0⟩ ⟨rfl, T0⟩ ?_
          refine swg (g := 42) rfl (by simp [hm]) (core_len Tryd.underlying22 (L _ rfl)) rfl ⟨rfl, T0⟩ T0 ?_
          refine swg (g := 42) rfl (by simp [hm]) (core_eql (L _ rfl)) rfl ⟨rfl, rfl, T0⟩ T0 ?_
          refine sw (core_pick_f (by simp [hm]) (L _ rfl)) ⟨rfl, rfl, T0⟩ T0 ?_
          exact seq_nil ⟨⟨ob rfl (dec_eq (by simp only [hm, true_and, Decidable.not_not, ne_eq]; have := digs_len_zero (n := (sg false (val ws % val vs)).natAbs); have := sg_abs (m := false) r0; omega)), rfl, rfl, rfl, rfl, T0⟩, ⟨rfl, rfl, rfl, rfl, T0⟩⟩
        · refine sw (core_fieldAddr Tryd.underlying24 rfl Tryd.sizeOf4 (by decide) (by exact rfl) (L _ rfl)) ⟨rfl, T0⟩ ⟨rfl, T0⟩ ?_
          refine sw (core_load1 Tryd.isAgg4 (by rfl) (by rfl) (L _ rfl)) ⟨rfl, T0⟩ ⟨rfl, T0⟩ ?_
          refine sw (core_not (L _ rfl)) ⟨rfl, T0⟩ T0 ?_
          refine sw (core_move (L _ rfl)) ⟨rfl, T0⟩ T0 ?_
          refine swn (g := 42) rfl (by simp [hm]) (L _ rfl) rfl ?_
          refine swn (g := 42) rfl (by simp [hm]) (L _ rfl) rfl ?_
          refine swn (g := 42) rfl (by simp [hm]) (L _ rfl) rfl ?_
          refine swn (g := 42) rfl (by simp [hm]) (L _ rfl) rfl ?_
          refine sw (core_pick_t (by simp [hm]) (L _ rfl)) ⟨rfl, rfl, T0⟩ T0 ?_
          exact seq_nil ⟨⟨ob rfl (by simp [hm]), rfl, rfl, rfl, rfl, T0⟩, ⟨rfl, rfl, rfl, rfl, T0⟩⟩
      refine ex_if rfl (fun hd => ?_) (fun hd => ?_)
      · have hd := dt hd
        rw [if_neg hd, if_neg hd]
        refine exd (by rfl) ?_
        refine sw (core_loadP Tryd.isAgg24 Tryd.sizeOf24 (by rfl) (by exact (.cons (.cons .nil))) rfl (L _ rfl)) ⟨rfl, T0⟩ ⟨rfl, T0⟩ ?_
        refine sw (core_loadP Tryd.isAgg24 Tryd.sizeOf24 (by rfl) (by exact (.cons (.cons .nil))) rfl (L _ rfl)) ⟨rfl, T0⟩ ⟨rfl, T0⟩ ?_
        refine sb (core_storeM Tryd.sizeOf24 (by rfl) (.pagg (.cons (.cons .nil))) rfl (.put (.put .here))) ⟨rfl, rfl, T0⟩ ⟨rfl, T0⟩ ?_
        refine sb (core_storeM Tryd.sizeOf24 (by rfl) (.pagg (.cons (.cons .nil))) rfl (.put (.put .here))) ⟨rfl, rfl, T0⟩ ⟨rfl, T0⟩ ?_
        refine sw (core_assign (L _ rfl)) ⟨rfl, T0⟩ T0 ?_
        refine seq_nil ⟨aoks [⟨[4], [4], [48], []⟩, ⟨[5], [5], [49], []⟩, ⟨[4, 48], [4], [], [4]⟩, ⟨[5, 49], [5], [], [5]⟩, ⟨[], [], [6], []⟩] (by rfl) (by rfl) (by decide), [(4, _), (5, _), (6, _)], [(4, _), (5, _)], ⟨rfl, rfl, rfl, T0⟩, ⟨rfl, rfl, T0⟩, ?_⟩
        refine ex_ret ?_
        refine ⟨.inr rfl, ResVs.cast (.cons (.agg rfl rfl rfl Tryd.isAgg24 Tryd.sizeOf24 (.cons (.cons .nil))) (.cons (.agg rfl rfl rfl Tryd.isAgg24 Tryd.sizeOf24 (.cons (.cons .nil))) (.cons (.tmp rfl) .nil))) ?_⟩
        rfl
      · have hd := Decidable.not_not.1 (df hd)
        rw [if_pos hd, if_pos hd]
        have hql : (digs (sg (m != n) (val ws / val vs)).natAbs).length < 999999999 := by
          have := nw_val (m := m != n) ps.1
          rw [ps.2.2.1] at this
          unfold nw at this; omega
        have hrl : (digs (sg false (val ws % val vs)).natAbs).length < 999999999 := by
          have := nw_val (m := false) ps.2.1
          rw [ps.2.2.2.1] at this
          unfold nw at this; omega
        have hbl : (digs ((sg n (val vs)).natAbs : Int).natAbs).length < 999999999 := by
          have := nw_val (m := n) h2
          unfold nw at this
          rw [show ((sg n (val vs)).natAbs : Int).natAbs = (sg n (val vs)).natAbs by simp]; omega
        refine ex_skip (show Exec _ _ _ _ _ from ?_)
        refine exr ?_
        refine sw (core_fieldAddr Tryd.underlying24 rfl Tryd.sizeOf22 (by decide) (by exact rfl) (L _ rfl)) ⟨rfl, T0⟩ ⟨rfl, T0⟩ ?_
        refine sw (core_load1 Tryd.isAgg22 (by rfl) (by rfl) (L _ rfl)) ⟨rfl, T0⟩ ⟨rfl, T0⟩ ?_
        refine sw (core_fieldAddr Tryd.underlying24 rfl Tryd.sizeOf4 (by decide) (by exact rfl) (L _ rfl)) ⟨rfl, T0⟩ ⟨rfl, T0⟩ ?_
        refine sw (core_load1 Tryd.isAgg4 (by rfl) (by rfl) (L _ rfl)) ⟨rfl, T0⟩ ⟨rfl, T0⟩ ?_
        refine sw (core_fieldAddr Tryd.underlying24 rfl Tryd.sizeOf4 (by decide) (by exact rfl) (L _ rfl)) ⟨rfl, T0⟩ ⟨rfl, T0⟩ ?_
        refine sw (core_load1 Tryd.isAgg4 (by rfl) (by rfl) (L _ rfl)) ⟨rfl, T0⟩ ⟨rfl, T0⟩ ?_
        refine sw (core_bne Tryd.underlying4 (L _ rfl)) ⟨rfl, rfl, T0⟩ T0 ?_
        refine sw (core_bsI (vs := [_]) Tryd.underlying22 Tryd.typeInfo53 rfl rfl (by decide) (by decide) rfl (zs_made (.cons rfl .nil) rfl) rfl (.cons rfl (.atom rfl) rfl (.put .here) .nil) (.cons .nil) (L _ rfl)) ⟨rfl, T0⟩ T0 ?_
        refine sw (core_fieldAddr Tryd.underlying24 rfl Tryd.sizeOf4 (by decide) (by exact rfl) (L _ rfl)) ⟨rfl, T0⟩ ⟨rfl, T0⟩ ?_
        refine sw (core_load1 Tryd.isAgg4 (by rfl) (by rfl) (L _ rfl)) ⟨rfl, T0⟩ ⟨rfl, T0⟩ ?_
        refine sw (core_fieldAddr Tryd.underlying24 rfl Tryd.sizeOf4 (by decide) (by exact rfl) (L _ rfl)) ⟨rfl, T0⟩ ⟨rfl, T0⟩ ?_
        refine sw (core_load1 Tryd.isAgg4 (by rfl) (by rfl) (L _ rfl)) ⟨rfl, T0⟩ ⟨rfl, T0⟩ ?_
        refine sw (core_bne Tryd.underlying4 (L _ rfl)) ⟨rfl, rfl, T0⟩ T0 ?_
        refine sw (core_call (E := E) hG hX Tryd.call64 rfl hN (signed_says (digs (sg (m != n) (val ws / val vs)).natAbs) [1] (m != n) (m != n) hql (by simp) (wd_digs _) (by simp [Wd]) (digs_tr _) (by simp [Tr])) (L _ rfl)) ⟨rfl, rfl, rfl, rfl, T0⟩ T0 ?_
        refine sb (core_storeM Tryd.sizeOf24 (by rfl) (.pagg (.cons (.cons .nil))) rfl (.put (.put .here))) ⟨rfl, rfl, T0⟩ ⟨rfl, T0⟩ ?_
        refine seq_nil ⟨[(3, _), (4, _), (5, _)], [(3, _), (4, _), (5, _)], ⟨rfl, rfl, rfl, T0⟩, ⟨rfl, rfl, rfl, T0⟩, ?_⟩
        rw [val_digs_sg q0]
        refine exd (by rfl) ?_
        refine sw (core_loadP Tryd.isAgg24 Tryd.sizeOf24 (by rfl) (by exact (.cons (.cons .nil))) rfl (L _ rfl)) ⟨rfl, T0⟩ ⟨rfl, T0⟩ ?_
        refine sw (core_loadP Tryd.isAgg24 Tryd.sizeOf24 (by rfl) (by exact (.cons (.cons .nil))) rfl (L _ rfl)) ⟨rfl, T0⟩ ⟨rfl, T0⟩ ?_
        refine sw (core_call (E := E) hG hX Tryd.call29 rfl hN (abs_says n vs (by omega) h2) (L _ rfl)) ⟨rfl, T0⟩ T0 ?_
        refine sw (core_loadP Tryd.isAgg24 Tryd.sizeOf24 (by rfl) (by exact (.cons (.cons .nil))) rfl (L _ rfl)) ⟨rfl, T0⟩ ⟨rfl, T0⟩ ?_
        refine sw (core_call (E := E) hG hX Tryd.call37 rfl hN (sub_says (decide ((if canon n vs = true then ((sg n (val vs)).natAbs : Int) else 0) < 0)) (decide (sg false (val ws % val vs) < 0)) (digs (if canon n vs = true then ((sg n (val vs)).natAbs : Int) else 0).natAbs) (digs (sg false (val ws % val vs)).natAbs) (by rw [if_pos hc.2]; exact hbl) hrl (wd_digs _) (wd_digs _)) (L _ rfl)) ⟨rfl, rfl, T0⟩ T0 ?_
        refine sb (core_storeM Tryd.sizeOf24 (by rfl) (.pagg (.cons (.cons .nil))) rfl (.put (.put .here))) ⟨rfl, rfl, T0⟩ ⟨rfl, T0⟩ ?_
        refine sb (core_storeM Tryd.sizeOf24 (by rfl) (.pagg (.cons (.cons .nil))) rfl (.put (.put .here))) ⟨rfl, rfl, T0⟩ ⟨rfl, T0⟩ ?_
        refine sw (core_assign (L _ rfl)) ⟨rfl, T0⟩ T0 ?_
        refine seq_nil ⟨aoks [⟨[4], [4], [64], []⟩, ⟨[3], [3], [65], []⟩, ⟨[65], [], [66], []⟩, ⟨[5], [5], [67], []⟩, ⟨[66, 67], [], [68], []⟩, ⟨[4, 64], [4], [], [4]⟩, ⟨[5, 68], [5], [], [5]⟩, ⟨[], [], [6], []⟩] (by rfl) (by rfl) (by decide), [(4, _), (5, _), (6, _)], [(4, _), (5, _)], ⟨rfl, rfl, rfl, T0⟩, ⟨rfl, rfl, T0⟩, ?_⟩
        refine ex_ret ?_
        refine ⟨.inr rfl, ResVs.cast (.cons (.agg rfl rfl rfl Tryd.isAgg24 Tryd.sizeOf24 (.cons (.cons .nil))) (.cons (.agg rfl rfl rfl Tryd.isAgg24 Tryd.sizeOf24 (.cons (.cons .nil))) (.cons (.tmp rfl) .nil))) ?_⟩
        rw [if_pos ⟨canon_digs _, canon_digs _⟩, sg_digs, sg_digs, if_pos hc.2, sg_abs (Int.le_of_lt hv), ← sg_add]; simp [val, sg]

end Go.Proofs.YtebkelnibecmjaaDoor.N
namespace Go.Proofs.YtebkelnibecmjaaDoor.N
open Go Go.Proofs.YtebkelnibecmjaaDoor.SH Go.Proofs.YtebkelnibecmjaaDoor.NumA
@[reducible] def bI (a : Int) : Blk := ⟨24, 2, .mix [.p (.a (.bool (decide (a < 0)))), .p (.sl (digs a.natAbs).length (encW (digs a.natAbs)))]⟩
theorem addZ (a b : Int) (ha : nw a < 99999999) (hb : nw b < 99999999) : Says E 35 [pZ a, pZ b] (pZ (a + b)) := by
  have := add_says (decide (a < 0)) (decide (b < 0)) (digs a.natAbs) (digs b.natAbs) (by unfold nw at ha; omega) (by unfold nw at hb; omega) (wd_digs _) (wd_digs _)
  rwa [if_pos ⟨canon_digs a, canon_digs b⟩, sg_digs, sg_digs] at this
theorem subZ (a b : Int) (ha : nw a < 99999999) (hb : nw b < 99999999) : Says E 37 [pZ a, pZ b] (pZ (a - b)) := by
  have := sub_says (decide (a < 0)) (decide (b < 0)) (digs a.natAbs) (digs b.natAbs) (by unfold nw at ha; omega) (by unfold nw at hb; omega) (wd_digs _) (wd_digs _)
  rwa [if_pos ⟨canon_digs a, canon_digs b⟩, sg_digs, sg_digs] at this
theorem mulZ (a b : Int) (ha : nw a < 99999999) (hb : nw b < 99999999) : Says E 39 [pZ a, pZ b] (pZ (a * b)) := by
  have := mul_says (decide (a < 0)) (decide (b < 0)) (digs a.natAbs) (digs b.natAbs) (by unfold nw at ha; omega) (by unfold nw at hb; omega) (wd_digs _) (wd_digs _)
  rwa [if_pos ⟨canon_digs a, canon_digs b⟩, sg_digs, sg_digs] at this
theorem divZ (a b : Int) (ha : nw a < 99999999) (hb : nw b < 99999999) (h0 : b ≠ 0) : Says E 31 [pZ a, pZ b] (.tup [pZ (a / b), pZ (a % b), vZ 0]) := by
  have := div_says (decide (a < 0)) (decide (b < 0)) (digs a.natAbs) (digs b.natAbs) ha hb (wd_digs _) (wd_digs _)
  have hl : (digs b.natAbs).length ≠ 0 := by rw [Ne, digs_len_zero]; omega
  rwa [dQ, dR, dE, if_pos ⟨canon_digs a, canon_digs b⟩, if_pos ⟨canon_digs a, canon_digs b, hl⟩, if_pos ⟨canon_digs a, canon_digs b⟩, if_neg hl, sg_digs, sg_digs] at this
theorem negZ (a : Int) (ha : nw a < 99999999) : Says E 27 [pZ a] (pZ (-a)) := by
  have := neg_says (decide (a < 0)) (digs a.natAbs) (by unfold nw at ha; omega) (wd_digs _)
  rwa [if_pos (canon_digs a), sg_digs] at this
theorem absZ (a : Int) (ha : nw a < 99999999) : Says E 29 [pZ a] (pZ a.natAbs) := by
  have := abs_says (decide (a < 0)) (digs a.natAbs) (by unfold nw at ha; omega) (wd_digs _)
  rwa [if_pos (canon_digs a), sg_digs] at this
theorem signZ (a : Int) (ha : nw a < 99999999) : Says E 23 [pZ a] (vZ a.sign) := by
  have := sign_says (decide (a < 0)) (digs a.natAbs) (by unfold nw at ha; omega) (wd_digs _)
  rwa [if_pos (canon_digs a), sg_digs] at this
theorem cmpZ (a b : Int) (ha : nw a < 99999999) (hb : nw b < 99999999) : Says E 25 [pZ a, pZ b] (vZ (cmpI a b)) := by
  have := cmp_says (decide (a < 0)) (decide (b < 0)) (digs a.natAbs) (digs b.natAbs) (by unfold nw at ha; omega) (by unfold nw at hb; omega) (wd_digs _) (wd_digs _)
  rwa [if_pos ⟨canon_digs a, canon_digs b⟩, sg_digs, sg_digs] at this
theorem isZ (a : Int) (ha : nw a < 99999999) : Says E 16 [pZ a] (bZ true) := by
  have := is_says (decide (a < 0)) (digs a.natAbs) (by unfold nw at ha; omega)
  rwa [canon_digs a] at this
theorem bitsZ (a : Int) (ha : nw a < 99999999) : Says E 21 [pZ a] (vZ (bl a.natAbs : Nat)) := by
  have := bits_says (decide (a < 0)) (digs a.natAbs) (by unfold nw at ha; omega) (wd_digs _)
  rwa [if_pos (canon_digs a), val_digs, Int.toNat_natCast] at this
theorem parted_r (x y : Nat) (hy : 0 < y) : val (partR (digs x) (digs y)) = ((x % y : Nat) : Int) := by
  have := (part_spec (wd_digs x) (wd_digs y) (digs_tr x) (digs_tr y) (by rw [val_digs]; omega)).2.2.2.1
  rw [this, val_digs, val_digs]; rfl
set_option maxRecDepth 100000 in
set_option maxHeartbeats 4000000 in
theorem gcd_says (m n : Bool) (ws vs : List Int) (hl : ws.length < 9999999) (hl2 : vs.length < 9999999) (h : Wd ws) (h2 : Wd vs) : Says E 41 [pI m ws, pI n vs] (pZ (if canon m ws = true ∧ canon n vs = true then (Int.gcd (sg m (val ws)) (sg n (val vs)) : Int) else 0)) := by
  refine says_of (xs := [pZ (if canon m ws = true ∧ canon n vs = true then (Int.gcd (sg m (val ws)) (sg n (val vs)) : Int) else 0)]) Tryd.func41 rfl Tryd.ntmps41 Tryd.results41 (by simp) fun F hG hX0 hnt hdf P0 => ?_
  have L := ltn hnt
  have hX : ∀ b, F.X b → E.ng ≤ b := fun b h => absurd h (hX0 b)
  have hN := ng_le hG
  refine exr ?_
  refine swb (core_box (k := 2) (n := 2) (.pagg (.cons (.cons .nil))) rfl rfl (P0 _ rfl) (L _ rfl)) ⟨rfl, T0⟩ T0 ⟨rfl, rfl⟩ ?_
  refine swb (core_box (k := 3) (n := 2) (.pagg (.cons (.cons .nil))) rfl rfl (P0 _ rfl) (L _ rfl)) ⟨rfl, T0⟩ T0 ⟨rfl, rfl⟩ ?_
  refine swb (core_alloc (k := 4) (n := 2) Tryd.zeroValue24 (.cons rfl (.cons rfl .nil)) rfl (P0 _ rfl) (L _ rfl)) trivial trivial ⟨rfl, rfl⟩ ?_
  refine seq_nil ⟨[(2, _), (3, _), (4, _)], [(2, _), (3, _), (4, _)], ⟨rfl, rfl, rfl, T0⟩, ⟨rfl, rfl, rfl, T0⟩, ?_⟩
  refine ex_seq ?_
  refine exr ?_
  refine sw (core_loadP Tryd.isAgg24 Tryd.sizeOf24 (by rfl) (by exact (.cons (.cons .nil))) rfl (L _ rfl)) ⟨rfl, T0⟩ ⟨rfl, T0⟩ ?_
  refine sw (core_loadP Tryd.isAgg24 Tryd.sizeOf24 (by rfl) (by exact (.cons (.cons .nil))) rfl (L _ rfl)) ⟨rfl, T0⟩ ⟨rfl, T0⟩ ?_
  refine sw (core_bsI (vs := [_, _]) Tryd.underlying78 Tryd.typeInfo24 rfl rfl (by decide) (by decide) rfl (zs_made (.cons rfl (.cons rfl .nil)) rfl) rfl (.cons rfl (.pagg (.cons (.cons .nil))) rfl (.put (.put .here)) (.cons rfl (.pagg (.cons (.cons .nil))) rfl (.skip (.skip (.put (.put .here)))) .nil)) (.cons (.cons (.cons (.cons .nil)))) (L _ rfl)) ⟨rfl, rfl, T0⟩ T0 ?_
  refine sw (core_call (E := E) hG hX Tryd.call59 rfl hN (all_says [(m, ws), (n, vs)] (by simp) (by simp; omega)) (L _ rfl)) ⟨rfl, T0⟩ T0 ?_
  refine sw (core_not (L _ rfl)) ⟨rfl, T0⟩ T0 ?_
  refine seq_nil ⟨[(2, _), (3, _), (4, _), (17, _)], [(2, _), (3, _), (4, _)], ⟨rfl, rfl, rfl, rfl, T0⟩, ⟨rfl, rfl, rfl, T0⟩, ?_⟩
  refine ex_if rfl (fun hc => ?_) (fun hc => ?_)
  · have hc : ¬ (canon m ws = true ∧ canon n vs = true) := by rintro ⟨h1, h2⟩; simp [h1, h2] at hc
    refine exr ?_
    refine sw (core_pc (core_buildP (vs := []) Tryd.underlying24 Tryd.zeroValue24 (.cons rfl (.cons rfl .nil)) ((Places.cons Tryd.sizeOf4 (Places.cons Tryd.sizeOf22 Places.nil))).to rfl .nil (.cons (.cons .nil)) (L _ rfl)) (.agg (.cons .same (.cons .nil .nil)))) T0 T0 ?_
    refine sb (core_storeM Tryd.sizeOf24 (by rfl) (.pagg (.cons (.cons .nil))) rfl (.put (.put .here))) ⟨rfl, rfl, T0⟩ ⟨rfl, T0⟩ ?_
    refine seq_nil ⟨[(4, _)], [(4, _)], ⟨rfl, T0⟩, ⟨rfl, T0⟩, ?_⟩
    refine ex_ret ?_
    refine ⟨.inr rfl, ResVs.cast (.cons (.agg rfl rfl rfl Tryd.isAgg24 Tryd.sizeOf24 (.cons (.cons .nil))) .nil) ?_⟩
    rw [if_neg hc, pZ_zero]; rfl
  · have hc : canon m ws = true ∧ canon n vs = true := by simpa using hc
    have ab := abs_says m ws (by omega) h
    have ab2 := abs_says n vs (by omega) h2
    rw [if_pos hc.1] at ab
    rw [if_pos hc.2] at ab2
    have na := nw_val (m := m) h
    have nb := nw_val (m := n) h2
    rw [if_pos hc]
    obtain ⟨A, hA⟩ : ∃ A, A = sg m (val ws) := ⟨_, rfl⟩
    obtain ⟨B, hB⟩ : ∃ B, B = sg n (val vs) := ⟨_, rfl⟩
    rw [← hA] at ab na ⊢
    rw [← hB] at ab2 nb ⊢
    refine ex_skip (show Exec _ _ _ _ _ from ?_)
    refine exd (by rfl) ?_
    refine sw (core_loadP Tryd.isAgg24 Tryd.sizeOf24 (by rfl) (by exact (.cons (.cons .nil))) rfl (L _ rfl)) ⟨rfl, T0⟩ ⟨rfl, T0⟩ ?_
    refine sw (core_call (E := E) hG hX Tryd.call29 rfl hN ab (L _ rfl)) ⟨rfl, T0⟩ T0 ?_
    refine sw (core_loadP Tryd.isAgg24 Tryd.sizeOf24 (by rfl) (by exact (.cons (.cons .nil))) rfl (L _ rfl)) ⟨rfl, T0⟩ ⟨rfl, T0⟩ ?_
    refine sw (core_call (E := E) hG hX Tryd.call29 rfl hN ab2 (L _ rfl)) ⟨rfl, T0⟩ T0 ?_
    refine swb (core_alloc (k := 5) (n := 2) Tryd.zeroValue24 (.cons rfl (.cons rfl .nil)) rfl (P0 _ rfl) (L _ rfl)) trivial trivial ⟨rfl, rfl⟩ ?_
    refine swb (core_alloc (k := 6) (n := 2) Tryd.zeroValue24 (.cons rfl (.cons rfl .nil)) rfl (P0 _ rfl) (L _ rfl)) trivial trivial ⟨rfl, rfl⟩ ?_
    refine sb (core_storeM Tryd.sizeOf24 (by rfl) (.pagg (.cons (.cons .nil))) rfl (.put (.put .here))) ⟨rfl, rfl, T0⟩ ⟨rfl, T0⟩ ?_
    refine sb (core_storeM Tryd.sizeOf24 (by rfl) (.pagg (.cons (.cons .nil))) rfl (.put (.put .here))) ⟨rfl, rfl, T0⟩ ⟨rfl, T0⟩ ?_
    refine seq_nil ⟨aok rfl rfl, [(4, _), (5, _), (6, _)], [(4, _), (5, _), (6, _)], ⟨rfl, rfl, rfl, T0⟩, ⟨rfl, rfl, rfl, T0⟩, ?_⟩
    refine ex_seq ?_
    refine ex_block ?_
    refine exl (α := (Nat × Nat)) (fun x => []) (fun x => [(5, bI (x.1:Int)), (6, bI (x.2:Int))]) (fun x => Nat.gcd x.1 x.2 = Int.gcd A B ∧ x.1 ≤ max A.natAbs B.natAbs ∧ x.2 ≤ max A.natAbs B.natAbs) (fun x => x.2) ((A.natAbs, B.natAbs)) (sl := [(4, _), (5, _), (6, _)]) (hb := [(4, _)]) ?_ ⟨rfl, rfl, rfl, T0⟩ ⟨rfl, rfl, rfl, T0⟩ ?_
    · exact ⟨rfl, Nat.le_max_left _ _, Nat.le_max_right _ _⟩
    intro x hx
    obtain ⟨x, y⟩ := x
    obtain ⟨hg, hx, hy⟩ := hx
    simp only at hg hx hy
    dsimp only
    have hnx : nw (x : Int) < 9999999 := by
      rcases (show x ≤ A.natAbs ∨ x ≤ B.natAbs by omega) with c | c
      · have := nw_mono (a := (x : Int)) (b := A) (by simpa using c); omega
      · have := nw_mono (a := (x : Int)) (b := B) (by simpa using c); omega
    have hny : nw (y : Int) < 9999999 := by
      rcases (show y ≤ A.natAbs ∨ y ≤ B.natAbs by omega) with c | c
      · have := nw_mono (a := (y : Int)) (b := A) (by simpa using c); omega
      · have := nw_mono (a := (y : Int)) (b := B) (by simpa using c); omega
    have hdx := wd_digs (x : Int).natAbs
    have hdy := wd_digs (y : Int).natAbs
    unfold nw at hnx hny
    refine ex_seq ?_
    refine exr ?_
    refine sw (core_fieldAddr Tryd.underlying24 rfl Tryd.sizeOf22 (by decide) (by exact rfl) (L _ rfl)) ⟨rfl, T0⟩ ⟨rfl, T0⟩ ?_
    refine sw (core_load1 Tryd.isAgg22 (by rfl) (by rfl) (L _ rfl)) ⟨rfl, T0⟩ ⟨rfl, T0⟩ ?_
    refine sw (core_len Tryd.underlying22 (L _ rfl)) ⟨rfl, T0⟩ T0 ?_
    refine sw (core_gtr (L _ rfl)) ⟨rfl, rfl, T0⟩ T0 ?_
    refine seq_nil ⟨[(4, _), (5, _), (6, _), (26, _)], [(4, _), (5, _), (6, _)], ⟨rfl, rfl, rfl, rfl, T0⟩, ⟨rfl, rfl, rfl, T0⟩, ?_⟩
    refine ex_if rfl (fun he => ?_) (fun he => ?_)
    · have he := dt he
      have hyp : 0 < y := by
        by_cases c : y = 0
        · subst c; simp [digs_zero] at he
        · omega
      refine ex_skip (show Exec _ _ _ _ _ from ?_)
      refine ex_block ?_
      refine exr ?_
      refine sw (core_fieldAddr Tryd.underlying24 rfl Tryd.sizeOf22 (by decide) (by exact rfl) (L _ rfl)) ⟨rfl, T0⟩ ⟨rfl, T0⟩ ?_
      refine sw (core_load1 Tryd.isAgg22 (by rfl) (by rfl) (L _ rfl)) ⟨rfl, T0⟩ ⟨rfl, T0⟩ ?_
      refine sw (core_call (E := E) hG hX Tryd.call73 rfl hN (pair_says (digs (x : Int).natAbs) (by omega) hdx) (L _ rfl)) ⟨rfl, T0⟩ T0 ?_
      refine sw (core_move (L _ rfl)) ⟨rfl, T0⟩ T0 ?_
      refine sw (core_extract rfl (L _ rfl)) ⟨rfl, T0⟩ T0 ?_
      refine sw (core_extract rfl (L _ rfl)) ⟨rfl, T0⟩ T0 ?_
      refine sw (core_assign (L _ rfl)) ⟨rfl, T0⟩ T0 ?_
      refine sw (core_assign (L _ rfl)) ⟨rfl, T0⟩ T0 ?_
      refine seq_nil ⟨[(4, _), (5, _), (6, _), (7, _), (8, _)], [(4, _), (5, _), (6, _)], ⟨rfl, rfl, rfl, rfl, rfl, T0⟩, ⟨rfl, rfl, rfl, T0⟩, ?_⟩
      refine exr ?_
      refine sw (core_fieldAddr Tryd.underlying24 rfl Tryd.sizeOf22 (by decide) (by exact rfl) (L _ rfl)) ⟨rfl, T0⟩ ⟨rfl, T0⟩ ?_
      refine sw (core_load1 Tryd.isAgg22 (by rfl) (by rfl) (L _ rfl)) ⟨rfl, T0⟩ ⟨rfl, T0⟩ ?_
      refine sw (core_call (E := E) hG hX Tryd.call73 rfl hN (pair_says (digs (y : Int).natAbs) (by omega) hdy) (L _ rfl)) ⟨rfl, T0⟩ T0 ?_
      refine sw (core_move (L _ rfl)) ⟨rfl, T0⟩ T0 ?_
      refine sw (core_extract rfl (L _ rfl)) ⟨rfl, T0⟩ T0 ?_
      refine sw (core_extract rfl (L _ rfl)) ⟨rfl, T0⟩ T0 ?_
      refine sw (core_assign (L _ rfl)) ⟨rfl, T0⟩ T0 ?_
      refine sw (core_assign (L _ rfl)) ⟨rfl, T0⟩ T0 ?_
      refine seq_nil ⟨[(4, _), (5, _), (6, _), (7, _), (8, _), (9, _), (10, _)], [(4, _), (5, _), (6, _)], ⟨rfl, rfl, rfl, rfl, rfl, rfl, rfl, T0⟩, ⟨rfl, rfl, rfl, T0⟩, ?_⟩
      refine ex_seq ?_
      refine exm (sl := [(42, vb (decide ((digs (x : Int).natAbs).length ≤ 2 ∧ (digs (y : Int).natAbs).length ≤ 2)))]) (sl0 := [(4, _), (5, _), (6, _), (7, _), (9, _)]) (hb := []) (hb0 := [(4, _), (5, _), (6, _)]) ⟨rfl, rfl, rfl, rfl, rfl, T0⟩ ⟨rfl, rfl, rfl, T0⟩ ?_ ?_
      · by_cases hs : (digs (x : Int).natAbs).length ≤ 2
        · refine sw (core_move (L _ rfl)) ⟨rfl, T0⟩ T0 ?_
          refine sw (core_move (L _ rfl)) ⟨rfl, T0⟩ T0 ?_
          refine swg (g := 40) rfl (decide_eq_true hs) (core_move (L _ rfl)) rfl ⟨rfl, T0⟩ T0 ?_
          refine sw (core_pick_t (decide_eq_true hs) (L _ rfl)) ⟨rfl, rfl, T0⟩ T0 ?_
          exact seq_nil ⟨⟨ob rfl (dec_eq ⟨fun c => ⟨hs, c⟩, fun c => c.2⟩), rfl, rfl, rfl, rfl, rfl, T0⟩, ⟨rfl, rfl, rfl, T0⟩⟩
        · refine sw (core_move (L _ rfl)) ⟨rfl, T0⟩ T0 ?_
          refine sw (core_move (L _ rfl)) ⟨rfl, T0⟩ T0 ?_
          refine swn (g := 40) rfl (decide_eq_false hs) (L _ rfl) rfl ?_
          refine sw (core_pick_f (decide_eq_false hs) (L _ rfl)) ⟨rfl, rfl, T0⟩ T0 ?_
          exact seq_nil ⟨⟨ob rfl (decide_eq_false (fun c => hs c.1)).symm, rfl, rfl, rfl, rfl, rfl, T0⟩, ⟨rfl, rfl, rfl, T0⟩⟩
      refine ex_if rfl (fun hs => ?_) (fun hs => ?_)
      · have hs := dt hs
        rw [if_pos hs.1, if_pos hs.2, val_digs, val_digs]
        have sx := small2 hdx hs.1
        have sy := small2 hdy hs.2
        rw [val_digs] at sx sy
        refine ex_seq ?_
        refine ex_block ?_
        refine exl (α := (Nat × Nat)) (fun z => [(7, vw (z.1:Int)), (9, vw (z.2:Int))]) (fun z => []) (fun z => Nat.gcd z.1 z.2 = Int.gcd A B ∧ z.1 < 18446744073709551616 ∧ z.2 < 18446744073709551616) (fun z => z.2) ((x, y)) (sl := [(4, _)]) (hb := [(4, _)]) ?_ ⟨(by first | exact rfl | exact oi (by omega) rfl), (by first | exact rfl | exact oi (by omega) rfl), rfl, T0⟩ ⟨rfl, T0⟩ ?_
        · exact ⟨hg, by simp only; omega, by simp only; omega⟩
        intro z hz
        obtain ⟨u, v⟩ := z
        obtain ⟨hg2, hu, hv⟩ := hz
        simp only at hg2 hu hv
        dsimp only
        refine ex_seq ?_
        refine exr ?_
        refine sw (core_move (L _ rfl)) ⟨rfl, T0⟩ T0 ?_
        refine sw (core_gtr (L _ rfl)) ⟨rfl, rfl, T0⟩ T0 ?_
        refine seq_nil ⟨[(4, _), (7, _), (9, _), (44, _)], [(4, _)], ⟨rfl, rfl, rfl, rfl, T0⟩, ⟨rfl, T0⟩, ?_⟩
        refine ex_if rfl (fun hf => ?_) (fun hf => ?_)
        · have hf := dt hf
          have hlt := Nat.mod_lt u (show 0 < v by omega)
          refine ex_skip (show Exec _ _ _ _ _ from ?_)
          refine ex_block ?_
          refine exd0 (by rfl) ?_
          refine sw (core_move (L _ rfl)) ⟨rfl, T0⟩ T0 ?_
          refine sw (core_move (L _ rfl)) ⟨rfl, T0⟩ T0 ?_
          refine sw (core_move (L _ rfl)) ⟨rfl, T0⟩ T0 ?_
          refine sw (core_rem (L _ rfl) (by omega) (show _ = ((u % v : Nat) : Int) by rw [tmodE (by omega) (by omega)]; rfl)) ⟨rfl, rfl, T0⟩ T0 ?_
          refine sw (core_assign (L _ rfl)) ⟨rfl, T0⟩ T0 ?_
          refine sw (core_assign (L _ rfl)) ⟨rfl, T0⟩ T0 ?_
          refine seq_nil ⟨aoks [⟨[9], [], [45], []⟩, ⟨[7], [], [46], []⟩, ⟨[9], [], [47], []⟩, ⟨[46, 47], [], [48], []⟩, ⟨[45], [], [7], []⟩, ⟨[48], [], [9], []⟩] (by rfl) (by rfl) (by decide), ?_⟩
          exact ⟨(v, u % v), ⟨by rw [← gcd_step]; exact hg2, hv, by simp only; omega⟩, (by simp only; omega), le_of ⟨(by first | exact rfl | exact oi (by omega) rfl), (by first | exact rfl | exact oi (by omega) rfl), rfl, T0⟩ ⟨rfl, T0⟩⟩
        · have hf := df hf
          have hv0 : v = 0 := by omega
          subst hv0
          rw [Nat.gcd_zero_right] at hg2
          subst hg2
          refine ex_exit (show Exec _ _ _ _ _ from ?_)
          refine exr ?_
          refine sw (core_move (L _ rfl)) ⟨rfl, T0⟩ T0 ?_
          refine sw (core_call (E := E) hG hX Tryd.call55 rfl hN (natural_says false (Int.gcd A B : Nat) (by omega) (by omega)) (L _ rfl)) ⟨rfl, rfl, T0⟩ T0 ?_
          refine sb (core_storeM Tryd.sizeOf24 (by rfl) (.pagg (.cons (.cons .nil))) rfl (.put (.put .here))) ⟨rfl, rfl, T0⟩ ⟨rfl, T0⟩ ?_
          refine seq_nil ⟨[(4, _)], [(4, _)], ⟨rfl, T0⟩, ⟨rfl, T0⟩, ?_⟩
          refine ex_ret ?_
          refine ⟨.inr rfl, ResVs.cast (.cons (.agg rfl rfl rfl Tryd.isAgg24 Tryd.sizeOf24 (.cons (.cons .nil))) .nil) ?_⟩
          rfl
      · have hs := df hs
        have ps := part_spec hdx hdy (digs_tr _) (digs_tr _) (by rw [val_digs]; omega)
        refine ex_skip (show Exec _ _ _ _ _ from ?_)
        refine exr ?_
        refine sw (core_fieldAddr Tryd.underlying24 rfl Tryd.sizeOf22 (by decide) (by exact rfl) (L _ rfl)) ⟨rfl, T0⟩ ⟨rfl, T0⟩ ?_
        refine sw (core_load1 Tryd.isAgg22 (by rfl) (by rfl) (L _ rfl)) ⟨rfl, T0⟩ ⟨rfl, T0⟩ ?_
        refine sw (core_fieldAddr Tryd.underlying24 rfl Tryd.sizeOf22 (by decide) (by exact rfl) (L _ rfl)) ⟨rfl, T0⟩ ⟨rfl, T0⟩ ?_
        refine sw (core_load1 Tryd.isAgg22 (by rfl) (by rfl) (L _ rfl)) ⟨rfl, T0⟩ ⟨rfl, T0⟩ ?_
        refine sw (core_call (E := E) hG hX Tryd.call63 rfl hN (parted_says (digs (x : Int).natAbs) (digs (y : Int).natAbs) (by omega) (by omega) hdx hdy (digs_tr _) (digs_tr _) (by rw [val_digs]; omega)) (L _ rfl)) ⟨rfl, rfl, T0⟩ T0 ?_
        refine sw (core_move (L _ rfl)) ⟨rfl, T0⟩ T0 ?_
        refine sw (core_extract rfl (L _ rfl)) ⟨rfl, T0⟩ T0 ?_
        refine sw (core_extract rfl (L _ rfl)) ⟨rfl, T0⟩ T0 ?_
        refine sw (core_assign (L _ rfl)) ⟨rfl, T0⟩ T0 ?_
        refine sw (core_assign (L _ rfl)) ⟨rfl, T0⟩ T0 ?_
        refine seq_nil ⟨[(4, _), (5, _), (6, _), (12, _)], [(4, _), (5, _), (6, _)], ⟨rfl, rfl, rfl, rfl, T0⟩, ⟨rfl, rfl, rfl, T0⟩, ?_⟩
        have pr : sg false (val (partR (digs (x : Int).natAbs) (digs (y : Int).natAbs))) = ((x % y : Nat) : Int) := parted_r x y hyp
        have md := made_says false (partR (digs (x : Int).natAbs) (digs (y : Int).natAbs)) (by omega) ps.2.1
        rw [pr] at md
        have hml := Nat.mod_lt x hyp
        refine exd0 (by rfl) ?_
        refine sw (core_loadP Tryd.isAgg24 Tryd.sizeOf24 (by rfl) (by exact (.cons (.cons .nil))) rfl (L _ rfl)) ⟨rfl, T0⟩ ⟨rfl, T0⟩ ?_
        refine sw (core_move (L _ rfl)) ⟨rfl, T0⟩ T0 ?_
        refine sw (core_call (E := E) hG hX Tryd.call62 rfl hN md (L _ rfl)) ⟨rfl, rfl, T0⟩ T0 ?_
        refine sb (core_storeM Tryd.sizeOf24 (by rfl) (.pagg (.cons (.cons .nil))) rfl (.put (.put .here))) ⟨rfl, rfl, T0⟩ ⟨rfl, T0⟩ ?_
        refine sb (core_storeM Tryd.sizeOf24 (by rfl) (.pagg (.cons (.cons .nil))) rfl (.put (.put .here))) ⟨rfl, rfl, T0⟩ ⟨rfl, T0⟩ ?_
        refine seq_nil ⟨aoks [⟨[6], [6], [59], []⟩, ⟨[12], [], [60], []⟩, ⟨[60], [], [61], []⟩, ⟨[5, 59], [5], [], [5]⟩, ⟨[6, 61], [6], [], [6]⟩] (by rfl) (by rfl) (by decide), ?_⟩
        exact ⟨(y, x % y), ⟨by rw [← gcd_step]; exact hg, hy, by simp only; omega⟩, (by simp only; omega), le_of ⟨rfl, rfl, rfl, T0⟩ ⟨rfl, rfl, rfl, T0⟩⟩
    · have he := df he
      have hy0 : y = 0 := by
        have : (digs (y : Int).natAbs).length = 0 := by omega
        rw [digs_len_zero] at this; omega
      subst hy0
      rw [Nat.gcd_zero_right] at hg
      subst hg
      refine ex_exit (show Exec _ _ _ _ _ from ?_)
      refine exr ?_
      refine sw (core_loadP Tryd.isAgg24 Tryd.sizeOf24 (by rfl) (by exact (.cons (.cons .nil))) rfl (L _ rfl)) ⟨rfl, T0⟩ ⟨rfl, T0⟩ ?_
      refine sb (core_storeM Tryd.sizeOf24 (by rfl) (.pagg (.cons (.cons .nil))) rfl (.put (.put .here))) ⟨rfl, rfl, T0⟩ ⟨rfl, T0⟩ ?_
      refine seq_nil ⟨[(4, _)], [(4, _)], ⟨rfl, T0⟩, ⟨rfl, T0⟩, ?_⟩
      refine ex_ret ?_
      refine ⟨.inr rfl, ResVs.cast (.cons (.agg rfl rfl rfl Tryd.isAgg24 Tryd.sizeOf24 (.cons (.cons .nil))) .nil) ?_⟩
      rfl

theorem gcdZ (a b : Int) (ha : nw a < 9999999) (hb : nw b < 9999999) : Says E 41 [pZ a, pZ b] (pZ (Int.gcd a b : Int)) := by
  have := gcd_says (decide (a < 0)) (decide (b < 0)) (digs a.natAbs) (digs b.natAbs) ha hb (wd_digs _) (wd_digs _)
  rwa [if_pos ⟨canon_digs a, canon_digs b⟩, sg_digs, sg_digs] at this
end Go.Proofs.YtebkelnibecmjaaDoor.N
namespace Go.Proofs.YtebkelnibecmjaaDoor.N
open Go Go.Proofs.YtebkelnibecmjaaDoor.SH Go.Proofs.YtebkelnibecmjaaDoor.NumA
theorem bI_zero : bI 0 = ⟨24, 2, .mix [.p (.a (.bool false)), .p (.sl 0 [])]⟩ := by simp [bI, digs_zero, encW]
theorem ofZ (n : Int) (h : n = 0 ∨ n = 1 ∨ n = -1) : Says E 19 [vZ n] (pZ n) := of_says n (by omega) (by omega)
theorem sign_cases (a : Int) : a.sign = 0 ∨ a.sign = 1 ∨ a.sign = -1 := by
  rcases Int.lt_trichotomy a 0 with e | e | e
  · exact .inr (.inr (Int.sign_eq_neg_one_of_neg e))
  · exact .inl (by rw [e]; rfl)
  · exact .inr (.inl (Int.sign_eq_one_of_pos e))
set_option maxRecDepth 100000 in
set_option maxHeartbeats 4000000 in
theorem bez_says (m n : Bool) (ws vs : List Int) (hl : ws.length < 9999999) (hl2 : vs.length < 9999999) (h : Wd ws) (h2 : Wd vs) : Says E 33 [pI m ws, pI n vs] (.tup [pZ (if canon m ws = true ∧ canon n vs = true then (Int.gcd (sg m (val ws)) (sg n (val vs)) : Int) else 0), pZ (if canon m ws = true ∧ canon n vs = true then bU (sg m (val ws)) (sg n (val vs)) else 0), pZ (if canon m ws = true ∧ canon n vs = true then bV (sg m (val ws)) (sg n (val vs)) else 0), vZ (if canon m ws = true ∧ canon n vs = true then 0 else 3)]) := by
  refine says_of (xs := [pZ (if canon m ws = true ∧ canon n vs = true then (Int.gcd (sg m (val ws)) (sg n (val vs)) : Int) else 0), pZ (if canon m ws = true ∧ canon n vs = true then bU (sg m (val ws)) (sg n (val vs)) else 0), pZ (if canon m ws = true ∧ canon n vs = true then bV (sg m (val ws)) (sg n (val vs)) else 0), vZ (if canon m ws = true ∧ canon n vs = true then 0 else 3)]) Tryd.func33 rfl Tryd.ntmps33 Tryd.results33 (by simp) fun F hG hX0 hnt hdf P0 => ?_
  have L := ltn hnt
  have hX : ∀ b, F.X b → E.ng ≤ b := fun b h => absurd h (hX0 b)
  have hN := ng_le hG
  refine exr ?_
  refine swb (core_box (k := 2) (n := 2) (.pagg (.cons (.cons .nil))) rfl rfl (P0 _ rfl) (L _ rfl)) ⟨rfl, T0⟩ T0 ⟨rfl, rfl⟩ ?_
  refine swb (core_box (k := 3) (n := 2) (.pagg (.cons (.cons .nil))) rfl rfl (P0 _ rfl) (L _ rfl)) ⟨rfl, T0⟩ T0 ⟨rfl, rfl⟩ ?_
  refine swb (core_alloc (k := 4) (n := 2) Tryd.zeroValue24 (.cons rfl (.cons rfl .nil)) rfl (P0 _ rfl) (L _ rfl)) trivial trivial ⟨rfl, rfl⟩ ?_
  refine swb (core_alloc (k := 5) (n := 2) Tryd.zeroValue24 (.cons rfl (.cons rfl .nil)) rfl (P0 _ rfl) (L _ rfl)) trivial trivial ⟨rfl, rfl⟩ ?_
  refine swb (core_alloc (k := 6) (n := 2) Tryd.zeroValue24 (.cons rfl (.cons rfl .nil)) rfl (P0 _ rfl) (L _ rfl)) trivial trivial ⟨rfl, rfl⟩ ?_
  refine sw (core_assign (L _ rfl)) ⟨rfl, T0⟩ T0 ?_
  refine seq_nil ⟨[(2, _), (3, _), (4, _), (5, _), (6, _)], [(2, _), (3, _), (4, _), (5, _), (6, _)], ⟨rfl, rfl, rfl, rfl, rfl, T0⟩, ⟨rfl, rfl, rfl, rfl, rfl, T0⟩, ?_⟩
  refine ex_seq ?_
  refine exr ?_
  refine sw (core_loadP Tryd.isAgg24 Tryd.sizeOf24 (by rfl) (by exact (.cons (.cons .nil))) rfl (L _ rfl)) ⟨rfl, T0⟩ ⟨rfl, T0⟩ ?_
  refine sw (core_loadP Tryd.isAgg24 Tryd.sizeOf24 (by rfl) (by exact (.cons (.cons .nil))) rfl (L _ rfl)) ⟨rfl, T0⟩ ⟨rfl, T0⟩ ?_
  refine sw (core_bsI (vs := [_, _]) Tryd.underlying78 Tryd.typeInfo24 rfl rfl (by decide) (by decide) rfl (zs_made (.cons rfl (.cons rfl .nil)) rfl) rfl (.cons rfl (.pagg (.cons (.cons .nil))) rfl (.put (.put .here)) (.cons rfl (.pagg (.cons (.cons .nil))) rfl (.skip (.skip (.put (.put .here)))) .nil)) (.cons (.cons (.cons (.cons .nil)))) (L _ rfl)) ⟨rfl, rfl, T0⟩ T0 ?_
  refine sw (core_call (E := E) hG hX Tryd.call59 rfl hN (all_says [(m, ws), (n, vs)] (by simp) (by simp; omega)) (L _ rfl)) ⟨rfl, T0⟩ T0 ?_
  refine sw (core_not (L _ rfl)) ⟨rfl, T0⟩ T0 ?_
  refine seq_nil ⟨[(2, _), (3, _), (4, _), (5, _), (6, _), (21, _)], [(2, _), (3, _), (4, _), (5, _), (6, _)], ⟨rfl, rfl, rfl, rfl, rfl, rfl, T0⟩, ⟨rfl, rfl, rfl, rfl, rfl, T0⟩, ?_⟩
  refine ex_if rfl (fun hc => ?_) (fun hc => ?_)
  · have hc : ¬ (canon m ws = true ∧ canon n vs = true) := by rintro ⟨h1, h2⟩; simp [h1, h2] at hc
    refine exr ?_
    refine sw (core_pc (core_buildP (vs := []) Tryd.underlying24 Tryd.zeroValue24 (.cons rfl (.cons rfl .nil)) ((Places.cons Tryd.sizeOf4 (Places.cons Tryd.sizeOf22 Places.nil))).to rfl .nil (.cons (.cons .nil)) (L _ rfl)) (.agg (.cons .same (.cons .nil .nil)))) T0 T0 ?_
    refine sw (core_pc (core_buildP (vs := []) Tryd.underlying24 Tryd.zeroValue24 (.cons rfl (.cons rfl .nil)) ((Places.cons Tryd.sizeOf4 (Places.cons Tryd.sizeOf22 Places.nil))).to rfl .nil (.cons (.cons .nil)) (L _ rfl)) (.agg (.cons .same (.cons .nil .nil)))) T0 T0 ?_
    refine sw (core_pc (core_buildP (vs := []) Tryd.underlying24 Tryd.zeroValue24 (.cons rfl (.cons rfl .nil)) ((Places.cons Tryd.sizeOf4 (Places.cons Tryd.sizeOf22 Places.nil))).to rfl .nil (.cons (.cons .nil)) (L _ rfl)) (.agg (.cons .same (.cons .nil .nil)))) T0 T0 ?_
    refine sb (core_storeM Tryd.sizeOf24 (by rfl) (.pagg (.cons (.cons .nil))) rfl (.put (.put .here))) ⟨rfl, rfl, T0⟩ ⟨rfl, T0⟩ ?_
    refine sb (core_storeM Tryd.sizeOf24 (by rfl) (.pagg (.cons (.cons .nil))) rfl (.put (.put .here))) ⟨rfl, rfl, T0⟩ ⟨rfl, T0⟩ ?_
    refine sb (core_storeM Tryd.sizeOf24 (by rfl) (.pagg (.cons (.cons .nil))) rfl (.put (.put .here))) ⟨rfl, rfl, T0⟩ ⟨rfl, T0⟩ ?_
    refine sw (core_assign (L _ rfl)) ⟨rfl, T0⟩ T0 ?_
    refine seq_nil ⟨[(4, _), (5, _), (6, _), (7, _)], [(4, _), (5, _), (6, _)], ⟨rfl, rfl, rfl, rfl, T0⟩, ⟨rfl, rfl, rfl, T0⟩, ?_⟩
    refine ex_ret ?_
    refine ⟨.inr rfl, ResVs.cast (.cons (.agg rfl rfl rfl Tryd.isAgg24 Tryd.sizeOf24 (.cons (.cons .nil))) (.cons (.agg rfl rfl rfl Tryd.isAgg24 Tryd.sizeOf24 (.cons (.cons .nil))) (.cons (.agg rfl rfl rfl Tryd.isAgg24 Tryd.sizeOf24 (.cons (.cons .nil))) (.cons (.tmp rfl) .nil)))) ?_⟩
    rw [if_neg hc, if_neg hc, if_neg hc, if_neg hc, pZ_zero]; rfl
  · have hc : canon m ws = true ∧ canon n vs = true := by simpa using hc
    have na := nw_val (m := m) h
    have nb := nw_val (m := n) h2
    rw [if_pos hc, if_pos hc, if_pos hc, if_pos hc]
    have eA := pI_eq h hc.1
    have eB := pI_eq h2 hc.2
    have hbl : vs.length = nw (sg n (val vs)) := by rw [nw, (canon_eq h2 hc.2).2]
    have ew : encW vs = encW (digs (sg n (val vs)).natAbs) := by rw [(canon_eq h2 hc.2).2]
    have ew2 : encW ws = encW (digs (sg m (val ws)).natAbs) := by rw [(canon_eq h hc.1).2]
    have em : m = decide (sg m (val ws) < 0) := (canon_eq h hc.1).1.symm
    have en : n = decide (sg n (val vs) < 0) := (canon_eq h2 hc.2).1.symm
    have hal : ws.length = nw (sg m (val ws)) := by rw [nw, (canon_eq h hc.1).2]
    obtain ⟨A, hA⟩ : ∃ A, A = sg m (val ws) := ⟨_, rfl⟩
    obtain ⟨B, hB⟩ : ∃ B, B = sg n (val vs) := ⟨_, rfl⟩
    have e2 : (⟨24, 2, .mix [.p (.a (.bool m)), .p (.sl ws.length (encW ws))]⟩ : Blk) = bI A := by rw [ew2, hal, ← hA, bI]; rw [← hA] at em; rw [← em]; rfl
    have e3 : (⟨24, 2, .mix [.p (.a (.bool n)), .p (.sl vs.length (encW vs))]⟩ : Blk) = bI B := by rw [ew, hbl, ← hB, bI]; rw [← hB] at en; rw [← en]; rfl
    rw [← hA] at hal na ⊢
    rw [← hB] at hbl nb ⊢
    rw [e2, e3]
    have hal2 : nw A < 9999999 := by omega
    have hbl2 : nw B < 9999999 := by omega
    refine ex_skip (show Exec _ _ _ _ _ from ?_)
    refine ex_seq ?_
    refine exr ?_
    refine sw (core_fieldAddr Tryd.underlying24 rfl Tryd.sizeOf22 (by decide) (by exact rfl) (L _ rfl)) ⟨rfl, T0⟩ ⟨rfl, T0⟩ ?_
    refine sw (core_load1 Tryd.isAgg22 (by rfl) (by rfl) (L _ rfl)) ⟨rfl, T0⟩ ⟨rfl, T0⟩ ?_
    refine sw (core_len Tryd.underlying22 (L _ rfl)) ⟨rfl, T0⟩ T0 ?_
    refine sw (core_eql (L _ rfl)) ⟨rfl, rfl, T0⟩ T0 ?_
    refine seq_nil ⟨[(2, _), (3, _), (4, _), (5, _), (6, _), (28, _)], [(2, _), (3, _), (4, _), (5, _), (6, _)], ⟨rfl, rfl, rfl, rfl, rfl, rfl, T0⟩, ⟨rfl, rfl, rfl, rfl, rfl, T0⟩, ?_⟩
    refine ex_if rfl (fun hz => ?_) (fun hz => ?_)
    · have hz := dt hz
      have hB0 : B = 0 := by
        have : nw B = 0 := by unfold nw; omega
        exact nw_zero.1 this
      refine exd (by rfl) ?_
      refine sw (core_loadP Tryd.isAgg24 Tryd.sizeOf24 (by rfl) (by exact (.cons (.cons .nil))) rfl (L _ rfl)) ⟨rfl, T0⟩ ⟨rfl, T0⟩ ?_
      refine sw (core_call (E := E) hG hX Tryd.call29 rfl hN (absZ A (by omega)) (L _ rfl)) ⟨rfl, T0⟩ T0 ?_
      refine sw (core_loadP Tryd.isAgg24 Tryd.sizeOf24 (by rfl) (by exact (.cons (.cons .nil))) rfl (L _ rfl)) ⟨rfl, T0⟩ ⟨rfl, T0⟩ ?_
      refine sw (core_call (E := E) hG hX Tryd.call23 rfl hN (signZ A (by omega)) (L _ rfl)) ⟨rfl, T0⟩ T0 ?_
      refine sw (core_call (E := E) hG hX Tryd.call19 rfl hN (ofZ A.sign (sign_cases A)) (L _ rfl)) ⟨rfl, T0⟩ T0 ?_
      refine sw (core_pc (core_buildP (vs := []) Tryd.underlying24 Tryd.zeroValue24 (.cons rfl (.cons rfl .nil)) ((Places.cons Tryd.sizeOf4 (Places.cons Tryd.sizeOf22 Places.nil))).to rfl .nil (.cons (.cons .nil)) (L _ rfl)) (.agg (.cons .same (.cons .nil .nil)))) T0 T0 ?_
      refine sb (core_storeM Tryd.sizeOf24 (by rfl) (.pagg (.cons (.cons .nil))) rfl (.put (.put .here))) ⟨rfl, rfl, T0⟩ ⟨rfl, T0⟩ ?_
      refine sb (core_storeM Tryd.sizeOf24 (by rfl) (.pagg (.cons (.cons .nil))) rfl (.put (.put .here))) ⟨rfl, rfl, T0⟩ ⟨rfl, T0⟩ ?_
      refine sb (core_storeM Tryd.sizeOf24 (by rfl) (.pagg (.cons (.cons .nil))) rfl (.put (.put .here))) ⟨rfl, rfl, T0⟩ ⟨rfl, T0⟩ ?_
      refine sw (core_assign (L _ rfl)) ⟨rfl, T0⟩ T0 ?_
      refine seq_nil ⟨aoks [⟨[2], [2], [29], []⟩, ⟨[29], [], [30], []⟩, ⟨[2], [2], [31], []⟩, ⟨[31], [], [32], []⟩, ⟨[32], [], [33], []⟩, ⟨[], [], [34], []⟩, ⟨[4, 30], [4], [], [4]⟩, ⟨[5, 33], [5], [], [5]⟩, ⟨[6, 34], [6], [], [6]⟩, ⟨[], [], [7], []⟩] (by rfl) (by rfl) (by decide), [(4, _), (5, _), (6, _), (7, _)], [(4, _), (5, _), (6, _)], ⟨rfl, rfl, rfl, rfl, T0⟩, ⟨rfl, rfl, rfl, T0⟩, ?_⟩
      refine ex_ret ?_
      refine ⟨.inr rfl, ResVs.cast (.cons (.agg rfl rfl rfl Tryd.isAgg24 Tryd.sizeOf24 (.cons (.cons .nil))) (.cons (.agg rfl rfl rfl Tryd.isAgg24 Tryd.sizeOf24 (.cons (.cons .nil))) (.cons (.agg rfl rfl rfl Tryd.isAgg24 Tryd.sizeOf24 (.cons (.cons .nil))) (.cons (.tmp rfl) .nil)))) ?_⟩
      rw [bU, bV, if_pos hB0, if_pos hB0, hB0, Int.gcd_zero_right, pZ_zero]; rfl
    · have hz := df hz
      have hB0 : B ≠ 0 := by
        intro e
        subst e
        simp [digs_zero] at hz
      refine ex_skip (show Exec _ _ _ _ _ from ?_)
      refine exd (by rfl) ?_
      refine sw (core_loadP Tryd.isAgg24 Tryd.sizeOf24 (by rfl) (by exact (.cons (.cons .nil))) rfl (L _ rfl)) ⟨rfl, T0⟩ ⟨rfl, T0⟩ ?_
      refine sw (core_call (E := E) hG hX Tryd.call29 rfl hN (absZ B (by omega)) (L _ rfl)) ⟨rfl, T0⟩ T0 ?_
      refine sw (core_loadP Tryd.isAgg24 Tryd.sizeOf24 (by rfl) (by exact (.cons (.cons .nil))) rfl (L _ rfl)) ⟨rfl, T0⟩ ⟨rfl, T0⟩ ?_
      refine sw (core_call (E := E) hG hX Tryd.call29 rfl hN (absZ A (by omega)) (L _ rfl)) ⟨rfl, T0⟩ T0 ?_
      refine swb (core_alloc (k := 8) (n := 2) Tryd.zeroValue24 (.cons rfl (.cons rfl .nil)) rfl (P0 _ rfl) (L _ rfl)) trivial trivial ⟨rfl, rfl⟩ ?_
      refine swb (core_alloc (k := 9) (n := 2) Tryd.zeroValue24 (.cons rfl (.cons rfl .nil)) rfl (P0 _ rfl) (L _ rfl)) trivial trivial ⟨rfl, rfl⟩ ?_
      refine sb (core_storeM Tryd.sizeOf24 (by rfl) (.pagg (.cons (.cons .nil))) rfl (.put (.put .here))) ⟨rfl, rfl, T0⟩ ⟨rfl, T0⟩ ?_
      refine sb (core_storeM Tryd.sizeOf24 (by rfl) (.pagg (.cons (.cons .nil))) rfl (.put (.put .here))) ⟨rfl, rfl, T0⟩ ⟨rfl, T0⟩ ?_
      refine seq_nil ⟨aok rfl rfl, [(2, _), (3, _), (4, _), (5, _), (6, _), (8, _), (9, _)], [(2, _), (3, _), (4, _), (5, _), (6, _), (8, _), (9, _)], ⟨rfl, rfl, rfl, rfl, rfl, rfl, rfl, T0⟩, ⟨rfl, rfl, rfl, rfl, rfl, rfl, rfl, T0⟩, ?_⟩
      refine exr ?_
      refine sw (core_pc (core_buildP (vs := []) Tryd.underlying24 Tryd.zeroValue24 (.cons rfl (.cons rfl .nil)) ((Places.cons Tryd.sizeOf4 (Places.cons Tryd.sizeOf22 Places.nil))).to rfl .nil (.cons (.cons .nil)) (L _ rfl)) (.agg (.cons .same (.cons .nil .nil)))) T0 T0 ?_
      refine sw (core_loadP Tryd.isAgg24 Tryd.sizeOf24 (by rfl) (by exact (.cons (.cons .nil))) rfl (L _ rfl)) ⟨rfl, T0⟩ ⟨rfl, T0⟩ ?_
      refine sw (core_call (E := E) hG hX Tryd.call23 rfl hN (signZ A (by omega)) (L _ rfl)) ⟨rfl, T0⟩ T0 ?_
      refine sw (core_call (E := E) hG hX Tryd.call19 rfl hN (ofZ A.sign (sign_cases A)) (L _ rfl)) ⟨rfl, T0⟩ T0 ?_
      refine swb (core_alloc (k := 10) (n := 2) Tryd.zeroValue24 (.cons rfl (.cons rfl .nil)) rfl (P0 _ rfl) (L _ rfl)) trivial trivial ⟨rfl, rfl⟩ ?_
      refine sb (core_storeM Tryd.sizeOf24 (by rfl) (.pagg (.cons (.cons .nil))) rfl (.put (.put .here))) ⟨rfl, rfl, T0⟩ ⟨rfl, T0⟩ ?_
      refine sb (core_storeM Tryd.sizeOf24 (by rfl) (.pagg (.cons (.cons .nil))) rfl (.put (.put .here))) ⟨rfl, rfl, T0⟩ ⟨rfl, T0⟩ ?_
      refine seq_nil ⟨[(2, _), (3, _), (4, _), (5, _), (6, _), (8, _), (9, _), (10, _)], [(2, _), (3, _), (4, _), (5, _), (6, _), (8, _), (9, _), (10, _)], ⟨rfl, rfl, rfl, rfl, rfl, rfl, rfl, rfl, T0⟩, ⟨rfl, rfl, rfl, rfl, rfl, rfl, rfl, rfl, T0⟩, ?_⟩
      refine ex_seq ?_
      refine ex_block ?_
      refine exl (α := (Nat × Nat × Int × Int)) (fun x => []) (fun x => [(8, bI (x.1:Int)), (9, bI (x.2.1:Int)), (5, bI x.2.2.1), (10, bI x.2.2.2)]) (fun x => BezAt A B x) (fun x => x.2.1) ((B.natAbs, A.natAbs, 0, A.sign)) (sl := [(2, _), (3, _), (4, _), (5, _), (6, _), (8, _), (9, _), (10, _)]) (hb := [(2, _), (3, _), (4, _), (6, _)]) ?_ ⟨rfl, rfl, rfl, rfl, rfl, rfl, rfl, rfl, T0⟩ ⟨rfl, rfl, obl rfl bI_zero.symm, rfl, rfl, rfl, rfl, rfl, T0⟩ ?_
      · exact BezAt.start hB0
      intro x hx
      obtain ⟨x, y, u, w⟩ := x
      dsimp only
      have hxb := hx.xb
      have hyb := hx.yb
      have hub := nw_le_of hx.ub
      have hwb := nw_le_of hx.wb
      have hx0 := hx.x0
      simp only at hxb hyb hub hwb hx0
      have hxn := nw_max hxb
      have hyn := nw_max hyb
      refine ex_seq ?_
      refine exr ?_
      refine sw (core_fieldAddr Tryd.underlying24 rfl Tryd.sizeOf22 (by decide) (by exact rfl) (L _ rfl)) ⟨rfl, T0⟩ ⟨rfl, T0⟩ ?_
      refine sw (core_load1 Tryd.isAgg22 (by rfl) (by rfl) (L _ rfl)) ⟨rfl, T0⟩ ⟨rfl, T0⟩ ?_
      refine sw (core_len Tryd.underlying22 (L _ rfl)) ⟨rfl, T0⟩ T0 ?_
      refine sw (core_gtr (L _ rfl)) ⟨rfl, rfl, T0⟩ T0 ?_
      refine seq_nil ⟨[(2, _), (3, _), (4, _), (5, _), (6, _), (8, _), (9, _), (10, _), (46, _)], [(2, _), (3, _), (4, _), (5, _), (6, _), (8, _), (9, _), (10, _)], ⟨rfl, rfl, rfl, rfl, rfl, rfl, rfl, rfl, rfl, T0⟩, ⟨rfl, rfl, rfl, rfl, rfl, rfl, rfl, rfl, T0⟩, ?_⟩
      refine ex_if rfl (fun he => ?_) (fun he => ?_)
      · have he := dt he
        have hyp : 0 < y := by
          by_cases c : y = 0
          · subst c; simp [digs_zero] at he
          · omega
        obtain ⟨k1, k2⟩ := hx.next hyp
        have k3 := nw_le_of k2
        have hml := Nat.mod_lt x hyp
        have hqn : nw ((x / y : Nat) : Int) ≤ nw (x : Int) := nw_mono (by rw [Int.natAbs_natCast, Int.natAbs_natCast]; exact Nat.div_le_self x y)
        refine ex_skip (show Exec _ _ _ _ _ from ?_)
        refine ex_block ?_
        refine exr ?_
        refine sw (core_loadP Tryd.isAgg24 Tryd.sizeOf24 (by rfl) (by exact (.cons (.cons .nil))) rfl (L _ rfl)) ⟨rfl, T0⟩ ⟨rfl, T0⟩ ?_
        refine sw (core_loadP Tryd.isAgg24 Tryd.sizeOf24 (by rfl) (by exact (.cons (.cons .nil))) rfl (L _ rfl)) ⟨rfl, T0⟩ ⟨rfl, T0⟩ ?_
        refine sw (core_call (E := E) hG hX Tryd.call31 rfl hN (divZ (x : Int) (y : Int) (by omega) (by omega) (by omega)) (L _ rfl)) ⟨rfl, rfl, T0⟩ T0 ?_
        refine sw (core_move (L _ rfl)) ⟨rfl, T0⟩ T0 ?_
        refine sw (core_extract rfl (L _ rfl)) ⟨rfl, T0⟩ T0 ?_
        refine sw (core_extract rfl (L _ rfl)) ⟨rfl, T0⟩ T0 ?_
        refine sw (core_extract rfl (L _ rfl)) ⟨rfl, T0⟩ T0 ?_
        refine swb (core_alloc (k := 11) (n := 2) Tryd.zeroValue24 (.cons rfl (.cons rfl .nil)) rfl (P0 _ rfl) (L _ rfl)) trivial trivial ⟨rfl, rfl⟩ ?_
        refine swb (core_alloc (k := 12) (n := 2) Tryd.zeroValue24 (.cons rfl (.cons rfl .nil)) rfl (P0 _ rfl) (L _ rfl)) trivial trivial ⟨rfl, rfl⟩ ?_
        refine sb (core_storeM Tryd.sizeOf24 (by rfl) (.pagg (.cons (.cons .nil))) rfl (.put (.put .here))) ⟨rfl, rfl, T0⟩ ⟨rfl, T0⟩ ?_
        refine sb (core_storeM Tryd.sizeOf24 (by rfl) (.pagg (.cons (.cons .nil))) rfl (.put (.put .here))) ⟨rfl, rfl, T0⟩ ⟨rfl, T0⟩ ?_
        refine sw (core_assign (L _ rfl)) ⟨rfl, T0⟩ T0 ?_
        refine seq_nil ⟨[(2, _), (3, _), (4, _), (5, _), (6, _), (8, _), (9, _), (10, _), (11, _), (12, _)], [(2, _), (3, _), (4, _), (5, _), (6, _), (8, _), (9, _), (10, _), (11, _), (12, _)], ⟨rfl, rfl, rfl, rfl, rfl, rfl, rfl, rfl, rfl, rfl, T0⟩, ⟨rfl, rfl, rfl, rfl, rfl, rfl, rfl, rfl, rfl, rfl, T0⟩, ?_⟩
        refine exd (by rfl) ?_
        refine sw (core_loadP Tryd.isAgg24 Tryd.sizeOf24 (by rfl) (by exact (.cons (.cons .nil))) rfl (L _ rfl)) ⟨rfl, T0⟩ ⟨rfl, T0⟩ ?_
        refine sw (core_loadP Tryd.isAgg24 Tryd.sizeOf24 (by rfl) (by exact (.cons (.cons .nil))) rfl (L _ rfl)) ⟨rfl, T0⟩ ⟨rfl, T0⟩ ?_
        refine sb (core_storeM Tryd.sizeOf24 (by rfl) (.pagg (.cons (.cons .nil))) rfl (.put (.put .here))) ⟨rfl, rfl, T0⟩ ⟨rfl, T0⟩ ?_
        refine sb (core_storeM Tryd.sizeOf24 (by rfl) (.pagg (.cons (.cons .nil))) rfl (.put (.put .here))) ⟨rfl, rfl, T0⟩ ⟨rfl, T0⟩ ?_
        refine seq_nil ⟨aoks [⟨[9], [9], [54], []⟩, ⟨[12], [12], [55], []⟩, ⟨[8, 54], [8], [], [8]⟩, ⟨[9, 55], [9], [], [9]⟩] (by rfl) (by rfl) (by decide), [(2, _), (3, _), (4, _), (5, _), (6, _), (8, _), (9, _), (10, _), (11, _)], [(2, _), (3, _), (4, _), (5, _), (6, _), (8, _), (9, _), (10, _), (11, _)], ⟨rfl, rfl, rfl, rfl, rfl, rfl, rfl, rfl, rfl, T0⟩, ⟨rfl, rfl, rfl, rfl, rfl, rfl, rfl, rfl, rfl, T0⟩, ?_⟩
        refine exd0 (by rfl) ?_
        refine sw (core_loadP Tryd.isAgg24 Tryd.sizeOf24 (by rfl) (by exact (.cons (.cons .nil))) rfl (L _ rfl)) ⟨rfl, T0⟩ ⟨rfl, T0⟩ ?_
        refine sw (core_loadP Tryd.isAgg24 Tryd.sizeOf24 (by rfl) (by exact (.cons (.cons .nil))) rfl (L _ rfl)) ⟨rfl, T0⟩ ⟨rfl, T0⟩ ?_
        refine sw (core_loadP Tryd.isAgg24 Tryd.sizeOf24 (by rfl) (by exact (.cons (.cons .nil))) rfl (L _ rfl)) ⟨rfl, T0⟩ ⟨rfl, T0⟩ ?_
        refine sw (core_loadP Tryd.isAgg24 Tryd.sizeOf24 (by rfl) (by exact (.cons (.cons .nil))) rfl (L _ rfl)) ⟨rfl, T0⟩ ⟨rfl, T0⟩ ?_
        refine sw (core_call (E := E) hG hX Tryd.call39 rfl hN (mulZ ((x / y : Nat) : Int) w (by omega) (by omega)) (L _ rfl)) ⟨rfl, rfl, T0⟩ T0 ?_
        refine sw (core_call (E := E) hG hX Tryd.call37 rfl hN (subZ u (((x / y : Nat) : Int) * w) (by omega) (by omega)) (L _ rfl)) ⟨rfl, rfl, T0⟩ T0 ?_
        refine sb (core_storeM Tryd.sizeOf24 (by rfl) (.pagg (.cons (.cons .nil))) rfl (.put (.put .here))) ⟨rfl, rfl, T0⟩ ⟨rfl, T0⟩ ?_
        refine sb (core_storeM Tryd.sizeOf24 (by rfl) (.pagg (.cons (.cons .nil))) rfl (.put (.put .here))) ⟨rfl, rfl, T0⟩ ⟨rfl, T0⟩ ?_
        refine seq_nil ⟨aoks [⟨[10], [10], [56], []⟩, ⟨[5], [5], [57], []⟩, ⟨[11], [11], [58], []⟩, ⟨[10], [10], [59], []⟩, ⟨[58, 59], [], [60], []⟩, ⟨[57, 60], [], [61], []⟩, ⟨[5, 56], [5], [], [5]⟩, ⟨[10, 61], [10], [], [10]⟩] (by rfl) (by rfl) (by decide), ?_⟩
        exact ⟨(y, x % y, w, u - ((x / y : Nat) : Int) * w), k1, (by simp only; omega), le_of ⟨rfl, rfl, rfl, rfl, rfl, rfl, rfl, rfl, T0⟩ ⟨rfl, rfl, rfl, rfl, rfl, rfl, rfl, rfl, T0⟩⟩
      · have he := df he
        have hy0 : y = 0 := by
          have : (digs (y : Int).natAbs).length = 0 := by omega
          rw [digs_len_zero] at this; omega
        subst hy0
        obtain ⟨hg, hbz, hst⟩ := hx.end_ hB0
        subst hg
        have gn := gcd_nw (a := A) hB0
        have gp := gcd_pos (a := A) hB0
        have hbu := bezU_eq hB0 hbz
        have bbd := bez_bd hbz
        rw [← hbu] at bbd
        have sn := nw_ediv (a := (B.natAbs : Int)) (b := (Int.gcd A B : Int))
        have bn : nw (B.natAbs : Int) = nw B := by unfold nw; simp
        have mn := nw_mul (bezU A B) A
        have sbn := nw_sub (Int.gcd A B : Int) (bezU A B * A)
        have dz := divZ u ((B.natAbs : Int) / (Int.gcd A B : Int)) (by omega) (by omega) hst
        rw [← hbu] at dz
        refine ex_exit (show Exec _ _ _ _ _ from ?_)
        refine exd (by rfl) ?_
        refine sw (core_loadP Tryd.isAgg24 Tryd.sizeOf24 (by rfl) (by exact (.cons (.cons .nil))) rfl (L _ rfl)) ⟨rfl, T0⟩ ⟨rfl, T0⟩ ?_
        refine sw (core_call (E := E) hG hX Tryd.call29 rfl hN (absZ B (by omega)) (L _ rfl)) ⟨rfl, T0⟩ T0 ?_
        refine sw (core_loadP Tryd.isAgg24 Tryd.sizeOf24 (by rfl) (by exact (.cons (.cons .nil))) rfl (L _ rfl)) ⟨rfl, T0⟩ ⟨rfl, T0⟩ ?_
        refine sw (core_call (E := E) hG hX Tryd.call31 rfl hN (divZ (B.natAbs : Int) (Int.gcd A B : Int) (by omega) (by omega) (by omega)) (L _ rfl)) ⟨rfl, rfl, T0⟩ T0 ?_
        refine sw (core_move (L _ rfl)) ⟨rfl, T0⟩ T0 ?_
        refine sw (core_extract rfl (L _ rfl)) ⟨rfl, T0⟩ T0 ?_
        refine sw (core_extract rfl (L _ rfl)) ⟨rfl, T0⟩ T0 ?_
        refine sw (core_extract rfl (L _ rfl)) ⟨rfl, T0⟩ T0 ?_
        refine swb (core_alloc (k := 14) (n := 2) Tryd.zeroValue24 (.cons rfl (.cons rfl .nil)) rfl (P0 _ rfl) (L _ rfl)) trivial trivial ⟨rfl, rfl⟩ ?_
        refine swb (core_alloc (k := 15) (n := 2) Tryd.zeroValue24 (.cons rfl (.cons rfl .nil)) rfl (P0 _ rfl) (L _ rfl)) trivial trivial ⟨rfl, rfl⟩ ?_
        refine sb (core_storeM Tryd.sizeOf24 (by rfl) (.pagg (.cons (.cons .nil))) rfl (.put (.put .here))) ⟨rfl, rfl, T0⟩ ⟨rfl, T0⟩ ?_
        refine sb (core_storeM Tryd.sizeOf24 (by rfl) (.pagg (.cons (.cons .nil))) rfl (.put (.put .here))) ⟨rfl, rfl, T0⟩ ⟨rfl, T0⟩ ?_
        refine sw (core_assign (L _ rfl)) ⟨rfl, T0⟩ T0 ?_
        refine seq_nil ⟨aok rfl rfl, [(2, _), (3, _), (4, _), (5, _), (6, _), (8, _), (14, _)], [(2, _), (3, _), (4, _), (5, _), (6, _), (8, _), (14, _)], ⟨rfl, rfl, rfl, rfl, rfl, rfl, rfl, T0⟩, ⟨rfl, rfl, rfl, rfl, rfl, rfl, rfl, T0⟩, ?_⟩
        refine exr ?_
        refine sw (core_loadP Tryd.isAgg24 Tryd.sizeOf24 (by rfl) (by exact (.cons (.cons .nil))) rfl (L _ rfl)) ⟨rfl, T0⟩ ⟨rfl, T0⟩ ?_
        refine sw (core_loadP Tryd.isAgg24 Tryd.sizeOf24 (by rfl) (by exact (.cons (.cons .nil))) rfl (L _ rfl)) ⟨rfl, T0⟩ ⟨rfl, T0⟩ ?_
        refine sw (core_call (E := E) hG hX Tryd.call31 rfl hN dz (L _ rfl)) ⟨rfl, rfl, T0⟩ T0 ?_
        refine sw (core_move (L _ rfl)) ⟨rfl, T0⟩ T0 ?_
        refine sw (core_extract rfl (L _ rfl)) ⟨rfl, T0⟩ T0 ?_
        refine sw (core_extract rfl (L _ rfl)) ⟨rfl, T0⟩ T0 ?_
        refine sw (core_extract rfl (L _ rfl)) ⟨rfl, T0⟩ T0 ?_
        refine sb (core_storeM Tryd.sizeOf24 (by rfl) (.pagg (.cons (.cons .nil))) rfl (.put (.put .here))) ⟨rfl, rfl, T0⟩ ⟨rfl, T0⟩ ?_
        refine seq_nil ⟨[(2, _), (3, _), (4, _), (5, _), (6, _), (8, _)], [(2, _), (3, _), (4, _), (5, _), (6, _), (8, _)], ⟨rfl, rfl, rfl, rfl, rfl, rfl, T0⟩, ⟨rfl, rfl, rfl, rfl, rfl, rfl, T0⟩, ?_⟩
        refine exd (by rfl) ?_
        refine sw (core_loadP Tryd.isAgg24 Tryd.sizeOf24 (by rfl) (by exact (.cons (.cons .nil))) rfl (L _ rfl)) ⟨rfl, T0⟩ ⟨rfl, T0⟩ ?_
        refine sw (core_loadP Tryd.isAgg24 Tryd.sizeOf24 (by rfl) (by exact (.cons (.cons .nil))) rfl (L _ rfl)) ⟨rfl, T0⟩ ⟨rfl, T0⟩ ?_
        refine sw (core_loadP Tryd.isAgg24 Tryd.sizeOf24 (by rfl) (by exact (.cons (.cons .nil))) rfl (L _ rfl)) ⟨rfl, T0⟩ ⟨rfl, T0⟩ ?_
        refine sw (core_call (E := E) hG hX Tryd.call39 rfl hN (mulZ (bezU A B) A (by omega) (by omega)) (L _ rfl)) ⟨rfl, rfl, T0⟩ T0 ?_
        refine sw (core_call (E := E) hG hX Tryd.call37 rfl hN (subZ (Int.gcd A B : Int) (bezU A B * A) (by omega) (by omega)) (L _ rfl)) ⟨rfl, rfl, T0⟩ T0 ?_
        refine sw (core_loadP Tryd.isAgg24 Tryd.sizeOf24 (by rfl) (by exact (.cons (.cons .nil))) rfl (L _ rfl)) ⟨rfl, T0⟩ ⟨rfl, T0⟩ ?_
        refine sw (core_call (E := E) hG hX Tryd.call31 rfl hN (divZ ((Int.gcd A B : Int) - bezU A B * A) B (by omega) (by omega) hB0) (L _ rfl)) ⟨rfl, rfl, T0⟩ T0 ?_
        refine sw (core_move (L _ rfl)) ⟨rfl, T0⟩ T0 ?_
        refine sw (core_extract rfl (L _ rfl)) ⟨rfl, T0⟩ T0 ?_
        refine sw (core_extract rfl (L _ rfl)) ⟨rfl, T0⟩ T0 ?_
        refine sw (core_extract rfl (L _ rfl)) ⟨rfl, T0⟩ T0 ?_
        refine sb (core_storeM Tryd.sizeOf24 (by rfl) (.pagg (.cons (.cons .nil))) rfl (.put (.put .here))) ⟨rfl, rfl, T0⟩ ⟨rfl, T0⟩ ?_
        refine seq_nil ⟨aoks [⟨[8], [8], [78], []⟩, ⟨[5], [5], [79], []⟩, ⟨[2], [2], [80], []⟩, ⟨[79, 80], [], [81], []⟩, ⟨[78, 81], [], [82], []⟩, ⟨[3], [3], [83], []⟩, ⟨[82, 83], [], [84], []⟩, ⟨[84], [], [77], []⟩, ⟨[77], [], [85], []⟩, ⟨[77], [], [86], []⟩, ⟨[77], [], [87], []⟩, ⟨[6, 85], [6], [], [6]⟩] (by rfl) (by rfl) (by decide), [(4, _), (5, _), (6, _), (8, _)], [(4, _), (5, _), (6, _), (8, _)], ⟨rfl, rfl, rfl, rfl, T0⟩, ⟨rfl, rfl, rfl, rfl, T0⟩, ?_⟩
        refine exd (by rfl) ?_
        refine sw (core_loadP Tryd.isAgg24 Tryd.sizeOf24 (by rfl) (by exact (.cons (.cons .nil))) rfl (L _ rfl)) ⟨rfl, T0⟩ ⟨rfl, T0⟩ ?_
        refine sw (core_loadP Tryd.isAgg24 Tryd.sizeOf24 (by rfl) (by exact (.cons (.cons .nil))) rfl (L _ rfl)) ⟨rfl, T0⟩ ⟨rfl, T0⟩ ?_
        refine sw (core_loadP Tryd.isAgg24 Tryd.sizeOf24 (by rfl) (by exact (.cons (.cons .nil))) rfl (L _ rfl)) ⟨rfl, T0⟩ ⟨rfl, T0⟩ ?_
        refine sb (core_storeM Tryd.sizeOf24 (by rfl) (.pagg (.cons (.cons .nil))) rfl (.put (.put .here))) ⟨rfl, rfl, T0⟩ ⟨rfl, T0⟩ ?_
        refine sb (core_storeM Tryd.sizeOf24 (by rfl) (.pagg (.cons (.cons .nil))) rfl (.put (.put .here))) ⟨rfl, rfl, T0⟩ ⟨rfl, T0⟩ ?_
        refine sb (core_storeM Tryd.sizeOf24 (by rfl) (.pagg (.cons (.cons .nil))) rfl (.put (.put .here))) ⟨rfl, rfl, T0⟩ ⟨rfl, T0⟩ ?_
        refine sw (core_assign (L _ rfl)) ⟨rfl, T0⟩ T0 ?_
        refine seq_nil ⟨aoks [⟨[8], [8], [88], []⟩, ⟨[5], [5], [89], []⟩, ⟨[6], [6], [90], []⟩, ⟨[4, 88], [4], [], [4]⟩, ⟨[5, 89], [5], [], [5]⟩, ⟨[6, 90], [6], [], [6]⟩, ⟨[], [], [7], []⟩] (by rfl) (by rfl) (by decide), [(4, _), (5, _), (6, _), (7, _)], [(4, _), (5, _), (6, _)], ⟨rfl, rfl, rfl, rfl, T0⟩, ⟨rfl, rfl, rfl, T0⟩, ?_⟩
        refine ex_ret ?_
        refine ⟨.inr rfl, ResVs.cast (.cons (.agg rfl rfl rfl Tryd.isAgg24 Tryd.sizeOf24 (.cons (.cons .nil))) (.cons (.agg rfl rfl rfl Tryd.isAgg24 Tryd.sizeOf24 (.cons (.cons .nil))) (.cons (.agg rfl rfl rfl Tryd.isAgg24 Tryd.sizeOf24 (.cons (.cons .nil))) (.cons (.tmp rfl) .nil)))) ?_⟩
        rw [bU, bV, if_neg hB0, if_neg hB0]

theorem bezZ (a b : Int) (ha : nw a < 9999999) (hb : nw b < 9999999) : Says E 33 [pZ a, pZ b] (.tup [pZ (Int.gcd a b : Int), pZ (bU a b), pZ (bV a b), vZ 0]) := by
  have := bez_says (decide (a < 0)) (decide (b < 0)) (digs a.natAbs) (digs b.natAbs) ha hb (wd_digs _) (wd_digs _)
  rwa [if_pos ⟨canon_digs a, canon_digs b⟩, if_pos ⟨canon_digs a, canon_digs b⟩, if_pos ⟨canon_digs a, canon_digs b⟩, if_pos ⟨canon_digs a, canon_digs b⟩, sg_digs, sg_digs] at this
end Go.Proofs.YtebkelnibecmjaaDoor.N
namespace Go.Proofs.YtebkelnibecmjaaDoor.N
open Go Go.Proofs.YtebkelnibecmjaaDoor.SH Go.Proofs.YtebkelnibecmjaaDoor.NumA
theorem bI_eq {m : Bool} {ws : List Int} (h : Wd ws) (hc : canon m ws = true) : (⟨24, 2, .mix [.p (.a (.bool m)), .p (.sl ws.length (encW ws))]⟩ : Blk) = bI (sg m (val ws)) := by
  have e := canon_eq h hc
  rw [bI, e.1, e.2]
set_option maxRecDepth 100000 in
set_option maxHeartbeats 4000000 in
theorem pow_says (m : Bool) (ws : List Int) (n : Int) (hl : ws.length < 9999999) (h : Wd ws) (hn0 : -9223372036854775808 ≤ n) (hn1 : n < 9223372036854775808) : Says E 45 [pI m ws, vZ n] (.tup [pZ (powV (canon m ws) (sg m (val ws)) n), vZ (powE (canon m ws) (sg m (val ws)) n)]) := by
  refine says_of (xs := [pZ (powV (canon m ws) (sg m (val ws)) n), vZ (powE (canon m ws) (sg m (val ws)) n)]) Tryd.func45 rfl Tryd.ntmps45 Tryd.results45 (by simp) fun F hG hX0 hnt hdf P0 => ?_
  have L := ltn hnt
  have hX : ∀ b, F.X b → E.ng ≤ b := fun b h => absurd h (hX0 b)
  have hN := ng_le hG
  have na := nw_val (m := m) h
  refine exr ?_
  refine swb (core_box (k := 2) (n := 2) (.pagg (.cons (.cons .nil))) rfl rfl (P0 _ rfl) (L _ rfl)) ⟨rfl, T0⟩ T0 ⟨rfl, rfl⟩ ?_
  refine swb (core_alloc (k := 4) (n := 2) Tryd.zeroValue24 (.cons rfl (.cons rfl .nil)) rfl (P0 _ rfl) (L _ rfl)) trivial trivial ⟨rfl, rfl⟩ ?_
  refine sw (core_assign (L _ rfl)) ⟨rfl, T0⟩ T0 ?_
  refine seq_nil ⟨[(1, _), (2, _), (4, _)], [(2, _), (4, _)], ⟨rfl, rfl, rfl, T0⟩, ⟨rfl, rfl, T0⟩, ?_⟩
  refine ex_seq ?_
  refine ex_block ?_
  refine exr ?_
  refine sw (core_loadP Tryd.isAgg24 Tryd.sizeOf24 (by rfl) (by exact (.cons (.cons .nil))) rfl (L _ rfl)) ⟨rfl, T0⟩ ⟨rfl, T0⟩ ?_
  refine sw (core_call (E := E) hG hX Tryd.call16 rfl hN (is_says m ws (by omega)) (L _ rfl)) ⟨rfl, T0⟩ T0 ?_
  refine sw (core_not (L _ rfl)) ⟨rfl, T0⟩ T0 ?_
  refine sw (core_assign (L _ rfl)) ⟨rfl, T0⟩ T0 ?_
  refine seq_nil ⟨[(1, _), (2, _), (4, _), (8, _)], [(2, _), (4, _)], ⟨rfl, rfl, rfl, rfl, T0⟩, ⟨rfl, rfl, T0⟩, ?_⟩
  refine ex_if rfl (fun hc => ?_) (fun hc => ?_)
  · have hc : canon m ws = false := by simpa using hc
    refine exr ?_
    refine sw (core_pc (core_buildP (vs := []) Tryd.underlying24 Tryd.zeroValue24 (.cons rfl (.cons rfl .nil)) ((Places.cons Tryd.sizeOf4 (Places.cons Tryd.sizeOf22 Places.nil))).to rfl .nil (.cons (.cons .nil)) (L _ rfl)) (.agg (.cons .same (.cons .nil .nil)))) T0 T0 ?_
    refine sb (core_storeM Tryd.sizeOf24 (by rfl) (.pagg (.cons (.cons .nil))) rfl (.put (.put .here))) ⟨rfl, rfl, T0⟩ ⟨rfl, T0⟩ ?_
    refine sw (core_assign (L _ rfl)) ⟨rfl, T0⟩ T0 ?_
    refine seq_nil ⟨[(4, _), (5, _)], [(4, _)], ⟨rfl, rfl, T0⟩, ⟨rfl, T0⟩, ?_⟩
    refine ex_ret ?_
    refine ⟨.inr rfl, ResVs.cast (.cons (.agg rfl rfl rfl Tryd.isAgg24 Tryd.sizeOf24 (.cons (.cons .nil))) (.cons (.tmp rfl) .nil)) ?_⟩
    rw [powV, powE, hc, if_neg (show ¬ (false = true) by decide), if_neg (show ¬ ((3 : Int) = 0) by decide), pZ_zero]; rfl
  · have hc : canon m ws = true := by simpa using hc
    rw [bI_eq h hc, hc]
    obtain ⟨A, hA⟩ : ∃ A, A = sg m (val ws) := ⟨_, rfl⟩
    rw [← hA] at na ⊢
    refine exr ?_
    refine sw (core_move (L _ rfl)) ⟨rfl, T0⟩ T0 ?_
    refine sw (core_lss (L _ rfl)) ⟨rfl, rfl, T0⟩ T0 ?_
    refine sw (core_assign (L _ rfl)) ⟨rfl, T0⟩ T0 ?_
    refine seq_nil ⟨[(1, _), (2, _), (4, _), (13, _)], [(2, _), (4, _)], ⟨rfl, rfl, rfl, rfl, T0⟩, ⟨rfl, rfl, T0⟩, ?_⟩
    refine ex_if rfl (fun hn => ?_) (fun hn => ?_)
    · have hn := dt hn
      have e : powE true A n = 1 := by rw [powE, if_pos rfl, if_pos hn]
      refine exr ?_
      refine sw (core_pc (core_buildP (vs := []) Tryd.underlying24 Tryd.zeroValue24 (.cons rfl (.cons rfl .nil)) ((Places.cons Tryd.sizeOf4 (Places.cons Tryd.sizeOf22 Places.nil))).to rfl .nil (.cons (.cons .nil)) (L _ rfl)) (.agg (.cons .same (.cons .nil .nil)))) T0 T0 ?_
      refine sb (core_storeM Tryd.sizeOf24 (by rfl) (.pagg (.cons (.cons .nil))) rfl (.put (.put .here))) ⟨rfl, rfl, T0⟩ ⟨rfl, T0⟩ ?_
      refine sw (core_assign (L _ rfl)) ⟨rfl, T0⟩ T0 ?_
      refine seq_nil ⟨[(4, _), (5, _)], [(4, _)], ⟨rfl, rfl, T0⟩, ⟨rfl, T0⟩, ?_⟩
      refine ex_ret ?_
      refine ⟨.inr rfl, ResVs.cast (.cons (.agg rfl rfl rfl Tryd.isAgg24 Tryd.sizeOf24 (.cons (.cons .nil))) (.cons (.tmp rfl) .nil)) ?_⟩
      rw [powV, e, if_neg (show ¬ ((1 : Int) = 0) by decide), pZ_zero]; rfl
    · have hn := df hn
      obtain ⟨M, rfl⟩ : ∃ M : Nat, n = (M : Int) := ⟨n.toNat, by omega⟩
      obtain ⟨Lq, hLq⟩ : ∃ Lq, Lq = 1048576 / bl A.natAbs := ⟨_, rfl⟩
      have hLb : Lq ≤ 1048576 := by rw [hLq]; exact Nat.div_le_self _ _
      refine exm (sl := [(17, vb (decide (1 < bl A.natAbs ∧ Lq < M)))]) (sl0 := [(1, _), (2, _), (4, _)]) (hb := []) (hb0 := [(2, _), (4, _)]) ⟨rfl, rfl, rfl, T0⟩ ⟨rfl, rfl, T0⟩ ?_ ?_
      · by_cases hb : 1 < bl A.natAbs
        · refine sw (core_loadP Tryd.isAgg24 Tryd.sizeOf24 (by rfl) (by exact (.cons (.cons .nil))) rfl (L _ rfl)) ⟨rfl, T0⟩ ⟨rfl, T0⟩ ?_
          refine sw (core_call (E := E) hG hX Tryd.call21 rfl hN (bitsZ A (by omega)) (L _ rfl)) ⟨rfl, T0⟩ T0 ?_
          refine sw (core_gtr (L _ rfl)) ⟨rfl, rfl, T0⟩ T0 ?_
          refine sw (core_move (L _ rfl)) ⟨rfl, T0⟩ T0 ?_
          refine swg (g := 21) rfl (decide_eq_true (by omega)) (core_move (L _ rfl)) rfl ⟨rfl, T0⟩ T0 ?_
          refine swg (g := 21) rfl (decide_eq_true (by omega)) (core_loadP Tryd.isAgg24 Tryd.sizeOf24 (by rfl) (by exact (.cons (.cons .nil))) rfl (L _ rfl)) rfl ⟨rfl, T0⟩ ⟨rfl, T0⟩ ?_
          refine swg (g := 21) rfl (decide_eq_true (by omega)) (core_call (E := E) hG hX Tryd.call21 rfl hN (bitsZ A (by omega)) (L _ rfl)) rfl ⟨rfl, T0⟩ T0 ?_
          refine swg (g := 21) rfl (decide_eq_true (by omega)) (core_quo (L _ rfl) (by omega) (tdiv64 (show _ = (Lq : Int) by rw [hLq]; rfl) (by omega) (by omega))) rfl ⟨rfl, rfl, T0⟩ T0 ?_
          refine swg (g := 21) rfl (decide_eq_true (by omega)) (core_gtr (L _ rfl)) rfl ⟨rfl, rfl, T0⟩ T0 ?_
          refine sw (core_pick_t (decide_eq_true (by omega)) (L _ rfl)) ⟨rfl, rfl, T0⟩ T0 ?_
          refine sw (core_assign (L _ rfl)) ⟨rfl, T0⟩ T0 ?_
          exact seq_nil ⟨⟨ob rfl (dec_eq ⟨fun c => ⟨hb, by omega⟩, fun c => by have := c.2; omega⟩), rfl, rfl, rfl, T0⟩, ⟨rfl, rfl, T0⟩⟩
        · refine sw (core_loadP Tryd.isAgg24 Tryd.sizeOf24 (by rfl) (by exact (.cons (.cons .nil))) rfl (L _ rfl)) ⟨rfl, T0⟩ ⟨rfl, T0⟩ ?_
          refine sw (core_call (E := E) hG hX Tryd.call21 rfl hN (bitsZ A (by omega)) (L _ rfl)) ⟨rfl, T0⟩ T0 ?_
          refine sw (core_gtr (L _ rfl)) ⟨rfl, rfl, T0⟩ T0 ?_
          refine sw (core_move (L _ rfl)) ⟨rfl, T0⟩ T0 ?_
          refine swn (g := 21) rfl (decide_eq_false (by omega)) (L _ rfl) rfl ?_
          refine swn (g := 21) rfl (decide_eq_false (by omega)) (L _ rfl) rfl ?_
          refine swn (g := 21) rfl (decide_eq_false (by omega)) (L _ rfl) rfl ?_
          refine swn (g := 21) rfl (decide_eq_false (by omega)) (L _ rfl) rfl ?_
          refine swn (g := 21) rfl (decide_eq_false (by omega)) (L _ rfl) rfl ?_
          refine sw (core_pick_f (decide_eq_false (by omega)) (L _ rfl)) ⟨rfl, rfl, T0⟩ T0 ?_
          refine sw (core_assign (L _ rfl)) ⟨rfl, T0⟩ T0 ?_
          exact seq_nil ⟨⟨ob rfl (decide_eq_false (fun c => hb c.1)).symm, rfl, rfl, rfl, T0⟩, ⟨rfl, rfl, T0⟩⟩
      refine ex_if rfl (fun hd => ?_) (fun hd => ?_)
      · have hd := dt hd
        have e : powE true A (M : Int) = 2 := by rw [powE, if_pos rfl, if_neg hn, if_pos (by rw [← hLq]; simpa using hd)]
        refine exr ?_
        refine sw (core_pc (core_buildP (vs := []) Tryd.underlying24 Tryd.zeroValue24 (.cons rfl (.cons rfl .nil)) ((Places.cons Tryd.sizeOf4 (Places.cons Tryd.sizeOf22 Places.nil))).to rfl .nil (.cons (.cons .nil)) (L _ rfl)) (.agg (.cons .same (.cons .nil .nil)))) T0 T0 ?_
        refine sb (core_storeM Tryd.sizeOf24 (by rfl) (.pagg (.cons (.cons .nil))) rfl (.put (.put .here))) ⟨rfl, rfl, T0⟩ ⟨rfl, T0⟩ ?_
        refine sw (core_assign (L _ rfl)) ⟨rfl, T0⟩ T0 ?_
        refine seq_nil ⟨[(4, _), (5, _)], [(4, _)], ⟨rfl, rfl, T0⟩, ⟨rfl, T0⟩, ?_⟩
        refine ex_ret ?_
        refine ⟨.inr rfl, ResVs.cast (.cons (.agg rfl rfl rfl Tryd.isAgg24 Tryd.sizeOf24 (.cons (.cons .nil))) (.cons (.tmp rfl) .nil)) ?_⟩
        rw [powV, e, if_neg (show ¬ ((2 : Int) = 0) by decide), pZ_zero]; rfl
      · have hd := df hd
        have e : powE true A (M : Int) = 0 := by rw [powE, if_pos rfl, if_neg hn, if_neg (by rw [← hLq]; simpa using hd)]
        have eV : powV true A (M : Int) = A ^ M := by rw [powV, if_pos e, Int.toNat_natCast]
        rw [e, eV]
        refine ex_skip (show Exec _ _ _ _ _ from ?_)
        refine exd (by rfl) ?_
        refine sw (core_call (E := E) hG hX Tryd.call19 rfl hN (ofZ 1 (by omega)) (L _ rfl)) ⟨rfl, T0⟩ T0 ?_
        refine sw (core_loadP Tryd.isAgg24 Tryd.sizeOf24 (by rfl) (by exact (.cons (.cons .nil))) rfl (L _ rfl)) ⟨rfl, T0⟩ ⟨rfl, T0⟩ ?_
        refine swb (core_alloc (k := 6) (n := 2) Tryd.zeroValue24 (.cons rfl (.cons rfl .nil)) rfl (P0 _ rfl) (L _ rfl)) trivial trivial ⟨rfl, rfl⟩ ?_
        refine swb (core_alloc (k := 7) (n := 2) Tryd.zeroValue24 (.cons rfl (.cons rfl .nil)) rfl (P0 _ rfl) (L _ rfl)) trivial trivial ⟨rfl, rfl⟩ ?_
        refine sb (core_storeM Tryd.sizeOf24 (by rfl) (.pagg (.cons (.cons .nil))) rfl (.put (.put .here))) ⟨rfl, rfl, T0⟩ ⟨rfl, T0⟩ ?_
        refine sb (core_storeM Tryd.sizeOf24 (by rfl) (.pagg (.cons (.cons .nil))) rfl (.put (.put .here))) ⟨rfl, rfl, T0⟩ ⟨rfl, T0⟩ ?_
        refine seq_nil ⟨aok rfl rfl, [(1, _), (2, _), (4, _), (6, _), (7, _)], [(2, _), (4, _), (6, _), (7, _)], ⟨rfl, rfl, rfl, rfl, rfl, T0⟩, ⟨rfl, rfl, rfl, rfl, T0⟩, ?_⟩
        obtain ⟨N2, hN2⟩ : ∃ N2, N2 = if bl A.natAbs ≤ 1 then M % 2 + 2 * min (M / 2) 1 else M := ⟨_, rfl⟩
        have hAN : A ^ N2 = A ^ M := by
          rw [hN2]; split
          · rename_i c; exact pow_red c
          · rfl
        have hM : (M : Int) < 9223372036854775808 := hn1
        have hNb : ∀ e : Nat, e ≤ max N2 1 → nw (A ^ e) ≤ 10032768 := fun e he => by
          have := pow_nw (A := A) (e := e) (by
            by_cases c : e ≤ 1
            · exact .inl c
            · right
              by_cases c2 : bl A.natAbs ≤ 1
              · rw [if_pos c2] at hN2
                have h1 : bl A.natAbs * e ≤ 1 * e := Nat.mul_le_mul_right e c2
                omega
              · rw [if_neg c2] at hN2
                have h0 : M ≤ 1048576 / bl A.natAbs := by rw [← hLq]; exact Nat.le_of_not_lt (fun hh => hd ⟨by omega, hh⟩)
                have h1 : e ≤ 1048576 / bl A.natAbs := by omega
                have h2 : bl A.natAbs * e ≤ bl A.natAbs * (1048576 / bl A.natAbs) := Nat.mul_le_mul_left _ h1
                have h3 := Nat.mul_div_le 1048576 (bl A.natAbs)
                omega)
          omega
        refine ex_seq ?_
        refine exr ?_
        refine sw (core_loadP Tryd.isAgg24 Tryd.sizeOf24 (by rfl) (by exact (.cons (.cons .nil))) rfl (L _ rfl)) ⟨rfl, T0⟩ ⟨rfl, T0⟩ ?_
        refine sw (core_call (E := E) hG hX Tryd.call21 rfl hN (bitsZ A (by omega)) (L _ rfl)) ⟨rfl, T0⟩ T0 ?_
        refine sw (core_leq (L _ rfl)) ⟨rfl, rfl, T0⟩ T0 ?_
        refine seq_nil ⟨[(1, _), (4, _), (6, _), (7, _), (33, _)], [(4, _), (6, _), (7, _)], ⟨rfl, rfl, rfl, rfl, rfl, T0⟩, ⟨rfl, rfl, rfl, T0⟩, ?_⟩
        refine ex_cut (sl := [(1, vi (N2 : Int))]) (sl0 := [(4, _), (6, _), (7, _)]) (hb := []) (hb0 := [(4, _), (6, _), (7, _)]) ⟨rfl, rfl, rfl, T0⟩ ⟨rfl, rfl, rfl, T0⟩ ?_ ?_
        · refine ex_if rfl (fun hb => ?_) (fun hb => ?_)
          · have hb := dt hb
            refine exr0 ?_
            refine sw (core_move (L _ rfl)) ⟨rfl, T0⟩ T0 ?_
            refine sw (core_rem (L _ rfl) (by decide) (show _ = ((M % 2 : Nat) : Int) by rw [Int.tmod_eq_emod_of_nonneg (by omega)]; omega)) ⟨rfl, rfl, T0⟩ T0 ?_
            refine sw (core_move (L _ rfl)) ⟨rfl, T0⟩ T0 ?_
            refine sw (core_quo (L _ rfl) (by decide) (tdiv64 (show _ = ((M / 2 : Nat) : Int) by omega))) ⟨rfl, rfl, T0⟩ T0 ?_
            refine sw (core_min (L _ rfl)) ⟨rfl, rfl, T0⟩ T0 ?_
            refine sw (core_mul (L _ rfl) (w64 (by omega) (by omega))) ⟨rfl, rfl, T0⟩ T0 ?_
            refine sw (core_add (L _ rfl) (w64 (by omega) (by omega))) ⟨rfl, rfl, T0⟩ T0 ?_
            refine sw (core_assign (L _ rfl)) ⟨rfl, T0⟩ T0 ?_
            refine seq_nil ?_
            exact ⟨⟨oi (by rw [if_pos (by omega)] at hN2; omega) rfl, (by first | exact rfl | exact oi (by omega) rfl), (by first | exact rfl | exact oi (by omega) rfl), (by first | exact rfl | exact oi (by omega) rfl), T0⟩, ⟨rfl, rfl, rfl, T0⟩⟩
          · have hb := df hb
            refine ex_skip ?_
            exact ⟨⟨oi (by rw [if_neg (by omega)] at hN2; omega) rfl, (by first | exact rfl | exact oi (by omega) rfl), (by first | exact rfl | exact oi (by omega) rfl), (by first | exact rfl | exact oi (by omega) rfl), T0⟩, ⟨rfl, rfl, rfl, T0⟩⟩
        · refine ex_seq ?_
          refine ex_block ?_
          refine exl (α := (Nat × Nat × Nat)) (fun x => [(1, vi (x.1 : Int))]) (fun x => [(6, bI (A ^ x.2.1)), (7, bI (A ^ x.2.2))]) (fun x => x.2.1 + x.2.2 * x.1 = N2 ∧ x.2.2 ≤ max N2 1 ∧ x.2.1 ≤ N2 ∧ x.1 ≤ N2) (fun x => x.1) ((N2, 0, 1)) (sl := [(4, _), (6, _), (7, _)]) (hb := [(4, _)]) ?_ ⟨(by first | exact rfl | exact oi (by omega) rfl), rfl, rfl, rfl, T0⟩ ⟨obl rfl (by simp only [Int.pow_zero]), obl rfl (by simp only [show A ^ 1 = A by rw [Int.pow_succ, Int.pow_zero, Int.one_mul]]), rfl, T0⟩ ?_
          · exact ⟨by simp, by simp only; omega, by simp only; omega, by simp only; omega⟩
          intro x hx
          obtain ⟨k, f, e⟩ := x
          obtain ⟨hk, he, hf, hkN⟩ := hx
          simp only at hk he hf hkN
          dsimp only
          have hN2M : N2 ≤ M + 3 := by rw [hN2]; split <;> omega
          have hN2B : (N2 : Int) < 9223372036854775808 := by rw [hN2]; split <;> omega
          refine ex_seq ?_
          refine exr ?_
          refine sw (core_move (L _ rfl)) ⟨rfl, T0⟩ T0 ?_
          refine sw (core_gtr (L _ rfl)) ⟨rfl, rfl, T0⟩ T0 ?_
          refine seq_nil ⟨[(1, _), (4, _), (6, _), (7, _), (42, _)], [(4, _), (6, _), (7, _)], ⟨rfl, rfl, rfl, rfl, rfl, T0⟩, ⟨rfl, rfl, rfl, T0⟩, ?_⟩
          refine ex_if rfl (fun hg => ?_) (fun hg => ?_)
          · have hg := dt hg
            have nf := hNb f (by omega)
            have ne := hNb e he
            have hbd := pow_bd (by omega) hk
            refine ex_skip (show Exec _ _ _ _ _ from ?_)
            refine ex_seq ?_
            refine ex_block ?_
            refine ex_seq ?_
            refine exr ?_
            refine sw (core_move (L _ rfl)) ⟨rfl, T0⟩ T0 ?_
            refine sw (core_rem (L _ rfl) (by decide) (show _ = ((k % 2 : Nat) : Int) by rw [Int.tmod_eq_emod_of_nonneg (by omega)]; omega)) ⟨rfl, rfl, T0⟩ T0 ?_
            refine sw (core_eql (L _ rfl)) ⟨rfl, rfl, T0⟩ T0 ?_
            refine seq_nil ⟨[(1, _), (4, _), (6, _), (7, _), (47, _)], [(4, _), (6, _), (7, _)], ⟨rfl, rfl, rfl, rfl, rfl, T0⟩, ⟨rfl, rfl, rfl, T0⟩, ?_⟩
            refine ex_cut (sl := []) (sl0 := [(1, _), (4, _), (6, _), (7, _)]) (hb := [(6, bI (A ^ (if k % 2 = 1 then f + e else f)))]) (hb0 := [(4, _), (7, _)]) ⟨rfl, rfl, rfl, rfl, T0⟩ ⟨rfl, rfl, T0⟩ ?_ ?_
            · refine ex_if rfl (fun hr => ?_) (fun hr => ?_)
              · have hr := dt hr
                refine exr0 ?_
                refine sw (core_loadP Tryd.isAgg24 Tryd.sizeOf24 (by rfl) (by exact (.cons (.cons .nil))) rfl (L _ rfl)) ⟨rfl, T0⟩ ⟨rfl, T0⟩ ?_
                refine sw (core_loadP Tryd.isAgg24 Tryd.sizeOf24 (by rfl) (by exact (.cons (.cons .nil))) rfl (L _ rfl)) ⟨rfl, T0⟩ ⟨rfl, T0⟩ ?_
                refine sw (core_call (E := E) hG hX Tryd.call39 rfl hN (mulZ (A ^ f) (A ^ e) (by omega) (by omega)) (L _ rfl)) ⟨rfl, rfl, T0⟩ T0 ?_
                refine sb (core_storeM Tryd.sizeOf24 (by rfl) (.pagg (.cons (.cons .nil))) rfl (.put (.put .here))) ⟨rfl, rfl, T0⟩ ⟨rfl, T0⟩ ?_
                refine seq_nil ?_
                exact ⟨⟨(by first | exact rfl | exact oi (by omega) rfl), (by first | exact rfl | exact oi (by omega) rfl), (by first | exact rfl | exact oi (by omega) rfl), (by first | exact rfl | exact oi (by omega) rfl), T0⟩, ⟨obl rfl (by rw [if_pos (by omega), Int.pow_add]), rfl, rfl, T0⟩⟩
              · have hr := df hr
                refine ex_skip ?_
                exact ⟨⟨(by first | exact rfl | exact oi (by omega) rfl), (by first | exact rfl | exact oi (by omega) rfl), (by first | exact rfl | exact oi (by omega) rfl), (by first | exact rfl | exact oi (by omega) rfl), T0⟩, ⟨obl rfl (by rw [if_neg (by omega)]), rfl, rfl, T0⟩⟩
            · refine exr ?_
              refine sw (core_move (L _ rfl)) ⟨rfl, T0⟩ T0 ?_
              refine sw (core_gtr (L _ rfl)) ⟨rfl, rfl, T0⟩ T0 ?_
              refine seq_nil ⟨[(1, _), (4, _), (6, _), (7, _), (52, _)], [(4, _), (6, _), (7, _)], ⟨rfl, rfl, rfl, rfl, rfl, T0⟩, ⟨rfl, rfl, rfl, T0⟩, ?_⟩
              refine ex_if rfl (fun hr => ?_) (fun hr => ?_)
              · have hr := dt hr
                refine exr0 ?_
                refine sw (core_loadP Tryd.isAgg24 Tryd.sizeOf24 (by rfl) (by exact (.cons (.cons .nil))) rfl (L _ rfl)) ⟨rfl, T0⟩ ⟨rfl, T0⟩ ?_
                refine sw (core_loadP Tryd.isAgg24 Tryd.sizeOf24 (by rfl) (by exact (.cons (.cons .nil))) rfl (L _ rfl)) ⟨rfl, T0⟩ ⟨rfl, T0⟩ ?_
                refine sw (core_call (E := E) hG hX Tryd.call39 rfl hN (mulZ (A ^ e) (A ^ e) (by omega) (by omega)) (L _ rfl)) ⟨rfl, rfl, T0⟩ T0 ?_
                refine sb (core_storeM Tryd.sizeOf24 (by rfl) (.pagg (.cons (.cons .nil))) rfl (.put (.put .here))) ⟨rfl, rfl, T0⟩ ⟨rfl, T0⟩ ?_
                refine seq_nil ?_
                refine exr0 ?_
                refine sw (core_move (L _ rfl)) ⟨rfl, T0⟩ T0 ?_
                refine sw (core_quo (L _ rfl) (by decide) (tdiv64 (show _ = ((k / 2 : Nat) : Int) by omega))) ⟨rfl, rfl, T0⟩ T0 ?_
                refine sw (core_assign (L _ rfl)) ⟨rfl, T0⟩ T0 ?_
                refine seq_nil ?_
                exact ⟨(k / 2, (if k % 2 = 1 then f + e else f), (if 1 < k then e + e else e)), ⟨pow_step (by omega) hk, by simp only; split <;> omega, by simp only; split <;> omega, by simp only; omega⟩, (by simp only; omega), le_of ⟨(by first | exact rfl | exact oi (by omega) rfl), rfl, rfl, rfl, T0⟩ ⟨rfl, obl rfl (by simp only; rw [if_pos (show 1 < k by omega), Int.pow_add]), rfl, T0⟩⟩
              · have hr := df hr
                refine ex_skip (show Exec _ _ _ _ _ from ?_)
                refine exr0 ?_
                refine sw (core_move (L _ rfl)) ⟨rfl, T0⟩ T0 ?_
                refine sw (core_quo (L _ rfl) (by decide) (tdiv64 (show _ = ((k / 2 : Nat) : Int) by omega))) ⟨rfl, rfl, T0⟩ T0 ?_
                refine sw (core_assign (L _ rfl)) ⟨rfl, T0⟩ T0 ?_
                refine seq_nil ?_
                exact ⟨(k / 2, (if k % 2 = 1 then f + e else f), (if 1 < k then e + e else e)), ⟨pow_step (by omega) hk, by simp only; split <;> omega, by simp only; split <;> omega, by simp only; omega⟩, (by simp only; omega), le_of ⟨(by first | exact rfl | exact oi (by omega) rfl), rfl, rfl, rfl, T0⟩ ⟨rfl, obl rfl (by simp only; rw [if_neg (show ¬ 1 < k by omega)]), rfl, T0⟩⟩
          · have hg := df hg
            have hk0 : k = 0 := by omega
            subst hk0
            have hfN : f = N2 := by omega
            rw [hfN, hAN]
            refine ex_exit (show Exec _ _ _ _ _ from ?_)
            refine exr ?_
            refine sw (core_loadP Tryd.isAgg24 Tryd.sizeOf24 (by rfl) (by exact (.cons (.cons .nil))) rfl (L _ rfl)) ⟨rfl, T0⟩ ⟨rfl, T0⟩ ?_
            refine sb (core_storeM Tryd.sizeOf24 (by rfl) (.pagg (.cons (.cons .nil))) rfl (.put (.put .here))) ⟨rfl, rfl, T0⟩ ⟨rfl, T0⟩ ?_
            refine sw (core_assign (L _ rfl)) ⟨rfl, T0⟩ T0 ?_
            refine seq_nil ⟨[(4, _), (5, _)], [(4, _)], ⟨rfl, rfl, T0⟩, ⟨rfl, T0⟩, ?_⟩
            refine ex_ret ?_
            refine ⟨.inr rfl, ResVs.cast (.cons (.agg rfl rfl rfl Tryd.isAgg24 Tryd.sizeOf24 (.cons (.cons .nil))) (.cons (.tmp rfl) .nil)) ?_⟩
            rfl

theorem powZ (a n : Int) (ha : nw a < 9999999) (hn0 : -9223372036854775808 ≤ n) (hn1 : n < 9223372036854775808) : Says E 45 [pZ a, vZ n] (.tup [pZ (powV true a n), vZ (powE true a n)]) := by
  have := pow_says (decide (a < 0)) (digs a.natAbs) n ha (wd_digs _) hn0 hn1
  rwa [canon_digs a, sg_digs] at this
end Go.Proofs.YtebkelnibecmjaaDoor.N
namespace Go.Proofs.YtebkelnibecmjaaDoor.N
open Go Go.Proofs.YtebkelnibecmjaaDoor.SH Go.Proofs.YtebkelnibecmjaaDoor.NumA
theorem pow2_ub {A : Int} {k : Nat} (h : bl A.natAbs ≤ 2 * k) (hA : 0 ≤ A) : A < (2 ^ k + 1) * (2 ^ k + 1) := by
  have h1 := (bl_spec (n := A.natAbs) (k := 2 * k)).1 h
  have h2 : A < ((2 ^ (2 * k) : Nat) : Int) := by omega
  rw [show ((2 ^ (2 * k) : Nat) : Int) = 2 ^ (2 * k) from Int.natCast_pow 2 _, show 2 * k = k + k by omega, Int.pow_add] at h2
  have hp : (0 : Int) < 2 ^ k := Int.pow_pos (by decide)
  have h3 : ((2 : Int) ^ k + 1) * (2 ^ k + 1) = 2 ^ k * 2 ^ k + 2 * 2 ^ k + 1 := by grind
  omega
def sqV (c : Bool) (A : Int) : Bool := c && decide (0 ≤ A)
set_option maxRecDepth 100000 in
set_option maxHeartbeats 4000000 in
theorem sqrt_says (m : Bool) (ws : List Int) (hl : ws.length < 30000) (h : Wd ws) : Says E 43 [pI m ws] (.tup [pZ (if canon m ws = true then if sg m (val ws) < 0 then 0 else sqZ (sg m (val ws)) else 0), vZ (if canon m ws = true then if sg m (val ws) < 0 then 1 else 0 else 3)]) := by
  refine says_of (xs := [pZ (if canon m ws = true then if sg m (val ws) < 0 then 0 else sqZ (sg m (val ws)) else 0), vZ (if canon m ws = true then if sg m (val ws) < 0 then 1 else 0 else 3)]) Tryd.func43 rfl Tryd.ntmps43 Tryd.results43 (by simp) fun F hG hX0 hnt hdf P0 => ?_
  have L := ltn hnt
  have hX : ∀ b, F.X b → E.ng ≤ b := fun b h => absurd h (hX0 b)
  have hN := ng_le hG
  have na := nw_val (m := m) h
  refine exr ?_
  refine swb (core_box (k := 1) (n := 2) (.pagg (.cons (.cons .nil))) rfl rfl (P0 _ rfl) (L _ rfl)) ⟨rfl, T0⟩ T0 ⟨rfl, rfl⟩ ?_
  refine swb (core_alloc (k := 2) (n := 2) Tryd.zeroValue24 (.cons rfl (.cons rfl .nil)) rfl (P0 _ rfl) (L _ rfl)) trivial trivial ⟨rfl, rfl⟩ ?_
  refine sw (core_assign (L _ rfl)) ⟨rfl, T0⟩ T0 ?_
  refine seq_nil ⟨[(1, _), (2, _)], [(1, _), (2, _)], ⟨rfl, rfl, T0⟩, ⟨rfl, rfl, T0⟩, ?_⟩
  refine ex_seq ?_
  refine ex_block ?_
  refine exr ?_
  refine sw (core_loadP Tryd.isAgg24 Tryd.sizeOf24 (by rfl) (by exact (.cons (.cons .nil))) rfl (L _ rfl)) ⟨rfl, T0⟩ ⟨rfl, T0⟩ ?_
  refine sw (core_call (E := E) hG hX Tryd.call16 rfl hN (is_says m ws (by omega)) (L _ rfl)) ⟨rfl, T0⟩ T0 ?_
  refine sw (core_not (L _ rfl)) ⟨rfl, T0⟩ T0 ?_
  refine sw (core_assign (L _ rfl)) ⟨rfl, T0⟩ T0 ?_
  refine seq_nil ⟨[(1, _), (2, _), (12, _)], [(1, _), (2, _)], ⟨rfl, rfl, rfl, T0⟩, ⟨rfl, rfl, T0⟩, ?_⟩
  refine ex_if rfl (fun hc => ?_) (fun hc => ?_)
  · have hc : ¬ canon m ws = true := by simpa using hc
    refine exr ?_
    refine sw (core_pc (core_buildP (vs := []) Tryd.underlying24 Tryd.zeroValue24 (.cons rfl (.cons rfl .nil)) ((Places.cons Tryd.sizeOf4 (Places.cons Tryd.sizeOf22 Places.nil))).to rfl .nil (.cons (.cons .nil)) (L _ rfl)) (.agg (.cons .same (.cons .nil .nil)))) T0 T0 ?_
    refine sb (core_storeM Tryd.sizeOf24 (by rfl) (.pagg (.cons (.cons .nil))) rfl (.put (.put .here))) ⟨rfl, rfl, T0⟩ ⟨rfl, T0⟩ ?_
    refine sw (core_assign (L _ rfl)) ⟨rfl, T0⟩ T0 ?_
    refine seq_nil ⟨[(2, _), (3, _)], [(2, _)], ⟨rfl, rfl, T0⟩, ⟨rfl, T0⟩, ?_⟩
    refine ex_ret ?_
    refine ⟨.inr rfl, ResVs.cast (.cons (.agg rfl rfl rfl Tryd.isAgg24 Tryd.sizeOf24 (.cons (.cons .nil))) (.cons (.tmp rfl) .nil)) ?_⟩
    rw [if_neg hc, if_neg hc, pZ_zero]; rfl
  · have hc : canon m ws = true := by simpa using hc
    rw [if_pos hc, if_pos hc]
    have em : m = decide (sg m (val ws) < 0) := (canon_eq h hc).1.symm
    have ht := (canon_tr hc).1
    refine exr ?_
    refine sw (core_fieldAddr Tryd.underlying24 rfl Tryd.sizeOf4 (by decide) (by exact rfl) (L _ rfl)) ⟨rfl, T0⟩ ⟨rfl, T0⟩ ?_
    refine sw (core_load1 Tryd.isAgg4 (by rfl) (by rfl) (L _ rfl)) ⟨rfl, T0⟩ ⟨rfl, T0⟩ ?_
    refine sw (core_assign (L _ rfl)) ⟨rfl, T0⟩ T0 ?_
    refine seq_nil ⟨[(1, _), (2, _), (17, _)], [(1, _), (2, _)], ⟨rfl, rfl, rfl, T0⟩, ⟨rfl, rfl, T0⟩, ?_⟩
    refine ex_if rfl (fun hn => ?_) (fun hn => ?_)
    · have hn : sg m (val ws) < 0 := of_decide_eq_true ((canon_eq h hc).1.trans hn)
      refine exr ?_
      refine sw (core_pc (core_buildP (vs := []) Tryd.underlying24 Tryd.zeroValue24 (.cons rfl (.cons rfl .nil)) ((Places.cons Tryd.sizeOf4 (Places.cons Tryd.sizeOf22 Places.nil))).to rfl .nil (.cons (.cons .nil)) (L _ rfl)) (.agg (.cons .same (.cons .nil .nil)))) T0 T0 ?_
      refine sb (core_storeM Tryd.sizeOf24 (by rfl) (.pagg (.cons (.cons .nil))) rfl (.put (.put .here))) ⟨rfl, rfl, T0⟩ ⟨rfl, T0⟩ ?_
      refine sw (core_assign (L _ rfl)) ⟨rfl, T0⟩ T0 ?_
      refine seq_nil ⟨[(2, _), (3, _)], [(2, _)], ⟨rfl, rfl, T0⟩, ⟨rfl, T0⟩, ?_⟩
      refine ex_ret ?_
      refine ⟨.inr rfl, ResVs.cast (.cons (.agg rfl rfl rfl Tryd.isAgg24 Tryd.sizeOf24 (.cons (.cons .nil))) (.cons (.tmp rfl) .nil)) ?_⟩
      rw [if_pos hn, if_pos hn, pZ_zero]; rfl
    · have hn : ¬ sg m (val ws) < 0 := of_decide_eq_false ((canon_eq h hc).1.trans hn)
      refine exr ?_
      refine sw (core_fieldAddr Tryd.underlying24 rfl Tryd.sizeOf22 (by decide) (by exact rfl) (L _ rfl)) ⟨rfl, T0⟩ ⟨rfl, T0⟩ ?_
      refine sw (core_load1 Tryd.isAgg22 (by rfl) (by rfl) (L _ rfl)) ⟨rfl, T0⟩ ⟨rfl, T0⟩ ?_
      refine sw (core_len Tryd.underlying22 (L _ rfl)) ⟨rfl, T0⟩ T0 ?_
      refine sw (core_eql (L _ rfl)) ⟨rfl, rfl, T0⟩ T0 ?_
      refine sw (core_assign (L _ rfl)) ⟨rfl, T0⟩ T0 ?_
      refine seq_nil ⟨[(1, _), (2, _), (21, _)], [(1, _), (2, _)], ⟨rfl, rfl, rfl, T0⟩, ⟨rfl, rfl, T0⟩, ?_⟩
      refine ex_if rfl (fun hz => ?_) (fun hz => ?_)
      · have hz := dt hz
        have e : ws = [] := List.eq_nil_of_length_eq_zero (by omega)
        subst e
        have e0 : sg m (val []) = 0 := by cases m <;> rfl
        refine exr ?_
        refine sw (core_pc (core_buildP (vs := []) Tryd.underlying24 Tryd.zeroValue24 (.cons rfl (.cons rfl .nil)) ((Places.cons Tryd.sizeOf4 (Places.cons Tryd.sizeOf22 Places.nil))).to rfl .nil (.cons (.cons .nil)) (L _ rfl)) (.agg (.cons .same (.cons .nil .nil)))) T0 T0 ?_
        refine sb (core_storeM Tryd.sizeOf24 (by rfl) (.pagg (.cons (.cons .nil))) rfl (.put (.put .here))) ⟨rfl, rfl, T0⟩ ⟨rfl, T0⟩ ?_
        refine sw (core_assign (L _ rfl)) ⟨rfl, T0⟩ T0 ?_
        refine seq_nil ⟨[(2, _), (3, _)], [(2, _)], ⟨rfl, rfl, T0⟩, ⟨rfl, T0⟩, ?_⟩
        refine ex_ret ?_
        refine ⟨.inr rfl, ResVs.cast (.cons (.agg rfl rfl rfl Tryd.isAgg24 Tryd.sizeOf24 (.cons (.cons .nil))) (.cons (.tmp rfl) .nil)) ?_⟩
        rw [e0, if_neg (by decide), if_neg (by decide), sqZ_eq (r := 0) ⟨by decide, by decide, by decide⟩, pZ_zero]; rfl
      · have hz := df hz
        have hvp := val_pos h ht (by omega)
        rw [bI_eq h hc]
        obtain ⟨A, hA⟩ : ∃ A, A = sg m (val ws) := ⟨_, rfl⟩
        rw [← hA] at na hn ⊢
        rw [if_neg hn, if_neg hn]
        have hAp : 0 < A := by
          have : A ≠ 0 := by rw [hA]; exact sg_ne (by omega)
          omega
        have hbA : bl A.natAbs ≤ 32 * 30000 := by
          obtain ⟨c, hcc⟩ : ∃ c, c = 30000 := ⟨_, rfl⟩
          rw [← hcc, bl_spec]
          have h1 := nw_lt (a := A)
          have h2 := powle (show nw A ≤ c by omega)
          rw [← two32 c] at h2
          have h3 : (A.natAbs : Int) < 2 ^ (32 * c) := by omega
          have h4 : ((A.natAbs : Nat) : Int) < ((2 ^ (32 * c) : Nat) : Int) := by rw [show ((2 ^ (32 * c) : Nat) : Int) = 2 ^ (32 * c) from Int.natCast_pow 2 _]; exact h3
          exact Int.ofNat_lt.1 h4
        obtain ⟨k, hk⟩ : ∃ k, k = (bl A.natAbs + 1) / 2 := ⟨_, rfl⟩
        have b2 : bl (2 : Int).natAbs = 2 := by decide
        have n2 : nw 2 = 1 := by simp [nw, digs_pos, digs_zero]
        have eE : powE true 2 (k : Int) = 0 := by rw [powE, if_pos rfl, if_neg (by omega), b2, if_neg (by omega)]
        have eV : powV true 2 (k : Int) = 2 ^ k := by rw [powV, if_pos eE, Int.toNat_natCast]
        have pz := powZ 2 (k : Int) (by omega) (by omega) (by omega)
        rw [eE, eV] at pz
        have hub := pow2_ub (A := A) (k := k) (by omega) (by omega)
        have hXp : (0 : Int) < 2 ^ k := Int.pow_pos (by decide)
        have hXn := pow_nw (A := 2) (e := k) (.inr (by rw [b2]; omega))
        obtain ⟨X, hXX⟩ : ∃ X, X = (2 : Int) ^ k := ⟨_, rfl⟩
        rw [← hXX] at pz hub hXp hXn
        refine ex_skip (show Exec _ _ _ _ _ from ?_)
        refine exd (by rfl) ?_
        refine sw (core_call (E := E) hG hX Tryd.call19 rfl hN (of_says 2 (by omega) (by omega)) (L _ rfl)) ⟨rfl, T0⟩ T0 ?_
        refine sw (core_loadP Tryd.isAgg24 Tryd.sizeOf24 (by rfl) (by exact (.cons (.cons .nil))) rfl (L _ rfl)) ⟨rfl, T0⟩ ⟨rfl, T0⟩ ?_
        refine sw (core_call (E := E) hG hX Tryd.call21 rfl hN (bitsZ A (by omega)) (L _ rfl)) ⟨rfl, T0⟩ T0 ?_
        refine sw (core_add (L _ rfl) (w64 (by omega) (by omega))) ⟨rfl, rfl, T0⟩ T0 ?_
        refine sw (core_quo (L _ rfl) (by decide) (tdiv64 (show _ = (k : Int) by omega))) ⟨rfl, rfl, T0⟩ T0 ?_
        refine sw (core_call (E := E) hG hX Tryd.call45 rfl hN pz (L _ rfl)) ⟨rfl, rfl, T0⟩ T0 ?_
        refine sw (core_move (L _ rfl)) ⟨rfl, T0⟩ T0 ?_
        refine sw (core_extract rfl (L _ rfl)) ⟨rfl, T0⟩ T0 ?_
        refine sw (core_extract rfl (L _ rfl)) ⟨rfl, T0⟩ T0 ?_
        refine swb (core_alloc (k := 4) (n := 2) Tryd.zeroValue24 (.cons rfl (.cons rfl .nil)) rfl (P0 _ rfl) (L _ rfl)) trivial trivial ⟨rfl, rfl⟩ ?_
        refine sb (core_storeM Tryd.sizeOf24 (by rfl) (.pagg (.cons (.cons .nil))) rfl (.put (.put .here))) ⟨rfl, rfl, T0⟩ ⟨rfl, T0⟩ ?_
        refine sw (core_assign (L _ rfl)) ⟨rfl, T0⟩ T0 ?_
        refine seq_nil ⟨aok rfl rfl, [(1, _), (2, _), (4, _)], [(1, _), (2, _), (4, _)], ⟨rfl, rfl, rfl, T0⟩, ⟨rfl, rfl, rfl, T0⟩, ?_⟩
        refine ex_block ?_
        refine exl (α := Int) (fun x => []) (fun x => [(4, bI x)]) (fun x => 0 < x ∧ A < (x + 1) * (x + 1) ∧ x ≤ X) (fun x => x.toNat) (X) (sl := [(1, _), (2, _), (4, _)]) (hb := [(1, _), (2, _)]) ?_ ⟨rfl, rfl, rfl, T0⟩ ⟨rfl, rfl, rfl, T0⟩ ?_
        · exact ⟨hXp, hub, Int.le_refl _⟩
        intro x hx
        obtain ⟨hx0, hxu, hxX⟩ := hx
        have hxn : nw x ≤ nw X := nw_mono (by omega)
        have hq0 : 0 ≤ A / x := Int.ediv_nonneg (by omega) (by omega)
        have hq1 := Int.ediv_le_self x (show 0 ≤ A by omega)
        have hqn : nw (A / x) ≤ nw A := nw_mono (by omega)
        have han := nw_add x (A / x)
        have hdn := nw_ediv (a := x + A / x) (b := 2)
        have hnw := newton (a := A) (x := x) (by omega) hx0
        refine ex_block ?_
        refine exr ?_
        refine sw (core_loadP Tryd.isAgg24 Tryd.sizeOf24 (by rfl) (by exact (.cons (.cons .nil))) rfl (L _ rfl)) ⟨rfl, T0⟩ ⟨rfl, T0⟩ ?_
        refine sw (core_loadP Tryd.isAgg24 Tryd.sizeOf24 (by rfl) (by exact (.cons (.cons .nil))) rfl (L _ rfl)) ⟨rfl, T0⟩ ⟨rfl, T0⟩ ?_
        refine sw (core_call (E := E) hG hX Tryd.call31 rfl hN (divZ A x (by omega) (by omega) (by omega)) (L _ rfl)) ⟨rfl, rfl, T0⟩ T0 ?_
        refine sw (core_move (L _ rfl)) ⟨rfl, T0⟩ T0 ?_
        refine sw (core_extract rfl (L _ rfl)) ⟨rfl, T0⟩ T0 ?_
        refine sw (core_extract rfl (L _ rfl)) ⟨rfl, T0⟩ T0 ?_
        refine sw (core_extract rfl (L _ rfl)) ⟨rfl, T0⟩ T0 ?_
        refine swb (core_alloc (k := 6) (n := 2) Tryd.zeroValue24 (.cons rfl (.cons rfl .nil)) rfl (P0 _ rfl) (L _ rfl)) trivial trivial ⟨rfl, rfl⟩ ?_
        refine swb (core_alloc (k := 7) (n := 2) Tryd.zeroValue24 (.cons rfl (.cons rfl .nil)) rfl (P0 _ rfl) (L _ rfl)) trivial trivial ⟨rfl, rfl⟩ ?_
        refine sb (core_storeM Tryd.sizeOf24 (by rfl) (.pagg (.cons (.cons .nil))) rfl (.put (.put .here))) ⟨rfl, rfl, T0⟩ ⟨rfl, T0⟩ ?_
        refine sb (core_storeM Tryd.sizeOf24 (by rfl) (.pagg (.cons (.cons .nil))) rfl (.put (.put .here))) ⟨rfl, rfl, T0⟩ ⟨rfl, T0⟩ ?_
        refine sw (core_assign (L _ rfl)) ⟨rfl, T0⟩ T0 ?_
        refine seq_nil ⟨[(1, _), (2, _), (4, _), (6, _)], [(1, _), (2, _), (4, _), (6, _)], ⟨rfl, rfl, rfl, rfl, T0⟩, ⟨rfl, rfl, rfl, rfl, T0⟩, ?_⟩
        refine exr ?_
        refine sw (core_loadP Tryd.isAgg24 Tryd.sizeOf24 (by rfl) (by exact (.cons (.cons .nil))) rfl (L _ rfl)) ⟨rfl, T0⟩ ⟨rfl, T0⟩ ?_
        refine sw (core_loadP Tryd.isAgg24 Tryd.sizeOf24 (by rfl) (by exact (.cons (.cons .nil))) rfl (L _ rfl)) ⟨rfl, T0⟩ ⟨rfl, T0⟩ ?_
        refine sw (core_call (E := E) hG hX Tryd.call35 rfl hN (addZ x (A / x) (by omega) (by omega)) (L _ rfl)) ⟨rfl, rfl, T0⟩ T0 ?_
        refine sw (core_call (E := E) hG hX Tryd.call19 rfl hN (of_says 2 (by omega) (by omega)) (L _ rfl)) ⟨rfl, T0⟩ T0 ?_
        refine sw (core_call (E := E) hG hX Tryd.call31 rfl hN (divZ (x + A / x) 2 (by omega) (by omega) (by omega)) (L _ rfl)) ⟨rfl, rfl, T0⟩ T0 ?_
        refine sw (core_move (L _ rfl)) ⟨rfl, T0⟩ T0 ?_
        refine sw (core_extract rfl (L _ rfl)) ⟨rfl, T0⟩ T0 ?_
        refine sw (core_extract rfl (L _ rfl)) ⟨rfl, T0⟩ T0 ?_
        refine sw (core_extract rfl (L _ rfl)) ⟨rfl, T0⟩ T0 ?_
        refine swb (core_alloc (k := 9) (n := 2) Tryd.zeroValue24 (.cons rfl (.cons rfl .nil)) rfl (P0 _ rfl) (L _ rfl)) trivial trivial ⟨rfl, rfl⟩ ?_
        refine swb (core_alloc (k := 10) (n := 2) Tryd.zeroValue24 (.cons rfl (.cons rfl .nil)) rfl (P0 _ rfl) (L _ rfl)) trivial trivial ⟨rfl, rfl⟩ ?_
        refine sb (core_storeM Tryd.sizeOf24 (by rfl) (.pagg (.cons (.cons .nil))) rfl (.put (.put .here))) ⟨rfl, rfl, T0⟩ ⟨rfl, T0⟩ ?_
        refine sb (core_storeM Tryd.sizeOf24 (by rfl) (.pagg (.cons (.cons .nil))) rfl (.put (.put .here))) ⟨rfl, rfl, T0⟩ ⟨rfl, T0⟩ ?_
        refine sw (core_assign (L _ rfl)) ⟨rfl, T0⟩ T0 ?_
        refine seq_nil ⟨[(1, _), (2, _), (4, _), (9, _)], [(1, _), (2, _), (4, _), (9, _)], ⟨rfl, rfl, rfl, rfl, T0⟩, ⟨rfl, rfl, rfl, rfl, T0⟩, ?_⟩
        refine ex_seq ?_
        refine exr ?_
        refine sw (core_loadP Tryd.isAgg24 Tryd.sizeOf24 (by rfl) (by exact (.cons (.cons .nil))) rfl (L _ rfl)) ⟨rfl, T0⟩ ⟨rfl, T0⟩ ?_
        refine sw (core_loadP Tryd.isAgg24 Tryd.sizeOf24 (by rfl) (by exact (.cons (.cons .nil))) rfl (L _ rfl)) ⟨rfl, T0⟩ ⟨rfl, T0⟩ ?_
        refine sw (core_call (E := E) hG hX Tryd.call25 rfl hN (cmpZ ((x + A / x) / 2) x (by omega) (by omega)) (L _ rfl)) ⟨rfl, rfl, T0⟩ T0 ?_
        refine sw (core_geq (L _ rfl)) ⟨rfl, rfl, T0⟩ T0 ?_
        refine seq_nil ⟨[(1, _), (2, _), (4, _), (9, _), (55, _)], [(1, _), (2, _), (4, _), (9, _)], ⟨rfl, rfl, rfl, rfl, rfl, T0⟩, ⟨rfl, rfl, rfl, rfl, T0⟩, ?_⟩
        refine ex_if rfl (fun he => ?_) (fun he => ?_)
        · have he := cmpI_ge (dt he)
          rw [sqZ_eq (newton_end hx0 hxu he)]
          refine exr ?_
          refine sw (core_loadP Tryd.isAgg24 Tryd.sizeOf24 (by rfl) (by exact (.cons (.cons .nil))) rfl (L _ rfl)) ⟨rfl, T0⟩ ⟨rfl, T0⟩ ?_
          refine sb (core_storeM Tryd.sizeOf24 (by rfl) (.pagg (.cons (.cons .nil))) rfl (.put (.put .here))) ⟨rfl, rfl, T0⟩ ⟨rfl, T0⟩ ?_
          refine sw (core_assign (L _ rfl)) ⟨rfl, T0⟩ T0 ?_
          refine seq_nil ⟨[(2, _), (3, _)], [(2, _)], ⟨rfl, rfl, T0⟩, ⟨rfl, T0⟩, ?_⟩
          refine ex_ret ?_
          refine ⟨.inr rfl, ResVs.cast (.cons (.agg rfl rfl rfl Tryd.isAgg24 Tryd.sizeOf24 (.cons (.cons .nil))) (.cons (.tmp rfl) .nil)) ?_⟩
          rfl
        · have he := cmpI_lt (df he)
          have hnp : 0 < (x + A / x) / 2 := by
            by_cases c : (x + A / x) / 2 = 0
            · rw [c] at hnw; omega
            · omega
          refine ex_skip (show Exec _ _ _ _ _ from ?_)
          refine exr0 ?_
          refine sw (core_loadP Tryd.isAgg24 Tryd.sizeOf24 (by rfl) (by exact (.cons (.cons .nil))) rfl (L _ rfl)) ⟨rfl, T0⟩ ⟨rfl, T0⟩ ?_
          refine sb (core_storeM Tryd.sizeOf24 (by rfl) (.pagg (.cons (.cons .nil))) rfl (.put (.put .here))) ⟨rfl, rfl, T0⟩ ⟨rfl, T0⟩ ?_
          refine seq_nil ?_
          exact ⟨(x + A / x) / 2, ⟨hnp, hnw, by omega⟩, (by omega), le_of ⟨rfl, rfl, rfl, T0⟩ ⟨rfl, rfl, rfl, T0⟩⟩

theorem sqrtZ (a : Int) (ha : nw a < 30000) (h0 : 0 ≤ a) : Says E 43 [pZ a] (.tup [pZ (sqZ a), vZ 0]) := by
  have := sqrt_says (decide (a < 0)) (digs a.natAbs) ha (wd_digs _)
  rwa [if_pos (canon_digs a), if_pos (canon_digs a), sg_digs, if_neg (by omega), if_neg (by omega)] at this
end Go.Proofs.YtebkelnibecmjaaDoor.N
namespace Go.Proofs.YtebkelnibecmjaaDoor.N
open Go Go.Proofs.YtebkelnibecmjaaDoor.SH Go.Proofs.YtebkelnibecmjaaDoor.NumA
def encB (bs : List UInt8) : List Pure := bs.map fun b => .a (.int .u8 b.toNat)
@[simp] theorem encB_length (bs : List UInt8) : (encB bs).length = bs.length := by simp [encB]
theorem getB {bs : List UInt8} {i : Nat} (h : i < bs.length) : (encB bs)[i]? = some (.a (.int .u8 (bs.getD i 0).toNat)) := by
  simp [encB, h, List.getD_eq_getElem?_getD]
@[reducible] def pS (bs : List UInt8) : Pure := .a (.string (str bs))
set_option maxRecDepth 100000 in
set_option maxHeartbeats 4000000 in
theorem blocks_says (s : ByteArray) : SaysC E 75 [.a (.string s)] 89 9 (.a (.string s)) := by
  refine saysC_of (k := 1) Tryd.func75 rfl Tryd.ntmps75 Tryd.results75 (by simp) fun F hG hX0 hnt hdf P0 => ?_
  have L := ltn hnt
  have hX : ∀ b, F.X b → E.ng ≤ b := fun b h => absurd h (hX0 b)
  have hN := ng_le hG
  refine exr ?_
  refine swb (core_box (k := 1) (n := 1) (.atom rfl) rfl rfl (P0 _ rfl) (L _ rfl)) ⟨rfl, T0⟩ T0 ⟨rfl, rfl⟩ ?_
  refine sw (core_assign (L _ rfl)) ⟨rfl, T0⟩ T0 ?_
  refine seq_nil ⟨[(1, _)], [(1, _)], ⟨rfl, T0⟩, ⟨rfl, T0⟩, ?_⟩
  refine exr ?_
  refine sw (core_func (vs := []) (us := [_]) rfl rfl (L _ rfl)) ⟨rfl, T0⟩ T0 ?_
  refine sw (core_assign (L _ rfl)) ⟨rfl, T0⟩ T0 ?_
  refine seq_nil ⟨[(2, _)], [(1, _)], ⟨rfl, T0⟩, ⟨rfl, T0⟩, ?_⟩
  refine ex_ret ?_
  exact ⟨.inr rfl, rfl, rfl⟩

@[reducible] def encC (b : Int × Int) : Value × Value := (.int .u32 b.1, .int .i64 b.2)
set_option maxRecDepth 100000 in
set_option maxHeartbeats 4000000 in
theorem blocks_iter (ds : List UInt8) (hl0 : ds.length < 100000000) (hdg : Digits ds) (l bx N : Nat) (c0 : Array Value) (J : Nat → World → Prop) (W : World) (stab : ∀ k W1 W2, J k W1 → Chg bx 9 N W1 W2 → J k W2) (hy : ∀ k b, (chunks ds)[k]? = some b → YieldOk E.P l bx N W 9 #[(encC b).1, (encC b).2] (J k) (J (k + 1))) (hJ : J 0 W) (hbx : W.heap[bx]? = some (.cells c0 9 (0, 0))) (hN0 : c0.size = N) (h00 : c0[0]? = some (.string (str ds))) (ho : (Value.string (str ds)).oneCell' = true) : Calls E.P 89 #[.func (.yield l) #[] #[], .pointer (some ⟨bx, 0, none⟩)] W fun e W' => (∃ v, e = .returned v) ∧ J (chunks ds).length W' ∧ BoxOk (hp W') bx 9 N := by
  refine iter_calls (n := 39) (g := 5) (J := J 0) Tryd.func89 rfl Tryd.ntmps89 Tryd.results89 (by decide) (by decide) (by decide) W hJ (stab 0) hbx hN0 h00 ho (fun _ _ => by simp [Rel]) fun F hnt hXt hokA hp1 P0 hro hw0 hpn hdf => ?_
  have L := ltn hnt
  refine ex_block ?_
  refine exl (α := (Nat × List UInt8)) (fun x => [(5, .raw (rawOf F.w0 bx 9 N (J x.1)))]) (fun x => [(1000, ⟨9, 1, .mix [.p (pS x.2)]⟩)]) (fun x => (chunks ds).drop x.1 = chunks x.2 ∧ Digits x.2 ∧ x.1 ≤ (chunks ds).length ∧ x.2.length ≤ ds.length) (fun x => x.2.length) ((0, ds)) (sl := [(0, _), (1, _)]) (hb := []) ?_ ⟨rfl, rfl, rfl, T0⟩ ⟨rfl, T0⟩ ?_
  · exact ⟨rfl, hdg, Nat.zero_le _, Nat.le_refl _⟩
  intro x hx
  obtain ⟨k, rest⟩ := x
  obtain ⟨hc, hd, hk, hrl⟩ := hx
  simp only at hc hd hk hrl
  dsimp only
  have hsz := str_size rest
  refine ex_seq ?_
  refine exr ?_
  refine sw (core_load1 Tryd.isAgg9 (by rfl) (by rfl) (L _ rfl)) ⟨rfl, T0⟩ ⟨rfl, T0⟩ ?_
  refine sw (core_lenS Tryd.underlying9 (L _ rfl)) ⟨rfl, T0⟩ T0 ?_
  refine sw (core_gtr (L _ rfl)) ⟨rfl, rfl, T0⟩ T0 ?_
  refine seq_nil ⟨[(0, _), (1, _), (5, _), (9, _)], [(1000, _)], ⟨rfl, rfl, rfl, rfl, T0⟩, ⟨rfl, T0⟩, ?_⟩
  refine ex_if rfl (fun he => ?_) (fun he => ?_)
  · have he := dt he
    rw [hsz] at he
    have hne : rest ≠ [] := by intro e; subst e; simp at he
    obtain ⟨n, hn⟩ : ∃ n, n = (rest.length - 1) % 9 + 1 := ⟨_, rfl⟩
    have hnl : n ≤ rest.length := by omega
    have hcc := chunks_cons hne
    rw [← hn] at hcc
    have hck : (chunks ds)[k]? = some (numI (rest.take n), (n : Int)) := by
      have : ((chunks ds).drop k)[0]? = some (numI (rest.take n), (n : Int)) := by rw [hc, hcc]; rfl
      simpa using this
    have htl : (rest.take n).length = n := by simp; omega
    have hdt := hd.take n
    refine ex_skip (show Exec _ _ _ _ _ from ?_)
    refine ex_block ?_
    refine exr ?_
    refine sw (core_load1 Tryd.isAgg9 (by rfl) (by rfl) (L _ rfl)) ⟨rfl, T0⟩ ⟨rfl, T0⟩ ?_
    refine sw (core_lenS Tryd.underlying9 (L _ rfl)) ⟨rfl, T0⟩ T0 ?_
    refine sw (core_sub (L _ rfl) (w64 (by omega) (by omega))) ⟨rfl, rfl, T0⟩ T0 ?_
    refine sw (core_rem (L _ rfl) (by decide) (show _ = (((rest.length - 1) % 9 : Nat) : Int) by rw [Int.tmod_eq_emod_of_nonneg (by omega)]; omega)) ⟨rfl, rfl, T0⟩ T0 ?_
    refine sw (core_add (L _ rfl) (show _ = (n : Int) by rw [w64 (by omega) (by omega)]; omega)) ⟨rfl, rfl, T0⟩ T0 ?_
    refine sw (core_assign (L _ rfl)) ⟨rfl, T0⟩ T0 ?_
    refine seq_nil ⟨[(0, _), (1, _), (3, _), (5, _)], [(1000, _)], ⟨rfl, rfl, rfl, rfl, T0⟩, ⟨rfl, T0⟩, ?_⟩
    refine exr ?_
    refine sw (core_assign (L _ rfl)) ⟨rfl, T0⟩ T0 ?_
    refine seq_nil ⟨[(0, _), (1, _), (3, _), (4, _), (5, _)], [(1000, _)], ⟨rfl, rfl, rfl, rfl, rfl, T0⟩, ⟨rfl, T0⟩, ?_⟩
    refine ex_seq ?_
    refine exr ?_
    refine sw (core_load1 Tryd.isAgg9 (by rfl) (by rfl) (L _ rfl)) ⟨rfl, T0⟩ ⟨rfl, T0⟩ ?_
    refine sw (core_move (L _ rfl)) ⟨rfl, T0⟩ T0 ?_
    refine sw (slS_hi Tryd.underlying9 (h := n) (by first | exact rfl | omega) (by rw [hsz]; exact hnl) (L _ rfl)) ⟨rfl, rfl, T0⟩ T0 ?_
    refine sw (core_s2b (n := n) (xs := encB (rest.take n)) Tryd.underlying9 Tryd.underlying50 Tryd.underlying5 (by rw [str_extract, str_size]; simp; omega) (by rw [str_extract]; simp [str, encB]) (L _ rfl)) ⟨rfl, T0⟩ T0 ?_
    refine sw (core_len Tryd.underlying50 (L _ rfl)) ⟨rfl, T0⟩ T0 ?_
    refine sw (core_move (L _ rfl)) ⟨rfl, T0⟩ T0 ?_
    refine seq_nil ⟨[(0, _), (1, _), (3, _), (4, _), (5, _), (18, _), (19, _), (20, _)], [(1000, _)], ⟨rfl, rfl, rfl, rfl, rfl, rfl, rfl, rfl, T0⟩, ⟨rfl, T0⟩, ?_⟩
    refine ex_block ?_
    refine exl (α := Nat) (fun y => [(20, vi (y : Int)), (4, vu (numI ((rest.take n).take y)))]) (fun y => []) (fun y => y ≤ n) (fun y => n - y) (0) (sl := [(0, _), (1, _), (3, _), (5, _), (18, _), (19, _)]) (hb := [(1000, _)]) ?_ ⟨(by first | exact rfl | exact oi (by omega) rfl), (by first | exact rfl | exact oi (by omega) rfl), rfl, rfl, rfl, rfl, rfl, rfl, T0⟩ ⟨rfl, T0⟩ ?_
    · exact Nat.zero_le _
    intro y hy2
    refine exr ?_
    refine sw (core_lss (L _ rfl)) ⟨rfl, rfl, T0⟩ T0 ?_
    refine seq_nil ⟨[(0, _), (1, _), (3, _), (4, _), (5, _), (18, _), (19, _), (20, _), (21, _)], [(1000, _)], ⟨rfl, rfl, rfl, rfl, rfl, rfl, rfl, rfl, rfl, T0⟩, ⟨rfl, T0⟩, ?_⟩
    refine ex_seq ?_
    refine ex_if rfl (fun hf => ?_) (fun hf => ?_)
    · have hf := dt hf
      have hb9 := numI_bd (hdt.take y)
      have hg := hdt.get (i := y) (by omega)
      have hlen9 : ((rest.take n).take y).length = y := by simp; omega
      rw [hlen9] at hb9
      have hp10 : (10 : Int) ^ y ≤ 100000000 := by
        have h2 : ((10 ^ y : Nat) : Int) ≤ ((10 ^ 8 : Nat) : Int) := Int.ofNat_le.2 (Nat.pow_le_pow_right (by decide) (by omega))
        rw [Int.natCast_pow] at h2
        exact h2
      refine ex_skip (show Exec _ _ _ _ _ from ?_)
      refine ex_seq ?_
      refine ex_block ?_
      refine exr ?_
      refine sw (ixJ Tryd.underlying50 Tryd.sizeOf5 (j := y) (by first | exact rfl | omega) (by omega) (by simp; omega) (L _ rfl)) ⟨rfl, rfl, T0⟩ T0 ?_
      refine sw (core_loadI1 Tryd.isAgg5 (by first | exact getB (by omega) | rfl) (L _ rfl)) ⟨rfl, T0⟩ T0 ?_
      refine sw (core_assign (L _ rfl)) ⟨rfl, T0⟩ T0 ?_
      refine seq_nil ⟨[(0, _), (1, _), (3, _), (4, _), (5, _), (6, _), (18, _), (19, _), (20, _)], [(1000, _)], ⟨rfl, rfl, rfl, rfl, rfl, rfl, rfl, rfl, rfl, T0⟩, ⟨rfl, T0⟩, ?_⟩
      refine exr0 ?_
      refine sw (core_move (L _ rfl)) ⟨rfl, T0⟩ T0 ?_
      refine sw (core_mul (L _ rfl) (fu32 (by omega) (by omega))) ⟨rfl, rfl, T0⟩ T0 ?_
      refine sw (core_move (L _ rfl)) ⟨rfl, T0⟩ T0 ?_
      refine sw (core_sub (L _ rfl) (fu8 (by omega) (by omega))) ⟨rfl, rfl, T0⟩ T0 ?_
      refine sw (core_conv Tryd.underlying5 Tryd.underlying53 (L _ rfl) (fu32 (by omega) (by omega))) ⟨rfl, T0⟩ T0 ?_
      refine sw (core_add (L _ rfl) (show _ = numI ((rest.take n).take (y + 1)) by rw [numI_take_succ (by omega), dg]; exact fu32 (by omega) (by omega))) ⟨rfl, rfl, T0⟩ T0 ?_
      refine sw (core_assign (L _ rfl)) ⟨rfl, T0⟩ T0 ?_
      refine seq_nil ?_
      refine exr0 ?_
      refine sw (core_add (L _ rfl) (w64 (by omega) (by omega))) ⟨rfl, rfl, T0⟩ T0 ?_
      refine sw (core_move (L _ rfl)) ⟨rfl, T0⟩ T0 ?_
      refine seq_nil ?_
      exact ⟨y + 1, (by omega), (by omega), le_of ⟨(by first | exact rfl | exact oi (by omega) rfl), (by first | exact rfl | exact oi (by omega) rfl), rfl, rfl, rfl, rfl, rfl, rfl, T0⟩ ⟨rfl, T0⟩⟩
    · have hf := df hf
      have hyn : y = n := by omega
      subst hyn
      have hnum : (rest.take y).take y = rest.take y := List.take_of_length_le (by omega)
      rw [hnum]
      refine ex_exit (show Exec _ _ _ _ _ from ?_)
      refine ex_seq ?_
      refine ex_yield (bx := bx) (N := N) (T := 9) (l := l) (g := 5) (v1 := .int .u32 (numI (rest.take y))) (v2 := .int .i64 (y : Int)) (J := J k) (J' := J (k + 1)) (ks := [(0, .clo (.yield l) [] []), (1, .at_ 1000 0 1), (3, vi (y : Int))]) hro hXt hokA hp1 hpn hdf (stab (k + 1)) (by rw [hw0]; exact hy k _ hck) rfl rfl rfl rfl rfl ⟨⟨L _ rfl, L _ rfl⟩, ⟨L _ rfl, L _ rfl⟩, L _ rfl⟩ (by decide) (by intro p hp; simp only [List.mem_cons, List.not_mem_nil, or_false] at hp; rcases hp with rfl | rfl | rfl <;> exact ⟨rfl, by first | rfl | trivial, by simp only; decide⟩) ?_
      refine ex_false rfl rfl ?_
      refine ex_skip (show Exec _ _ _ _ _ from ?_)
      refine exr0 ?_
      refine sw (core_load1 Tryd.isAgg9 (by rfl) (by rfl) (L _ rfl)) ⟨rfl, T0⟩ ⟨rfl, T0⟩ ?_
      refine sw (core_move (L _ rfl)) ⟨rfl, T0⟩ T0 ?_
      refine sw (slS_lo Tryd.underlying9 (l := y) (by first | exact rfl | omega) (by rw [hsz]; exact hnl) (L _ rfl)) ⟨rfl, rfl, T0⟩ T0 ?_
      refine sb (core_storeM Tryd.sizeOf9 (by rfl) (.atom rfl) rfl (.put .here)) ⟨rfl, rfl, T0⟩ ⟨rfl, T0⟩ ?_
      refine seq_nil ?_
      exact ⟨(k + 1, rest.drop y), ⟨by rw [show (chunks ds).drop (k + 1) = ((chunks ds).drop k).drop 1 by simp, hc, hcc]; rfl, hd.drop y, by have := (List.getElem?_eq_some_iff.1 hck).1; simp only; omega, by simp only [List.length_drop]; omega⟩, (by simp only [List.length_drop]; omega), le_of ⟨(by first | exact rfl | exact oi (by omega) rfl), rfl, rfl, T0⟩ ⟨obl rfl (by rw [hsz, str_extract]; simp only; rw [List.take_of_length_le (by simp)]), T0⟩⟩
  · have he := df he
    rw [hsz] at he
    have hr0 : rest = [] := List.eq_nil_of_length_eq_zero (by omega)
    subst hr0
    rw [chunks_nil] at hc
    have hkl : k = (chunks ds).length := by
      have := congrArg List.length hc
      simp at this; omega
    subst hkl
    refine ex_exit ?_
    exact ⟨.inl rfl, rfl, _, rfl⟩

end Go.Proofs.YtebkelnibecmjaaDoor.N
namespace Go.Proofs.YtebkelnibecmjaaDoor.N
open Go Go.Proofs.YtebkelnibecmjaaDoor.SH Go.Proofs.YtebkelnibecmjaaDoor.NumA
def pNeg (bs : List UInt8) : Bool := decide (0 < bs.length ∧ ((bs.getD 0 0).toNat : Int) = 45)
def pDs (bs : List UInt8) : List UInt8 := if pNeg bs = true then bs.drop 1 else bs
def pBad (ds : List UInt8) (neg : Bool) : Bool := decide (ds.length = 0 ∨ (((ds.getD 0 0).toNat : Int) = 48 ∧ (1 < ds.length ∨ neg = true)))
instance (ds : List UInt8) : Decidable (Digits ds) := inferInstanceAs (Decidable (∀ c ∈ ds, 48 ≤ c.toNat ∧ c.toNat ≤ 57))
def parseE (bs : List UInt8) : Int := if pBad (pDs bs) (pNeg bs) = true ∨ ¬ Digits (pDs bs) then 3 else if 20000 < (pDs bs).length then 2 else 0
def parseV (bs : List UInt8) : Int := if parseE bs = 0 then sg (pNeg bs) (numI (pDs bs)) else 0
theorem pcases (ds : List UInt8) : ds.length = 0 ∨ (ds.length ≠ 0 ∧ ¬ ((ds.getD 0 0).toNat : Int) = 48) ∨ (((ds.getD 0 0).toNat : Int) = 48 ∧ 1 < ds.length) ∨ (ds.length ≠ 0 ∧ ((ds.getD 0 0).toNat : Int) = 48 ∧ ¬ 1 < ds.length) := by
  by_cases h1 : ds.length = 0
  · exact .inl h1
  · by_cases h2 : ((ds.getD 0 0).toNat : Int) = 48
    · by_cases h3 : 1 < ds.length
      · exact .inr (.inr (.inl ⟨h2, h3⟩))
      · exact .inr (.inr (.inr ⟨h1, h2, h3⟩))
    · exact .inr (.inl ⟨h1, h2⟩)
theorem Digits.snoc {ds : List UInt8} {j : Nat} (h : Digits (ds.take j)) (hj : j < ds.length) (h1 : 48 ≤ (ds.getD j 0).toNat ∧ (ds.getD j 0).toNat ≤ 57) : Digits (ds.take (j + 1)) := by
  rw [List.take_succ_eq_append_getElem hj]
  intro c hc
  rcases List.mem_append.1 hc with hc | hc
  · exact h c hc
  · rw [List.mem_singleton.1 hc]
    rw [List.getD_eq_getElem?_getD, List.getElem?_eq_getElem hj] at h1
    exact h1
theorem pow_get {n : Nat} (h : n ≤ 9) : (Cells.mix [vu 1, vu 10, vu 100, vu 1000, vu 10000, vu 100000, vu 1000000, vu 10000000, vu 100000000, vu 1000000000]).get n = some (vu (10 ^ n)) := by
  rcases (show n = 0 ∨ n = 1 ∨ n = 2 ∨ n = 3 ∨ n = 4 ∨ n = 5 ∨ n = 6 ∨ n = 7 ∨ n = 8 ∨ n = 9 by omega) with rfl | rfl | rfl | rfl | rfl | rfl | rfl | rfl | rfl | rfl <;> rfl
set_option maxRecDepth 100000 in
set_option maxHeartbeats 4000000 in
theorem parse_says (bs : List UInt8) (hl : bs.length < 100000000) : Says E 47 [pS bs] (.tup [pZ (parseV bs), vZ (parseE bs)]) := by
  refine says_of_esc (xs := [pZ (parseV bs), vZ (parseE bs)]) Tryd.func47 rfl Tryd.ntmps47 Tryd.results47 (by simp) fun F hG hX0 hnt hdf P0 hro hesc => ?_
  have L := ltn hnt
  have hX : ∀ b, F.X b → E.ng ≤ b := fun b h => absurd h (hX0 b)
  have hN := ng_le hG
  have hsz := str_size bs
  refine exr ?_
  refine swb (core_alloc (k := 2) (n := 2) Tryd.zeroValue24 (.cons rfl (.cons rfl .nil)) rfl (P0 _ rfl) (L _ rfl)) trivial trivial ⟨rfl, rfl⟩ ?_
  refine sw (core_assign (L _ rfl)) ⟨rfl, T0⟩ T0 ?_
  refine seq_nil ⟨[(0, _), (2, _), (3, _)], [(2, _)], ⟨rfl, rfl, rfl, T0⟩, ⟨rfl, T0⟩, ?_⟩
  refine exr ?_
  refine sw (core_buildArr (vs := [_, _, _, _, _, _, _, _, _, _]) Tryd.underlying71 Tryd.zeroValue71 (.cons rfl (.cons rfl (.cons rfl (.cons rfl (.cons rfl (.cons rfl (.cons rfl (.cons rfl (.cons rfl (.cons rfl .nil)))))))))) Tryd.sizeOf53 rfl (.cons rfl (.atom rfl) rfl (.put .here) (.cons rfl (.atom rfl) rfl (.skip (.put .here)) (.cons rfl (.atom rfl) rfl (.skip (.skip (.put .here))) (.cons rfl (.atom rfl) rfl (.skip (.skip (.skip (.put .here)))) (.cons rfl (.atom rfl) rfl (.skip (.skip (.skip (.skip (.put .here))))) (.cons rfl (.atom rfl) rfl (.skip (.skip (.skip (.skip (.skip (.put .here)))))) (.cons rfl (.atom rfl) rfl (.skip (.skip (.skip (.skip (.skip (.skip (.put .here))))))) (.cons rfl (.atom rfl) rfl (.skip (.skip (.skip (.skip (.skip (.skip (.skip (.put .here)))))))) (.cons rfl (.atom rfl) rfl (.skip (.skip (.skip (.skip (.skip (.skip (.skip (.skip (.put .here))))))))) (.cons rfl (.atom rfl) rfl (.skip (.skip (.skip (.skip (.skip (.skip (.skip (.skip (.skip (.put .here)))))))))) .nil)))))))))) (.cons (.cons (.cons (.cons (.cons (.cons (.cons (.cons (.cons (.cons .nil)))))))))) (L _ rfl)) ⟨rfl, rfl, rfl, rfl, rfl, rfl, rfl, rfl, rfl, rfl, T0⟩ T0 ?_
  refine swb (core_alloc (k := 4) (n := 10) Tryd.zeroValue71 (.cons rfl (.cons rfl (.cons rfl (.cons rfl (.cons rfl (.cons rfl (.cons rfl (.cons rfl (.cons rfl (.cons rfl .nil)))))))))) rfl (P0 _ rfl) (L _ rfl)) trivial trivial ⟨rfl, rfl⟩ ?_
  refine sb (core_storeM Tryd.sizeOf71 (by rfl) (.pagg (.cons (.cons (.cons (.cons (.cons (.cons (.cons (.cons (.cons (.cons .nil))))))))))) rfl (.put (.put (.put (.put (.put (.put (.put (.put (.put (.put .here))))))))))) ⟨rfl, rfl, T0⟩ ⟨rfl, T0⟩ ?_
  refine seq_nil ⟨[(0, _), (2, _), (3, _), (4, _)], [(2, _), (4, _)], ⟨rfl, rfl, rfl, rfl, T0⟩, ⟨rfl, rfl, T0⟩, ?_⟩
  refine exr ?_
  refine sw (core_move (L _ rfl)) ⟨rfl, T0⟩ T0 ?_
  refine sw (core_assign (L _ rfl)) ⟨rfl, T0⟩ T0 ?_
  refine sw (core_assign (L _ rfl)) ⟨rfl, T0⟩ T0 ?_
  refine seq_nil ⟨[(0, _), (2, _), (3, _), (4, _), (5, _), (6, _)], [(2, _), (4, _)], ⟨rfl, rfl, rfl, rfl, rfl, rfl, T0⟩, ⟨rfl, rfl, T0⟩, ?_⟩
  refine ex_seq ?_
  refine exm (sl := [(25, vb (pNeg bs))]) (sl0 := [(0, _), (2, _), (3, _), (4, _), (5, _), (6, _)]) (hb := []) (hb0 := [(2, _), (4, _)]) ⟨rfl, rfl, rfl, rfl, rfl, rfl, T0⟩ ⟨rfl, rfl, T0⟩ ?_ ?_
  · by_cases h0 : 0 < bs.length
    · refine sw (core_move (L _ rfl)) ⟨rfl, T0⟩ T0 ?_
      refine sw (core_lenS Tryd.underlying9 (L _ rfl)) ⟨rfl, T0⟩ T0 ?_
      refine sw (core_gtr (L _ rfl)) ⟨rfl, rfl, T0⟩ T0 ?_
      refine sw (core_move (L _ rfl)) ⟨rfl, T0⟩ T0 ?_
      refine swg (g := 21) rfl (by rw [hsz]; exact decide_eq_true (by omega)) (core_move (L _ rfl)) rfl ⟨rfl, T0⟩ T0 ?_
      refine swg (g := 21) rfl (by rw [hsz]; exact decide_eq_true (by omega)) (core_indexS Tryd.underlying9 (by decide) (by exact str_get (i := 0) h0) (L _ rfl)) rfl ⟨rfl, rfl, T0⟩ T0 ?_
      refine swg (g := 21) rfl (by rw [hsz]; exact decide_eq_true (by omega)) (core_eql (L _ rfl)) rfl ⟨rfl, rfl, T0⟩ T0 ?_
      refine sw (core_pick_t (by rw [hsz]; exact decide_eq_true (by omega)) (L _ rfl)) ⟨rfl, rfl, T0⟩ T0 ?_
      exact seq_nil ⟨⟨ob rfl (by rw [pNeg]; exact dec_eq ⟨fun c => ⟨h0, c⟩, fun c => c.2⟩), rfl, rfl, rfl, rfl, rfl, rfl, T0⟩, ⟨rfl, rfl, T0⟩⟩
    · refine sw (core_move (L _ rfl)) ⟨rfl, T0⟩ T0 ?_
      refine sw (core_lenS Tryd.underlying9 (L _ rfl)) ⟨rfl, T0⟩ T0 ?_
      refine sw (core_gtr (L _ rfl)) ⟨rfl, rfl, T0⟩ T0 ?_
      refine sw (core_move (L _ rfl)) ⟨rfl, T0⟩ T0 ?_
      refine swn (g := 21) rfl (by rw [hsz]; exact decide_eq_false (by omega)) (L _ rfl) rfl ?_
      refine swn (g := 21) rfl (by rw [hsz]; exact decide_eq_false (by omega)) (L _ rfl) rfl ?_
      refine swn (g := 21) rfl (by rw [hsz]; exact decide_eq_false (by omega)) (L _ rfl) rfl ?_
      refine sw (core_pick_f (by rw [hsz]; exact decide_eq_false (by omega)) (L _ rfl)) ⟨rfl, rfl, T0⟩ T0 ?_
      exact seq_nil ⟨⟨ob rfl (by rw [pNeg]; exact (decide_eq_false (fun c => h0 c.1)).symm), rfl, rfl, rfl, rfl, rfl, rfl, T0⟩, ⟨rfl, rfl, T0⟩⟩
  obtain ⟨ds, hds⟩ : ∃ ds, ds = pDs bs := ⟨_, rfl⟩
  have hdl : ds.length < 100000000 := by rw [hds, pDs]; split <;> (try simp only [List.length_drop]) <;> omega
  obtain ⟨neg, hneg⟩ : ∃ neg, neg = pNeg bs := ⟨_, rfl⟩
  have f3 : (pBad ds neg = true ∨ ¬ Digits ds) → parseV bs = 0 ∧ parseE bs = 3 := fun h => by
    have e : parseE bs = 3 := by rw [parseE, ← hds, ← hneg, if_pos h]
    exact ⟨by rw [parseV, e]; rfl, e⟩
  have f2 : ¬ (pBad ds neg = true ∨ ¬ Digits ds) → 20000 < ds.length → parseV bs = 0 ∧ parseE bs = 2 := fun h h2 => by
    have e : parseE bs = 2 := by rw [parseE, ← hds, ← hneg, if_neg h, if_pos h2]
    exact ⟨by rw [parseV, e]; rfl, e⟩
  have f0 : ¬ (pBad ds neg = true ∨ ¬ Digits ds) → ¬ 20000 < ds.length → parseV bs = sg neg (numI ds) ∧ parseE bs = 0 := fun h h2 => by
    have e : parseE bs = 0 := by rw [parseE, ← hds, ← hneg, if_neg h, if_neg h2]
    exact ⟨by rw [parseV, if_pos e, ← hds, ← hneg], e⟩
  refine ex_cut (sl := [(5, .p (pS ds)), (6, vb neg)]) (sl0 := [(2, _), (3, _), (4, _)]) (hb := []) (hb0 := [(2, _), (4, _)]) ⟨rfl, rfl, rfl, T0⟩ ⟨rfl, rfl, T0⟩ ?_ ?_
  · refine ex_if rfl (fun hc => ?_) (fun hc => ?_)
    · have hb : pNeg bs = true := hc
      have h0 : 0 < bs.length := by rw [pNeg] at hb; exact (of_decide_eq_true hb).1
      refine exr0 ?_
      refine sw (core_move (L _ rfl)) ⟨rfl, T0⟩ T0 ?_
      refine sw (slS_lo Tryd.underlying9 (l := 1) (by first | exact rfl | omega) (by rw [hsz]; omega) (L _ rfl)) ⟨rfl, rfl, T0⟩ T0 ?_
      refine sw (core_assign (L _ rfl)) ⟨rfl, T0⟩ T0 ?_
      refine sw (core_assign (L _ rfl)) ⟨rfl, T0⟩ T0 ?_
      refine seq_nil ?_
      exact ⟨⟨ov rfl (by rw [hsz, str_extract, hds, pDs, if_pos hb, List.take_of_length_le (show (bs.drop 1).length ≤ bs.length - 1 by simp)]), ob rfl (by rw [hneg]; exact hc.symm), (by first | exact rfl | exact oi (by omega) rfl), (by first | exact rfl | exact oi (by omega) rfl), (by first | exact rfl | exact oi (by omega) rfl), T0⟩, ⟨rfl, rfl, T0⟩⟩
    · have hb : ¬ pNeg bs = true := by rw [hc]; simp
      refine ex_skip ?_
      exact ⟨⟨ov rfl (by rw [hds, pDs, if_neg hb]), ob rfl (by rw [hneg]; exact hc.symm), (by first | exact rfl | exact oi (by omega) rfl), (by first | exact rfl | exact oi (by omega) rfl), (by first | exact rfl | exact oi (by omega) rfl), T0⟩, ⟨rfl, rfl, T0⟩⟩
  · have hsd := str_size ds
    refine ex_seq ?_
    refine exm (sl := [(43, vb (pBad ds neg))]) (sl0 := [(2, _), (3, _), (4, _), (5, _), (6, _)]) (hb := []) (hb0 := [(2, _), (4, _)]) ⟨rfl, rfl, rfl, rfl, rfl, T0⟩ ⟨rfl, rfl, T0⟩ ?_ ?_
    · rcases pcases ds with h1 | ⟨h1, h2⟩ | ⟨h2, h3⟩ | ⟨h1, h2, h3⟩
      · refine sw (core_move (L _ rfl)) ⟨rfl, T0⟩ T0 ?_
        refine sw (core_lenS Tryd.underlying9 (L _ rfl)) ⟨rfl, T0⟩ T0 ?_
        refine sw (core_eql (L _ rfl)) ⟨rfl, rfl, T0⟩ T0 ?_
        refine sw (core_move (L _ rfl)) ⟨rfl, T0⟩ T0 ?_
        refine swn (g := 31) rfl (by rw [hsd]; exact decide_eq_true (by omega)) (L _ rfl) rfl ?_
        refine swn (g := 31) rfl (by rw [hsd]; exact decide_eq_true (by omega)) (L _ rfl) rfl ?_
        refine swn (g := 31) rfl (by rw [hsd]; exact decide_eq_true (by omega)) (L _ rfl) rfl ?_
        refine swn (g := 31) rfl (by rw [hsd]; exact decide_eq_true (by omega)) (L _ rfl) rfl ?_
        refine swu (g := 35) rfl (L _ rfl) rfl ?_
        refine swu (g := 35) rfl (L _ rfl) rfl ?_
        refine swu (g := 35) rfl (L _ rfl) rfl ?_
        refine swu (g := 35) rfl (L _ rfl) rfl ?_
        refine swu (g := 39) rfl (L _ rfl) rfl ?_
        refine swu (g := 35) rfl (L _ rfl) rfl ?_
        refine swn (g := 31) rfl (by rw [hsd]; exact decide_eq_true (by omega)) (L _ rfl) rfl ?_
        refine sw (core_pick_t (by rw [hsd]; exact decide_eq_true (by omega)) (L _ rfl)) ⟨rfl, rfl, T0⟩ T0 ?_
        exact seq_nil ⟨⟨ob rfl (by rw [pBad]; exact (decide_eq_true (.inl h1)).symm), rfl, rfl, rfl, rfl, rfl, T0⟩, ⟨rfl, rfl, T0⟩⟩
      · refine sw (core_move (L _ rfl)) ⟨rfl, T0⟩ T0 ?_
        refine sw (core_lenS Tryd.underlying9 (L _ rfl)) ⟨rfl, T0⟩ T0 ?_
        refine sw (core_eql (L _ rfl)) ⟨rfl, rfl, T0⟩ T0 ?_
        refine sw (core_move (L _ rfl)) ⟨rfl, T0⟩ T0 ?_
        refine swg (g := 31) rfl (by rw [hsd]; exact decide_eq_false (by omega)) (core_move (L _ rfl)) rfl ⟨rfl, T0⟩ T0 ?_
        refine swg (g := 31) rfl (by rw [hsd]; exact decide_eq_false (by omega)) (core_indexS Tryd.underlying9 (by decide) (by exact str_get (i := 0) (by omega)) (L _ rfl)) rfl ⟨rfl, rfl, T0⟩ T0 ?_
        refine swg (g := 31) rfl (by rw [hsd]; exact decide_eq_false (by omega)) (core_eql (L _ rfl)) rfl ⟨rfl, rfl, T0⟩ T0 ?_
        refine swg (g := 31) rfl (by rw [hsd]; exact decide_eq_false (by omega)) (core_move (L _ rfl)) rfl ⟨rfl, T0⟩ T0 ?_
        refine swn (g := 35) rfl (decide_eq_false h2) (L _ rfl) rfl ?_
        refine swn (g := 35) rfl (decide_eq_false h2) (L _ rfl) rfl ?_
        refine swn (g := 35) rfl (decide_eq_false h2) (L _ rfl) rfl ?_
        refine swn (g := 35) rfl (decide_eq_false h2) (L _ rfl) rfl ?_
        refine swu (g := 39) rfl (L _ rfl) rfl ?_
        refine swn (g := 35) rfl (decide_eq_false h2) (L _ rfl) rfl ?_
        refine swg (g := 31) rfl (by rw [hsd]; exact decide_eq_false (by omega)) (core_pick_f (decide_eq_false h2) (L _ rfl)) rfl ⟨rfl, rfl, T0⟩ T0 ?_
        refine sw (core_pick_f (by rw [hsd]; exact decide_eq_false (by omega)) (L _ rfl)) ⟨rfl, rfl, T0⟩ T0 ?_
        exact seq_nil ⟨⟨ob rfl (by rw [pBad]; exact (decide_eq_false (fun c => c.elim h1 (fun c => h2 c.1))).symm), rfl, rfl, rfl, rfl, rfl, T0⟩, ⟨rfl, rfl, T0⟩⟩
      · refine sw (core_move (L _ rfl)) ⟨rfl, T0⟩ T0 ?_
        refine sw (core_lenS Tryd.underlying9 (L _ rfl)) ⟨rfl, T0⟩ T0 ?_
        refine sw (core_eql (L _ rfl)) ⟨rfl, rfl, T0⟩ T0 ?_
        refine sw (core_move (L _ rfl)) ⟨rfl, T0⟩ T0 ?_
        refine swg (g := 31) rfl (by rw [hsd]; exact decide_eq_false (by omega)) (core_move (L _ rfl)) rfl ⟨rfl, T0⟩ T0 ?_
        refine swg (g := 31) rfl (by rw [hsd]; exact decide_eq_false (by omega)) (core_indexS Tryd.underlying9 (by decide) (by exact str_get (i := 0) (by omega)) (L _ rfl)) rfl ⟨rfl, rfl, T0⟩ T0 ?_
        refine swg (g := 31) rfl (by rw [hsd]; exact decide_eq_false (by omega)) (core_eql (L _ rfl)) rfl ⟨rfl, rfl, T0⟩ T0 ?_
        refine swg (g := 31) rfl (by rw [hsd]; exact decide_eq_false (by omega)) (core_move (L _ rfl)) rfl ⟨rfl, T0⟩ T0 ?_
        refine swg (g := 35) rfl (decide_eq_true h2) (core_move (L _ rfl)) rfl ⟨rfl, T0⟩ T0 ?_
        refine swg (g := 35) rfl (decide_eq_true h2) (core_lenS Tryd.underlying9 (L _ rfl)) rfl ⟨rfl, T0⟩ T0 ?_
        refine swg (g := 35) rfl (decide_eq_true h2) (core_gtr (L _ rfl)) rfl ⟨rfl, rfl, T0⟩ T0 ?_
        refine swg (g := 35) rfl (decide_eq_true h2) (core_move (L _ rfl)) rfl ⟨rfl, T0⟩ T0 ?_
        refine swn (g := 39) rfl (by rw [hsd]; exact decide_eq_true (by omega)) (L _ rfl) rfl ?_
        refine swg (g := 35) rfl (decide_eq_true h2) (core_pick_t (by rw [hsd]; exact decide_eq_true (by omega)) (L _ rfl)) rfl ⟨rfl, rfl, T0⟩ T0 ?_
        refine swg (g := 31) rfl (by rw [hsd]; exact decide_eq_false (by omega)) (core_pick_t (decide_eq_true h2) (L _ rfl)) rfl ⟨rfl, rfl, T0⟩ T0 ?_
        refine sw (core_pick_f (by rw [hsd]; exact decide_eq_false (by omega)) (L _ rfl)) ⟨rfl, rfl, T0⟩ T0 ?_
        exact seq_nil ⟨⟨ob rfl (by rw [pBad]; exact (decide_eq_true (.inr ⟨h2, .inl h3⟩)).symm), rfl, rfl, rfl, rfl, rfl, T0⟩, ⟨rfl, rfl, T0⟩⟩
      · refine sw (core_move (L _ rfl)) ⟨rfl, T0⟩ T0 ?_
        refine sw (core_lenS Tryd.underlying9 (L _ rfl)) ⟨rfl, T0⟩ T0 ?_
        refine sw (core_eql (L _ rfl)) ⟨rfl, rfl, T0⟩ T0 ?_
        refine sw (core_move (L _ rfl)) ⟨rfl, T0⟩ T0 ?_
        refine swg (g := 31) rfl (by rw [hsd]; exact decide_eq_false (by omega)) (core_move (L _ rfl)) rfl ⟨rfl, T0⟩ T0 ?_
        refine swg (g := 31) rfl (by rw [hsd]; exact decide_eq_false (by omega)) (core_indexS Tryd.underlying9 (by decide) (by exact str_get (i := 0) (by omega)) (L _ rfl)) rfl ⟨rfl, rfl, T0⟩ T0 ?_
        refine swg (g := 31) rfl (by rw [hsd]; exact decide_eq_false (by omega)) (core_eql (L _ rfl)) rfl ⟨rfl, rfl, T0⟩ T0 ?_
        refine swg (g := 31) rfl (by rw [hsd]; exact decide_eq_false (by omega)) (core_move (L _ rfl)) rfl ⟨rfl, T0⟩ T0 ?_
        refine swg (g := 35) rfl (decide_eq_true h2) (core_move (L _ rfl)) rfl ⟨rfl, T0⟩ T0 ?_
        refine swg (g := 35) rfl (decide_eq_true h2) (core_lenS Tryd.underlying9 (L _ rfl)) rfl ⟨rfl, T0⟩ T0 ?_
        refine swg (g := 35) rfl (decide_eq_true h2) (core_gtr (L _ rfl)) rfl ⟨rfl, rfl, T0⟩ T0 ?_
        refine swg (g := 35) rfl (decide_eq_true h2) (core_move (L _ rfl)) rfl ⟨rfl, T0⟩ T0 ?_
        refine swg (g := 39) rfl (by rw [hsd]; exact decide_eq_false (by omega)) (core_move (L _ rfl)) rfl ⟨rfl, T0⟩ T0 ?_
        refine swg (g := 35) rfl (decide_eq_true h2) (core_pick_f (by rw [hsd]; exact decide_eq_false (by omega)) (L _ rfl)) rfl ⟨rfl, rfl, T0⟩ T0 ?_
        refine swg (g := 31) rfl (by rw [hsd]; exact decide_eq_false (by omega)) (core_pick_t (decide_eq_true h2) (L _ rfl)) rfl ⟨rfl, rfl, T0⟩ T0 ?_
        refine sw (core_pick_f (by rw [hsd]; exact decide_eq_false (by omega)) (L _ rfl)) ⟨rfl, rfl, T0⟩ T0 ?_
        exact seq_nil ⟨⟨ob rfl (by rw [pBad]; cases neg; exact (decide_eq_false (fun c => c.elim h1 (fun c => c.2.elim h3 (fun e => by cases e)))).symm; exact (decide_eq_true (.inr ⟨h2, .inr rfl⟩)).symm), rfl, rfl, rfl, rfl, rfl, T0⟩, ⟨rfl, rfl, T0⟩⟩
    refine ex_if rfl (fun hbad => ?_) (fun hbad => ?_)
    · refine exr ?_
      refine sw (core_pc (core_buildP (vs := []) Tryd.underlying24 Tryd.zeroValue24 (.cons rfl (.cons rfl .nil)) ((Places.cons Tryd.sizeOf4 (Places.cons Tryd.sizeOf22 Places.nil))).to rfl .nil (.cons (.cons .nil)) (L _ rfl)) (.agg (.cons .same (.cons .nil .nil)))) T0 T0 ?_
      refine sb (core_storeM Tryd.sizeOf24 (by rfl) (.pagg (.cons (.cons .nil))) rfl (.put (.put .here))) ⟨rfl, rfl, T0⟩ ⟨rfl, T0⟩ ?_
      refine sw (core_assign (L _ rfl)) ⟨rfl, T0⟩ T0 ?_
      refine seq_nil ⟨[(2, _), (3, _)], [(2, _)], ⟨rfl, rfl, T0⟩, ⟨rfl, T0⟩, ?_⟩
      refine ex_ret ?_
      refine ⟨.inr rfl, ResVs.cast (.cons (.agg rfl rfl rfl Tryd.isAgg24 Tryd.sizeOf24 (.cons (.cons .nil))) (.cons (.tmp rfl) .nil)) ?_⟩
      rw [(f3 (.inl hbad)).1, (f3 (.inl hbad)).2, pZ_zero]; rfl
    · refine ex_skip (show Exec _ _ _ _ _ from ?_)
      refine ex_seq ?_
      refine exr ?_
      refine sw (core_move (L _ rfl)) ⟨rfl, T0⟩ T0 ?_
      refine sw (core_s2b (n := ds.length) (xs := encB ds) Tryd.underlying9 Tryd.underlying50 Tryd.underlying5 hsd (by simp [str, encB]) (L _ rfl)) ⟨rfl, T0⟩ T0 ?_
      refine sw (core_len Tryd.underlying50 (L _ rfl)) ⟨rfl, T0⟩ T0 ?_
      refine sw (core_move (L _ rfl)) ⟨rfl, T0⟩ T0 ?_
      refine seq_nil ⟨[(2, _), (3, _), (4, _), (5, _), (6, _), (46, _), (47, _), (48, _)], [(2, _), (4, _)], ⟨rfl, rfl, rfl, rfl, rfl, rfl, rfl, rfl, T0⟩, ⟨rfl, rfl, T0⟩, ?_⟩
      refine ex_block ?_
      refine exl (α := Nat) (fun j => [(48, vi (j : Int))]) (fun j => []) (fun j => j ≤ ds.length ∧ Digits (ds.take j)) (fun j => ds.length - j) (0) (sl := [(2, _), (3, _), (4, _), (5, _), (6, _), (46, _), (47, _)]) (hb := [(2, _), (4, _)]) ?_ ⟨(by first | exact rfl | exact oi (by omega) rfl), rfl, rfl, rfl, rfl, rfl, rfl, rfl, T0⟩ ⟨rfl, rfl, T0⟩ ?_
      · exact ⟨Nat.zero_le _, by intro c hc; simp at hc⟩
      intro j hj
      obtain ⟨hjl, hjd⟩ := hj
      refine exr ?_
      refine sw (core_lss (L _ rfl)) ⟨rfl, rfl, T0⟩ T0 ?_
      refine seq_nil ⟨[(2, _), (3, _), (4, _), (5, _), (6, _), (46, _), (47, _), (48, _), (49, _)], [(2, _), (4, _)], ⟨rfl, rfl, rfl, rfl, rfl, rfl, rfl, rfl, rfl, T0⟩, ⟨rfl, rfl, T0⟩, ?_⟩
      refine ex_seq ?_
      refine ex_if rfl (fun he => ?_) (fun he => ?_)
      · have he := dt he
        refine ex_skip (show Exec _ _ _ _ _ from ?_)
        refine ex_seq ?_
        refine ex_block ?_
        refine exr ?_
        refine sw (ixJ Tryd.underlying50 Tryd.sizeOf5 (j := j) (by first | exact rfl | omega) (by omega) (by simp) (L _ rfl)) ⟨rfl, rfl, T0⟩ T0 ?_
        refine sw (core_loadI1 Tryd.isAgg5 (by first | exact getB (by omega) | rfl) (L _ rfl)) ⟨rfl, T0⟩ T0 ?_
        refine sw (core_assign (L _ rfl)) ⟨rfl, T0⟩ T0 ?_
        refine seq_nil ⟨[(2, _), (3, _), (4, _), (5, _), (6, _), (8, _), (46, _), (47, _), (48, _)], [(2, _), (4, _)], ⟨rfl, rfl, rfl, rfl, rfl, rfl, rfl, rfl, rfl, T0⟩, ⟨rfl, rfl, T0⟩, ?_⟩
        refine exm (sl := [(57, vb (decide (¬ (48 ≤ (ds.getD j 0).toNat ∧ (ds.getD j 0).toNat ≤ 57))))]) (sl0 := [(2, _), (3, _), (4, _), (5, _), (6, _), (46, _), (47, _), (48, _)]) (hb := []) (hb0 := [(2, _), (4, _)]) ⟨rfl, rfl, rfl, rfl, rfl, rfl, rfl, rfl, T0⟩ ⟨rfl, rfl, T0⟩ ?_ ?_
        · by_cases h8 : ((ds.getD j 0).toNat : Int) < 48
          · refine sw (core_move (L _ rfl)) ⟨rfl, T0⟩ T0 ?_
            refine sw (core_lss (L _ rfl)) ⟨rfl, rfl, T0⟩ T0 ?_
            refine sw (core_move (L _ rfl)) ⟨rfl, T0⟩ T0 ?_
            refine swn (g := 54) rfl (decide_eq_true h8) (L _ rfl) rfl ?_
            refine swn (g := 54) rfl (decide_eq_true h8) (L _ rfl) rfl ?_
            refine sw (core_pick_t (decide_eq_true h8) (L _ rfl)) ⟨rfl, rfl, T0⟩ T0 ?_
            exact seq_nil ⟨⟨ob rfl (decide_eq_true (by omega)).symm, rfl, rfl, rfl, rfl, rfl, rfl, rfl, rfl, T0⟩, ⟨rfl, rfl, T0⟩⟩
          · refine sw (core_move (L _ rfl)) ⟨rfl, T0⟩ T0 ?_
            refine sw (core_lss (L _ rfl)) ⟨rfl, rfl, T0⟩ T0 ?_
            refine sw (core_move (L _ rfl)) ⟨rfl, T0⟩ T0 ?_
            refine swg (g := 54) rfl (decide_eq_false h8) (core_move (L _ rfl)) rfl ⟨rfl, T0⟩ T0 ?_
            refine swg (g := 54) rfl (decide_eq_false h8) (core_gtr (L _ rfl)) rfl ⟨rfl, rfl, T0⟩ T0 ?_
            refine sw (core_pick_f (decide_eq_false h8) (L _ rfl)) ⟨rfl, rfl, T0⟩ T0 ?_
            exact seq_nil ⟨⟨ob rfl (dec_eq (by omega)), rfl, rfl, rfl, rfl, rfl, rfl, rfl, rfl, T0⟩, ⟨rfl, rfl, T0⟩⟩
        refine ex_if rfl (fun hq => ?_) (fun hq => ?_)
        · have hq := dt hq
          have hnd : ¬ Digits ds := fun hd => hq (hd.get (by omega))
          refine exr ?_
          refine sw (core_pc (core_buildP (vs := []) Tryd.underlying24 Tryd.zeroValue24 (.cons rfl (.cons rfl .nil)) ((Places.cons Tryd.sizeOf4 (Places.cons Tryd.sizeOf22 Places.nil))).to rfl .nil (.cons (.cons .nil)) (L _ rfl)) (.agg (.cons .same (.cons .nil .nil)))) T0 T0 ?_
          refine sb (core_storeM Tryd.sizeOf24 (by rfl) (.pagg (.cons (.cons .nil))) rfl (.put (.put .here))) ⟨rfl, rfl, T0⟩ ⟨rfl, T0⟩ ?_
          refine sw (core_assign (L _ rfl)) ⟨rfl, T0⟩ T0 ?_
          refine seq_nil ⟨[(2, _), (3, _)], [(2, _)], ⟨rfl, rfl, T0⟩, ⟨rfl, T0⟩, ?_⟩
          refine ex_ret ?_
          refine ⟨.inr rfl, ResVs.cast (.cons (.agg rfl rfl rfl Tryd.isAgg24 Tryd.sizeOf24 (.cons (.cons .nil))) (.cons (.tmp rfl) .nil)) ?_⟩
          rw [(f3 (.inr hnd)).1, (f3 (.inr hnd)).2, pZ_zero]; rfl
        · have hq := Decidable.not_not.1 (df hq)
          refine ex_skip (show Exec _ _ _ _ _ from ?_)
          refine exr0 ?_
          refine sw (core_add (L _ rfl) (w64 (by omega) (by omega))) ⟨rfl, rfl, T0⟩ T0 ?_
          refine sw (core_move (L _ rfl)) ⟨rfl, T0⟩ T0 ?_
          refine seq_nil ?_
          exact ⟨j + 1, ⟨by omega, Digits.snoc hjd (by omega) hq⟩, (by omega), le_of ⟨(by first | exact rfl | exact oi (by omega) rfl), rfl, rfl, rfl, rfl, rfl, rfl, rfl, T0⟩ ⟨rfl, rfl, T0⟩⟩
      · have he := df he
        have hje : j = ds.length := by omega
        subst hje
        have hdg : Digits ds := by rwa [List.take_length] at hjd
        have hnb : ¬ (pBad ds neg = true ∨ ¬ Digits ds) := by rintro (c | c); rw [hbad] at c; cases c; exact c hdg
        refine ex_exit (show Exec _ _ _ _ _ from ?_)
        refine ex_seq ?_
        refine exr ?_
        refine sw (core_move (L _ rfl)) ⟨rfl, T0⟩ T0 ?_
        refine sw (core_lenS Tryd.underlying9 (L _ rfl)) ⟨rfl, T0⟩ T0 ?_
        refine sw (core_gtr (L _ rfl)) ⟨rfl, rfl, T0⟩ T0 ?_
        refine seq_nil ⟨[(2, _), (3, _), (4, _), (5, _), (6, _), (62, _)], [(2, _), (4, _)], ⟨rfl, rfl, rfl, rfl, rfl, rfl, T0⟩, ⟨rfl, rfl, T0⟩, ?_⟩
        refine ex_if rfl (fun hlim => ?_) (fun hlim => ?_)
        · have hlim : 20000 < ds.length := by have := dt hlim; rw [hsd] at this; omega
          refine exr ?_
          refine sw (core_pc (core_buildP (vs := []) Tryd.underlying24 Tryd.zeroValue24 (.cons rfl (.cons rfl .nil)) ((Places.cons Tryd.sizeOf4 (Places.cons Tryd.sizeOf22 Places.nil))).to rfl .nil (.cons (.cons .nil)) (L _ rfl)) (.agg (.cons .same (.cons .nil .nil)))) T0 T0 ?_
          refine sb (core_storeM Tryd.sizeOf24 (by rfl) (.pagg (.cons (.cons .nil))) rfl (.put (.put .here))) ⟨rfl, rfl, T0⟩ ⟨rfl, T0⟩ ?_
          refine sw (core_assign (L _ rfl)) ⟨rfl, T0⟩ T0 ?_
          refine seq_nil ⟨[(2, _), (3, _)], [(2, _)], ⟨rfl, rfl, T0⟩, ⟨rfl, T0⟩, ?_⟩
          refine ex_ret ?_
          refine ⟨.inr rfl, ResVs.cast (.cons (.agg rfl rfl rfl Tryd.isAgg24 Tryd.sizeOf24 (.cons (.cons .nil))) (.cons (.tmp rfl) .nil)) ?_⟩
          rw [(f2 hnb hlim).1, (f2 hnb hlim).2, pZ_zero]; rfl
        · have hlim := df hlim
          rw [hsd] at hlim
          rw [(f0 hnb (by omega)).1, (f0 hnb (by omega)).2] at hesc ⊢
          refine ex_skip (show Exec _ _ _ _ _ from ?_)
          refine exr ?_
          refine sw (core_move (L _ rfl)) ⟨rfl, T0⟩ T0 ?_
          refine sw (core_lenS Tryd.underlying9 (L _ rfl)) ⟨rfl, T0⟩ T0 ?_
          refine sw (core_quo (L _ rfl) (by decide) (tdiv64 (show _ = ((ds.length / 9 : Nat) : Int) by rw [hsd]; omega))) ⟨rfl, rfl, T0⟩ T0 ?_
          refine sw (core_add (L _ rfl) (show _ = ((ds.length / 9 + 1 : Nat) : Int) by rw [w64 (by omega) (by omega)]; omega)) ⟨rfl, rfl, T0⟩ T0 ?_
          refine swb (core_make1 (k := 68) Tryd.underlying22 Tryd.typeInfo53 rfl rfl rfl rfl rfl (show _ = ((ds.length / 9 + 1 : Nat) : Int) from rfl) (Nat.zero_le _) (by simp [Tryd.t53]; omega) (by omega) (P0 _ rfl) (L _ rfl)) ⟨rfl, rfl, T0⟩ T0 ⟨rfl, rfl⟩ ?_
          refine swb (core_alloc (k := 9) (n := 1) Tryd.zeroValue22 (.cons rfl .nil) rfl (P0 _ rfl) (L _ rfl)) trivial trivial ⟨rfl, rfl⟩ ?_
          refine sb (core_storeM Tryd.sizeOf22 (by rfl) .ref rfl (.put .here)) ⟨rfl, rfl, T0⟩ ⟨rfl, T0⟩ ?_
          refine seq_nil ⟨[(2, _), (3, _), (4, _), (5, _), (6, _), (9, _)], [(2, _), (4, _), (9, _), (68, _)], ⟨rfl, rfl, rfl, rfl, rfl, rfl, T0⟩, ⟨rfl, rfl, rfl, rfl, T0⟩, ?_⟩
          refine ex_seq3 ?_
          refine exr0 ?_
          refine sw (core_move (L _ rfl)) ⟨rfl, T0⟩ T0 ?_
          refine swb (core_callC (E := E) (k := 70) hG hX Tryd.call75 rfl hN (blocks_says (str ds)) (P0 _ rfl) (L _ rfl)) ⟨rfl, T0⟩ T0 ⟨rfl, rfl⟩ ?_
          refine seq_nil ?_
          have hL9 := chunks_len ds
          refine ex_range (fn := Tryd.f47) (p1 := 71) (p2 := 72) (rs := [.cell 2 24, .tmp 3]) (res := [pZ (sg neg (numI ds)), vZ 0]) (kb := 70) (v0 := .string (str ds)) (Tb := 9) (sl := [(2, .at_ 2 0 2), (3, vi 0), (4, .at_ 4 0 10), (6, vb neg), (9, .at_ 9 0 1)]) (fun k => [(2, ⟨24, 2, .mix [.p (.a (.bool false)), .p (.a (.slice none 0 0))]⟩), (4, ⟨71, 10, .mix [vu 1, vu 10, vu 100, vu 1000, vu 10000, vu 100000, vu 1000000, vu 10000000, vu 100000000, vu 1000000000]⟩), (9, ⟨22, 1, .mix [.ref 68 0 (wsK (chunks ds) k).length (wsK (chunks ds) k).length]⟩), (68, ⟨53, 1, .pure (encW (wsK (chunks ds) k))⟩)]) encC (chunks ds) (fun k => k == 2 || k == 4 || k == 9 || k == 70) hro ?_ ?_ ?_ rfl ?_ Tryd.call89 ⟨L _ rfl, L _ rfl⟩ (fun l bx N c0 J W h1 h2 h3 h4 h5 h6 h7 => blocks_iter ds (by omega) hdg l bx N c0 J W h1 h2 h3 h4 h5 h6 h7) ?_ hX0 ?_ rfl ?_ hesc hdf
          · rfl
          · rfl
          · exact le_of ⟨rfl, rfl, rfl, rfl, rfl, T0⟩ ⟨rfl, rfl, rfl, obl rfl (by simp [wsK]), obl rfl (by simp [wsK, encW]), T0⟩
          · intro k v p hp
            simp only [List.mem_cons, List.not_mem_nil, or_false] at hp
            rcases hp with rfl | rfl | rfl | rfl | rfl
            · exact ⟨rfl, _, rfl, rfl⟩
            · trivial
            · exact ⟨rfl, _, rfl, rfl⟩
            · trivial
            · exact ⟨rfl, _, rfl, rfl⟩
          · intro F1 k b v hb hlk hdf1
            have L := ltn (hlk.nt.trans hnt)
            have hck := chunks_get hdg b (List.mem_of_getElem? hb)
            refine Exists.intro (⟨[(11, vi b.2), (10, vu b.1), (2, .at_ 2 0 2), (3, vi 0), (4, .at_ 4 0 10), (6, vb neg), (9, .at_ 9 0 1)], [(70, ⟨9, 1, .mix [.p (.a v)]⟩), (2, ⟨24, 2, .mix [.p (.a (.bool false)), .p (.a (.slice none 0 0))]⟩), (4, ⟨71, 10, .mix [vu 1, vu 10, vu 100, vu 1000, vu 10000, vu 100000, vu 1000000, vu 10000000, vu 100000000, vu 1000000000]⟩), (9, ⟨22, 1, .mix [.ref 68 0 (wsK (chunks ds) k).length (wsK (chunks ds) k).length]⟩), (68, ⟨53, 1, .pure (encW (wsK (chunks ds) k))⟩)]⟩ : St) (And.intro ?_ (fun F2 hlk2 hdf2 => ?_))
            · skip
              refine exr ?_
              refine sw (core_assign (L _ rfl)) ⟨rfl, T0⟩ T0 ?_
              refine seq_nil ⟨[(2, _), (3, _), (4, _), (6, _), (9, _), (10, _), (71, _), (72, _)], [(2, _), (4, _), (9, _), (68, _), (70, _)], ⟨rfl, rfl, rfl, rfl, rfl, rfl, rfl, rfl, T0⟩, ⟨rfl, rfl, rfl, rfl, rfl, T0⟩, ?_⟩
              refine exr0 ?_
              refine sw (core_assign (L _ rfl)) ⟨rfl, T0⟩ T0 ?_
              refine seq_nil ?_
              exact ⟨rfl, le_of ⟨rfl, rfl, rfl, rfl, rfl, rfl, rfl, T0⟩ ⟨rfl, rfl, rfl, rfl, rfl, T0⟩⟩
            · have L := ltn (hlk2.nt.trans hnt)
              have P0 : ∀ k, (!(k == 2 || k == 4 || k == 9 || k == 70)) = true → F2.pin k = none := fun k hk => hlk2.pin k (by simpa using hk)
              have hG := hlk2.g hG hN hX0
              have hX := hlk2.le (E := E) hN hX0
              have hN := ng_le hG
              have hW := wsK_wd (chunks ds) k
              have hWl := wsK_len (chunks ds) k
              have hkl := (List.getElem?_eq_some_iff.1 hb).1
              have hstep := wsK_succ hb
              obtain ⟨n, hn⟩ : ∃ n : Nat, b.2 = (n : Int) := ⟨b.2.toNat, by omega⟩
              rw [hn]
              have hp10 : (10 : Int) ^ n ≤ 1000000000 ∧ 0 < (10 : Int) ^ n := by
                have h2 : ((10 ^ n : Nat) : Int) ≤ ((10 ^ 9 : Nat) : Int) := Int.ofNat_le.2 (Nat.pow_le_pow_right (by decide) (by omega))
                rw [Int.natCast_pow] at h2
                exact ⟨h2, Int.pow_pos (by decide)⟩
              have ebn : (b.1, (n : Int)) = b := by rw [← hn]
              have hend : ∀ {ys c}, TenAt (wsK (chunks ds) k) (10 ^ n) b.1 ((wsK (chunks ds) k).length, ys, c) → (c = 0 → ys = wsK (chunks ds) (k + 1)) ∧ (0 < c → ys ++ [c] = wsK (chunks ds) (k + 1)) := fun {ys c} h => by
                have := TenAt.end_ (n := (n : Int)) h
                rwa [ebn, ← hstep] at this
              obtain ⟨ws, hws⟩ : ∃ ws, ws = wsK (chunks ds) k := ⟨_, rfl⟩
              rw [← hws] at hW hWl hend ⊢
              skip
              refine ex_block ?_
              refine exr ?_
              refine sw (core_move (L _ rfl)) ⟨rfl, T0⟩ T0 ?_
              refine sw (core_conv Tryd.underlying53 Tryd.underlying52 (L _ rfl) (fu64 (by omega) (by omega))) ⟨rfl, T0⟩ T0 ?_
              refine sw (core_assign (L _ rfl)) ⟨rfl, T0⟩ T0 ?_
              refine seq_nil ⟨[(2, _), (3, _), (4, _), (6, _), (9, _), (10, _), (11, _), (12, _)], [(2, _), (4, _), (9, _), (68, _), (70, _)], ⟨rfl, rfl, rfl, rfl, rfl, rfl, rfl, rfl, T0⟩, ⟨rfl, rfl, rfl, rfl, rfl, T0⟩, ?_⟩
              refine ex_seq ?_
              refine exr ?_
              refine sw (core_load1 Tryd.isAgg22 (by rfl) (by rfl) (L _ rfl)) ⟨rfl, T0⟩ ⟨rfl, T0⟩ ?_
              refine sw (core_lenR Tryd.underlying22 (by exact (by simp)) (L _ rfl)) ⟨rfl, T0⟩ ⟨rfl, T0⟩ ?_
              refine sw (core_move (L _ rfl)) ⟨rfl, T0⟩ T0 ?_
              refine seq_nil ⟨[(2, _), (3, _), (4, _), (6, _), (9, _), (10, _), (11, _), (12, _), (75, _), (76, _), (77, _)], [(2, _), (4, _), (9, _), (68, _), (70, _)], ⟨rfl, rfl, rfl, rfl, rfl, rfl, rfl, rfl, rfl, rfl, rfl, T0⟩, ⟨rfl, rfl, rfl, rfl, rfl, T0⟩, ?_⟩
              refine ex_block ?_
              refine exl (α := (Nat × List Int × Int)) (fun x => [(77, vi (x.1 : Int)), (12, vw x.2.2)]) (fun x => [(68, ⟨53, 1, .pure (encW (x.2.1 ++ ws.drop x.1))⟩)]) (fun x => TenAt ws (10 ^ n) b.1 x) (fun x => ws.length - x.1) (((0 : Nat), ([] : List Int), b.1)) (sl := [(2, _), (3, _), (4, _), (6, _), (9, _), (10, _), (11, _), (75, _), (76, _)]) (hb := [(2, _), (4, _), (9, _), (70, _)]) ?_ ⟨(by first | exact rfl | exact oi (by omega) rfl), (by first | exact rfl | exact oi (by omega) rfl), rfl, rfl, rfl, rfl, rfl, rfl, rfl, rfl, rfl, T0⟩ ⟨obl rfl (by simp), rfl, rfl, rfl, rfl, T0⟩ ?_
              · exact TenAt.zero ws hck.1 (by omega)
              intro x hx
              obtain ⟨i, ys, c⟩ := x
              have hle := hx.le
              have hyl := hx.len
              have c0 := hx.c0
              have c1 := hx.c1
              simp only at hle hyl c0 c1
              dsimp only
              refine exr ?_
              refine sw (core_lss (L _ rfl)) ⟨rfl, rfl, T0⟩ T0 ?_
              refine seq_nil ⟨[(2, _), (3, _), (4, _), (6, _), (9, _), (10, _), (11, _), (12, _), (75, _), (76, _), (77, _), (78, _)], [(2, _), (4, _), (9, _), (68, _), (70, _)], ⟨rfl, rfl, rfl, rfl, rfl, rfl, rfl, rfl, rfl, rfl, rfl, rfl, T0⟩, ⟨rfl, rfl, rfl, rfl, rfl, T0⟩, ?_⟩
              refine ex_seq ?_
              refine ex_if rfl (fun hf => ?_) (fun hf => ?_)
              · have hf := dt hf
                have hw := hW.getD i
                have tb := take_bd hw (show 0 ≤ (10 : Int) ^ n ∧ (10 : Int) ^ n < 4294967296 by omega) ⟨c0, c1⟩
                have mb := mul_bd hw (show 0 ≤ (10 : Int) ^ n ∧ (10 : Int) ^ n < 4294967296 by omega)
                refine ex_skip (show Exec _ _ _ _ _ from ?_)
                refine ex_seq ?_
                refine ex_block ?_
                refine exr ?_
                refine sw (core_move (L _ rfl)) ⟨rfl, T0⟩ T0 ?_
                refine sw (ixR0 Tryd.underlying22 Tryd.sizeOf53 (by exact (by simp; omega)) (j := i) (by first | exact rfl | omega) (by omega) (L _ rfl)) ⟨rfl, rfl, T0⟩ ⟨rfl, T0⟩ ?_
                refine sw (core_load1 Tryd.isAgg53 (by exact (by simp; omega)) (getC (getU (L := ws) (p := i) (q := i) (i := 0) hyl rfl rfl (by omega))) (L _ rfl)) ⟨rfl, T0⟩ ⟨rfl, T0⟩ ?_
                refine sw (core_assign (L _ rfl)) ⟨rfl, T0⟩ T0 ?_
                refine sw (core_assign (L _ rfl)) ⟨rfl, T0⟩ T0 ?_
                refine seq_nil ⟨[(2, _), (3, _), (4, _), (6, _), (9, _), (10, _), (11, _), (12, _), (13, _), (14, _), (75, _), (76, _), (77, _)], [(2, _), (4, _), (9, _), (68, _), (70, _)], ⟨rfl, rfl, rfl, rfl, rfl, rfl, rfl, rfl, rfl, rfl, rfl, rfl, rfl, T0⟩, ⟨rfl, rfl, rfl, rfl, rfl, T0⟩, ?_⟩
                refine exr ?_
                refine sw (core_move (L _ rfl)) ⟨rfl, T0⟩ T0 ?_
                refine sw (core_conv Tryd.underlying53 Tryd.underlying52 (L _ rfl) (fu64 (by omega) (by omega))) ⟨rfl, T0⟩ T0 ?_
                refine sw (core_move (L _ rfl)) ⟨rfl, T0⟩ T0 ?_
                refine sw (core_indexAddrA Tryd.underlying71 Tryd.sizeOf53 (by rfl) (by omega) (by omega) (L _ rfl)) ⟨rfl, rfl, T0⟩ ⟨rfl, T0⟩ ?_
                refine sw (core_load1 Tryd.isAgg53 (by rfl) (by rw [Int.toNat_natCast, Nat.mul_one, Nat.zero_add]; exact pow_get (by omega)) (L _ rfl)) ⟨rfl, T0⟩ ⟨rfl, T0⟩ ?_
                refine sw (core_conv Tryd.underlying53 Tryd.underlying52 (L _ rfl) (fu64 (by omega) (by omega))) ⟨rfl, T0⟩ T0 ?_
                refine sw (core_mul (L _ rfl) (fu64 (by omega) (by omega))) ⟨rfl, rfl, T0⟩ T0 ?_
                refine sw (core_move (L _ rfl)) ⟨rfl, T0⟩ T0 ?_
                refine sw (core_add (L _ rfl) (fu64 (by omega) (by omega))) ⟨rfl, rfl, T0⟩ T0 ?_
                refine sw (core_assign (L _ rfl)) ⟨rfl, T0⟩ T0 ?_
                refine seq_nil ⟨[(2, _), (3, _), (4, _), (6, _), (9, _), (10, _), (11, _), (13, _), (15, _), (75, _), (76, _), (77, _)], [(2, _), (4, _), (9, _), (68, _), (70, _)], ⟨rfl, rfl, rfl, rfl, rfl, rfl, rfl, rfl, rfl, rfl, rfl, rfl, T0⟩, ⟨rfl, rfl, rfl, rfl, rfl, T0⟩, ?_⟩
                refine exr ?_
                refine sw (core_load1 Tryd.isAgg22 (by rfl) (by rfl) (L _ rfl)) ⟨rfl, T0⟩ ⟨rfl, T0⟩ ?_
                refine sw (core_move (L _ rfl)) ⟨rfl, T0⟩ T0 ?_
                refine sw (core_move (L _ rfl)) ⟨rfl, T0⟩ T0 ?_
                refine sw (core_conv Tryd.underlying52 Tryd.underlying53 (L _ rfl) wu32) ⟨rfl, T0⟩ T0 ?_
                refine sw (ixR0 Tryd.underlying22 Tryd.sizeOf53 (by exact (by simp; omega)) (j := i) (by first | exact rfl | omega) (by omega) (L _ rfl)) ⟨rfl, rfl, T0⟩ ⟨rfl, T0⟩ ?_
                refine sb (core_store1 Tryd.sizeOf53 (by exact (by simp; omega)) (.atom rfl) (by omega)) ⟨rfl, rfl, T0⟩ ⟨rfl, T0⟩ ?_
                refine seq_nil ⟨[(2, _), (3, _), (4, _), (6, _), (9, _), (10, _), (11, _), (15, _), (75, _), (76, _), (77, _)], [(2, _), (4, _), (9, _), (68, _), (70, _)], ⟨rfl, rfl, rfl, rfl, rfl, rfl, rfl, rfl, rfl, rfl, rfl, T0⟩, ⟨rfl, rfl, rfl, rfl, rfl, T0⟩, ?_⟩
                refine exr0 ?_
                refine sw (core_move (L _ rfl)) ⟨rfl, T0⟩ T0 ?_
                refine sw (core_shr (L _ rfl) (by decide) (shrE (c := 4294967296) (by rfl) (by decide))) ⟨rfl, rfl, T0⟩ T0 ?_
                refine sw (core_assign (L _ rfl)) ⟨rfl, T0⟩ T0 ?_
                refine seq_nil ?_
                refine exr0 ?_
                refine sw (core_add (L _ rfl) (w64 (by omega) (by omega))) ⟨rfl, rfl, T0⟩ T0 ?_
                refine sw (core_move (L _ rfl)) ⟨rfl, T0⟩ T0 ?_
                refine seq_nil ?_
                exact ⟨(i + 1, ys ++ [(ws.getD i 0 * 10 ^ n + c) % 4294967296], (ws.getD i 0 * 10 ^ n + c) / 4294967296), hx.next hW (by omega) (by omega), (by simp only; omega), le_of ⟨(by first | exact rfl | exact oi (by omega) rfl), (by first | exact rfl | exact oi (by omega) rfl), rfl, rfl, rfl, rfl, rfl, rfl, rfl, rfl, rfl, T0⟩ ⟨obl rfl (by rw [encW_set, tail_set hyl (by omega)]), rfl, rfl, rfl, rfl, T0⟩⟩
              · have hf := df hf
                have hi : i = ws.length := by omega
                subst hi
                obtain ⟨h1, h2⟩ := hend hx
                refine ex_exit (show Exec _ _ _ _ _ from ?_)
                refine exr ?_
                refine sw (core_move (L _ rfl)) ⟨rfl, T0⟩ T0 ?_
                refine sw (core_gtr (L _ rfl)) ⟨rfl, rfl, T0⟩ T0 ?_
                refine seq_nil ⟨[(2, _), (3, _), (4, _), (6, _), (9, _), (10, _), (11, _), (12, _), (100, _)], [(2, _), (4, _), (9, _), (68, _), (70, _)], ⟨rfl, rfl, rfl, rfl, rfl, rfl, rfl, rfl, rfl, T0⟩, ⟨rfl, rfl, rfl, rfl, rfl, T0⟩, ?_⟩
                refine ex_if rfl (fun hz => ?_) (fun hz => ?_)
                · have hz := dt hz
                  refine exr0 ?_
                  refine sw (core_load1 Tryd.isAgg22 (by rfl) (by rfl) (L _ rfl)) ⟨rfl, T0⟩ ⟨rfl, T0⟩ ?_
                  refine sw (core_move (L _ rfl)) ⟨rfl, T0⟩ T0 ?_
                  refine sw (core_conv Tryd.underlying52 Tryd.underlying53 (L _ rfl) (fu32 (by omega) (by omega))) ⟨rfl, T0⟩ T0 ?_
                  refine sw (core_bsI (vs := [_]) Tryd.underlying22 Tryd.typeInfo53 rfl rfl (by decide) (by decide) rfl (zs_made (.cons rfl .nil) rfl) rfl (.cons rfl (.atom rfl) rfl (.put .here) .nil) (.cons .nil) (L _ rfl)) ⟨rfl, T0⟩ T0 ?_
                  refine swb (apP (sz := 1) Tryd.underlying22 Tryd.underlying22 Tryd.typeInfo53 rfl rfl rfl (by decide) (by exact (by simp; omega)) (by omega) (by simp) rfl rfl rfl (by first | (simp [Tryd.t53]; done) | (simp [Tryd.t53]; omega)) (by omega) (P0 _ rfl) (L _ rfl)) ⟨rfl, rfl, T0⟩ ⟨rfl, T0⟩ T0 ?_
                  refine sb (core_storeM Tryd.sizeOf22 (by rfl) .ref rfl (.put .here)) ⟨rfl, rfl, T0⟩ ⟨rfl, T0⟩ ?_
                  refine seq_nil ?_
                  exact ⟨rfl, le_of ⟨rfl, rfl, rfl, rfl, rfl, T0⟩ ⟨rfl, rfl, rfl, obl rfl (by rw [← h2 hz]; simp [hyl]), obl rfl (by rw [← h2 hz]; simp [encW]), T0⟩⟩
                · have hz := df hz
                  have h1 := h1 (by omega)
                  refine ex_skip ?_
                  exact ⟨rfl, le_of ⟨rfl, rfl, rfl, rfl, rfl, T0⟩ ⟨rfl, rfl, rfl, obl rfl (by rw [← h1]; simp [hyl]), obl rfl (by rw [← h1]; simp), T0⟩⟩
          · intro F1 hro1 hlk hXk hpk1
            have L := ltn (hlk.nt.trans hnt)
            have P0 : ∀ k, Nat.blt k 1000 = true → F1.pin k = none := fun k _ => hpk1 k
            have hG := hlk.g hG hN hX0
            have hX := hlk.le (E := E) hN hX0
            have hN := ng_le hG
            have hWl := wsK_len (chunks ds) (chunks ds).length
            have md := made_says neg (wsK (chunks ds) (chunks ds).length) (by omega) (wsK_wd _ _)
            rw [wsK_end hdg] at md
            skip
            refine ex_cv [68] (sl := [(2, _), (6, _), (9, _)]) (hb := [(2, _), (9, _)]) (own_okA hXk) ⟨⟨_, rfl, .same⟩, ⟨_, rfl, .same⟩, ⟨_, rfl, .same⟩, T0⟩ ⟨⟨rfl, _, rfl, .same⟩, ⟨rfl, _, rfl, (.mix (.cons (.ref rfl rfl (by exact (by simp)) (by first | rfl | omega)) .nil))⟩, T0⟩ ?_
            refine exr ?_
            refine sw (core_move (L _ rfl)) ⟨rfl, T0⟩ T0 ?_
            refine sw (core_load1 Tryd.isAgg22 (by rfl) (by rfl) (L _ rfl)) ⟨rfl, T0⟩ ⟨rfl, T0⟩ ?_
            refine sw (core_call (E := E) hG hX Tryd.call62 rfl hN md (L _ rfl)) ⟨rfl, rfl, T0⟩ T0 ?_
            refine sb (core_storeM Tryd.sizeOf24 (by rfl) (.pagg (.cons (.cons .nil))) rfl (.put (.put .here))) ⟨rfl, rfl, T0⟩ ⟨rfl, T0⟩ ?_
            refine sw (core_assign (L _ rfl)) ⟨rfl, T0⟩ T0 ?_
            refine seq_nil ⟨[(2, _), (3, _)], [(2, _)], ⟨rfl, rfl, T0⟩, ⟨rfl, T0⟩, ?_⟩
            refine ex_ret ?_
            refine ⟨rfl, ResVs.cast (.cons (.agg rfl rfl rfl Tryd.isAgg24 Tryd.sizeOf24 (.cons (.cons .nil))) (.cons (.tmp rfl) .nil)) ?_⟩
            rfl
          · intro k i hk h
            simp only [Bool.or_eq_true, beq_iff_eq] at hk
            rcases hk with ((rfl | rfl) | rfl) | rfl
            · simp
            · simp
            · simp
            · exact absurd rfl h

end Go.Proofs.YtebkelnibecmjaaDoor.N
namespace Go.Proofs.YtebkelnibecmjaaDoor.N
open Go Go.Proofs.YtebkelnibecmjaaDoor.SH Go.Proofs.YtebkelnibecmjaaDoor.NumA
theorem itoa_says (n : Nat) (h : n < 4294967296) : Says E 78 [vZ n] (pS (Lib.decDigits n)) := by
  intro ok w vals hG hrel
  obtain ⟨v, r, rfl, hv, hr⟩ := hrel
  simp only [RelL] at hr
  subst hr
  simp only [Rel] at hv
  subst hv
  refine (itoa_calls n (by omega) (by omega) w hG).mono ?_
  rintro e w' ⟨rfl, k, os, rfl⟩
  refine ⟨_, rfl, ?_, rfl, rfl, rfl, by simp [Sort.grow, World.drewN], fun j hj => ?_⟩
  · rw [Lib.itoa_nonneg]; simp [Rel, str]
  · simp only [Sort.grow, World.drewN, Array.getElem?_append]
    rw [if_pos hj]
theorem getW0 {ws : List Int} {i j : Nat} (e : j = i) (h : i < ws.length) : (encW ws)[j]? = some (.a (.int .u32 (ws.getD i 0))) := by subst e; exact getW h
set_option maxRecDepth 100000 in
set_option maxHeartbeats 4000000 in
theorem short2_says (ws zs : List Int) (d : Int) (hl : ws.length < 1000000000) (h : Wd ws) (hd : 0 < d ∧ d < 4294967296) (tot : Nat) (htot : ws.length + zs.length = tot) : SaysX E 77 [.ref 1000 0 ws.length tot, .p (oZ d)] [(1000, ⟨53, 1, .pure (encW (ws ++ zs))⟩)] [(1000, ⟨53, 1, .pure (encW (digN ws.length (val ws / d) ++ zs))⟩)] (oZ (val ws % d)) := by
  refine saysX_of (xs := [oZ (val ws % d)]) Tryd.func77 rfl Tryd.ntmps77 Tryd.results77 (by simp) rfl (sub_of rfl) fun F hG hX hnt hdf P0 hXp => ?_
  have L := ltn hnt
  have hN := ng_le hG
  refine exr ?_
  refine sw (core_assign (L _ rfl)) ⟨rfl, T0⟩ T0 ?_
  refine seq_nil ⟨[(0, _), (1, _)], [(1000, _)], ⟨rfl, rfl, T0⟩, ⟨rfl, T0⟩, ?_⟩
  refine exr ?_
  refine sw (core_assign (L _ rfl)) ⟨rfl, T0⟩ T0 ?_
  refine seq_nil ⟨[(0, _), (1, _), (5, _)], [(1000, _)], ⟨rfl, rfl, rfl, T0⟩, ⟨rfl, T0⟩, ?_⟩
  refine ex_seq ?_
  refine exr ?_
  refine sw (core_move (L _ rfl)) ⟨rfl, T0⟩ T0 ?_
  refine sw (core_lenR Tryd.underlying22 (by exact (by simp; omega)) (L _ rfl)) ⟨rfl, T0⟩ ⟨rfl, T0⟩ ?_
  refine sw (core_sub (L _ rfl) (w64 (by omega) (by omega))) ⟨rfl, rfl, T0⟩ T0 ?_
  refine sw (core_assign (L _ rfl)) ⟨rfl, T0⟩ T0 ?_
  refine seq_nil ⟨[(0, _), (1, _), (5, _), (6, _)], [(1000, _)], ⟨rfl, rfl, rfl, rfl, T0⟩, ⟨rfl, T0⟩, ?_⟩
  refine ex_block ?_
  refine exl (α := (Nat × List Int × Int)) (fun x => [(6, vi ((x.1:Int) - 1)), (5, vw x.2.2)]) (fun x => [(1000, ⟨53, 1, .pure (encW ((ws.take x.1 ++ x.2.1) ++ zs))⟩)]) (fun x => ShortAt ws d x) (fun x => x.1) ((ws.length, ([] : List Int), (0 : Int))) (sl := [(0, _), (1, _)]) (hb := []) ?_ ⟨(by first | exact rfl | exact oi (by omega) rfl), (by first | exact rfl | exact oi (by omega) rfl), rfl, rfl, T0⟩ ⟨obl rfl (by simp), T0⟩ ?_
  · exact ShortAt.start ws d
  intro x hx
  obtain ⟨n, qs, r⟩ := x
  have hle := hx.le
  have hq : qs.length = ws.length - n := by have := hx.q; simp only at this; rw [this, digN_length]
  have hr : 0 ≤ r ∧ r < d := by have := hx.r; simp only at this; rw [this]; exact ⟨Int.emod_nonneg _ (by omega), Int.emod_lt_of_pos _ hd.1⟩
  simp only at hle
  dsimp only
  refine ex_seq ?_
  refine exr ?_
  refine sw (core_move (L _ rfl)) ⟨rfl, T0⟩ T0 ?_
  refine sw (core_geq (L _ rfl)) ⟨rfl, rfl, T0⟩ T0 ?_
  refine seq_nil ⟨[(0, _), (1, _), (5, _), (6, _), (11, _)], [(1000, _)], ⟨rfl, rfl, rfl, rfl, rfl, T0⟩, ⟨rfl, T0⟩, ?_⟩
  refine ex_if rfl (fun he => ?_) (fun he => ?_)
  · have he := dt he
    obtain ⟨key, k1, k2⟩ := hx.next h hd.1 (by omega)
    have hw := h.getD (n - 1)
    have hg : ((ws.take n ++ qs) ++ zs).getD (n - 1) 0 = ws.getD (n - 1) 0 := by rw [List.append_assoc]; exact getD_head (by omega) (by omega)
    refine ex_skip (show Exec _ _ _ _ _ from ?_)
    refine ex_seq ?_
    refine ex_block ?_
    refine exr ?_
    refine sw (core_move (L _ rfl)) ⟨rfl, T0⟩ T0 ?_
    refine sw (core_shl (L _ rfl) (by decide) (shlE (c := 4294967296) (by rfl) (fu64 (by omega) (by omega)))) ⟨rfl, rfl, T0⟩ T0 ?_
    refine sw (core_move (L _ rfl)) ⟨rfl, T0⟩ T0 ?_
    refine sw (core_move (L _ rfl)) ⟨rfl, T0⟩ T0 ?_
    refine sw (ixR Tryd.underlying22 Tryd.sizeOf53 (by exact (by simp; omega)) (j := n - 1) (by first | exact rfl | omega) (by omega) (L _ rfl)) ⟨rfl, rfl, T0⟩ ⟨rfl, T0⟩ ?_
    refine sw (core_load1 Tryd.isAgg53 (by exact (by simp; omega)) (getC (getW0 (ws := (ws.take n ++ qs) ++ zs) (i := n - 1) (by omega) (by simp; omega))) (L _ rfl)) ⟨rfl, T0⟩ ⟨rfl, T0⟩ ?_
    refine sw (core_conv Tryd.underlying53 Tryd.underlying52 (L _ rfl) (show _ = ws.getD (n - 1) 0 by rw [hg]; exact w64u (by omega) (by omega))) ⟨rfl, T0⟩ T0 ?_
    refine sw (core_or (L _ rfl) (or64' (b := r) 32 rfl hw.1 hw.2 hr.1 (by decide) (by omega) (by omega))) ⟨rfl, rfl, T0⟩ T0 ?_
    refine sw (core_assign (L _ rfl)) ⟨rfl, T0⟩ T0 ?_
    refine seq_nil ⟨[(0, _), (1, _), (5, vw (r * 4294967296 + ws.getD (n - 1) 0)), (6, _)], [(1000, _)], ⟨rfl, rfl, oi (by omega) rfl, rfl, T0⟩, ⟨rfl, T0⟩, ?_⟩
    refine exr ?_
    refine sw (core_move (L _ rfl)) ⟨rfl, T0⟩ T0 ?_
    refine sw (core_move (L _ rfl)) ⟨rfl, T0⟩ T0 ?_
    refine sw (core_move (L _ rfl)) ⟨rfl, T0⟩ T0 ?_
    refine sw (core_move (L _ rfl)) ⟨rfl, T0⟩ T0 ?_
    refine sw (core_conv Tryd.underlying53 Tryd.underlying52 (L _ rfl) (fu64 (by omega) (by omega))) ⟨rfl, T0⟩ T0 ?_
    refine sw (core_quo (L _ rfl) (by omega) (tdivE (by omega) (by omega))) ⟨rfl, rfl, T0⟩ T0 ?_
    refine sw (core_conv Tryd.underlying52 Tryd.underlying53 (L _ rfl) (fu32 (by omega) (by omega))) ⟨rfl, T0⟩ T0 ?_
    refine sw (ixR Tryd.underlying22 Tryd.sizeOf53 (by exact (by simp; omega)) (j := n - 1) (by first | exact rfl | omega) (by omega) (L _ rfl)) ⟨rfl, rfl, T0⟩ ⟨rfl, T0⟩ ?_
    refine sb (core_store1 Tryd.sizeOf53 (by exact (by simp; omega)) (.atom rfl) (by omega)) ⟨rfl, rfl, T0⟩ ⟨rfl, T0⟩ ?_
    refine seq_nil ⟨[(0, _), (1, _), (5, _), (6, _)], [(1000, _)], ⟨rfl, rfl, rfl, rfl, T0⟩, ⟨rfl, T0⟩, ?_⟩
    refine exr0 ?_
    refine sw (core_move (L _ rfl)) ⟨rfl, T0⟩ T0 ?_
    refine sw (core_move (L _ rfl)) ⟨rfl, T0⟩ T0 ?_
    refine sw (core_conv Tryd.underlying53 Tryd.underlying52 (L _ rfl) (fu64 (by omega) (by omega))) ⟨rfl, T0⟩ T0 ?_
    refine sw (core_rem (L _ rfl) (by omega) (tmodE (by omega) (by omega))) ⟨rfl, rfl, T0⟩ T0 ?_
    refine sw (core_assign (L _ rfl)) ⟨rfl, T0⟩ T0 ?_
    refine seq_nil ?_
    refine exr0 ?_
    refine sw (core_move (L _ rfl)) ⟨rfl, T0⟩ T0 ?_
    refine sw (core_sub (L _ rfl) (w64 (by omega) (by omega))) ⟨rfl, rfl, T0⟩ T0 ?_
    refine sw (core_assign (L _ rfl)) ⟨rfl, T0⟩ T0 ?_
    refine seq_nil ?_
    exact ⟨(n - 1, (r * 4294967296 + ws.getD (n - 1) 0) / d :: qs, (r * 4294967296 + ws.getD (n - 1) 0) % d), key, (by simp only; omega), le_of ⟨(by first | exact rfl | exact oi (by omega) rfl), (by first | exact rfl | exact oi (by omega) rfl), rfl, rfl, T0⟩ ⟨obl rfl (by rw [Nat.zero_add, encW_set, List.append_assoc, set_last (by simp; omega), List.take_take, Nat.min_eq_left (by omega)]; simp), T0⟩⟩
  · have he := df he
    have hn : n = 0 := by omega
    subst hn
    have e1 : r = val ws % d := by simpa using hx.r
    have e2 : qs = digN ws.length (val ws / d) := by simpa using hx.q
    refine ex_exit (show Exec _ _ _ _ _ from ?_)
    refine exr ?_
    refine sw (core_move (L _ rfl)) ⟨rfl, T0⟩ T0 ?_
    refine sw (core_conv Tryd.underlying52 Tryd.underlying53 (L _ rfl) (fu32 (by omega) (by omega))) ⟨rfl, T0⟩ T0 ?_
    refine sw (core_assign (L _ rfl)) ⟨rfl, T0⟩ T0 ?_
    refine seq_nil ⟨[(4, _)], [(1000, _)], ⟨rfl, T0⟩, ⟨rfl, T0⟩, ?_⟩
    refine ex_ret ?_
    refine ⟨.inr rfl, ResVs.cast (.cons (.tmp rfl) .nil) ?_, ⟨obl rfl (by simp [e2]), T0⟩⟩
    rw [e1]

set_option maxRecDepth 100000 in
set_option maxHeartbeats 4000000 in
theorem print_says (neg : Bool) (ws : List Int) (hl : ws.length < 10000000) (h : Wd ws) : Says E 49 [pI neg ws] (pS (printV neg ws)) := by
  refine says_of (xs := [pS (printV neg ws)]) Tryd.func49 rfl Tryd.ntmps49 Tryd.results49 (by simp) fun F hG hX0 hnt hdf P0 => ?_
  have L := ltn hnt
  have hX : ∀ b, F.X b → E.ng ≤ b := fun b h => absurd h (hX0 b)
  have hN := ng_le hG
  have hv := val_nonneg h
  refine exr ?_
  refine swb (core_box (k := 1) (n := 2) (.pagg (.cons (.cons .nil))) rfl rfl (P0 _ rfl) (L _ rfl)) ⟨rfl, T0⟩ T0 ⟨rfl, rfl⟩ ?_
  refine sw (core_assign (L _ rfl)) ⟨rfl, T0⟩ T0 ?_
  refine seq_nil ⟨[(1, _)], [(1, _)], ⟨rfl, T0⟩, ⟨rfl, T0⟩, ?_⟩
  refine ex_seq ?_
  refine exr ?_
  refine sw (core_loadP Tryd.isAgg24 Tryd.sizeOf24 (by rfl) (by exact (.cons (.cons .nil))) rfl (L _ rfl)) ⟨rfl, T0⟩ ⟨rfl, T0⟩ ?_
  refine sw (core_call (E := E) hG hX Tryd.call16 rfl hN (is_says neg ws (by omega)) (L _ rfl)) ⟨rfl, T0⟩ T0 ?_
  refine sw (core_not (L _ rfl)) ⟨rfl, T0⟩ T0 ?_
  refine seq_nil ⟨[(1, _), (12, _)], [(1, _)], ⟨rfl, rfl, T0⟩, ⟨rfl, T0⟩, ?_⟩
  refine ex_if rfl (fun hc => ?_) (fun hc => ?_)
  · refine exr ?_
    refine sw (core_assign (L _ rfl)) ⟨rfl, T0⟩ T0 ?_
    refine seq_nil ⟨[(2, _)], [], ⟨rfl, T0⟩, trivial, ?_⟩
    refine ex_ret ?_
    refine ⟨.inr rfl, ResVs.cast (.cons (.tmp rfl) .nil) ?_⟩
    have hc' : ¬ canon neg ws = true := by simpa using hc
    rw [printV, if_neg hc']; rfl
  · have hcn : canon neg ws = true := by simpa using hc
    refine ex_skip (show Exec _ _ _ _ _ from ?_)
    refine ex_seq ?_
    refine exr ?_
    refine sw (core_fieldAddr Tryd.underlying24 rfl Tryd.sizeOf22 (by decide) (by exact rfl) (L _ rfl)) ⟨rfl, T0⟩ ⟨rfl, T0⟩ ?_
    refine sw (core_load1 Tryd.isAgg22 (by rfl) (by rfl) (L _ rfl)) ⟨rfl, T0⟩ ⟨rfl, T0⟩ ?_
    refine sw (core_len Tryd.underlying22 (L _ rfl)) ⟨rfl, T0⟩ T0 ?_
    refine sw (core_eql (L _ rfl)) ⟨rfl, rfl, T0⟩ T0 ?_
    refine seq_nil ⟨[(1, _), (16, _)], [(1, _)], ⟨rfl, rfl, T0⟩, ⟨rfl, T0⟩, ?_⟩
    refine ex_if rfl (fun hz => ?_) (fun hz => ?_)
    · have hz := dt hz
      have e1 : ws = [] := List.eq_nil_of_length_eq_zero (by omega)
      refine exr ?_
      refine sw (core_assign (L _ rfl)) ⟨rfl, T0⟩ T0 ?_
      refine seq_nil ⟨[(2, _)], [], ⟨rfl, T0⟩, trivial, ?_⟩
      refine ex_ret ?_
      refine ⟨.inr rfl, ResVs.cast (.cons (.tmp rfl) .nil) ?_⟩
      have e2 : neg = false := (canon_tr hcn).2 e1
      subst e1 e2
      rw [printV, if_pos hcn, show Lib.itoa (sg false (val [])) = [48] by simp [Lib.itoa, sg, val, dec_small]]; rfl
    · have hz := df hz
      have hpos : 0 < val ws := val_pos h (canon_tr hcn).1 (by omega)
      have hlt := val_lt h
      have hVlt : (val ws).toNat < 4294967296 ^ ws.length := by
        have : ((val ws).toNat : Int) < ((4294967296 ^ ws.length : Nat) : Int) := by rw [Int.natCast_pow, Int.toNat_of_nonneg hv]; exact hlt
        exact Int.ofNat_lt.1 this
      refine ex_skip (show Exec _ _ _ _ _ from ?_)
      refine exr ?_
      refine sw (core_fieldAddr Tryd.underlying24 rfl Tryd.sizeOf22 (by decide) (by exact rfl) (L _ rfl)) ⟨rfl, T0⟩ ⟨rfl, T0⟩ ?_
      refine sw (core_load1 Tryd.isAgg22 (by rfl) (by rfl) (L _ rfl)) ⟨rfl, T0⟩ ⟨rfl, T0⟩ ?_
      refine sw (core_len Tryd.underlying22 (L _ rfl)) ⟨rfl, T0⟩ T0 ?_
      refine swb (core_make1 (k := 20) Tryd.underlying22 Tryd.typeInfo53 rfl rfl rfl rfl rfl rfl (Nat.le_refl _) (by simp [Tryd.t53]; omega) (by omega) (P0 _ rfl) (L _ rfl)) ⟨rfl, rfl, T0⟩ T0 ⟨rfl, rfl⟩ ?_
      refine sw (core_assign (L _ rfl)) ⟨rfl, T0⟩ T0 ?_
      refine seq_nil ⟨[(1, _), (3, _)], [(1, _), (20, _)], ⟨rfl, rfl, T0⟩, ⟨rfl, rfl, T0⟩, ?_⟩
      refine exr ?_
      refine sw (core_move (L _ rfl)) ⟨rfl, T0⟩ T0 ?_
      refine sw (core_fieldAddr Tryd.underlying24 rfl Tryd.sizeOf22 (by decide) (by exact rfl) (L _ rfl)) ⟨rfl, T0⟩ ⟨rfl, T0⟩ ?_
      refine sw (core_load1 Tryd.isAgg22 (by rfl) (by rfl) (L _ rfl)) ⟨rfl, T0⟩ ⟨rfl, T0⟩ ?_
      refine swb (core_copyI Tryd.underlying22 Tryd.typeInfo53 (by exact List.length_replicate) rfl (by simp) (L _ rfl)) ⟨rfl, rfl, T0⟩ ⟨rfl, T0⟩ T0 ?_
      refine seq_nil ⟨[(1, _), (3, _)], [(1, _), (20, ⟨53, 1, .pure (encW ws)⟩)], ⟨rfl, rfl, T0⟩, ⟨rfl, obl rfl (by rw [List.take_of_length_le (by simp), List.drop_of_length_le (by simp), List.append_nil]), T0⟩, ?_⟩
      refine exr ?_
      refine sw (core_assign (L _ rfl)) ⟨rfl, T0⟩ T0 ?_
      refine seq_nil ⟨[(1, _), (3, _), (4, _)], [(1, _), (20, _)], ⟨rfl, rfl, rfl, T0⟩, ⟨rfl, rfl, T0⟩, ?_⟩
      refine ex_seq ?_
      refine exr ?_
      refine sw (core_move (L _ rfl)) ⟨rfl, T0⟩ T0 ?_
      refine sw (core_lenR Tryd.underlying22 (by exact (by first | (simp; done) | (simp; omega))) (L _ rfl)) ⟨rfl, T0⟩ ⟨rfl, T0⟩ ?_
      refine sw (core_assign (L _ rfl)) ⟨rfl, T0⟩ T0 ?_
      refine seq_nil ⟨[(1, _), (3, _), (4, _), (5, _)], [(1, _), (20, _)], ⟨rfl, rfl, rfl, rfl, T0⟩, ⟨rfl, rfl, T0⟩, ?_⟩
      refine ex_block ?_
      refine exlp (α := (Nat × List Int × Nat)) (fun x => [(5, vi (x.1:Int)), (4, .ref 35 0 x.2.2 x.2.2)]) (fun x => [(35, ⟨53, 1, .pure (encW (lowK (val ws).toNat x.2.2))⟩), (20, ⟨53, 1, .pure (encW (x.2.1.take x.1 ++ x.2.1.drop x.1))⟩)]) (fun x => LowAt ws x ∧ 0 < x.2.2) (fun x => (val ws).toNat / 1000000000 ^ x.2.2) ((val ws).toNat + 1) (sl := [(1, _), (3, _)]) (hb := [(1, _)]) ⟨rfl, rfl, T0⟩ ⟨rfl, T0⟩ ?_ ?_
      · have hx := LowAt.start h hpos
        obtain ⟨q1, q2⟩ := hx.mid
        rw [List.take_length] at q1 q2
        have sc := short2_says ws [] 1000000000 (by omega) h (by omega) ws.length (by simp)
        simp only [List.append_nil] at sc
        have hn0 : 0 < ws.length := by omega
        refine ex_seq ?_
        refine exr ?_
        refine sw (core_move (L _ rfl)) ⟨rfl, T0⟩ T0 ?_
        refine sw (core_gtr (L _ rfl)) ⟨rfl, rfl, T0⟩ T0 ?_
        refine seq_nil ⟨[(1, _), (3, _), (4, _), (5, _), (28, _)], [(1, _), (20, _)], ⟨rfl, rfl, rfl, rfl, rfl, T0⟩, ⟨rfl, rfl, T0⟩, ?_⟩
        refine ex_if rfl (fun hd => ?_) (fun hd => ?_)
        · have hd := dt hd
          refine ex_skip (show Exec _ _ _ _ _ from ?_)
          refine ex_block ?_
          refine exr ?_
          refine sw (core_move (L _ rfl)) ⟨rfl, T0⟩ T0 ?_
          refine sw (core_move (L _ rfl)) ⟨rfl, T0⟩ T0 ?_
          refine sw (core_move (L _ rfl)) ⟨rfl, T0⟩ T0 ?_
          refine sw (slR_hi Tryd.underlying22 Tryd.sizeOf53 rfl (by exact (by first | (simp; done) | (simp; omega))) (h := ws.length) (by first | exact rfl | omega) (by omega) (L _ rfl)) ⟨rfl, rfl, T0⟩ ⟨rfl, T0⟩ ?_
          refine swB (core_callX (E := E) hG hX [20] hN sc rfl (args_fn (ys := [_, _]) Tryd.call77 rfl (by rfl)) (by rfl) (by rfl) (by rfl) (by rfl) (SameH.to (.cons (len_pure (by simp [digN_length])) .nil)) (by rfl) (by rfl) (L _ rfl)) ⟨rfl, rfl, T0⟩ ⟨rfl, T0⟩ ?_
          refine sw (core_bsI (vs := [_]) Tryd.underlying22 Tryd.typeInfo53 rfl rfl (by decide) (by decide) rfl (zs_made (.cons rfl .nil) rfl) rfl (.cons rfl (.atom rfl) rfl (.put .here) .nil) (.cons .nil) (L _ rfl)) ⟨rfl, T0⟩ T0 ?_
          refine swb (apN (k := 35) (sz := 1) Tryd.underlying22 Tryd.underlying22 Tryd.typeInfo53 rfl rfl rfl (by decide) (by simp) rfl (by first | (simp [Tryd.t53]; done) | (simp [Tryd.t53]; omega)) (by omega) (P0 _ rfl) (L _ rfl)) ⟨rfl, rfl, T0⟩ T0 ⟨rfl, rfl⟩ ?_
          refine sw (core_assign (L _ rfl)) ⟨rfl, T0⟩ T0 ?_
          refine seq_nil ⟨[(1, _), (3, _), (4, _), (5, _)], [(1, _), (20, _), (35, _)], ⟨rfl, rfl, rfl, rfl, T0⟩, ⟨rfl, rfl, rfl, T0⟩, ?_⟩
          obtain ⟨R, hR⟩ : ∃ R, R = digN ws.length (val ws / 1000000000) := ⟨_, rfl⟩
          have hRl : R.length = ws.length := by rw [hR, digN_length]
          have hRw : Wd R := by rw [hR]; exact digN_wd _ _
          rw [← hR] at q2 ⊢
          refine ex_block ?_
          refine exl (α := Nat) (fun m => [(5, vi (m:Int))]) (fun m => []) (fun m => m ≤ ws.length ∧ val (R.take m) = val R) (fun m => m) (ws.length) (sl := [(1, _), (3, _), (4, _)]) (hb := [(1, _), (20, _), (35, _)]) ?_ ⟨(by first | exact rfl | exact oi (by omega) rfl), rfl, rfl, rfl, T0⟩ ⟨rfl, rfl, rfl, T0⟩ ?_
          · exact ⟨Nat.le_refl _, by rw [List.take_of_length_le (by omega)]⟩
          intro m hm
          refine ex_seq ?_
          refine exm (sl := [(45, vb (decide (0 < m ∧ R.getD (m - 1) 0 = 0)))]) (sl0 := [(1, _), (3, _), (4, _), (5, _)]) (hb := []) (hb0 := [(1, _), (20, _), (35, _)]) ⟨rfl, rfl, rfl, rfl, T0⟩ ⟨rfl, rfl, rfl, T0⟩ ?_ ?_
          · by_cases h : m = 0
            · refine sw (core_move (L _ rfl)) ⟨rfl, T0⟩ T0 ?_
              refine sw (core_gtr (L _ rfl)) ⟨rfl, rfl, T0⟩ T0 ?_
              refine sw (core_move (L _ rfl)) ⟨rfl, T0⟩ T0 ?_
              refine swn (g := 38) rfl (by simp [h]) (L _ rfl) rfl ?_
              refine swn (g := 38) rfl (by simp [h]) (L _ rfl) rfl ?_
              refine swn (g := 38) rfl (by simp [h]) (L _ rfl) rfl ?_
              refine swn (g := 38) rfl (by simp [h]) (L _ rfl) rfl ?_
              refine swn (g := 38) rfl (by simp [h]) (L _ rfl) rfl ?_
              refine swn (g := 38) rfl (by simp [h]) (L _ rfl) rfl ?_
              refine sw (core_pick_f (by simp [h]) (L _ rfl)) ⟨rfl, rfl, T0⟩ T0 ?_
              exact seq_nil ⟨⟨ob rfl (by simp [h]), rfl, rfl, rfl, rfl, T0⟩, ⟨rfl, rfl, rfl, T0⟩⟩
            · refine sw (core_move (L _ rfl)) ⟨rfl, T0⟩ T0 ?_
              refine sw (core_gtr (L _ rfl)) ⟨rfl, rfl, T0⟩ T0 ?_
              refine sw (core_move (L _ rfl)) ⟨rfl, T0⟩ T0 ?_
              refine swg (g := 38) rfl (by simp; omega) (core_move (L _ rfl)) rfl ⟨rfl, T0⟩ T0 ?_
              refine swg (g := 38) rfl (by simp; omega) (core_move (L _ rfl)) rfl ⟨rfl, T0⟩ T0 ?_
              refine swg (g := 38) rfl (by simp; omega) (core_sub (L _ rfl) (w64 (by omega) (by omega))) rfl ⟨rfl, rfl, T0⟩ T0 ?_
              refine swg (g := 38) rfl (by simp; omega) (ixR0 Tryd.underlying22 Tryd.sizeOf53 (by exact (by simp; omega)) (j := m - 1) (by first | exact rfl | omega) (by omega) (L _ rfl)) rfl ⟨rfl, rfl, T0⟩ ⟨rfl, T0⟩ ?_
              refine swg (g := 38) rfl (by simp; omega) (core_load1 Tryd.isAgg53 (by exact (by simp; omega)) (getC (by first | exact getW (by omega) | rfl)) (L _ rfl)) rfl ⟨rfl, T0⟩ ⟨rfl, T0⟩ ?_
              refine swg (g := 38) rfl (by simp; omega) (core_eql (L _ rfl)) rfl ⟨rfl, rfl, T0⟩ T0 ?_
              refine sw (core_pick_t (by simp; omega) (L _ rfl)) ⟨rfl, rfl, T0⟩ T0 ?_
              exact seq_nil ⟨⟨ob rfl (by simp; omega), rfl, rfl, rfl, rfl, T0⟩, ⟨rfl, rfl, rfl, T0⟩⟩
          refine ex_if rfl (fun hc => ?_) (fun hc => ?_)
          · have hc := dt hc
            refine ex_skip (show Exec _ _ _ _ _ from ?_)
            refine ex_block ?_
            refine exr0 ?_
            refine sw (core_move (L _ rfl)) ⟨rfl, T0⟩ T0 ?_
            refine sw (core_sub (L _ rfl) (w64 (by omega) (by omega))) ⟨rfl, rfl, T0⟩ T0 ?_
            refine sw (core_assign (L _ rfl)) ⟨rfl, T0⟩ T0 ?_
            refine seq_nil ?_
            exact ⟨m - 1, ⟨by omega, by rw [val_drop0 hc.1 (by omega) hc.2]; exact hm.2⟩, by omega, le_of ⟨(by first | exact rfl | exact oi (by omega) rfl), rfl, rfl, rfl, T0⟩ ⟨rfl, rfl, rfl, T0⟩⟩
          · have hc := df hc
            have key := hx.next (m := m) h hn0 hm.1 hRl hRw (by rw [hm.2]; exact q2) (fun h1 h2 => hc ⟨h1, h2⟩)
            have e1 : [val ws % 1000000000] = lowK (val ws).toNat 1 := by rw [← lowK_succ, ← q1]; rfl
            refine ex_exit ?_
            exact ⟨(m, R, 1), ⟨key, Nat.one_pos⟩, (by simp only; have := Nat.div_le_self (val ws).toNat (1000000000 ^ 1); omega), le_of ⟨(by first | exact rfl | exact oi (by omega) rfl), (by first | exact rfl | exact oi (by omega) rfl), rfl, rfl, T0⟩ ⟨obl rfl (by rw [← e1]; rfl), obl rfl (by rw [List.take_append_drop]), rfl, T0⟩⟩
        · have hd := df hd
          omega
      · intro x hx
        obtain ⟨n, rest, j⟩ := x
        obtain ⟨hx, hj0⟩ := hx
        obtain ⟨q1, q2⟩ := hx.mid
        have hle := hx.le
        have hlen := hx.len
        have hwd := hx.wd
        have htop := hx.top
        simp only at hle hlen hwd hj0 htop
        dsimp only
        have hjl := low_len htop hVlt
        refine ex_seq ?_
        refine exr ?_
        refine sw (core_move (L _ rfl)) ⟨rfl, T0⟩ T0 ?_
        refine sw (core_gtr (L _ rfl)) ⟨rfl, rfl, T0⟩ T0 ?_
        refine seq_nil ⟨[(1, _), (3, _), (4, _), (5, _), (28, _)], [(1, _), (20, _), (35, _)], ⟨rfl, rfl, rfl, rfl, rfl, T0⟩, ⟨rfl, rfl, rfl, T0⟩, ?_⟩
        refine ex_if rfl (fun hd => ?_) (fun hd => ?_)
        · have hd := dt hd
          have hpp := hx.pos (by simp only; omega)
          have hn0 : 0 < n := by omega
          simp only at hpp
          have htl : (rest.take n).length = n := by simp; omega
          have sc := short2_says (rest.take n) (rest.drop n) 1000000000 (by omega) (hwd.take n) (by omega) ws.length (by simp; omega)
          rw [htl] at sc
          refine ex_skip (show Exec _ _ _ _ _ from ?_)
          refine ex_block ?_
          refine exr ?_
          refine sw (core_move (L _ rfl)) ⟨rfl, T0⟩ T0 ?_
          refine sw (core_move (L _ rfl)) ⟨rfl, T0⟩ T0 ?_
          refine sw (core_move (L _ rfl)) ⟨rfl, T0⟩ T0 ?_
          refine sw (slR_hi Tryd.underlying22 Tryd.sizeOf53 rfl (by exact (by simp; omega)) (h := n) (by first | exact rfl | omega) (by omega) (L _ rfl)) ⟨rfl, rfl, T0⟩ ⟨rfl, T0⟩ ?_
          refine swB (core_callX (E := E) hG hX [20] hN sc rfl (args_fn (ys := [_, _]) Tryd.call77 rfl (by rfl)) (by rfl) (by rfl) (by rfl) (by rfl) (SameH.to (.cons (len_pure (by simp [digN_length]; omega)) .nil)) (by rfl) (by rfl) (L _ rfl)) ⟨rfl, rfl, T0⟩ ⟨rfl, T0⟩ ?_
          refine sw (core_bsI (vs := [_]) Tryd.underlying22 Tryd.typeInfo53 rfl rfl (by decide) (by decide) rfl (zs_made (.cons rfl .nil) rfl) rfl (.cons rfl (.atom rfl) rfl (.put .here) .nil) (.cons .nil) (L _ rfl)) ⟨rfl, T0⟩ T0 ?_
          refine swb (apP (sz := 1) Tryd.underlying22 Tryd.underlying22 Tryd.typeInfo53 rfl rfl rfl (by decide) (by exact (by simp)) (by omega) (by simp) rfl rfl rfl (by first | (simp [Tryd.t53]; done) | (simp [Tryd.t53]; omega)) (by omega) (P0 _ rfl) (L _ rfl)) ⟨rfl, rfl, T0⟩ ⟨rfl, T0⟩ T0 ?_
          refine sw (core_assign (L _ rfl)) ⟨rfl, T0⟩ T0 ?_
          refine seq_nil ⟨[(1, _), (3, _), (4, _), (5, _)], [(1, _), (20, _), (35, _)], ⟨rfl, rfl, rfl, rfl, T0⟩, ⟨rfl, rfl, rfl, T0⟩, ?_⟩
          obtain ⟨R, hR⟩ : ∃ R, R = digN n (val (rest.take n) / 1000000000) ++ rest.drop n := ⟨_, rfl⟩
          have hRl : R.length = ws.length := by rw [hR]; simp [digN_length]; omega
          have hRw : Wd R := by rw [hR]; exact (digN_wd _ _).append (hwd.drop n)
          have hRt : val (R.take n) = val (digN n (val (rest.take n) / 1000000000)) := by rw [hR, List.take_append_of_le_length (by rw [digN_length]; omega), List.take_of_length_le (by rw [digN_length]; omega)]
          rw [← hR]
          refine ex_block ?_
          refine exl (α := Nat) (fun m => [(5, vi (m:Int))]) (fun m => []) (fun m => m ≤ n ∧ val (R.take m) = val (R.take n)) (fun m => m) (n) (sl := [(1, _), (3, _), (4, _)]) (hb := [(1, _), (20, _), (35, _)]) ?_ ⟨(by first | exact rfl | exact oi (by omega) rfl), rfl, rfl, rfl, T0⟩ ⟨rfl, rfl, rfl, T0⟩ ?_
          · exact ⟨Nat.le_refl _, rfl⟩
          intro m hm
          refine ex_seq ?_
          refine exm (sl := [(45, vb (decide (0 < m ∧ R.getD (m - 1) 0 = 0)))]) (sl0 := [(1, _), (3, _), (4, _), (5, _)]) (hb := []) (hb0 := [(1, _), (20, _), (35, _)]) ⟨rfl, rfl, rfl, rfl, T0⟩ ⟨rfl, rfl, rfl, T0⟩ ?_ ?_
          · by_cases h : m = 0
            · refine sw (core_move (L _ rfl)) ⟨rfl, T0⟩ T0 ?_
              refine sw (core_gtr (L _ rfl)) ⟨rfl, rfl, T0⟩ T0 ?_
              refine sw (core_move (L _ rfl)) ⟨rfl, T0⟩ T0 ?_
              refine swn (g := 38) rfl (by simp [h]) (L _ rfl) rfl ?_
              refine swn (g := 38) rfl (by simp [h]) (L _ rfl) rfl ?_
              refine swn (g := 38) rfl (by simp [h]) (L _ rfl) rfl ?_
              refine swn (g := 38) rfl (by simp [h]) (L _ rfl) rfl ?_
              refine swn (g := 38) rfl (by simp [h]) (L _ rfl) rfl ?_
              refine swn (g := 38) rfl (by simp [h]) (L _ rfl) rfl ?_
              refine sw (core_pick_f (by simp [h]) (L _ rfl)) ⟨rfl, rfl, T0⟩ T0 ?_
              exact seq_nil ⟨⟨ob rfl (by simp [h]), rfl, rfl, rfl, rfl, T0⟩, ⟨rfl, rfl, rfl, T0⟩⟩
            · refine sw (core_move (L _ rfl)) ⟨rfl, T0⟩ T0 ?_
              refine sw (core_gtr (L _ rfl)) ⟨rfl, rfl, T0⟩ T0 ?_
              refine sw (core_move (L _ rfl)) ⟨rfl, T0⟩ T0 ?_
              refine swg (g := 38) rfl (by simp; omega) (core_move (L _ rfl)) rfl ⟨rfl, T0⟩ T0 ?_
              refine swg (g := 38) rfl (by simp; omega) (core_move (L _ rfl)) rfl ⟨rfl, T0⟩ T0 ?_
              refine swg (g := 38) rfl (by simp; omega) (core_sub (L _ rfl) (w64 (by omega) (by omega))) rfl ⟨rfl, rfl, T0⟩ T0 ?_
              refine swg (g := 38) rfl (by simp; omega) (ixR0 Tryd.underlying22 Tryd.sizeOf53 (by exact (by simp; omega)) (j := m - 1) (by first | exact rfl | omega) (by omega) (L _ rfl)) rfl ⟨rfl, rfl, T0⟩ ⟨rfl, T0⟩ ?_
              refine swg (g := 38) rfl (by simp; omega) (core_load1 Tryd.isAgg53 (by exact (by simp; omega)) (getC (by first | exact getW (by omega) | rfl)) (L _ rfl)) rfl ⟨rfl, T0⟩ ⟨rfl, T0⟩ ?_
              refine swg (g := 38) rfl (by simp; omega) (core_eql (L _ rfl)) rfl ⟨rfl, rfl, T0⟩ T0 ?_
              refine sw (core_pick_t (by simp; omega) (L _ rfl)) ⟨rfl, rfl, T0⟩ T0 ?_
              exact seq_nil ⟨⟨ob rfl (by simp; omega), rfl, rfl, rfl, rfl, T0⟩, ⟨rfl, rfl, rfl, T0⟩⟩
          refine ex_if rfl (fun hc => ?_) (fun hc => ?_)
          · have hc := dt hc
            refine ex_skip (show Exec _ _ _ _ _ from ?_)
            refine ex_block ?_
            refine exr0 ?_
            refine sw (core_move (L _ rfl)) ⟨rfl, T0⟩ T0 ?_
            refine sw (core_sub (L _ rfl) (w64 (by omega) (by omega))) ⟨rfl, rfl, T0⟩ T0 ?_
            refine sw (core_assign (L _ rfl)) ⟨rfl, T0⟩ T0 ?_
            refine seq_nil ?_
            exact ⟨m - 1, ⟨by omega, by rw [val_drop0 hc.1 (by omega) hc.2]; exact hm.2⟩, by omega, le_of ⟨(by first | exact rfl | exact oi (by omega) rfl), rfl, rfl, rfl, T0⟩ ⟨rfl, rfl, rfl, T0⟩⟩
          · have hc := df hc
            have key := hx.next (m := m) h hn0 hm.1 hRl hRw (by rw [hm.2, hRt]; exact q2) (fun h1 h2 => hc ⟨h1, h2⟩)
            have e1 : lowK (val ws).toNat j ++ [val (rest.take n) % 1000000000] = lowK (val ws).toNat (j + 1) := by rw [← lowK_succ, ← q1]
            refine ex_exit ?_
            exact ⟨(m, R, j + 1), ⟨key, Nat.succ_pos _⟩, (by simp only; have := div_block (val ws).toNat j; omega), le_of ⟨(by first | exact rfl | exact oi (by omega) rfl), (by first | exact rfl | exact oi (by omega) rfl), rfl, rfl, T0⟩ ⟨obl rfl (by rw [← e1, ← encW_app]), obl rfl (by rw [List.take_append_drop]), rfl, T0⟩⟩
        · have hd := df hd
          have hn0 : n = 0 := by omega
          subst hn0
          have hend : (val ws).toNat / 1000000000 ^ j = 0 := by
            have := hx.eq
            simp only [List.take_zero, val] at this
            omega
          have hj9 : 9 * j + 1 < 1000000000 := by omega
          refine ex_exit (show Exec _ _ _ _ _ from ?_)
          refine exr ?_
          refine sw (core_move (L _ rfl)) ⟨rfl, T0⟩ T0 ?_
          refine sw (core_lenR Tryd.underlying22 (by exact (by simp)) (L _ rfl)) ⟨rfl, T0⟩ ⟨rfl, T0⟩ ?_
          refine sw (core_mul (L _ rfl) (show _ = ((9 * j : Nat) : Int) by rw [w64 (by omega) (by omega)]; omega)) ⟨rfl, rfl, T0⟩ T0 ?_
          refine sw (core_add (L _ rfl) (show _ = ((9 * j + 1 : Nat) : Int) by rw [w64 (by omega) (by omega)]; omega)) ⟨rfl, rfl, T0⟩ T0 ?_
          refine swb (core_make1 (k := 52) Tryd.underlying50 Tryd.typeInfo5 rfl rfl rfl rfl rfl (show _ = ((9 * j + 1 : Nat) : Int) from rfl) (Nat.zero_le _) (by simp [Tryd.t5]; omega) (by omega) (P0 _ rfl) (L _ rfl)) ⟨rfl, rfl, T0⟩ T0 ⟨rfl, rfl⟩ ?_
          refine sw (core_assign (L _ rfl)) ⟨rfl, T0⟩ T0 ?_
          refine seq_nil ⟨[(1, _), (4, _), (6, _)], [(1, _), (35, _), (52, _)], ⟨rfl, rfl, rfl, T0⟩, ⟨rfl, rfl, rfl, T0⟩, ?_⟩
          refine ex_seq ?_
          refine exr ?_
          refine sw (core_fieldAddr Tryd.underlying24 rfl Tryd.sizeOf4 (by decide) (by exact rfl) (L _ rfl)) ⟨rfl, T0⟩ ⟨rfl, T0⟩ ?_
          refine sw (core_load1 Tryd.isAgg4 (by rfl) (by rfl) (L _ rfl)) ⟨rfl, T0⟩ ⟨rfl, T0⟩ ?_
          refine seq_nil ⟨[(4, _), (6, _), (54, _)], [(35, _), (52, _)], ⟨rfl, rfl, rfl, T0⟩, ⟨rfl, rfl, T0⟩, ?_⟩
          obtain ⟨S, hS⟩ : ∃ S : List UInt8, S = if neg = true then [45] else [] := ⟨_, rfl⟩
          have hSl : S.length ≤ 1 := by rw [hS]; split <;> simp
          refine ex_cut (sl := [(6, .ref 52 0 S.length S.length)]) (sl0 := [(4, _)]) (hb := [(52, ⟨5, 1, .pure (encB S)⟩)]) (hb0 := [(35, _)]) ⟨rfl, T0⟩ ⟨rfl, T0⟩ ?_ ?_
          · refine ex_if rfl (fun hg => ?_) (fun hg => ?_)
            · refine exr0 ?_
              refine sw (core_move (L _ rfl)) ⟨rfl, T0⟩ T0 ?_
              refine sw (core_bsI (vs := [_]) Tryd.underlying50 Tryd.typeInfo5 rfl rfl (by decide) (by decide) rfl (zs_made (.cons rfl .nil) rfl) rfl (.cons rfl (.atom rfl) rfl (.put .here) .nil) (.cons .nil) (L _ rfl)) ⟨rfl, T0⟩ T0 ?_
              refine swb (apP (sz := 1) Tryd.underlying50 Tryd.underlying50 Tryd.typeInfo5 rfl rfl rfl (by decide) (by exact List.length_replicate) (by omega) (by simp) rfl rfl rfl (by first | (simp [Tryd.t5]; done) | (simp [Tryd.t5]; omega)) (by omega) (P0 _ rfl) (L _ rfl)) ⟨rfl, rfl, T0⟩ ⟨rfl, T0⟩ T0 ?_
              refine sw (core_assign (L _ rfl)) ⟨rfl, T0⟩ T0 ?_
              refine seq_nil ?_
              exact ⟨⟨ov rfl (by rw [hS, if_pos hg]; rfl), (by first | exact rfl | exact oi (by omega) rfl), T0⟩, ⟨obl rfl (by rw [hS, if_pos hg]; rfl), rfl, T0⟩⟩
            · refine ex_skip ?_
              exact ⟨⟨ov rfl (by rw [hS, if_neg (by simp [hg])]; rfl), (by first | exact rfl | exact oi (by omega) rfl), T0⟩, ⟨obl rfl (by rw [hS, if_neg (by simp [hg])]; rfl), rfl, T0⟩⟩
          · refine ex_seq ?_
            refine exr ?_
            refine sw (core_move (L _ rfl)) ⟨rfl, T0⟩ T0 ?_
            refine sw (core_lenR Tryd.underlying22 (by exact (by simp)) (L _ rfl)) ⟨rfl, T0⟩ ⟨rfl, T0⟩ ?_
            refine sw (core_sub (L _ rfl) (w64 (by omega) (by omega))) ⟨rfl, rfl, T0⟩ T0 ?_
            refine sw (core_assign (L _ rfl)) ⟨rfl, T0⟩ T0 ?_
            refine seq_nil ⟨[(4, _), (6, _), (7, _)], [(35, _), (52, _)], ⟨rfl, rfl, rfl, T0⟩, ⟨rfl, rfl, T0⟩, ?_⟩
            have htl := txt_len hend htop
            have hll := lowK_length (val ws).toNat j
            refine ex_block ?_
            refine exl (α := Nat) (fun m => [(7, vi ((m : Int) - 1)), (6, .ref 52 0 (S ++ txt (val ws).toNat j m).length (S ++ txt (val ws).toNat j m).length)]) (fun m => [(52, ⟨5, 1, .pure (encB (S ++ txt (val ws).toNat j m))⟩)]) (fun m => m ≤ j) (fun m => m) (j) (sl := [(4, _)]) (hb := [(35, _)]) ?_ ⟨(by first | exact rfl | exact oi (by omega) rfl), ov rfl (by simp [txt]), rfl, T0⟩ ⟨obl rfl (by simp [txt]), rfl, T0⟩ ?_
            · exact Nat.le_refl _
            intro m hm
            have htm := htl (j - m) (by omega)
            rw [show j - (j - m) = m by omega] at htm
            have hol : (S ++ txt (val ws).toNat j m).length ≤ 9 * (j - m) + 1 := by simp; omega
            refine ex_seq ?_
            refine exr ?_
            refine sw (core_move (L _ rfl)) ⟨rfl, T0⟩ T0 ?_
            refine sw (core_geq (L _ rfl)) ⟨rfl, rfl, T0⟩ T0 ?_
            refine seq_nil ⟨[(4, _), (6, _), (7, _), (62, _)], [(35, _), (52, _)], ⟨rfl, rfl, rfl, rfl, T0⟩, ⟨rfl, rfl, T0⟩, ?_⟩
            refine ex_if rfl (fun he => ?_) (fun he => ?_)
            · have he := dt he
              obtain ⟨i, rfl⟩ : ∃ i, m = i + 1 := ⟨m - 1, by omega⟩
              obtain ⟨r, hr⟩ : ∃ r, r = (val ws).toNat / 1000000000 ^ i % 1000000000 := ⟨_, rfl⟩
              have hrl : r < 1000000000 := by rw [hr]; exact Nat.mod_lt _ (by decide)
              have hpl := (pad_dec 8 (r := r) (by exact hrl)).1
              have hgt : (lowK (val ws).toNat j).getD i 0 = (r : Int) := by rw [hr]; exact lowK_get (by omega)
              refine ex_skip (show Exec _ _ _ _ _ from ?_)
              refine ex_seq ?_
              refine ex_block ?_
              refine exr ?_
              refine sw (core_move (L _ rfl)) ⟨rfl, T0⟩ T0 ?_
              refine sw (core_move (L _ rfl)) ⟨rfl, T0⟩ T0 ?_
              refine sw (ixR0 Tryd.underlying22 Tryd.sizeOf53 (by exact (by simp)) (j := i) (by first | exact rfl | omega) (by omega) (L _ rfl)) ⟨rfl, rfl, T0⟩ ⟨rfl, T0⟩ ?_
              refine sw (core_load1 Tryd.isAgg53 (by exact (by simp)) (getC (by first | exact getW (by omega) | rfl)) (L _ rfl)) ⟨rfl, T0⟩ ⟨rfl, T0⟩ ?_
              refine sw (core_conv Tryd.underlying53 Tryd.underlying3 (L _ rfl) (show _ = (r : Int) by rw [hgt]; exact w64 (by omega) (by omega))) ⟨rfl, T0⟩ T0 ?_
              refine sw (core_call (E := E) hG hX Tryd.call78 rfl hN (itoa_says r (by omega)) (L _ rfl)) ⟨rfl, T0⟩ T0 ?_
              refine sw (core_assign (L _ rfl)) ⟨rfl, T0⟩ T0 ?_
              refine seq_nil ⟨[(4, _), (6, _), (7, _), (8, _)], [(35, _), (52, _)], ⟨rfl, rfl, rfl, rfl, T0⟩, ⟨rfl, rfl, T0⟩, ?_⟩
              obtain ⟨D, hD⟩ : ∃ D, D = Lib.decDigits r := ⟨_, rfl⟩
              rw [← hD] at hpl ⊢
              obtain ⟨C, hC⟩ : ∃ C, C = if i + 1 < j then 9 - D.length else 0 := ⟨_, rfl⟩
              have hC1 : (i + 1 < j ∧ C = 9 - D.length) ∨ (¬ i + 1 < j ∧ C = 0) := by
                by_cases h : i + 1 < j
                · exact .inl ⟨h, by rw [hC, if_pos h]⟩
                · exact .inr ⟨h, by rw [hC, if_neg h]⟩
              have hsz := str_size D
              refine ex_seq ?_
              refine exr ?_
              refine sw (core_move (L _ rfl)) ⟨rfl, T0⟩ T0 ?_
              refine sw (core_lenS Tryd.underlying9 (L _ rfl)) ⟨rfl, T0⟩ T0 ?_
              refine sw (core_assign (L _ rfl)) ⟨rfl, T0⟩ T0 ?_
              refine seq_nil ⟨[(4, _), (6, _), (7, _), (8, _), (9, _)], [(35, _), (52, _)], ⟨rfl, rfl, rfl, rfl, rfl, T0⟩, ⟨rfl, rfl, T0⟩, ?_⟩
              obtain ⟨O, hO⟩ : ∃ O, O = S ++ txt (val ws).toNat j (i + 1) := ⟨_, rfl⟩
              rw [← hO] at hol ⊢
              refine ex_block ?_
              refine exl (α := Nat) (fun c => [(9, vi ((D.length : Int) + c)), (6, .ref 52 0 (O ++ List.replicate c 48).length (O ++ List.replicate c 48).length)]) (fun c => [(52, ⟨5, 1, .pure (encB (O ++ List.replicate c 48))⟩)]) (fun c => c ≤ C) (fun c => C - c) (0) (sl := [(4, _), (7, _), (8, _)]) (hb := [(35, _)]) ?_ ⟨oi (by simp [str_size]) rfl, ov rfl (by simp), rfl, rfl, rfl, T0⟩ ⟨obl rfl (by simp), rfl, T0⟩ ?_
              · exact Nat.zero_le _
              intro c hc
              refine ex_seq ?_
              refine exm (sl := [(81, vb (decide (c < C)))]) (sl0 := [(4, _), (6, _), (7, _), (8, _), (9, _)]) (hb := []) (hb0 := [(35, _), (52, _)]) ⟨rfl, rfl, rfl, rfl, rfl, T0⟩ ⟨rfl, rfl, T0⟩ ?_ ?_
              · by_cases h9 : D.length + c < 9
                · refine sw (core_move (L _ rfl)) ⟨rfl, T0⟩ T0 ?_
                  refine sw (core_lss (L _ rfl)) ⟨rfl, rfl, T0⟩ T0 ?_
                  refine sw (core_move (L _ rfl)) ⟨rfl, T0⟩ T0 ?_
                  refine swg (g := 75) rfl (decide_eq_true (by omega)) (core_move (L _ rfl)) rfl ⟨rfl, T0⟩ T0 ?_
                  refine swg (g := 75) rfl (decide_eq_true (by omega)) (core_move (L _ rfl)) rfl ⟨rfl, T0⟩ T0 ?_
                  refine swg (g := 75) rfl (decide_eq_true (by omega)) (core_lenR Tryd.underlying22 (by exact (by simp)) (L _ rfl)) rfl ⟨rfl, T0⟩ ⟨rfl, T0⟩ ?_
                  refine swg (g := 75) rfl (decide_eq_true (by omega)) (core_sub (L _ rfl) (w64 (by omega) (by omega))) rfl ⟨rfl, rfl, T0⟩ T0 ?_
                  refine swg (g := 75) rfl (decide_eq_true (by omega)) (core_lss (L _ rfl)) rfl ⟨rfl, rfl, T0⟩ T0 ?_
                  refine sw (core_pick_t (decide_eq_true (by omega)) (L _ rfl)) ⟨rfl, rfl, T0⟩ T0 ?_
                  exact seq_nil ⟨⟨ob rfl (dec_eq (by omega)), rfl, rfl, rfl, rfl, rfl, T0⟩, ⟨rfl, rfl, T0⟩⟩
                · refine sw (core_move (L _ rfl)) ⟨rfl, T0⟩ T0 ?_
                  refine sw (core_lss (L _ rfl)) ⟨rfl, rfl, T0⟩ T0 ?_
                  refine sw (core_move (L _ rfl)) ⟨rfl, T0⟩ T0 ?_
                  refine swn (g := 75) rfl (decide_eq_false (by omega)) (L _ rfl) rfl ?_
                  refine swn (g := 75) rfl (decide_eq_false (by omega)) (L _ rfl) rfl ?_
                  refine swn (g := 75) rfl (decide_eq_false (by omega)) (L _ rfl) rfl ?_
                  refine swn (g := 75) rfl (decide_eq_false (by omega)) (L _ rfl) rfl ?_
                  refine swn (g := 75) rfl (decide_eq_false (by omega)) (L _ rfl) rfl ?_
                  refine sw (core_pick_f (decide_eq_false (by omega)) (L _ rfl)) ⟨rfl, rfl, T0⟩ T0 ?_
                  exact seq_nil ⟨⟨ob rfl (decide_eq_false (by omega)).symm, rfl, rfl, rfl, rfl, rfl, T0⟩, ⟨rfl, rfl, T0⟩⟩
              refine ex_if rfl (fun hf => ?_) (fun hf => ?_)
              · have hf := dt hf
                have h2 : (O ++ List.replicate c 48).length ≤ 9 * (j - (i + 1)) + 10 := by simp; omega
                refine ex_skip (show Exec _ _ _ _ _ from ?_)
                refine ex_seq ?_
                refine ex_block ?_
                refine exr0 ?_
                refine sw (core_move (L _ rfl)) ⟨rfl, T0⟩ T0 ?_
                refine sw (core_bsI (vs := [_]) Tryd.underlying50 Tryd.typeInfo5 rfl rfl (by decide) (by decide) rfl (zs_made (.cons rfl .nil) rfl) rfl (.cons rfl (.atom rfl) rfl (.put .here) .nil) (.cons .nil) (L _ rfl)) ⟨rfl, T0⟩ T0 ?_
                refine swb (apP (sz := 1) Tryd.underlying50 Tryd.underlying50 Tryd.typeInfo5 rfl rfl rfl (by decide) (by exact (by simp)) (by omega) (by simp) rfl rfl rfl (by first | (simp [Tryd.t5]; done) | (simp [Tryd.t5]; omega)) (by omega) (P0 _ rfl) (L _ rfl)) ⟨rfl, rfl, T0⟩ ⟨rfl, T0⟩ T0 ?_
                refine sw (core_assign (L _ rfl)) ⟨rfl, T0⟩ T0 ?_
                refine seq_nil ?_
                refine exr0 ?_
                refine sw (core_move (L _ rfl)) ⟨rfl, T0⟩ T0 ?_
                refine sw (core_add (L _ rfl) (w64 (by omega) (by omega))) ⟨rfl, rfl, T0⟩ T0 ?_
                refine sw (core_assign (L _ rfl)) ⟨rfl, T0⟩ T0 ?_
                refine seq_nil ?_
                exact ⟨c + 1, (by omega), (by omega), le_of ⟨(by first | exact rfl | exact oi (by omega) rfl), ov rfl (by simp; omega), rfl, rfl, rfl, T0⟩ ⟨obl rfl (by rw [List.replicate_succ', ← List.append_assoc]; simp [encB]), rfl, T0⟩⟩
              · have hf := df hf
                have hcC : c = C := by omega
                have h2 : (O ++ List.replicate c 48).length ≤ 9 * (j - (i + 1)) + 10 := by simp; omega
                refine ex_exit (show Exec _ _ _ _ _ from ?_)
                refine exr0 ?_
                refine sw (core_move (L _ rfl)) ⟨rfl, T0⟩ T0 ?_
                refine sw (core_move (L _ rfl)) ⟨rfl, T0⟩ T0 ?_
                refine swb (apPS (m := D.length) Tryd.underlying50 Tryd.underlying9 Tryd.typeInfo5 rfl rfl (by decide) (by exact (by simp)) (by first | rfl | omega) rfl rfl rfl rfl (by first | (simp [Tryd.t5]; done) | (simp [Tryd.t5]; omega)) (by omega) (P0 _ rfl) (L _ rfl)) ⟨rfl, rfl, T0⟩ ⟨rfl, T0⟩ T0 ?_
                refine sw (core_assign (L _ rfl)) ⟨rfl, T0⟩ T0 ?_
                refine seq_nil ?_
                refine exr0 ?_
                refine sw (core_move (L _ rfl)) ⟨rfl, T0⟩ T0 ?_
                refine sw (core_sub (L _ rfl) (w64 (by omega) (by omega))) ⟨rfl, rfl, T0⟩ T0 ?_
                refine sw (core_assign (L _ rfl)) ⟨rfl, T0⟩ T0 ?_
                refine seq_nil ?_
                have hts := txt_succ hend htop (m := i) (by omega)
                rw [← hr, ← hD, ← hC, ← hcC] at hts
                have hfin : O ++ List.replicate c 48 ++ D = S ++ txt (val ws).toNat j i := by rw [hO, ← hts]; simp
                exact ⟨i, (by omega), (by omega), le_of ⟨(by first | exact rfl | exact oi (by omega) rfl), ov rfl (by rw [← hfin]; simp [Nat.add_assoc]), rfl, T0⟩ ⟨obl rfl (by rw [← hfin]; simp [encB, encU, str]), rfl, T0⟩⟩
            · have he := df he
              obtain rfl : m = 0 := by omega
              refine ex_exit (show Exec _ _ _ _ _ from ?_)
              refine exr ?_
              refine sw (core_move (L _ rfl)) ⟨rfl, T0⟩ T0 ?_
              refine sw (core_b2s (l := (S ++ txt (val ws).toNat j 0)) Tryd.underlying50 Tryd.underlying5 Tryd.underlying9 rfl (by simp) rfl rfl (L _ rfl)) ⟨rfl, T0⟩ ⟨rfl, T0⟩ ?_
              refine sw (core_assign (L _ rfl)) ⟨rfl, T0⟩ T0 ?_
              refine seq_nil ⟨[(2, _)], [], ⟨rfl, T0⟩, trivial, ?_⟩
              refine ex_ret ?_
              refine ⟨.inr rfl, ResVs.cast (.cons (.tmp rfl) .nil) ?_⟩
              rw [← printV_eq hcn hpos, hS, txt_end hj0]; rfl

end Go.Proofs.YtebkelnibecmjaaDoor.N
namespace Go.Proofs.YtebkelnibecmjaaDoor.N
open Go Go.Proofs.YtebkelnibecmjaaDoor.SH Go.Proofs.YtebkelnibecmjaaDoor.NumA
theorem digs_inj {a b : Nat} (h : digs a = digs b) : a = b := by
  have := congrArg val h
  rw [val_digs, val_digs] at this
  omega
theorem same_iff (a b : Int) : (decide (a < 0) = decide (b < 0) ∧ digs a.natAbs = digs b.natAbs) ↔ a = b := by
  constructor
  · rintro ⟨h1, h2⟩
    have h3 := digs_inj h2
    have h4 : a < 0 ↔ b < 0 := by simpa using h1
    omega
  · rintro rfl; exact ⟨rfl, rfl⟩
theorem sameZ (a b : Int) (ha : nw a < 99999999) (hb : nw b < 99999999) : Says E 18 [pZ a, pZ b] (bZ (decide (a = b))) := by
  have := rsame_says (decide (a < 0)) (decide (b < 0)) (digs a.natAbs) (digs b.natAbs) (by unfold nw at ha; omega) (by unfold nw at hb; omega)
  rwa [show decide (decide (a < 0) = decide (b < 0) ∧ digs a.natAbs = digs b.natAbs) = decide (a = b) from dec_eq (same_iff a b)] at this
theorem sameT {a b : Int} (h : a = b) (ha : nw a < 99999999) : Says E 18 [pZ a, pZ b] (bZ true) := by
  subst h
  have := sameZ a a ha ha
  simpa using this
theorem sameT2 (m : Bool) (ws : List Int) (hl : ws.length < 99999999) : Says E 18 [pI m ws, pI m ws] (bZ true) := by
  have := rsame_says m m ws ws (by omega) (by omega)
  simpa using this
theorem nw2 {a : Int} (h0 : -18446744073709551616 < a) (h1 : a < 18446744073709551616) : nw a < 1000 := by
  have : nw a ≤ 2 := nw_le (by omega)
  omega
set_option maxRecDepth 100000 in
set_option maxHeartbeats 4000000 in
theorem lis_says (a n : Int) (ha : nw a < 99999999) (h0 : -9223372036854775808 ≤ n) (h1 : n < 9223372036854775808) : Says E 53 [pZ a, vZ n] (bZ (decide (a = n))) := by
  refine says_of (xs := [bZ (decide (a = n))]) Tryd.func53 rfl Tryd.ntmps53 Tryd.results53 (by simp) fun F hG hX0 hnt hdf P0 => ?_
  have L := ltn hnt
  have hX : ∀ b, F.X b → E.ng ≤ b := fun b h => absurd h (hX0 b)
  have hN := ng_le hG
  have hn := nw2 (a := n) (by omega) (by omega)
  refine exr ?_
  refine swb (core_box (k := 2) (n := 2) (.pagg (.cons (.cons .nil))) rfl rfl (P0 _ rfl) (L _ rfl)) ⟨rfl, T0⟩ T0 ⟨rfl, rfl⟩ ?_
  refine sw (core_assign (L _ rfl)) ⟨rfl, T0⟩ T0 ?_
  refine seq_nil ⟨[(1, _), (2, _)], [(2, _)], ⟨rfl, rfl, T0⟩, ⟨rfl, T0⟩, ?_⟩
  refine exd (by rfl) ?_
  refine sw (core_loadP Tryd.isAgg24 Tryd.sizeOf24 (by rfl) (by exact (.cons (.cons .nil))) rfl (L _ rfl)) ⟨rfl, T0⟩ ⟨rfl, T0⟩ ?_
  refine sw (core_move (L _ rfl)) ⟨rfl, T0⟩ T0 ?_
  refine sw (core_call (E := E) hG hX Tryd.call20 rfl hN (rof_says n h0 h1) (L _ rfl)) ⟨rfl, T0⟩ T0 ?_
  refine sw (core_call (E := E) hG hX Tryd.call18 rfl hN (sameZ a n ha (by omega)) (L _ rfl)) ⟨rfl, rfl, T0⟩ T0 ?_
  refine sw (core_assign (L _ rfl)) ⟨rfl, T0⟩ T0 ?_
  refine seq_nil ⟨aoks [⟨[2], [2], [5], []⟩, ⟨[1], [], [6], []⟩, ⟨[6], [], [7], []⟩, ⟨[5, 7], [], [8], []⟩, ⟨[8], [], [4], []⟩] (by rfl) (by rfl) (by decide), [(4, _)], [], ⟨rfl, T0⟩, trivial, ?_⟩
  refine ex_ret ?_
  refine ⟨.inr rfl, ResVs.cast (.cons (.tmp rfl) .nil) ?_⟩
  rfl

theorem lisT {a n : Int} (h : a = n) (h0 : -9223372036854775808 ≤ n) (h1 : n < 9223372036854775808) : Says E 53 [pZ a, vZ n] (bZ true) := by
  subst h
  have := lis_says a a (by have := nw2 (a := a) (by omega) (by omega); omega) h0 h1
  simpa using this
theorem p3 (a b : Prop) : ¬ a ∨ (a ∧ ¬ b) ∨ (a ∧ b) := by
  by_cases ha : a
  · by_cases hb : b
    · exact .inr (.inr ⟨ha, hb⟩)
    · exact .inr (.inl ⟨ha, hb⟩)
  · exact .inl ha
set_option maxRecDepth 100000 in
set_option maxHeartbeats 4000000 in
theorem lshort_says (k : Int) (a b c : Bool) (ws vs us : List Int) : Says E 12 [vZ k, pI a ws, pI b vs, pI c us] (bZ (decide ((ws.length : Int) ≤ k ∧ (vs.length : Int) ≤ k ∧ (us.length : Int) ≤ k))) := by
  refine says_of (xs := [bZ (decide ((ws.length : Int) ≤ k ∧ (vs.length : Int) ≤ k ∧ (us.length : Int) ≤ k))]) Tryd.func12 rfl Tryd.ntmps12 Tryd.results12 (by simp) fun F hG hX0 hnt hdf P0 => ?_
  have L := ltn hnt
  have hX : ∀ b, F.X b → E.ng ≤ b := fun b h => absurd h (hX0 b)
  have hN := ng_le hG
  refine exr ?_
  refine swb (core_box (k := 5) (n := 2) (.pagg (.cons (.cons .nil))) rfl rfl (P0 _ rfl) (L _ rfl)) ⟨rfl, T0⟩ T0 ⟨rfl, rfl⟩ ?_
  refine swb (core_box (k := 6) (n := 2) (.pagg (.cons (.cons .nil))) rfl rfl (P0 _ rfl) (L _ rfl)) ⟨rfl, T0⟩ T0 ⟨rfl, rfl⟩ ?_
  refine swb (core_box (k := 7) (n := 2) (.pagg (.cons (.cons .nil))) rfl rfl (P0 _ rfl) (L _ rfl)) ⟨rfl, T0⟩ T0 ⟨rfl, rfl⟩ ?_
  refine sw (core_assign (L _ rfl)) ⟨rfl, T0⟩ T0 ?_
  refine seq_nil ⟨[(0, _), (5, _), (6, _), (7, _)], [(5, _), (6, _), (7, _)], ⟨rfl, rfl, rfl, rfl, T0⟩, ⟨rfl, rfl, rfl, T0⟩, ?_⟩
  refine exm (sl := [(8, vb (decide ((ws.length : Int) ≤ k ∧ (vs.length : Int) ≤ k ∧ (us.length : Int) ≤ k)))]) (sl0 := []) (hb := []) (hb0 := []) T0 T0 ?_ ?_
  · rcases p3 ((ws.length : Int) ≤ k) ((vs.length : Int) ≤ k) with c1 | ⟨c1, c2⟩ | ⟨c1, c2⟩
    · refine sw (core_fieldAddr Tryd.underlying24 rfl Tryd.sizeOf22 (by decide) (by exact rfl) (L _ rfl)) ⟨rfl, T0⟩ ⟨rfl, T0⟩ ?_
      refine sw (core_load1 Tryd.isAgg22 (by rfl) (by rfl) (L _ rfl)) ⟨rfl, T0⟩ ⟨rfl, T0⟩ ?_
      refine sw (core_len Tryd.underlying22 (L _ rfl)) ⟨rfl, T0⟩ T0 ?_
      refine sw (core_move (L _ rfl)) ⟨rfl, T0⟩ T0 ?_
      refine sw (core_leq (L _ rfl)) ⟨rfl, rfl, T0⟩ T0 ?_
      refine sw (core_move (L _ rfl)) ⟨rfl, T0⟩ T0 ?_
      refine swn (g := 14) rfl (decide_eq_false c1) (L _ rfl) rfl ?_
      refine swn (g := 14) rfl (decide_eq_false c1) (L _ rfl) rfl ?_
      refine swn (g := 14) rfl (decide_eq_false c1) (L _ rfl) rfl ?_
      refine swn (g := 14) rfl (decide_eq_false c1) (L _ rfl) rfl ?_
      refine swn (g := 14) rfl (decide_eq_false c1) (L _ rfl) rfl ?_
      refine sw (core_pick_f (decide_eq_false c1) (L _ rfl)) ⟨rfl, rfl, T0⟩ T0 ?_
      refine sw (core_move (L _ rfl)) ⟨rfl, T0⟩ T0 ?_
      refine swn (g := 21) rfl rfl (L _ rfl) rfl ?_
      refine swn (g := 21) rfl rfl (L _ rfl) rfl ?_
      refine swn (g := 21) rfl rfl (L _ rfl) rfl ?_
      refine swn (g := 21) rfl rfl (L _ rfl) rfl ?_
      refine swn (g := 21) rfl rfl (L _ rfl) rfl ?_
      refine sw (core_pick_f rfl (L _ rfl)) ⟨rfl, rfl, T0⟩ T0 ?_
      refine sw (core_assign (L _ rfl)) ⟨rfl, T0⟩ T0 ?_
      exact seq_nil ⟨⟨ob rfl (by simp [c1]), T0⟩, T0⟩
    · refine sw (core_fieldAddr Tryd.underlying24 rfl Tryd.sizeOf22 (by decide) (by exact rfl) (L _ rfl)) ⟨rfl, T0⟩ ⟨rfl, T0⟩ ?_
      refine sw (core_load1 Tryd.isAgg22 (by rfl) (by rfl) (L _ rfl)) ⟨rfl, T0⟩ ⟨rfl, T0⟩ ?_
      refine sw (core_len Tryd.underlying22 (L _ rfl)) ⟨rfl, T0⟩ T0 ?_
      refine sw (core_move (L _ rfl)) ⟨rfl, T0⟩ T0 ?_
      refine sw (core_leq (L _ rfl)) ⟨rfl, rfl, T0⟩ T0 ?_
      refine sw (core_move (L _ rfl)) ⟨rfl, T0⟩ T0 ?_
      refine swg (g := 14) rfl (decide_eq_true c1) (core_fieldAddr Tryd.underlying24 rfl Tryd.sizeOf22 (by decide) (by exact rfl) (L _ rfl)) rfl ⟨rfl, T0⟩ ⟨rfl, T0⟩ ?_
      refine swg (g := 14) rfl (decide_eq_true c1) (core_load1 Tryd.isAgg22 (by rfl) (by rfl) (L _ rfl)) rfl ⟨rfl, T0⟩ ⟨rfl, T0⟩ ?_
      refine swg (g := 14) rfl (decide_eq_true c1) (core_len Tryd.underlying22 (L _ rfl)) rfl ⟨rfl, T0⟩ T0 ?_
      refine swg (g := 14) rfl (decide_eq_true c1) (core_move (L _ rfl)) rfl ⟨rfl, T0⟩ T0 ?_
      refine swg (g := 14) rfl (decide_eq_true c1) (core_leq (L _ rfl)) rfl ⟨rfl, rfl, T0⟩ T0 ?_
      refine sw (core_pick_t (decide_eq_true c1) (L _ rfl)) ⟨rfl, rfl, T0⟩ T0 ?_
      refine sw (core_move (L _ rfl)) ⟨rfl, T0⟩ T0 ?_
      refine swn (g := 21) rfl (decide_eq_false c2) (L _ rfl) rfl ?_
      refine swn (g := 21) rfl (decide_eq_false c2) (L _ rfl) rfl ?_
      refine swn (g := 21) rfl (decide_eq_false c2) (L _ rfl) rfl ?_
      refine swn (g := 21) rfl (decide_eq_false c2) (L _ rfl) rfl ?_
      refine swn (g := 21) rfl (decide_eq_false c2) (L _ rfl) rfl ?_
      refine sw (core_pick_f (decide_eq_false c2) (L _ rfl)) ⟨rfl, rfl, T0⟩ T0 ?_
      refine sw (core_assign (L _ rfl)) ⟨rfl, T0⟩ T0 ?_
      exact seq_nil ⟨⟨ob rfl (by simp [c2]), T0⟩, T0⟩
    · refine sw (core_fieldAddr Tryd.underlying24 rfl Tryd.sizeOf22 (by decide) (by exact rfl) (L _ rfl)) ⟨rfl, T0⟩ ⟨rfl, T0⟩ ?_
      refine sw (core_load1 Tryd.isAgg22 (by rfl) (by rfl) (L _ rfl)) ⟨rfl, T0⟩ ⟨rfl, T0⟩ ?_
      refine sw (core_len Tryd.underlying22 (L _ rfl)) ⟨rfl, T0⟩ T0 ?_
      refine sw (core_move (L _ rfl)) ⟨rfl, T0⟩ T0 ?_
      refine sw (core_leq (L _ rfl)) ⟨rfl, rfl, T0⟩ T0 ?_
      refine sw (core_move (L _ rfl)) ⟨rfl, T0⟩ T0 ?_
      refine swg (g := 14) rfl (decide_eq_true c1) (core_fieldAddr Tryd.underlying24 rfl Tryd.sizeOf22 (by decide) (by exact rfl) (L _ rfl)) rfl ⟨rfl, T0⟩ ⟨rfl, T0⟩ ?_
      refine swg (g := 14) rfl (decide_eq_true c1) (core_load1 Tryd.isAgg22 (by rfl) (by rfl) (L _ rfl)) rfl ⟨rfl, T0⟩ ⟨rfl, T0⟩ ?_
      refine swg (g := 14) rfl (decide_eq_true c1) (core_len Tryd.underlying22 (L _ rfl)) rfl ⟨rfl, T0⟩ T0 ?_
      refine swg (g := 14) rfl (decide_eq_true c1) (core_move (L _ rfl)) rfl ⟨rfl, T0⟩ T0 ?_
      refine swg (g := 14) rfl (decide_eq_true c1) (core_leq (L _ rfl)) rfl ⟨rfl, rfl, T0⟩ T0 ?_
      refine sw (core_pick_t (decide_eq_true c1) (L _ rfl)) ⟨rfl, rfl, T0⟩ T0 ?_
      refine sw (core_move (L _ rfl)) ⟨rfl, T0⟩ T0 ?_
      refine swg (g := 21) rfl (decide_eq_true c2) (core_fieldAddr Tryd.underlying24 rfl Tryd.sizeOf22 (by decide) (by exact rfl) (L _ rfl)) rfl ⟨rfl, T0⟩ ⟨rfl, T0⟩ ?_
      refine swg (g := 21) rfl (decide_eq_true c2) (core_load1 Tryd.isAgg22 (by rfl) (by rfl) (L _ rfl)) rfl ⟨rfl, T0⟩ ⟨rfl, T0⟩ ?_
      refine swg (g := 21) rfl (decide_eq_true c2) (core_len Tryd.underlying22 (L _ rfl)) rfl ⟨rfl, T0⟩ T0 ?_
      refine swg (g := 21) rfl (decide_eq_true c2) (core_move (L _ rfl)) rfl ⟨rfl, T0⟩ T0 ?_
      refine swg (g := 21) rfl (decide_eq_true c2) (core_leq (L _ rfl)) rfl ⟨rfl, rfl, T0⟩ T0 ?_
      refine sw (core_pick_t (decide_eq_true c2) (L _ rfl)) ⟨rfl, rfl, T0⟩ T0 ?_
      refine sw (core_assign (L _ rfl)) ⟨rfl, T0⟩ T0 ?_
      exact seq_nil ⟨⟨ob rfl (by simp [c1, c2]), T0⟩, T0⟩
  refine ex_ret ?_
  refine ⟨.inr rfl, ResVs.cast (.cons (.tmp rfl) .nil) ?_⟩
  rfl

theorem smallZ (a : Int) (ha : nw a < 99999999) : Says E 14 [pZ a] (.tup [vZ (if -9223372036854775808 ≤ a ∧ a < 9223372036854775808 then a else 0), vZ (if -9223372036854775808 ≤ a ∧ a < 9223372036854775808 then 0 else 2)]) := by
  have := small_says (decide (a < 0)) (digs a.natAbs) (by unfold nw at ha; omega) (wd_digs _)
  rw [if_pos (canon_digs a), sg_digs] at this
  simpa only [canon_digs a, true_and] using this
theorem printZ (a : Int) (ha : nw a < 9999999) : Says E 49 [pZ a] (pS (Lib.itoa a)) := by
  have := print_says (decide (a < 0)) (digs a.natAbs) (by unfold nw at ha; omega) (wd_digs _)
  rwa [printV, if_pos (canon_digs a), sg_digs] at this
theorem sdiv : Says E 31 [pZ (-7), pZ 2] (.tup [pZ (-4), pZ 1, vZ 0]) := by
  have := divZ (-7) 2 (by have := nw2 (a := -7) (by omega) (by omega); omega) (by have := nw2 (a := 2) (by omega) (by omega); omega) (by decide)
  rwa [show (-7 : Int) / 2 = -4 by decide, show (-7 : Int) % 2 = 1 by decide] at this
theorem k12 : bU 12 18 = 2 := by
  rw [bU, if_neg (by decide)]
  exact bez_unique (a := 12) (b := 18) (by decide) (bezU_spec (by decide)) ⟨by decide, by decide, ⟨-1, by decide⟩⟩
theorem k12v : bV 12 18 = -1 := by
  have h := k12
  rw [bU, if_neg (by decide)] at h
  rw [bV, if_neg (by decide), h]; decide
theorem sbez : Says E 33 [pZ 12, pZ 18] (.tup [pZ 6, pZ 2, pZ (-1), vZ 0]) := by
  have := bezZ 12 18 (by have := nw2 (a := 12) (by omega) (by omega); omega) (by have := nw2 (a := 18) (by omega) (by omega); omega)
  rwa [k12, k12v, show ((Int.gcd 12 18 : Nat) : Int) = 6 by decide] at this
theorem spow : Says E 45 [pZ (-3), vZ 3] (.tup [pZ (-27), vZ 0]) := by
  have := powZ (-3) 3 (by have := nw2 (a := -3) (by omega) (by omega); omega) (by decide) (by decide)
  have e : powE true (-3) 3 = 0 := by kernel_rfl
  rwa [powV, e, if_pos rfl, show ((-3 : Int) ^ (3 : Int).toNat) = -27 by decide] at this
theorem ssq : Says E 43 [pZ 99] (.tup [pZ 9, vZ 0]) := by
  have := sqrtZ 99 (by have := nw2 (a := 99) (by omega) (by omega); omega) (by decide)
  rwa [sqZ_eq (r := 9) ⟨by decide, by decide, by decide⟩] at this
theorem sparse : Says E 47 [.a (.string ⟨#[45, 49, 50, 48]⟩)] (.tup [pZ (-120), vZ 0]) := by
  have := parse_says [45, 49, 50, 48] (by decide)
  have hd : Digits [49, 50, 48] := fun c hc => by
    simp only [List.mem_cons, List.not_mem_nil, or_false] at hc
    rcases hc with rfl | rfl | rfl <;> decide
  have e : parseE [45, 49, 50, 48] = 0 := by
    rw [parseE, if_neg, if_neg]
    · decide
    · rintro (h | h)
      · revert h; decide
      · exact h hd
  rwa [parseV, e, if_pos rfl, show sg (pNeg [45, 49, 50, 48]) (numI (pDs [45, 49, 50, 48])) = -120 by decide] at this
theorem ssmall : Says E 14 [pZ (-4294967297)] (.tup [vZ (-4294967297), vZ 0]) := by
  have := smallZ (-4294967297) (by have := nw2 (a := -4294967297) (by omega) (by omega); omega)
  simpa using this
theorem sbits : Says E 21 [pZ (-256)] (vZ 9) := by
  have := bitsZ (-256) (by have := nw2 (a := -256) (by omega) (by omega); omega)
  rwa [show ((bl (-256 : Int).natAbs : Nat) : Int) = 9 by kernel_rfl] at this
theorem ssign : Says E 23 [pZ (-5)] (vZ (-1)) := by
  have := signZ (-5) (by have := nw2 (a := -5) (by omega) (by omega); omega)
  rwa [show (-5 : Int).sign = -1 by decide] at this
theorem scmp : Says E 25 [pZ 3, pZ 2] (vZ 1) := by
  have := cmpZ 3 2 (by have := nw2 (a := 3) (by omega) (by omega); omega) (by have := nw2 (a := 2) (by omega) (by omega); omega)
  rwa [show cmpI 3 2 = 1 by decide] at this
theorem sadd : Says E 35 [pZ 4294967295, pZ 1] (pZ 4294967296) :=
  addZ 4294967295 1 (by have := nw2 (a := 4294967295) (by omega) (by omega); omega) (by have := nw2 (a := 1) (by omega) (by omega); omega)
theorem ssub : Says E 37 [pZ 3, pZ 5] (pZ (-2)) :=
  subZ 3 5 (by have := nw2 (a := 3) (by omega) (by omega); omega) (by have := nw2 (a := 5) (by omega) (by omega); omega)
theorem smul : Says E 39 [pZ (-3), pZ 5] (pZ (-15)) :=
  mulZ (-3) 5 (by have := nw2 (a := -3) (by omega) (by omega); omega) (by have := nw2 (a := 5) (by omega) (by omega); omega)
theorem sneg : Says E 27 [pZ 2] (pZ (-2)) := negZ 2 (by have := nw2 (a := 2) (by omega) (by omega); omega)
theorem sabs : Says E 29 [pZ (-2)] (pZ 2) := absZ (-2) (by have := nw2 (a := -2) (by omega) (by omega); omega)
theorem sgcd : Says E 41 [pZ (-12), pZ 18] (pZ 6) := by
  have := gcdZ (-12) 18 (by have := nw2 (a := -12) (by omega) (by omega); omega) (by have := nw2 (a := 18) (by omega) (by omega); omega)
  rwa [show ((Int.gcd (-12) 18 : Nat) : Int) = 6 by decide] at this
theorem sprint : Says E 49 [pZ (-15)] (.a (.string ⟨#[45, 49, 53]⟩)) := by
  have := printZ (-15) (by have := nw2 (a := -15) (by omega) (by omega); omega)
  rwa [show Lib.itoa (-15) = [45, 49, 53] by rw [Lib.itoa, if_pos (by decide), show (-15 : Int).natAbs = 15 from rfl, dec_big (by decide), dec_small (by decide)]; rfl] at this
set_option maxRecDepth 100000 in
set_option maxHeartbeats 4000000 in
theorem sane_says  : Says E 13 [] (bZ true) := by
  refine says_of (xs := [bZ true]) Tryd.func13 rfl Tryd.ntmps13 Tryd.results13 (by simp) fun F hG hX0 hnt hdf P0 => ?_
  have L := ltn hnt
  have hX : ∀ b, F.X b → E.ng ≤ b := fun b h => absurd h (hX0 b)
  have hN := ng_le hG
  refine exr ?_
  refine sw (core_assign (L _ rfl)) ⟨rfl, T0⟩ T0 ?_
  refine seq_nil ⟨[], [], trivial, trivial, ?_⟩
  refine exr ?_
  refine sw (core_call (E := E) hG hX Tryd.call20 rfl hN (rof_says (-7) (by decide) (by decide)) (L _ rfl)) ⟨rfl, T0⟩ T0 ?_
  refine sw (core_call (E := E) hG hX Tryd.call20 rfl hN (rof_says 2 (by decide) (by decide)) (L _ rfl)) ⟨rfl, T0⟩ T0 ?_
  refine sw (core_call (E := E) hG hX Tryd.call31 rfl hN sdiv (L _ rfl)) ⟨rfl, rfl, T0⟩ T0 ?_
  refine sw (core_move (L _ rfl)) ⟨rfl, T0⟩ T0 ?_
  refine sw (core_extract rfl (L _ rfl)) ⟨rfl, T0⟩ T0 ?_
  refine sw (core_extract rfl (L _ rfl)) ⟨rfl, T0⟩ T0 ?_
  refine sw (core_extract rfl (L _ rfl)) ⟨rfl, T0⟩ T0 ?_
  refine swb (core_alloc (k := 1) (n := 2) Tryd.zeroValue24 (.cons rfl (.cons rfl .nil)) rfl (P0 _ rfl) (L _ rfl)) trivial trivial ⟨rfl, rfl⟩ ?_
  refine swb (core_alloc (k := 2) (n := 2) Tryd.zeroValue24 (.cons rfl (.cons rfl .nil)) rfl (P0 _ rfl) (L _ rfl)) trivial trivial ⟨rfl, rfl⟩ ?_
  refine sb (core_storeM Tryd.sizeOf24 (by rfl) (.pagg (.cons (.cons .nil))) rfl (.put (.put .here))) ⟨rfl, rfl, T0⟩ ⟨rfl, T0⟩ ?_
  refine sb (core_storeM Tryd.sizeOf24 (by rfl) (.pagg (.cons (.cons .nil))) rfl (.put (.put .here))) ⟨rfl, rfl, T0⟩ ⟨rfl, T0⟩ ?_
  refine sw (core_assign (L _ rfl)) ⟨rfl, T0⟩ T0 ?_
  refine seq_nil ⟨[(1, _), (2, _), (3, _)], [(1, _), (2, _)], ⟨rfl, rfl, rfl, T0⟩, ⟨rfl, rfl, T0⟩, ?_⟩
  refine exr ?_
  refine sw (core_call (E := E) hG hX Tryd.call20 rfl hN (rof_says 12 (by decide) (by decide)) (L _ rfl)) ⟨rfl, T0⟩ T0 ?_
  refine sw (core_call (E := E) hG hX Tryd.call20 rfl hN (rof_says 18 (by decide) (by decide)) (L _ rfl)) ⟨rfl, T0⟩ T0 ?_
  refine sw (core_call (E := E) hG hX Tryd.call33 rfl hN sbez (L _ rfl)) ⟨rfl, rfl, T0⟩ T0 ?_
  refine sw (core_move (L _ rfl)) ⟨rfl, T0⟩ T0 ?_
  refine sw (core_extract rfl (L _ rfl)) ⟨rfl, T0⟩ T0 ?_
  refine sw (core_extract rfl (L _ rfl)) ⟨rfl, T0⟩ T0 ?_
  refine sw (core_extract rfl (L _ rfl)) ⟨rfl, T0⟩ T0 ?_
  refine sw (core_extract rfl (L _ rfl)) ⟨rfl, T0⟩ T0 ?_
  refine swb (core_alloc (k := 4) (n := 2) Tryd.zeroValue24 (.cons rfl (.cons rfl .nil)) rfl (P0 _ rfl) (L _ rfl)) trivial trivial ⟨rfl, rfl⟩ ?_
  refine swb (core_alloc (k := 5) (n := 2) Tryd.zeroValue24 (.cons rfl (.cons rfl .nil)) rfl (P0 _ rfl) (L _ rfl)) trivial trivial ⟨rfl, rfl⟩ ?_
  refine swb (core_alloc (k := 6) (n := 2) Tryd.zeroValue24 (.cons rfl (.cons rfl .nil)) rfl (P0 _ rfl) (L _ rfl)) trivial trivial ⟨rfl, rfl⟩ ?_
  refine sb (core_storeM Tryd.sizeOf24 (by rfl) (.pagg (.cons (.cons .nil))) rfl (.put (.put .here))) ⟨rfl, rfl, T0⟩ ⟨rfl, T0⟩ ?_
  refine sb (core_storeM Tryd.sizeOf24 (by rfl) (.pagg (.cons (.cons .nil))) rfl (.put (.put .here))) ⟨rfl, rfl, T0⟩ ⟨rfl, T0⟩ ?_
  refine sb (core_storeM Tryd.sizeOf24 (by rfl) (.pagg (.cons (.cons .nil))) rfl (.put (.put .here))) ⟨rfl, rfl, T0⟩ ⟨rfl, T0⟩ ?_
  refine sw (core_assign (L _ rfl)) ⟨rfl, T0⟩ T0 ?_
  refine seq_nil ⟨[(1, _), (2, _), (3, _), (4, _), (5, _), (6, _), (7, _)], [(1, _), (2, _), (4, _), (5, _), (6, _)], ⟨rfl, rfl, rfl, rfl, rfl, rfl, rfl, T0⟩, ⟨rfl, rfl, rfl, rfl, rfl, T0⟩, ?_⟩
  refine exr ?_
  refine sw (core_call (E := E) hG hX Tryd.call20 rfl hN (rof_says (-3) (by decide) (by decide)) (L _ rfl)) ⟨rfl, T0⟩ T0 ?_
  refine sw (core_call (E := E) hG hX Tryd.call45 rfl hN spow (L _ rfl)) ⟨rfl, rfl, T0⟩ T0 ?_
  refine sw (core_move (L _ rfl)) ⟨rfl, T0⟩ T0 ?_
  refine sw (core_extract rfl (L _ rfl)) ⟨rfl, T0⟩ T0 ?_
  refine sw (core_extract rfl (L _ rfl)) ⟨rfl, T0⟩ T0 ?_
  refine swb (core_alloc (k := 8) (n := 2) Tryd.zeroValue24 (.cons rfl (.cons rfl .nil)) rfl (P0 _ rfl) (L _ rfl)) trivial trivial ⟨rfl, rfl⟩ ?_
  refine sb (core_storeM Tryd.sizeOf24 (by rfl) (.pagg (.cons (.cons .nil))) rfl (.put (.put .here))) ⟨rfl, rfl, T0⟩ ⟨rfl, T0⟩ ?_
  refine sw (core_assign (L _ rfl)) ⟨rfl, T0⟩ T0 ?_
  refine seq_nil ⟨[(1, _), (2, _), (3, _), (4, _), (5, _), (6, _), (7, _), (8, _), (9, _)], [(1, _), (2, _), (4, _), (5, _), (6, _), (8, _)], ⟨rfl, rfl, rfl, rfl, rfl, rfl, rfl, rfl, rfl, T0⟩, ⟨rfl, rfl, rfl, rfl, rfl, rfl, T0⟩, ?_⟩
  refine exr ?_
  refine sw (core_call (E := E) hG hX Tryd.call20 rfl hN (rof_says 99 (by decide) (by decide)) (L _ rfl)) ⟨rfl, T0⟩ T0 ?_
  refine sw (core_call (E := E) hG hX Tryd.call43 rfl hN ssq (L _ rfl)) ⟨rfl, T0⟩ T0 ?_
  refine sw (core_move (L _ rfl)) ⟨rfl, T0⟩ T0 ?_
  refine sw (core_extract rfl (L _ rfl)) ⟨rfl, T0⟩ T0 ?_
  refine sw (core_extract rfl (L _ rfl)) ⟨rfl, T0⟩ T0 ?_
  refine swb (core_alloc (k := 10) (n := 2) Tryd.zeroValue24 (.cons rfl (.cons rfl .nil)) rfl (P0 _ rfl) (L _ rfl)) trivial trivial ⟨rfl, rfl⟩ ?_
  refine sb (core_storeM Tryd.sizeOf24 (by rfl) (.pagg (.cons (.cons .nil))) rfl (.put (.put .here))) ⟨rfl, rfl, T0⟩ ⟨rfl, T0⟩ ?_
  refine sw (core_assign (L _ rfl)) ⟨rfl, T0⟩ T0 ?_
  refine seq_nil ⟨[(1, _), (2, _), (3, _), (4, _), (5, _), (6, _), (7, _), (8, _), (9, _), (10, _), (11, _)], [(1, _), (2, _), (4, _), (5, _), (6, _), (8, _), (10, _)], ⟨rfl, rfl, rfl, rfl, rfl, rfl, rfl, rfl, rfl, rfl, rfl, T0⟩, ⟨rfl, rfl, rfl, rfl, rfl, rfl, rfl, T0⟩, ?_⟩
  refine exr ?_
  refine sw (core_call (E := E) hG hX Tryd.call47 rfl hN sparse (L _ rfl)) ⟨rfl, T0⟩ T0 ?_
  refine sw (core_move (L _ rfl)) ⟨rfl, T0⟩ T0 ?_
  refine sw (core_extract rfl (L _ rfl)) ⟨rfl, T0⟩ T0 ?_
  refine sw (core_extract rfl (L _ rfl)) ⟨rfl, T0⟩ T0 ?_
  refine swb (core_alloc (k := 12) (n := 2) Tryd.zeroValue24 (.cons rfl (.cons rfl .nil)) rfl (P0 _ rfl) (L _ rfl)) trivial trivial ⟨rfl, rfl⟩ ?_
  refine sb (core_storeM Tryd.sizeOf24 (by rfl) (.pagg (.cons (.cons .nil))) rfl (.put (.put .here))) ⟨rfl, rfl, T0⟩ ⟨rfl, T0⟩ ?_
  refine sw (core_assign (L _ rfl)) ⟨rfl, T0⟩ T0 ?_
  refine seq_nil ⟨[(1, _), (2, _), (3, _), (4, _), (5, _), (6, _), (7, _), (8, _), (9, _), (10, _), (11, _), (12, _), (13, _)], [(1, _), (2, _), (4, _), (5, _), (6, _), (8, _), (10, _), (12, _)], ⟨rfl, rfl, rfl, rfl, rfl, rfl, rfl, rfl, rfl, rfl, rfl, rfl, rfl, T0⟩, ⟨rfl, rfl, rfl, rfl, rfl, rfl, rfl, rfl, T0⟩, ?_⟩
  refine exr ?_
  refine sw (core_call (E := E) hG hX Tryd.call20 rfl hN (rof_says (-4294967297) (by decide) (by decide)) (L _ rfl)) ⟨rfl, T0⟩ T0 ?_
  refine sw (core_call (E := E) hG hX Tryd.call14 rfl hN ssmall (L _ rfl)) ⟨rfl, T0⟩ T0 ?_
  refine sw (core_move (L _ rfl)) ⟨rfl, T0⟩ T0 ?_
  refine sw (core_extract rfl (L _ rfl)) ⟨rfl, T0⟩ T0 ?_
  refine sw (core_extract rfl (L _ rfl)) ⟨rfl, T0⟩ T0 ?_
  refine sw (core_assign (L _ rfl)) ⟨rfl, T0⟩ T0 ?_
  refine sw (core_assign (L _ rfl)) ⟨rfl, T0⟩ T0 ?_
  refine seq_nil ⟨[(1, _), (2, _), (3, _), (4, _), (5, _), (6, _), (7, _), (8, _), (9, _), (10, _), (11, _), (12, _), (13, _), (14, _), (15, _)], [(1, _), (2, _), (4, _), (5, _), (6, _), (8, _), (10, _), (12, _)], ⟨rfl, rfl, rfl, rfl, rfl, rfl, rfl, rfl, rfl, rfl, rfl, rfl, rfl, rfl, rfl, T0⟩, ⟨rfl, rfl, rfl, rfl, rfl, rfl, rfl, rfl, T0⟩, ?_⟩
  refine ex_seq ?_
  refine exr ?_
  refine sw (core_move (L _ rfl)) ⟨rfl, T0⟩ T0 ?_
  refine sw (core_neq (L _ rfl)) ⟨rfl, rfl, T0⟩ T0 ?_
  refine sw (core_move (L _ rfl)) ⟨rfl, T0⟩ T0 ?_
  refine swg (g := 55) rfl rfl (core_move (L _ rfl)) rfl ⟨rfl, T0⟩ T0 ?_
  refine swg (g := 55) rfl rfl (core_neq (L _ rfl)) rfl ⟨rfl, rfl, T0⟩ T0 ?_
  refine sw (core_pick_f rfl (L _ rfl)) ⟨rfl, rfl, T0⟩ T0 ?_
  refine sw (core_move (L _ rfl)) ⟨rfl, T0⟩ T0 ?_
  refine swg (g := 59) rfl rfl (core_move (L _ rfl)) rfl ⟨rfl, T0⟩ T0 ?_
  refine swg (g := 59) rfl rfl (core_neq (L _ rfl)) rfl ⟨rfl, rfl, T0⟩ T0 ?_
  refine sw (core_pick_f rfl (L _ rfl)) ⟨rfl, rfl, T0⟩ T0 ?_
  refine sw (core_move (L _ rfl)) ⟨rfl, T0⟩ T0 ?_
  refine swg (g := 63) rfl rfl (core_move (L _ rfl)) rfl ⟨rfl, T0⟩ T0 ?_
  refine swg (g := 63) rfl rfl (core_neq (L _ rfl)) rfl ⟨rfl, rfl, T0⟩ T0 ?_
  refine sw (core_pick_f rfl (L _ rfl)) ⟨rfl, rfl, T0⟩ T0 ?_
  refine sw (core_move (L _ rfl)) ⟨rfl, T0⟩ T0 ?_
  refine swg (g := 67) rfl rfl (core_move (L _ rfl)) rfl ⟨rfl, T0⟩ T0 ?_
  refine swg (g := 67) rfl rfl (core_neq (L _ rfl)) rfl ⟨rfl, rfl, T0⟩ T0 ?_
  refine sw (core_pick_f rfl (L _ rfl)) ⟨rfl, rfl, T0⟩ T0 ?_
  refine sw (core_move (L _ rfl)) ⟨rfl, T0⟩ T0 ?_
  refine swg (g := 71) rfl rfl (core_move (L _ rfl)) rfl ⟨rfl, T0⟩ T0 ?_
  refine swg (g := 71) rfl rfl (core_neq (L _ rfl)) rfl ⟨rfl, rfl, T0⟩ T0 ?_
  refine sw (core_pick_f rfl (L _ rfl)) ⟨rfl, rfl, T0⟩ T0 ?_
  refine seq_nil ⟨[(1, _), (2, _), (4, _), (5, _), (6, _), (8, _), (10, _), (12, _), (14, _), (74, _)], [(1, _), (2, _), (4, _), (5, _), (6, _), (8, _), (10, _), (12, _)], ⟨rfl, rfl, rfl, rfl, rfl, rfl, rfl, rfl, rfl, rfl, T0⟩, ⟨rfl, rfl, rfl, rfl, rfl, rfl, rfl, rfl, T0⟩, ?_⟩
  refine ex_if rfl (fun hc => ?_) (fun hc => ?_)
  · exact absurd hc (by decide)
  · refine ex_skip (show Exec _ _ _ _ _ from ?_)
    refine exr ?_
    refine sw (core_loadP Tryd.isAgg24 Tryd.sizeOf24 (by rfl) (by exact (.cons (.cons .nil))) rfl (L _ rfl)) ⟨rfl, T0⟩ ⟨rfl, T0⟩ ?_
    refine sw (core_call (E := E) hG hX Tryd.call53 rfl hN (lisT rfl (by decide) (by decide)) (L _ rfl)) ⟨rfl, rfl, T0⟩ T0 ?_
    refine sw (core_move (L _ rfl)) ⟨rfl, T0⟩ T0 ?_
    refine swg (g := 77) rfl rfl (core_loadP Tryd.isAgg24 Tryd.sizeOf24 (by rfl) (by exact (.cons (.cons .nil))) rfl (L _ rfl)) rfl ⟨rfl, T0⟩ ⟨rfl, T0⟩ ?_
    refine swg (g := 77) rfl rfl (core_call (E := E) hG hX Tryd.call53 rfl hN (lisT rfl (by decide) (by decide)) (L _ rfl)) rfl ⟨rfl, rfl, T0⟩ T0 ?_
    refine sw (core_pick_t rfl (L _ rfl)) ⟨rfl, rfl, T0⟩ T0 ?_
    refine sw (core_move (L _ rfl)) ⟨rfl, T0⟩ T0 ?_
    refine swg (g := 81) rfl rfl (core_loadP Tryd.isAgg24 Tryd.sizeOf24 (by rfl) (by exact (.cons (.cons .nil))) rfl (L _ rfl)) rfl ⟨rfl, T0⟩ ⟨rfl, T0⟩ ?_
    refine swg (g := 81) rfl rfl (core_call (E := E) hG hX Tryd.call53 rfl hN (lisT rfl (by decide) (by decide)) (L _ rfl)) rfl ⟨rfl, rfl, T0⟩ T0 ?_
    refine sw (core_pick_t rfl (L _ rfl)) ⟨rfl, rfl, T0⟩ T0 ?_
    refine sw (core_move (L _ rfl)) ⟨rfl, T0⟩ T0 ?_
    refine swg (g := 85) rfl rfl (core_loadP Tryd.isAgg24 Tryd.sizeOf24 (by rfl) (by exact (.cons (.cons .nil))) rfl (L _ rfl)) rfl ⟨rfl, T0⟩ ⟨rfl, T0⟩ ?_
    refine swg (g := 85) rfl rfl (core_call (E := E) hG hX Tryd.call53 rfl hN (lisT rfl (by decide) (by decide)) (L _ rfl)) rfl ⟨rfl, rfl, T0⟩ T0 ?_
    refine sw (core_pick_t rfl (L _ rfl)) ⟨rfl, rfl, T0⟩ T0 ?_
    refine sw (core_move (L _ rfl)) ⟨rfl, T0⟩ T0 ?_
    refine swg (g := 89) rfl rfl (core_loadP Tryd.isAgg24 Tryd.sizeOf24 (by rfl) (by exact (.cons (.cons .nil))) rfl (L _ rfl)) rfl ⟨rfl, T0⟩ ⟨rfl, T0⟩ ?_
    refine swg (g := 89) rfl rfl (core_call (E := E) hG hX Tryd.call53 rfl hN (lisT rfl (by decide) (by decide)) (L _ rfl)) rfl ⟨rfl, rfl, T0⟩ T0 ?_
    refine sw (core_pick_t rfl (L _ rfl)) ⟨rfl, rfl, T0⟩ T0 ?_
    refine sw (core_move (L _ rfl)) ⟨rfl, T0⟩ T0 ?_
    refine swg (g := 93) rfl rfl (core_loadP Tryd.isAgg24 Tryd.sizeOf24 (by rfl) (by exact (.cons (.cons .nil))) rfl (L _ rfl)) rfl ⟨rfl, T0⟩ ⟨rfl, T0⟩ ?_
    refine swg (g := 93) rfl rfl (core_call (E := E) hG hX Tryd.call53 rfl hN (lisT rfl (by decide) (by decide)) (L _ rfl)) rfl ⟨rfl, rfl, T0⟩ T0 ?_
    refine sw (core_pick_t rfl (L _ rfl)) ⟨rfl, rfl, T0⟩ T0 ?_
    refine sw (core_move (L _ rfl)) ⟨rfl, T0⟩ T0 ?_
    refine swg (g := 97) rfl rfl (core_loadP Tryd.isAgg24 Tryd.sizeOf24 (by rfl) (by exact (.cons (.cons .nil))) rfl (L _ rfl)) rfl ⟨rfl, T0⟩ ⟨rfl, T0⟩ ?_
    refine swg (g := 97) rfl rfl (core_call (E := E) hG hX Tryd.call53 rfl hN (lisT rfl (by decide) (by decide)) (L _ rfl)) rfl ⟨rfl, rfl, T0⟩ T0 ?_
    refine sw (core_pick_t rfl (L _ rfl)) ⟨rfl, rfl, T0⟩ T0 ?_
    refine sw (core_move (L _ rfl)) ⟨rfl, T0⟩ T0 ?_
    refine swg (g := 101) rfl rfl (core_loadP Tryd.isAgg24 Tryd.sizeOf24 (by rfl) (by exact (.cons (.cons .nil))) rfl (L _ rfl)) rfl ⟨rfl, T0⟩ ⟨rfl, T0⟩ ?_
    refine swg (g := 101) rfl rfl (core_call (E := E) hG hX Tryd.call53 rfl hN (lisT rfl (by decide) (by decide)) (L _ rfl)) rfl ⟨rfl, rfl, T0⟩ T0 ?_
    refine sw (core_pick_t rfl (L _ rfl)) ⟨rfl, rfl, T0⟩ T0 ?_
    refine sw (core_move (L _ rfl)) ⟨rfl, T0⟩ T0 ?_
    refine swg (g := 105) rfl rfl (core_move (L _ rfl)) rfl ⟨rfl, T0⟩ T0 ?_
    refine swg (g := 105) rfl rfl (core_eql (L _ rfl)) rfl ⟨rfl, rfl, T0⟩ T0 ?_
    refine sw (core_pick_t rfl (L _ rfl)) ⟨rfl, rfl, T0⟩ T0 ?_
    refine sw (core_assign (L _ rfl)) ⟨rfl, T0⟩ T0 ?_
    refine seq_nil ⟨[(16, _)], [], ⟨rfl, T0⟩, trivial, ?_⟩
    refine exr ?_
    refine sw (core_call (E := E) hG hX Tryd.call19 rfl hN (of_says (-4294967297) (by decide) (by decide)) (L _ rfl)) ⟨rfl, T0⟩ T0 ?_
    refine sw (core_call (E := E) hG hX Tryd.call53 rfl hN (lisT rfl (by decide) (by decide)) (L _ rfl)) ⟨rfl, rfl, T0⟩ T0 ?_
    refine sw (core_move (L _ rfl)) ⟨rfl, T0⟩ T0 ?_
    refine swg (g := 111) rfl rfl (core_call (E := E) hG hX Tryd.call20 rfl hN (rof_says (-256) (by decide) (by decide)) (L _ rfl)) rfl ⟨rfl, T0⟩ T0 ?_
    refine swg (g := 111) rfl rfl (core_call (E := E) hG hX Tryd.call21 rfl hN sbits (L _ rfl)) rfl ⟨rfl, T0⟩ T0 ?_
    refine swg (g := 111) rfl rfl (core_eql (L _ rfl)) rfl ⟨rfl, rfl, T0⟩ T0 ?_
    refine sw (core_pick_t rfl (L _ rfl)) ⟨rfl, rfl, T0⟩ T0 ?_
    refine sw (core_move (L _ rfl)) ⟨rfl, T0⟩ T0 ?_
    refine swg (g := 116) rfl rfl (core_call (E := E) hG hX Tryd.call20 rfl hN (rof_says (-5) (by decide) (by decide)) (L _ rfl)) rfl ⟨rfl, T0⟩ T0 ?_
    refine swg (g := 116) rfl rfl (core_call (E := E) hG hX Tryd.call23 rfl hN ssign (L _ rfl)) rfl ⟨rfl, T0⟩ T0 ?_
    refine swg (g := 116) rfl rfl (core_eql (L _ rfl)) rfl ⟨rfl, rfl, T0⟩ T0 ?_
    refine sw (core_pick_t rfl (L _ rfl)) ⟨rfl, rfl, T0⟩ T0 ?_
    refine sw (core_move (L _ rfl)) ⟨rfl, T0⟩ T0 ?_
    refine swg (g := 121) rfl rfl (core_call (E := E) hG hX Tryd.call20 rfl hN (rof_says 3 (by decide) (by decide)) (L _ rfl)) rfl ⟨rfl, T0⟩ T0 ?_
    refine swg (g := 121) rfl rfl (core_call (E := E) hG hX Tryd.call20 rfl hN (rof_says 2 (by decide) (by decide)) (L _ rfl)) rfl ⟨rfl, T0⟩ T0 ?_
    refine swg (g := 121) rfl rfl (core_call (E := E) hG hX Tryd.call25 rfl hN scmp (L _ rfl)) rfl ⟨rfl, rfl, T0⟩ T0 ?_
    refine swg (g := 121) rfl rfl (core_eql (L _ rfl)) rfl ⟨rfl, rfl, T0⟩ T0 ?_
    refine sw (core_pick_t rfl (L _ rfl)) ⟨rfl, rfl, T0⟩ T0 ?_
    refine sw (core_move (L _ rfl)) ⟨rfl, T0⟩ T0 ?_
    refine swg (g := 127) rfl rfl (core_call (E := E) hG hX Tryd.call20 rfl hN (rof_says 7 (by decide) (by decide)) (L _ rfl)) rfl ⟨rfl, T0⟩ T0 ?_
    refine swg (g := 127) rfl rfl (core_call (E := E) hG hX Tryd.call16 rfl hN (isZ 7 (by have := nw2 (a := 7) (by omega) (by omega); omega)) (L _ rfl)) rfl ⟨rfl, T0⟩ T0 ?_
    refine sw (core_pick_t rfl (L _ rfl)) ⟨rfl, rfl, T0⟩ T0 ?_
    refine sw (core_assign (L _ rfl)) ⟨rfl, T0⟩ T0 ?_
    refine seq_nil ⟨[(16, _), (17, _)], [], ⟨rfl, rfl, T0⟩, trivial, ?_⟩
    refine exr ?_
    refine sw (core_call (E := E) hG hX Tryd.call20 rfl hN (rof_says 4294967295 (by decide) (by decide)) (L _ rfl)) ⟨rfl, T0⟩ T0 ?_
    refine sw (core_call (E := E) hG hX Tryd.call20 rfl hN (rof_says 1 (by decide) (by decide)) (L _ rfl)) ⟨rfl, T0⟩ T0 ?_
    refine sw (core_call (E := E) hG hX Tryd.call35 rfl hN sadd (L _ rfl)) ⟨rfl, rfl, T0⟩ T0 ?_
    refine sw (core_call (E := E) hG hX Tryd.call53 rfl hN (lisT rfl (by decide) (by decide)) (L _ rfl)) ⟨rfl, rfl, T0⟩ T0 ?_
    refine sw (core_move (L _ rfl)) ⟨rfl, T0⟩ T0 ?_
    refine swg (g := 135) rfl rfl (core_call (E := E) hG hX Tryd.call20 rfl hN (rof_says 3 (by decide) (by decide)) (L _ rfl)) rfl ⟨rfl, T0⟩ T0 ?_
    refine swg (g := 135) rfl rfl (core_call (E := E) hG hX Tryd.call20 rfl hN (rof_says 5 (by decide) (by decide)) (L _ rfl)) rfl ⟨rfl, T0⟩ T0 ?_
    refine swg (g := 135) rfl rfl (core_call (E := E) hG hX Tryd.call37 rfl hN ssub (L _ rfl)) rfl ⟨rfl, rfl, T0⟩ T0 ?_
    refine swg (g := 135) rfl rfl (core_call (E := E) hG hX Tryd.call53 rfl hN (lisT rfl (by decide) (by decide)) (L _ rfl)) rfl ⟨rfl, rfl, T0⟩ T0 ?_
    refine sw (core_pick_t rfl (L _ rfl)) ⟨rfl, rfl, T0⟩ T0 ?_
    refine sw (core_move (L _ rfl)) ⟨rfl, T0⟩ T0 ?_
    refine swg (g := 141) rfl rfl (core_call (E := E) hG hX Tryd.call20 rfl hN (rof_says (-3) (by decide) (by decide)) (L _ rfl)) rfl ⟨rfl, T0⟩ T0 ?_
    refine swg (g := 141) rfl rfl (core_call (E := E) hG hX Tryd.call20 rfl hN (rof_says 5 (by decide) (by decide)) (L _ rfl)) rfl ⟨rfl, T0⟩ T0 ?_
    refine swg (g := 141) rfl rfl (core_call (E := E) hG hX Tryd.call39 rfl hN smul (L _ rfl)) rfl ⟨rfl, rfl, T0⟩ T0 ?_
    refine swg (g := 141) rfl rfl (core_call (E := E) hG hX Tryd.call53 rfl hN (lisT rfl (by decide) (by decide)) (L _ rfl)) rfl ⟨rfl, rfl, T0⟩ T0 ?_
    refine sw (core_pick_t rfl (L _ rfl)) ⟨rfl, rfl, T0⟩ T0 ?_
    refine sw (core_assign (L _ rfl)) ⟨rfl, T0⟩ T0 ?_
    refine seq_nil ⟨[(16, _), (17, _), (18, _)], [], ⟨rfl, rfl, rfl, T0⟩, trivial, ?_⟩
    refine exr ?_
    refine sw (core_move (L _ rfl)) ⟨rfl, T0⟩ T0 ?_
    refine sw (core_move (L _ rfl)) ⟨rfl, T0⟩ T0 ?_
    refine swg (g := 148) rfl rfl (core_move (L _ rfl)) rfl ⟨rfl, T0⟩ T0 ?_
    refine sw (core_pick_t rfl (L _ rfl)) ⟨rfl, rfl, T0⟩ T0 ?_
    refine sw (core_move (L _ rfl)) ⟨rfl, T0⟩ T0 ?_
    refine swg (g := 151) rfl rfl (core_move (L _ rfl)) rfl ⟨rfl, T0⟩ T0 ?_
    refine sw (core_pick_t rfl (L _ rfl)) ⟨rfl, rfl, T0⟩ T0 ?_
    refine sw (core_move (L _ rfl)) ⟨rfl, T0⟩ T0 ?_
    refine swg (g := 154) rfl rfl (core_call (E := E) hG hX Tryd.call20 rfl hN (rof_says 2 (by decide) (by decide)) (L _ rfl)) rfl ⟨rfl, T0⟩ T0 ?_
    refine swg (g := 154) rfl rfl (core_call (E := E) hG hX Tryd.call27 rfl hN sneg (L _ rfl)) rfl ⟨rfl, T0⟩ T0 ?_
    refine swg (g := 154) rfl rfl (core_call (E := E) hG hX Tryd.call53 rfl hN (lisT rfl (by decide) (by decide)) (L _ rfl)) rfl ⟨rfl, rfl, T0⟩ T0 ?_
    refine sw (core_pick_t rfl (L _ rfl)) ⟨rfl, rfl, T0⟩ T0 ?_
    refine sw (core_move (L _ rfl)) ⟨rfl, T0⟩ T0 ?_
    refine swg (g := 159) rfl rfl (core_call (E := E) hG hX Tryd.call20 rfl hN (rof_says (-2) (by decide) (by decide)) (L _ rfl)) rfl ⟨rfl, T0⟩ T0 ?_
    refine swg (g := 159) rfl rfl (core_call (E := E) hG hX Tryd.call29 rfl hN sabs (L _ rfl)) rfl ⟨rfl, T0⟩ T0 ?_
    refine swg (g := 159) rfl rfl (core_call (E := E) hG hX Tryd.call53 rfl hN (lisT rfl (by decide) (by decide)) (L _ rfl)) rfl ⟨rfl, rfl, T0⟩ T0 ?_
    refine sw (core_pick_t rfl (L _ rfl)) ⟨rfl, rfl, T0⟩ T0 ?_
    refine sw (core_move (L _ rfl)) ⟨rfl, T0⟩ T0 ?_
    refine swg (g := 164) rfl rfl (core_call (E := E) hG hX Tryd.call20 rfl hN (rof_says (-12) (by decide) (by decide)) (L _ rfl)) rfl ⟨rfl, T0⟩ T0 ?_
    refine swg (g := 164) rfl rfl (core_call (E := E) hG hX Tryd.call20 rfl hN (rof_says 18 (by decide) (by decide)) (L _ rfl)) rfl ⟨rfl, T0⟩ T0 ?_
    refine swg (g := 164) rfl rfl (core_call (E := E) hG hX Tryd.call41 rfl hN sgcd (L _ rfl)) rfl ⟨rfl, rfl, T0⟩ T0 ?_
    refine swg (g := 164) rfl rfl (core_call (E := E) hG hX Tryd.call53 rfl hN (lisT rfl (by decide) (by decide)) (L _ rfl)) rfl ⟨rfl, rfl, T0⟩ T0 ?_
    refine sw (core_pick_t rfl (L _ rfl)) ⟨rfl, rfl, T0⟩ T0 ?_
    refine sw (core_move (L _ rfl)) ⟨rfl, T0⟩ T0 ?_
    refine swg (g := 170) rfl rfl (core_call (E := E) hG hX Tryd.call20 rfl hN (rof_says (-15) (by decide) (by decide)) (L _ rfl)) rfl ⟨rfl, T0⟩ T0 ?_
    refine swg (g := 170) rfl rfl (core_call (E := E) hG hX Tryd.call49 rfl hN sprint (L _ rfl)) rfl ⟨rfl, T0⟩ T0 ?_
    refine swg (g := 170) rfl rfl (core_seql (L _ rfl)) rfl ⟨rfl, rfl, T0⟩ T0 ?_
    refine sw (core_pick_t rfl (L _ rfl)) ⟨rfl, rfl, T0⟩ T0 ?_
    refine sw (core_assign (L _ rfl)) ⟨rfl, T0⟩ T0 ?_
    refine seq_nil ⟨[(0, _)], [], ⟨rfl, T0⟩, trivial, ?_⟩
    refine ex_ret ?_
    refine ⟨.inr rfl, ResVs.cast (.cons (.tmp rfl) .nil) ?_⟩
    rfl

end Go.Proofs.YtebkelnibecmjaaDoor.N
