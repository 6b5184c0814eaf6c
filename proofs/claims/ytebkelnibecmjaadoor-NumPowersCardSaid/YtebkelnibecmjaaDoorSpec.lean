/- Part Spec of the proof: lemmas for the walks of the given functions. No statement of its own. -/
import Derived.Test.YtebkelnibecmjaaDoorHelp
import Derived.Test.YtebkelnibecmjaaDoorText
set_option linter.unusedVariables false
set_option linter.unusedSimpArgs false
set_option linter.deprecated false
namespace Go.Proofs.YtebkelnibecmjaaDoor.N
open Go Go.Proofs.YtebkelnibecmjaaDoor.SH Go.Proofs.YtebkelnibecmjaaDoor.NumA
theorem rmulZ (a b : Int) (ha : nw a < 99999999) (hb : nw b < 99999999) : Says E 40 [pZ a, pZ b] (pZ (a * b)) := by
  have := rmulI_says (decide (a < 0)) (decide (b < 0)) (digs a.natAbs) (digs b.natAbs) (by unfold nw at ha; omega) (by unfold nw at hb; omega) (wd_digs _) (wd_digs _)
  rwa [if_pos ⟨canon_digs a, canon_digs b⟩, sg_digs, sg_digs] at this
theorem rbitsZ' (a : Int) (ha : nw a < 99999999) : Says E 22 [pZ a] (vZ (bl a.natAbs : Nat)) := by
  have := rbits_says (decide (a < 0)) (digs a.natAbs) (by unfold nw at ha; omega) (wd_digs _)
  rwa [if_pos (canon_digs a), val_digs, Int.toNat_natCast] at this
theorem one_pow' {A : Int} {M : Nat} {neg : Bool} (hb : bl A.natAbs ≤ 1) (hn : neg = decide (A < 0)) (hM : M ≠ 0) : sg (neg && decide (((M % 2 : Nat) : Int) = 1)) (A.natAbs : Int) = A ^ M := by
  have h1 : A.natAbs < 2 := by have := (bl_spec (n := A.natAbs) (k := 1)).1 hb; simpa using this
  rcases (show A = 0 ∨ A = 1 ∨ A = -1 by omega) with rfl | rfl | rfl
  · obtain ⟨m, rfl⟩ : ∃ m, M = m + 1 := ⟨M - 1, by omega⟩
    subst hn; simp [sg, Int.pow_succ]
  · subst hn; simp [sg, Int.one_pow]
  · subst hn
    have h2 : (-1 : Int) ^ M = (-1) ^ (M % 2) := by
      conv => lhs; rw [show M = M % 2 + 2 * (M / 2) by omega]
      rw [Int.pow_add, neg_one_even, Int.mul_one]
    rw [h2]
    rcases (show M % 2 = 0 ∨ M % 2 = 1 by omega) with h | h <;> rw [h] <;> simp [sg, Int.pow_succ]
set_option maxRecDepth 100000 in
set_option maxHeartbeats 4000000 in
theorem rpow_says (m : Bool) (ws : List Int) (n : Int) (hl : ws.length < 9999999) (h : Wd ws) (hn0 : -9223372036854775808 ≤ n) (hn1 : n < 9223372036854775808) : Says E 46 [pI m ws, vZ n] (.tup [pZ (powV (canon m ws) (sg m (val ws)) n), vZ (powE (canon m ws) (sg m (val ws)) n)]) := by
  refine says_of (xs := [pZ (powV (canon m ws) (sg m (val ws)) n), vZ (powE (canon m ws) (sg m (val ws)) n)]) Tryd.func46 rfl Tryd.ntmps46 Tryd.results46 (by simp) fun F hG hX0 hnt hdf P0 => ?_
  have L := ltn hnt
  have hX : ∀ b, F.X b → E.ng ≤ b := fun b h => absurd h (hX0 b)
  have hN := ng_le hG
  have na := nw_val (m := m) h
  refine exr ?_
  refine swb (core_box (k := 2) (n := 2) (.pagg (.cons (.cons .nil))) rfl rfl (P0 _ rfl) (L _ rfl)) ⟨rfl, trivial⟩ trivial ⟨rfl, rfl⟩ ?_
  refine swb (core_alloc (k := 4) (n := 2) Tryd.zeroValue24 (.cons rfl (.cons rfl .nil)) rfl (P0 _ rfl) (L _ rfl)) trivial trivial ⟨rfl, rfl⟩ ?_
  refine sw (core_assign (L _ rfl)) ⟨rfl, trivial⟩ trivial ?_
  refine seq_nil ⟨[(1, _), (2, _), (4, _)], [(2, _), (4, _)], ⟨rfl, rfl, rfl, trivial⟩, ⟨rfl, rfl, trivial⟩, ?_⟩
  refine ex_seq ?_
  refine exr ?_
  refine sw (core_loadP Tryd.isAgg24 Tryd.sizeOf24 (by rfl) (by exact (.cons (.cons .nil))) rfl (L _ rfl)) ⟨rfl, trivial⟩ ⟨rfl, trivial⟩ ?_
  refine sw (core_call (E := E) hG hX Tryd.call17 rfl hN (ris_says m ws (by omega)) (L _ rfl)) ⟨rfl, trivial⟩ trivial ?_
  refine sw (core_not (L _ rfl)) ⟨rfl, trivial⟩ trivial ?_
  refine seq_nil ⟨[(1, _), (2, _), (4, _), (10, _)], [(2, _), (4, _)], ⟨rfl, rfl, rfl, rfl, trivial⟩, ⟨rfl, rfl, trivial⟩, ?_⟩
  refine ex_if rfl (fun hc => ?_) (fun hc => ?_)
  · have hc : canon m ws = false := by simpa using hc
    refine exr ?_
    refine sw (core_pc (core_buildP (vs := []) Tryd.underlying24 Tryd.zeroValue24 (.cons rfl (.cons rfl .nil)) ((Places.cons Tryd.sizeOf4 (Places.cons Tryd.sizeOf22 Places.nil))).to rfl .nil (.cons (.cons .nil)) (L _ rfl)) (.agg (.cons .same (.cons .nil .nil)))) trivial trivial ?_
    refine sb (core_storeM Tryd.sizeOf24 (by rfl) (.pagg (.cons (.cons .nil))) rfl (.put (.put .here))) ⟨rfl, rfl, trivial⟩ ⟨rfl, trivial⟩ ?_
    refine sw (core_assign (L _ rfl)) ⟨rfl, trivial⟩ trivial ?_
    refine seq_nil ⟨[(4, _), (5, _)], [(4, _)], ⟨rfl, rfl, trivial⟩, ⟨rfl, trivial⟩, ?_⟩
    refine ex_ret ?_
    refine ⟨.inr rfl, ResVs.cast (.cons (.agg rfl rfl rfl Tryd.isAgg24 Tryd.sizeOf24 (.cons (.cons .nil))) (.cons (.tmp rfl) .nil)) ?_⟩
    rw [powV, powE, hc, if_neg (show ¬ (false = true) by decide), if_neg (show ¬ ((3 : Int) = 0) by decide), pZ_zero]; rfl
  · have hc : canon m ws = true := by simpa using hc
    have hce := canon_eq h hc
    rw [bI_eq h hc, hc]
    obtain ⟨A, hA⟩ : ∃ A, A = sg m (val ws) := ⟨_, rfl⟩
    rw [← hA] at na hce ⊢
    refine ex_skip (show Exec _ _ _ _ _ from ?_)
    refine ex_seq ?_
    refine exr ?_
    refine sw (core_move (L _ rfl)) ⟨rfl, trivial⟩ trivial ?_
    refine sw (core_lss (L _ rfl)) ⟨rfl, rfl, trivial⟩ trivial ?_
    refine seq_nil ⟨[(1, _), (2, _), (4, _), (13, _)], [(2, _), (4, _)], ⟨rfl, rfl, rfl, rfl, trivial⟩, ⟨rfl, rfl, trivial⟩, ?_⟩
    refine ex_if rfl (fun hn => ?_) (fun hn => ?_)
    · have hn := dt hn
      have e : powE true A n = 1 := by rw [powE, if_pos rfl, if_pos hn]
      refine exr ?_
      refine sw (core_pc (core_buildP (vs := []) Tryd.underlying24 Tryd.zeroValue24 (.cons rfl (.cons rfl .nil)) ((Places.cons Tryd.sizeOf4 (Places.cons Tryd.sizeOf22 Places.nil))).to rfl .nil (.cons (.cons .nil)) (L _ rfl)) (.agg (.cons .same (.cons .nil .nil)))) trivial trivial ?_
      refine sb (core_storeM Tryd.sizeOf24 (by rfl) (.pagg (.cons (.cons .nil))) rfl (.put (.put .here))) ⟨rfl, rfl, trivial⟩ ⟨rfl, trivial⟩ ?_
      refine sw (core_assign (L _ rfl)) ⟨rfl, trivial⟩ trivial ?_
      refine seq_nil ⟨[(4, _), (5, _)], [(4, _)], ⟨rfl, rfl, trivial⟩, ⟨rfl, trivial⟩, ?_⟩
      refine ex_ret ?_
      refine ⟨.inr rfl, ResVs.cast (.cons (.agg rfl rfl rfl Tryd.isAgg24 Tryd.sizeOf24 (.cons (.cons .nil))) (.cons (.tmp rfl) .nil)) ?_⟩
      rw [powV, e, if_neg (show ¬ ((1 : Int) = 0) by decide), pZ_zero]; rfl
    · have hn := df hn
      obtain ⟨M, rfl⟩ : ∃ M : Nat, n = (M : Int) := ⟨n.toNat, by omega⟩
      obtain ⟨Lq, hLq⟩ : ∃ Lq, Lq = 1048576 / bl A.natAbs := ⟨_, rfl⟩
      have hLb : Lq ≤ 1048576 := by rw [hLq]; exact Nat.div_le_self _ _
      refine ex_skip (show Exec _ _ _ _ _ from ?_)
      refine ex_seq ?_
      refine exm (sl := [(24, vb (decide (1 < bl A.natAbs ∧ Lq < M)))]) (sl0 := [(1, _), (2, _), (4, _)]) (hb := []) (hb0 := [(2, _), (4, _)]) ⟨rfl, rfl, rfl, trivial⟩ ⟨rfl, rfl, trivial⟩ ?_ ?_
      · by_cases hb : 1 < bl A.natAbs
        · refine sw (core_loadP Tryd.isAgg24 Tryd.sizeOf24 (by rfl) (by exact (.cons (.cons .nil))) rfl (L _ rfl)) ⟨rfl, trivial⟩ ⟨rfl, trivial⟩ ?_
          refine sw (core_call (E := E) hG hX Tryd.call22 rfl hN (rbitsZ' A (by omega)) (L _ rfl)) ⟨rfl, trivial⟩ trivial ?_
          refine sw (core_gtr (L _ rfl)) ⟨rfl, rfl, trivial⟩ trivial ?_
          refine sw (core_move (L _ rfl)) ⟨rfl, trivial⟩ trivial ?_
          refine swg (g := 18) rfl (decide_eq_true (by omega)) (core_move (L _ rfl)) rfl ⟨rfl, trivial⟩ trivial ?_
          refine swg (g := 18) rfl (decide_eq_true (by omega)) (core_loadP Tryd.isAgg24 Tryd.sizeOf24 (by rfl) (by exact (.cons (.cons .nil))) rfl (L _ rfl)) rfl ⟨rfl, trivial⟩ ⟨rfl, trivial⟩ ?_
          refine swg (g := 18) rfl (decide_eq_true (by omega)) (core_call (E := E) hG hX Tryd.call22 rfl hN (rbitsZ' A (by omega)) (L _ rfl)) rfl ⟨rfl, trivial⟩ trivial ?_
          refine swg (g := 18) rfl (decide_eq_true (by omega)) (core_quo (L _ rfl) (by omega) (tdiv64 (show _ = (Lq : Int) by rw [hLq]; rfl) (by omega) (by omega))) rfl ⟨rfl, rfl, trivial⟩ trivial ?_
          refine swg (g := 18) rfl (decide_eq_true (by omega)) (core_gtr (L _ rfl)) rfl ⟨rfl, rfl, trivial⟩ trivial ?_
          refine sw (core_pick_t (decide_eq_true (by omega)) (L _ rfl)) ⟨rfl, rfl, trivial⟩ trivial ?_
          exact seq_nil ⟨⟨ob rfl (dec_eq ⟨fun c => ⟨hb, by omega⟩, fun c => by have := c.2; omega⟩), rfl, rfl, rfl, trivial⟩, ⟨rfl, rfl, trivial⟩⟩
        · refine sw (core_loadP Tryd.isAgg24 Tryd.sizeOf24 (by rfl) (by exact (.cons (.cons .nil))) rfl (L _ rfl)) ⟨rfl, trivial⟩ ⟨rfl, trivial⟩ ?_
          refine sw (core_call (E := E) hG hX Tryd.call22 rfl hN (rbitsZ' A (by omega)) (L _ rfl)) ⟨rfl, trivial⟩ trivial ?_
          refine sw (core_gtr (L _ rfl)) ⟨rfl, rfl, trivial⟩ trivial ?_
          refine sw (core_move (L _ rfl)) ⟨rfl, trivial⟩ trivial ?_
          refine swn (g := 18) rfl (decide_eq_false (by omega)) (L _ rfl) rfl ?_
          refine swn (g := 18) rfl (decide_eq_false (by omega)) (L _ rfl) rfl ?_
          refine swn (g := 18) rfl (decide_eq_false (by omega)) (L _ rfl) rfl ?_
          refine swn (g := 18) rfl (decide_eq_false (by omega)) (L _ rfl) rfl ?_
          refine swn (g := 18) rfl (decide_eq_false (by omega)) (L _ rfl) rfl ?_
          refine sw (core_pick_f (decide_eq_false (by omega)) (L _ rfl)) ⟨rfl, rfl, trivial⟩ trivial ?_
          exact seq_nil ⟨⟨ob rfl (decide_eq_false (fun c => hb c.1)).symm, rfl, rfl, rfl, trivial⟩, ⟨rfl, rfl, trivial⟩⟩
      refine ex_if rfl (fun hd => ?_) (fun hd => ?_)
      · have hd := dt hd
        have e : powE true A (M : Int) = 2 := by rw [powE, if_pos rfl, if_neg hn, if_pos (by rw [← hLq]; simpa using hd)]
        refine exr ?_
        refine sw (core_pc (core_buildP (vs := []) Tryd.underlying24 Tryd.zeroValue24 (.cons rfl (.cons rfl .nil)) ((Places.cons Tryd.sizeOf4 (Places.cons Tryd.sizeOf22 Places.nil))).to rfl .nil (.cons (.cons .nil)) (L _ rfl)) (.agg (.cons .same (.cons .nil .nil)))) trivial trivial ?_
        refine sb (core_storeM Tryd.sizeOf24 (by rfl) (.pagg (.cons (.cons .nil))) rfl (.put (.put .here))) ⟨rfl, rfl, trivial⟩ ⟨rfl, trivial⟩ ?_
        refine sw (core_assign (L _ rfl)) ⟨rfl, trivial⟩ trivial ?_
        refine seq_nil ⟨[(4, _), (5, _)], [(4, _)], ⟨rfl, rfl, trivial⟩, ⟨rfl, trivial⟩, ?_⟩
        refine ex_ret ?_
        refine ⟨.inr rfl, ResVs.cast (.cons (.agg rfl rfl rfl Tryd.isAgg24 Tryd.sizeOf24 (.cons (.cons .nil))) (.cons (.tmp rfl) .nil)) ?_⟩
        rw [powV, e, if_neg (show ¬ ((2 : Int) = 0) by decide), pZ_zero]; rfl
      · have hd := df hd
        have e : powE true A (M : Int) = 0 := by rw [powE, if_pos rfl, if_neg hn, if_neg (by rw [← hLq]; simpa using hd)]
        have eV : powV true A (M : Int) = A ^ M := by rw [powV, if_pos e, Int.toNat_natCast]
        rw [e, eV]
        refine ex_skip (show Exec _ _ _ _ _ from ?_)
        refine ex_seq ?_
        refine exr ?_
        refine sw (core_loadP Tryd.isAgg24 Tryd.sizeOf24 (by rfl) (by exact (.cons (.cons .nil))) rfl (L _ rfl)) ⟨rfl, trivial⟩ ⟨rfl, trivial⟩ ?_
        refine sw (core_call (E := E) hG hX Tryd.call22 rfl hN (rbitsZ' A (by omega)) (L _ rfl)) ⟨rfl, trivial⟩ trivial ?_
        refine sw (core_lss (L _ rfl)) ⟨rfl, rfl, trivial⟩ trivial ?_
        refine seq_nil ⟨[(1, _), (2, _), (4, _), (28, _)], [(2, _), (4, _)], ⟨rfl, rfl, rfl, rfl, trivial⟩, ⟨rfl, rfl, trivial⟩, ?_⟩
        refine ex_if rfl (fun hb => ?_) (fun hb => ?_)
        · have hb := dt hb
          refine ex_seq ?_
          refine exr ?_
          refine sw (core_move (L _ rfl)) ⟨rfl, trivial⟩ trivial ?_
          refine sw (core_eql (L _ rfl)) ⟨rfl, rfl, trivial⟩ trivial ?_
          refine seq_nil ⟨[(1, _), (2, _), (4, _), (30, _)], [(2, _), (4, _)], ⟨rfl, rfl, rfl, rfl, trivial⟩, ⟨rfl, rfl, trivial⟩, ?_⟩
          refine ex_if rfl (fun h0 => ?_) (fun h0 => ?_)
          · have h0 := dt h0
            have hM0 : M = 0 := by omega
            refine exr ?_
            refine sw (core_call (E := E) hG hX Tryd.call20 rfl hN (rof_says 1 (by decide) (by decide)) (L _ rfl)) ⟨rfl, trivial⟩ trivial ?_
            refine sb (core_storeM Tryd.sizeOf24 (by rfl) (.pagg (.cons (.cons .nil))) rfl (.put (.put .here))) ⟨rfl, rfl, trivial⟩ ⟨rfl, trivial⟩ ?_
            refine sw (core_assign (L _ rfl)) ⟨rfl, trivial⟩ trivial ?_
            refine seq_nil ⟨[(4, _), (5, _)], [(4, _)], ⟨rfl, rfl, trivial⟩, ⟨rfl, trivial⟩, ?_⟩
            refine ex_ret ?_
            refine ⟨.inr rfl, ResVs.cast (.cons (.agg rfl rfl rfl Tryd.isAgg24 Tryd.sizeOf24 (.cons (.cons .nil))) (.cons (.tmp rfl) .nil)) ?_⟩
            rw [hM0, Int.pow_zero]
          · have h0 := df h0
            have ep := one_pow' (A := A) (M := M) (neg := m) (by omega) hce.1.symm (by omega)
            have hval : val ws = A.natAbs := by
              have := canon_eq h hc
              rw [hA]; unfold sg; have := val_nonneg h; split <;> omega
            have ebI : bI A = (⟨24, 2, .mix [.p (.a (.bool m)), .p (.sl ws.length (encW ws))]⟩ : Blk) := by rw [hA]; exact (bI_eq h hc).symm
            rw [ebI]
            rw [← hval] at ep
            refine ex_skip (show Exec _ _ _ _ _ from ?_)
            refine exm (sl := [(5, vi 0)]) (sl0 := [(4, _)]) (hb := [(4, bI (A ^ M))]) (hb0 := []) ⟨rfl, trivial⟩ trivial ?_ ?_
            · cases hm : m
              · refine sw (core_fieldAddr Tryd.underlying24 rfl Tryd.sizeOf4 (by decide) (by exact rfl) (L _ rfl)) ⟨rfl, trivial⟩ ⟨rfl, trivial⟩ ?_
                refine sw (core_load1 Tryd.isAgg4 (by rfl) (by rfl) (L _ rfl)) ⟨rfl, trivial⟩ ⟨rfl, trivial⟩ ?_
                refine sw (core_move (L _ rfl)) ⟨rfl, trivial⟩ trivial ?_
                refine swn (g := 34) rfl rfl (L _ rfl) rfl ?_
                refine swn (g := 34) rfl rfl (L _ rfl) rfl ?_
                refine swn (g := 34) rfl rfl (L _ rfl) rfl ?_
                refine sw (core_pick_f rfl (L _ rfl)) ⟨rfl, rfl, trivial⟩ trivial ?_
                refine sw (core_fieldAddr Tryd.underlying24 rfl Tryd.sizeOf22 (by decide) (by exact rfl) (L _ rfl)) ⟨rfl, trivial⟩ ⟨rfl, trivial⟩ ?_
                refine sw (core_load1 Tryd.isAgg22 (by rfl) (by rfl) (L _ rfl)) ⟨rfl, trivial⟩ ⟨rfl, trivial⟩ ?_
                refine sw (core_call (E := E) hG hX Tryd.call56 rfl hN (rmade_says false ws (by omega) h) (L _ rfl)) ⟨rfl, rfl, trivial⟩ trivial ?_
                refine sb (core_storeM Tryd.sizeOf24 (by rfl) (.pagg (.cons (.cons .nil))) rfl (.put (.put .here))) ⟨rfl, rfl, trivial⟩ ⟨rfl, trivial⟩ ?_
                refine sw (core_assign (L _ rfl)) ⟨rfl, trivial⟩ trivial ?_
                exact seq_nil ⟨⟨rfl, rfl, trivial⟩, ⟨obl rfl (by rw [← ep, hm]; rfl), trivial⟩⟩
              · refine sw (core_fieldAddr Tryd.underlying24 rfl Tryd.sizeOf4 (by decide) (by exact rfl) (L _ rfl)) ⟨rfl, trivial⟩ ⟨rfl, trivial⟩ ?_
                refine sw (core_load1 Tryd.isAgg4 (by rfl) (by rfl) (L _ rfl)) ⟨rfl, trivial⟩ ⟨rfl, trivial⟩ ?_
                refine sw (core_move (L _ rfl)) ⟨rfl, trivial⟩ trivial ?_
                refine swg (g := 34) rfl rfl (core_move (L _ rfl)) rfl ⟨rfl, trivial⟩ trivial ?_
                refine swg (g := 34) rfl rfl (core_rem (L _ rfl) (by decide) (show _ = ((M % 2 : Nat) : Int) by rw [Int.tmod_eq_emod_of_nonneg (by omega)]; omega)) rfl ⟨rfl, rfl, trivial⟩ trivial ?_
                refine swg (g := 34) rfl rfl (core_eql (L _ rfl)) rfl ⟨rfl, rfl, trivial⟩ trivial ?_
                refine sw (core_pick_t rfl (L _ rfl)) ⟨rfl, rfl, trivial⟩ trivial ?_
                refine sw (core_fieldAddr Tryd.underlying24 rfl Tryd.sizeOf22 (by decide) (by exact rfl) (L _ rfl)) ⟨rfl, trivial⟩ ⟨rfl, trivial⟩ ?_
                refine sw (core_load1 Tryd.isAgg22 (by rfl) (by rfl) (L _ rfl)) ⟨rfl, trivial⟩ ⟨rfl, trivial⟩ ?_
                refine sw (core_call (E := E) hG hX Tryd.call56 rfl hN (rmade_says (decide (((M % 2 : Nat) : Int) = 1)) ws (by omega) h) (L _ rfl)) ⟨rfl, rfl, trivial⟩ trivial ?_
                refine sb (core_storeM Tryd.sizeOf24 (by rfl) (.pagg (.cons (.cons .nil))) rfl (.put (.put .here))) ⟨rfl, rfl, trivial⟩ ⟨rfl, trivial⟩ ?_
                refine sw (core_assign (L _ rfl)) ⟨rfl, trivial⟩ trivial ?_
                exact seq_nil ⟨⟨rfl, rfl, trivial⟩, ⟨obl rfl (by rw [← ep, hm]; rfl), trivial⟩⟩
            refine ex_ret ?_
            refine ⟨.inr rfl, ResVs.cast (.cons (.agg rfl rfl rfl Tryd.isAgg24 Tryd.sizeOf24 (.cons (.cons .nil))) (.cons (.tmp rfl) .nil)) ?_⟩
            rfl
        · have hb := df hb
          have hM : (M : Int) < 9223372036854775808 := hn1
          have hNb : ∀ e : Nat, e ≤ max M 1 → nw (A ^ e) ≤ 10032768 := fun e he => by
            have := pow_nw (A := A) (e := e) (by
              by_cases c : e ≤ 1
              · exact .inl c
              · right
                have h0 : M ≤ 1048576 / bl A.natAbs := by rw [← hLq]; exact Nat.le_of_not_lt (fun hh => hd ⟨by omega, hh⟩)
                have h1 : e ≤ 1048576 / bl A.natAbs := by omega
                have h2 : bl A.natAbs * e ≤ bl A.natAbs * (1048576 / bl A.natAbs) := Nat.mul_le_mul_left _ h1
                have h3 := Nat.mul_div_le 1048576 (bl A.natAbs)
                omega)
            omega
          refine ex_skip (show Exec _ _ _ _ _ from ?_)
          refine exd (by rfl) ?_
          refine sw (core_call (E := E) hG hX Tryd.call20 rfl hN (rof_says 1 (by decide) (by decide)) (L _ rfl)) ⟨rfl, trivial⟩ trivial ?_
          refine sw (core_loadP Tryd.isAgg24 Tryd.sizeOf24 (by rfl) (by exact (.cons (.cons .nil))) rfl (L _ rfl)) ⟨rfl, trivial⟩ ⟨rfl, trivial⟩ ?_
          refine swb (core_alloc (k := 6) (n := 2) Tryd.zeroValue24 (.cons rfl (.cons rfl .nil)) rfl (P0 _ rfl) (L _ rfl)) trivial trivial ⟨rfl, rfl⟩ ?_
          refine swb (core_alloc (k := 7) (n := 2) Tryd.zeroValue24 (.cons rfl (.cons rfl .nil)) rfl (P0 _ rfl) (L _ rfl)) trivial trivial ⟨rfl, rfl⟩ ?_
          refine sb (core_storeM Tryd.sizeOf24 (by rfl) (.pagg (.cons (.cons .nil))) rfl (.put (.put .here))) ⟨rfl, rfl, trivial⟩ ⟨rfl, trivial⟩ ?_
          refine sb (core_storeM Tryd.sizeOf24 (by rfl) (.pagg (.cons (.cons .nil))) rfl (.put (.put .here))) ⟨rfl, rfl, trivial⟩ ⟨rfl, trivial⟩ ?_
          refine seq_nil ⟨aok rfl rfl, [(1, _), (4, _), (6, _), (7, _)], [(4, _), (6, _), (7, _)], ⟨rfl, rfl, rfl, rfl, trivial⟩, ⟨rfl, rfl, rfl, trivial⟩, ?_⟩
          refine ex_seq ?_
          refine ex_block ?_
          refine exl (α := (Nat × Nat × Nat)) (fun x => [(1, vi (x.1 : Int))]) (fun x => [(6, bI (A ^ x.2.1)), (7, bI (A ^ x.2.2))]) (fun x => x.2.1 + x.2.2 * x.1 = M ∧ x.2.2 ≤ max M 1 ∧ x.2.1 ≤ M ∧ x.1 ≤ M) (fun x => x.1) ((M, 0, 1)) (sl := [(4, _), (6, _), (7, _)]) (hb := [(4, _)]) ?_ ⟨(by first | exact rfl | exact oi (by omega) rfl), rfl, rfl, rfl, trivial⟩ ⟨obl rfl (by simp only [Int.pow_zero]), obl rfl (by simp only [show A ^ 1 = A by rw [Int.pow_succ, Int.pow_zero, Int.one_mul]]), rfl, trivial⟩ ?_
          · exact ⟨by simp, by simp only; omega, by simp only; omega, by simp only; omega⟩
          intro x hx
          obtain ⟨k, f, e⟩ := x
          obtain ⟨hk, he, hf, hkN⟩ := hx
          simp only at hk he hf hkN
          dsimp only
          refine ex_seq ?_
          refine exr ?_
          refine sw (core_move (L _ rfl)) ⟨rfl, trivial⟩ trivial ?_
          refine sw (core_gtr (L _ rfl)) ⟨rfl, rfl, trivial⟩ trivial ?_
          refine seq_nil ⟨[(1, _), (4, _), (6, _), (7, _), (45, _)], [(4, _), (6, _), (7, _)], ⟨rfl, rfl, rfl, rfl, rfl, trivial⟩, ⟨rfl, rfl, rfl, trivial⟩, ?_⟩
          refine ex_if rfl (fun hg => ?_) (fun hg => ?_)
          · have hg := dt hg
            have nf := hNb f (by omega)
            have ne := hNb e he
            have hbd := pow_bd (by omega) hk
            refine ex_skip (show Exec _ _ _ _ _ from ?_)
            refine ex_block ?_
            refine ex_seq ?_
            refine exr ?_
            refine sw (core_move (L _ rfl)) ⟨rfl, trivial⟩ trivial ?_
            refine sw (core_rem (L _ rfl) (by decide) (show _ = ((k % 2 : Nat) : Int) by rw [Int.tmod_eq_emod_of_nonneg (by omega)]; omega)) ⟨rfl, rfl, trivial⟩ trivial ?_
            refine sw (core_eql (L _ rfl)) ⟨rfl, rfl, trivial⟩ trivial ?_
            refine seq_nil ⟨[(1, _), (4, _), (6, _), (7, _), (48, _)], [(4, _), (6, _), (7, _)], ⟨rfl, rfl, rfl, rfl, rfl, trivial⟩, ⟨rfl, rfl, rfl, trivial⟩, ?_⟩
            refine ex_cut (sl := []) (sl0 := [(1, _), (4, _), (6, _), (7, _)]) (hb := [(6, bI (A ^ (if k % 2 = 1 then f + e else f)))]) (hb0 := [(4, _), (7, _)]) ⟨rfl, rfl, rfl, rfl, trivial⟩ ⟨rfl, rfl, trivial⟩ ?_ ?_
            · refine ex_if rfl (fun hr => ?_) (fun hr => ?_)
              · have hr := dt hr
                refine exr0 ?_
                refine sw (core_loadP Tryd.isAgg24 Tryd.sizeOf24 (by rfl) (by exact (.cons (.cons .nil))) rfl (L _ rfl)) ⟨rfl, trivial⟩ ⟨rfl, trivial⟩ ?_
                refine sw (core_loadP Tryd.isAgg24 Tryd.sizeOf24 (by rfl) (by exact (.cons (.cons .nil))) rfl (L _ rfl)) ⟨rfl, trivial⟩ ⟨rfl, trivial⟩ ?_
                refine sw (core_call (E := E) hG hX Tryd.call40 rfl hN (rmulZ (A ^ f) (A ^ e) (by omega) (by omega)) (L _ rfl)) ⟨rfl, rfl, trivial⟩ trivial ?_
                refine sb (core_storeM Tryd.sizeOf24 (by rfl) (.pagg (.cons (.cons .nil))) rfl (.put (.put .here))) ⟨rfl, rfl, trivial⟩ ⟨rfl, trivial⟩ ?_
                refine seq_nil ?_
                exact ⟨⟨(by first | exact rfl | exact oi (by omega) rfl), (by first | exact rfl | exact oi (by omega) rfl), (by first | exact rfl | exact oi (by omega) rfl), (by first | exact rfl | exact oi (by omega) rfl), trivial⟩, ⟨obl rfl (by rw [if_pos (by omega), Int.pow_add]), rfl, rfl, trivial⟩⟩
              · have hr := df hr
                refine ex_skip ?_
                exact ⟨⟨(by first | exact rfl | exact oi (by omega) rfl), (by first | exact rfl | exact oi (by omega) rfl), (by first | exact rfl | exact oi (by omega) rfl), (by first | exact rfl | exact oi (by omega) rfl), trivial⟩, ⟨obl rfl (by rw [if_neg (by omega)]), rfl, rfl, trivial⟩⟩
            · refine exr ?_
              refine sw (core_move (L _ rfl)) ⟨rfl, trivial⟩ trivial ?_
              refine sw (core_quo (L _ rfl) (by decide) (tdiv64 (show _ = ((k / 2 : Nat) : Int) by omega))) ⟨rfl, rfl, trivial⟩ trivial ?_
              refine sw (core_assign (L _ rfl)) ⟨rfl, trivial⟩ trivial ?_
              refine seq_nil ⟨[(1, _), (4, _), (6, _), (7, _)], [(4, _), (6, _), (7, _)], ⟨rfl, rfl, rfl, rfl, trivial⟩, ⟨rfl, rfl, rfl, trivial⟩, ?_⟩
              refine exr ?_
              refine sw (core_move (L _ rfl)) ⟨rfl, trivial⟩ trivial ?_
              refine sw (core_gtr (L _ rfl)) ⟨rfl, rfl, trivial⟩ trivial ?_
              refine seq_nil ⟨[(1, _), (4, _), (6, _), (7, _), (55, _)], [(4, _), (6, _), (7, _)], ⟨rfl, rfl, rfl, rfl, rfl, trivial⟩, ⟨rfl, rfl, rfl, trivial⟩, ?_⟩
              refine ex_if rfl (fun hr => ?_) (fun hr => ?_)
              · have hr := dt hr
                refine exr0 ?_
                refine sw (core_loadP Tryd.isAgg24 Tryd.sizeOf24 (by rfl) (by exact (.cons (.cons .nil))) rfl (L _ rfl)) ⟨rfl, trivial⟩ ⟨rfl, trivial⟩ ?_
                refine sw (core_loadP Tryd.isAgg24 Tryd.sizeOf24 (by rfl) (by exact (.cons (.cons .nil))) rfl (L _ rfl)) ⟨rfl, trivial⟩ ⟨rfl, trivial⟩ ?_
                refine sw (core_call (E := E) hG hX Tryd.call40 rfl hN (rmulZ (A ^ e) (A ^ e) (by omega) (by omega)) (L _ rfl)) ⟨rfl, rfl, trivial⟩ trivial ?_
                refine sb (core_storeM Tryd.sizeOf24 (by rfl) (.pagg (.cons (.cons .nil))) rfl (.put (.put .here))) ⟨rfl, rfl, trivial⟩ ⟨rfl, trivial⟩ ?_
                refine seq_nil ?_
                exact ⟨(k / 2, (if k % 2 = 1 then f + e else f), (if 1 < k then e + e else e)), ⟨pow_step (by omega) hk, by simp only; split <;> omega, by simp only; split <;> omega, by simp only; omega⟩, (by simp only; omega), le_of ⟨(by first | exact rfl | exact oi (by omega) rfl), rfl, rfl, rfl, trivial⟩ ⟨rfl, obl rfl (by simp only; rw [if_pos (show 1 < k by omega), Int.pow_add]), rfl, trivial⟩⟩
              · have hr := df hr
                refine ex_skip ?_
                exact ⟨(k / 2, (if k % 2 = 1 then f + e else f), (if 1 < k then e + e else e)), ⟨pow_step (by omega) hk, by simp only; split <;> omega, by simp only; split <;> omega, by simp only; omega⟩, (by simp only; omega), le_of ⟨(by first | exact rfl | exact oi (by omega) rfl), rfl, rfl, rfl, trivial⟩ ⟨rfl, obl rfl (by simp only; rw [if_neg (show ¬ 1 < k by omega)]), rfl, trivial⟩⟩
          · have hg := df hg
            have hk0 : k = 0 := by omega
            subst hk0
            have hfN : f = M := by omega
            rw [hfN]
            refine ex_exit (show Exec _ _ _ _ _ from ?_)
            refine exr ?_
            refine sw (core_loadP Tryd.isAgg24 Tryd.sizeOf24 (by rfl) (by exact (.cons (.cons .nil))) rfl (L _ rfl)) ⟨rfl, trivial⟩ ⟨rfl, trivial⟩ ?_
            refine sb (core_storeM Tryd.sizeOf24 (by rfl) (.pagg (.cons (.cons .nil))) rfl (.put (.put .here))) ⟨rfl, rfl, trivial⟩ ⟨rfl, trivial⟩ ?_
            refine sw (core_assign (L _ rfl)) ⟨rfl, trivial⟩ trivial ?_
            refine seq_nil ⟨[(4, _), (5, _)], [(4, _)], ⟨rfl, rfl, trivial⟩, ⟨rfl, trivial⟩, ?_⟩
            refine ex_ret ?_
            refine ⟨.inr rfl, ResVs.cast (.cons (.agg rfl rfl rfl Tryd.isAgg24 Tryd.sizeOf24 (.cons (.cons .nil))) (.cons (.tmp rfl) .nil)) ?_⟩
            rfl

end Go.Proofs.YtebkelnibecmjaaDoor.N
namespace Go.Proofs.YtebkelnibecmjaaDoor.N
open Go Go.Proofs.YtebkelnibecmjaaDoor.SH Go.Proofs.YtebkelnibecmjaaDoor.NumA
/-- Bit by bit. -/
structure SqAt (a : Int) (x : Nat × Int) : Prop where
  r0 : 0 ≤ x.2
  le : x.2 * x.2 ≤ a
  lt : a < (x.2 + 2 ^ x.1) * (x.2 + 2 ^ x.1)
theorem SqAt.start {a : Int} (h : 0 ≤ a) : SqAt a (bl a.natAbs / 2 + 1, 0) := by
  refine ⟨Int.le_refl 0, by simpa using h, ?_⟩
  simp only [Int.zero_add]
  rw [← Int.pow_add]
  have h1 := bl_lt a.natAbs
  have h2 : 2 ^ bl a.natAbs ≤ 2 ^ (bl a.natAbs / 2 + 1 + (bl a.natAbs / 2 + 1)) := Nat.pow_le_pow_right (by decide) (by omega)
  have h3 : ((a.natAbs : Nat) : Int) < ((2 ^ (bl a.natAbs / 2 + 1 + (bl a.natAbs / 2 + 1)) : Nat) : Int) := Int.ofNat_lt.2 (by omega)
  rw [Int.natCast_pow] at h3
  have : ((a.natAbs : Nat) : Int) = a := by omega
  rw [this] at h3; exact h3
theorem SqAt.yes {a r : Int} {k : Nat} (h : SqAt a (k + 1, r)) (hk : (r + 2 ^ k) * (r + 2 ^ k) ≤ a) : SqAt a (k, r + 2 ^ k) := by
  have h1 := h.lt
  have h0 := h.r0
  simp only at h1 h0
  have hp : (0 : Int) < 2 ^ k := Int.pow_pos (by decide)
  refine ⟨by simp only; omega, hk, ?_⟩
  simp only
  have e : r + 2 ^ k + 2 ^ k = r + 2 ^ (k + 1) := by rw [Int.pow_succ]; omega
  rw [e]; exact h1
theorem SqAt.no {a r : Int} {k : Nat} (h : SqAt a (k + 1, r)) (hk : ¬ (r + 2 ^ k) * (r + 2 ^ k) ≤ a) : SqAt a (k, r) := ⟨h.r0, h.le, by simp only; omega⟩
theorem SqAt.done {a r : Int} (h : SqAt a (0, r)) : IsSq a r := ⟨h.r0, h.le, by have := h.lt; simpa using this⟩
theorem two_nw (k : Nat) : nw ((2 : Int) ^ k) ≤ k + 1 := by
  apply nw_le
  rw [Int.natAbs_pow]
  have h1 : (2 : Nat) ^ k < 2 ^ (k + 1) := Nat.pow_lt_pow_right (by decide) (by omega)
  have h2 : (2 : Nat) ^ (k + 1) ≤ 4294967296 ^ (k + 1) := Nat.pow_le_pow_left (by decide) _
  have h3 : ((2 ^ k : Nat) : Int) < ((4294967296 ^ (k + 1) : Nat) : Int) := Int.ofNat_lt.2 (by omega)
  rw [Int.natCast_pow (4294967296)] at h3
  exact h3
theorem rshiftT (k : Nat) (hk : k < 100000000) : Says E 74 [.sl 1 [.a (.int .u32 1)], vZ k] (pW (digs ((2 : Int) ^ k).toNat)) := by
  have := (rshifted_says [1] k (by simp) (fun w hw => by rw [List.mem_singleton] at hw; subst hw; decide) hk).data
  rwa [show val [1] * 2 ^ k = (2 : Int) ^ k by simp [val]] at this
theorem dnw {n : Int} (h : 0 ≤ n) : (digs n.toNat).length = nw n := by unfold nw; congr 2; omega
theorem vdn {n : Int} (h : 0 ≤ n) : val (digs n.toNat) = n := by rw [val_digs]; omega
theorem bl_le_nw' (a : Int) : bl a.natAbs ≤ 32 * nw a := by
  rw [bl_spec, Nat.pow_mul]
  have h1 := nw_lt (a := a)
  have : ((a.natAbs : Nat) : Int) < ((4294967296 ^ nw a : Nat) : Int) := by rw [Int.natCast_pow]; exact h1
  exact Int.ofNat_lt.1 this
set_option maxRecDepth 100000 in
set_option maxHeartbeats 4000000 in
theorem rsqrt_says (m : Bool) (ws : List Int) (hl : ws.length < 30000) (h : Wd ws) : Says E 44 [pI m ws] (.tup [pZ (if canon m ws = true then if sg m (val ws) < 0 then 0 else sqZ (sg m (val ws)) else 0), vZ (if canon m ws = true then if sg m (val ws) < 0 then 1 else 0 else 3)]) := by
  refine says_of (xs := [pZ (if canon m ws = true then if sg m (val ws) < 0 then 0 else sqZ (sg m (val ws)) else 0), vZ (if canon m ws = true then if sg m (val ws) < 0 then 1 else 0 else 3)]) Tryd.func44 rfl Tryd.ntmps44 Tryd.results44 (by simp) fun F hG hX0 hnt hdf P0 => ?_
  have L := ltn hnt
  have hX : ∀ b, F.X b → E.ng ≤ b := fun b h => absurd h (hX0 b)
  have hN := ng_le hG
  have hv := val_nonneg h
  have hnw : nw (sg m (val ws)) < 30000 := by have := nw_val (m := m) h; omega
  refine exr ?_
  refine swb (core_box (k := 1) (n := 2) (.pagg (.cons (.cons .nil))) rfl rfl (P0 _ rfl) (L _ rfl)) ⟨rfl, trivial⟩ trivial ⟨rfl, rfl⟩ ?_
  refine swb (core_alloc (k := 2) (n := 2) Tryd.zeroValue24 (.cons rfl (.cons rfl .nil)) rfl (P0 _ rfl) (L _ rfl)) trivial trivial ⟨rfl, rfl⟩ ?_
  refine sw (core_assign (L _ rfl)) ⟨rfl, trivial⟩ trivial ?_
  refine seq_nil ⟨[(1, _), (2, _)], [(1, _), (2, _)], ⟨rfl, rfl, trivial⟩, ⟨rfl, rfl, trivial⟩, ?_⟩
  refine ex_seq ?_
  refine exr ?_
  refine sw (core_loadP Tryd.isAgg24 Tryd.sizeOf24 (by rfl) (by exact (.cons (.cons .nil))) rfl (L _ rfl)) ⟨rfl, trivial⟩ ⟨rfl, trivial⟩ ?_
  refine sw (core_call (E := E) hG hX Tryd.call17 rfl hN (ris_says m ws (by omega)) (L _ rfl)) ⟨rfl, trivial⟩ trivial ?_
  refine sw (core_not (L _ rfl)) ⟨rfl, trivial⟩ trivial ?_
  refine seq_nil ⟨[(1, _), (2, _), (9, _)], [(1, _), (2, _)], ⟨rfl, rfl, rfl, trivial⟩, ⟨rfl, rfl, trivial⟩, ?_⟩
  refine ex_if rfl (fun hc => ?_) (fun hc => ?_)
  · have hc : ¬ canon m ws = true := by simpa using hc
    refine exr ?_
    refine sw (core_pc (core_buildP (vs := []) Tryd.underlying24 Tryd.zeroValue24 (.cons rfl (.cons rfl .nil)) ((Places.cons Tryd.sizeOf4 (Places.cons Tryd.sizeOf22 Places.nil))).to rfl .nil (.cons (.cons .nil)) (L _ rfl)) (.agg (.cons .same (.cons .nil .nil)))) trivial trivial ?_
    refine sb (core_storeM Tryd.sizeOf24 (by rfl) (.pagg (.cons (.cons .nil))) rfl (.put (.put .here))) ⟨rfl, rfl, trivial⟩ ⟨rfl, trivial⟩ ?_
    refine sw (core_assign (L _ rfl)) ⟨rfl, trivial⟩ trivial ?_
    refine seq_nil ⟨[(2, _), (3, _)], [(2, _)], ⟨rfl, rfl, trivial⟩, ⟨rfl, trivial⟩, ?_⟩
    refine ex_ret ?_
    refine ⟨.inr rfl, ResVs.cast (.cons (.agg rfl rfl rfl Tryd.isAgg24 Tryd.sizeOf24 (.cons (.cons .nil))) (.cons (.tmp rfl) .nil)) ?_⟩
    rw [if_neg hc, if_neg hc, pZ_zero]; rfl
  · have hc : canon m ws = true := by simpa using hc
    rw [if_pos hc, if_pos hc]
    have hce := canon_tr hc
    refine ex_skip (show Exec _ _ _ _ _ from ?_)
    refine ex_seq ?_
    refine exr ?_
    refine sw (core_fieldAddr Tryd.underlying24 rfl Tryd.sizeOf4 (by decide) (by exact rfl) (L _ rfl)) ⟨rfl, trivial⟩ ⟨rfl, trivial⟩ ?_
    refine sw (core_load1 Tryd.isAgg4 (by rfl) (by rfl) (L _ rfl)) ⟨rfl, trivial⟩ ⟨rfl, trivial⟩ ?_
    refine seq_nil ⟨[(1, _), (2, _), (12, _)], [(1, _), (2, _)], ⟨rfl, rfl, rfl, trivial⟩, ⟨rfl, rfl, trivial⟩, ?_⟩
    refine ex_if rfl (fun hm => ?_) (fun hm => ?_)
    · have hpos : 0 < val ws := by
        have : ws ≠ [] := fun e => by have := hce.2 e; rw [hm] at this; cases this
        exact val_pos h hce.1 (fun e => this (List.eq_nil_of_length_eq_zero e))
      refine exr ?_
      refine sw (core_pc (core_buildP (vs := []) Tryd.underlying24 Tryd.zeroValue24 (.cons rfl (.cons rfl .nil)) ((Places.cons Tryd.sizeOf4 (Places.cons Tryd.sizeOf22 Places.nil))).to rfl .nil (.cons (.cons .nil)) (L _ rfl)) (.agg (.cons .same (.cons .nil .nil)))) trivial trivial ?_
      refine sb (core_storeM Tryd.sizeOf24 (by rfl) (.pagg (.cons (.cons .nil))) rfl (.put (.put .here))) ⟨rfl, rfl, trivial⟩ ⟨rfl, trivial⟩ ?_
      refine sw (core_assign (L _ rfl)) ⟨rfl, trivial⟩ trivial ?_
      refine seq_nil ⟨[(2, _), (3, _)], [(2, _)], ⟨rfl, rfl, trivial⟩, ⟨rfl, trivial⟩, ?_⟩
      refine ex_ret ?_
      refine ⟨.inr rfl, ResVs.cast (.cons (.agg rfl rfl rfl Tryd.isAgg24 Tryd.sizeOf24 (.cons (.cons .nil))) (.cons (.tmp rfl) .nil)) ?_⟩
      rw [hm, if_pos (by simp only [sg, if_true]; omega), if_pos (by simp only [sg, if_true]; omega), pZ_zero]; rfl
    · have ea : sg m (val ws) = val ws := by rw [hm]; rfl
      rw [ea] at hnw ⊢
      rw [if_neg (by omega), if_neg (by omega)]
      have e1 : (val ws).toNat = (val ws).natAbs := by omega
      have hbl := bl_le_nw' (val ws)
      obtain ⟨B, hB⟩ : ∃ B, B = bl (val ws).natAbs / 2 := ⟨_, rfl⟩
      refine ex_skip (show Exec _ _ _ _ _ from ?_)
      refine exr ?_
      refine sw (core_assign (L _ rfl)) ⟨rfl, trivial⟩ trivial ?_
      refine seq_nil ⟨[(1, _), (2, _), (4, _)], [(1, _), (2, _)], ⟨rfl, rfl, rfl, trivial⟩, ⟨rfl, rfl, trivial⟩, ?_⟩
      refine ex_seq ?_
      refine exr ?_
      refine sw (core_fieldAddr Tryd.underlying24 rfl Tryd.sizeOf22 (by decide) (by exact rfl) (L _ rfl)) ⟨rfl, trivial⟩ ⟨rfl, trivial⟩ ?_
      refine sw (core_load1 Tryd.isAgg22 (by rfl) (by rfl) (L _ rfl)) ⟨rfl, trivial⟩ ⟨rfl, trivial⟩ ?_
      refine sw (core_call (E := E) hG hX Tryd.call58 rfl hN (rbitsOf_says ws (by omega) h hce.1) (L _ rfl)) ⟨rfl, trivial⟩ trivial ?_
      refine sw (core_quo (L _ rfl) (by decide) (tdiv64 (show _ = ((B : Nat) : Int) by rw [e1, hB]; omega))) ⟨rfl, rfl, trivial⟩ trivial ?_
      refine sw (core_assign (L _ rfl)) ⟨rfl, trivial⟩ trivial ?_
      refine seq_nil ⟨[(1, _), (2, _), (4, _), (5, _)], [(1, _), (2, _)], ⟨rfl, rfl, rfl, rfl, trivial⟩, ⟨rfl, rfl, trivial⟩, ?_⟩
      refine ex_block ?_
      refine ex_cv [] (sl := [(1, _), (2, _), (4, _), (5, _)]) (hb := [(1, _), (2, _)]) (own_none hX0) ⟨⟨_, rfl, .same⟩, ⟨_, rfl, .same⟩, ⟨_, rfl, (.p .nil)⟩, ⟨_, rfl, .same⟩, trivial⟩ ⟨⟨rfl, _, rfl, .same⟩, ⟨rfl, _, rfl, .same⟩, trivial⟩ ?_
      refine exl (α := (Nat × Int)) (fun x => [(5, vi ((x.1 : Int) - 1)), (4, .p (pW (digs x.2.toNat)))]) (fun x => []) (fun x => SqAt (val ws) x ∧ x.1 ≤ B + 1) (fun x => x.1) ((B + 1, (0 : Int))) (sl := [(1, _), (2, _)]) (hb := [(1, _), (2, _)]) ?_ ⟨(by first | exact rfl | exact oi (by omega) rfl), ov rfl (by simp [digs_zero, encW]), rfl, rfl, trivial⟩ ⟨rfl, rfl, trivial⟩ ?_
      · exact ⟨by rw [hB]; exact SqAt.start hv, Nat.le_refl _⟩
      intro x hx
      obtain ⟨j, r⟩ := x
      obtain ⟨hx, hjB⟩ := hx
      simp only at hjB
      dsimp only
      have r0 := hx.r0
      have rle := hx.le
      simp only at r0 rle
      refine ex_seq ?_
      refine exr ?_
      refine sw (core_move (L _ rfl)) ⟨rfl, trivial⟩ trivial ?_
      refine sw (core_geq (L _ rfl)) ⟨rfl, rfl, trivial⟩ trivial ?_
      refine seq_nil ⟨[(1, _), (2, _), (4, _), (5, _), (19, _)], [(1, _), (2, _)], ⟨rfl, rfl, rfl, rfl, rfl, trivial⟩, ⟨rfl, rfl, trivial⟩, ?_⟩
      refine ex_if rfl (fun he => ?_) (fun he => ?_)
      · have he := dt he
        obtain ⟨k, rfl⟩ : ∃ k, j = k + 1 := ⟨j - 1, by omega⟩
        have ek : (((k + 1 : Nat) : Int) - 1) = (k : Int) := by omega
        rw [ek]
        have hp : (0 : Int) < 2 ^ k := Int.pow_pos (by decide)
        have k1 := two_nw k
        have k2 : nw r ≤ nw (val ws) := nw_mono (by
          have : r * r ≥ r ∨ r = 0 := by
            by_cases e : r = 0
            · exact .inr e
            · left
              have := Int.mul_le_mul_of_nonneg_left (show (1 : Int) ≤ r by omega) r0
              omega
          rcases this with h | h <;> omega)
        have k3 := nw_add r (2 ^ k)
        have d1 := dnw r0
        have d2 := dnw (Int.le_of_lt hp)
        have d3 := dnw (n := r + 2 ^ k) (by omega)
        have d4 := dnw (n := (r + 2 ^ k) * (r + 2 ^ k)) (Int.mul_nonneg (by omega) (by omega))
        have k4 := nw_mul (r + 2 ^ k) (r + 2 ^ k)
        have a1 := radd_says (digs r.toNat) (digs ((2 : Int) ^ k).toNat) (by omega) (by omega) (wd_digs _) (wd_digs _)
        rw [vdn r0, vdn (Int.le_of_lt hp)] at a1
        have a2 := rmul_says (digs (r + 2 ^ k).toNat) (digs (r + 2 ^ k).toNat) (by omega) (by omega) (wd_digs _) (wd_digs _)
        rw [vdn (n := r + 2 ^ k) (by omega)] at a2
        have a3 := rcmp_says (digs ((r + 2 ^ k) * (r + 2 ^ k)).toNat) ws (by omega) (by omega) (wd_digs _) h (digs_tr _) hce.1
        rw [vdn (n := (r + 2 ^ k) * (r + 2 ^ k)) (Int.mul_nonneg (by omega) (by omega))] at a3
        refine ex_skip (show Exec _ _ _ _ _ from ?_)
        refine ex_seq ?_
        refine ex_block ?_
        refine exr ?_
        refine sw (core_move (L _ rfl)) ⟨rfl, trivial⟩ trivial ?_
        refine sw (core_bsI (vs := [_]) Tryd.underlying22 Tryd.typeInfo53 rfl rfl (by decide) (by decide) rfl (zs_made (.cons rfl .nil) rfl) rfl (.cons rfl (.atom rfl) rfl (.put .here) .nil) (.cons .nil) (L _ rfl)) ⟨rfl, trivial⟩ trivial ?_
        refine sw (core_move (L _ rfl)) ⟨rfl, trivial⟩ trivial ?_
        refine sw (core_call (E := E) hG hX Tryd.call74 rfl hN (rshiftT k (by omega)) (L _ rfl)) ⟨rfl, rfl, trivial⟩ trivial ?_
        refine sw (core_call (E := E) hG hX Tryd.call67 rfl hN a1 (L _ rfl)) ⟨rfl, rfl, trivial⟩ trivial ?_
        refine sw (core_assign (L _ rfl)) ⟨rfl, trivial⟩ trivial ?_
        refine seq_nil ⟨[(1, _), (2, _), (4, _), (5, _), (6, _)], [(1, _), (2, _)], ⟨rfl, rfl, rfl, rfl, rfl, trivial⟩, ⟨rfl, rfl, trivial⟩, ?_⟩
        refine exd (by rfl) ?_
        refine sw (core_move (L _ rfl)) ⟨rfl, trivial⟩ trivial ?_
        refine sw (core_move (L _ rfl)) ⟨rfl, trivial⟩ trivial ?_
        refine sw (core_call (E := E) hG hX Tryd.call72 rfl hN a2 (L _ rfl)) ⟨rfl, rfl, trivial⟩ trivial ?_
        refine sw (core_fieldAddr Tryd.underlying24 rfl Tryd.sizeOf22 (by decide) (by exact rfl) (L _ rfl)) ⟨rfl, trivial⟩ ⟨rfl, trivial⟩ ?_
        refine sw (core_load1 Tryd.isAgg22 (by rfl) (by rfl) (L _ rfl)) ⟨rfl, trivial⟩ ⟨rfl, trivial⟩ ?_
        refine sw (core_call (E := E) hG hX Tryd.call61 rfl hN a3 (L _ rfl)) ⟨rfl, rfl, trivial⟩ trivial ?_
        refine sw (core_leq (L _ rfl)) ⟨rfl, rfl, trivial⟩ trivial ?_
        refine seq_nil ⟨aoks [⟨[6], [], [27], []⟩, ⟨[6], [], [28], []⟩, ⟨[27, 28], [], [29], []⟩, ⟨[1], [1], [30], []⟩, ⟨[30], [1], [31], []⟩, ⟨[29, 31], [], [32], []⟩, ⟨[32], [], [33], []⟩] (by rfl) (by rfl) (by decide), [(1, _), (2, _), (4, _), (5, _), (6, _), (33, _)], [(1, _), (2, _)], ⟨rfl, rfl, rfl, rfl, rfl, rfl, trivial⟩, ⟨rfl, rfl, trivial⟩, ?_⟩
        refine ex_if rfl (fun hq => ?_) (fun hq => ?_)
        · have hq := dt hq
          have hle : (r + 2 ^ k) * (r + 2 ^ k) ≤ val ws := by
            have := sign3 ((r + 2 ^ k) * (r + 2 ^ k) - val ws)
            rw [← cz] at this; omega
          refine exr0 ?_
          refine sw (core_move (L _ rfl)) ⟨rfl, trivial⟩ trivial ?_
          refine sw (core_assign (L _ rfl)) ⟨rfl, trivial⟩ trivial ?_
          refine seq_nil ?_
          refine exr0 ?_
          refine sw (core_move (L _ rfl)) ⟨rfl, trivial⟩ trivial ?_
          refine sw (core_sub (L _ rfl) (w64 (by omega) (by omega))) ⟨rfl, rfl, trivial⟩ trivial ?_
          refine sw (core_assign (L _ rfl)) ⟨rfl, trivial⟩ trivial ?_
          refine seq_nil ?_
          exact ⟨(k, r + 2 ^ k), ⟨hx.yes hle, by simp only; omega⟩, (by simp only; omega), le_of ⟨(by first | exact rfl | exact oi (by omega) rfl), (by first | exact rfl | exact oi (by omega) rfl), rfl, rfl, trivial⟩ ⟨rfl, rfl, trivial⟩⟩
        · have hq := df hq
          have hle : ¬ (r + 2 ^ k) * (r + 2 ^ k) ≤ val ws := by
            have := sign3 ((r + 2 ^ k) * (r + 2 ^ k) - val ws)
            rw [← cz] at this; omega
          refine ex_skip (show Exec _ _ _ _ _ from ?_)
          refine exr0 ?_
          refine sw (core_move (L _ rfl)) ⟨rfl, trivial⟩ trivial ?_
          refine sw (core_sub (L _ rfl) (w64 (by omega) (by omega))) ⟨rfl, rfl, trivial⟩ trivial ?_
          refine sw (core_assign (L _ rfl)) ⟨rfl, trivial⟩ trivial ?_
          refine seq_nil ?_
          exact ⟨(k, r), ⟨hx.no hle, by simp only; omega⟩, (by simp only; omega), le_of ⟨(by first | exact rfl | exact oi (by omega) rfl), (by first | exact rfl | exact oi (by omega) rfl), rfl, rfl, trivial⟩ ⟨rfl, rfl, trivial⟩⟩
      · have he := df he
        have hj0 : j = 0 := by omega
        subst hj0
        have hsq := hx.done
        have d1 := dnw r0
        have k2 : nw r ≤ nw (val ws) := nw_mono (by
          have : r * r ≥ r ∨ r = 0 := by
            by_cases e : r = 0
            · exact .inr e
            · left
              have := Int.mul_le_mul_of_nonneg_left (show (1 : Int) ≤ r by omega) r0
              omega
          rcases this with h | h <;> omega)
        have a4 := rmade_says false (digs r.toNat) (by omega) (wd_digs _)
        rw [vdn r0] at a4
        refine ex_exit (show Exec _ _ _ _ _ from ?_)
        refine exr ?_
        refine sw (core_move (L _ rfl)) ⟨rfl, trivial⟩ trivial ?_
        refine sw (core_call (E := E) hG hX Tryd.call56 rfl hN a4 (L _ rfl)) ⟨rfl, rfl, trivial⟩ trivial ?_
        refine sb (core_storeM Tryd.sizeOf24 (by rfl) (.pagg (.cons (.cons .nil))) rfl (.put (.put .here))) ⟨rfl, rfl, trivial⟩ ⟨rfl, trivial⟩ ?_
        refine sw (core_assign (L _ rfl)) ⟨rfl, trivial⟩ trivial ?_
        refine seq_nil ⟨[(2, _), (3, _)], [(2, _)], ⟨rfl, rfl, trivial⟩, ⟨rfl, trivial⟩, ?_⟩
        refine ex_ret ?_
        refine ⟨.inr rfl, ResVs.cast (.cons (.agg rfl rfl rfl Tryd.isAgg24 Tryd.sizeOf24 (.cons (.cons .nil))) (.cons (.tmp rfl) .nil)) ?_⟩
        rw [sqZ_eq hsq]; rfl

end Go.Proofs.YtebkelnibecmjaaDoor.N
