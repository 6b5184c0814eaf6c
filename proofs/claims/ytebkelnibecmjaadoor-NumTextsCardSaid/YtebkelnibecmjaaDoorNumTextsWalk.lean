/- Part NumTextsWalk of the proof: lemmas for the walks of the given functions. No statement of its own. -/
import Derived.Test.YtebkelnibecmjaaDoorSpec
set_option linter.unusedVariables false
set_option linter.unusedSimpArgs false
set_option linter.deprecated false
namespace Go.Proofs.YtebkelnibecmjaaDoor.N
open Go Go.Proofs.YtebkelnibecmjaaDoor.SH Go.Proofs.YtebkelnibecmjaaDoor.NumA
theorem nw_parse' (bs : List UInt8) : nw (parseV bs) ≤ bs.length := by
  unfold parseV
  split
  · rename_i h
    have hd : Digits (pDs bs) := by
      rw [parseE] at h
      split at h
      · omega
      · rename_i hb
        by_cases hd : Digits (pDs bs)
        · exact hd
        · exact absurd (.inr hd) hb
    have hl : (pDs bs).length ≤ bs.length := by unfold pDs; split <;> simp
    obtain ⟨b0, b1⟩ := numI_bd hd
    apply nw_le
    have h1 : (sg (pNeg bs) (numI (pDs bs))).natAbs = (numI (pDs bs)).toNat := by unfold sg; split <;> omega
    have h2 : (10 : Nat) ^ (pDs bs).length ≤ 4294967296 ^ (pDs bs).length := Nat.pow_le_pow_left (by decide) _
    have h3 : (4294967296 : Nat) ^ (pDs bs).length ≤ 4294967296 ^ bs.length := Nat.pow_le_pow_right (by decide) hl
    have h4 : ((10 ^ (pDs bs).length : Nat) : Int) ≤ ((4294967296 ^ bs.length : Nat) : Int) := Int.ofNat_le.2 (Nat.le_trans h2 h3)
    rw [Int.natCast_pow, Int.natCast_pow] at h4
    rw [h1, Int.toNat_of_nonneg b0]
    exact Int.lt_of_lt_of_le b1 h4
  · rw [nw_zero.2 rfl]; exact Nat.zero_le _
theorem q4 (a b c : Prop) : ¬ a ∨ (a ∧ b ∧ c) ∨ (a ∧ b ∧ ¬ c) ∨ (a ∧ ¬ b) := by
  by_cases ha : a
  · by_cases hb : b
    · by_cases hc : c
      · exact .inr (.inl ⟨ha, hb, hc⟩)
      · exact .inr (.inr (.inl ⟨ha, hb, hc⟩))
    · exact .inr (.inr (.inr ⟨ha, hb⟩))
  · exact .inl ha
set_option maxRecDepth 100000 in
set_option maxHeartbeats 4000000 in
theorem texts_says0 (bs : List UInt8) (m : Bool) (ws : List Int) (h : Wd ws) : Says E 6 [pS bs, pI m ws] (bZ true) := by
  refine says_of (xs := [bZ true]) Tryd.func6 rfl Tryd.ntmps6 Tryd.results6 (by simp) fun F hG hX0 hnt hdf P0 => ?_
  have L := ltn hnt
  have hX : ∀ b, F.X b → E.ng ≤ b := fun b h => absurd h (hX0 b)
  have hN := ng_le hG
  have hsz := str_size bs
  refine exr ?_
  refine swb (core_box (k := 3) (n := 2) (.pagg (.cons (.cons .nil))) rfl rfl (P0 _ rfl) (L _ rfl)) ⟨rfl, trivial⟩ trivial ⟨rfl, rfl⟩ ?_
  refine sw (core_assign (L _ rfl)) ⟨rfl, trivial⟩ trivial ?_
  refine seq_nil ⟨[(0, _), (3, _)], [(3, _)], ⟨rfl, rfl, trivial⟩, ⟨rfl, trivial⟩, ?_⟩
  refine ex_seq ?_
  refine exm (sl := [(28, vb (decide (¬ (ws.length : Int) ≤ 200 ∨ ((3000 : Int) < bs.length ∧ (bs.length : Int) ≤ 20001) ∨ (40000 : Int) < bs.length)))]) (sl0 := [(0, _), (3, _)]) (hb := []) (hb0 := [(3, _)]) ⟨rfl, rfl, trivial⟩ ⟨rfl, trivial⟩ ?_ ?_
  · rcases q4 ((ws.length : Int) ≤ 200) ((3000 : Int) < bs.length) ((bs.length : Int) ≤ 20001) with h1 | ⟨h1, h2, h3⟩ | ⟨h1, h2, h3⟩ | ⟨h1, h2⟩
    · refine sw (core_loadP Tryd.isAgg24 Tryd.sizeOf24 (by rfl) (by exact (.cons (.cons .nil))) rfl (L _ rfl)) ⟨rfl, trivial⟩ ⟨rfl, trivial⟩ ?_
      refine sw (core_loadP Tryd.isAgg24 Tryd.sizeOf24 (by rfl) (by exact (.cons (.cons .nil))) rfl (L _ rfl)) ⟨rfl, trivial⟩ ⟨rfl, trivial⟩ ?_
      refine sw (core_loadP Tryd.isAgg24 Tryd.sizeOf24 (by rfl) (by exact (.cons (.cons .nil))) rfl (L _ rfl)) ⟨rfl, trivial⟩ ⟨rfl, trivial⟩ ?_
      refine sw (core_call (E := E) hG hX Tryd.call12 rfl hN (lshort_says 200 m m m ws ws ws) (L _ rfl)) ⟨rfl, rfl, rfl, rfl, trivial⟩ trivial ?_
      refine sw (core_not (L _ rfl)) ⟨rfl, trivial⟩ trivial ?_
      refine sw (core_move (L _ rfl)) ⟨rfl, trivial⟩ trivial ?_
      refine swn (g := 14) rfl (by simp; omega) (L _ rfl) rfl ?_
      refine swn (g := 14) rfl (by simp; omega) (L _ rfl) rfl ?_
      refine swn (g := 14) rfl (by simp; omega) (L _ rfl) rfl ?_
      refine swn (g := 14) rfl (by simp; omega) (L _ rfl) rfl ?_
      refine swu (g := 18) rfl (L _ rfl) rfl ?_
      refine swu (g := 18) rfl (L _ rfl) rfl ?_
      refine swu (g := 18) rfl (L _ rfl) rfl ?_
      refine swn (g := 14) rfl (by simp; omega) (L _ rfl) rfl ?_
      refine sw (core_pick_t (by simp; omega) (L _ rfl)) ⟨rfl, rfl, trivial⟩ trivial ?_
      refine sw (core_move (L _ rfl)) ⟨rfl, trivial⟩ trivial ?_
      refine swn (g := 24) rfl rfl (L _ rfl) rfl ?_
      refine swn (g := 24) rfl rfl (L _ rfl) rfl ?_
      refine swn (g := 24) rfl rfl (L _ rfl) rfl ?_
      refine sw (core_pick_t rfl (L _ rfl)) ⟨rfl, rfl, trivial⟩ trivial ?_
      exact seq_nil ⟨⟨ob rfl (decide_eq_true (.inl h1)).symm, rfl, rfl, trivial⟩, ⟨rfl, trivial⟩⟩
    · refine sw (core_loadP Tryd.isAgg24 Tryd.sizeOf24 (by rfl) (by exact (.cons (.cons .nil))) rfl (L _ rfl)) ⟨rfl, trivial⟩ ⟨rfl, trivial⟩ ?_
      refine sw (core_loadP Tryd.isAgg24 Tryd.sizeOf24 (by rfl) (by exact (.cons (.cons .nil))) rfl (L _ rfl)) ⟨rfl, trivial⟩ ⟨rfl, trivial⟩ ?_
      refine sw (core_loadP Tryd.isAgg24 Tryd.sizeOf24 (by rfl) (by exact (.cons (.cons .nil))) rfl (L _ rfl)) ⟨rfl, trivial⟩ ⟨rfl, trivial⟩ ?_
      refine sw (core_call (E := E) hG hX Tryd.call12 rfl hN (lshort_says 200 m m m ws ws ws) (L _ rfl)) ⟨rfl, rfl, rfl, rfl, trivial⟩ trivial ?_
      refine sw (core_not (L _ rfl)) ⟨rfl, trivial⟩ trivial ?_
      refine sw (core_move (L _ rfl)) ⟨rfl, trivial⟩ trivial ?_
      refine swg (g := 14) rfl (by simp; omega) (core_move (L _ rfl)) rfl ⟨rfl, trivial⟩ trivial ?_
      refine swg (g := 14) rfl (by simp; omega) (core_lenS Tryd.underlying9 (L _ rfl)) rfl ⟨rfl, trivial⟩ trivial ?_
      refine swg (g := 14) rfl (by simp; omega) (core_gtr (L _ rfl)) rfl ⟨rfl, rfl, trivial⟩ trivial ?_
      refine swg (g := 14) rfl (by simp; omega) (core_move (L _ rfl)) rfl ⟨rfl, trivial⟩ trivial ?_
      refine swg (g := 18) rfl (decide_eq_true (by rw [hsz]; exact h2)) (core_move (L _ rfl)) rfl ⟨rfl, trivial⟩ trivial ?_
      refine swg (g := 18) rfl (decide_eq_true (by rw [hsz]; exact h2)) (core_lenS Tryd.underlying9 (L _ rfl)) rfl ⟨rfl, trivial⟩ trivial ?_
      refine swg (g := 18) rfl (decide_eq_true (by rw [hsz]; exact h2)) (core_leq (L _ rfl)) rfl ⟨rfl, rfl, trivial⟩ trivial ?_
      refine swg (g := 14) rfl (by simp; omega) (core_pick_t (decide_eq_true (by rw [hsz]; exact h2)) (L _ rfl)) rfl ⟨rfl, rfl, trivial⟩ trivial ?_
      refine sw (core_pick_f (by simp; omega) (L _ rfl)) ⟨rfl, rfl, trivial⟩ trivial ?_
      refine sw (core_move (L _ rfl)) ⟨rfl, trivial⟩ trivial ?_
      refine swn (g := 24) rfl (decide_eq_true (by rw [hsz]; exact h3)) (L _ rfl) rfl ?_
      refine swn (g := 24) rfl (decide_eq_true (by rw [hsz]; exact h3)) (L _ rfl) rfl ?_
      refine swn (g := 24) rfl (decide_eq_true (by rw [hsz]; exact h3)) (L _ rfl) rfl ?_
      refine sw (core_pick_t (decide_eq_true (by rw [hsz]; exact h3)) (L _ rfl)) ⟨rfl, rfl, trivial⟩ trivial ?_
      exact seq_nil ⟨⟨ob rfl (decide_eq_true (.inr (.inl ⟨h2, h3⟩))).symm, rfl, rfl, trivial⟩, ⟨rfl, trivial⟩⟩
    · refine sw (core_loadP Tryd.isAgg24 Tryd.sizeOf24 (by rfl) (by exact (.cons (.cons .nil))) rfl (L _ rfl)) ⟨rfl, trivial⟩ ⟨rfl, trivial⟩ ?_
      refine sw (core_loadP Tryd.isAgg24 Tryd.sizeOf24 (by rfl) (by exact (.cons (.cons .nil))) rfl (L _ rfl)) ⟨rfl, trivial⟩ ⟨rfl, trivial⟩ ?_
      refine sw (core_loadP Tryd.isAgg24 Tryd.sizeOf24 (by rfl) (by exact (.cons (.cons .nil))) rfl (L _ rfl)) ⟨rfl, trivial⟩ ⟨rfl, trivial⟩ ?_
      refine sw (core_call (E := E) hG hX Tryd.call12 rfl hN (lshort_says 200 m m m ws ws ws) (L _ rfl)) ⟨rfl, rfl, rfl, rfl, trivial⟩ trivial ?_
      refine sw (core_not (L _ rfl)) ⟨rfl, trivial⟩ trivial ?_
      refine sw (core_move (L _ rfl)) ⟨rfl, trivial⟩ trivial ?_
      refine swg (g := 14) rfl (by simp; omega) (core_move (L _ rfl)) rfl ⟨rfl, trivial⟩ trivial ?_
      refine swg (g := 14) rfl (by simp; omega) (core_lenS Tryd.underlying9 (L _ rfl)) rfl ⟨rfl, trivial⟩ trivial ?_
      refine swg (g := 14) rfl (by simp; omega) (core_gtr (L _ rfl)) rfl ⟨rfl, rfl, trivial⟩ trivial ?_
      refine swg (g := 14) rfl (by simp; omega) (core_move (L _ rfl)) rfl ⟨rfl, trivial⟩ trivial ?_
      refine swg (g := 18) rfl (decide_eq_true (by rw [hsz]; exact h2)) (core_move (L _ rfl)) rfl ⟨rfl, trivial⟩ trivial ?_
      refine swg (g := 18) rfl (decide_eq_true (by rw [hsz]; exact h2)) (core_lenS Tryd.underlying9 (L _ rfl)) rfl ⟨rfl, trivial⟩ trivial ?_
      refine swg (g := 18) rfl (decide_eq_true (by rw [hsz]; exact h2)) (core_leq (L _ rfl)) rfl ⟨rfl, rfl, trivial⟩ trivial ?_
      refine swg (g := 14) rfl (by simp; omega) (core_pick_t (decide_eq_true (by rw [hsz]; exact h2)) (L _ rfl)) rfl ⟨rfl, rfl, trivial⟩ trivial ?_
      refine sw (core_pick_f (by simp; omega) (L _ rfl)) ⟨rfl, rfl, trivial⟩ trivial ?_
      refine sw (core_move (L _ rfl)) ⟨rfl, trivial⟩ trivial ?_
      refine swg (g := 24) rfl (decide_eq_false (by rw [hsz]; exact h3)) (core_move (L _ rfl)) rfl ⟨rfl, trivial⟩ trivial ?_
      refine swg (g := 24) rfl (decide_eq_false (by rw [hsz]; exact h3)) (core_lenS Tryd.underlying9 (L _ rfl)) rfl ⟨rfl, trivial⟩ trivial ?_
      refine swg (g := 24) rfl (decide_eq_false (by rw [hsz]; exact h3)) (core_gtr (L _ rfl)) rfl ⟨rfl, rfl, trivial⟩ trivial ?_
      refine sw (core_pick_f (decide_eq_false (by rw [hsz]; exact h3)) (L _ rfl)) ⟨rfl, rfl, trivial⟩ trivial ?_
      exact seq_nil ⟨⟨ob rfl (dec_eq (by rw [hsz]; omega)), rfl, rfl, trivial⟩, ⟨rfl, trivial⟩⟩
    · refine sw (core_loadP Tryd.isAgg24 Tryd.sizeOf24 (by rfl) (by exact (.cons (.cons .nil))) rfl (L _ rfl)) ⟨rfl, trivial⟩ ⟨rfl, trivial⟩ ?_
      refine sw (core_loadP Tryd.isAgg24 Tryd.sizeOf24 (by rfl) (by exact (.cons (.cons .nil))) rfl (L _ rfl)) ⟨rfl, trivial⟩ ⟨rfl, trivial⟩ ?_
      refine sw (core_loadP Tryd.isAgg24 Tryd.sizeOf24 (by rfl) (by exact (.cons (.cons .nil))) rfl (L _ rfl)) ⟨rfl, trivial⟩ ⟨rfl, trivial⟩ ?_
      refine sw (core_call (E := E) hG hX Tryd.call12 rfl hN (lshort_says 200 m m m ws ws ws) (L _ rfl)) ⟨rfl, rfl, rfl, rfl, trivial⟩ trivial ?_
      refine sw (core_not (L _ rfl)) ⟨rfl, trivial⟩ trivial ?_
      refine sw (core_move (L _ rfl)) ⟨rfl, trivial⟩ trivial ?_
      refine swg (g := 14) rfl (by simp; omega) (core_move (L _ rfl)) rfl ⟨rfl, trivial⟩ trivial ?_
      refine swg (g := 14) rfl (by simp; omega) (core_lenS Tryd.underlying9 (L _ rfl)) rfl ⟨rfl, trivial⟩ trivial ?_
      refine swg (g := 14) rfl (by simp; omega) (core_gtr (L _ rfl)) rfl ⟨rfl, rfl, trivial⟩ trivial ?_
      refine swg (g := 14) rfl (by simp; omega) (core_move (L _ rfl)) rfl ⟨rfl, trivial⟩ trivial ?_
      refine swn (g := 18) rfl (decide_eq_false (by rw [hsz]; exact h2)) (L _ rfl) rfl ?_
      refine swn (g := 18) rfl (decide_eq_false (by rw [hsz]; exact h2)) (L _ rfl) rfl ?_
      refine swn (g := 18) rfl (decide_eq_false (by rw [hsz]; exact h2)) (L _ rfl) rfl ?_
      refine swg (g := 14) rfl (by simp; omega) (core_pick_f (decide_eq_false (by rw [hsz]; exact h2)) (L _ rfl)) rfl ⟨rfl, rfl, trivial⟩ trivial ?_
      refine sw (core_pick_f (by simp; omega) (L _ rfl)) ⟨rfl, rfl, trivial⟩ trivial ?_
      refine sw (core_move (L _ rfl)) ⟨rfl, trivial⟩ trivial ?_
      refine swg (g := 24) rfl rfl (core_move (L _ rfl)) rfl ⟨rfl, trivial⟩ trivial ?_
      refine swg (g := 24) rfl rfl (core_lenS Tryd.underlying9 (L _ rfl)) rfl ⟨rfl, trivial⟩ trivial ?_
      refine swg (g := 24) rfl rfl (core_gtr (L _ rfl)) rfl ⟨rfl, rfl, trivial⟩ trivial ?_
      refine sw (core_pick_f rfl (L _ rfl)) ⟨rfl, rfl, trivial⟩ trivial ?_
      exact seq_nil ⟨⟨ob rfl (dec_eq (by rw [hsz]; omega)), rfl, rfl, trivial⟩, ⟨rfl, trivial⟩⟩
  refine ex_if rfl (fun hc => ?_) (fun hc => ?_)
  · refine exr ?_
    refine sw (core_call (E := E) hG hX Tryd.call13 rfl hN sane_says (L _ rfl)) trivial trivial ?_
    refine sw (core_assign (L _ rfl)) ⟨rfl, trivial⟩ trivial ?_
    refine seq_nil ⟨[(4, _)], [], ⟨rfl, trivial⟩, trivial, ?_⟩
    refine ex_ret ?_
    refine ⟨.inr rfl, ResVs.cast (.cons (.tmp rfl) .nil) ?_⟩
    rfl
  · have hc := df hc
    have l1 : ws.length ≤ 200 := by omega
    have l2 : bs.length ≤ 40000 := by omega
    have hn := nw_parse' bs
    refine ex_skip (show Exec _ _ _ _ _ from ?_)
    refine exr ?_
    refine sw (core_move (L _ rfl)) ⟨rfl, trivial⟩ trivial ?_
    refine sw (core_call (E := E) hG hX Tryd.call47 rfl hN (parse_says bs (by omega)) (L _ rfl)) ⟨rfl, trivial⟩ trivial ?_
    refine sw (core_move (L _ rfl)) ⟨rfl, trivial⟩ trivial ?_
    refine sw (core_extract rfl (L _ rfl)) ⟨rfl, trivial⟩ trivial ?_
    refine sw (core_extract rfl (L _ rfl)) ⟨rfl, trivial⟩ trivial ?_
    refine swb (core_alloc (k := 5) (n := 2) Tryd.zeroValue24 (.cons rfl (.cons rfl .nil)) rfl (P0 _ rfl) (L _ rfl)) trivial trivial ⟨rfl, rfl⟩ ?_
    refine sb (core_storeM Tryd.sizeOf24 (by rfl) (.pagg (.cons (.cons .nil))) rfl (.put (.put .here))) ⟨rfl, rfl, trivial⟩ ⟨rfl, trivial⟩ ?_
    refine sw (core_assign (L _ rfl)) ⟨rfl, trivial⟩ trivial ?_
    refine seq_nil ⟨[(0, _), (3, _), (5, _), (6, _)], [(3, _), (5, _)], ⟨rfl, rfl, rfl, rfl, trivial⟩, ⟨rfl, rfl, trivial⟩, ?_⟩
    refine exr ?_
    refine sw (core_move (L _ rfl)) ⟨rfl, trivial⟩ trivial ?_
    refine sw (core_call (E := E) hG hX Tryd.call48 rfl hN (rparse_says bs (by omega)) (L _ rfl)) ⟨rfl, trivial⟩ trivial ?_
    refine sw (core_move (L _ rfl)) ⟨rfl, trivial⟩ trivial ?_
    refine sw (core_extract rfl (L _ rfl)) ⟨rfl, trivial⟩ trivial ?_
    refine sw (core_extract rfl (L _ rfl)) ⟨rfl, trivial⟩ trivial ?_
    refine swb (core_alloc (k := 7) (n := 2) Tryd.zeroValue24 (.cons rfl (.cons rfl .nil)) rfl (P0 _ rfl) (L _ rfl)) trivial trivial ⟨rfl, rfl⟩ ?_
    refine sb (core_storeM Tryd.sizeOf24 (by rfl) (.pagg (.cons (.cons .nil))) rfl (.put (.put .here))) ⟨rfl, rfl, trivial⟩ ⟨rfl, trivial⟩ ?_
    refine sw (core_assign (L _ rfl)) ⟨rfl, trivial⟩ trivial ?_
    refine seq_nil ⟨[(3, _), (5, _), (6, _), (7, _), (8, _)], [(3, _), (5, _), (7, _)], ⟨rfl, rfl, rfl, rfl, rfl, trivial⟩, ⟨rfl, rfl, rfl, trivial⟩, ?_⟩
    refine exd (by rfl) ?_
    refine sw (core_call (E := E) hG hX Tryd.call13 rfl hN sane_says (L _ rfl)) trivial trivial ?_
    refine sw (core_move (L _ rfl)) ⟨rfl, trivial⟩ trivial ?_
    refine swg (g := 41) rfl (by simp) (core_loadP Tryd.isAgg24 Tryd.sizeOf24 (by rfl) (by exact (.cons (.cons .nil))) rfl (L _ rfl)) rfl ⟨rfl, trivial⟩ ⟨rfl, trivial⟩ ?_
    refine swg (g := 41) rfl (by simp) (core_loadP Tryd.isAgg24 Tryd.sizeOf24 (by rfl) (by exact (.cons (.cons .nil))) rfl (L _ rfl)) rfl ⟨rfl, trivial⟩ ⟨rfl, trivial⟩ ?_
    refine swg (g := 41) rfl (by simp) (core_call (E := E) hG hX Tryd.call18 rfl hN (sameT rfl (by omega)) (L _ rfl)) rfl ⟨rfl, rfl, trivial⟩ trivial ?_
    refine sw (core_pick_t (by simp) (L _ rfl)) ⟨rfl, rfl, trivial⟩ trivial ?_
    refine sw (core_move (L _ rfl)) ⟨rfl, trivial⟩ trivial ?_
    refine swg (g := 46) rfl (by simp) (core_move (L _ rfl)) rfl ⟨rfl, trivial⟩ trivial ?_
    refine swg (g := 46) rfl (by simp) (core_move (L _ rfl)) rfl ⟨rfl, trivial⟩ trivial ?_
    refine swg (g := 46) rfl (by simp) (core_eql (L _ rfl)) rfl ⟨rfl, rfl, trivial⟩ trivial ?_
    refine sw (core_pick_t (by simp) (L _ rfl)) ⟨rfl, rfl, trivial⟩ trivial ?_
    refine sw (core_move (L _ rfl)) ⟨rfl, trivial⟩ trivial ?_
    refine swg (g := 51) rfl (by simp) (core_loadP Tryd.isAgg24 Tryd.sizeOf24 (by rfl) (by exact (.cons (.cons .nil))) rfl (L _ rfl)) rfl ⟨rfl, trivial⟩ ⟨rfl, trivial⟩ ?_
    refine swg (g := 51) rfl (by simp) (core_call (E := E) hG hX Tryd.call49 rfl hN (print_says m ws (by omega) h) (L _ rfl)) rfl ⟨rfl, trivial⟩ trivial ?_
    refine swg (g := 51) rfl (by simp) (core_loadP Tryd.isAgg24 Tryd.sizeOf24 (by rfl) (by exact (.cons (.cons .nil))) rfl (L _ rfl)) rfl ⟨rfl, trivial⟩ ⟨rfl, trivial⟩ ?_
    refine swg (g := 51) rfl (by simp) (core_call (E := E) hG hX Tryd.call50 rfl hN (rprint_says m ws (by omega) h) (L _ rfl)) rfl ⟨rfl, trivial⟩ trivial ?_
    refine swg (g := 51) rfl (by simp) (core_seql (L _ rfl)) rfl ⟨rfl, rfl, trivial⟩ trivial ?_
    refine sw (core_pick_t (by simp) (L _ rfl)) ⟨rfl, rfl, trivial⟩ trivial ?_
    refine sw (core_assign (L _ rfl)) ⟨rfl, trivial⟩ trivial ?_
    refine seq_nil ⟨aoks [⟨[], [], [40], []⟩, ⟨[40], [], [41], []⟩, ⟨[41, 5], [5], [42], []⟩, ⟨[41, 7], [7], [43], []⟩, ⟨[41, 42, 43], [], [44], []⟩, ⟨[41, 44], [], [45], []⟩, ⟨[45], [], [46], []⟩, ⟨[46, 6], [], [47], []⟩, ⟨[46, 8], [], [48], []⟩, ⟨[46, 47, 48], [], [49], []⟩, ⟨[46, 49], [], [50], []⟩, ⟨[50], [], [51], []⟩, ⟨[51, 3], [3], [52], []⟩, ⟨[51, 52], [], [53], []⟩, ⟨[51, 3], [3], [54], []⟩, ⟨[51, 54], [], [55], []⟩, ⟨[51, 53, 55], [], [56], []⟩, ⟨[51, 56], [], [57], []⟩, ⟨[57], [], [4], []⟩] (by rfl) (by rfl) (by decide), [(4, _)], [], ⟨rfl, trivial⟩, trivial, ?_⟩
    refine ex_ret ?_
    refine ⟨.inr rfl, ResVs.cast (.cons (.tmp rfl) .nil) ?_⟩
    simp

theorem texts_says (s : ByteArray) (m : Bool) (ws : List Int) (h : Wd ws) : Says E 6 [.a (.string s), pI m ws] (bZ true) := by
  rw [← str_of s]; exact texts_says0 _ m ws h
end Go.Proofs.YtebkelnibecmjaaDoor.N
