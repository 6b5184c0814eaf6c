/- Part Spec of the proof: lemmas for the walks of the given functions. No statement of its own. -/
import Derived.Test.YtebkelnibecmjaaDoorHelp
import Derived.Test.YtebkelnibecmjaaDoorText
import Derived.Test.YtebkelnibecmjaaDoorLogicB
set_option linter.unusedVariables false
set_option linter.unusedSimpArgs false
set_option linter.deprecated false
namespace Go.Proofs.YtebkelnibecmjaaDoor.N
open Go Go.Proofs.YtebkelnibecmjaaDoor.SH Go.Proofs.YtebkelnibecmjaaDoor.NumA
theorem pcases2 (ds : List UInt8) (neg : Bool) : ds.length = 0 ∨ (ds.length ≠ 0 ∧ ¬ ((ds.getD 0 0).toNat : Int) = 48) ∨ (ds.length ≠ 0 ∧ ((ds.getD 0 0).toNat : Int) = 48 ∧ neg = true) ∨ (ds.length ≠ 0 ∧ ((ds.getD 0 0).toNat : Int) = 48 ∧ neg = false) := by
  by_cases h1 : ds.length = 0
  · exact .inl h1
  · by_cases h2 : ((ds.getD 0 0).toNat : Int) = 48
    · cases neg with
      | true => exact .inr (.inr (.inl ⟨h1, h2, rfl⟩))
      | false => exact .inr (.inr (.inr ⟨h1, h2, rfl⟩))
    · exact .inr (.inl ⟨h1, h2⟩)
theorem str_nil (ds : List UInt8) : ((str ds).data.toList = (⟨#[]⟩ : ByteArray).data.toList) ↔ ds.length = 0 := by
  simp [str]
theorem one_w {d : Int} (h0 : 0 ≤ d) (h1 : d < 4294967296) : Wd [d] := fun w hw => by rw [List.mem_singleton] at hw; subst hw; exact ⟨h0, h1⟩
set_option maxRecDepth 100000 in
set_option maxHeartbeats 4000000 in
theorem rparse_says (bs : List UInt8) (hl : bs.length < 100000) : Says E 48 [pS bs] (.tup [pZ (parseV bs), vZ (parseE bs)]) := by
  refine says_of (xs := [pZ (parseV bs), vZ (parseE bs)]) Tryd.func48 rfl Tryd.ntmps48 Tryd.results48 (by simp) fun F hG hX0 hnt hdf P0 => ?_
  have L := ltn hnt
  have hX : ∀ b, F.X b → E.ng ≤ b := fun b h => absurd h (hX0 b)
  have hN := ng_le hG
  have hsz := str_size bs
  refine exr ?_
  refine swb (core_alloc (k := 2) (n := 2) Tryd.zeroValue24 (.cons rfl (.cons rfl .nil)) rfl (P0 _ rfl) (L _ rfl)) trivial trivial ⟨rfl, rfl⟩ ?_
  refine sw (core_assign (L _ rfl)) ⟨rfl, trivial⟩ trivial ?_
  refine seq_nil ⟨[(0, _), (2, _)], [(2, _)], ⟨rfl, rfl, trivial⟩, ⟨rfl, trivial⟩, ?_⟩
  refine exm (sl := [(4, vb (pNeg bs))]) (sl0 := [(0, _), (2, _)]) (hb := []) (hb0 := [(2, _)]) ⟨rfl, rfl, trivial⟩ ⟨rfl, trivial⟩ ?_ ?_
  · by_cases h0 : 0 < bs.length
    · refine sw (core_move (L _ rfl)) ⟨rfl, trivial⟩ trivial ?_
      refine sw (core_lenS Tryd.underlying9 (L _ rfl)) ⟨rfl, trivial⟩ trivial ?_
      refine sw (core_gtr (L _ rfl)) ⟨rfl, rfl, trivial⟩ trivial ?_
      refine sw (core_move (L _ rfl)) ⟨rfl, trivial⟩ trivial ?_
      refine swg (g := 12) rfl (by rw [hsz]; exact decide_eq_true (by omega)) (core_move (L _ rfl)) rfl ⟨rfl, trivial⟩ trivial ?_
      refine swg (g := 12) rfl (by rw [hsz]; exact decide_eq_true (by omega)) (core_indexS Tryd.underlying9 (by decide) (by exact str_get (i := 0) h0) (L _ rfl)) rfl ⟨rfl, rfl, trivial⟩ trivial ?_
      refine swg (g := 12) rfl (by rw [hsz]; exact decide_eq_true (by omega)) (core_eql (L _ rfl)) rfl ⟨rfl, rfl, trivial⟩ trivial ?_
      refine sw (core_pick_t (by rw [hsz]; exact decide_eq_true (by omega)) (L _ rfl)) ⟨rfl, rfl, trivial⟩ trivial ?_
      refine sw (core_assign (L _ rfl)) ⟨rfl, trivial⟩ trivial ?_
      exact seq_nil ⟨⟨ob rfl (by rw [pNeg]; exact dec_eq ⟨fun c => ⟨h0, c⟩, fun c => c.2⟩), rfl, rfl, trivial⟩, ⟨rfl, trivial⟩⟩
    · refine sw (core_move (L _ rfl)) ⟨rfl, trivial⟩ trivial ?_
      refine sw (core_lenS Tryd.underlying9 (L _ rfl)) ⟨rfl, trivial⟩ trivial ?_
      refine sw (core_gtr (L _ rfl)) ⟨rfl, rfl, trivial⟩ trivial ?_
      refine sw (core_move (L _ rfl)) ⟨rfl, trivial⟩ trivial ?_
      refine swn (g := 12) rfl (by rw [hsz]; exact decide_eq_false (by omega)) (L _ rfl) rfl ?_
      refine swn (g := 12) rfl (by rw [hsz]; exact decide_eq_false (by omega)) (L _ rfl) rfl ?_
      refine swn (g := 12) rfl (by rw [hsz]; exact decide_eq_false (by omega)) (L _ rfl) rfl ?_
      refine sw (core_pick_f (by rw [hsz]; exact decide_eq_false (by omega)) (L _ rfl)) ⟨rfl, rfl, trivial⟩ trivial ?_
      refine sw (core_assign (L _ rfl)) ⟨rfl, trivial⟩ trivial ?_
      exact seq_nil ⟨⟨ob rfl (by rw [pNeg]; exact (decide_eq_false (fun c => h0 c.1)).symm), rfl, rfl, trivial⟩, ⟨rfl, trivial⟩⟩
  obtain ⟨ds, hds⟩ : ∃ ds, ds = pDs bs := ⟨_, rfl⟩
  have hdl : ds.length < 100000 := by rw [hds, pDs]; split <;> (try simp only [List.length_drop]) <;> omega
  obtain ⟨neg, hneg⟩ : ∃ neg, neg = pNeg bs := ⟨_, rfl⟩
  have f3 : (pBad ds neg = true ∨ ¬ Digits ds) → parseV bs = 0 ∧ parseE bs = 3 := fun h => by
    have e : parseE bs = 3 := by rw [parseE, ← hds, ← hneg, if_pos h]
    exact ⟨by rw [parseV, e]; rfl, e⟩
  have f2 : ¬ (pBad ds neg = true ∨ ¬ Digits ds) → 20000 < ds.length → parseV bs = 0 ∧ parseE bs = 2 := fun h h2 => by
    have e : parseE bs = 2 := by rw [parseE, ← hds, ← hneg, if_neg h, if_pos h2]
    exact ⟨by rw [parseV, e]; rfl, e⟩
  have f0 : ¬ (pBad ds neg = true ∨ ¬ Digits ds) → ¬ 20000 < ds.length → parseV bs = sg neg (numI ds) ∧ parseE bs = 0 := fun h h2 => by
    have e : parseE bs = 0 := by rw [parseE, ← hds, ← hneg, if_neg h, if_neg h2]
    exact ⟨by rw [parseV, if_pos e, ← hds, ← hneg], e⟩
  refine exr ?_
  refine sw (core_move (L _ rfl)) ⟨rfl, trivial⟩ trivial ?_
  refine sw (core_assign (L _ rfl)) ⟨rfl, trivial⟩ trivial ?_
  refine seq_nil ⟨[(0, _), (2, _), (4, _), (5, _)], [(2, _)], ⟨rfl, rfl, rfl, rfl, trivial⟩, ⟨rfl, trivial⟩, ?_⟩
  rw [← hneg]
  refine ex_seq ?_
  refine exr ?_
  refine sw (core_move (L _ rfl)) ⟨rfl, trivial⟩ trivial ?_
  refine seq_nil ⟨[(0, _), (2, _), (4, _), (5, _), (18, _)], [(2, _)], ⟨rfl, rfl, rfl, rfl, rfl, trivial⟩, ⟨rfl, trivial⟩, ?_⟩
  refine ex_cut (sl := [(5, .p (pS ds))]) (sl0 := [(2, _), (4, _)]) (hb := []) (hb0 := [(2, _)]) ⟨rfl, rfl, trivial⟩ ⟨rfl, trivial⟩ ?_ ?_
  · refine ex_if rfl (fun hc => ?_) (fun hc => ?_)
    · have hb : pNeg bs = true := by rw [← hneg]; exact hc
      have h0 : 0 < bs.length := by rw [pNeg] at hb; exact (of_decide_eq_true hb).1
      refine exr0 ?_
      refine sw (core_move (L _ rfl)) ⟨rfl, trivial⟩ trivial ?_
      refine sw (slS_lo Tryd.underlying9 (l := 1) (by first | exact rfl | omega) (by rw [hsz]; omega) (L _ rfl)) ⟨rfl, rfl, trivial⟩ trivial ?_
      refine sw (core_assign (L _ rfl)) ⟨rfl, trivial⟩ trivial ?_
      refine seq_nil ?_
      exact ⟨⟨ov rfl (by rw [hsz, str_extract, hds, pDs, if_pos hb, List.take_of_length_le (show (bs.drop 1).length ≤ bs.length - 1 by simp)]), (by first | exact rfl | exact oi (by omega) rfl), (by first | exact rfl | exact oi (by omega) rfl), trivial⟩, ⟨rfl, trivial⟩⟩
    · have hb : ¬ pNeg bs = true := by rw [← hneg, hc]; simp
      refine ex_skip ?_
      exact ⟨⟨ov rfl (by rw [hds, pDs, if_neg hb]), (by first | exact rfl | exact oi (by omega) rfl), (by first | exact rfl | exact oi (by omega) rfl), trivial⟩, ⟨rfl, trivial⟩⟩
  · have hsd := str_size ds
    refine ex_seq ?_
    refine exm (sl := [(35, vb (pBad ds neg))]) (sl0 := [(2, _), (4, _), (5, _)]) (hb := []) (hb0 := [(2, _)]) ⟨rfl, rfl, rfl, trivial⟩ ⟨rfl, trivial⟩ ?_ ?_
    · rcases pcases2 ds neg with h1 | ⟨h1, h2⟩ | ⟨h1, h2, h3⟩ | ⟨h1, h2, h3⟩
      · refine sw (core_move (L _ rfl)) ⟨rfl, trivial⟩ trivial ?_
        refine sw (core_seql (L _ rfl)) ⟨rfl, rfl, trivial⟩ trivial ?_
        refine sw (core_move (L _ rfl)) ⟨rfl, trivial⟩ trivial ?_
        refine swn (g := 23) rfl (decide_eq_true ((str_nil ds).2 h1)) (L _ rfl) rfl ?_
        refine swn (g := 23) rfl (decide_eq_true ((str_nil ds).2 h1)) (L _ rfl) rfl ?_
        refine swn (g := 23) rfl (decide_eq_true ((str_nil ds).2 h1)) (L _ rfl) rfl ?_
        refine swn (g := 23) rfl (decide_eq_true ((str_nil ds).2 h1)) (L _ rfl) rfl ?_
        refine swu (g := 27) rfl (L _ rfl) rfl ?_
        refine swu (g := 27) rfl (L _ rfl) rfl ?_
        refine swu (g := 29) rfl (L _ rfl) rfl ?_
        refine swu (g := 29) rfl (L _ rfl) rfl ?_
        refine swu (g := 29) rfl (L _ rfl) rfl ?_
        refine swu (g := 27) rfl (L _ rfl) rfl ?_
        refine swn (g := 23) rfl (decide_eq_true ((str_nil ds).2 h1)) (L _ rfl) rfl ?_
        refine sw (core_pick_t (decide_eq_true ((str_nil ds).2 h1)) (L _ rfl)) ⟨rfl, rfl, trivial⟩ trivial ?_
        exact seq_nil ⟨⟨ob rfl (by rw [pBad]; exact (decide_eq_true (.inl h1)).symm), rfl, rfl, rfl, trivial⟩, ⟨rfl, trivial⟩⟩
      · refine sw (core_move (L _ rfl)) ⟨rfl, trivial⟩ trivial ?_
        refine sw (core_seql (L _ rfl)) ⟨rfl, rfl, trivial⟩ trivial ?_
        refine sw (core_move (L _ rfl)) ⟨rfl, trivial⟩ trivial ?_
        refine swg (g := 23) rfl (decide_eq_false (fun c => h1 ((str_nil ds).1 c))) (core_move (L _ rfl)) rfl ⟨rfl, trivial⟩ trivial ?_
        refine swg (g := 23) rfl (decide_eq_false (fun c => h1 ((str_nil ds).1 c))) (core_indexS Tryd.underlying9 (by decide) (by exact str_get (i := 0) (by omega)) (L _ rfl)) rfl ⟨rfl, rfl, trivial⟩ trivial ?_
        refine swg (g := 23) rfl (decide_eq_false (fun c => h1 ((str_nil ds).1 c))) (core_eql (L _ rfl)) rfl ⟨rfl, rfl, trivial⟩ trivial ?_
        refine swg (g := 23) rfl (decide_eq_false (fun c => h1 ((str_nil ds).1 c))) (core_move (L _ rfl)) rfl ⟨rfl, trivial⟩ trivial ?_
        refine swn (g := 27) rfl (decide_eq_false h2) (L _ rfl) rfl ?_
        refine swn (g := 27) rfl (decide_eq_false h2) (L _ rfl) rfl ?_
        refine swu (g := 29) rfl (L _ rfl) rfl ?_
        refine swu (g := 29) rfl (L _ rfl) rfl ?_
        refine swu (g := 29) rfl (L _ rfl) rfl ?_
        refine swn (g := 27) rfl (decide_eq_false h2) (L _ rfl) rfl ?_
        refine swg (g := 23) rfl (decide_eq_false (fun c => h1 ((str_nil ds).1 c))) (core_pick_f (decide_eq_false h2) (L _ rfl)) rfl ⟨rfl, rfl, trivial⟩ trivial ?_
        refine sw (core_pick_f (decide_eq_false (fun c => h1 ((str_nil ds).1 c))) (L _ rfl)) ⟨rfl, rfl, trivial⟩ trivial ?_
        exact seq_nil ⟨⟨ob rfl (by rw [pBad]; exact (decide_eq_false (fun c => c.elim h1 (fun c => h2 c.1))).symm), rfl, rfl, rfl, trivial⟩, ⟨rfl, trivial⟩⟩
      · refine sw (core_move (L _ rfl)) ⟨rfl, trivial⟩ trivial ?_
        refine sw (core_seql (L _ rfl)) ⟨rfl, rfl, trivial⟩ trivial ?_
        refine sw (core_move (L _ rfl)) ⟨rfl, trivial⟩ trivial ?_
        refine swg (g := 23) rfl (decide_eq_false (fun c => h1 ((str_nil ds).1 c))) (core_move (L _ rfl)) rfl ⟨rfl, trivial⟩ trivial ?_
        refine swg (g := 23) rfl (decide_eq_false (fun c => h1 ((str_nil ds).1 c))) (core_indexS Tryd.underlying9 (by decide) (by exact str_get (i := 0) (by omega)) (L _ rfl)) rfl ⟨rfl, rfl, trivial⟩ trivial ?_
        refine swg (g := 23) rfl (decide_eq_false (fun c => h1 ((str_nil ds).1 c))) (core_eql (L _ rfl)) rfl ⟨rfl, rfl, trivial⟩ trivial ?_
        refine swg (g := 23) rfl (decide_eq_false (fun c => h1 ((str_nil ds).1 c))) (core_move (L _ rfl)) rfl ⟨rfl, trivial⟩ trivial ?_
        refine swg (g := 27) rfl (decide_eq_true h2) (core_move (L _ rfl)) rfl ⟨rfl, trivial⟩ trivial ?_
        refine swg (g := 27) rfl (decide_eq_true h2) (core_move (L _ rfl)) rfl ⟨rfl, trivial⟩ trivial ?_
        refine swn (g := 29) rfl h3 (L _ rfl) rfl ?_
        refine swn (g := 29) rfl h3 (L _ rfl) rfl ?_
        refine swn (g := 29) rfl h3 (L _ rfl) rfl ?_
        refine swg (g := 27) rfl (decide_eq_true h2) (core_pick_t h3 (L _ rfl)) rfl ⟨rfl, rfl, trivial⟩ trivial ?_
        refine swg (g := 23) rfl (decide_eq_false (fun c => h1 ((str_nil ds).1 c))) (core_pick_t (decide_eq_true h2) (L _ rfl)) rfl ⟨rfl, rfl, trivial⟩ trivial ?_
        refine sw (core_pick_f (decide_eq_false (fun c => h1 ((str_nil ds).1 c))) (L _ rfl)) ⟨rfl, rfl, trivial⟩ trivial ?_
        exact seq_nil ⟨⟨ob rfl (by rw [pBad]; exact (decide_eq_true (.inr ⟨h2, .inr h3⟩)).symm), rfl, rfl, rfl, trivial⟩, ⟨rfl, trivial⟩⟩
      · refine sw (core_move (L _ rfl)) ⟨rfl, trivial⟩ trivial ?_
        refine sw (core_seql (L _ rfl)) ⟨rfl, rfl, trivial⟩ trivial ?_
        refine sw (core_move (L _ rfl)) ⟨rfl, trivial⟩ trivial ?_
        refine swg (g := 23) rfl (decide_eq_false (fun c => h1 ((str_nil ds).1 c))) (core_move (L _ rfl)) rfl ⟨rfl, trivial⟩ trivial ?_
        refine swg (g := 23) rfl (decide_eq_false (fun c => h1 ((str_nil ds).1 c))) (core_indexS Tryd.underlying9 (by decide) (by exact str_get (i := 0) (by omega)) (L _ rfl)) rfl ⟨rfl, rfl, trivial⟩ trivial ?_
        refine swg (g := 23) rfl (decide_eq_false (fun c => h1 ((str_nil ds).1 c))) (core_eql (L _ rfl)) rfl ⟨rfl, rfl, trivial⟩ trivial ?_
        refine swg (g := 23) rfl (decide_eq_false (fun c => h1 ((str_nil ds).1 c))) (core_move (L _ rfl)) rfl ⟨rfl, trivial⟩ trivial ?_
        refine swg (g := 27) rfl (decide_eq_true h2) (core_move (L _ rfl)) rfl ⟨rfl, trivial⟩ trivial ?_
        refine swg (g := 27) rfl (decide_eq_true h2) (core_move (L _ rfl)) rfl ⟨rfl, trivial⟩ trivial ?_
        refine swg (g := 29) rfl h3 (core_move (L _ rfl)) rfl ⟨rfl, trivial⟩ trivial ?_
        refine swg (g := 29) rfl h3 (core_lenS Tryd.underlying9 (L _ rfl)) rfl ⟨rfl, trivial⟩ trivial ?_
        refine swg (g := 29) rfl h3 (core_gtr (L _ rfl)) rfl ⟨rfl, rfl, trivial⟩ trivial ?_
        refine swg (g := 27) rfl (decide_eq_true h2) (core_pick_f h3 (L _ rfl)) rfl ⟨rfl, rfl, trivial⟩ trivial ?_
        refine swg (g := 23) rfl (decide_eq_false (fun c => h1 ((str_nil ds).1 c))) (core_pick_t (decide_eq_true h2) (L _ rfl)) rfl ⟨rfl, rfl, trivial⟩ trivial ?_
        refine sw (core_pick_f (decide_eq_false (fun c => h1 ((str_nil ds).1 c))) (L _ rfl)) ⟨rfl, rfl, trivial⟩ trivial ?_
        exact seq_nil ⟨⟨ob rfl (by rw [pBad, hsd]; exact dec_eq ⟨fun c => .inr ⟨h2, .inl (by omega)⟩, fun c => c.elim (fun c => absurd c h1) (fun c => c.2.elim (fun c => by omega) (fun c => by rw [h3] at c; cases c))⟩), rfl, rfl, rfl, trivial⟩, ⟨rfl, trivial⟩⟩
    refine ex_if rfl (fun hbad => ?_) (fun hbad => ?_)
    · refine exr ?_
      refine sw (core_pc (core_buildP (vs := []) Tryd.underlying24 Tryd.zeroValue24 (.cons rfl (.cons rfl .nil)) ((Places.cons Tryd.sizeOf4 (Places.cons Tryd.sizeOf22 Places.nil))).to rfl .nil (.cons (.cons .nil)) (L _ rfl)) (.agg (.cons .same (.cons .nil .nil)))) trivial trivial ?_
      refine sb (core_storeM Tryd.sizeOf24 (by rfl) (.pagg (.cons (.cons .nil))) rfl (.put (.put .here))) ⟨rfl, rfl, trivial⟩ ⟨rfl, trivial⟩ ?_
      refine sw (core_assign (L _ rfl)) ⟨rfl, trivial⟩ trivial ?_
      refine seq_nil ⟨[(2, _), (3, _)], [(2, _)], ⟨rfl, rfl, trivial⟩, ⟨rfl, trivial⟩, ?_⟩
      refine ex_ret ?_
      refine ⟨.inr rfl, ResVs.cast (.cons (.agg rfl rfl rfl Tryd.isAgg24 Tryd.sizeOf24 (.cons (.cons .nil))) (.cons (.tmp rfl) .nil)) ?_⟩
      rw [(f3 (.inl hbad)).1, (f3 (.inl hbad)).2, pZ_zero]; rfl
    · refine ex_skip (show Exec _ _ _ _ _ from ?_)
      refine ex_seq ?_
      refine exr ?_
      refine sw (core_assign (L _ rfl)) ⟨rfl, trivial⟩ trivial ?_
      refine seq_nil ⟨[(2, _), (4, _), (5, _), (6, _)], [(2, _)], ⟨rfl, rfl, rfl, rfl, trivial⟩, ⟨rfl, trivial⟩, ?_⟩
      refine ex_block ?_
      refine exl (α := Nat) (fun j => [(6, vi (j : Int))]) (fun j => []) (fun j => j ≤ ds.length ∧ Digits (ds.take j)) (fun j => ds.length - j) (0) (sl := [(2, _), (4, _), (5, _)]) (hb := [(2, _)]) ?_ ⟨(by first | exact rfl | exact oi (by omega) rfl), rfl, rfl, rfl, trivial⟩ ⟨rfl, trivial⟩ ?_
      · exact ⟨Nat.zero_le _, by intro c hc; simp at hc⟩
      intro j hj
      obtain ⟨hjl, hjd⟩ := hj
      refine ex_seq ?_
      refine exr ?_
      refine sw (core_move (L _ rfl)) ⟨rfl, trivial⟩ trivial ?_
      refine sw (core_move (L _ rfl)) ⟨rfl, trivial⟩ trivial ?_
      refine sw (core_lenS Tryd.underlying9 (L _ rfl)) ⟨rfl, trivial⟩ trivial ?_
      refine sw (core_lss (L _ rfl)) ⟨rfl, rfl, trivial⟩ trivial ?_
      refine seq_nil ⟨[(2, _), (4, _), (5, _), (6, _), (40, _)], [(2, _)], ⟨rfl, rfl, rfl, rfl, rfl, trivial⟩, ⟨rfl, trivial⟩, ?_⟩
      refine ex_if rfl (fun he => ?_) (fun he => ?_)
      · have he := dt he
        have hj1 : j < ds.length := by rw [hsd] at he; omega
        refine ex_skip (show Exec _ _ _ _ _ from ?_)
        refine ex_seq ?_
        refine ex_block ?_
        refine exm (sl := [(52, vb (decide (¬ (48 ≤ (ds.getD j 0).toNat ∧ (ds.getD j 0).toNat ≤ 57))))]) (sl0 := [(2, _), (4, _), (5, _), (6, _)]) (hb := []) (hb0 := [(2, _)]) ⟨rfl, rfl, rfl, rfl, trivial⟩ ⟨rfl, trivial⟩ ?_ ?_
        · by_cases h8 : ((ds.getD j 0).toNat : Int) < 48
          · refine sw (core_move (L _ rfl)) ⟨rfl, trivial⟩ trivial ?_
            refine sw (core_move (L _ rfl)) ⟨rfl, trivial⟩ trivial ?_
            refine sw (core_indexS Tryd.underlying9 (by omega) (by exact str_get (i := j) hj1) (L _ rfl)) ⟨rfl, rfl, trivial⟩ trivial ?_
            refine sw (core_lss (L _ rfl)) ⟨rfl, rfl, trivial⟩ trivial ?_
            refine sw (core_move (L _ rfl)) ⟨rfl, trivial⟩ trivial ?_
            refine swn (g := 47) rfl (decide_eq_true h8) (L _ rfl) rfl ?_
            refine swn (g := 47) rfl (decide_eq_true h8) (L _ rfl) rfl ?_
            refine swn (g := 47) rfl (decide_eq_true h8) (L _ rfl) rfl ?_
            refine swn (g := 47) rfl (decide_eq_true h8) (L _ rfl) rfl ?_
            refine sw (core_pick_t (decide_eq_true h8) (L _ rfl)) ⟨rfl, rfl, trivial⟩ trivial ?_
            exact seq_nil ⟨⟨ob rfl (decide_eq_true (by omega)).symm, rfl, rfl, rfl, rfl, trivial⟩, ⟨rfl, trivial⟩⟩
          · refine sw (core_move (L _ rfl)) ⟨rfl, trivial⟩ trivial ?_
            refine sw (core_move (L _ rfl)) ⟨rfl, trivial⟩ trivial ?_
            refine sw (core_indexS Tryd.underlying9 (by omega) (by exact str_get (i := j) hj1) (L _ rfl)) ⟨rfl, rfl, trivial⟩ trivial ?_
            refine sw (core_lss (L _ rfl)) ⟨rfl, rfl, trivial⟩ trivial ?_
            refine sw (core_move (L _ rfl)) ⟨rfl, trivial⟩ trivial ?_
            refine swg (g := 47) rfl (decide_eq_false h8) (core_move (L _ rfl)) rfl ⟨rfl, trivial⟩ trivial ?_
            refine swg (g := 47) rfl (decide_eq_false h8) (core_move (L _ rfl)) rfl ⟨rfl, trivial⟩ trivial ?_
            refine swg (g := 47) rfl (decide_eq_false h8) (core_indexS Tryd.underlying9 (by omega) (by exact str_get (i := j) hj1) (L _ rfl)) rfl ⟨rfl, rfl, trivial⟩ trivial ?_
            refine swg (g := 47) rfl (decide_eq_false h8) (core_gtr (L _ rfl)) rfl ⟨rfl, rfl, trivial⟩ trivial ?_
            refine sw (core_pick_f (decide_eq_false h8) (L _ rfl)) ⟨rfl, rfl, trivial⟩ trivial ?_
            exact seq_nil ⟨⟨ob rfl (dec_eq (by omega)), rfl, rfl, rfl, rfl, trivial⟩, ⟨rfl, trivial⟩⟩
        refine ex_if rfl (fun hq => ?_) (fun hq => ?_)
        · have hq := dt hq
          have hnd : ¬ Digits ds := fun hd => hq (hd.get (by omega))
          refine exr ?_
          refine sw (core_pc (core_buildP (vs := []) Tryd.underlying24 Tryd.zeroValue24 (.cons rfl (.cons rfl .nil)) ((Places.cons Tryd.sizeOf4 (Places.cons Tryd.sizeOf22 Places.nil))).to rfl .nil (.cons (.cons .nil)) (L _ rfl)) (.agg (.cons .same (.cons .nil .nil)))) trivial trivial ?_
          refine sb (core_storeM Tryd.sizeOf24 (by rfl) (.pagg (.cons (.cons .nil))) rfl (.put (.put .here))) ⟨rfl, rfl, trivial⟩ ⟨rfl, trivial⟩ ?_
          refine sw (core_assign (L _ rfl)) ⟨rfl, trivial⟩ trivial ?_
          refine seq_nil ⟨[(2, _), (3, _)], [(2, _)], ⟨rfl, rfl, trivial⟩, ⟨rfl, trivial⟩, ?_⟩
          refine ex_ret ?_
          refine ⟨.inr rfl, ResVs.cast (.cons (.agg rfl rfl rfl Tryd.isAgg24 Tryd.sizeOf24 (.cons (.cons .nil))) (.cons (.tmp rfl) .nil)) ?_⟩
          rw [(f3 (.inr hnd)).1, (f3 (.inr hnd)).2, pZ_zero]; rfl
        · have hq := Decidable.not_not.1 (df hq)
          refine ex_skip (show Exec _ _ _ _ _ from ?_)
          refine exr0 ?_
          refine sw (core_move (L _ rfl)) ⟨rfl, trivial⟩ trivial ?_
          refine sw (core_add (L _ rfl) (w64 (by omega) (by omega))) ⟨rfl, rfl, trivial⟩ trivial ?_
          refine sw (core_assign (L _ rfl)) ⟨rfl, trivial⟩ trivial ?_
          refine seq_nil ?_
          exact ⟨j + 1, ⟨by omega, Digits.snoc hjd (by omega) hq⟩, (by omega), le_of ⟨(by first | exact rfl | exact oi (by omega) rfl), rfl, rfl, rfl, trivial⟩ ⟨rfl, trivial⟩⟩
      · have he := df he
        have hje : j = ds.length := by rw [hsd] at he; omega
        subst hje
        have hdg : Digits ds := by rwa [List.take_length] at hjd
        have hnb : ¬ (pBad ds neg = true ∨ ¬ Digits ds) := by rintro (c | c); rw [hbad] at c; cases c; exact c hdg
        refine ex_exit (show Exec _ _ _ _ _ from ?_)
        refine ex_seq ?_
        refine exr ?_
        refine sw (core_move (L _ rfl)) ⟨rfl, trivial⟩ trivial ?_
        refine sw (core_lenS Tryd.underlying9 (L _ rfl)) ⟨rfl, trivial⟩ trivial ?_
        refine sw (core_gtr (L _ rfl)) ⟨rfl, rfl, trivial⟩ trivial ?_
        refine seq_nil ⟨[(2, _), (4, _), (5, _), (56, _)], [(2, _)], ⟨rfl, rfl, rfl, rfl, trivial⟩, ⟨rfl, trivial⟩, ?_⟩
        refine ex_if rfl (fun hlim => ?_) (fun hlim => ?_)
        · have hlim : 20000 < ds.length := by have := dt hlim; rw [hsd] at this; omega
          refine exr ?_
          refine sw (core_pc (core_buildP (vs := []) Tryd.underlying24 Tryd.zeroValue24 (.cons rfl (.cons rfl .nil)) ((Places.cons Tryd.sizeOf4 (Places.cons Tryd.sizeOf22 Places.nil))).to rfl .nil (.cons (.cons .nil)) (L _ rfl)) (.agg (.cons .same (.cons .nil .nil)))) trivial trivial ?_
          refine sb (core_storeM Tryd.sizeOf24 (by rfl) (.pagg (.cons (.cons .nil))) rfl (.put (.put .here))) ⟨rfl, rfl, trivial⟩ ⟨rfl, trivial⟩ ?_
          refine sw (core_assign (L _ rfl)) ⟨rfl, trivial⟩ trivial ?_
          refine seq_nil ⟨[(2, _), (3, _)], [(2, _)], ⟨rfl, rfl, trivial⟩, ⟨rfl, trivial⟩, ?_⟩
          refine ex_ret ?_
          refine ⟨.inr rfl, ResVs.cast (.cons (.agg rfl rfl rfl Tryd.isAgg24 Tryd.sizeOf24 (.cons (.cons .nil))) (.cons (.tmp rfl) .nil)) ?_⟩
          rw [(f2 hnb hlim).1, (f2 hnb hlim).2, pZ_zero]; rfl
        · have hlim := df hlim
          rw [hsd] at hlim
          rw [(f0 hnb (by omega)).1, (f0 hnb (by omega)).2]
          refine ex_skip (show Exec _ _ _ _ _ from ?_)
          refine exr ?_
          refine sw (core_assign (L _ rfl)) ⟨rfl, trivial⟩ trivial ?_
          refine seq_nil ⟨[(2, _), (4, _), (5, _), (7, _)], [(2, _)], ⟨rfl, rfl, rfl, rfl, trivial⟩, ⟨rfl, trivial⟩, ?_⟩
          refine ex_seq ?_
          refine exr ?_
          refine sw (core_assign (L _ rfl)) ⟨rfl, trivial⟩ trivial ?_
          refine seq_nil ⟨[(2, _), (4, _), (5, _), (7, _), (8, _)], [(2, _)], ⟨rfl, rfl, rfl, rfl, rfl, trivial⟩, ⟨rfl, trivial⟩, ?_⟩
          refine ex_block ?_
          refine ex_cv [] (sl := [(2, _), (4, _), (5, _), (7, _), (8, _)]) (hb := [(2, _)]) (own_none hX0) ⟨⟨_, rfl, .same⟩, ⟨_, rfl, .same⟩, ⟨_, rfl, .same⟩, ⟨_, rfl, (.p .nil)⟩, ⟨_, rfl, .same⟩, trivial⟩ ⟨⟨rfl, _, rfl, .same⟩, trivial⟩ ?_
          refine exl (α := Nat) (fun i => [(8, vi (i : Int)), (7, .p (pW (digs (numI (ds.take i)).toNat)))]) (fun i => []) (fun i => i ≤ ds.length) (fun i => ds.length - i) (0) (sl := [(2, _), (4, _), (5, _)]) (hb := [(2, _)]) ?_ ⟨(by first | exact rfl | exact oi (by omega) rfl), ov rfl (by simp [digs_zero, numI, encW]), rfl, rfl, rfl, trivial⟩ ⟨rfl, trivial⟩ ?_
          · exact Nat.zero_le _
          intro i hi
          have hbd := numI_bd (hdg.take i)
          have hnwi := nw_num (hdg.take i)
          have htl : (ds.take i).length ≤ i := by simp; omega
          have dl : (digs (numI (ds.take i)).toNat).length = nw (numI (ds.take i)) := by unfold nw; congr 2; omega
          refine ex_seq ?_
          refine exr ?_
          refine sw (core_move (L _ rfl)) ⟨rfl, trivial⟩ trivial ?_
          refine sw (core_move (L _ rfl)) ⟨rfl, trivial⟩ trivial ?_
          refine sw (core_lenS Tryd.underlying9 (L _ rfl)) ⟨rfl, trivial⟩ trivial ?_
          refine sw (core_lss (L _ rfl)) ⟨rfl, rfl, trivial⟩ trivial ?_
          refine seq_nil ⟨[(2, _), (4, _), (5, _), (7, _), (8, _), (61, _)], [(2, _)], ⟨rfl, rfl, rfl, rfl, rfl, rfl, trivial⟩, ⟨rfl, trivial⟩, ?_⟩
          refine ex_if rfl (fun hf => ?_) (fun hf => ?_)
          · have hf := dt hf
            rw [hsd] at hf
            have hi1 : i < ds.length := by omega
            have hd := hdg.get hi1
            have hbd2 := numI_bd (hdg.take (i + 1))
            have h10 := nw_mul (numI (ds.take i)) 10
            have hn10 : nw (10 : Int) ≤ 1 := nw_le (by decide)
            have hm0 : 0 ≤ numI (ds.take i) * 10 := by omega
            have dl2 : (digs (numI (ds.take i) * 10).toNat).length = nw (numI (ds.take i) * 10) := by unfold nw; congr 2; omega
            have v1 : val (digs (numI (ds.take i)).toNat) = numI (ds.take i) := by rw [val_digs]; omega
            have v2 : val (digs (numI (ds.take i) * 10).toNat) = numI (ds.take i) * 10 := by rw [val_digs]; omega
            have hw1 := one_w (d := ((ds.getD i 0).toNat : Int) - 48) (by omega) (by omega)
            have a1 := rmul_says (digs (numI (ds.take i)).toNat) [10] (by omega) (by simp) (wd_digs _) (one_w (by decide) (by decide))
            rw [v1, show val [10] = 10 by simp [val]] at a1
            have a2 := rtrim_says [((ds.getD i 0).toNat : Int) - 48] (by simp)
            have hv1 : val [((ds.getD i 0).toNat : Int) - 48] = ((ds.getD i 0).toNat : Int) - 48 := by simp [val]
            have a3 := radd_says (digs (numI (ds.take i) * 10).toNat) (trim [((ds.getD i 0).toNat : Int) - 48]) (by omega) (by rw [trim]; simp; omega) (wd_digs _) (by rw [trim]; exact hw1.take _)
            rw [v2, trim_eq_digs hw1, hv1, val_digs, show ((((ds.getD i 0).toNat : Int) - 48).toNat : Int) = ((ds.getD i 0).toNat : Int) - 48 by omega, ← dg_val hi1 hdg] at a3
            rw [trim_eq_digs hw1, hv1] at a2
            refine ex_skip (show Exec _ _ _ _ _ from ?_)
            refine ex_seq ?_
            refine ex_block ?_
            refine exd0 (by rfl) ?_
            refine sw (core_move (L _ rfl)) ⟨rfl, trivial⟩ trivial ?_
            refine sw (core_bsI (vs := [_]) Tryd.underlying22 Tryd.typeInfo53 rfl rfl (by decide) (by decide) rfl (zs_made (.cons rfl .nil) rfl) rfl (.cons rfl (.atom rfl) rfl (.put .here) .nil) (.cons .nil) (L _ rfl)) ⟨rfl, trivial⟩ trivial ?_
            refine sw (core_call (E := E) hG hX Tryd.call72 rfl hN a1 (L _ rfl)) ⟨rfl, rfl, trivial⟩ trivial ?_
            refine sw (core_move (L _ rfl)) ⟨rfl, trivial⟩ trivial ?_
            refine sw (core_move (L _ rfl)) ⟨rfl, trivial⟩ trivial ?_
            refine sw (core_indexS Tryd.underlying9 (by omega) (by exact str_get (i := i) hi1) (L _ rfl)) ⟨rfl, rfl, trivial⟩ trivial ?_
            refine sw (core_sub (L _ rfl) (fu8 (by omega) (by omega))) ⟨rfl, rfl, trivial⟩ trivial ?_
            refine sw (core_conv Tryd.underlying5 Tryd.underlying53 (L _ rfl) (fu32 (by omega) (by omega))) ⟨rfl, trivial⟩ trivial ?_
            refine sw (core_bsI (vs := [_]) Tryd.underlying22 Tryd.typeInfo53 rfl rfl (by decide) (by decide) rfl (zs_made (.cons rfl .nil) rfl) rfl (.cons rfl (.atom rfl) rfl (.put .here) .nil) (.cons .nil) (L _ rfl)) ⟨rfl, trivial⟩ trivial ?_
            refine sw (core_call (E := E) hG hX Tryd.call76 rfl hN a2 (L _ rfl)) ⟨rfl, trivial⟩ trivial ?_
            refine sw (core_call (E := E) hG hX Tryd.call67 rfl hN a3 (L _ rfl)) ⟨rfl, rfl, trivial⟩ trivial ?_
            refine sw (core_assign (L _ rfl)) ⟨rfl, trivial⟩ trivial ?_
            refine seq_nil ⟨aoks [⟨[7], [], [64], []⟩, ⟨[], [], [65], []⟩, ⟨[64, 65], [], [66], []⟩, ⟨[5], [], [67], []⟩, ⟨[8], [], [68], []⟩, ⟨[67, 68], [], [69], []⟩, ⟨[69], [], [70], []⟩, ⟨[70], [], [71], []⟩, ⟨[71], [], [72], []⟩, ⟨[72], [], [73], []⟩, ⟨[66, 73], [], [74], []⟩, ⟨[74], [], [7], []⟩] (by rfl) (by rfl) (by decide), ?_⟩
            refine exr0 ?_
            refine sw (core_move (L _ rfl)) ⟨rfl, trivial⟩ trivial ?_
            refine sw (core_add (L _ rfl) (w64 (by omega) (by omega))) ⟨rfl, rfl, trivial⟩ trivial ?_
            refine sw (core_assign (L _ rfl)) ⟨rfl, trivial⟩ trivial ?_
            refine seq_nil ?_
            exact ⟨i + 1, (by omega), (by omega), le_of ⟨(by first | exact rfl | exact oi (by omega) rfl), (by first | exact rfl | exact oi (by omega) rfl), rfl, rfl, rfl, trivial⟩ ⟨rfl, trivial⟩⟩
          · have hf := df hf
            rw [hsd] at hf
            have hi1 : i = ds.length := by omega
            subst hi1
            rw [List.take_length] at hbd dl hnwi ⊢
            have a4 := rmade_says neg (digs (numI ds).toNat) (by omega) (wd_digs _)
            rw [val_digs, show (((numI ds).toNat : Nat) : Int) = numI ds by omega] at a4
            refine ex_exit (show Exec _ _ _ _ _ from ?_)
            refine exr ?_
            refine sw (core_move (L _ rfl)) ⟨rfl, trivial⟩ trivial ?_
            refine sw (core_move (L _ rfl)) ⟨rfl, trivial⟩ trivial ?_
            refine sw (core_call (E := E) hG hX Tryd.call56 rfl hN a4 (L _ rfl)) ⟨rfl, rfl, trivial⟩ trivial ?_
            refine sb (core_storeM Tryd.sizeOf24 (by rfl) (.pagg (.cons (.cons .nil))) rfl (.put (.put .here))) ⟨rfl, rfl, trivial⟩ ⟨rfl, trivial⟩ ?_
            refine sw (core_assign (L _ rfl)) ⟨rfl, trivial⟩ trivial ?_
            refine seq_nil ⟨[(2, _), (3, _)], [(2, _)], ⟨rfl, rfl, trivial⟩, ⟨rfl, trivial⟩, ?_⟩
            refine ex_ret ?_
            refine ⟨.inr rfl, ResVs.cast (.cons (.agg rfl rfl rfl Tryd.isAgg24 Tryd.sizeOf24 (.cons (.cons .nil))) (.cons (.tmp rfl) .nil)) ?_⟩
            rfl

end Go.Proofs.YtebkelnibecmjaaDoor.N
namespace Go.Proofs.YtebkelnibecmjaaDoor.N
open Go Go.Proofs.YtebkelnibecmjaaDoor.SH Go.Proofs.YtebkelnibecmjaaDoor.NumA
theorem ten_big' (a : Int) : a.natAbs < 10 ^ (10 * nw a + 1) := by
  have h1 := nw_lt (a := a)
  have h2 : (4294967296 : Nat) ^ nw a ≤ (10 ^ 10) ^ nw a := Nat.pow_le_pow_left (by decide) _
  rw [← Nat.pow_mul] at h2
  have h3 : 10 ^ (10 * nw a) ≤ 10 ^ (10 * nw a + 1) := Nat.pow_le_pow_right (by decide) (by omega)
  have h4 : a.natAbs < 4294967296 ^ nw a := by
    have : ((a.natAbs : Nat) : Int) < ((4294967296 ^ nw a : Nat) : Int) := by rw [Int.natCast_pow]; exact h1
    exact Int.ofNat_lt.1 this
  exact Nat.lt_of_lt_of_le h4 (Nat.le_trans h2 h3)
theorem encB_app (a b : List UInt8) : encB a ++ encB b = encB (a ++ b) := by simp [encB]
theorem set_rep {n : Nat} {qs : List Int} (hn : 0 < n) (q : Int) : (List.replicate n (0 : Int) ++ qs).set (n - 1) q = List.replicate (n - 1) 0 ++ q :: qs := by
  rw [set_last (by simp; omega), List.take_replicate, Nat.min_eq_left (by omega)]
set_option maxRecDepth 100000 in
set_option maxHeartbeats 4000000 in
theorem rprint_says (neg : Bool) (ws : List Int) (hl : ws.length < 100000) (h : Wd ws) : Says E 50 [pI neg ws] (pS (printV neg ws)) := by
  refine says_of (xs := [pS (printV neg ws)]) Tryd.func50 rfl Tryd.ntmps50 Tryd.results50 (by simp) fun F hG hX0 hnt hdf P0 => ?_
  have L := ltn hnt
  have hX : ∀ b, F.X b → E.ng ≤ b := fun b h => absurd h (hX0 b)
  have hN := ng_le hG
  have hv := val_nonneg h
  refine exr ?_
  refine swb (core_box (k := 1) (n := 2) (.pagg (.cons (.cons .nil))) rfl rfl (P0 _ rfl) (L _ rfl)) ⟨rfl, trivial⟩ trivial ⟨rfl, rfl⟩ ?_
  refine sw (core_assign (L _ rfl)) ⟨rfl, trivial⟩ trivial ?_
  refine seq_nil ⟨[(1, _)], [(1, _)], ⟨rfl, trivial⟩, ⟨rfl, trivial⟩, ?_⟩
  refine ex_seq ?_
  refine exr ?_
  refine sw (core_loadP Tryd.isAgg24 Tryd.sizeOf24 (by rfl) (by exact (.cons (.cons .nil))) rfl (L _ rfl)) ⟨rfl, trivial⟩ ⟨rfl, trivial⟩ ?_
  refine sw (core_call (E := E) hG hX Tryd.call17 rfl hN (ris_says neg ws (by omega)) (L _ rfl)) ⟨rfl, trivial⟩ trivial ?_
  refine sw (core_not (L _ rfl)) ⟨rfl, trivial⟩ trivial ?_
  refine seq_nil ⟨[(1, _), (13, _)], [(1, _)], ⟨rfl, rfl, trivial⟩, ⟨rfl, trivial⟩, ?_⟩
  refine ex_if rfl (fun hc => ?_) (fun hc => ?_)
  · refine exr ?_
    refine sw (core_assign (L _ rfl)) ⟨rfl, trivial⟩ trivial ?_
    refine seq_nil ⟨[(2, _)], [], ⟨rfl, trivial⟩, trivial, ?_⟩
    refine ex_ret ?_
    refine ⟨.inr rfl, ResVs.cast (.cons (.tmp rfl) .nil) ?_⟩
    have hc' : ¬ canon neg ws = true := by simpa using hc
    rw [printV, if_neg hc']; rfl
  · have hcn : canon neg ws = true := by simpa using hc
    refine ex_skip (show Exec _ _ _ _ _ from ?_)
    refine ex_seq ?_
    refine exr ?_
    refine sw (core_fieldAddr Tryd.underlying24 rfl Tryd.sizeOf22 (by decide) (by exact rfl) (L _ rfl)) ⟨rfl, trivial⟩ ⟨rfl, trivial⟩ ?_
    refine sw (core_load1 Tryd.isAgg22 (by rfl) (by rfl) (L _ rfl)) ⟨rfl, trivial⟩ ⟨rfl, trivial⟩ ?_
    refine sw (core_len Tryd.underlying22 (L _ rfl)) ⟨rfl, trivial⟩ trivial ?_
    refine sw (core_eql (L _ rfl)) ⟨rfl, rfl, trivial⟩ trivial ?_
    refine seq_nil ⟨[(1, _), (17, _)], [(1, _)], ⟨rfl, rfl, trivial⟩, ⟨rfl, trivial⟩, ?_⟩
    refine ex_if rfl (fun hz => ?_) (fun hz => ?_)
    · have hz := dt hz
      have e1 : ws = [] := List.eq_nil_of_length_eq_zero (by omega)
      refine exr ?_
      refine sw (core_assign (L _ rfl)) ⟨rfl, trivial⟩ trivial ?_
      refine seq_nil ⟨[(2, _)], [], ⟨rfl, trivial⟩, trivial, ?_⟩
      refine ex_ret ?_
      refine ⟨.inr rfl, ResVs.cast (.cons (.tmp rfl) .nil) ?_⟩
      have e2 : neg = false := (canon_tr hcn).2 e1
      subst e1 e2
      rw [printV, if_pos hcn, show Lib.itoa (sg false (val [])) = [48] by simp [Lib.itoa, sg, val, dec_small]]; rfl
    · have hz := df hz
      have hpos : 0 < val ws := val_pos h (canon_tr hcn).1 (by omega)
      obtain ⟨V, hV⟩ : ∃ V, V = (val ws).toNat := ⟨_, rfl⟩
      have hVp : 0 < V := by omega
      have ewd : ws = digs V := by
        have := (canon_eq h hcn).2
        rw [← this, hV]; congr 1; unfold sg; split <;> omega
      have hnV : nw (V : Int) = ws.length := by
        have : (V : Int).natAbs = V := by omega
        rw [nw, this, ← ewd]
      have hdl : ∀ q, q ≤ V → (digs q).length ≤ ws.length := fun q hq => by
        have h1 : nw (q : Int) ≤ nw (V : Int) := nw_mono (by omega)
        have h2 : (q : Int).natAbs = q := by omega
        unfold nw at h1
        rw [h2] at h1
        unfold nw at hnV
        omega
      have hVdec : (Lib.decDigits V).length ≤ 10 * nw (V : Int) + 1 := dec_len (by have := ten_big' (V : Int); rwa [show (V : Int).natAbs = V by omega] at this)
      refine ex_skip (show Exec _ _ _ _ _ from ?_)
      refine exr ?_
      refine sw (core_assign (L _ rfl)) ⟨rfl, trivial⟩ trivial ?_
      refine seq_nil ⟨[(1, _), (3, _)], [(1, _)], ⟨rfl, rfl, trivial⟩, ⟨rfl, trivial⟩, ?_⟩
      refine exr ?_
      refine sw (core_fieldAddr Tryd.underlying24 rfl Tryd.sizeOf22 (by decide) (by exact rfl) (L _ rfl)) ⟨rfl, trivial⟩ ⟨rfl, trivial⟩ ?_
      refine sw (core_load1 Tryd.isAgg22 (by rfl) (by rfl) (L _ rfl)) ⟨rfl, trivial⟩ ⟨rfl, trivial⟩ ?_
      refine sw (core_assign (L _ rfl)) ⟨rfl, trivial⟩ trivial ?_
      refine seq_nil ⟨[(1, _), (3, _), (4, _)], [(1, _)], ⟨rfl, rfl, rfl, trivial⟩, ⟨rfl, trivial⟩, ?_⟩
      rw [show encW ws = encW (digs V) by rw [← ewd], show ws.length = (digs V).length by rw [← ewd]]
      refine ex_seq ?_
      refine ex_block ?_
      refine exlp (α := (Nat × List UInt8)) (fun x => [(4, .p (pW (digs x.1))), (3, .ref 54 0 x.2.length x.2.length)]) (fun x => [(54, ⟨5, 1, .pure (encB x.2)⟩)]) (fun x => PrAt V x ∧ x.1 ≤ V) (fun x => x.1) (V + 1) (sl := [(1, _)]) (hb := [(1, _)]) ⟨rfl, trivial⟩ ⟨rfl, trivial⟩ ?_ ?_
      · have hx := PrAt.start hVp
        refine ex_seq ?_
        refine exr ?_
        refine sw (core_move (L _ rfl)) ⟨rfl, trivial⟩ trivial ?_
        refine sw (core_len Tryd.underlying22 (L _ rfl)) ⟨rfl, trivial⟩ trivial ?_
        refine sw (core_gtr (L _ rfl)) ⟨rfl, rfl, trivial⟩ trivial ?_
        refine seq_nil ⟨[(1, _), (3, _), (4, _), (22, _)], [(1, _)], ⟨rfl, rfl, rfl, rfl, trivial⟩, ⟨rfl, trivial⟩, ?_⟩
        refine ex_if rfl (fun hd => ?_) (fun hd => ?_)
        · have hqv : val (digs V) = ((V : Nat) : Int) := val_digs _
          have hqn : (digs V).length ≤ ws.length := hdl V (by omega)
          have hqw := wd_digs V
          refine ex_skip (show Exec _ _ _ _ _ from ?_)
          refine ex_block ?_
          refine exr ?_
          refine sw (core_assign (L _ rfl)) ⟨rfl, trivial⟩ trivial ?_
          refine seq_nil ⟨[(1, _), (3, _), (4, _), (5, _)], [(1, _)], ⟨rfl, rfl, rfl, rfl, trivial⟩, ⟨rfl, trivial⟩, ?_⟩
          refine exr ?_
          refine sw (core_move (L _ rfl)) ⟨rfl, trivial⟩ trivial ?_
          refine sw (core_len Tryd.underlying22 (L _ rfl)) ⟨rfl, trivial⟩ trivial ?_
          refine swb (core_make1 (k := 25) Tryd.underlying22 Tryd.typeInfo53 rfl rfl rfl rfl rfl rfl (Nat.le_refl _) (by simp [Tryd.t53]; omega) (by omega) (P0 _ rfl) (L _ rfl)) ⟨rfl, rfl, trivial⟩ trivial ⟨rfl, rfl⟩ ?_
          refine sw (core_assign (L _ rfl)) ⟨rfl, trivial⟩ trivial ?_
          refine seq_nil ⟨[(1, _), (3, _), (4, _), (5, _), (6, _)], [(1, _), (25, _)], ⟨rfl, rfl, rfl, rfl, rfl, trivial⟩, ⟨rfl, rfl, trivial⟩, ?_⟩
          refine ex_seq ?_
          refine exr ?_
          refine sw (core_move (L _ rfl)) ⟨rfl, trivial⟩ trivial ?_
          refine sw (core_len Tryd.underlying22 (L _ rfl)) ⟨rfl, trivial⟩ trivial ?_
          refine sw (core_sub (L _ rfl) (w64 (by omega) (by omega))) ⟨rfl, rfl, trivial⟩ trivial ?_
          refine sw (core_assign (L _ rfl)) ⟨rfl, trivial⟩ trivial ?_
          refine seq_nil ⟨[(1, _), (3, _), (4, _), (5, _), (6, _), (7, _)], [(1, _), (25, _)], ⟨rfl, rfl, rfl, rfl, rfl, rfl, trivial⟩, ⟨rfl, rfl, trivial⟩, ?_⟩
          refine ex_block ?_
          refine exl (α := (Nat × List Int × Int)) (fun y => [(7, vi ((y.1 : Int) - 1)), (5, vw y.2.2)]) (fun y => [(25, ⟨53, 1, .pure (encW (List.replicate y.1 0 ++ y.2.1))⟩)]) (fun y => ShortAt (digs V) 10 y) (fun y => y.1) (((digs V).length, ([] : List Int), (0 : Int))) (sl := [(1, _), (3, _), (4, _), (6, _)]) (hb := [(1, _)]) ?_ ⟨(by first | exact rfl | exact oi (by omega) rfl), (by first | exact rfl | exact oi (by omega) rfl), rfl, rfl, rfl, rfl, trivial⟩ ⟨obl rfl (by rw [List.append_nil, encW_rep]), rfl, trivial⟩ ?_
          · exact ShortAt.start _ _
          intro y hy
          obtain ⟨n, qs, r⟩ := y
          have hle := hy.le
          have hql : qs.length = (digs V).length - n := by have := hy.q; simp only at this; rw [this, digN_length]
          have hr : 0 ≤ r ∧ r < 10 := by have := hy.r; simp only at this; rw [this]; exact ⟨Int.emod_nonneg _ (by omega), Int.emod_lt_of_pos _ (by decide)⟩
          simp only at hle
          dsimp only
          refine ex_seq ?_
          refine exr ?_
          refine sw (core_move (L _ rfl)) ⟨rfl, trivial⟩ trivial ?_
          refine sw (core_geq (L _ rfl)) ⟨rfl, rfl, trivial⟩ trivial ?_
          refine seq_nil ⟨[(1, _), (3, _), (4, _), (5, _), (6, _), (7, _), (30, _)], [(1, _), (25, _)], ⟨rfl, rfl, rfl, rfl, rfl, rfl, rfl, trivial⟩, ⟨rfl, rfl, trivial⟩, ?_⟩
          refine ex_if rfl (fun hi => ?_) (fun hi => ?_)
          · have hi := dt hi
            obtain ⟨key, k1, k2⟩ := hy.next hqw (by decide) (by omega)
            have hw := hqw.getD (n - 1)
            refine ex_skip (show Exec _ _ _ _ _ from ?_)
            refine ex_seq ?_
            refine ex_block ?_
            refine exr ?_
            refine sw (core_move (L _ rfl)) ⟨rfl, trivial⟩ trivial ?_
            refine sw (core_shl (L _ rfl) (by decide) (shlE (c := 4294967296) (by rfl) (fu64 (by omega) (by omega)))) ⟨rfl, rfl, trivial⟩ trivial ?_
            refine sw (core_move (L _ rfl)) ⟨rfl, trivial⟩ trivial ?_
            refine sw (core_move (L _ rfl)) ⟨rfl, trivial⟩ trivial ?_
            refine sw (ixJ Tryd.underlying22 Tryd.sizeOf53 (j := n - 1) (by first | exact rfl | omega) (by omega) (by simp) (L _ rfl)) ⟨rfl, rfl, trivial⟩ trivial ?_
            refine sw (core_loadI1 Tryd.isAgg53 (by first | exact getW (by omega) | rfl) (L _ rfl)) ⟨rfl, trivial⟩ trivial ?_
            refine sw (core_conv Tryd.underlying53 Tryd.underlying52 (L _ rfl) (fu64 (by omega) (by omega))) ⟨rfl, trivial⟩ trivial ?_
            refine sw (core_or (L _ rfl) (or64' (b := r) 32 rfl hw.1 hw.2 hr.1 (by decide) (by omega) (by omega))) ⟨rfl, rfl, trivial⟩ trivial ?_
            refine sw (core_assign (L _ rfl)) ⟨rfl, trivial⟩ trivial ?_
            refine seq_nil ⟨[(1, _), (3, _), (4, _), (6, _), (7, _), (8, vw (r * 4294967296 + (digs V).getD (n - 1) 0))], [(1, _), (25, _)], ⟨rfl, rfl, rfl, rfl, rfl, oi (by omega) rfl, trivial⟩, ⟨rfl, rfl, trivial⟩, ?_⟩
            refine exr ?_
            refine sw (core_move (L _ rfl)) ⟨rfl, trivial⟩ trivial ?_
            refine sw (core_move (L _ rfl)) ⟨rfl, trivial⟩ trivial ?_
            refine sw (core_move (L _ rfl)) ⟨rfl, trivial⟩ trivial ?_
            refine sw (core_quo (L _ rfl) (by decide) (tdivE (by omega) (by omega))) ⟨rfl, rfl, trivial⟩ trivial ?_
            refine sw (core_conv Tryd.underlying52 Tryd.underlying53 (L _ rfl) (fu32 (by omega) (by omega))) ⟨rfl, trivial⟩ trivial ?_
            refine sw (ixR0 Tryd.underlying22 Tryd.sizeOf53 (by exact (by simp; omega)) (j := n - 1) (by first | exact rfl | omega) (by omega) (L _ rfl)) ⟨rfl, rfl, trivial⟩ ⟨rfl, trivial⟩ ?_
            refine sb (core_store1 Tryd.sizeOf53 (by exact (by simp; omega)) (.atom rfl) (by omega)) ⟨rfl, rfl, trivial⟩ ⟨rfl, trivial⟩ ?_
            refine seq_nil ⟨[(1, _), (3, _), (4, _), (6, _), (7, _), (8, _)], [(1, _), (25, _)], ⟨rfl, rfl, rfl, rfl, rfl, rfl, trivial⟩, ⟨rfl, rfl, trivial⟩, ?_⟩
            refine exr0 ?_
            refine sw (core_move (L _ rfl)) ⟨rfl, trivial⟩ trivial ?_
            refine sw (core_rem (L _ rfl) (by decide) (tmodE (by omega) (by omega))) ⟨rfl, rfl, trivial⟩ trivial ?_
            refine sw (core_assign (L _ rfl)) ⟨rfl, trivial⟩ trivial ?_
            refine seq_nil ?_
            refine exr0 ?_
            refine sw (core_move (L _ rfl)) ⟨rfl, trivial⟩ trivial ?_
            refine sw (core_sub (L _ rfl) (w64 (by omega) (by omega))) ⟨rfl, rfl, trivial⟩ trivial ?_
            refine sw (core_assign (L _ rfl)) ⟨rfl, trivial⟩ trivial ?_
            refine seq_nil ?_
            exact ⟨(n - 1, (r * 4294967296 + (digs V).getD (n - 1) 0) / 10 :: qs, (r * 4294967296 + (digs V).getD (n - 1) 0) % 10), key, (by simp only; omega), le_of ⟨(by first | exact rfl | exact oi (by omega) rfl), (by first | exact rfl | exact oi (by omega) rfl), rfl, rfl, rfl, rfl, trivial⟩ ⟨obl rfl (by rw [encW_set, set_rep (by omega)]), rfl, trivial⟩⟩
          · have hi := df hi
            have hn0 : n = 0 := by omega
            subst hn0
            have e1 : r = ((V % 10 : Nat) : Int) := by
              have := hy.r
              simp only [List.drop_zero] at this
              rw [this, hqv]; rfl
            have e2 : qs = digN (digs V).length ((V / 10 : Nat) : Int) := by
              have := hy.q
              simp only [List.drop_zero, Nat.sub_zero] at this
              rw [this, hqv]; rfl
            have e3 : trim qs = digs (V / 10) := by
              have hlt : (V : Int) < 4294967296 ^ (digs V).length := by rw [← hqv]; exact val_lt hqw
              rw [trim_eq_digs (by rw [e2]; exact digN_wd _ _), e2, val_digN (by omega) (by omega)]; rfl
            have key := hx.next (by omega : 0 < V)
            have eb : encB [UInt8.ofNat (48 + V % 10)] = [.a (.int .u8 (48 + r))] := by
              rw [e1]; simp [encB]; omega
            have hbkl := key.len
            simp only [List.length_append, List.length_cons, List.length_nil] at hbkl
            refine ex_exit (show Exec _ _ _ _ _ from ?_)
            refine exr ?_
            refine sw (core_move (L _ rfl)) ⟨rfl, trivial⟩ trivial ?_
            refine sw (core_move (L _ rfl)) ⟨rfl, trivial⟩ trivial ?_
            refine sw (core_add (L _ rfl) (fu64 (by omega) (by omega))) ⟨rfl, rfl, trivial⟩ trivial ?_
            refine sw (core_conv Tryd.underlying52 Tryd.underlying5 (L _ rfl) (fu8 (by omega) (by omega))) ⟨rfl, trivial⟩ trivial ?_
            refine sw (core_bsI (vs := [_]) Tryd.underlying50 Tryd.typeInfo5 rfl rfl (by decide) (by decide) rfl (zs_made (.cons rfl .nil) rfl) rfl (.cons rfl (.atom rfl) rfl (.put .here) .nil) (.cons .nil) (L _ rfl)) ⟨rfl, trivial⟩ trivial ?_
            refine swb (apN (k := 54) (sz := 1) Tryd.underlying50 Tryd.underlying50 Tryd.typeInfo5 rfl rfl rfl (by decide) (by simp) rfl (by first | (simp [Tryd.t5]; done) | (simp [Tryd.t5]; omega)) (by omega) (P0 _ rfl) (L _ rfl)) ⟨rfl, rfl, trivial⟩ trivial ⟨rfl, rfl⟩ ?_
            refine sw (core_assign (L _ rfl)) ⟨rfl, trivial⟩ trivial ?_
            refine seq_nil ⟨[(1, _), (3, _), (6, _)], [(1, _), (25, _), (54, _)], ⟨rfl, rfl, rfl, trivial⟩, ⟨rfl, rfl, rfl, trivial⟩, ?_⟩
            simp only [List.replicate_zero, List.nil_append]
            refine ex_cv [25] (sl := [(1, _), (3, _), (6, _)]) (hb := [(1, _), (54, _)]) (own_none hX0) ⟨⟨_, rfl, .same⟩, ⟨_, rfl, .same⟩, ⟨_, rfl, (.ref rfl rfl (by exact (by simp; omega)) (by first | rfl | omega))⟩, trivial⟩ ⟨⟨rfl, _, rfl, .same⟩, ⟨rfl, _, rfl, .same⟩, trivial⟩ ?_
            have a1 : Says E 76 [.sl (digs V).length (encW qs)] (pW (digs (V / 10))) := by
              have := rtrim_says qs (by omega)
              rw [e3] at this
              rw [show (digs V).length = qs.length by omega]; exact this
            refine exr0 ?_
            refine sw (core_move (L _ rfl)) ⟨rfl, trivial⟩ trivial ?_
            refine sw (core_call (E := E) hG hX Tryd.call76 rfl hN a1 (L _ rfl)) ⟨rfl, trivial⟩ trivial ?_
            refine sw (core_assign (L _ rfl)) ⟨rfl, trivial⟩ trivial ?_
            refine seq_nil ?_
            exact ⟨(V / 10, [] ++ [UInt8.ofNat (48 + V % 10)]), ⟨key, by simp only; omega⟩, (by simp only; omega), le_of ⟨(by first | exact rfl | exact oi (by omega) rfl), ov rfl (by simp), rfl, trivial⟩ ⟨obl rfl (by rw [List.nil_append, eb]), rfl, trivial⟩⟩
        · have hd := df hd
          have : (digs V).length = 0 := by omega
          rw [digs_len_zero] at this; omega
      · intro x hx
        obtain ⟨q, bk⟩ := x
        obtain ⟨hx, hqV⟩ := hx
        simp only at hqV
        dsimp only
        have hbk := hx.len
        refine ex_seq ?_
        refine exr ?_
        refine sw (core_move (L _ rfl)) ⟨rfl, trivial⟩ trivial ?_
        refine sw (core_len Tryd.underlying22 (L _ rfl)) ⟨rfl, trivial⟩ trivial ?_
        refine sw (core_gtr (L _ rfl)) ⟨rfl, rfl, trivial⟩ trivial ?_
        refine seq_nil ⟨[(1, _), (3, _), (4, _), (22, _)], [(1, _), (54, _)], ⟨rfl, rfl, rfl, rfl, trivial⟩, ⟨rfl, rfl, trivial⟩, ?_⟩
        refine ex_if rfl (fun hd => ?_) (fun hd => ?_)
        · have hq0 : 0 < q := by
            have hd := dt hd
            by_cases e : q = 0
            · subst e; rw [digs_zero] at hd; simp at hd
            · omega
          have hqv : val (digs q) = ((q : Nat) : Int) := val_digs _
          have hqn : (digs q).length ≤ ws.length := hdl q (by omega)
          have hqw := wd_digs q
          refine ex_skip (show Exec _ _ _ _ _ from ?_)
          refine ex_block ?_
          refine exr ?_
          refine sw (core_assign (L _ rfl)) ⟨rfl, trivial⟩ trivial ?_
          refine seq_nil ⟨[(1, _), (3, _), (4, _), (5, _)], [(1, _), (54, _)], ⟨rfl, rfl, rfl, rfl, trivial⟩, ⟨rfl, rfl, trivial⟩, ?_⟩
          refine exr ?_
          refine sw (core_move (L _ rfl)) ⟨rfl, trivial⟩ trivial ?_
          refine sw (core_len Tryd.underlying22 (L _ rfl)) ⟨rfl, trivial⟩ trivial ?_
          refine swb (core_make1 (k := 25) Tryd.underlying22 Tryd.typeInfo53 rfl rfl rfl rfl rfl rfl (Nat.le_refl _) (by simp [Tryd.t53]; omega) (by omega) (P0 _ rfl) (L _ rfl)) ⟨rfl, rfl, trivial⟩ trivial ⟨rfl, rfl⟩ ?_
          refine sw (core_assign (L _ rfl)) ⟨rfl, trivial⟩ trivial ?_
          refine seq_nil ⟨[(1, _), (3, _), (4, _), (5, _), (6, _)], [(1, _), (25, _), (54, _)], ⟨rfl, rfl, rfl, rfl, rfl, trivial⟩, ⟨rfl, rfl, rfl, trivial⟩, ?_⟩
          refine ex_seq ?_
          refine exr ?_
          refine sw (core_move (L _ rfl)) ⟨rfl, trivial⟩ trivial ?_
          refine sw (core_len Tryd.underlying22 (L _ rfl)) ⟨rfl, trivial⟩ trivial ?_
          refine sw (core_sub (L _ rfl) (w64 (by omega) (by omega))) ⟨rfl, rfl, trivial⟩ trivial ?_
          refine sw (core_assign (L _ rfl)) ⟨rfl, trivial⟩ trivial ?_
          refine seq_nil ⟨[(1, _), (3, _), (4, _), (5, _), (6, _), (7, _)], [(1, _), (25, _), (54, _)], ⟨rfl, rfl, rfl, rfl, rfl, rfl, trivial⟩, ⟨rfl, rfl, rfl, trivial⟩, ?_⟩
          refine ex_block ?_
          refine exl (α := (Nat × List Int × Int)) (fun y => [(7, vi ((y.1 : Int) - 1)), (5, vw y.2.2)]) (fun y => [(25, ⟨53, 1, .pure (encW (List.replicate y.1 0 ++ y.2.1))⟩)]) (fun y => ShortAt (digs q) 10 y) (fun y => y.1) (((digs q).length, ([] : List Int), (0 : Int))) (sl := [(1, _), (3, _), (4, _), (6, _)]) (hb := [(1, _), (54, _)]) ?_ ⟨(by first | exact rfl | exact oi (by omega) rfl), (by first | exact rfl | exact oi (by omega) rfl), rfl, rfl, rfl, rfl, trivial⟩ ⟨obl rfl (by rw [List.append_nil, encW_rep]), rfl, rfl, trivial⟩ ?_
          · exact ShortAt.start _ _
          intro y hy
          obtain ⟨n, qs, r⟩ := y
          have hle := hy.le
          have hql : qs.length = (digs q).length - n := by have := hy.q; simp only at this; rw [this, digN_length]
          have hr : 0 ≤ r ∧ r < 10 := by have := hy.r; simp only at this; rw [this]; exact ⟨Int.emod_nonneg _ (by omega), Int.emod_lt_of_pos _ (by decide)⟩
          simp only at hle
          dsimp only
          refine ex_seq ?_
          refine exr ?_
          refine sw (core_move (L _ rfl)) ⟨rfl, trivial⟩ trivial ?_
          refine sw (core_geq (L _ rfl)) ⟨rfl, rfl, trivial⟩ trivial ?_
          refine seq_nil ⟨[(1, _), (3, _), (4, _), (5, _), (6, _), (7, _), (30, _)], [(1, _), (25, _), (54, _)], ⟨rfl, rfl, rfl, rfl, rfl, rfl, rfl, trivial⟩, ⟨rfl, rfl, rfl, trivial⟩, ?_⟩
          refine ex_if rfl (fun hi => ?_) (fun hi => ?_)
          · have hi := dt hi
            obtain ⟨key, k1, k2⟩ := hy.next hqw (by decide) (by omega)
            have hw := hqw.getD (n - 1)
            refine ex_skip (show Exec _ _ _ _ _ from ?_)
            refine ex_seq ?_
            refine ex_block ?_
            refine exr ?_
            refine sw (core_move (L _ rfl)) ⟨rfl, trivial⟩ trivial ?_
            refine sw (core_shl (L _ rfl) (by decide) (shlE (c := 4294967296) (by rfl) (fu64 (by omega) (by omega)))) ⟨rfl, rfl, trivial⟩ trivial ?_
            refine sw (core_move (L _ rfl)) ⟨rfl, trivial⟩ trivial ?_
            refine sw (core_move (L _ rfl)) ⟨rfl, trivial⟩ trivial ?_
            refine sw (ixJ Tryd.underlying22 Tryd.sizeOf53 (j := n - 1) (by first | exact rfl | omega) (by omega) (by simp) (L _ rfl)) ⟨rfl, rfl, trivial⟩ trivial ?_
            refine sw (core_loadI1 Tryd.isAgg53 (by first | exact getW (by omega) | rfl) (L _ rfl)) ⟨rfl, trivial⟩ trivial ?_
            refine sw (core_conv Tryd.underlying53 Tryd.underlying52 (L _ rfl) (fu64 (by omega) (by omega))) ⟨rfl, trivial⟩ trivial ?_
            refine sw (core_or (L _ rfl) (or64' (b := r) 32 rfl hw.1 hw.2 hr.1 (by decide) (by omega) (by omega))) ⟨rfl, rfl, trivial⟩ trivial ?_
            refine sw (core_assign (L _ rfl)) ⟨rfl, trivial⟩ trivial ?_
            refine seq_nil ⟨[(1, _), (3, _), (4, _), (6, _), (7, _), (8, vw (r * 4294967296 + (digs q).getD (n - 1) 0))], [(1, _), (25, _), (54, _)], ⟨rfl, rfl, rfl, rfl, rfl, oi (by omega) rfl, trivial⟩, ⟨rfl, rfl, rfl, trivial⟩, ?_⟩
            refine exr ?_
            refine sw (core_move (L _ rfl)) ⟨rfl, trivial⟩ trivial ?_
            refine sw (core_move (L _ rfl)) ⟨rfl, trivial⟩ trivial ?_
            refine sw (core_move (L _ rfl)) ⟨rfl, trivial⟩ trivial ?_
            refine sw (core_quo (L _ rfl) (by decide) (tdivE (by omega) (by omega))) ⟨rfl, rfl, trivial⟩ trivial ?_
            refine sw (core_conv Tryd.underlying52 Tryd.underlying53 (L _ rfl) (fu32 (by omega) (by omega))) ⟨rfl, trivial⟩ trivial ?_
            refine sw (ixR0 Tryd.underlying22 Tryd.sizeOf53 (by exact (by simp; omega)) (j := n - 1) (by first | exact rfl | omega) (by omega) (L _ rfl)) ⟨rfl, rfl, trivial⟩ ⟨rfl, trivial⟩ ?_
            refine sb (core_store1 Tryd.sizeOf53 (by exact (by simp; omega)) (.atom rfl) (by omega)) ⟨rfl, rfl, trivial⟩ ⟨rfl, trivial⟩ ?_
            refine seq_nil ⟨[(1, _), (3, _), (4, _), (6, _), (7, _), (8, _)], [(1, _), (25, _), (54, _)], ⟨rfl, rfl, rfl, rfl, rfl, rfl, trivial⟩, ⟨rfl, rfl, rfl, trivial⟩, ?_⟩
            refine exr0 ?_
            refine sw (core_move (L _ rfl)) ⟨rfl, trivial⟩ trivial ?_
            refine sw (core_rem (L _ rfl) (by decide) (tmodE (by omega) (by omega))) ⟨rfl, rfl, trivial⟩ trivial ?_
            refine sw (core_assign (L _ rfl)) ⟨rfl, trivial⟩ trivial ?_
            refine seq_nil ?_
            refine exr0 ?_
            refine sw (core_move (L _ rfl)) ⟨rfl, trivial⟩ trivial ?_
            refine sw (core_sub (L _ rfl) (w64 (by omega) (by omega))) ⟨rfl, rfl, trivial⟩ trivial ?_
            refine sw (core_assign (L _ rfl)) ⟨rfl, trivial⟩ trivial ?_
            refine seq_nil ?_
            exact ⟨(n - 1, (r * 4294967296 + (digs q).getD (n - 1) 0) / 10 :: qs, (r * 4294967296 + (digs q).getD (n - 1) 0) % 10), key, (by simp only; omega), le_of ⟨(by first | exact rfl | exact oi (by omega) rfl), (by first | exact rfl | exact oi (by omega) rfl), rfl, rfl, rfl, rfl, trivial⟩ ⟨obl rfl (by rw [encW_set, set_rep (by omega)]), rfl, rfl, trivial⟩⟩
          · have hi := df hi
            have hn0 : n = 0 := by omega
            subst hn0
            have e1 : r = ((q % 10 : Nat) : Int) := by
              have := hy.r
              simp only [List.drop_zero] at this
              rw [this, hqv]; rfl
            have e2 : qs = digN (digs q).length ((q / 10 : Nat) : Int) := by
              have := hy.q
              simp only [List.drop_zero, Nat.sub_zero] at this
              rw [this, hqv]; rfl
            have e3 : trim qs = digs (q / 10) := by
              have hlt : (q : Int) < 4294967296 ^ (digs q).length := by rw [← hqv]; exact val_lt hqw
              rw [trim_eq_digs (by rw [e2]; exact digN_wd _ _), e2, val_digN (by omega) (by omega)]; rfl
            have key := hx.next (by omega : 0 < q)
            have eb : encB [UInt8.ofNat (48 + q % 10)] = [.a (.int .u8 (48 + r))] := by
              rw [e1]; simp [encB]; omega
            have hbkl := key.len
            simp only [List.length_append, List.length_cons, List.length_nil] at hbkl
            refine ex_exit (show Exec _ _ _ _ _ from ?_)
            refine exr ?_
            refine sw (core_move (L _ rfl)) ⟨rfl, trivial⟩ trivial ?_
            refine sw (core_move (L _ rfl)) ⟨rfl, trivial⟩ trivial ?_
            refine sw (core_add (L _ rfl) (fu64 (by omega) (by omega))) ⟨rfl, rfl, trivial⟩ trivial ?_
            refine sw (core_conv Tryd.underlying52 Tryd.underlying5 (L _ rfl) (fu8 (by omega) (by omega))) ⟨rfl, trivial⟩ trivial ?_
            refine sw (core_bsI (vs := [_]) Tryd.underlying50 Tryd.typeInfo5 rfl rfl (by decide) (by decide) rfl (zs_made (.cons rfl .nil) rfl) rfl (.cons rfl (.atom rfl) rfl (.put .here) .nil) (.cons .nil) (L _ rfl)) ⟨rfl, trivial⟩ trivial ?_
            refine swb (apP (sz := 1) Tryd.underlying50 Tryd.underlying50 Tryd.typeInfo5 rfl rfl rfl (by decide) (by exact (by simp)) (by omega) (by simp) rfl rfl rfl (by first | (simp [Tryd.t5]; done) | (simp [Tryd.t5]; omega)) (by omega) (P0 _ rfl) (L _ rfl)) ⟨rfl, rfl, trivial⟩ ⟨rfl, trivial⟩ trivial ?_
            refine sw (core_assign (L _ rfl)) ⟨rfl, trivial⟩ trivial ?_
            refine seq_nil ⟨[(1, _), (3, _), (6, _)], [(1, _), (25, _), (54, _)], ⟨rfl, rfl, rfl, trivial⟩, ⟨rfl, rfl, rfl, trivial⟩, ?_⟩
            simp only [List.replicate_zero, List.nil_append]
            refine ex_cv [25] (sl := [(1, _), (3, _), (6, _)]) (hb := [(1, _), (54, _)]) (own_none hX0) ⟨⟨_, rfl, .same⟩, ⟨_, rfl, .same⟩, ⟨_, rfl, (.ref rfl rfl (by exact (by simp; omega)) (by first | rfl | omega))⟩, trivial⟩ ⟨⟨rfl, _, rfl, .same⟩, ⟨rfl, _, rfl, .same⟩, trivial⟩ ?_
            have a1 : Says E 76 [.sl (digs q).length (encW qs)] (pW (digs (q / 10))) := by
              have := rtrim_says qs (by omega)
              rw [e3] at this
              rw [show (digs q).length = qs.length by omega]; exact this
            refine exr0 ?_
            refine sw (core_move (L _ rfl)) ⟨rfl, trivial⟩ trivial ?_
            refine sw (core_call (E := E) hG hX Tryd.call76 rfl hN a1 (L _ rfl)) ⟨rfl, trivial⟩ trivial ?_
            refine sw (core_assign (L _ rfl)) ⟨rfl, trivial⟩ trivial ?_
            refine seq_nil ?_
            exact ⟨(q / 10, bk ++ [UInt8.ofNat (48 + q % 10)]), ⟨key, by simp only; omega⟩, (by simp only; omega), le_of ⟨(by first | exact rfl | exact oi (by omega) rfl), ov rfl (by simp), rfl, trivial⟩ ⟨obl rfl (by rw [← encB_app, eb]), rfl, trivial⟩⟩
        · have hd := df hd
          have hq0 : q = 0 := by
            have : (digs q).length = 0 := by omega
            rwa [digs_len_zero] at this
          subst hq0
          have hend := hx.nil rfl
          simp only at hend
          have hitoa := printV_eq hcn hpos
          rw [← hV, hend] at hitoa
          obtain ⟨S, hS⟩ : ∃ S : List UInt8, S = if neg = true then [45] else [] := ⟨_, rfl⟩
          have hSl : S.length ≤ 1 := by rw [hS]; split <;> simp
          rw [← hS] at hitoa
          have hrev : (bk ++ S).reverse = printV neg ws := by
            rw [← hitoa, List.reverse_append]; congr 1
            rw [hS]; split <;> rfl
          refine ex_exit (show Exec _ _ _ _ _ from ?_)
          refine ex_seq ?_
          refine exr ?_
          refine sw (core_fieldAddr Tryd.underlying24 rfl Tryd.sizeOf4 (by decide) (by exact rfl) (L _ rfl)) ⟨rfl, trivial⟩ ⟨rfl, trivial⟩ ?_
          refine sw (core_load1 Tryd.isAgg4 (by rfl) (by rfl) (L _ rfl)) ⟨rfl, trivial⟩ ⟨rfl, trivial⟩ ?_
          refine seq_nil ⟨[(3, _), (58, _)], [(54, _)], ⟨rfl, rfl, trivial⟩, ⟨rfl, trivial⟩, ?_⟩
          refine ex_cut (sl := [(3, .ref 54 0 (bk ++ S).length (bk ++ S).length)]) (sl0 := []) (hb := [(54, ⟨5, 1, .pure (encB (bk ++ S))⟩)]) (hb0 := []) trivial trivial ?_ ?_
          · refine ex_if rfl (fun hg => ?_) (fun hg => ?_)
            · refine exr0 ?_
              refine sw (core_move (L _ rfl)) ⟨rfl, trivial⟩ trivial ?_
              refine sw (core_bsI (vs := [_]) Tryd.underlying50 Tryd.typeInfo5 rfl rfl (by decide) (by decide) rfl (zs_made (.cons rfl .nil) rfl) rfl (.cons rfl (.atom rfl) rfl (.put .here) .nil) (.cons .nil) (L _ rfl)) ⟨rfl, trivial⟩ trivial ?_
              refine swb (apP (sz := 1) Tryd.underlying50 Tryd.underlying50 Tryd.typeInfo5 rfl rfl rfl (by decide) (by exact (by simp)) (by omega) (by simp) rfl rfl rfl (by first | (simp [Tryd.t5]; done) | (simp [Tryd.t5]; omega)) (by omega) (P0 _ rfl) (L _ rfl)) ⟨rfl, rfl, trivial⟩ ⟨rfl, trivial⟩ trivial ?_
              refine sw (core_assign (L _ rfl)) ⟨rfl, trivial⟩ trivial ?_
              refine seq_nil ?_
              exact ⟨⟨ov rfl (by rw [hS, if_pos hg]; simp), trivial⟩, ⟨obl rfl (by rw [hS, if_pos hg, ← encB_app]; rfl), trivial⟩⟩
            · refine ex_skip ?_
              exact ⟨⟨ov rfl (by rw [hS, if_neg (by simp [hg])]; simp), trivial⟩, ⟨obl rfl (by rw [hS, if_neg (by simp [hg])]; simp), trivial⟩⟩
          · obtain ⟨Q, hL⟩ : ∃ Q, Q = bk ++ S := ⟨_, rfl⟩
            have hLl : Q.length ≤ 10 * nw (V : Int) + 3 := by rw [hL]; simp; omega
            rw [← hL] at hrev ⊢
            refine exr ?_
            refine sw (core_move (L _ rfl)) ⟨rfl, trivial⟩ trivial ?_
            refine sw (core_lenR Tryd.underlying50 (by exact (by simp)) (L _ rfl)) ⟨rfl, trivial⟩ ⟨rfl, trivial⟩ ?_
            refine swb (core_make1 (k := 64) Tryd.underlying50 Tryd.typeInfo5 rfl rfl rfl rfl rfl rfl (Nat.le_refl _) (by simp [Tryd.t5]; omega) (by omega) (P0 _ rfl) (L _ rfl)) ⟨rfl, rfl, trivial⟩ trivial ⟨rfl, rfl⟩ ?_
            refine sw (core_assign (L _ rfl)) ⟨rfl, trivial⟩ trivial ?_
            refine seq_nil ⟨[(3, _), (9, _)], [(54, _), (64, _)], ⟨rfl, rfl, trivial⟩, ⟨rfl, rfl, trivial⟩, ?_⟩
            refine ex_seq ?_
            refine exr ?_
            refine sw (core_assign (L _ rfl)) ⟨rfl, trivial⟩ trivial ?_
            refine seq_nil ⟨[(3, _), (9, _), (10, _)], [(54, _), (64, _)], ⟨rfl, rfl, rfl, trivial⟩, ⟨rfl, rfl, trivial⟩, ?_⟩
            refine ex_block ?_
            refine exl (α := Nat) (fun i => [(10, vi (i : Int))]) (fun i => [(64, ⟨5, 1, .pure (encB (Q.reverse.take i ++ List.replicate (Q.length - i) 0))⟩)]) (fun i => i ≤ Q.length) (fun i => Q.length - i) (0) (sl := [(3, _), (9, _)]) (hb := [(54, _)]) ?_ ⟨(by first | exact rfl | exact oi (by omega) rfl), rfl, rfl, trivial⟩ ⟨obl rfl (by simp [encB]), rfl, trivial⟩ ?_
            · exact Nat.zero_le _
            intro i hi
            refine ex_seq ?_
            refine exr ?_
            refine sw (core_move (L _ rfl)) ⟨rfl, trivial⟩ trivial ?_
            refine sw (core_move (L _ rfl)) ⟨rfl, trivial⟩ trivial ?_
            refine sw (core_lenR Tryd.underlying50 (by exact (by simp)) (L _ rfl)) ⟨rfl, trivial⟩ ⟨rfl, trivial⟩ ?_
            refine sw (core_lss (L _ rfl)) ⟨rfl, rfl, trivial⟩ trivial ?_
            refine seq_nil ⟨[(3, _), (9, _), (10, _), (68, _)], [(54, _), (64, _)], ⟨rfl, rfl, rfl, rfl, trivial⟩, ⟨rfl, rfl, trivial⟩, ?_⟩
            refine ex_if rfl (fun hf => ?_) (fun hf => ?_)
            · have hf := dt hf
              have hgt := rev_get (bk := Q) (i := i) (by omega)
              have hput := put_byte (R := Q.reverse) (i := i) (by simp; omega)
              rw [List.length_reverse] at hput
              refine ex_skip (show Exec _ _ _ _ _ from ?_)
              refine ex_seq ?_
              refine ex_block ?_
              refine exr0 ?_
              refine sw (core_move (L _ rfl)) ⟨rfl, trivial⟩ trivial ?_
              refine sw (core_move (L _ rfl)) ⟨rfl, trivial⟩ trivial ?_
              refine sw (core_move (L _ rfl)) ⟨rfl, trivial⟩ trivial ?_
              refine sw (core_move (L _ rfl)) ⟨rfl, trivial⟩ trivial ?_
              refine sw (core_lenR Tryd.underlying50 (by exact (by simp)) (L _ rfl)) ⟨rfl, trivial⟩ ⟨rfl, trivial⟩ ?_
              refine sw (core_sub (L _ rfl) (w64 (by omega) (by omega))) ⟨rfl, rfl, trivial⟩ trivial ?_
              refine sw (core_move (L _ rfl)) ⟨rfl, trivial⟩ trivial ?_
              refine sw (core_sub (L _ rfl) (w64 (by omega) (by omega))) ⟨rfl, rfl, trivial⟩ trivial ?_
              refine sw (ixR0 Tryd.underlying50 Tryd.sizeOf5 (by exact (by simp)) (j := Q.length - 1 - i) (by first | exact rfl | omega) (by omega) (L _ rfl)) ⟨rfl, rfl, trivial⟩ ⟨rfl, trivial⟩ ?_
              refine sw (core_load1 Tryd.isAgg5 (by exact (by simp)) (getC (by first | exact getB (by omega) | rfl)) (L _ rfl)) ⟨rfl, trivial⟩ ⟨rfl, trivial⟩ ?_
              refine sw (ixR0 Tryd.underlying50 Tryd.sizeOf5 (by exact (by simp; omega)) (j := i) (by first | exact rfl | omega) (by omega) (L _ rfl)) ⟨rfl, rfl, trivial⟩ ⟨rfl, trivial⟩ ?_
              refine sb (core_store1 Tryd.sizeOf5 (by exact (by simp; omega)) (.atom rfl) (by omega)) ⟨rfl, rfl, trivial⟩ ⟨rfl, trivial⟩ ?_
              refine seq_nil ?_
              refine exr0 ?_
              refine sw (core_move (L _ rfl)) ⟨rfl, trivial⟩ trivial ?_
              refine sw (core_add (L _ rfl) (w64 (by omega) (by omega))) ⟨rfl, rfl, trivial⟩ trivial ?_
              refine sw (core_assign (L _ rfl)) ⟨rfl, trivial⟩ trivial ?_
              refine seq_nil ?_
              exact ⟨i + 1, (by omega), (by omega), le_of ⟨(by first | exact rfl | exact oi (by omega) rfl), rfl, rfl, trivial⟩ ⟨obl rfl (by rw [hgt, ← hput]; simp [encB, List.map_set]), rfl, trivial⟩⟩
            · have hf := df hf
              have hiL : i = Q.length := by omega
              subst hiL
              rw [show Q.reverse.take Q.length ++ List.replicate (Q.length - Q.length) 0 = Q.reverse by rw [Nat.sub_self, List.take_of_length_le (by simp)]; simp]
              refine ex_exit (show Exec _ _ _ _ _ from ?_)
              refine exr ?_
              refine sw (core_move (L _ rfl)) ⟨rfl, trivial⟩ trivial ?_
              refine sw (core_b2s (l := Q.reverse) Tryd.underlying50 Tryd.underlying5 Tryd.underlying9 rfl (by simp) rfl rfl (L _ rfl)) ⟨rfl, trivial⟩ ⟨rfl, trivial⟩ ?_
              refine sw (core_assign (L _ rfl)) ⟨rfl, trivial⟩ trivial ?_
              refine seq_nil ⟨[(2, _)], [], ⟨rfl, trivial⟩, trivial, ?_⟩
              refine ex_ret ?_
              refine ⟨.inr rfl, ResVs.cast (.cons (.tmp rfl) .nil) ?_⟩
              rw [hrev]; rfl

end Go.Proofs.YtebkelnibecmjaaDoor.N
