/- Part F of the proof: lemmas for the walks of the given functions. No statement of its own. -/
import Derived.Test.YtcifhkfpmhifaaaGreatDoorPE
set_option linter.unusedVariables false
set_option linter.unusedSimpArgs false
set_option linter.deprecated false
namespace Go.Proofs.YtcifhkfpmhifaaaGreatDoor.NumA
theorem num_ge_of {c : Rat} {X : Int} (h0 : 0 < c) (h : ∀ m : Int, c ≤ (m : Rat) → X ≤ m) : X ≤ c.num := by
  refine h _ ?_
  have hd := c.den_pos
  have hn := num_pos' h0
  rw [Rat.le_iff, Rat.num_intCast, Rat.den_intCast]
  exact Int.mul_le_mul_of_nonneg_left (by omega) (by omega)
theorem int_lt_of {a b : Int} {x : Rat} (h1 : (a : Rat) < x) (h2 : x ≤ (b : Rat)) : a + 1 ≤ b := by
  have : (a : Rat) < (b : Rat) := by grind
  have := Rat.intCast_lt_intCast.1 this
  omega
theorem simp_best : ∀ (n : Nat) (lo hi : Rat), Fin' n lo hi → 0 < lo → lo ≤ hi →
    (lo ≤ cfV (cf n lo hi) ∧ cfV (cf n lo hi) ≤ hi) ∧ ∀ c, lo ≤ c → c ≤ hi → (cfV (cf n lo hi)).num ≤ c.num ∧ (cfV (cf n lo hi)).den ≤ c.den
  | 0, _, _, h, _, _ => h.elim
  | n + 1, lo, hi, h, h0, hle => by
    have h3 := Rat.floor_le lo
    by_cases hE : cfE lo hi = true
    · have hV : cfV (cf (n + 1) lo hi) = (cfX lo hi : Rat) := by
        rw [cf, if_pos hE, cfV, cfV, Rat.inv_zero, Rat.add_zero]
      rw [hV]
      have hX : (lo ≤ (cfX lo hi : Rat) ∧ (cfX lo hi : Rat) ≤ hi) ∧ ∀ m : Int, lo ≤ (m : Rat) → cfX lo hi ≤ m := by
        unfold cfX
        split
        · rename_i e
          exact ⟨⟨by rw [e]; exact Rat.le_refl, by rw [e]; exact hle⟩, fun m hm => Rat.intCast_le_intCast.1 (e ▸ hm)⟩
        · rename_i e
          have e1 : (lo.floor : Rat) < lo := Rat.lt_of_le_of_ne h3 e
          split
          · rename_i e2
            refine ⟨⟨?_, e2⟩, fun m hm => int_lt_of e1 hm⟩
            exact Rat.le_of_lt (Rat.lt_floor_add_one lo)
          · rename_i e2
            rw [cfE, Bool.or_eq_true, decide_eq_true_eq, decide_eq_true_eq] at hE
            exact absurd hE (fun c => c.elim e e2)
      refine ⟨hX.1, fun c h1 h2 => ⟨?_, ?_⟩⟩
      · rw [Rat.num_intCast]
        exact num_ge_of (by grind) fun m hm => hX.2 m (by grind)
      · rw [Rat.den_intCast]; exact c.den_pos
    · obtain ⟨q1, q2, q3, q4⟩ := cfE_not hle hE
      obtain ⟨r1, r2⟩ := cfN_le hle hE
      have hf := h.resolve_left hE
      obtain ⟨⟨b1, b2⟩, b3⟩ := simp_best n _ _ hf (by grind) r2
      have hX : cfX lo hi = lo.floor := by
        have hE' := hE
        rw [cfE, Bool.or_eq_true, decide_eq_true_eq, decide_eq_true_eq, not_or] at hE'
        rw [cfX, if_neg hE'.1, if_neg hE'.2]
      have hV : cfV (cf (n + 1) lo hi) = (lo.floor : Rat) + (cfV (cf n (cfN lo hi).1 (cfN lo hi).2))⁻¹ := by rw [cf, if_neg hE, cfV, hX]
      rw [hV]
      obtain ⟨v, hv⟩ : ∃ v, v = cfV (cf n (cfN lo hi).1 (cfN lo hi).2) := ⟨_, rfl⟩
      rw [← hv] at b1 b2 b3 ⊢
      have v0 : 0 < v := by grind
      have e1 : lo - (lo.floor : Rat) ≤ v⁻¹ := by
        have := inv_le_inv v0 b2
        simp only [cfN, Rat.inv_inv] at this
        exact this
      have e2 : v⁻¹ ≤ hi - (lo.floor : Rat) := by
        have := inv_le_inv (x := (cfN lo hi).1) (y := v) (by grind) b1
        simp only [cfN, Rat.inv_inv] at this
        exact this
      refine ⟨⟨by grind, by grind⟩, fun c c1 c2 => ?_⟩
      have c3 : 0 < c - (lo.floor : Rat) := by grind
      obtain ⟨i1, i2⟩ := b3 (c - (lo.floor : Rat))⁻¹ (inv_le_inv c3 (by grind)) (inv_le_inv q3 (by grind))
      obtain ⟨j1, j2⟩ := inv_pos_nd c3
      obtain ⟨k1, k2⟩ := sub_int c lo.floor
      obtain ⟨l1, l2⟩ := inv_pos_nd v0
      obtain ⟨m1, m2⟩ := sub_int v⁻¹ (-lo.floor)
      have hs : (lo.floor : Rat) + v⁻¹ = v⁻¹ - ((-lo.floor : Int) : Rat) := by rw [Rat.intCast_neg]; grind
      have hfl : 0 ≤ lo.floor := Rat.le_floor_iff.2 (by exact Rat.le_of_lt h0)
      have hmul : lo.floor * v.num ≤ lo.floor * (c.den : Int) := Int.mul_le_mul_of_nonneg_left (by rw [j1, k2] at i1; exact i1) hfl
      rw [hs, m1, m2]
      refine ⟨?_, ?_⟩
      · rw [l1, l2, Int.neg_mul]; omega
      · have : (v⁻¹.den : Int) ≤ c.den := by rw [l2]; rw [j1, k2] at i1; exact i1
        omega
end Go.Proofs.YtcifhkfpmhifaaaGreatDoor.NumA
set_option maxRecDepth 100000
set_option maxHeartbeats 4000000
namespace Go.Proofs.YtcifhkfpmhifaaaGreatDoor.N
open Go Go.Proofs.YtcifhkfpmhifaaaGreatDoor.SH Go.Proofs.YtcifhkfpmhifaaaGreatDoor.NumA
open Go.Proofs.Tryz renaming call10 → cl10, call16 → cl16, call20 → cl20, call21 → cl21, call26 → cl26, call46 → cl46, call47 → cl47, call48 → cl48, isAgg24 → ag24, isAgg26 → ag26, sizeOf24 → sz24, sizeOf26 → sz26, underlying26 → un26, zeroValue26 → zv26
theorem sQ_all {lo hi : Rat} (hle : lo ≤ hi) : (lo ≤ sQ lo hi ∧ sQ lo hi ≤ hi) ∧ ∀ c, lo ≤ c → c ≤ hi → (sQ lo hi).den ≤ c.den ∧ (sQ lo hi).num.natAbs ≤ c.num.natAbs := by
 have pos : ∀ lo hi : Rat, 0 < lo → lo ≤ hi → (lo ≤ simpP lo hi ∧ simpP lo hi ≤ hi) ∧ ∀ c, lo ≤ c → c ≤ hi → (simpP lo hi).den ≤ c.den ∧ (simpP lo hi).num.natAbs ≤ c.num.natAbs := fun lo hi h0 hle => by
  obtain ⟨h1, h2⟩ := simp_best _ lo hi (fin_of _ lo hi hle (bl_lt _)) h0 hle
  refine ⟨h1, fun c c1 c2 => ?_⟩
  obtain ⟨h3, h4⟩ := h2 c c1 c2
  have p1 := num_pos' (x := simpP lo hi) (by have := h1.1; unfold simpP; grind)
  refine ⟨h4, ?_⟩
  unfold simpP at p1 ⊢
  omega
 rw [sQ]
 split
 ·rename_i h
  exact ⟨h, fun c _ _ => ⟨c.den_pos, Nat.zero_le _⟩⟩
 ·rename_i h
  split
  ·rename_i hn
   obtain ⟨⟨h1, h2⟩, h3⟩ := pos (-hi) (-lo) (by grind) (by grind)
   refine ⟨⟨by grind, by grind⟩, fun c c1 c2 => ?_⟩
   obtain ⟨h4, h5⟩ := h3 (-c) (by grind) (by grind)
   rw [Rat.neg_den, Rat.neg_num, Int.natAbs_neg]
   rw [Rat.neg_den] at h4
   rw [Rat.neg_num, Int.natAbs_neg] at h5
   exact ⟨h4, h5⟩
  ·exact pos lo hi (by grind) hle
theorem sQ_sub {lo hi a b : Rat} (h1 : lo ≤ a) (h2 : b ≤ hi) (h3 : a ≤ sQ lo hi) (h4 : sQ lo hi ≤ b) : sQ a b = sQ lo hi := by
 obtain ⟨⟨a1, a2⟩, a3⟩ := sQ_all (lo := a) (hi := b) (by grind)
 obtain ⟨⟨b1, b2⟩, b3⟩ := sQ_all (lo := lo) (hi := hi) (by grind)
 obtain ⟨c1, c2⟩ := a3 _ h3 h4
 obtain ⟨d1, d2⟩ := b3 (sQ a b) (by grind) (by grind)
 have hd : (sQ a b).den = (sQ lo hi).den := by omega
 rcases Int.natAbs_eq_natAbs_iff.1 (show (sQ a b).num.natAbs = (sQ lo hi).num.natAbs by omega) with e | e
 ·exact Rat.ext e hd
 ·have hs : sQ a b = -sQ lo hi := Rat.ext (by rw [Rat.neg_num, e]) (by rw [Rat.neg_den, hd])
  obtain ⟨z1, z2⟩ := a3 0 (by grind) (by grind)
  have : (sQ a b).num = 0 := by
   have e0 : ((0 : Rat)).num.natAbs = 0 := rfl
   omega
  rw [Rat.num_eq_zero] at this
  grind
theorem sQ_qw {lo hi : Rat} (hle : lo ≤ hi) : qw (sQ lo hi) ≤ qw lo := by
 obtain ⟨h1, h2⟩ := (sQ_all hle).2 lo (Rat.le_refl) hle
 have e1 : nw (sQ lo hi).num ≤ nw lo.num := nw_mono h2
 have e2 : nw ((sQ lo hi).den : Int) ≤ nw (lo.den : Int) := nw_mono (by omega)
 unfold qw; omega
theorem cmpI_gt {a b : Int} : (cmpI a b > 0) ↔ b < a := by unfold cmpI; repeat' split <;> omega
theorem or3 (a b c : Prop) : a ∨ (¬ a ∧ b) ∨ (¬ a ∧ ¬ b) := by
 by_cases a <;> by_cases b <;> simp [*]
theorem simplest_says (am an bm bn cm cn : Bool) (aw av bw bv cw cv : List Int) (w1 : Wd aw) (w2 : Wd av) (w3 : Wd bw) (w4 : Wd bv) (w5 : Wd cw) (w6 : Wd cv) : Says E 6 [pR am aw an av, pR bm bw bn bv, pR cm cw cn cv] (bZ true) := by
 refine says_of (xs := [bZ true]) Tryz.func6 rfl Tryz.ntmps6 Tryz.results6 (by simp) fun F hG hX0 hnt hdf P0 => ?_
 obtain ⟨L, hX, hN⟩ := pro hnt hX0 hG
 refine exr (swb (c_bx (k := 3) (n := 4) pa4 rfl rfl (P0 _ rfl) (L rfl)) t1 t0 ⟨rfl, rfl⟩ (swb (c_bx (k := 4) (n := 4) pa4 rfl rfl (P0 _ rfl) (L rfl)) t1 t0 ⟨rfl, rfl⟩ (swb (c_bx (k := 5) (n := 4) pa4 rfl rfl (P0 _ rfl) (L rfl)) t1 t0 ⟨rfl, rfl⟩ (aV (L rfl) rfl (zn [(3,_),(4,_),(5,_)] [(3,_),(4,_),(5,_)] t3 t3 (ex_seq ?_))))))
 refine exm (sl := [(24, vb (!(smallR 6 ⟨am, aw, an, av⟩ && smallR 6 ⟨bm, bw, bn, bv⟩ && smallR 6 ⟨cm, cw, cn, cv⟩)))]) (sl0 := [(3,_),(4,_),(5,_)]) (hb := []) (hb0 := [(3,_),(4,_),(5,_)]) t3 t3 ?_ ?_
 ·rcases or3 (smallR 6 ⟨am, aw, an, av⟩ = false) (smallR 6 ⟨bm, bw, bn, bv⟩ = false) True with hA | ⟨hA, hB⟩ | ⟨hA, hB⟩
  ·refine lp4 ag26 sz26 (L rfl) rfl rfl (cK hG hX cl21 hN (small_says (r := ⟨am, aw, an, av⟩) 6 ⟨w1, w2⟩ (by decide)) (L rfl) t2 ?_)
   refine sw (c_no (L rfl)) t1 t0 (mV (L rfl) rfl (swn (g := 15) rfl (by simp [hA]) (L rfl) rfl ?_))
   refine swn (g := 15) rfl (by simp [hA]) (L rfl) rfl ?_
   refine swn (g := 15) rfl (by simp [hA]) (L rfl) rfl ?_
   refine sw (c_pt (by simp [hA]) (L rfl)) t2 t0 ?_
   refine mV (L rfl) rfl (swn (g := 20) rfl rfl (L rfl) rfl (swn (g := 20) rfl rfl (L rfl) rfl (swn (g := 20) rfl rfl (L rfl) rfl (sw (c_pt rfl (L rfl)) t2 t0 ?_))))
   exact seq_nil ⟨⟨ob rfl (by simp [hA]), rfl, rfl, rfl, trivial⟩, t3⟩
  ·have hA : smallR 6 ⟨am, aw, an, av⟩ = true := (by simpa using hA)
   refine lp4 ag26 sz26 (L rfl) rfl rfl (cK hG hX cl21 hN (small_says (r := ⟨am, aw, an, av⟩) 6 ⟨w1, w2⟩ (by decide)) (L rfl) t2 ?_)
   refine sw (c_no (L rfl)) t1 t0 (mV (L rfl) rfl (swg (g := 15) rfl (by simp [hA]) (c_lp ag26 sz26 (by rfl) (by exact al4) rfl (L rfl)) rfl t1 t1 ?_))
   refine swg (g := 15) rfl (by simp [hA]) (c_c hG hX cl21 rfl hN (small_says (r := ⟨bm, bw, bn, bv⟩) 6 ⟨w3, w4⟩ (by decide)) (L rfl)) rfl t2 t0 ?_
   refine swg (g := 15) rfl (by simp [hA]) (c_no (L rfl)) rfl t1 t0 ?_
   refine sw (c_pf (by simp [hA]) (L rfl)) t2 t0 ?_
   refine mV (L rfl) rfl (swn (g := 20) rfl (by simp [hB]) (L rfl) rfl ?_)
   refine swn (g := 20) rfl (by simp [hB]) (L rfl) rfl ?_
   refine swn (g := 20) rfl (by simp [hB]) (L rfl) rfl ?_
   refine sw (c_pt (by simp [hB]) (L rfl)) t2 t0 ?_
   exact seq_nil ⟨⟨ob rfl (by simp [hA, hB]), rfl, rfl, rfl, trivial⟩, t3⟩
  ·have hA : smallR 6 ⟨am, aw, an, av⟩ = true := (by simpa using hA); have hB : smallR 6 ⟨bm, bw, bn, bv⟩ = true := (by simpa using hB)
   refine lp4 ag26 sz26 (L rfl) rfl rfl (cK hG hX cl21 hN (small_says (r := ⟨am, aw, an, av⟩) 6 ⟨w1, w2⟩ (by decide)) (L rfl) t2 ?_)
   refine sw (c_no (L rfl)) t1 t0 (mV (L rfl) rfl (swg (g := 15) rfl (by simp [hA]) (c_lp ag26 sz26 (by rfl) (by exact al4) rfl (L rfl)) rfl t1 t1 ?_))
   refine swg (g := 15) rfl (by simp [hA]) (c_c hG hX cl21 rfl hN (small_says (r := ⟨bm, bw, bn, bv⟩) 6 ⟨w3, w4⟩ (by decide)) (L rfl)) rfl t2 t0 ?_
   refine swg (g := 15) rfl (by simp [hA]) (c_no (L rfl)) rfl t1 t0 ?_
   refine sw (c_pf (by simp [hA]) (L rfl)) t2 t0 ?_
   refine mV (L rfl) rfl (swg (g := 20) rfl (by simp [hB]) (c_lp ag26 sz26 (by rfl) (by exact al4) rfl (L rfl)) rfl t1 t1 ?_)
   refine swg (g := 20) rfl (by simp [hB]) (c_c hG hX cl21 rfl hN (small_says (r := ⟨cm, cw, cn, cv⟩) 6 ⟨w5, w6⟩ (by decide)) (L rfl)) rfl t2 t0 ?_
   refine swg (g := 20) rfl (by simp [hB]) (c_no (L rfl)) rfl t1 t0 ?_
   refine sw (c_pf (by simp [hB]) (L rfl)) t2 t0 ?_
   exact seq_nil ⟨⟨ob rfl (by simp [hA, hB]), rfl, rfl, rfl, trivial⟩, t3⟩
 refine ex_if rfl (fun hc => ?_) (fun hc => ?_)
 ·refine exr (cK hG hX cl10 hN sane_says (L rfl) t0 (aV (L rfl) rfl (zn [(6,_)] [] t1 trivial (ex_ret ?_))))
  refine ⟨.inr rfl, ResVs.cast (.cons (.tmp rfl) .nil) ?_⟩
  rfl
 ·have hc : (smallR 6 ⟨am, aw, an, av⟩ = true ∧ smallR 6 ⟨bm, bw, bn, bv⟩ = true) ∧ smallR 6 ⟨cm, cw, cn, cv⟩ = true := by simpa using hc
  obtain ⟨lo, ⟨rfl, rfl, rfl, rfl⟩, qa⟩ := small_q (k := 6) hc.1.1 w1 w2
  obtain ⟨hi, ⟨rfl, rfl, rfl, rfl⟩, qb⟩ := small_q (k := 6) hc.1.2 w3 w4
  obtain ⟨c, ⟨rfl, rfl, rfl, rfl⟩, qc⟩ := small_q (k := 6) hc.2 w5 w6
  have qa9 : qw lo < 1000000000 := by omega
  have qb9 : qw hi < 1000000000 := by omega
  have qc9 : qw c < 1000000000 := by omega
  refine ex_skip (show Exec _ _ _ _ _ from ?_)
  refine exr (lp4 ag26 sz26 (L rfl) rfl rfl (lp4 ag26 sz26 (L rfl) rfl rfl (cK hG hX cl46 hN (simp_says lo hi 6 (by omega) (by omega) (by decide)) (L rfl) t2 ?_)))
  refine mV (L rfl) rfl (sw (c_ex rfl (L rfl)) t1 t0 (sw (c_ex rfl (L rfl)) t1 t0 (swb (c_al (k := 7) (n := 4) zv26 (.cons rfl (.cons rfl (.cons rfl (.cons rfl .nil)))) rfl (P0 _ rfl) (L rfl)) t0 t0 ⟨rfl, rfl⟩ (sb (c_sm sz26 (by rfl) pa4 rfl pu4) t2 t1 ?_))))
  refine aV (L rfl) rfl (zn [(3,_),(4,_),(5,_),(7,_),(8,_)] [(3,_),(4,_),(5,_),(7,_)] t5 t4 (ex_seq (exr (lp4 ag26 sz26 (L rfl) rfl rfl (lp4 ag26 sz26 (L rfl) rfl rfl (cK hG hX cl26 hN (qcmp_says lo hi qa9 qb9) (L rfl) t2 (sw (c_gt (L rfl)) t2 t0 (zn [(3,_),(4,_),(5,_),(7,_),(8,_),(35,_)] [(3,_),(4,_),(5,_),(7,_)] t6 t4 ?_))))))))
  refine ex_if rfl (fun hg => ?_) (fun hg => ?_)
  ·have hg := cmpQ_gt.1 (dt hg)
   have e : sE lo hi = 4 := by rw [sE, if_pos hg]
   rw [e]
   refine exr (cK hG hX cl10 hN sane_says (L rfl) t0 (mV (L rfl) rfl (gV (g := 37) rfl rfl (L rfl) rfl rfl (swg (g := 37) rfl rfl (c_e (L rfl)) rfl t2 t0 (sw (c_pt rfl (L rfl)) t2 t0 (aV (L rfl) rfl (zn [(6,_)] [] t1 trivial (ex_ret ?_))))))))
   refine ⟨.inr rfl, ResVs.cast (.cons (.tmp rfl) .nil) ?_⟩
   rfl
  ·have hg : lo ≤ hi := Rat.not_lt.1 (mt cmpQ_gt.2 (df hg))
   have e1 : sE lo hi = 0 := by rw [sE, if_neg (Rat.not_lt.2 hg)]
   have e2 : sV lo hi = RQ.of (sQ lo hi) := by rw [sV, if_neg (Rat.not_lt.2 hg)]
   rw [e1, e2]
   obtain ⟨⟨i1, i2⟩, ib⟩ := sQ_all hg
   have qs := sQ_qw hg
   have hsub := fun a b => sQ_sub (lo := lo) (hi := hi) (a := a) (b := b)
   obtain ⟨s, hs⟩ : ∃ s, s = sQ lo hi := ⟨_, rfl⟩
   rw [← hs] at i1 i2 ib qs hsub ⊢
   have qs9 : qw s < 1000000000 := by omega
   have his : Says E 20 [.agg (cR (RQ.of s))] (bZ true) := by
    have := rqis_says (r := RQ.of s) ⟨wd_digs _, wd_digs _⟩ (by show nw _ < _; have := nw_num_le s; omega) (by show nw _ < _; have := nw_den_le s; omega)
    rwa [RQ.is_of] at this
   have g1 : decide (cmpQ lo s > 0) = false := decide_eq_false (fun c => Rat.not_lt.2 i1 (cmpQ_gt.1 c))
   have g2 : decide (cmpQ s hi > 0) = false := decide_eq_false (fun c => Rat.not_lt.2 i2 (cmpQ_gt.1 c))
   refine ex_skip (show Exec _ _ _ _ _ from ?_)
   refine ex_seq (exr (mV (L rfl) rfl (sw (c_n (L rfl)) t2 t0 (mV (L rfl) rfl (swg (g := 43) rfl rfl (c_lp ag26 sz26 (by rfl) (by exact al4) rfl (L rfl)) rfl t1 t1 ?_)))))
   refine swg (g := 43) rfl rfl (c_c hG hX cl20 rfl hN his (L rfl)) rfl t1 t0 (swg (g := 43) rfl rfl (c_no (L rfl)) rfl t1 t0 (sw (c_pf rfl (L rfl)) t2 t0 (mV (L rfl) rfl (swg (g := 48) rfl rfl (c_lp ag26 sz26 (by rfl) (by exact al4) rfl (L rfl)) rfl t1 t1 ?_))))
   refine swg (g := 48) rfl rfl (c_lp ag26 sz26 (by rfl) (by exact al4) rfl (L rfl)) rfl t1 t1 ?_
   refine swg (g := 48) rfl rfl (c_c hG hX cl26 rfl hN (qcmp_says lo s qa9 qs9) (L rfl)) rfl t2 t0 (swg (g := 48) rfl rfl (c_gt (L rfl)) rfl t2 t0 (sw (c_pf rfl (L rfl)) t2 t0 (mV (L rfl) rfl (swg (g := 54) rfl g1 (c_lp ag26 sz26 (by rfl) (by exact al4) rfl (L rfl)) rfl t1 t1 ?_))))
   refine swg (g := 54) rfl g1 (c_lp ag26 sz26 (by rfl) (by exact al4) rfl (L rfl)) rfl t1 t1 ?_
   refine swg (g := 54) rfl g1 (c_c hG hX cl26 rfl hN (qcmp_says s hi qs9 qb9) (L rfl)) rfl t2 t0 (swg (g := 54) rfl g1 (c_gt (L rfl)) rfl t2 t0 (sw (c_pf g1 (L rfl)) t2 t0 (zn [(3,_),(4,_),(5,_),(7,_),(59,_)] [(3,_),(4,_),(5,_),(7,_)] t5 t4 ?_)))
   refine ex_if rfl (fun hd => ?_) (fun hd => ?_)
   ·rw [show (decide (0 < cmpQ s hi) : Bool) = false from g2] at hd
    cases hd
   ·refine ex_skip (show Exec _ _ _ _ _ from ?_)
    refine ex_seq ?_
    refine exm (sl := [(69, vb (decide (¬ (lo ≤ c ∧ c ≤ hi))))]) (sl0 := [(5,_),(7,_)]) (hb := []) (hb0 := [(5,_),(7,_)]) t2 t2 ?_ ?_
    ·by_cases c1 : cmpQ lo c > 0
     ·refine lp4 ag26 sz26 (L rfl) rfl rfl (lp4 ag26 sz26 (L rfl) rfl rfl (cK hG hX cl26 hN (qcmp_says lo c qa9 qc9) (L rfl) t2 (sw (c_gt (L rfl)) t2 t0 (mV (L rfl) rfl (swn (g := 64) rfl (decide_eq_true c1) (L rfl) rfl (swn (g := 64) rfl (decide_eq_true c1) (L rfl) rfl (swn (g := 64) rfl (decide_eq_true c1) (L rfl) rfl (swn (g := 64) rfl (decide_eq_true c1) (L rfl) rfl (sw (c_pt (decide_eq_true c1) (L rfl)) t2 t0 ?_)))))))))
      exact seq_nil ⟨⟨ob rfl (decide_eq_true (show ¬ (lo ≤ c ∧ c ≤ hi) from fun d => Rat.not_lt.2 d.1 (cmpQ_gt.1 c1))).symm, rfl, rfl, trivial⟩, t2⟩
     ·refine lp4 ag26 sz26 (L rfl) rfl rfl (lp4 ag26 sz26 (L rfl) rfl rfl (cK hG hX cl26 hN (qcmp_says lo c qa9 qc9) (L rfl) t2 (sw (c_gt (L rfl)) t2 t0 (mV (L rfl) rfl (swg (g := 64) rfl (decide_eq_false c1) (c_lp ag26 sz26 (by rfl) (by exact al4) rfl (L rfl)) rfl t1 t1 ?_)))))
      refine swg (g := 64) rfl (decide_eq_false c1) (c_lp ag26 sz26 (by rfl) (by exact al4) rfl (L rfl)) rfl t1 t1 ?_
      refine swg (g := 64) rfl (decide_eq_false c1) (c_c hG hX cl26 rfl hN (qcmp_says c hi qc9 qb9) (L rfl)) rfl t2 t0 (swg (g := 64) rfl (decide_eq_false c1) (c_gt (L rfl)) rfl t2 t0 (sw (c_pf (decide_eq_false c1) (L rfl)) t2 t0 ?_))
      exact seq_nil ⟨⟨ob rfl (dec_eq ⟨fun d e => Rat.not_lt.2 e.2 (cmpQ_gt.1 d), fun d => cmpQ_gt.2 (Rat.not_le.1 (fun e => d ⟨Rat.not_lt.1 (mt cmpQ_gt.2 c1), e⟩))⟩), rfl, rfl, trivial⟩, t2⟩
    refine ex_if rfl (fun hm => ?_) (fun hm => ?_)
    ·refine exr (cK hG hX cl10 hN sane_says (L rfl) t0 (aV (L rfl) rfl (zn [(6,_)] [] t1 trivial (ex_ret ?_))))
     refine ⟨.inr rfl, ResVs.cast (.cons (.tmp rfl) .nil) ?_⟩
     rfl
    ·have hm : lo ≤ c ∧ c ≤ hi := Decidable.not_not.1 (df hm)
     obtain ⟨b1, b2⟩ := ib c hm.1 hm.2
     have n1 := nw_num_le s
     have n2 := nw_den_le s
     have n3 := nw_num_le c
     have n4 := nw_den_le c
     have na1 : nw (s.num.natAbs : Int) = nw s.num := rfl
     have na2 : nw (c.num.natAbs : Int) = nw c.num := rfl
     refine ex_skip (show Exec _ _ _ _ _ from ?_)
     refine exr (sw (c_fa un26 rfl sz24 (by decide) (by exact rfl) (L rfl)) t1 t1 ?_)
     refine lp2 ag24 sz24 (L rfl) rfl rfl (sw (c_fa un26 rfl sz24 (by decide) (by exact rfl) (L rfl)) t1 t1 ?_)
     refine lp2 ag24 sz24 (L rfl) rfl rfl (cK hG hX cl47 hN (rcmpZ s.den c.den (by omega) (by omega)) (L rfl) t2 ?_)
     refine aV (L rfl) rfl (zn [(5,_),(7,_),(9,_)] [(5,_),(7,_)] t3 t2 ?_)
     have k1 : ¬ (cmpI (s.den : Int) c.den > 0) := fun d => by rw [cmpI_gt] at d; omega
     have k2 : ¬ (cmpI (s.num.natAbs : Int) c.num.natAbs > 0) := fun d => by rw [cmpI_gt] at d; omega
     refine ex_seq ?_
     refine exmd (sl := [(91, vb false)]) (sl0 := [(5,_),(7,_)]) (hb := []) (hb0 := [(5,_),(7,_)]) (by rfl) t2 t2 ?_ ?_
     ·by_cases kz : cmpI (s.den : Int) c.den = 0
      ·refine mV (L rfl) rfl (sw (c_gt (L rfl)) t2 t0 (mV (L rfl) rfl (gV (g := 78) rfl (decide_eq_false k1) (L rfl) rfl rfl (swg (g := 78) rfl (decide_eq_false k1) (c_e (L rfl)) rfl t2 t0 (gV (g := 78) rfl (decide_eq_false k1) (L rfl) rfl rfl (swg (g := 81) rfl (decide_eq_true kz) (c_fa un26 rfl sz24 (by decide) (by exact rfl) (L rfl)) rfl t1 t1 ?_))))))
       refine swg (g := 81) rfl (decide_eq_true kz) (c_lp ag24 sz24 (by rfl) (by exact al2) rfl (L rfl)) rfl t1 t1 ?_
       refine swg (g := 81) rfl (decide_eq_true kz) (c_c hG hX cl48 rfl hN (rabsZ s.num (by omega)) (L rfl)) rfl t1 t0 ?_
       refine swg (g := 81) rfl (decide_eq_true kz) (c_fa un26 rfl sz24 (by decide) (by exact rfl) (L rfl)) rfl t1 t1 ?_
       refine swg (g := 81) rfl (decide_eq_true kz) (c_lp ag24 sz24 (by rfl) (by exact al2) rfl (L rfl)) rfl t1 t1 ?_
       refine swg (g := 81) rfl (decide_eq_true kz) (c_c hG hX cl48 rfl hN (rabsZ c.num (by omega)) (L rfl)) rfl t1 t0 ?_
       refine swg (g := 81) rfl (decide_eq_true kz) (c_c hG hX cl47 rfl hN (rcmpZ s.num.natAbs c.num.natAbs (by omega) (by omega)) (L rfl)) rfl t2 t0 ?_
       refine swg (g := 81) rfl (decide_eq_true kz) (c_gt (L rfl)) rfl t2 t0 (swg (g := 78) rfl (decide_eq_false k1) (c_pt (decide_eq_true kz) (L rfl)) rfl t2 t0 (sw (c_pf (decide_eq_false k1) (L rfl)) t2 t0 ?_))
       exact seq_nil ⟨aoks [⟨[9], [], [76], []⟩, ⟨[76], [], [77], []⟩, ⟨[77], [], [78], []⟩, ⟨[78, 9], [], [79], []⟩, ⟨[78, 79], [], [80], []⟩, ⟨[78, 80], [], [81], []⟩, ⟨[81, 7], [7], [82], []⟩, ⟨[81, 82], [7], [83], []⟩, ⟨[81, 83], [], [84], []⟩, ⟨[81, 5], [5], [85], []⟩, ⟨[81, 85], [5], [86], []⟩, ⟨[81, 86], [], [87], []⟩, ⟨[81, 84, 87], [], [88], []⟩, ⟨[81, 88], [], [89], []⟩, ⟨[78, 81, 89], [], [90], []⟩, ⟨[78, 90], [], [91], []⟩] (by rfl) (by rfl) (by decide), ⟨ob rfl (decide_eq_false k2), rfl, rfl, trivial⟩, t2⟩
      ·refine mV (L rfl) rfl (sw (c_gt (L rfl)) t2 t0 (mV (L rfl) rfl (gV (g := 78) rfl (decide_eq_false k1) (L rfl) rfl rfl (swg (g := 78) rfl (decide_eq_false k1) (c_e (L rfl)) rfl t2 t0 (gV (g := 78) rfl (decide_eq_false k1) (L rfl) rfl rfl (swn (g := 81) rfl (decide_eq_false kz) (L rfl) rfl (swn (g := 81) rfl (decide_eq_false kz) (L rfl) rfl (swn (g := 81) rfl (decide_eq_false kz) (L rfl) rfl (swn (g := 81) rfl (decide_eq_false kz) (L rfl) rfl (swn (g := 81) rfl (decide_eq_false kz) (L rfl) rfl (swn (g := 81) rfl (decide_eq_false kz) (L rfl) rfl ?_)))))))))))
       refine swn (g := 81) rfl (decide_eq_false kz) (L rfl) rfl (swn (g := 81) rfl (decide_eq_false kz) (L rfl) rfl (swg (g := 78) rfl (decide_eq_false k1) (c_pf (decide_eq_false kz) (L rfl)) rfl t2 t0 (sw (c_pf (decide_eq_false k1) (L rfl)) t2 t0 ?_)))
       exact seq_nil ⟨aoks [⟨[9], [], [76], []⟩, ⟨[76], [], [77], []⟩, ⟨[77], [], [78], []⟩, ⟨[78, 9], [], [79], []⟩, ⟨[78, 79], [], [80], []⟩, ⟨[78, 80], [], [81], []⟩, ⟨[81], [], [82], []⟩, ⟨[81], [], [83], []⟩, ⟨[81], [], [84], []⟩, ⟨[81], [], [85], []⟩, ⟨[81], [], [86], []⟩, ⟨[81], [], [87], []⟩, ⟨[81], [], [88], []⟩, ⟨[81], [], [89], []⟩, ⟨[78, 81], [], [90], []⟩, ⟨[78, 90], [], [91], []⟩] (by rfl) (by rfl) (by decide), ⟨ob rfl rfl, rfl, rfl, trivial⟩, t2⟩
     refine ex_if rfl (fun hz => ?_) (fun hz => ?_)
     ·cases hz
     ·refine ex_skip (show Exec _ _ _ _ _ from ?_)
      refine exr (lp4 ag26 sz26 (L rfl) rfl rfl (lp4 ag26 sz26 (L rfl) rfl rfl (cK hG hX cl46 hN (simp_says c s 6 (by omega) (by omega) (by decide)) (L rfl) t2 ?_)))
      refine mV (L rfl) rfl (sw (c_ex rfl (L rfl)) t1 t0 (sw (c_ex rfl (L rfl)) t1 t0 (swb (c_al (k := 10) (n := 4) zv26 (.cons rfl (.cons rfl (.cons rfl (.cons rfl .nil)))) rfl (P0 _ rfl) (L rfl)) t0 t0 ⟨rfl, rfl⟩ (sb (c_sm sz26 (by rfl) pa4 rfl pu4) t2 t1 ?_))))
      refine aV (L rfl) rfl (zn [(5,_),(7,_),(10,_),(11,_)] [(5,_),(7,_),(10,_)] t4 t3 (ex_seq (exr (lp4 ag26 sz26 (L rfl) rfl rfl (lp4 ag26 sz26 (L rfl) rfl rfl (cK hG hX cl26 hN (qcmp_says c s qc9 qs9) (L rfl) t2 (sw (c_gt (L rfl)) t2 t0 (zn [(5,_),(7,_),(10,_),(11,_),(101,_)] [(5,_),(7,_),(10,_)] t5 t3 ?_))))))))
      refine ex_cut (sl := [(11, vi 0)]) (sl0 := [(7,_),(10,_)]) (hb := [(10, ⟨26, 4, .mix ((cR (RQ.of s)).map .p)⟩)]) (hb0 := [(7,_)]) t2 t1 ?_ ?_
      ·refine ex_if rfl (fun hx => ?_) (fun hx => ?_)
       ·have hx := cmpQ_gt.1 (dt hx)
        have e3 : sE s c = 0 := by rw [sE, if_neg (by grind)]
        have e4 : sV s c = RQ.of s := by rw [sV, if_neg (by grind), hsub s c i1 hm.2 (by grind) (by grind)]
        have e5 := simp_says s c 6 (by omega) (by omega) (by decide)
        rw [e3, e4] at e5
        refine exr0 (lp4 ag26 sz26 (L rfl) rfl rfl (lp4 ag26 sz26 (L rfl) rfl rfl (cK hG hX cl46 hN e5 (L rfl) t2 (mV (L rfl) rfl (sw (c_ex rfl (L rfl)) t1 t0 (sw (c_ex rfl (L rfl)) t1 t0 (sb (c_sm sz26 (by rfl) pa4 rfl pu4) t2 t1 ?_)))))))
        refine aV (L rfl) rfl (seq_nil ?_)
        exact ⟨⟨(by first | exact rfl | exact oi (by omega) rfl), (by first | exact rfl | exact oi (by omega) rfl), (by first | exact rfl | exact oi (by omega) rfl), trivial⟩, t2⟩
       ·have hx := Rat.not_lt.1 (mt cmpQ_gt.2 (df hx))
        have e3 : sE c s = 0 := by rw [sE, if_neg (by grind)]
        have e4 : sV c s = RQ.of s := by rw [sV, if_neg (by grind), hsub c s hm.1 i2 (by grind) (by grind)]
        rw [e3, e4]
        refine ex_skip ?_
        exact ⟨⟨(by first | exact rfl | exact oi (by omega) rfl), (by first | exact rfl | exact oi (by omega) rfl), (by first | exact rfl | exact oi (by omega) rfl), trivial⟩, t2⟩
      ·refine exr (cK hG hX cl10 hN sane_says (L rfl) t0 (mV (L rfl) rfl (gV (g := 109) rfl rfl (L rfl) rfl rfl (swg (g := 109) rfl rfl (c_e (L rfl)) rfl t2 t0 (sw (c_pt rfl (L rfl)) t2 t0 (mV (L rfl) rfl (swg (g := 113) rfl rfl (c_lp ag26 sz26 (by rfl) (by exact al4) rfl (L rfl)) rfl t1 t1 ?_)))))))
       refine swg (g := 113) rfl rfl (c_lp ag26 sz26 (by rfl) (by exact al4) rfl (L rfl)) rfl t1 t1 ?_
       refine swg (g := 113) rfl rfl (c_c hG hX cl16 rfl hN (k_same1 s qs9) (L rfl)) rfl t2 t0 (sw (c_pt rfl (L rfl)) t2 t0 (aV (L rfl) rfl (zn [(6,_)] [] t1 trivial (ex_ret ?_))))
       refine ⟨.inr rfl, ResVs.cast (.cons (.tmp rfl) .nil) ?_⟩
       rfl
end Go.Proofs.YtcifhkfpmhifaaaGreatDoor.N
