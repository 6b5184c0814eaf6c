/- Part NumBackWalk of the proof: lemmas for the walks of the given functions. No statement of its own. -/
import Derived.Test.YtebkelnibecmjaaDoorHelp
import Derived.Test.YtebkelnibecmjaaDoorText
set_option linter.unusedVariables false
set_option linter.unusedSimpArgs false
set_option linter.deprecated false
namespace Go.Proofs.YtebkelnibecmjaaDoor.N
open Go Go.Proofs.YtebkelnibecmjaaDoor.SH Go.Proofs.YtebkelnibecmjaaDoor.NumA
theorem cons_get {c : UInt8} {l : List UInt8} : (c :: l).getD 0 0 = c := rfl
/-- What Parse says of a text of digits. -/
theorem parse_ds {ds : List UInt8} {neg : Bool} (hd : Digits ds) (hn : ds ≠ []) (hl : ds.length ≤ 20000) (hh : (ds.getD 0 0).toNat ≠ 48 ∨ (ds.length = 1 ∧ neg = false)) : parseE (if neg then 45 :: ds else ds) = 0 ∧ parseV (if neg then 45 :: ds else ds) = sg neg (numI ds) := by
  have hlen : 0 < ds.length := List.length_pos_iff.2 hn
  have h45 : (ds.getD 0 0).toNat ≠ 45 := by have := hd.get (i := 0) hlen; omega
  have h1 : pNeg (if neg then 45 :: ds else ds) = neg := by
    cases neg with
    | true => simp [pNeg]
    | false => 
      have : ¬ (((ds.getD 0 0).toNat : Int) = 45) := by omega
      simp only [pNeg, Bool.false_eq_true, if_false]
      exact decide_eq_false (fun h => this h.2)
  have h2 : pDs (if neg then 45 :: ds else ds) = ds := by
    unfold pDs; rw [h1]
    cases neg <;> simp
  have h3 : pBad ds neg = false := by
    unfold pBad
    refine decide_eq_false ?_
    rintro (h | ⟨h, h'⟩)
    · omega
    · rcases hh with hh | ⟨hh, rfl⟩
      · omega
      · rcases h' with h' | h'
        · omega
        · cases h'
  have h4 : parseE (if neg then 45 :: ds else ds) = 0 := by
    rw [parseE, h1, h2, if_neg, if_neg (by omega)]
    rintro (h | h)
    · rw [h3] at h; cases h
    · exact h hd
  refine ⟨h4, ?_⟩
  rw [parseV, if_pos h4, h1, h2]
theorem ten_big (a : Int) : a.natAbs < 10 ^ (10 * nw a + 1) := by
  have h1 := nw_lt (a := a)
  have h2 : (4294967296 : Nat) ^ nw a ≤ (10 ^ 10) ^ nw a := Nat.pow_le_pow_left (by decide) _
  rw [← Nat.pow_mul] at h2
  have h3 : 10 ^ (10 * nw a) ≤ 10 ^ (10 * nw a + 1) := Nat.pow_le_pow_right (by decide) (by omega)
  have h4 : a.natAbs < 4294967296 ^ nw a := by
    have : ((a.natAbs : Nat) : Int) < ((4294967296 ^ nw a : Nat) : Int) := by rw [Int.natCast_pow]; exact h1
    exact Int.ofNat_lt.1 this
  exact Nat.lt_of_lt_of_le h4 (Nat.le_trans h2 h3)
theorem parse_itoa {a : Int} (hw : nw a ≤ 1000) : parseE (Lib.itoa a) = 0 ∧ parseV (Lib.itoa a) = a := by
  have h := ten_big a
  have hd := fun u => dec_digits u u (Nat.le_refl _)
  have hne : ∀ u, Lib.decDigits u ≠ [] := fun u e => by have := dec_pos u; rw [e] at this; simp at this
  by_cases hn : a < 0
  · obtain ⟨d1, d2⟩ := hd a.natAbs
    have := parse_ds (neg := true) d1 (hne _) (Nat.le_trans (dec_len h) (by omega)) (.inl (dec_head _ _ (Nat.le_refl _) (by omega)))
    rw [if_pos rfl, d2] at this
    rw [Lib.itoa, if_pos hn]
    refine ⟨this.1, this.2.trans ?_⟩
    simp only [sg, if_true]; omega
  · obtain ⟨d1, d2⟩ := hd a.toNat
    have hl := dec_len (u := a.toNat) (k := 10 * nw a) (by have : a.toNat = a.natAbs := by omega
                                                           rw [this]; exact h)
    have := parse_ds (neg := false) d1 (hne _) (Nat.le_trans hl (by omega)) (by
      by_cases h0 : a.toNat = 0
      · rw [h0, dec_small (by decide)]; exact .inr ⟨rfl, rfl⟩
      · exact .inl (dec_head _ _ (Nat.le_refl _) (by omega)))
    rw [if_neg (by decide), d2] at this
    rw [Lib.itoa, if_neg hn]
    refine ⟨this.1, this.2.trans ?_⟩
    simp only [sg]; rw [if_neg (by decide)]; omega
theorem itoa_parse {bs : List UInt8} (h : parseE bs = 0) : Lib.itoa (parseV bs) = bs := by
  have hv : parseV bs = sg (pNeg bs) (numI (pDs bs)) := by rw [parseV, if_pos h]
  rw [parseE] at h
  split at h
  · omega
  · rename_i hb
    have hbad : ¬ pBad (pDs bs) (pNeg bs) = true := fun e => hb (.inl e)
    have hd : Digits (pDs bs) := by
      by_cases hd : Digits (pDs bs)
      · exact hd
      · exact absurd (.inr hd) hb
    unfold pBad at hbad
    rw [decide_eq_true_eq] at hbad
    have hlen : (pDs bs).length ≠ 0 := fun e => hbad (.inl e)
    obtain ⟨k, hk⟩ : ∃ k, (pDs bs).length = k + 1 := ⟨(pDs bs).length - 1, by omega⟩
    have hbd := numI_bd hd
    rw [hv]
    cases hn : pNeg bs with
    | true =>
      rw [hn] at hbad
      have h48 : ((pDs bs).getD 0 0).toNat ≠ 48 := fun e => hbad (.inr ⟨by omega, .inr rfl⟩)
      obtain ⟨e1, e2⟩ := dec_num k _ hk hd (.inl h48)
      have hp := e2 h48
      have e3 : (sg true (numI (pDs bs))).natAbs = (numI (pDs bs)).toNat := by simp only [sg, if_true]; omega
      rw [Lib.itoa, if_pos (by simp only [sg, if_true]; omega), e3, e1]
      have h0 : bs ≠ [] := by intro e; subst e; simp [pNeg] at hn
      obtain ⟨c, l, rfl⟩ := List.exists_cons_of_ne_nil h0
      unfold pDs
      rw [if_pos hn]
      have : (c.toNat : Int) = 45 := by
        unfold pNeg at hn
        rw [decide_eq_true_eq] at hn
        exact hn.2
      have hc : c = 45 := by
        have : c.toNat = (45 : UInt8).toNat := by have : (45 : UInt8).toNat = 45 := rfl
                                                  omega
        exact UInt8.toNat_inj.1 this
      rw [hc]; rfl
    | false =>
      rw [hn] at hbad
      have hh : ((pDs bs).getD 0 0).toNat ≠ 48 ∨ k = 0 := by
        by_cases e : ((pDs bs).getD 0 0).toNat = 48
        · right
          by_cases hk0 : k = 0
          · exact hk0
          · exact absurd (.inr ⟨by omega, .inl (by omega)⟩) hbad
        · exact .inl e
      obtain ⟨e1, -⟩ := dec_num k _ hk hd hh
      have e3 : (sg false (numI (pDs bs))).toNat = (numI (pDs bs)).toNat := rfl
      rw [Lib.itoa, if_neg (by simp only [sg]; rw [if_neg (by decide)]; omega), e3, e1]
      unfold pDs
      rw [if_neg (by rw [hn]; decide)]
theorem nw_parse (bs : List UInt8) : nw (parseV bs) ≤ bs.length := by
  unfold parseV
  split
  · rename_i h
    have hd : Digits (pDs bs) := by
      rw [parseE] at h
      split at h
      · omega
      · rename_i hb
        by_cases hd : Digits (pDs bs)
        · exact hd
        · exact absurd (.inr hd) hb
    have hl : (pDs bs).length ≤ bs.length := by unfold pDs; split <;> simp
    obtain ⟨b0, b1⟩ := numI_bd hd
    apply nw_le
    have h1 : (sg (pNeg bs) (numI (pDs bs))).natAbs = (numI (pDs bs)).toNat := by unfold sg; split <;> omega
    have h2 : (10 : Nat) ^ (pDs bs).length ≤ 4294967296 ^ (pDs bs).length := Nat.pow_le_pow_left (by decide) _
    have h3 : (4294967296 : Nat) ^ (pDs bs).length ≤ 4294967296 ^ bs.length := Nat.pow_le_pow_right (by decide) hl
    have h4 : ((10 ^ (pDs bs).length : Nat) : Int) ≤ ((4294967296 ^ bs.length : Nat) : Int) := Int.ofNat_le.2 (Nat.le_trans h2 h3)
    rw [Int.natCast_pow, Int.natCast_pow] at h4
    rw [h1, Int.toNat_of_nonneg b0]
    exact Int.lt_of_lt_of_le b1 h4
  · rw [nw_zero.2 rfl]; exact Nat.zero_le _
theorem str_app (a b : List UInt8) : str a ++ str b = str (a ++ b) := by
  apply ByteArray.ext
  simp [str]
theorem rbitsZ (a : Int) (ha : nw a < 99999999) : Says E 22 [pZ a] (vZ (bl a.natAbs : Nat)) := by
  have := rbits_says (decide (a < 0)) (digs a.natAbs) (by unfold nw at ha; omega) (wd_digs _)
  rwa [if_pos (canon_digs a), val_digs, Int.toNat_natCast] at this
theorem parseT {a : Int} (h : nw a ≤ 1000) : Says E 47 [pS (Lib.itoa a)] (.tup [pZ a, vZ 0]) := by
  obtain ⟨e1, e2⟩ := parse_itoa h
  have := parse_says (Lib.itoa a) (by
    have hl := dec_len (ten_big a)
    have : (Lib.itoa a).length ≤ 20001 := by
      unfold Lib.itoa
      split
      · simp only [List.length_cons]; omega
      · rw [show a.toNat = a.natAbs by omega]; omega
    omega)
  rwa [e1, e2] at this
theorem itoa_len {a : Int} (h : nw a ≤ 1000) : (Lib.itoa a).length ≤ 20001 := by
  have hl := dec_len (ten_big a)
  unfold Lib.itoa
  split
  · simp only [List.length_cons]; omega
  · rw [show a.toNat = a.natAbs by omega]; omega
theorem powT {a n k : Int} (ha : nw a < 9999999) (h0 : 0 ≤ n) (hk : n ≤ k) (hk2 : k < 1000) (h : ((bl a.natAbs : Nat) + 1) * k ≤ 5000) : Says E 45 [pZ a, vZ n] (.tup [pZ (a ^ n.toNat), vZ 0]) := by
  have := powZ a n ha (by omega) (by omega)
  have e := powE_ok h0 hk h
  rwa [powV, e, if_pos rfl] at this
theorem sqrtZ' (a : Int) (ha : nw a < 30000) : Says E 43 [pZ a] (.tup [pZ (if a < 0 then 0 else sqZ a), vZ (if a < 0 then 1 else 0)]) := by
  have := sqrt_says (decide (a < 0)) (digs a.natAbs) (by unfold nw at ha; omega) (wd_digs _)
  rwa [if_pos (canon_digs a), if_pos (canon_digs a), sg_digs] at this
theorem pow_nw2 {a n k : Int} (h0 : 0 ≤ n) (hk : n ≤ k) (h : ((bl a.natAbs : Nat) + 1) * k ≤ 5000) : nw (a ^ n.toNat) ≤ nw a + 32769 := by
  apply pow_nw
  right
  have h3 : ((bl a.natAbs : Nat) : Int) * n ≤ ((bl a.natAbs : Nat) + 1) * k := Int.mul_le_mul (by omega) hk h0 (by omega)
  have h4 : ((bl a.natAbs * n.toNat : Nat) : Int) = (bl a.natAbs : Nat) * n := by rw [Int.natCast_mul, Int.toNat_of_nonneg h0]
  omega
theorem bl_le_nw (a : Int) : bl a.natAbs ≤ 32 * nw a := by
  rw [bl_spec, Nat.pow_mul]
  have h1 := nw_lt (a := a)
  have : ((a.natAbs : Nat) : Int) < ((4294967296 ^ nw a : Nat) : Int) := by rw [Int.natCast_pow]; exact h1
  exact Int.ofNat_lt.1 this
set_option maxRecDepth 100000 in
set_option maxHeartbeats 4000000 in
theorem back_z (a : Int) (bs : List UInt8) (g0 m n : Int) (ha : nw a ≤ 40) (hbs : bs.length ≤ 3000) (hg0 : 0 ≤ g0 ∧ g0 < 256) (hm : 0 ≤ m ∧ m < 256) (hn : 0 ≤ n ∧ n < 256) : Says E 10 [pZ a, pS bs, .a (.int .u8 g0), .a (.int .u8 m), .a (.int .u8 n)] (bZ true) := by
  refine says_of (xs := [bZ true]) Tryd.func10 rfl Tryd.ntmps10 Tryd.results10 (by simp) fun F hG hX0 hnt hdf P0 => ?_
  have L := ltn hnt
  have hX : ∀ b, F.X b → E.ng ≤ b := fun b h => absurd h (hX0 b)
  have hN := ng_le hG
  have hsz := str_size bs
  have hsz2 := str_size (Lib.itoa a)
  have hbig : nw a ≤ 1000 := by omega
  have hil := itoa_len hbig
  have sa := sign3 a
  have hnp := nw_parse bs
  refine exr ?_
  refine swb (core_box (k := 5) (n := 2) (.pagg (.cons (.cons .nil))) rfl rfl (P0 _ rfl) (L _ rfl)) ⟨rfl, trivial⟩ trivial ⟨rfl, rfl⟩ ?_
  refine sw (core_assign (L _ rfl)) ⟨rfl, trivial⟩ trivial ?_
  refine seq_nil ⟨[(1, _), (2, _), (3, _), (4, _), (5, _)], [(5, _)], ⟨rfl, rfl, rfl, rfl, rfl, trivial⟩, ⟨rfl, trivial⟩, ?_⟩
  refine ex_seq ?_
  refine exr ?_
  refine sw (core_loadP Tryd.isAgg24 Tryd.sizeOf24 (by rfl) (by exact (.cons (.cons .nil))) rfl (L _ rfl)) ⟨rfl, trivial⟩ ⟨rfl, trivial⟩ ?_
  refine sw (core_loadP Tryd.isAgg24 Tryd.sizeOf24 (by rfl) (by exact (.cons (.cons .nil))) rfl (L _ rfl)) ⟨rfl, trivial⟩ ⟨rfl, trivial⟩ ?_
  refine sw (core_loadP Tryd.isAgg24 Tryd.sizeOf24 (by rfl) (by exact (.cons (.cons .nil))) rfl (L _ rfl)) ⟨rfl, trivial⟩ ⟨rfl, trivial⟩ ?_
  refine sw (core_call (E := E) hG hX Tryd.call12 rfl hN (lshortZ (by omega) (by omega) (by omega)) (L _ rfl)) ⟨rfl, rfl, rfl, rfl, trivial⟩ trivial ?_
  refine sw (core_not (L _ rfl)) ⟨rfl, trivial⟩ trivial ?_
  refine sw (core_move (L _ rfl)) ⟨rfl, trivial⟩ trivial ?_
  refine swg (g := 34) rfl rfl (core_loadP Tryd.isAgg24 Tryd.sizeOf24 (by rfl) (by exact (.cons (.cons .nil))) rfl (L _ rfl)) rfl ⟨rfl, trivial⟩ ⟨rfl, trivial⟩ ?_
  refine swg (g := 34) rfl rfl (core_call (E := E) hG hX Tryd.call17 rfl hN (risZ a (by omega)) (L _ rfl)) rfl ⟨rfl, trivial⟩ trivial ?_
  refine swg (g := 34) rfl rfl (core_not (L _ rfl)) rfl ⟨rfl, trivial⟩ trivial ?_
  refine sw (core_pick_f rfl (L _ rfl)) ⟨rfl, rfl, trivial⟩ trivial ?_
  refine sw (core_move (L _ rfl)) ⟨rfl, trivial⟩ trivial ?_
  refine swg (g := 39) rfl rfl (core_move (L _ rfl)) rfl ⟨rfl, trivial⟩ trivial ?_
  refine swg (g := 39) rfl rfl (core_lenS Tryd.underlying9 (L _ rfl)) rfl ⟨rfl, trivial⟩ trivial ?_
  refine swg (g := 39) rfl rfl (core_gtr (L _ rfl)) rfl ⟨rfl, rfl, trivial⟩ trivial ?_
  refine sw (core_pick_f rfl (L _ rfl)) ⟨rfl, rfl, trivial⟩ trivial ?_
  refine seq_nil ⟨[(1, _), (2, _), (3, _), (4, _), (5, _), (43, _)], [(5, _)], ⟨rfl, rfl, rfl, rfl, rfl, rfl, trivial⟩, ⟨rfl, trivial⟩, ?_⟩
  refine ex_if rfl (fun hx => ?_) (fun hx => ?_)
  · have hx := dt hx
    exact absurd hx (by omega)
  · refine ex_skip (show Exec _ _ _ _ _ from ?_)
    refine exr ?_
    refine sw (core_loadP Tryd.isAgg24 Tryd.sizeOf24 (by rfl) (by exact (.cons (.cons .nil))) rfl (L _ rfl)) ⟨rfl, trivial⟩ ⟨rfl, trivial⟩ ?_
    refine sw (core_call (E := E) hG hX Tryd.call49 rfl hN (printZ a (by omega)) (L _ rfl)) ⟨rfl, trivial⟩ trivial ?_
    refine sw (core_assign (L _ rfl)) ⟨rfl, trivial⟩ trivial ?_
    refine seq_nil ⟨[(1, _), (2, _), (3, _), (4, _), (5, _), (11, _)], [(5, _)], ⟨rfl, rfl, rfl, rfl, rfl, rfl, trivial⟩, ⟨rfl, trivial⟩, ?_⟩
    refine exr ?_
    refine sw (core_move (L _ rfl)) ⟨rfl, trivial⟩ trivial ?_
    refine sw (core_call (E := E) hG hX Tryd.call47 rfl hN (parseT hbig) (L _ rfl)) ⟨rfl, trivial⟩ trivial ?_
    refine sw (core_move (L _ rfl)) ⟨rfl, trivial⟩ trivial ?_
    refine sw (core_extract rfl (L _ rfl)) ⟨rfl, trivial⟩ trivial ?_
    refine sw (core_extract rfl (L _ rfl)) ⟨rfl, trivial⟩ trivial ?_
    refine swb (core_alloc (k := 12) (n := 2) Tryd.zeroValue24 (.cons rfl (.cons rfl .nil)) rfl (P0 _ rfl) (L _ rfl)) trivial trivial ⟨rfl, rfl⟩ ?_
    refine sb (core_storeM Tryd.sizeOf24 (by rfl) (.pagg (.cons (.cons .nil))) rfl (.put (.put .here))) ⟨rfl, rfl, trivial⟩ ⟨rfl, trivial⟩ ?_
    refine sw (core_assign (L _ rfl)) ⟨rfl, trivial⟩ trivial ?_
    refine seq_nil ⟨[(1, _), (2, _), (3, _), (4, _), (5, _), (11, _), (12, _), (13, _)], [(5, _), (12, _)], ⟨rfl, rfl, rfl, rfl, rfl, rfl, rfl, rfl, trivial⟩, ⟨rfl, rfl, trivial⟩, ?_⟩
    refine ex_seq ?_
    refine exr ?_
    refine sw (core_move (L _ rfl)) ⟨rfl, trivial⟩ trivial ?_
    refine sw (core_neq (L _ rfl)) ⟨rfl, rfl, trivial⟩ trivial ?_
    refine sw (core_move (L _ rfl)) ⟨rfl, trivial⟩ trivial ?_
    refine swg (g := 54) rfl rfl (core_loadP Tryd.isAgg24 Tryd.sizeOf24 (by rfl) (by exact (.cons (.cons .nil))) rfl (L _ rfl)) rfl ⟨rfl, trivial⟩ ⟨rfl, trivial⟩ ?_
    refine swg (g := 54) rfl rfl (core_loadP Tryd.isAgg24 Tryd.sizeOf24 (by rfl) (by exact (.cons (.cons .nil))) rfl (L _ rfl)) rfl ⟨rfl, trivial⟩ ⟨rfl, trivial⟩ ?_
    refine swg (g := 54) rfl rfl (core_call (E := E) hG hX Tryd.call18 rfl hN (sameT rfl (by omega)) (L _ rfl)) rfl ⟨rfl, rfl, trivial⟩ trivial ?_
    refine swg (g := 54) rfl rfl (core_not (L _ rfl)) rfl ⟨rfl, trivial⟩ trivial ?_
    refine sw (core_pick_f rfl (L _ rfl)) ⟨rfl, rfl, trivial⟩ trivial ?_
    refine seq_nil ⟨[(1, _), (2, _), (3, _), (4, _), (5, _), (11, _), (59, _)], [(5, _)], ⟨rfl, rfl, rfl, rfl, rfl, rfl, rfl, trivial⟩, ⟨rfl, trivial⟩, ?_⟩
    refine ex_if rfl (fun hy => ?_) (fun hy => ?_)
    · cases hy
    · refine ex_skip (show Exec _ _ _ _ _ from ?_)
      refine ex_seq ?_
      refine exr ?_
      refine sw (core_move (L _ rfl)) ⟨rfl, trivial⟩ trivial ?_
      refine sw (core_call (E := E) hG hX Tryd.call47 rfl hN (parse_says bs (by omega)) (L _ rfl)) ⟨rfl, trivial⟩ trivial ?_
      refine sw (core_move (L _ rfl)) ⟨rfl, trivial⟩ trivial ?_
      refine sw (core_extract rfl (L _ rfl)) ⟨rfl, trivial⟩ trivial ?_
      refine sw (core_extract rfl (L _ rfl)) ⟨rfl, trivial⟩ trivial ?_
      refine swb (core_alloc (k := 14) (n := 2) Tryd.zeroValue24 (.cons rfl (.cons rfl .nil)) rfl (P0 _ rfl) (L _ rfl)) trivial trivial ⟨rfl, rfl⟩ ?_
      refine sb (core_storeM Tryd.sizeOf24 (by rfl) (.pagg (.cons (.cons .nil))) rfl (.put (.put .here))) ⟨rfl, rfl, trivial⟩ ⟨rfl, trivial⟩ ?_
      refine sw (core_assign (L _ rfl)) ⟨rfl, trivial⟩ trivial ?_
      refine seq_nil ⟨[(1, _), (2, _), (3, _), (4, _), (5, _), (11, _), (14, _), (15, _)], [(5, _), (14, _)], ⟨rfl, rfl, rfl, rfl, rfl, rfl, rfl, rfl, trivial⟩, ⟨rfl, rfl, trivial⟩, ?_⟩
      refine exm (sl := [(72, vb false)]) (sl0 := [(2, _), (3, _), (4, _), (5, _), (11, _)]) (hb := []) (hb0 := [(5, _)]) ⟨rfl, rfl, rfl, rfl, rfl, trivial⟩ ⟨rfl, trivial⟩ ?_ ?_
      · by_cases hp : parseE bs = 0
        · refine sw (core_move (L _ rfl)) ⟨rfl, trivial⟩ trivial ?_
          refine sw (core_eql (L _ rfl)) ⟨rfl, rfl, trivial⟩ trivial ?_
          refine sw (core_move (L _ rfl)) ⟨rfl, trivial⟩ trivial ?_
          refine swg (g := 67) rfl (decide_eq_true hp) (core_loadP Tryd.isAgg24 Tryd.sizeOf24 (by rfl) (by exact (.cons (.cons .nil))) rfl (L _ rfl)) rfl ⟨rfl, trivial⟩ ⟨rfl, trivial⟩ ?_
          refine swg (g := 67) rfl (decide_eq_true hp) (core_call (E := E) hG hX Tryd.call49 rfl hN (printZ (parseV bs) (by omega)) (L _ rfl)) rfl ⟨rfl, trivial⟩ trivial ?_
          refine swg (g := 67) rfl (decide_eq_true hp) (core_move (L _ rfl)) rfl ⟨rfl, trivial⟩ trivial ?_
          refine swg (g := 67) rfl (decide_eq_true hp) (core_sneq (L _ rfl)) rfl ⟨rfl, rfl, trivial⟩ trivial ?_
          refine sw (core_pick_t (decide_eq_true hp) (L _ rfl)) ⟨rfl, rfl, trivial⟩ trivial ?_
          exact seq_nil ⟨⟨ob rfl (by rw [itoa_parse hp]; simp), rfl, rfl, rfl, rfl, rfl, trivial⟩, ⟨rfl, trivial⟩⟩
        · refine sw (core_move (L _ rfl)) ⟨rfl, trivial⟩ trivial ?_
          refine sw (core_eql (L _ rfl)) ⟨rfl, rfl, trivial⟩ trivial ?_
          refine sw (core_move (L _ rfl)) ⟨rfl, trivial⟩ trivial ?_
          refine swn (g := 67) rfl (decide_eq_false hp) (L _ rfl) rfl ?_
          refine swn (g := 67) rfl (decide_eq_false hp) (L _ rfl) rfl ?_
          refine swn (g := 67) rfl (decide_eq_false hp) (L _ rfl) rfl ?_
          refine swn (g := 67) rfl (decide_eq_false hp) (L _ rfl) rfl ?_
          refine sw (core_pick_f (decide_eq_false hp) (L _ rfl)) ⟨rfl, rfl, trivial⟩ trivial ?_
          exact seq_nil ⟨⟨ob rfl rfl, rfl, rfl, rfl, rfl, rfl, trivial⟩, ⟨rfl, trivial⟩⟩
      refine ex_if rfl (fun hz => ?_) (fun hz => ?_)
      · cases hz
      · refine ex_skip (show Exec _ _ _ _ _ from ?_)
        refine ex_seq ?_
        refine exr ?_
        refine sw (core_move (L _ rfl)) ⟨rfl, trivial⟩ trivial ?_
        refine sw (core_rem (L _ rfl) (by decide) (tmodE (by omega) (by omega))) ⟨rfl, rfl, trivial⟩ trivial ?_
        refine sw (core_conv Tryd.underlying5 Tryd.underlying3 (L _ rfl) (w64 (by omega) (by omega))) ⟨rfl, trivial⟩ trivial ?_
        refine sw (core_assign (L _ rfl)) ⟨rfl, trivial⟩ trivial ?_
        refine seq_nil ⟨[(3, _), (4, _), (5, _), (11, _), (16, _)], [(5, _)], ⟨rfl, rfl, rfl, rfl, rfl, trivial⟩, ⟨rfl, trivial⟩, ?_⟩
        refine exr ?_
        refine sw (core_loadP Tryd.isAgg24 Tryd.sizeOf24 (by rfl) (by exact (.cons (.cons .nil))) rfl (L _ rfl)) ⟨rfl, trivial⟩ ⟨rfl, trivial⟩ ?_
        refine sw (core_call (E := E) hG hX Tryd.call23 rfl hN (signZ a (by omega)) (L _ rfl)) ⟨rfl, trivial⟩ trivial ?_
        refine sw (core_neq (L _ rfl)) ⟨rfl, rfl, trivial⟩ trivial ?_
        refine seq_nil ⟨[(3, _), (4, _), (5, _), (11, _), (16, _), (78, _)], [(5, _)], ⟨rfl, rfl, rfl, rfl, rfl, rfl, trivial⟩, ⟨rfl, trivial⟩, ?_⟩
        obtain ⟨d, hd⟩ : ∃ d, d = g0 % 10 := ⟨_, rfl⟩
        rw [← hd]
        have d0 : 0 ≤ d ∧ d < 10 := by omega
        have hds : -9 ≤ d * a.sign ∧ d * a.sign ≤ 9 := by rcases sa with h | h | h <;> rw [h.1] <;> omega
        refine ex_cut (sl := []) (sl0 := [(3, _), (4, _), (5, _)]) (hb := []) (hb0 := [(5, _)]) ⟨rfl, rfl, rfl, trivial⟩ ⟨rfl, trivial⟩ ?_ ?_
        · refine ex_if rfl (fun hs => ?_) (fun hs => ?_)
          · have ha0 : a ≠ 0 := by
              intro e; subst e; revert hs; decide
            have hnx := nw_mul a 10
            have hn10 : nw (10 : Int) ≤ 1 := nw_le (by decide)
            have hnd : nw (d * a.sign) ≤ 1 := nw_le (by omega)
            have hna := nw_add (a * 10) (d * a.sign)
            have hbig2 : nw (a * 10 + d * a.sign) ≤ 1000 := by omega
            refine exr ?_
            refine sw (core_move (L _ rfl)) ⟨rfl, trivial⟩ trivial ?_
            refine sw (core_move (L _ rfl)) ⟨rfl, trivial⟩ trivial ?_
            refine sw (core_add (L _ rfl) (w64 (by omega) (by omega))) ⟨rfl, rfl, trivial⟩ trivial ?_
            refine sw (core_conv Tryd.underlying3 Tryd.underlying5 (L _ rfl) (fu8 (by omega) (by omega))) ⟨rfl, trivial⟩ trivial ?_
            refine sw (core_bsI (vs := [_]) Tryd.underlying50 Tryd.typeInfo5 rfl rfl (by decide) (by decide) rfl (zs_made (.cons rfl .nil) rfl) rfl (.cons rfl (.atom rfl) rfl (.put .here) .nil) (.cons .nil) (L _ rfl)) ⟨rfl, trivial⟩ trivial ?_
            refine sw (core_b2sD (l := [UInt8.ofNat (48 + d.toNat)]) Tryd.underlying50 Tryd.underlying5 Tryd.underlying9 (by simp) (by simp [encU]; omega) (by simp) rfl (L _ rfl)) ⟨rfl, trivial⟩ trivial ?_
            refine sw (core_sadd (L _ rfl) (by rw [hsz2]; exact Nat.le_trans (Nat.add_le_add_left (show _ ≤ 1 from Nat.le_refl _) _) (by omega)) (show _ = str (Lib.itoa (a * 10 + d * a.sign)) by rw [← itoa_snoc ha0 d0.1 d0.2, ← str_app]; rfl)) ⟨rfl, rfl, trivial⟩ trivial ?_
            refine sw (core_call (E := E) hG hX Tryd.call47 rfl hN (parseT hbig2) (L _ rfl)) ⟨rfl, trivial⟩ trivial ?_
            refine sw (core_move (L _ rfl)) ⟨rfl, trivial⟩ trivial ?_
            refine sw (core_extract rfl (L _ rfl)) ⟨rfl, trivial⟩ trivial ?_
            refine sw (core_extract rfl (L _ rfl)) ⟨rfl, trivial⟩ trivial ?_
            refine swb (core_alloc (k := 17) (n := 2) Tryd.zeroValue24 (.cons rfl (.cons rfl .nil)) rfl (P0 _ rfl) (L _ rfl)) trivial trivial ⟨rfl, rfl⟩ ?_
            refine sb (core_storeM Tryd.sizeOf24 (by rfl) (.pagg (.cons (.cons .nil))) rfl (.put (.put .here))) ⟨rfl, rfl, trivial⟩ ⟨rfl, trivial⟩ ?_
            refine sw (core_assign (L _ rfl)) ⟨rfl, trivial⟩ trivial ?_
            refine seq_nil ⟨[(3, _), (4, _), (5, _), (16, _), (17, _), (18, _)], [(5, _), (17, _)], ⟨rfl, rfl, rfl, rfl, rfl, rfl, trivial⟩, ⟨rfl, rfl, trivial⟩, ?_⟩
            refine exd (by rfl) ?_
            refine sw (core_move (L _ rfl)) ⟨rfl, trivial⟩ trivial ?_
            refine sw (core_neq (L _ rfl)) ⟨rfl, rfl, trivial⟩ trivial ?_
            refine sw (core_move (L _ rfl)) ⟨rfl, trivial⟩ trivial ?_
            refine swg (g := 92) rfl rfl (core_loadP Tryd.isAgg24 Tryd.sizeOf24 (by rfl) (by exact (.cons (.cons .nil))) rfl (L _ rfl)) rfl ⟨rfl, trivial⟩ ⟨rfl, trivial⟩ ?_
            refine swg (g := 92) rfl rfl (core_loadP Tryd.isAgg24 Tryd.sizeOf24 (by rfl) (by exact (.cons (.cons .nil))) rfl (L _ rfl)) rfl ⟨rfl, trivial⟩ ⟨rfl, trivial⟩ ?_
            refine swg (g := 92) rfl rfl (core_call (E := E) hG hX Tryd.call19 rfl hN (of_says 10 (by decide) (by decide)) (L _ rfl)) rfl ⟨rfl, trivial⟩ trivial ?_
            refine swg (g := 92) rfl rfl (core_call (E := E) hG hX Tryd.call39 rfl hN (mulZ a 10 (by omega) (by omega)) (L _ rfl)) rfl ⟨rfl, rfl, trivial⟩ trivial ?_
            refine swg (g := 92) rfl rfl (core_move (L _ rfl)) rfl ⟨rfl, trivial⟩ trivial ?_
            refine swg (g := 92) rfl rfl (core_loadP Tryd.isAgg24 Tryd.sizeOf24 (by rfl) (by exact (.cons (.cons .nil))) rfl (L _ rfl)) rfl ⟨rfl, trivial⟩ ⟨rfl, trivial⟩ ?_
            refine swg (g := 92) rfl rfl (core_call (E := E) hG hX Tryd.call23 rfl hN (signZ a (by omega)) (L _ rfl)) rfl ⟨rfl, trivial⟩ trivial ?_
            refine swg (g := 92) rfl rfl (core_mul (L _ rfl) (w64 (by omega) (by omega))) rfl ⟨rfl, rfl, trivial⟩ trivial ?_
            refine swg (g := 92) rfl rfl (core_call (E := E) hG hX Tryd.call19 rfl hN (of_says (d * a.sign) (by omega) (by omega)) (L _ rfl)) rfl ⟨rfl, trivial⟩ trivial ?_
            refine swg (g := 92) rfl rfl (core_call (E := E) hG hX Tryd.call35 rfl hN (addZ (a * 10) (d * a.sign) (by omega) (by omega)) (L _ rfl)) rfl ⟨rfl, rfl, trivial⟩ trivial ?_
            refine swg (g := 92) rfl rfl (core_call (E := E) hG hX Tryd.call18 rfl hN (sameT rfl (by omega)) (L _ rfl)) rfl ⟨rfl, rfl, trivial⟩ trivial ?_
            refine swg (g := 92) rfl rfl (core_not (L _ rfl)) rfl ⟨rfl, trivial⟩ trivial ?_
            refine sw (core_pick_f rfl (L _ rfl)) ⟨rfl, rfl, trivial⟩ trivial ?_
            refine seq_nil ⟨aoks [⟨[18], [], [90], []⟩, ⟨[90], [], [91], []⟩, ⟨[91], [], [92], []⟩, ⟨[92, 17], [17], [93], []⟩, ⟨[92, 5], [5], [94], []⟩, ⟨[92], [], [95], []⟩, ⟨[92, 94, 95], [], [96], []⟩, ⟨[92, 16], [], [97], []⟩, ⟨[92, 5], [5], [98], []⟩, ⟨[92, 98], [], [99], []⟩, ⟨[92, 97, 99], [], [100], []⟩, ⟨[92, 100], [], [101], []⟩, ⟨[92, 96, 101], [], [102], []⟩, ⟨[92, 93, 102], [], [103], []⟩, ⟨[92, 103], [], [104], []⟩, ⟨[92, 104], [], [105], []⟩] (by rfl) (by rfl) (by decide), [(3, _), (4, _), (5, _), (105, _)], [(5, _)], ⟨rfl, rfl, rfl, rfl, trivial⟩, ⟨rfl, trivial⟩, ?_⟩
            refine ex_if rfl (fun hw => ?_) (fun hw => ?_)
            · cases hw
            · refine ex_skip ?_
              exact ⟨⟨(by first | exact rfl | exact oi (by omega) rfl), (by first | exact rfl | exact oi (by omega) rfl), (by first | exact rfl | exact oi (by omega) rfl), trivial⟩, ⟨rfl, trivial⟩⟩
          · refine ex_skip ?_
            exact ⟨⟨(by first | exact rfl | exact oi (by omega) rfl), (by first | exact rfl | exact oi (by omega) rfl), (by first | exact rfl | exact oi (by omega) rfl), trivial⟩, ⟨rfl, trivial⟩⟩
        · have hbl := bl_le_nw a
          have hk0 : 0 ≤ ((bl a.natAbs : Nat) : Int) := by omega
          have hkm : 0 ≤ (((bl a.natAbs : Nat) : Int) + 1) * (m + n) ∧ (((bl a.natAbs : Nat) : Int) + 1) * (m + n) ≤ 1281 * 510 := ⟨Int.mul_nonneg (by omega) (by omega), Int.mul_le_mul (by omega) (by omega) (by omega) (by omega)⟩
          refine ex_seq ?_
          refine exr ?_
          refine sw (core_loadP Tryd.isAgg24 Tryd.sizeOf24 (by rfl) (by exact (.cons (.cons .nil))) rfl (L _ rfl)) ⟨rfl, trivial⟩ ⟨rfl, trivial⟩ ?_
          refine sw (core_call (E := E) hG hX Tryd.call22 rfl hN (rbitsZ a (by omega)) (L _ rfl)) ⟨rfl, trivial⟩ trivial ?_
          refine sw (core_add (L _ rfl) (w64 (by omega) (by omega))) ⟨rfl, rfl, trivial⟩ trivial ?_
          refine sw (core_assign (L _ rfl)) ⟨rfl, trivial⟩ trivial ?_
          refine seq_nil ⟨[(3, _), (4, _), (5, _), (19, _)], [(5, _)], ⟨rfl, rfl, rfl, rfl, trivial⟩, ⟨rfl, trivial⟩, ?_⟩
          refine exr ?_
          refine sw (core_move (L _ rfl)) ⟨rfl, trivial⟩ trivial ?_
          refine sw (core_move (L _ rfl)) ⟨rfl, trivial⟩ trivial ?_
          refine sw (core_conv Tryd.underlying5 Tryd.underlying3 (L _ rfl) (w64 (by omega) (by omega))) ⟨rfl, trivial⟩ trivial ?_
          refine sw (core_move (L _ rfl)) ⟨rfl, trivial⟩ trivial ?_
          refine sw (core_conv Tryd.underlying5 Tryd.underlying3 (L _ rfl) (w64 (by omega) (by omega))) ⟨rfl, trivial⟩ trivial ?_
          refine sw (core_add (L _ rfl) (w64 (by omega) (by omega))) ⟨rfl, rfl, trivial⟩ trivial ?_
          refine sw (core_mul (L _ rfl) (w64 (by omega) (by omega))) ⟨rfl, rfl, trivial⟩ trivial ?_
          refine sw (core_leq (L _ rfl)) ⟨rfl, rfl, trivial⟩ trivial ?_
          refine seq_nil ⟨[(3, _), (4, _), (5, _), (116, _)], [(5, _)], ⟨rfl, rfl, rfl, rfl, trivial⟩, ⟨rfl, trivial⟩, ?_⟩
          refine ex_cut (sl := []) (sl0 := [(5, _)]) (hb := []) (hb0 := [(5, _)]) ⟨rfl, trivial⟩ ⟨rfl, trivial⟩ ?_ ?_
          · refine ex_if rfl (fun hq => ?_) (fun hq => ?_)
            · have hq := dt hq
              have w1 := pow_nw2 (a := a) (n := m) (k := m + n) hm.1 (by omega) hq
              have w2 := pow_nw2 (a := a) (n := n) (k := m + n) hn.1 (by omega) hq
              have w3 := nw_mul (a ^ m.toNat) (a ^ n.toNat)
              have ep : a ^ m.toNat * a ^ n.toNat = a ^ (m + n).toNat := by rw [← Int.pow_add, Int.toNat_add hm.1 hn.1]
              refine exr ?_
              refine sw (core_loadP Tryd.isAgg24 Tryd.sizeOf24 (by rfl) (by exact (.cons (.cons .nil))) rfl (L _ rfl)) ⟨rfl, trivial⟩ ⟨rfl, trivial⟩ ?_
              refine sw (core_move (L _ rfl)) ⟨rfl, trivial⟩ trivial ?_
              refine sw (core_conv Tryd.underlying5 Tryd.underlying3 (L _ rfl) (w64 (by omega) (by omega))) ⟨rfl, trivial⟩ trivial ?_
              refine sw (core_call (E := E) hG hX Tryd.call45 rfl hN (powT (k := m + n) (by omega) hm.1 (by omega) (by omega) hq) (L _ rfl)) ⟨rfl, rfl, trivial⟩ trivial ?_
              refine sw (core_move (L _ rfl)) ⟨rfl, trivial⟩ trivial ?_
              refine sw (core_extract rfl (L _ rfl)) ⟨rfl, trivial⟩ trivial ?_
              refine sw (core_extract rfl (L _ rfl)) ⟨rfl, trivial⟩ trivial ?_
              refine swb (core_alloc (k := 20) (n := 2) Tryd.zeroValue24 (.cons rfl (.cons rfl .nil)) rfl (P0 _ rfl) (L _ rfl)) trivial trivial ⟨rfl, rfl⟩ ?_
              refine sb (core_storeM Tryd.sizeOf24 (by rfl) (.pagg (.cons (.cons .nil))) rfl (.put (.put .here))) ⟨rfl, rfl, trivial⟩ ⟨rfl, trivial⟩ ?_
              refine sw (core_assign (L _ rfl)) ⟨rfl, trivial⟩ trivial ?_
              refine seq_nil ⟨[(3, _), (4, _), (5, _), (20, _), (21, _)], [(5, _), (20, _)], ⟨rfl, rfl, rfl, rfl, rfl, trivial⟩, ⟨rfl, rfl, trivial⟩, ?_⟩
              refine exr ?_
              refine sw (core_loadP Tryd.isAgg24 Tryd.sizeOf24 (by rfl) (by exact (.cons (.cons .nil))) rfl (L _ rfl)) ⟨rfl, trivial⟩ ⟨rfl, trivial⟩ ?_
              refine sw (core_move (L _ rfl)) ⟨rfl, trivial⟩ trivial ?_
              refine sw (core_conv Tryd.underlying5 Tryd.underlying3 (L _ rfl) (w64 (by omega) (by omega))) ⟨rfl, trivial⟩ trivial ?_
              refine sw (core_call (E := E) hG hX Tryd.call45 rfl hN (powT (k := m + n) (by omega) hn.1 (by omega) (by omega) hq) (L _ rfl)) ⟨rfl, rfl, trivial⟩ trivial ?_
              refine sw (core_move (L _ rfl)) ⟨rfl, trivial⟩ trivial ?_
              refine sw (core_extract rfl (L _ rfl)) ⟨rfl, trivial⟩ trivial ?_
              refine sw (core_extract rfl (L _ rfl)) ⟨rfl, trivial⟩ trivial ?_
              refine swb (core_alloc (k := 22) (n := 2) Tryd.zeroValue24 (.cons rfl (.cons rfl .nil)) rfl (P0 _ rfl) (L _ rfl)) trivial trivial ⟨rfl, rfl⟩ ?_
              refine sb (core_storeM Tryd.sizeOf24 (by rfl) (.pagg (.cons (.cons .nil))) rfl (.put (.put .here))) ⟨rfl, rfl, trivial⟩ ⟨rfl, trivial⟩ ?_
              refine sw (core_assign (L _ rfl)) ⟨rfl, trivial⟩ trivial ?_
              refine seq_nil ⟨[(3, _), (4, _), (5, _), (20, _), (21, _), (22, _), (23, _)], [(5, _), (20, _), (22, _)], ⟨rfl, rfl, rfl, rfl, rfl, rfl, rfl, trivial⟩, ⟨rfl, rfl, rfl, trivial⟩, ?_⟩
              refine exr ?_
              refine sw (core_loadP Tryd.isAgg24 Tryd.sizeOf24 (by rfl) (by exact (.cons (.cons .nil))) rfl (L _ rfl)) ⟨rfl, trivial⟩ ⟨rfl, trivial⟩ ?_
              refine sw (core_move (L _ rfl)) ⟨rfl, trivial⟩ trivial ?_
              refine sw (core_conv Tryd.underlying5 Tryd.underlying3 (L _ rfl) (w64 (by omega) (by omega))) ⟨rfl, trivial⟩ trivial ?_
              refine sw (core_move (L _ rfl)) ⟨rfl, trivial⟩ trivial ?_
              refine sw (core_conv Tryd.underlying5 Tryd.underlying3 (L _ rfl) (w64 (by omega) (by omega))) ⟨rfl, trivial⟩ trivial ?_
              refine sw (core_add (L _ rfl) (w64 (by omega) (by omega))) ⟨rfl, rfl, trivial⟩ trivial ?_
              refine sw (core_call (E := E) hG hX Tryd.call45 rfl hN (powT (k := m + n) (by omega) (by omega) (by omega) (by omega) hq) (L _ rfl)) ⟨rfl, rfl, trivial⟩ trivial ?_
              refine sw (core_move (L _ rfl)) ⟨rfl, trivial⟩ trivial ?_
              refine sw (core_extract rfl (L _ rfl)) ⟨rfl, trivial⟩ trivial ?_
              refine sw (core_extract rfl (L _ rfl)) ⟨rfl, trivial⟩ trivial ?_
              refine swb (core_alloc (k := 24) (n := 2) Tryd.zeroValue24 (.cons rfl (.cons rfl .nil)) rfl (P0 _ rfl) (L _ rfl)) trivial trivial ⟨rfl, rfl⟩ ?_
              refine sb (core_storeM Tryd.sizeOf24 (by rfl) (.pagg (.cons (.cons .nil))) rfl (.put (.put .here))) ⟨rfl, rfl, trivial⟩ ⟨rfl, trivial⟩ ?_
              refine sw (core_assign (L _ rfl)) ⟨rfl, trivial⟩ trivial ?_
              refine seq_nil ⟨[(5, _), (20, _), (21, _), (22, _), (23, _), (24, _), (25, _)], [(5, _), (20, _), (22, _), (24, _)], ⟨rfl, rfl, rfl, rfl, rfl, rfl, rfl, trivial⟩, ⟨rfl, rfl, rfl, rfl, trivial⟩, ?_⟩
              refine exd (by rfl) ?_
              refine sw (core_move (L _ rfl)) ⟨rfl, trivial⟩ trivial ?_
              refine sw (core_neq (L _ rfl)) ⟨rfl, rfl, trivial⟩ trivial ?_
              refine sw (core_move (L _ rfl)) ⟨rfl, trivial⟩ trivial ?_
              refine swg (g := 143) rfl rfl (core_move (L _ rfl)) rfl ⟨rfl, trivial⟩ trivial ?_
              refine swg (g := 143) rfl rfl (core_neq (L _ rfl)) rfl ⟨rfl, rfl, trivial⟩ trivial ?_
              refine sw (core_pick_f rfl (L _ rfl)) ⟨rfl, rfl, trivial⟩ trivial ?_
              refine sw (core_move (L _ rfl)) ⟨rfl, trivial⟩ trivial ?_
              refine swg (g := 147) rfl rfl (core_move (L _ rfl)) rfl ⟨rfl, trivial⟩ trivial ?_
              refine swg (g := 147) rfl rfl (core_neq (L _ rfl)) rfl ⟨rfl, rfl, trivial⟩ trivial ?_
              refine sw (core_pick_f rfl (L _ rfl)) ⟨rfl, rfl, trivial⟩ trivial ?_
              refine sw (core_move (L _ rfl)) ⟨rfl, trivial⟩ trivial ?_
              refine swg (g := 151) rfl rfl (core_loadP Tryd.isAgg24 Tryd.sizeOf24 (by rfl) (by exact (.cons (.cons .nil))) rfl (L _ rfl)) rfl ⟨rfl, trivial⟩ ⟨rfl, trivial⟩ ?_
              refine swg (g := 151) rfl rfl (core_loadP Tryd.isAgg24 Tryd.sizeOf24 (by rfl) (by exact (.cons (.cons .nil))) rfl (L _ rfl)) rfl ⟨rfl, trivial⟩ ⟨rfl, trivial⟩ ?_
              refine swg (g := 151) rfl rfl (core_call (E := E) hG hX Tryd.call39 rfl hN (mulZ (a ^ m.toNat) (a ^ n.toNat) (by omega) (by omega)) (L _ rfl)) rfl ⟨rfl, rfl, trivial⟩ trivial ?_
              refine swg (g := 151) rfl rfl (core_loadP Tryd.isAgg24 Tryd.sizeOf24 (by rfl) (by exact (.cons (.cons .nil))) rfl (L _ rfl)) rfl ⟨rfl, trivial⟩ ⟨rfl, trivial⟩ ?_
              refine swg (g := 151) rfl rfl (core_call (E := E) hG hX Tryd.call18 rfl hN (sameT ep (by omega)) (L _ rfl)) rfl ⟨rfl, rfl, trivial⟩ trivial ?_
              refine swg (g := 151) rfl rfl (core_not (L _ rfl)) rfl ⟨rfl, trivial⟩ trivial ?_
              refine sw (core_pick_f rfl (L _ rfl)) ⟨rfl, rfl, trivial⟩ trivial ?_
              refine seq_nil ⟨aoks [⟨[21], [], [141], []⟩, ⟨[141], [], [142], []⟩, ⟨[142], [], [143], []⟩, ⟨[143, 23], [], [144], []⟩, ⟨[143, 144], [], [145], []⟩, ⟨[143, 145], [], [146], []⟩, ⟨[146], [], [147], []⟩, ⟨[147, 25], [], [148], []⟩, ⟨[147, 148], [], [149], []⟩, ⟨[147, 149], [], [150], []⟩, ⟨[150], [], [151], []⟩, ⟨[151, 20], [20], [152], []⟩, ⟨[151, 22], [22], [153], []⟩, ⟨[151, 152, 153], [], [154], []⟩, ⟨[151, 24], [24], [155], []⟩, ⟨[151, 154, 155], [], [156], []⟩, ⟨[151, 156], [], [157], []⟩, ⟨[151, 157], [], [158], []⟩] (by rfl) (by rfl) (by decide), [(5, _), (158, _)], [(5, _)], ⟨rfl, rfl, trivial⟩, ⟨rfl, trivial⟩, ?_⟩
              refine ex_if rfl (fun hv => ?_) (fun hv => ?_)
              · cases hv
              · refine ex_skip ?_
                exact ⟨⟨(by first | exact rfl | exact oi (by omega) rfl), trivial⟩, ⟨rfl, trivial⟩⟩
            · refine ex_skip ?_
              exact ⟨⟨(by first | exact rfl | exact oi (by omega) rfl), trivial⟩, ⟨rfl, trivial⟩⟩
          · refine exr ?_
            refine sw (core_loadP Tryd.isAgg24 Tryd.sizeOf24 (by rfl) (by exact (.cons (.cons .nil))) rfl (L _ rfl)) ⟨rfl, trivial⟩ ⟨rfl, trivial⟩ ?_
            refine sw (core_call (E := E) hG hX Tryd.call43 rfl hN (sqrtZ' a (by omega)) (L _ rfl)) ⟨rfl, trivial⟩ trivial ?_
            refine sw (core_move (L _ rfl)) ⟨rfl, trivial⟩ trivial ?_
            refine sw (core_extract rfl (L _ rfl)) ⟨rfl, trivial⟩ trivial ?_
            refine sw (core_extract rfl (L _ rfl)) ⟨rfl, trivial⟩ trivial ?_
            refine swb (core_alloc (k := 26) (n := 2) Tryd.zeroValue24 (.cons rfl (.cons rfl .nil)) rfl (P0 _ rfl) (L _ rfl)) trivial trivial ⟨rfl, rfl⟩ ?_
            refine sb (core_storeM Tryd.sizeOf24 (by rfl) (.pagg (.cons (.cons .nil))) rfl (.put (.put .here))) ⟨rfl, rfl, trivial⟩ ⟨rfl, trivial⟩ ?_
            refine sw (core_assign (L _ rfl)) ⟨rfl, trivial⟩ trivial ?_
            refine seq_nil ⟨[(5, _), (26, _), (27, _)], [(5, _), (26, _)], ⟨rfl, rfl, rfl, trivial⟩, ⟨rfl, rfl, trivial⟩, ?_⟩
            refine ex_seq ?_
            refine exr ?_
            refine sw (core_loadP Tryd.isAgg24 Tryd.sizeOf24 (by rfl) (by exact (.cons (.cons .nil))) rfl (L _ rfl)) ⟨rfl, trivial⟩ ⟨rfl, trivial⟩ ?_
            refine sw (core_call (E := E) hG hX Tryd.call23 rfl hN (signZ a (by omega)) (L _ rfl)) ⟨rfl, trivial⟩ trivial ?_
            refine sw (core_lss (L _ rfl)) ⟨rfl, rfl, trivial⟩ trivial ?_
            refine seq_nil ⟨[(5, _), (26, _), (27, _), (166, _)], [(5, _), (26, _)], ⟨rfl, rfl, rfl, rfl, trivial⟩, ⟨rfl, rfl, trivial⟩, ?_⟩
            refine ex_if rfl (fun hu => ?_) (fun hu => ?_)
            · have hu := dt hu
              rw [if_pos (show a < 0 by omega), if_pos (show a < 0 by omega)]
              refine exr ?_
              refine sw (core_call (E := E) hG hX Tryd.call13 rfl hN sane_says (L _ rfl)) trivial trivial ?_
              refine sw (core_move (L _ rfl)) ⟨rfl, trivial⟩ trivial ?_
              refine swg (g := 168) rfl rfl (core_move (L _ rfl)) rfl ⟨rfl, trivial⟩ trivial ?_
              refine swg (g := 168) rfl rfl (core_eql (L _ rfl)) rfl ⟨rfl, rfl, trivial⟩ trivial ?_
              refine sw (core_pick_t rfl (L _ rfl)) ⟨rfl, rfl, trivial⟩ trivial ?_
              refine sw (core_assign (L _ rfl)) ⟨rfl, trivial⟩ trivial ?_
              refine seq_nil ⟨[(10, _)], [], ⟨rfl, trivial⟩, trivial, ?_⟩
              refine ex_ret ?_
              refine ⟨.inr rfl, ResVs.cast (.cons (.tmp rfl) .nil) ?_⟩
              rfl
            · have hu := df hu
              rw [if_neg (show ¬ a < 0 by omega), if_neg (show ¬ a < 0 by omega)]
              obtain ⟨i0, i1, i2⟩ := sq_ex (a := a) (by omega)
              have y1 : nw (sqZ a) ≤ nw a := nw_mono (by
                have : sqZ a * 1 ≤ sqZ a * (sqZ a + 0) ∨ sqZ a = 0 := by
                  by_cases e : sqZ a = 0
                  · exact .inr e
                  · exact .inl (Int.mul_le_mul_of_nonneg_left (by omega) i0)
                rcases this with h | h
                · rw [Int.add_zero] at h; omega
                · rw [h]; omega)
              have y2 := nw_add (sqZ a) 1
              have z1 := nw_one
              have y3 := nw_mul (sqZ a) (sqZ a)
              have y4 := nw_mul (sqZ a + 1) (sqZ a + 1)
              have s1 := sign3 (sqZ a)
              have s2 := sign3 (sqZ a * sqZ a - a)
              have s3 := sign3 ((sqZ a + 1) * (sqZ a + 1) - a)
              rw [← cz] at s2 s3
              refine ex_skip (show Exec _ _ _ _ _ from ?_)
              refine exd (by rfl) ?_
              refine sw (core_loadP Tryd.isAgg24 Tryd.sizeOf24 (by rfl) (by exact (.cons (.cons .nil))) rfl (L _ rfl)) ⟨rfl, trivial⟩ ⟨rfl, trivial⟩ ?_
              refine sw (core_call (E := E) hG hX Tryd.call19 rfl hN (of_says 1 (by decide) (by decide)) (L _ rfl)) ⟨rfl, trivial⟩ trivial ?_
              refine sw (core_call (E := E) hG hX Tryd.call35 rfl hN (addZ (sqZ a) 1 (by omega) (by omega)) (L _ rfl)) ⟨rfl, rfl, trivial⟩ trivial ?_
              refine swb (core_alloc (k := 28) (n := 2) Tryd.zeroValue24 (.cons rfl (.cons rfl .nil)) rfl (P0 _ rfl) (L _ rfl)) trivial trivial ⟨rfl, rfl⟩ ?_
              refine sb (core_storeM Tryd.sizeOf24 (by rfl) (.pagg (.cons (.cons .nil))) rfl (.put (.put .here))) ⟨rfl, rfl, trivial⟩ ⟨rfl, trivial⟩ ?_
              refine seq_nil ⟨aok rfl rfl, [(5, _), (26, _), (27, _), (28, _)], [(5, _), (26, _), (28, _)], ⟨rfl, rfl, rfl, rfl, trivial⟩, ⟨rfl, rfl, rfl, trivial⟩, ?_⟩
              refine exd (by rfl) ?_
              refine sw (core_call (E := E) hG hX Tryd.call13 rfl hN sane_says (L _ rfl)) trivial trivial ?_
              refine sw (core_move (L _ rfl)) ⟨rfl, trivial⟩ trivial ?_
              refine swg (g := 176) rfl rfl (core_move (L _ rfl)) rfl ⟨rfl, trivial⟩ trivial ?_
              refine swg (g := 176) rfl rfl (core_eql (L _ rfl)) rfl ⟨rfl, rfl, trivial⟩ trivial ?_
              refine sw (core_pick_t rfl (L _ rfl)) ⟨rfl, rfl, trivial⟩ trivial ?_
              refine sw (core_move (L _ rfl)) ⟨rfl, trivial⟩ trivial ?_
              refine swg (g := 180) rfl rfl (core_loadP Tryd.isAgg24 Tryd.sizeOf24 (by rfl) (by exact (.cons (.cons .nil))) rfl (L _ rfl)) rfl ⟨rfl, trivial⟩ ⟨rfl, trivial⟩ ?_
              refine swg (g := 180) rfl rfl (core_call (E := E) hG hX Tryd.call23 rfl hN (signZ (sqZ a) (by omega)) (L _ rfl)) rfl ⟨rfl, trivial⟩ trivial ?_
              refine swg (g := 180) rfl rfl (core_geq (L _ rfl)) rfl ⟨rfl, rfl, trivial⟩ trivial ?_
              refine sw (core_pick_t rfl (L _ rfl)) ⟨rfl, rfl, trivial⟩ trivial ?_
              refine sw (core_move (L _ rfl)) ⟨rfl, trivial⟩ trivial ?_
              refine swg (g := 185) rfl (decide_eq_true (by omega)) (core_loadP Tryd.isAgg24 Tryd.sizeOf24 (by rfl) (by exact (.cons (.cons .nil))) rfl (L _ rfl)) rfl ⟨rfl, trivial⟩ ⟨rfl, trivial⟩ ?_
              refine swg (g := 185) rfl (decide_eq_true (by omega)) (core_loadP Tryd.isAgg24 Tryd.sizeOf24 (by rfl) (by exact (.cons (.cons .nil))) rfl (L _ rfl)) rfl ⟨rfl, trivial⟩ ⟨rfl, trivial⟩ ?_
              refine swg (g := 185) rfl (decide_eq_true (by omega)) (core_call (E := E) hG hX Tryd.call39 rfl hN (mulZ (sqZ a) (sqZ a) (by omega) (by omega)) (L _ rfl)) rfl ⟨rfl, rfl, trivial⟩ trivial ?_
              refine swg (g := 185) rfl (decide_eq_true (by omega)) (core_loadP Tryd.isAgg24 Tryd.sizeOf24 (by rfl) (by exact (.cons (.cons .nil))) rfl (L _ rfl)) rfl ⟨rfl, trivial⟩ ⟨rfl, trivial⟩ ?_
              refine swg (g := 185) rfl (decide_eq_true (by omega)) (core_call (E := E) hG hX Tryd.call25 rfl hN (cmpZ (sqZ a * sqZ a) a (by omega) (by omega)) (L _ rfl)) rfl ⟨rfl, rfl, trivial⟩ trivial ?_
              refine swg (g := 185) rfl (decide_eq_true (by omega)) (core_leq (L _ rfl)) rfl ⟨rfl, rfl, trivial⟩ trivial ?_
              refine sw (core_pick_t (decide_eq_true (by omega)) (L _ rfl)) ⟨rfl, rfl, trivial⟩ trivial ?_
              refine sw (core_move (L _ rfl)) ⟨rfl, trivial⟩ trivial ?_
              refine swg (g := 193) rfl (decide_eq_true (by omega)) (core_loadP Tryd.isAgg24 Tryd.sizeOf24 (by rfl) (by exact (.cons (.cons .nil))) rfl (L _ rfl)) rfl ⟨rfl, trivial⟩ ⟨rfl, trivial⟩ ?_
              refine swg (g := 193) rfl (decide_eq_true (by omega)) (core_loadP Tryd.isAgg24 Tryd.sizeOf24 (by rfl) (by exact (.cons (.cons .nil))) rfl (L _ rfl)) rfl ⟨rfl, trivial⟩ ⟨rfl, trivial⟩ ?_
              refine swg (g := 193) rfl (decide_eq_true (by omega)) (core_call (E := E) hG hX Tryd.call39 rfl hN (mulZ (sqZ a + 1) (sqZ a + 1) (by omega) (by omega)) (L _ rfl)) rfl ⟨rfl, rfl, trivial⟩ trivial ?_
              refine swg (g := 193) rfl (decide_eq_true (by omega)) (core_loadP Tryd.isAgg24 Tryd.sizeOf24 (by rfl) (by exact (.cons (.cons .nil))) rfl (L _ rfl)) rfl ⟨rfl, trivial⟩ ⟨rfl, trivial⟩ ?_
              refine swg (g := 193) rfl (decide_eq_true (by omega)) (core_call (E := E) hG hX Tryd.call25 rfl hN (cmpZ ((sqZ a + 1) * (sqZ a + 1)) a (by omega) (by omega)) (L _ rfl)) rfl ⟨rfl, rfl, trivial⟩ trivial ?_
              refine swg (g := 193) rfl (decide_eq_true (by omega)) (core_gtr (L _ rfl)) rfl ⟨rfl, rfl, trivial⟩ trivial ?_
              refine sw (core_pick_t (decide_eq_true (by omega)) (L _ rfl)) ⟨rfl, rfl, trivial⟩ trivial ?_
              refine sw (core_assign (L _ rfl)) ⟨rfl, trivial⟩ trivial ?_
              refine seq_nil ⟨aoks [⟨[], [], [175], []⟩, ⟨[175], [], [176], []⟩, ⟨[176, 27], [], [177], []⟩, ⟨[176, 177], [], [178], []⟩, ⟨[176, 178], [], [179], []⟩, ⟨[179], [], [180], []⟩, ⟨[180, 26], [26], [181], []⟩, ⟨[180, 181], [], [182], []⟩, ⟨[180, 182], [], [183], []⟩, ⟨[180, 183], [], [184], []⟩, ⟨[184], [], [185], []⟩, ⟨[185, 26], [26], [186], []⟩, ⟨[185, 26], [26], [187], []⟩, ⟨[185, 186, 187], [], [188], []⟩, ⟨[185, 5], [5], [189], []⟩, ⟨[185, 188, 189], [], [190], []⟩, ⟨[185, 190], [], [191], []⟩, ⟨[185, 191], [], [192], []⟩, ⟨[192], [], [193], []⟩, ⟨[193, 28], [28], [194], []⟩, ⟨[193, 28], [28], [195], []⟩, ⟨[193, 194, 195], [], [196], []⟩, ⟨[193, 5], [5], [197], []⟩, ⟨[193, 196, 197], [], [198], []⟩, ⟨[193, 198], [], [199], []⟩, ⟨[193, 199], [], [200], []⟩, ⟨[200], [], [10], []⟩] (by rfl) (by rfl) (by decide), [(10, _)], [], ⟨rfl, trivial⟩, trivial, ?_⟩
              refine ex_ret ?_
              refine ⟨.inr rfl, ResVs.cast (.cons (.tmp rfl) .nil) ?_⟩
              simp; omega

set_option maxRecDepth 100000 in
set_option maxHeartbeats 4000000 in
theorem back_no (m : Bool) (ws : List Int) (bs : List UInt8) (g0 k n : Int) (hn : ¬ ((ws.length : Int) ≤ 40 ∧ canon m ws = true ∧ (bs.length : Int) ≤ 3000)) : Says E 10 [pI m ws, pS bs, .a (.int .u8 g0), .a (.int .u8 k), .a (.int .u8 n)] (bZ true) := by
  refine says_of (xs := [bZ true]) Tryd.func10 rfl Tryd.ntmps10 Tryd.results10 (by simp) fun F hG hX0 hnt hdf P0 => ?_
  have L := ltn hnt
  have hX : ∀ b, F.X b → E.ng ≤ b := fun b h => absurd h (hX0 b)
  have hN := ng_le hG
  have hsz := str_size bs
  refine exr ?_
  refine swb (core_box (k := 5) (n := 2) (.pagg (.cons (.cons .nil))) rfl rfl (P0 _ rfl) (L _ rfl)) ⟨rfl, trivial⟩ trivial ⟨rfl, rfl⟩ ?_
  refine sw (core_assign (L _ rfl)) ⟨rfl, trivial⟩ trivial ?_
  refine seq_nil ⟨[(1, _), (2, _), (3, _), (4, _), (5, _)], [(5, _)], ⟨rfl, rfl, rfl, rfl, rfl, trivial⟩, ⟨rfl, trivial⟩, ?_⟩
  refine ex_seq ?_
  refine exm (sl := [(43, vb true)]) (sl0 := [(1, _), (2, _), (3, _), (4, _), (5, _)]) (hb := []) (hb0 := [(5, _)]) ⟨rfl, rfl, rfl, rfl, rfl, trivial⟩ ⟨rfl, trivial⟩ ?_ ?_
  · rcases (show ¬ (ws.length : Int) ≤ 40 ∨ ((ws.length : Int) ≤ 40 ∧ ¬ canon m ws = true) ∨ ((ws.length : Int) ≤ 40 ∧ canon m ws = true ∧ (3000 : Int) < bs.length) by rcases p3 ((ws.length : Int) ≤ 40) (canon m ws = true) with h | h | h; exact .inl h; exact .inr (.inl h); exact .inr (.inr ⟨h.1, h.2, by by_cases e : (bs.length : Int) ≤ 3000; exact absurd ⟨h.1, h.2, e⟩ hn; omega⟩)) with h1 | ⟨h1, h2⟩ | ⟨h1, h2, h3⟩
    · refine sw (core_loadP Tryd.isAgg24 Tryd.sizeOf24 (by rfl) (by exact (.cons (.cons .nil))) rfl (L _ rfl)) ⟨rfl, trivial⟩ ⟨rfl, trivial⟩ ?_
      refine sw (core_loadP Tryd.isAgg24 Tryd.sizeOf24 (by rfl) (by exact (.cons (.cons .nil))) rfl (L _ rfl)) ⟨rfl, trivial⟩ ⟨rfl, trivial⟩ ?_
      refine sw (core_loadP Tryd.isAgg24 Tryd.sizeOf24 (by rfl) (by exact (.cons (.cons .nil))) rfl (L _ rfl)) ⟨rfl, trivial⟩ ⟨rfl, trivial⟩ ?_
      refine sw (core_call (E := E) hG hX Tryd.call12 rfl hN (lshort_says 40 m m m ws ws ws) (L _ rfl)) ⟨rfl, rfl, rfl, rfl, trivial⟩ trivial ?_
      refine sw (core_not (L _ rfl)) ⟨rfl, trivial⟩ trivial ?_
      refine sw (core_move (L _ rfl)) ⟨rfl, trivial⟩ trivial ?_
      refine swn (g := 34) rfl (by simp; omega) (L _ rfl) rfl ?_
      refine swn (g := 34) rfl (by simp; omega) (L _ rfl) rfl ?_
      refine swn (g := 34) rfl (by simp; omega) (L _ rfl) rfl ?_
      refine sw (core_pick_t (by simp; omega) (L _ rfl)) ⟨rfl, rfl, trivial⟩ trivial ?_
      refine sw (core_move (L _ rfl)) ⟨rfl, trivial⟩ trivial ?_
      refine swn (g := 39) rfl rfl (L _ rfl) rfl ?_
      refine swn (g := 39) rfl rfl (L _ rfl) rfl ?_
      refine swn (g := 39) rfl rfl (L _ rfl) rfl ?_
      refine sw (core_pick_t rfl (L _ rfl)) ⟨rfl, rfl, trivial⟩ trivial ?_
      exact seq_nil ⟨⟨ob rfl rfl, rfl, rfl, rfl, rfl, rfl, trivial⟩, ⟨rfl, trivial⟩⟩
    · refine sw (core_loadP Tryd.isAgg24 Tryd.sizeOf24 (by rfl) (by exact (.cons (.cons .nil))) rfl (L _ rfl)) ⟨rfl, trivial⟩ ⟨rfl, trivial⟩ ?_
      refine sw (core_loadP Tryd.isAgg24 Tryd.sizeOf24 (by rfl) (by exact (.cons (.cons .nil))) rfl (L _ rfl)) ⟨rfl, trivial⟩ ⟨rfl, trivial⟩ ?_
      refine sw (core_loadP Tryd.isAgg24 Tryd.sizeOf24 (by rfl) (by exact (.cons (.cons .nil))) rfl (L _ rfl)) ⟨rfl, trivial⟩ ⟨rfl, trivial⟩ ?_
      refine sw (core_call (E := E) hG hX Tryd.call12 rfl hN (lshort_says 40 m m m ws ws ws) (L _ rfl)) ⟨rfl, rfl, rfl, rfl, trivial⟩ trivial ?_
      refine sw (core_not (L _ rfl)) ⟨rfl, trivial⟩ trivial ?_
      refine sw (core_move (L _ rfl)) ⟨rfl, trivial⟩ trivial ?_
      refine swg (g := 34) rfl (by simp; omega) (core_loadP Tryd.isAgg24 Tryd.sizeOf24 (by rfl) (by exact (.cons (.cons .nil))) rfl (L _ rfl)) rfl ⟨rfl, trivial⟩ ⟨rfl, trivial⟩ ?_
      refine swg (g := 34) rfl (by simp; omega) (core_call (E := E) hG hX Tryd.call17 rfl hN (ris_says m ws (by omega)) (L _ rfl)) rfl ⟨rfl, trivial⟩ trivial ?_
      refine swg (g := 34) rfl (by simp; omega) (core_not (L _ rfl)) rfl ⟨rfl, trivial⟩ trivial ?_
      refine sw (core_pick_f (by simp; omega) (L _ rfl)) ⟨rfl, rfl, trivial⟩ trivial ?_
      refine sw (core_move (L _ rfl)) ⟨rfl, trivial⟩ trivial ?_
      refine swn (g := 39) rfl (by simp [h2]) (L _ rfl) rfl ?_
      refine swn (g := 39) rfl (by simp [h2]) (L _ rfl) rfl ?_
      refine swn (g := 39) rfl (by simp [h2]) (L _ rfl) rfl ?_
      refine sw (core_pick_t (by simp [h2]) (L _ rfl)) ⟨rfl, rfl, trivial⟩ trivial ?_
      exact seq_nil ⟨⟨ob rfl (by simp [h2]), rfl, rfl, rfl, rfl, rfl, trivial⟩, ⟨rfl, trivial⟩⟩
    · refine sw (core_loadP Tryd.isAgg24 Tryd.sizeOf24 (by rfl) (by exact (.cons (.cons .nil))) rfl (L _ rfl)) ⟨rfl, trivial⟩ ⟨rfl, trivial⟩ ?_
      refine sw (core_loadP Tryd.isAgg24 Tryd.sizeOf24 (by rfl) (by exact (.cons (.cons .nil))) rfl (L _ rfl)) ⟨rfl, trivial⟩ ⟨rfl, trivial⟩ ?_
      refine sw (core_loadP Tryd.isAgg24 Tryd.sizeOf24 (by rfl) (by exact (.cons (.cons .nil))) rfl (L _ rfl)) ⟨rfl, trivial⟩ ⟨rfl, trivial⟩ ?_
      refine sw (core_call (E := E) hG hX Tryd.call12 rfl hN (lshort_says 40 m m m ws ws ws) (L _ rfl)) ⟨rfl, rfl, rfl, rfl, trivial⟩ trivial ?_
      refine sw (core_not (L _ rfl)) ⟨rfl, trivial⟩ trivial ?_
      refine sw (core_move (L _ rfl)) ⟨rfl, trivial⟩ trivial ?_
      refine swg (g := 34) rfl (by simp; omega) (core_loadP Tryd.isAgg24 Tryd.sizeOf24 (by rfl) (by exact (.cons (.cons .nil))) rfl (L _ rfl)) rfl ⟨rfl, trivial⟩ ⟨rfl, trivial⟩ ?_
      refine swg (g := 34) rfl (by simp; omega) (core_call (E := E) hG hX Tryd.call17 rfl hN (ris_says m ws (by omega)) (L _ rfl)) rfl ⟨rfl, trivial⟩ trivial ?_
      refine swg (g := 34) rfl (by simp; omega) (core_not (L _ rfl)) rfl ⟨rfl, trivial⟩ trivial ?_
      refine sw (core_pick_f (by simp; omega) (L _ rfl)) ⟨rfl, rfl, trivial⟩ trivial ?_
      refine sw (core_move (L _ rfl)) ⟨rfl, trivial⟩ trivial ?_
      refine swg (g := 39) rfl (by simp [h2]) (core_move (L _ rfl)) rfl ⟨rfl, trivial⟩ trivial ?_
      refine swg (g := 39) rfl (by simp [h2]) (core_lenS Tryd.underlying9 (L _ rfl)) rfl ⟨rfl, trivial⟩ trivial ?_
      refine swg (g := 39) rfl (by simp [h2]) (core_gtr (L _ rfl)) rfl ⟨rfl, rfl, trivial⟩ trivial ?_
      refine sw (core_pick_f (by simp [h2]) (L _ rfl)) ⟨rfl, rfl, trivial⟩ trivial ?_
      exact seq_nil ⟨⟨ob rfl (decide_eq_true (by rw [hsz]; exact h3)), rfl, rfl, rfl, rfl, rfl, trivial⟩, ⟨rfl, trivial⟩⟩
  refine ex_if rfl (fun hc => ?_) (fun hc => ?_)
  · refine exr ?_
    refine sw (core_call (E := E) hG hX Tryd.call13 rfl hN sane_says (L _ rfl)) trivial trivial ?_
    refine sw (core_assign (L _ rfl)) ⟨rfl, trivial⟩ trivial ?_
    refine seq_nil ⟨[(10, _)], [], ⟨rfl, trivial⟩, trivial, ?_⟩
    refine ex_ret ?_
    refine ⟨.inr rfl, ResVs.cast (.cons (.tmp rfl) .nil) ?_⟩
    rfl
  · cases hc

theorem back_says (m : Bool) (ws : List Int) (s : ByteArray) (g0 k n : Int) (h : Wd ws) (hg0 : 0 ≤ g0 ∧ g0 < 256) (hk : 0 ≤ k ∧ k < 256) (hn : 0 ≤ n ∧ n < 256) : Says E 10 [pI m ws, .a (.string s), .a (.int .u8 g0), .a (.int .u8 k), .a (.int .u8 n)] (bZ true) := by
  rw [← str_of s]
  by_cases hc : (ws.length : Int) ≤ 40 ∧ canon m ws = true ∧ (s.data.toList.length : Int) ≤ 3000
  · obtain ⟨c1, c2, c3⟩ := hc
    rw [pI_eq h c2]
    have k1 := nw_val (m := m) h
    exact back_z _ _ _ _ _ (by omega) (by omega) hg0 hk hn
  · exact back_no m ws _ g0 k n hc
end Go.Proofs.YtebkelnibecmjaaDoor.N
