/- Part Text of the proof: lemmas for the walks of the given functions. No statement of its own. -/
import Derived.Test.YtebkelnibecmjaaDoorPlain
set_option linter.unusedVariables false
set_option linter.unusedSimpArgs false
set_option linter.deprecated false
namespace Go.Proofs.YtebkelnibecmjaaDoor.NumA
open Go.Lib
theorem u8_back {c : UInt8} (h : 48 ≤ c.toNat ∧ c.toNat ≤ 57) : UInt8.ofNat (48 + (dg c).toNat) = c := by
  have : 48 + (dg c).toNat = c.toNat := by unfold dg; omega
  rw [this]; simp
/-- Digits without a leading zero are the decimal numeral of their number. -/
theorem dec_num : ∀ (n : Nat) (ds : List UInt8), ds.length = n + 1 → Digits ds → (((ds.getD 0 0).toNat ≠ 48) ∨ n = 0) → decDigits (numI ds).toNat = ds ∧ ((ds.getD 0 0).toNat ≠ 48 → 0 < numI ds)
  | 0, ds, hl, hd, _ => by
    obtain ⟨c, rfl⟩ : ∃ c, ds = [c] := List.length_eq_one_iff.1 hl
    have hc := hd c (by simp)
    have e : numI [c] = dg c := by simp [numI]
    rw [e]
    have : (dg c).toNat < 10 := by unfold dg; omega
    refine ⟨by rw [dec_small this, u8_back hc], fun h => ?_⟩
    simp only [List.getD_cons_zero] at h
    unfold dg; omega
  | n + 1, ds, hl, hd, h => by
    have hne : ds ≠ [] := by intro e; subst e; simp at hl
    obtain ⟨as, c, rfl⟩ : ∃ as c, ds = as ++ [c] := ⟨ds.dropLast, ds.getLast hne, (List.dropLast_concat_getLast hne).symm⟩
    have hal : as.length = n + 1 := by simpa using hl
    have hg : (as ++ [c]).getD 0 0 = as.getD 0 0 := by
      rw [List.getD_eq_getElem?_getD, List.getElem?_append_left (by omega), ← List.getD_eq_getElem?_getD]
    have hc := hd c (by simp)
    have hda : Digits as := fun x hx => hd x (List.mem_append_left _ hx)
    rw [hg] at h ⊢
    have h1 : (as.getD 0 0).toNat ≠ 48 := by rcases h with h | h; exact h; omega
    obtain ⟨ih1, ih2⟩ := dec_num n as hal hda (.inl h1)
    have hp := ih2 h1
    have hcd : 0 ≤ dg c ∧ dg c < 10 := by unfold dg; omega
    rw [numI_snoc]
    refine ⟨?_, fun _ => by omega⟩
    have e1 : (10 * numI as + dg c).toNat / 10 = (numI as).toNat := by omega
    have e2 : (10 * numI as + dg c).toNat % 10 = (dg c).toNat := by omega
    rw [dec_big (by omega), e1, e2, ih1, u8_back hc]
/-- The first digit of a numeral. -/
theorem dec_head : ∀ (n u : Nat), u ≤ n → 0 < u → ((decDigits u).getD 0 0).toNat ≠ 48 := by
  intro n
  induction n with
  | zero => intro u h1 h2; omega
  | succ n ih =>
    intro u h1 h2
    by_cases h : u < 10
    · rw [dec_small h]
      simp only [List.getD_cons_zero]
      have : (UInt8.ofNat (48 + u)).toNat = 48 + u := by simp; omega
      omega
    · rw [dec_big h]
      have hl := dec_pos (u / 10)
      have hg : (decDigits (u / 10) ++ [UInt8.ofNat (48 + u % 10)]).getD 0 0 = (decDigits (u / 10)).getD 0 0 := by
        rw [List.getD_eq_getElem?_getD, List.getElem?_append_left (by omega), ← List.getD_eq_getElem?_getD]
      rw [hg]
      exact ih (u / 10) (by omega) (by omega)
theorem dec_len {u k : Nat} (h : u < 10 ^ (k + 1)) : (decDigits u).length ≤ k + 1 := (pad_dec k h).1
/-- A digit behind the text. -/
theorem itoa_snoc {a d : Int} (ha : a ≠ 0) (h0 : 0 ≤ d) (h1 : d < 10) : itoa a ++ [UInt8.ofNat (48 + d.toNat)] = itoa (a * 10 + d * a.sign) := by
  by_cases hn : a < 0
  · have hs : a.sign = -1 := Int.sign_eq_neg_one_of_neg hn
    rw [itoa, if_pos hn, itoa, if_pos (by rw [hs]; omega)]
    have e1 : (a * 10 + d * a.sign).natAbs / 10 = a.natAbs := by rw [hs]; omega
    have e2 : (a * 10 + d * a.sign).natAbs % 10 = d.toNat := by rw [hs]; omega
    rw [List.cons_append]
    congr 1
    have e0 := dec_big (u := (a * 10 + d * a.sign).natAbs) (by rw [hs]; omega)
    rw [e1, e2] at e0
    exact e0.symm
  · have hs : a.sign = 1 := Int.sign_eq_one_of_pos (by omega)
    rw [itoa, if_neg hn, itoa, if_neg (by rw [hs]; omega)]
    have e1 : (a * 10 + d * a.sign).toNat / 10 = a.toNat := by rw [hs]; omega
    have e2 : (a * 10 + d * a.sign).toNat % 10 = d.toNat := by rw [hs]; omega
    have e0 := dec_big (u := (a * 10 + d * a.sign).toNat) (by rw [hs]; omega)
    rw [e1, e2] at e0
    exact e0.symm
theorem sq_ex {a : Int} (h : 0 ≤ a) : IsSq a (sqZ a) := by
  have key : ∀ n : Nat, ∃ r : Int, IsSq n r := by
    intro n
    induction n with
    | zero => exact ⟨0, by decide, by decide, by decide⟩
    | succ n ih =>
      obtain ⟨r, h0, h1, h2⟩ := ih
      by_cases c : (r + 1) * (r + 1) ≤ ((n + 1 : Nat) : Int)
      · refine ⟨r + 1, by omega, c, ?_⟩
        have : (r + 1 + 1) * (r + 1 + 1) = (r + 1) * (r + 1) + 2 * r + 3 := by grind
        omega
      · exact ⟨r, h0, by omega, by omega⟩
  obtain ⟨r, hr⟩ := key a.toNat
  rw [Int.toNat_of_nonneg h] at hr
  rw [sqZ_eq hr]; exact hr
theorem powE_ok {a n : Int} {k : Int} (h0 : 0 ≤ n) (hk : n ≤ k) (h : ((bl a.natAbs : Nat) + 1) * k ≤ 5000) : powE true a n = 0 := by
  rw [powE, if_pos rfl, if_neg (by omega), if_neg]
  rintro ⟨h1, h2⟩
  rw [Nat.div_lt_iff_lt_mul (by omega)] at h2
  have h3 : ((bl a.natAbs : Nat) : Int) * n ≤ ((bl a.natAbs : Nat) + 1) * k := Int.mul_le_mul (by omega) hk h0 (by omega)
  have h4 : ((n.toNat * bl a.natAbs : Nat) : Int) = (bl a.natAbs : Nat) * n := by
    rw [Int.natCast_mul, Int.toNat_of_nonneg h0, Int.mul_comm]
  omega
end Go.Proofs.YtebkelnibecmjaaDoor.NumA
namespace Go.Proofs.YtebkelnibecmjaaDoor.NumA
open Go.Lib
/-- Digit by digit, from the last one on: q is left, bk is written. -/
structure PrAt (V : Nat) (x : Nat × List UInt8) : Prop where
  pos : 0 < x.1 → decDigits V = decDigits x.1 ++ x.2.reverse
  nil : x.1 = 0 → decDigits V = x.2.reverse
theorem PrAt.start {V : Nat} (h : 0 < V) : PrAt V (V, []) := ⟨fun _ => by simp, fun e => by simp only at e; omega⟩
theorem PrAt.next {V q : Nat} {bk : List UInt8} (h : PrAt V (q, bk)) (hq : 0 < q) : PrAt V (q / 10, bk ++ [UInt8.ofNat (48 + q % 10)]) := by
  have h1 := h.pos hq
  simp only at h1
  refine ⟨fun hp => ?_, fun hz => ?_⟩
  · simp only at hp ⊢
    rw [h1, dec_big (u := q) (by omega)]; simp
  · simp only at hz ⊢
    rw [h1, dec_small (u := q) (by omega), show q % 10 = q by omega]; simp
theorem PrAt.len {V q : Nat} {bk : List UInt8} (h : PrAt V (q, bk)) : bk.length ≤ (decDigits V).length := by
  by_cases e : q = 0
  · rw [h.nil e]; simp
  · rw [h.pos (by simp only; omega)]; simp
theorem rev_get {bk : List UInt8} {i : Nat} (h : i < bk.length) : bk.getD (bk.length - 1 - i) 0 = bk.reverse.getD i 0 := by
  rw [List.getD_eq_getElem?_getD, List.getD_eq_getElem?_getD, List.getElem?_reverse h]
theorem put_byte {R : List UInt8} {i : Nat} (h : i < R.length) : (R.take i ++ List.replicate (R.length - i) 0).set i (R.getD i 0) = R.take (i + 1) ++ List.replicate (R.length - (i + 1)) 0 := by
  have hl : (R.take i).length = i := by rw [List.length_take]; omega
  rw [List.set_append_right _ _ (by omega), hl, Nat.sub_self, show R.length - i = (R.length - (i + 1)) + 1 by omega, List.replicate_succ, List.set_cons_zero, List.take_succ_eq_append_getElem h, List.getD_eq_getElem?_getD, List.getElem?_eq_getElem h, List.append_assoc]
  rfl
theorem dg_val {ds : List UInt8} {i : Nat} (h : i < ds.length) (hd : Digits ds) : numI (ds.take (i + 1)) = numI (ds.take i) * 10 + (((ds.getD i 0).toNat : Int) - 48) := by
  rw [numI_take_succ h]; unfold dg; omega
theorem nw_num {ds : List UInt8} (hd : Digits ds) : nw (numI ds) ≤ ds.length := by
  obtain ⟨b0, b1⟩ := numI_bd hd
  apply nw_le
  have h2 : (10 : Nat) ^ ds.length ≤ 4294967296 ^ ds.length := Nat.pow_le_pow_left (by decide) _
  have h4 : ((10 ^ ds.length : Nat) : Int) ≤ ((4294967296 ^ ds.length : Nat) : Int) := Int.ofNat_le.2 h2
  rw [Int.natCast_pow, Int.natCast_pow] at h4
  rw [Int.natAbs_of_nonneg b0]
  exact Int.lt_of_lt_of_le b1 h4
end Go.Proofs.YtebkelnibecmjaaDoor.NumA
